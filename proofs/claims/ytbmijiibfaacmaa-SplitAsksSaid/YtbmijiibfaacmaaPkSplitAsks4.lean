/- LawSplitAsks, part 4: whatever the input, the law comes out true: our texts, joined by a tool, without what the claim does not name. -/
import Derived.Test.YtbmijiibfaacmaaPkSplitAsks3
import Derived.SizedLaws
import Derived.ChangeSlices
import Derived.Below
import Derived.Test.YtbmijiibfaacmaaRows
import Derived.WalkKit
import Derived.ProofKit
import Derived.OpenShut
import Derived.ShutString
import Derived.ChangeOld
set_option maxRecDepth 100000
set_option linter.unusedVariables false
set_option linter.unusedSimpArgs false
namespace Go.Proofs.Ytbmijiibfaacmaa.Am
open Go
theorem rOne_at {k : Nat} {s : List Nat} (hk : s.length + 40 < k) (hs : By s) (hl : Sz s) {a : Nat} (ha : a < s.length) : g46 k s (a : Int) = some (oneAt s a) := by
 have hl' := hl
 unfold Sz at hl
 unfold g46 oneAt
 refine (jS (v := false) (fun j => by simp (disch := omega) only [↓reduceIte, ↓jn, gsL])).trans ?_
 refine iF rfl ?_
 obtain ⟨c, r, hc, hr, hm, hrl⟩ := dcons ha
 have c256 := hs c hm
 have nc := nthX (x := (a : Int)) rfl hc
 have ol := oneN_le (s.drop a)
 rw [List.length_drop] at ol
 refine bS (by (try simp (disch := omega) only [fwI]); exact nc) ?_
 by_cases h37 : c = 37
 ·subst h37
  refine iT rfl ?_
  have e : oneN (s.drop a) = (cmtN (s.drop a), 11) := by rw [hc]; rfl
  rw [e, if_neg (by rw [hc]; have := cmtN_pos r; show ¬ cmtN (37 :: r) = 0; omega)]
  exact rnote_l (by omega) hs hl' hc k a (by omega) (by omega) rfl (Nat.le_refl _)
 refine iF (dF (by omega)) ?_
 have out : ∀ (n kind : Nat), n ≤ s.length - a → (if decide ((n : Int) = 0) then some (tok0, (4 : Int)) else (subL s (some (a : Int)) (some (fW .i64 ((a : Int) + (n : Int))))).bind fun x14_6 => some ((⟨(kind : Int), x14_6, (a : Int)⟩ : S46), (0 : Int))) = some (if n = 0 then (tok0, 4) else (mkTok s (kind, a, n), 0)) := by
  intro n kind hn
  by_cases h0 : n = 0
  ·rw [if_pos h0]
   refine iT (dT (by omega)) rfl
  ·rw [if_neg h0]
   refine iF (dF (by omega)) ?_
   rw [fw_a (by omega) (by omega)]
   refine bS (by (try simp (disch := omega) only [fwI]); exact subMid (s := s) (i := a) (j := a + n) rfl rfl (by omega) (by omega)) ?_
   rw [List.drop_take, Nat.add_sub_cancel_left]; rfl
 have isD : ∀ _ : Unit, (∀ (j : Bool → Option (S46 × Int)), (if (decide ((c : Int) = 46)) then (if (decide (fW .i64 ((a : Int) + 1) = (s.length : Int))) then (j true) else ((nthS s (fW .i64 ((a : Int) + 1))).bind fun x1_12 => if (decide (x1_12 = 37)) then (j true) else ((g45 k s (fW .i64 ((a : Int) + 1))).bind fun x1_19 => j (decide (fW .i64 ((a : Int) + 1) < x1_19))))) else (j false)) = j (decide (c = 46) && dotN r)) := by
  intro _ j
  by_cases h46 : c = 46
  ·rw [decide_eq_true h46, Bool.true_and]
   refine iT (dT (by omega)) ?_
   rw [fw_s (by omega)]
   cases r with
   | nil =>
    simp only [List.length_nil] at hrl
    refine iT (dT (by omega)) rfl
   | cons d q =>
    simp only [List.length_cons] at hrl
    have nd := nthX (x := ((a + 1 : Nat) : Int)) rfl hr
    refine iF (dF (by omega)) ?_
    refine bS (by (try simp (disch := omega) only [fwI]); exact nd) ?_
    simp only [dotN]
    by_cases h37 : d = 37
    ·refine iT (dT (by omega)) ?_
     rw [decide_eq_true h37, Bool.or_true]
    ·refine iF (dF (by omega)) ?_
     have rb := rblank_at (k := k) (by omega) hs hl' (a := a + 1) (by omega)
     rw [hr] at rb
     refine bS (by (try simp (disch := omega) only [fwI]); exact rb) ?_
     rw [decide_eq_false h37, Bool.or_false]
     refine congrArg j ?_
     by_cases hb : blkN d = true
     ·have e : skipN (d :: q) = skipN q + 1 := by simp only [skipN, hb, if_true]
      rw [hb]; exact decide_eq_true (by omega)
     ·have e : skipN (d :: q) = 0 := by simp only [skipN, if_neg hb]
      rw [Bool.eq_false_iff.2 hb]; exact decide_eq_false (by omega)
  ·rw [decide_eq_false h46, Bool.false_and]
   refine iF (dF (by omega)) rfl
 have eo : oneN (s.drop a) = if c = 46 ∧ dotN r = true then (1, 10) else if c = 39 then (qtdN (s.drop a), 1) else if c = 34 then (qtdN (s.drop a), 6) else if c = 36 then (chrN (s.drop a), 5) else if c = 63 then (macN (s.drop a), 7)
  else if begN c = 3 then numN (s.drop a) else if begN c = 1 ∨ begN c = 2 then (innN (s.drop a), if rsvN ((s.drop a).take (innN (s.drop a))) then 8 else begN c) else (lngN (s.drop a), 9) := by
  rw [hc]; simp only [oneN]; rw [if_neg h37]
 refine (jS (v := decide (c = 46) && dotN r) (fun j => isD () j)).trans ?_
 clear isD
 have il := innN_le (s.drop a)
 rw [List.length_drop] at il
 by_cases h46 : c = 46 ∧ dotN r = true
 ·rw [if_pos h46] at eo
  rw [eo] at ol ⊢
  obtain ⟨h1, h2⟩ := h46
  rw [decide_eq_true h1, h2]
  refine (jS (v := (((10 : Nat) : Int), ((1 : Nat) : Int))) (fun j => iT (Bool.and_self true) (congrArg j (Prod.ext rfl rfl)))).trans ?_
  exact out 1 10 ol
 ·rw [if_neg h46] at eo
  have : (decide (c = 46) && dotN r) = false := by
   rw [Bool.and_eq_false_iff]
   by_cases h : c = 46
   ·right
    cases hd : dotN r with
    | true => exact absurd ⟨h, hd⟩ h46
    | false => rfl
   ·left; exact decide_eq_false h
  rw [this]
  have bg := begins_at58 k c256
  have nodig : (c = 39 ∨ c = 34 ∨ c = 36 ∨ c = 63) → begN c = 0 := by rintro (rfl | rfl | rfl | rfl) <;> decide
  by_cases h39 : c = 39
  ·rw [if_pos h39] at eo
   rw [eo] at ol ⊢
   subst h39
   refine (jS (v := (((1 : Nat) : Int), (qtdN (s.drop a) : Int))) (fun j => ?_)).trans ?_
   ·refine iF rfl ?_
    refine bS (by (try simp (disch := omega) only [fwI]); exact bg) ?_
    refine iF rfl ?_
    refine bS (by (try simp (disch := omega) only [fwI]); exact bg) ?_
    refine iF rfl ?_
    refine iT rfl ?_
    refine bS (by (try simp (disch := omega) only [fwI]); exact rquoted_at (by omega) hs hl' hc (.inl rfl)) ?_
    rfl
   ·exact out _ 1 ol
  rw [if_neg h39] at eo
  by_cases h34 : c = 34
  ·rw [if_pos h34] at eo
   rw [eo] at ol ⊢
   subst h34
   refine (jS (v := (((6 : Nat) : Int), (qtdN (s.drop a) : Int))) (fun j => ?_)).trans ?_
   ·refine iF rfl ?_
    refine bS (by (try simp (disch := omega) only [fwI]); exact bg) ?_
    refine iF rfl ?_
    refine bS (by (try simp (disch := omega) only [fwI]); exact bg) ?_
    refine iF rfl ?_
    refine iF rfl ?_
    refine iT rfl ?_
    refine bS (by (try simp (disch := omega) only [fwI]); exact rquoted_at (by omega) hs hl' hc (.inr rfl)) ?_
    rfl
   ·exact out _ 6 ol
  rw [if_neg h34] at eo
  by_cases h36 : c = 36
  ·rw [if_pos h36] at eo
   rw [eo] at ol ⊢
   subst h36
   refine (jS (v := (((5 : Nat) : Int), (chrN (s.drop a) : Int))) (fun j => ?_)).trans ?_
   ·refine iF rfl ?_
    refine bS (by (try simp (disch := omega) only [fwI]); exact bg) ?_
    refine iF rfl ?_
    refine bS (by (try simp (disch := omega) only [fwI]); exact bg) ?_
    refine iF rfl ?_
    refine iF rfl ?_
    refine iF rfl ?_
    refine iT rfl ?_
    refine bS (by (try simp (disch := omega) only [fwI]); exact rchar_at (by omega) hs hl' hc) ?_
    rfl
   ·exact out _ 5 ol
  rw [if_neg h36] at eo
  by_cases h63 : c = 63
  ·rw [if_pos h63] at eo
   rw [eo] at ol ⊢
   subst h63
   have mac : ∀ (n : Nat) (t : List Nat) (j : Int × Int → Option (S46 × Int)), a + n ≤ s.length → s.drop (a + n) = t →
    jn (fun (z23 : Bool) => if z23 then ((g60 k s ((a + n : Nat) : Int)).bind fun x13_2 => j (7, fW .i64 (x13_2 - (a : Int)))) else (j (0, 0))) (fun j23 => if (decide (((a + n : Nat) : Int) < (s.length : Int))) then ((nthS s ((a + n : Nat) : Int)).bind fun x12_7 => (g64 k x12_7).bind fun x12_8 => if x12_8 then (j23 true) else ((nthS s ((a + n : Nat) : Int)).bind fun x12_12 => j23 (decide (x12_12 = 95)))) else (j23 false)) = j (if macB t then (7, (mac1 n t : Int)) else (0, 0)) := by
    intro n t j hn ht
    rcases Nat.lt_or_ge (a + n) s.length with h | h
    ·obtain ⟨d, q, hd, hq, hdm, hql⟩ := dcons h
     rw [ht] at hd
     subst hd
     have nd := nthX (x := ((a + n : Nat) : Int)) rfl ht
     have lt := letter_at k (hs d hdm)
     have lb : (letN d || decide (d = 95)) = decide (begN d = 1 ∨ begN d = 2) := by
      have w := byteAll (f := fun d => (letN d || decide (d = 95)) == decide (begN d = 1 ∨ begN d = 2)) (by decide +kernel) (hs d hdm)
      exact eq_of_beq w
     refine (jS (v := decide (begN d = 1 ∨ begN d = 2)) (fun j23 => ?_)).trans ?_
     ·refine iT (dT (by omega)) ?_
      refine bS (by (try simp (disch := omega) only [fwI]); exact nd) ?_
      refine bS (by (try simp (disch := omega) only [fwI]); exact lt) ?_
      rw [← lb]
      cases letN d with
      | true => rfl
      | false =>
       refine iF rfl ?_
       refine bS (by (try simp (disch := omega) only [fwI]); exact nd) ?_
       rw [Bool.false_or]
       refine congrArg j23 ?_
       rw [Bool.eq_iff_iff]; simp; omega
     ·by_cases hb : begN d = 1 ∨ begN d = 2
      ·have mb : macB (d :: q) = true := decide_eq_true hb
       rw [decide_eq_true hb, mb]
       refine iT rfl ?_
       have ri := rinner_at (k := k) (by omega) hs hl' (a := a + n) hn
       rw [ht] at ri
       refine bS (by (try simp (disch := omega) only [fwI]); exact ri) ?_
       have il := innN_le (d :: q)
       simp only [List.length_cons] at il
       rw [fwI (by omega) (by omega)]
       simp only [mac1, if_pos hb, if_true]
       refine congrArg j (Prod.ext rfl ?_)
       show ((_ : Nat) : Int) - (a : Int) = ((_ : Nat) : Int)
       omega
      ·have mb : macB (d :: q) = false := decide_eq_false hb
       rw [decide_eq_false hb, mb]
       rfl
    ·rw [dnil h] at ht
     subst ht
     refine (jS (v := false) (fun j23 => ?_)).trans ?_
     ·refine iF (dF (by omega)) rfl
     ·rfl
   have fin : ∀ (n : Nat) (t : List Nat) (X : (Int × Int → Option (S46 × Int)) → Option (S46 × Int)), macN (s.drop a) = mac1 n t → (∀ j, X j = j (if macB t then (7, (mac1 n t : Int)) else (0, 0))) →
    jn (fun (z20 : Int × Int) => if (decide (z20.2 = 0)) then (some ((⟨(0 : Int), ([] : List Nat), (0 : Int)⟩ : S46), (4 : Int))) else ((subL s (some (a : Int)) (some (fW .i64 ((a : Int) + z20.2)))).bind fun x14_6 => some ((⟨z20.1, x14_6, (a : Int)⟩ : S46), (0 : Int)))) X = some (if (macN (s.drop a), 7).1 = 0 then (tok0, 4) else (mkTok s ((macN (s.drop a), 7).2, a, (macN (s.drop a), 7).1), 0)) := by
    intro n t X hm hX
    rw [hm] at ol ⊢
    cases h : macB t with
    | false =>
     rw [h] at hX
     have m0 : mac1 n t = 0 := by
      cases t with
      | nil => rfl
      | cons d q => simp only [mac1, if_neg (of_decide_eq_false h)]
     refine (jS hX).trans ?_
     rw [m0]; rfl
    | true =>
     rw [h] at hX
     refine (jS hX).trans ?_
     exact out _ 7 ol
   cases r with
   | nil =>
    simp only [List.length_nil] at hrl
    refine fin 1 [] _ (by rw [hc]; rfl) (fun j => ?_)
    refine iF rfl ?_
    refine bS (by (try simp (disch := omega) only [fwI]); exact bg) ?_
    refine iF rfl ?_
    refine bS (by (try simp (disch := omega) only [fwI]); exact bg) ?_
    refine iF rfl ?_
    refine iF rfl ?_
    refine iF rfl ?_
    refine iF rfl ?_
    refine iT rfl ?_
    refine (jS (v := false) (fun j => ?_)).trans ?_
    ·refine iF (dF (by rw [fw_s (by omega)]; omega)) rfl
    ·refine (jS (v := ((a + 1 : Nat) : Int)) (fun j => ?_)).trans ?_
     ·refine iF rfl ?_
      rw [fw_s (by omega)]
     ·exact mac 1 [] j (by omega) hr
   | cons d q =>
    simp only [List.length_cons] at hrl
    have nd := nthX (x := ((a + 1 : Nat) : Int)) rfl hr
    by_cases hd : d = 63
    ·refine fin 2 q _ (by rw [hc]; simp only [macN, hd, if_true]) (fun j => ?_)
     refine iF rfl ?_
     refine bS (by (try simp (disch := omega) only [fwI]); exact bg) ?_
     refine iF rfl ?_
     refine bS (by (try simp (disch := omega) only [fwI]); exact bg) ?_
     refine iF rfl ?_
     refine iF rfl ?_
     refine iF rfl ?_
     refine iF rfl ?_
     refine iT rfl ?_
     refine (jS (v := true) (fun j => ?_)).trans ?_
     ·rw [fw_s (by omega)]
      refine iT (dT (by omega)) ?_
      refine bS (by (try simp (disch := omega) only [fwI]); exact nd) ?_
      rw [dT (by omega)]
     ·refine (jS (v := ((a + 2 : Nat) : Int)) (fun j => ?_)).trans ?_
      ·refine iT rfl ?_
       rw [fw_s (by omega), fw_s (by omega)]
      ·exact mac 2 q j (by omega) (drop_step hr)
    ·refine fin 1 (d :: q) _ (by rw [hc]; simp only [macN, hd, if_false]) (fun j => ?_)
     refine iF rfl ?_
     refine bS (by (try simp (disch := omega) only [fwI]); exact bg) ?_
     refine iF rfl ?_
     refine bS (by (try simp (disch := omega) only [fwI]); exact bg) ?_
     refine iF rfl ?_
     refine iF rfl ?_
     refine iF rfl ?_
     refine iF rfl ?_
     refine iT rfl ?_
     refine (jS (v := false) (fun j => ?_)).trans ?_
     ·rw [fw_s (by omega)]
      refine iT (dT (by omega)) ?_
      refine bS (by (try simp (disch := omega) only [fwI]); exact nd) ?_
      rw [dF (by omega)]
     ·refine (jS (v := ((a + 1 : Nat) : Int)) (fun j => ?_)).trans ?_
      ·refine iF rfl ?_
       rw [fw_s (by omega)]
      ·exact mac 1 (d :: q) j (by omega) hr
  rw [if_neg h63] at eo
  by_cases h3 : begN c = 3
  ·rw [if_pos h3] at eo
   rw [eo] at ol ⊢
   refine jC fun j => ?_
   refine iF rfl ?_
   refine bS (by (try simp (disch := omega) only [fwI]); exact bg) ?_
   refine iT (dT (by omega)) ?_
   refine bS (by (try simp (disch := omega) only [fwI]); exact rnumber_at (by omega) hs hl' (a := a) (by omega)) ?_
   by_cases h0 : (numN (s.drop a)).1 = 0
   ·rw [if_pos h0]
   ·rw [if_neg h0]
  rw [if_neg h3] at eo
  by_cases h12 : begN c = 1 ∨ begN c = 2
  ·rw [if_pos h12] at eo
   rw [eo] at ol ⊢
   refine (jS (v := (((if rsvN ((s.drop a).take (innN (s.drop a))) then 8 else begN c : Nat) : Int), (innN (s.drop a) : Int))) (fun j => ?_)).trans ?_
   ·refine iF rfl ?_
    refine bS (by (try simp (disch := omega) only [fwI]); exact bg) ?_
    refine iF (dF (by omega)) ?_
    refine bS (by (try simp (disch := omega) only [fwI]); exact bg) ?_
    refine iT (dT (by omega)) ?_
    refine bS (by (try simp (disch := omega) only [fwI]); exact bg) ?_
    refine bS (by (try simp (disch := omega) only [fwI]); exact rinner_at (k := k) (by omega) hs hl' (a := a) (by omega)) ?_
    rw [fw_d (n := a + innN (s.drop a)) (m := a) (by omega) (by omega), Nat.add_sub_cancel_left, fw_a (by omega) (by omega)]
    refine bS (by (try simp (disch := omega) only [fwI]); exact subMid (s := s) (i := a) (j := a + innN (s.drop a)) rfl rfl (by omega) (by omega)) ?_
    rw [List.drop_take, Nat.add_sub_cancel_left]
    refine bS (by (try simp (disch := omega) only [fwI]); exact rreserved_at (by omega) _) ?_
    cases rsvN ((s.drop a).take (innN (s.drop a))) <;> rfl
   ·exact out _ _ il
  ·rw [if_neg h12] at eo
   rw [eo] at ol ⊢
   refine (jS (v := (((9 : Nat) : Int), (lngN (s.drop a) : Int))) (fun j => ?_)).trans ?_
   ·refine iF rfl ?_
    refine bS (by (try simp (disch := omega) only [fwI]); exact bg) ?_
    refine iF (dF (by omega)) ?_
    refine bS (by (try simp (disch := omega) only [fwI]); exact bg) ?_
    refine iF (dF (by have := begN_le c; omega)) ?_
    refine iF (dF (by omega)) ?_
    refine iF (dF (by omega)) ?_
    refine iF (dF (by omega)) ?_
    refine iF (dF (by omega)) ?_
    refine bS (by (try simp (disch := omega) only [fwI]); exact rlongest_at (k := k) (by omega) hl' (a := a) (by omega)) ?_
    rfl
   ·exact out _ 9 ol
end Go.Proofs.Ytbmijiibfaacmaa.Am
set_option maxRecDepth 100000
set_option linter.unusedVariables false
set_option linter.unusedSimpArgs false
namespace Go.Proofs.Ytbmijiibfaacmaa.Am
open Go
theorem rscan_l (k : Nat) {s : List Nat} (hk : s.length + 40 < k) (hs : By s) (hl : Sz s) (h16 : s.length ≤ 65536) : ∀ (d f a : Nat) (acc : List S46), s.length < a + d → d < f → a ≤ s.length → acc.length ≤ a → g28_l5 k s f ((a + skipN (s.drop a) : Nat) : Int) acc = some (match toksN s d a with | some l => (acc ++ l.map (mkTok s), 0) | none => ([], 4))
 | 0, f, a, acc, h, hf, ha, hacc => by omega
 | d + 1, f, a, acc, h, hf, ha, hacc => by
  have hl' := hl
  unfold Sz at hl
  obtain ⟨f, rfl⟩ : ∃ f', f = f' + 1 := ⟨f - 1, by omega⟩
  rw [g28_l5_s]
  have sl := skipN_le (s.drop a)
  rw [List.length_drop] at sl
  unfold toksN
  have hab : a ≤ a + skipN (s.drop a) := Nat.le_add_right _ _
  have hbl : a + skipN (s.drop a) ≤ s.length := by omega
  generalize a + skipN (s.drop a) = b at *
  by_cases hb : s.length ≤ b
  ·rw [if_pos hb]
   refine iF (dF (by omega)) ?_
   simp only [List.map_nil, List.append_nil]
  ·rw [if_neg hb]
   refine iT (dT (by omega)) ?_
   refine bS (by (try simp (disch := omega) only [fwI]); exact rOne_at hk hs hl' (a := b) (by omega)) ?_
   have ol := oneN_le (s.drop b)
   rw [List.length_drop] at ol
   unfold oneAt
   by_cases h0 : (oneN (s.drop b)).1 = 0
   ·rw [if_pos h0, if_pos h0]; rfl
   ·rw [if_neg h0, if_neg h0]
    refine iF rfl ?_
    have ap : appS 32 acc [mkTok s ((oneN (s.drop b)).2, b, (oneN (s.drop b)).1)] = some (acc ++ [mkTok s ((oneN (s.drop b)).2, b, (oneN (s.drop b)).1)]) := by
     unfold appS
     rw [if_pos (by simp only [List.length_cons, List.length_nil]; omega)]
    refine bS (by (try simp (disch := omega) only [fwI]); exact ap) ?_
    have tl : ((s.drop b).take (oneN (s.drop b)).1).length = (oneN (s.drop b)).1 := by
     rw [List.length_take, List.length_drop]; omega
    show (g45 k s (fW .i64 ((b : Int) + (((s.drop b).take (oneN (s.drop b)).1).length : Int)))).bind _ = _
    rw [tl, fw_a (by omega) (by omega)]
    have hpos : 0 < (oneN (s.drop b)).1 := Nat.pos_of_ne_zero h0
    refine bS (by (try simp (disch := omega) only [fwI]); exact rblank_at (by omega) hs hl' (a := b + (oneN (s.drop b)).1) (by omega)) ?_
    refine (rscan_l k hk hs hl' h16 d f (b + (oneN (s.drop b)).1) _ (by omega) (by omega) (by omega) (by rw [List.length_append]; simp only [List.length_cons, List.length_nil]; omega)).trans ?_
    cases toksN s d (b + (oneN (s.drop b)).1) with
    | none => rfl
    | some l => simp only [Option.map_some, List.map_cons, List.append_assoc, List.singleton_append]
theorem rscan_at {k : Nat} {s : List Nat} (hk : s.length + 40 < k) (hs : By s) (hl : Sz s) : g28 k s = some (scanN s) := by
 have hl' := hl
 unfold Sz at hl
 unfold g28 scanN
 by_cases h16 : 65536 < s.length
 ·rw [if_pos h16]
  refine iT (dT (by omega)) rfl
 ·rw [if_neg h16]
  refine iF (dF (by omega)) ?_
  refine bS (by (try simp (disch := omega) only [fwI]); exact valid_at44 (by omega) hs hl') ?_
  cases hv : vld s.length s with
  | false => rfl
  | true =>
   refine iF rfl ?_
   have rb := rblank_at (k := k) (by omega) hs hl' (a := 0) (by omega)
   refine bS (by (try simp (disch := omega) only [fwI]); exact rb) ?_
   refine (rscan_l k hk hs hl' (by omega) (s.length + 1) k 0 [] (by omega) (by omega) (by omega) (Nat.le_refl _)).trans ?_
   simp only [Bool.true_eq_false, if_false]
   cases toksN s (s.length + 1) 0 <;> rfl
end Go.Proofs.Ytbmijiibfaacmaa.Am
set_option maxRecDepth 100000
set_option linter.unusedVariables false
namespace Go.Proofs.Ytbmijiibfaacmaa.Am
noncomputable section
open Go
def X38 : Fx Int := ⟨Try.prog, cx, Try.f38, fun r => .int .i64 r, 0, fun _ => H0, cxTi, cxOrd⟩
def g38 (k : Nat) (a0 : S46) : Option Int :=
 some (fW .i64 (a0.f2 + (a0.f1.length : Int)))
theorem g38_ok (k : Nat) (a0 : S46) (r : Int) (h : g38 k a0 = some r) : PureOk Try.prog 38 [.agg [.int .i64 a0.f0, .str a0.f1, .int .i64 a0.f2]] (.int .i64 r) := by
 refine pure_of X38 (fun _ => rfl) Try.func38 (by decide +kernel) (by kernel_rfl) (t := g38 k a0) ?_ h
 unfold g38
 refine oE (eE := [(0, .agg [.int .i64 a0.f0, .str a0.f1, .int .i64 a0.f2])]) (by kernel_rfl) ?_
 let E1 : Env := [(2, .int .i64 (fW .i64 (a0.f2 + (a0.f1.length : Int)))), (8, .int .i64 (fW .i64 (a0.f2 + (a0.f1.length : Int)))), (7, .int .i64 (a0.f1.length : Int)), (6, .str a0.f1), (5, .ptr 0 3 1), (4, .int .i64 a0.f2), (3, .ptr 0 3 2), (2, .int .i64 0), (1, .ptr 0 3 0), (0, .agg [.int .i64 a0.f0, .str a0.f1, .int .i64 a0.f2])]
 refine oR 16 (p' := .fin) (eE := E1) (H' := (mkH [⟨[.int .i64 a0.f0, .str a0.f1, .int .i64 a0.f2], 0, false⟩])) (by kernel_rfl) ?_
 exact oT (r := (fW .i64 (a0.f2 + (a0.f1.length : Int)))) (xs := [.int .i64 (fW .i64 (a0.f2 + (a0.f1.length : Int)))]) (v := .int .i64 (fW .i64 (a0.f2 + (a0.f1.length : Int)))) (by kernel_rfl) (by kernel_rfl) (by kernel_rfl) (.pures (by kernel_rfl)) (by kernel_rfl)
end
end Go.Proofs.Ytbmijiibfaacmaa.Am
set_option maxRecDepth 100000
set_option linter.unusedVariables false
namespace Go.Proofs.Ytbmijiibfaacmaa.Am
noncomputable section
open Go
def X66 : Fx Bool := ⟨Try.prog, cx, Try.f66, fun r => .bool r, 0, fun _ => H0, cxTi, cxOrd⟩
def g66p0 : Pt := nav [0] (bodyAt Try.f66)
def g66p1 : Pt := nav [0, 0, 0] g66p0
def g66 (k : Nat) (a0 : (List Nat)) (a1 : S46) : Option Bool :=
 if (decide (0 ≤ a1.f2)) then (if (decide (a1.f2 ≤ (a0.length : Int))) then (some (decide ((a1.f1.length : Int) ≤ fW .i64 ((a0.length : Int) - a1.f2)))) else (some false)) else (some false)
theorem g66_ok (k : Nat) (a0 : (List Nat)) (a1 : S46) (r : Bool) (h : g66 k a0 a1 = some r) : PureOk Try.prog 66 [.str a0, .agg [.int .i64 a1.f0, .str a1.f1, .int .i64 a1.f2]] (.bool r) := by
 refine pure_of X66 (fun _ => rfl) Try.func66 (by decide +kernel) (by kernel_rfl) (t := g66 k a0 a1) ?_ h
 unfold g66
 refine oE (eE := [(0, .str a0), (1, .agg [.int .i64 a1.f0, .str a1.f1, .int .i64 a1.f2])]) (by kernel_rfl) ?_
 let E1 : Env := [(8, .bool (decide (0 ≤ a1.f2))), (7, .bool (decide (0 ≤ a1.f2))), (6, .int .i64 a1.f2), (5, .ptr 0 3 2), (4, .bool false), (3, .ptr 0 3 0), (0, .str a0), (1, .agg [.int .i64 a1.f0, .str a1.f1, .int .i64 a1.f2])]
 refine oR 11 (p' := (atN 4 (ctl1 g66p1))) (eE := E1) (H' := (mkH [⟨[.int .i64 a1.f0, .str a1.f1, .int .i64 a1.f2], 0, false⟩])) (by kernel_rfl) ?_
 refine oS 8 (b := decide (0 ≤ a1.f2)) (by kernel_rfl) (fun hb => ?_) (fun hb => ?_)
 ·let E2 : Env := ((15, .bool (decide (a1.f2 ≤ (a0.length : Int)))) :: (14, .bool (decide (a1.f2 ≤ (a0.length : Int)))) :: (13, .bool (decide (a1.f2 ≤ (a0.length : Int)))) :: (12, .int .i64 (a0.length : Int)) :: (11, .str a0) :: (10, .int .i64 a1.f2) :: (9, .ptr 0 3 2) :: (8, .bool true) :: E1)
  refine oR 7 (p' := (atN 11 (ctl1 g66p1))) (eE := E2) (H' := (mkH [⟨[.int .i64 a1.f0, .str a1.f1, .int .i64 a1.f2], 0, false⟩])) (by kernel_rfl) ?_
  refine oS 15 (b := decide (a1.f2 ≤ (a0.length : Int))) (by kernel_rfl) (fun hb => ?_) (fun hb => ?_)
  ·let E3 : Env := ((4, .bool (decide ((a1.f1.length : Int) ≤ fW .i64 ((a0.length : Int) - a1.f2)))) :: (25, .bool (decide ((a1.f1.length : Int) ≤ fW .i64 ((a0.length : Int) - a1.f2)))) :: (24, .bool (decide ((a1.f1.length : Int) ≤ fW .i64 ((a0.length : Int) - a1.f2)))) :: (23, .int .i64 (fW .i64 ((a0.length : Int) - a1.f2))) :: (22, .int .i64 a1.f2) :: (21, .ptr 0 3 2) :: (20, .int .i64 (a0.length : Int)) :: (19, .str a0) :: (18, .int .i64 (a1.f1.length : Int)) :: (17, .str a1.f1) :: (16, .ptr 0 3 1) :: (15, .bool true) :: E2)
   refine oR 13 (p' := .fin) (eE := E3) (H' := (mkH [⟨[.int .i64 a1.f0, .str a1.f1, .int .i64 a1.f2], 0, false⟩])) (by kernel_rfl) ?_
   exact oT (r := (decide ((a1.f1.length : Int) ≤ fW .i64 ((a0.length : Int) - a1.f2)))) (xs := [.bool (decide ((a1.f1.length : Int) ≤ fW .i64 ((a0.length : Int) - a1.f2)))]) (v := .bool (decide ((a1.f1.length : Int) ≤ fW .i64 ((a0.length : Int) - a1.f2)))) (by kernel_rfl) (by kernel_rfl) (by kernel_rfl) (.pures (by kernel_rfl)) (by kernel_rfl)
  ·let E4 : Env := ((4, .bool false) :: (25, .bool false) :: (24, .tuple []) :: (23, .tuple []) :: (22, .tuple []) :: (21, .tuple []) :: (20, .tuple []) :: (19, .tuple []) :: (18, .tuple []) :: (17, .tuple []) :: (16, .tuple []) :: (15, .bool false) :: E2)
   refine oR 13 (p' := .fin) (eE := E4) (H' := (mkH [⟨[.int .i64 a1.f0, .str a1.f1, .int .i64 a1.f2], 0, false⟩])) (by kernel_rfl) ?_
   exact oT (r := false) (xs := [.bool false]) (v := .bool false) (by kernel_rfl) (by kernel_rfl) (by kernel_rfl) (.pures (by kernel_rfl)) (by kernel_rfl)
 ·let E5 : Env := ((4, .bool false) :: (25, .bool false) :: (24, .tuple []) :: (23, .tuple []) :: (22, .tuple []) :: (21, .tuple []) :: (20, .tuple []) :: (19, .tuple []) :: (18, .tuple []) :: (17, .tuple []) :: (16, .tuple []) :: (15, .bool false) :: (14, .bool false) :: (13, .tuple []) :: (12, .tuple []) :: (11, .tuple []) :: (10, .tuple []) :: (9, .tuple []) :: (8, .bool false) :: E1)
  refine oR 20 (p' := .fin) (eE := E5) (H' := (mkH [⟨[.int .i64 a1.f0, .str a1.f1, .int .i64 a1.f2], 0, false⟩])) (by kernel_rfl) ?_
  exact oT (r := false) (xs := [.bool false]) (v := .bool false) (by kernel_rfl) (by kernel_rfl) (by kernel_rfl) (.pures (by kernel_rfl)) (by kernel_rfl)
end
end Go.Proofs.Ytbmijiibfaacmaa.Am
set_option maxRecDepth 100000
set_option linter.unusedVariables false
namespace Go.Proofs.Ytbmijiibfaacmaa.Am
noncomputable section
open Go
def X49 : Fx Int := ⟨Try.prog, cx, Try.f49, fun r => .int .i64 r, 0, fun _ => H0, cxTi, cxOrd⟩
def X49f67_0 (a_0 : Int) (b_1 : Int) : Fx Int := ⟨Try.prog, cx, Try.f67, fun r => .tuple [], 1, fun r => (mkH [⟨[.int .i64 r], 1, false⟩]), cxTi, cxOrd⟩
def g49f67_0p0 : Pt := nav [0] (bodyAt Try.f67)
def g49f67_0p1 : Pt := nav [0, 0] g49f67_0p0
def g49f67_0 (k : Nat) (a_0 : Int) (b_1 : Int) : Option Int :=
 if (decide (a_0 = 10)) then (some (fW .i64 (b_1 + 1))) else (some b_1)
theorem g49f67_0_ok (k : Nat) (a_0 : Int) (b_1 : Int) (r : Int) (h : g49f67_0 k a_0 b_1 = some r) : CallV Try.prog 67 [.int .u8 a_0, .ptr 0 1 0] (mkH [⟨[.int .i64 b_1], 1, false⟩]) (.tuple []) (mkH [⟨[.int .i64 r], 1, false⟩]) := by
 refine callM_of (X49f67_0 a_0 b_1) Try.func67 (by kernel_rfl) (by kernel_rfl) rfl (t := g49f67_0 k a_0 b_1) ?_ h
 unfold g49f67_0
 refine oE (eE := [(0, .int .u8 a_0), (1, .ptr 0 1 0)]) (by kernel_rfl) ?_
 refine oR 5 (p' := g49f67_0p1) (eE := [(4, .bool (decide (a_0 = 10))), (3, .int .u8 a_0), (0, .int .u8 a_0), (1, .ptr 0 1 0)]) (H' := (mkH [⟨[.int .i64 b_1], 1, false⟩])) (by kernel_rfl) ?_
 refine oS 4 (b := decide (a_0 = 10)) (by kernel_rfl) (fun hb => ?_) (fun hb => ?_)
 ·let E1 : Env := [(6, .int .i64 (fW .i64 (b_1 + 1))), (5, .int .i64 b_1), (4, .bool true), (4, .bool (decide (a_0 = 10))), (3, .int .u8 a_0), (0, .int .u8 a_0), (1, .ptr 0 1 0)]
  refine oR 6 (p' := .fin) (eE := E1) (H' := (mkH [⟨[.int .i64 (fW .i64 (b_1 + 1))], 1, false⟩])) (by kernel_rfl) ?_
  refine oK [] (eE := []) (by kernel_rfl) ?_
  exact ok_retM (r := (fW .i64 (b_1 + 1))) (xs := []) (by kernel_rfl) (by kernel_rfl) (by kernel_rfl) (by kernel_rfl)
 ·let E2 : Env := [(4, .bool false), (4, .bool (decide (a_0 = 10))), (3, .int .u8 a_0), (0, .int .u8 a_0), (1, .ptr 0 1 0)]
  refine oR 2 (p' := .fin) (eE := E2) (H' := (mkH [⟨[.int .i64 b_1], 1, false⟩])) (by kernel_rfl) ?_
  refine oK [] (eE := []) (by kernel_rfl) ?_
  exact ok_retM (r := b_1) (xs := []) (by kernel_rfl) (by kernel_rfl) (by kernel_rfl) (by kernel_rfl)
def g49p0 : Pt := nav [0] (bodyAt Try.f49)
def g49p1 : Pt := nav [0, 0, 0, 0] g49p0
def g49p2 : Pt := nav [0] g49p1
def g49p4 : Pt := nav [2, 0, 0] g49p2
def g49p6 : Pt := nav [0, 0, 0] g49p4
def g49p7 : Pt := nav [0, 0, 0, 0] g49p6
def g49p8 : Pt := nav [0, 0, 0, 0] g49p7
def g49p9 : Pt := nav [0, 0, 0] g49p8
def g49p10 : Pt := nav [0, 0] g49p9
def g49p11 : Pt := nav [1, 0, 0, 0] g49p10
def g49p13 : Pt := nav [0, 0] g49p11
def g49_l5 (k : Nat)  (a0 : (List Nat)) (a1 : (List S46)) (a2 : Int) (n : Nat) : Int → Int → Option Int :=
 Nat.rec (motive := fun _ => Int → Int → Option Int) (fun _ _ => none) (fun _ ih => fun (y5_0 : Int) (y5_1 : Int) => (nthL a1 a2).bind fun x2_3 => if (decide (y5_0 < x2_3.f2)) then ((nthS a0 y5_0).bind fun x3_3 => (g49f67_0 k x3_3 y5_1).bind fun x3_4 => ih (fW .i64 (y5_0 + 1)) x3_4) else (some y5_1)) n
theorem g49_l5_s (k : Nat)  (a0 : (List Nat)) (a1 : (List S46)) (a2 : Int) (n : Nat) (y5_0 : Int) (y5_1 : Int) : g49_l5 k a0 a1 a2 (n + 1) y5_0 y5_1 = ((nthL a1 a2).bind fun x2_3 => if (decide (y5_0 < x2_3.f2)) then ((nthS a0 y5_0).bind fun x3_3 => (g49f67_0 k x3_3 y5_1).bind fun x3_4 => (g49_l5 k a0 a1 a2 n) (fW .i64 (y5_0 + 1)) x3_4) else (some y5_1)) := rfl
theorem g49_l5_ok (k : Nat)  (a0 : (List Nat)) (a1 : (List S46)) (a2 : Int)  : ∀ (n : Nat) (y5_0 : Int) (y5_1 : Int), Ok X49 g49p8 [(0, .str a0), (1, .vec (a1).length 3 ((a1).flatMap e47)), (2, .int .i64 a2), (7, .ptr 0 1 0), (8, .func 67 [] [.ptr 0 1 0]), (9, .int .i64 y5_0)] (mkH [⟨[.int .i64 y5_1], 1, false⟩]) (g49_l5 k a0 a1 a2 n y5_0 y5_1)
 | 0, _, _ => ok_none
 | n + 1, y5_0, y5_1 => by
  have ih := g49_l5_ok k a0 a1 a2 n
  rw [g49_l5_s]
  refine ok_ent (p' := nav [0] g49p8) (by kernel_rfl) ?_
  let E3 : Env := [(60, .int .i64 a2), (59, .vec (a1).length 3 ((a1).flatMap e47)), (58, .int .i64 y5_0), (0, .str a0), (1, .vec (a1).length 3 ((a1).flatMap e47)), (2, .int .i64 a2), (7, .ptr 0 1 0), (8, .func 67 [] [.ptr 0 1 0]), (9, .int .i64 y5_0)]
  refine oR 6 (p' := (atN 3 (ctl1 g49p9))) (eE := E3) (H' := (mkH [⟨[.int .i64 y5_1], 1, false⟩])) (by kernel_rfl) ?_
  refine oH (fun (x2_3 : S46) => (.vptr [.int .i64 x2_3.f0, .str x2_3.f1, .int .i64 x2_3.f2], (mkH [⟨[.int .i64 y5_1], 1, false⟩]))) (atN 4 (ctl1 g49p9)) (fun x2_3 => ((61, .vptr [.int .i64 x2_3.f0, .str x2_3.f1, .int .i64 x2_3.f2]) :: E3)) (vidxH (sz := 3) e47_len (by kernel_rfl)) (fun _ => by kernel_rfl) (fun x2_3 hx2_3 => ?_)
  refine oR 4 (p' := g49p10) (eE := ((64, .bool (decide (y5_0 < x2_3.f2))) :: (63, .int .i64 x2_3.f2) :: (62, .vptr [.int .i64 x2_3.f2]) :: (61, .vptr [.int .i64 x2_3.f0, .str x2_3.f1, .int .i64 x2_3.f2]) :: E3)) (H' := (mkH [⟨[.int .i64 y5_1], 1, false⟩])) (by kernel_rfl) ?_
  refine oS 64 (b := decide (y5_0 < x2_3.f2)) (by kernel_rfl) (fun hb => ?_) (fun hb => ?_)
  ·let E4 : Env := ((69, .int .i64 y5_0) :: (68, .str a0) :: (67, .func 67 [] [.ptr 0 1 0]) :: (64, .bool true) :: (64, .bool (decide (y5_0 < x2_3.f2))) :: (63, .int .i64 x2_3.f2) :: (62, .vptr [.int .i64 x2_3.f2]) :: (61, .vptr [.int .i64 x2_3.f0, .str x2_3.f1, .int .i64 x2_3.f2]) :: E3)
   refine oR 8 (p' := (atN 3 (ctl1 g49p11))) (eE := E4) (H' := (mkH [⟨[.int .i64 y5_1], 1, false⟩])) (by kernel_rfl) ?_
   refine oH (fun (x3_3 : Int) => (.int .u8 x3_3, (mkH [⟨[.int .i64 y5_1], 1, false⟩]))) (atN 4 (ctl1 g49p11)) (fun x3_3 => ((70, .int .u8 x3_3) :: E4)) (idxH (by kernel_rfl)) (fun _ => by kernel_rfl) (fun x3_3 hx3_3 => ?_)
   refine ok_callM (fun (x3_4 : Int) => .tuple []) (fun (x3_4 : Int) => (mkH [⟨[.int .i64 x3_4], 1, false⟩])) (atN 5 (ctl1 g49p11)) (fun x3_4 => ((71, .tuple []) :: (70, .int .u8 x3_3) :: E4)) (fi := 67) (args := [.int .u8 x3_3, .ptr 0 1 0]) (by kernel_rfl) (fun r h => g49f67_0_ok k x3_3 y5_1 r h) (fun _ => by kernel_rfl) (fun x3_4 hx3_4 => ?_)
   refine oR 1 (p' := g49p13) (eE := ((71, .tuple []) :: (70, .int .u8 x3_3) :: E4)) (H' := (mkH [⟨[.int .i64 x3_4], 1, false⟩])) (by kernel_rfl) ?_
   refine oK [0, 1, 2, 7, 8, 9] (eE := [(0, .str a0), (1, .vec (a1).length 3 ((a1).flatMap e47)), (2, .int .i64 a2), (7, .ptr 0 1 0), (8, .func 67 [] [.ptr 0 1 0]), (9, .int .i64 y5_0)]) (by kernel_rfl) ?_
   let E5 : Env := [(9, .int .i64 (fW .i64 (y5_0 + 1))), (66, .int .i64 (fW .i64 (y5_0 + 1))), (65, .int .i64 y5_0), (0, .str a0), (1, .vec (a1).length 3 ((a1).flatMap e47)), (2, .int .i64 a2), (7, .ptr 0 1 0), (8, .func 67 [] [.ptr 0 1 0]), (9, .int .i64 y5_0)]
   refine oR 5 (p' := g49p8) (eE := E5) (H' := (mkH [⟨[.int .i64 x3_4], 1, false⟩])) (by kernel_rfl) ?_
   refine oK [0, 1, 2, 7, 8, 9] (eE := [(0, .str a0), (1, .vec (a1).length 3 ((a1).flatMap e47)), (2, .int .i64 a2), (7, .ptr 0 1 0), (8, .func 67 [] [.ptr 0 1 0]), (9, .int .i64 (fW .i64 (y5_0 + 1)))]) (by kernel_rfl) ?_
   exact ih (fW .i64 (y5_0 + 1)) x3_4
  ·let E6 : Env := ((6, .int .i64 y5_1) :: (72, .int .i64 y5_1) :: (64, .bool false) :: (64, .bool (decide (y5_0 < x2_3.f2))) :: (63, .int .i64 x2_3.f2) :: (62, .vptr [.int .i64 x2_3.f2]) :: (61, .vptr [.int .i64 x2_3.f0, .str x2_3.f1, .int .i64 x2_3.f2]) :: E3)
   refine oR 8 (p' := .fin) (eE := E6) (H' := (mkH [⟨[.int .i64 y5_1], 1, false⟩])) (by kernel_rfl) ?_
   exact oT (r := y5_1) (xs := [.int .i64 y5_1]) (v := .int .i64 y5_1) (by kernel_rfl) (by kernel_rfl) (by kernel_rfl) (.pures (by kernel_rfl)) (by kernel_rfl)
def g49 (k : Nat) (a0 : (List Nat)) (a1 : (List S46)) (a2 : Int) : Option Int :=
 jn (fun (z4 : Bool) => if z4 then (some (0 : Int)) else ((nthL a1 (fW .i64 (a2 - 1))).bind fun x1_3 => (g38 k (⟨x1_3.f0, x1_3.f1, x1_3.f2⟩ : S46)).bind fun x1_5 => g49_l5 k a0 a1 a2 k x1_5 0)) (fun j4 => if (decide (a2 < 1)) then (j4 true) else (if (decide ((a1.length : Int) ≤ a2)) then (j4 true) else ((nthL a1 (fW .i64 (a2 - 1))).bind fun x0_13 => (g66 k a0 (⟨x0_13.f0, x0_13.f1, x0_13.f2⟩ : S46)).bind fun x0_15 => if (!x0_15) then (j4 true) else ((nthL a1 a2).bind fun x0_22 => (g66 k a0 (⟨x0_22.f0, x0_22.f1, x0_22.f2⟩ : S46)).bind fun x0_24 => if (!x0_24) then (j4 true) else ((nthL a1 (fW .i64 (a2 - 1))).bind fun x0_31 => (g38 k (⟨x0_31.f0, x0_31.f1, x0_31.f2⟩ : S46)).bind fun x0_33 => (nthL a1 a2).bind fun x0_36 => j4 (decide (x0_36.f2 < x0_33)))))))
theorem g49_ok (k : Nat) (a0 : (List Nat)) (a1 : (List S46)) (a2 : Int) (r : Int) (h : g49 k a0 a1 a2 = some r) : PureOk Try.prog 49 [.str a0, .vec (a1).length 3 ((a1).flatMap e47), .int .i64 a2] (.int .i64 r) := by
 refine pure_of X49 (fun _ => rfl) Try.func49 (by decide +kernel) (by kernel_rfl) (t := g49 k a0 a1 a2) ?_ h
 unfold g49
 refine oE (eE := [(0, .str a0), (1, .vec (a1).length 3 ((a1).flatMap e47)), (2, .int .i64 a2)]) (by kernel_rfl) ?_
 refine oR 6 (p' := g49p1) (eE := [(6, .int .i64 0), (0, .str a0), (1, .vec (a1).length 3 ((a1).flatMap e47)), (2, .int .i64 a2)]) (H' := (mkH [])) (by kernel_rfl) ?_
 refine oJ (f := fun (z4 : Bool) => if z4 then (some (0 : Int)) else ((nthL a1 (fW .i64 (a2 - 1))).bind fun x1_3 => (g38 k (⟨x1_3.f0, x1_3.f1, x1_3.f2⟩ : S46)).bind fun x1_5 => g49_l5 k a0 a1 a2 k x1_5 0)) g49p2 (fun (z4 : Bool) => [(0, .str a0), (1, .vec (a1).length 3 ((a1).flatMap e47)), (2, .int .i64 a2), (50, .bool z4)]) (fun (z4 : Bool) => (mkH [])) (fun z4 => ?_) (fun j4 hj4 => ?_)
 ·refine oS 50 (b := z4) (by kernel_rfl) (fun hb => ?_) (fun hb => ?_)
  ·let E1 : Env := [(6, .int .i64 0), (50, .bool true), (0, .str a0), (1, .vec (a1).length 3 ((a1).flatMap e47)), (2, .int .i64 a2), (50, .bool z4)]
   refine oR 6 (p' := .fin) (eE := E1) (H' := (mkH [])) (by kernel_rfl) ?_
   exact oT (r := (0 : Int)) (xs := [.int .i64 0]) (v := .int .i64 0) (by kernel_rfl) (by kernel_rfl) (by kernel_rfl) (.pures (by kernel_rfl)) (by kernel_rfl)
  ·let E2 : Env := [(54, .int .i64 (fW .i64 (a2 - 1))), (53, .int .i64 a2), (52, .vec (a1).length 3 ((a1).flatMap e47)), (8, .func 67 [] [.ptr 0 1 0]), (51, .func 67 [] [.ptr 0 1 0]), (7, .ptr 0 1 0), (50, .bool false), (0, .str a0), (1, .vec (a1).length 3 ((a1).flatMap e47)), (2, .int .i64 a2), (50, .bool z4)]
   refine oR 18 (p' := (atN 3 (ctl1 g49p7))) (eE := E2) (H' := (mkH [⟨[.int .i64 0], 1, false⟩])) (by kernel_rfl) ?_
   refine oH (fun (x1_3 : S46) => (.vptr [.int .i64 x1_3.f0, .str x1_3.f1, .int .i64 x1_3.f2], (mkH [⟨[.int .i64 0], 1, false⟩]))) (atN 4 (ctl1 g49p7)) (fun x1_3 => ((55, .vptr [.int .i64 x1_3.f0, .str x1_3.f1, .int .i64 x1_3.f2]) :: E2)) (vidxH (sz := 3) e47_len (by kernel_rfl)) (fun _ => by kernel_rfl) (fun x1_3 hx1_3 => ?_)
   refine oR 1 (p' := (atN 5 (ctl1 g49p7))) (eE := ((56, .agg [.int .i64 x1_3.f0, .str x1_3.f1, .int .i64 x1_3.f2]) :: (55, .vptr [.int .i64 x1_3.f0, .str x1_3.f1, .int .i64 x1_3.f2]) :: E2)) (H' := (mkH [⟨[.int .i64 0], 1, false⟩])) (by kernel_rfl) ?_
   refine oC (fun (x1_5 : Int) => .int .i64 x1_5) (atN 6 (ctl1 g49p7)) (fun x1_5 => ((57, .int .i64 x1_5) :: (56, .agg [.int .i64 x1_3.f0, .str x1_3.f1, .int .i64 x1_3.f2]) :: (55, .vptr [.int .i64 x1_3.f0, .str x1_3.f1, .int .i64 x1_3.f2]) :: E2)) (fi := 38) (args := [.agg [.int .i64 x1_3.f0, .str x1_3.f1, .int .i64 x1_3.f2]]) (by kernel_rfl) (by kernel_rfl) (fun _ => by kernel_rfl) (fun r h => g38_ok k (⟨x1_3.f0, x1_3.f1, x1_3.f2⟩ : S46) r h) (fun _ => by kernel_rfl) (fun x1_5 hx1_5 => ?_)
   refine oR 4 (p' := g49p8) (eE := ((9, .int .i64 x1_5) :: (57, .int .i64 x1_5) :: (56, .agg [.int .i64 x1_3.f0, .str x1_3.f1, .int .i64 x1_3.f2]) :: (55, .vptr [.int .i64 x1_3.f0, .str x1_3.f1, .int .i64 x1_3.f2]) :: E2)) (H' := (mkH [⟨[.int .i64 0], 1, false⟩])) (by kernel_rfl) ?_
   refine oK [0, 1, 2, 7, 8, 9] (eE := [(0, .str a0), (1, .vec (a1).length 3 ((a1).flatMap e47)), (2, .int .i64 a2), (7, .ptr 0 1 0), (8, .func 67 [] [.ptr 0 1 0]), (9, .int .i64 x1_5)]) (by kernel_rfl) ?_
   exact (g49_l5_ok k a0 a1 a2 k) x1_5 0
 ·refine ok_if (fun hb4 => ?_) (fun hb4 => ?_)
  ·let E7 : Env := [(12, .bool (decide (a2 < 1))), (11, .bool (decide (a2 < 1))), (10, .int .i64 a2), (6, .int .i64 0), (0, .str a0), (1, .vec (a1).length 3 ((a1).flatMap e47)), (2, .int .i64 a2)]
   let E8 : Env := [(50, .bool true), (49, .tuple []), (48, .tuple []), (47, .tuple []), (46, .tuple []), (45, .tuple []), (44, .tuple []), (43, .tuple []), (42, .tuple []), (41, .tuple []), (40, .tuple []), (39, .tuple []), (38, .tuple []), (37, .bool true), (36, .bool true), (35, .tuple []), (34, .tuple []), (33, .tuple []), (32, .tuple []), (31, .tuple []), (30, .tuple []), (29, .tuple []), (28, .bool true), (27, .bool true), (26, .tuple []), (25, .tuple []), (24, .tuple []), (23, .tuple []), (22, .tuple []), (21, .tuple []), (20, .tuple []), (19, .tuple []), (18, .bool true), (17, .bool true), (16, .tuple []), (15, .tuple []), (14, .tuple []), (13, .tuple []), (12, .bool true), (11, .bool true), (10, .int .i64 a2), (6, .int .i64 0), (0, .str a0), (1, .vec (a1).length 3 ((a1).flatMap e47)), (2, .int .i64 a2)]
   refine ok_draw (p' := nav [0] g49p1) (eE := E8) (H' := (mkH [])) (hs := [(mkH []), (mkH []), (mkH [])]) [(0, 0, 0), (1, 0, 0), (3, 0, 0), (7, 0, 0), (7, 0, 0), (23, 0, 0), (63, 0, 0), (127, 0, 0), (255, 0, 0), (511, 0, 0), (511, 0, 0), (511, 0, 0), (2559, 0, 0), (7679, 0, 0), (15871, 0, 0), (32767, 0, 0), (65535, 0, 0), (131071, 0, 0), (262143, 0, 0), (524287, 0, 0), (524287, 0, 0), (524287, 0, 0), (3670015, 0, 0), (7864319, 1, 1), (16777215, 0, 0), (33554431, 0, 0), (67108863, 0, 0), (134217727, 0, 0), (268435455, 0, 0), (268435455, 0, 0), (805306367, 0, 0), (2147483647, 0, 0), (4294967295, 2, 2), (8589934591, 0, 0), (268435455, 0, 0), (268435455, 0, 0), (51808043007, 0, 0), (120527519743, 0, 0), (257966473215, 2, 3), (549755813887, 0, 0), (1099511627775, 0, 0)] (by kernel_rfl) (by kernel_rfl) (by kernel_rfl) (opsD_run 3 (l' := (opsAt g49p1).toList.drop 3) (eE := E7) (H' := (mkH [])) (hs := []) (by kernel_rfl) (opsD_env (eE := [(12, .bool true), (11, .bool true), (10, .int .i64 a2), (6, .int .i64 0), (0, .str a0), (1, .vec (a1).length 3 ((a1).flatMap e47)), (2, .int .i64 a2)]) (congrArg (fun z : Bool => ([(12, .bool z), (11, .bool z), (10, .int .i64 a2), (6, .int .i64 0), (0, .str a0), (1, .vec (a1).length 3 ((a1).flatMap e47)), (2, .int .i64 a2)] : Env)) hb4) (opsD_run 38 (l' := (opsAt g49p1).toList.drop 41) (eE := E8) (H' := (mkH [])) (hs := [(mkH []), (mkH []), (mkH [])]) (by kernel_rfl) (.nil)))) (by kernel_rfl) (by kernel_rfl) (by kernel_rfl) ?_
   refine oK [0, 1, 2, 50] (eE := [(0, .str a0), (1, .vec (a1).length 3 ((a1).flatMap e47)), (2, .int .i64 a2), (50, .bool true)]) (by kernel_rfl) ?_
   exact hj4 true
  ·refine ok_if (fun hb5 => ?_) (fun hb5 => ?_)
   ·let E7 : Env := [(12, .bool (decide (a2 < 1))), (11, .bool (decide (a2 < 1))), (10, .int .i64 a2), (6, .int .i64 0), (0, .str a0), (1, .vec (a1).length 3 ((a1).flatMap e47)), (2, .int .i64 a2)]
    let E9 : Env := [(18, .bool (decide ((a1.length : Int) ≤ a2))), (17, .bool (decide ((a1.length : Int) ≤ a2))), (16, .bool (decide ((a1.length : Int) ≤ a2))), (15, .int .i64 (a1.length : Int)), (14, .vec (a1).length 3 ((a1).flatMap e47)), (13, .int .i64 a2), (12, .bool false), (11, .bool false), (10, .int .i64 a2), (6, .int .i64 0), (0, .str a0), (1, .vec (a1).length 3 ((a1).flatMap e47)), (2, .int .i64 a2)]
    let E10 : Env := [(50, .bool true), (49, .tuple []), (48, .tuple []), (47, .tuple []), (46, .tuple []), (45, .tuple []), (44, .tuple []), (43, .tuple []), (42, .tuple []), (41, .tuple []), (40, .tuple []), (39, .tuple []), (38, .tuple []), (37, .bool true), (36, .bool true), (35, .tuple []), (34, .tuple []), (33, .tuple []), (32, .tuple []), (31, .tuple []), (30, .tuple []), (29, .tuple []), (28, .bool true), (27, .bool true), (26, .tuple []), (25, .tuple []), (24, .tuple []), (23, .tuple []), (22, .tuple []), (21, .tuple []), (20, .tuple []), (19, .tuple []), (18, .bool true), (17, .bool true), (16, .bool true), (15, .int .i64 (a1.length : Int)), (14, .vec (a1).length 3 ((a1).flatMap e47)), (13, .int .i64 a2), (12, .bool false), (11, .bool false), (10, .int .i64 a2), (6, .int .i64 0), (0, .str a0), (1, .vec (a1).length 3 ((a1).flatMap e47)), (2, .int .i64 a2)]
    refine ok_draw (p' := nav [0] g49p1) (eE := E10) (H' := (mkH [])) (hs := [(mkH []), (mkH []), (mkH [])]) [(0, 0, 0), (1, 0, 0), (3, 0, 0), (7, 0, 0), (7, 0, 0), (23, 0, 0), (63, 0, 0), (127, 0, 0), (255, 0, 0), (511, 0, 0), (511, 0, 0), (511, 0, 0), (2559, 0, 0), (7679, 0, 0), (15871, 0, 0), (32767, 0, 0), (65535, 0, 0), (131071, 0, 0), (262143, 0, 0), (524287, 0, 0), (524287, 0, 0), (524287, 0, 0), (3670015, 0, 0), (7864319, 1, 1), (16777215, 0, 0), (33554431, 0, 0), (67108863, 0, 0), (134217727, 0, 0), (268435455, 0, 0), (268435455, 0, 0), (805306367, 0, 0), (2147483647, 0, 0), (4294967295, 2, 2), (8589934591, 0, 0), (268435455, 0, 0), (268435455, 0, 0), (51808043007, 0, 0), (120527519743, 0, 0), (257966473215, 2, 3), (549755813887, 0, 0), (1099511627775, 0, 0)] (by kernel_rfl) (by kernel_rfl) (by kernel_rfl) (opsD_run 3 (l' := (opsAt g49p1).toList.drop 3) (eE := E7) (H' := (mkH [])) (hs := []) (by kernel_rfl) (opsD_env (eE := [(12, .bool false), (11, .bool false), (10, .int .i64 a2), (6, .int .i64 0), (0, .str a0), (1, .vec (a1).length 3 ((a1).flatMap e47)), (2, .int .i64 a2)]) (congrArg (fun z : Bool => ([(12, .bool z), (11, .bool z), (10, .int .i64 a2), (6, .int .i64 0), (0, .str a0), (1, .vec (a1).length 3 ((a1).flatMap e47)), (2, .int .i64 a2)] : Env)) hb4) (opsD_run 6 (l' := (opsAt g49p1).toList.drop 9) (eE := E9) (H' := (mkH [])) (hs := []) (by kernel_rfl) (opsD_env (eE := [(18, .bool true), (17, .bool true), (16, .bool true), (15, .int .i64 (a1.length : Int)), (14, .vec (a1).length 3 ((a1).flatMap e47)), (13, .int .i64 a2), (12, .bool false), (11, .bool false), (10, .int .i64 a2), (6, .int .i64 0), (0, .str a0), (1, .vec (a1).length 3 ((a1).flatMap e47)), (2, .int .i64 a2)]) (congrArg (fun z : Bool => ([(18, .bool z), (17, .bool z), (16, .bool z), (15, .int .i64 (a1.length : Int)), (14, .vec (a1).length 3 ((a1).flatMap e47)), (13, .int .i64 a2), (12, .bool false), (11, .bool false), (10, .int .i64 a2), (6, .int .i64 0), (0, .str a0), (1, .vec (a1).length 3 ((a1).flatMap e47)), (2, .int .i64 a2)] : Env)) hb5) (opsD_run 32 (l' := (opsAt g49p1).toList.drop 41) (eE := E10) (H' := (mkH [])) (hs := [(mkH []), (mkH []), (mkH [])]) (by kernel_rfl) (.nil)))))) (by kernel_rfl) (by kernel_rfl) (by kernel_rfl) ?_
    refine oK [0, 1, 2, 50] (eE := [(0, .str a0), (1, .vec (a1).length 3 ((a1).flatMap e47)), (2, .int .i64 a2), (50, .bool true)]) (by kernel_rfl) ?_
    exact hj4 true
   ·refine ok_bind (fun x0_13 hx0_13 => ?_)
    refine ok_bind (fun x0_15 hx0_15 => ?_)
    refine ok_if (fun hb6 => ?_) (fun hb6 => ?_)
    ·let E7 : Env := [(12, .bool (decide (a2 < 1))), (11, .bool (decide (a2 < 1))), (10, .int .i64 a2), (6, .int .i64 0), (0, .str a0), (1, .vec (a1).length 3 ((a1).flatMap e47)), (2, .int .i64 a2)]
     let E9 : Env := [(18, .bool (decide ((a1.length : Int) ≤ a2))), (17, .bool (decide ((a1.length : Int) ≤ a2))), (16, .bool (decide ((a1.length : Int) ≤ a2))), (15, .int .i64 (a1.length : Int)), (14, .vec (a1).length 3 ((a1).flatMap e47)), (13, .int .i64 a2), (12, .bool false), (11, .bool false), (10, .int .i64 a2), (6, .int .i64 0), (0, .str a0), (1, .vec (a1).length 3 ((a1).flatMap e47)), (2, .int .i64 a2)]
     let E11 : Env := [(22, .int .i64 (fW .i64 (a2 - 1))), (21, .int .i64 a2), (20, .vec (a1).length 3 ((a1).flatMap e47)), (19, .str a0), (18, .bool false), (17, .bool false), (16, .bool false), (15, .int .i64 (a1.length : Int)), (14, .vec (a1).length 3 ((a1).flatMap e47)), (13, .int .i64 a2), (12, .bool false), (11, .bool false), (10, .int .i64 a2), (6, .int .i64 0), (0, .str a0), (1, .vec (a1).length 3 ((a1).flatMap e47)), (2, .int .i64 a2)]
     let E12 : Env := ((28, .bool (!x0_15)) :: (27, .bool (!x0_15)) :: (26, .bool (!x0_15)) :: (25, .bool x0_15) :: (24, .agg [.int .i64 x0_13.f0, .str x0_13.f1, .int .i64 x0_13.f2]) :: (23, .vptr [.int .i64 x0_13.f0, .str x0_13.f1, .int .i64 x0_13.f2]) :: E11)
     let E13 : Env := [(50, .bool true), (49, .tuple []), (48, .tuple []), (47, .tuple []), (46, .tuple []), (45, .tuple []), (44, .tuple []), (43, .tuple []), (42, .tuple []), (41, .tuple []), (40, .tuple []), (39, .tuple []), (38, .tuple []), (37, .bool true), (36, .bool true), (35, .tuple []), (34, .tuple []), (33, .tuple []), (32, .tuple []), (31, .tuple []), (30, .tuple []), (29, .tuple []), (28, .bool true), (27, .bool true), (26, .bool true), (25, .bool x0_15), (24, .agg [.int .i64 x0_13.f0, .str x0_13.f1, .int .i64 x0_13.f2]), (23, .vptr [.int .i64 x0_13.f0, .str x0_13.f1, .int .i64 x0_13.f2]), (22, .int .i64 (fW .i64 (a2 - 1))), (21, .int .i64 a2), (20, .vec (a1).length 3 ((a1).flatMap e47)), (19, .str a0), (18, .bool false), (17, .bool false), (16, .bool false), (15, .int .i64 (a1.length : Int)), (14, .vec (a1).length 3 ((a1).flatMap e47)), (13, .int .i64 a2), (12, .bool false), (11, .bool false), (10, .int .i64 a2), (6, .int .i64 0), (0, .str a0), (1, .vec (a1).length 3 ((a1).flatMap e47)), (2, .int .i64 a2)]
     refine ok_draw (p' := nav [0] g49p1) (eE := E13) (H' := (mkH [])) (hs := [(mkH []), (mkH []), (mkH [])]) [(0, 0, 0), (1, 0, 0), (3, 0, 0), (7, 0, 0), (7, 0, 0), (23, 0, 0), (63, 0, 0), (127, 0, 0), (255, 0, 0), (511, 0, 0), (511, 0, 0), (511, 0, 0), (2559, 0, 0), (7679, 0, 0), (15871, 0, 0), (32767, 0, 0), (65535, 0, 0), (131071, 0, 0), (262143, 0, 0), (524287, 0, 0), (524287, 0, 0), (524287, 0, 0), (3670015, 0, 0), (7864319, 1, 1), (16777215, 0, 0), (33554431, 0, 0), (67108863, 0, 0), (134217727, 0, 0), (268435455, 0, 0), (268435455, 0, 0), (805306367, 0, 0), (2147483647, 0, 0), (4294967295, 2, 2), (8589934591, 0, 0), (268435455, 0, 0), (268435455, 0, 0), (51808043007, 0, 0), (120527519743, 0, 0), (257966473215, 2, 3), (549755813887, 0, 0), (1099511627775, 0, 0)] (by kernel_rfl) (by kernel_rfl) (by kernel_rfl) (opsD_run 3 (l' := (opsAt g49p1).toList.drop 3) (eE := E7) (H' := (mkH [])) (hs := []) (by kernel_rfl) (opsD_env (eE := [(12, .bool false), (11, .bool false), (10, .int .i64 a2), (6, .int .i64 0), (0, .str a0), (1, .vec (a1).length 3 ((a1).flatMap e47)), (2, .int .i64 a2)]) (congrArg (fun z : Bool => ([(12, .bool z), (11, .bool z), (10, .int .i64 a2), (6, .int .i64 0), (0, .str a0), (1, .vec (a1).length 3 ((a1).flatMap e47)), (2, .int .i64 a2)] : Env)) hb4) (opsD_run 6 (l' := (opsAt g49p1).toList.drop 9) (eE := E9) (H' := (mkH [])) (hs := []) (by kernel_rfl) (opsD_env (eE := [(18, .bool false), (17, .bool false), (16, .bool false), (15, .int .i64 (a1.length : Int)), (14, .vec (a1).length 3 ((a1).flatMap e47)), (13, .int .i64 a2), (12, .bool false), (11, .bool false), (10, .int .i64 a2), (6, .int .i64 0), (0, .str a0), (1, .vec (a1).length 3 ((a1).flatMap e47)), (2, .int .i64 a2)]) (congrArg (fun z : Bool => ([(18, .bool z), (17, .bool z), (16, .bool z), (15, .int .i64 (a1.length : Int)), (14, .vec (a1).length 3 ((a1).flatMap e47)), (13, .int .i64 a2), (12, .bool false), (11, .bool false), (10, .int .i64 a2), (6, .int .i64 0), (0, .str a0), (1, .vec (a1).length 3 ((a1).flatMap e47)), (2, .int .i64 a2)] : Env)) hb5) (opsD_run 4 (l' := (opsAt g49p1).toList.drop 13) (eE := E11) (H' := (mkH [])) (hs := []) (by kernel_rfl) (opsD_chk (l' := (opsAt g49p1).toList.drop 14) (eE := ((23, .vptr [.int .i64 x0_13.f0, .str x0_13.f1, .int .i64 x0_13.f2]) :: E11)) (hs := []) (x := x0_13) (fun (x0_13 : S46) => (.vptr [.int .i64 x0_13.f0, .str x0_13.f1, .int .i64 x0_13.f2], (mkH []))) (vidxH (sz := 3) e47_len (by kernel_rfl)) hx0_13 (by kernel_rfl) (opsD_run 1 (l' := (opsAt g49p1).toList.drop 15) (eE := ((24, .agg [.int .i64 x0_13.f0, .str x0_13.f1, .int .i64 x0_13.f2]) :: (23, .vptr [.int .i64 x0_13.f0, .str x0_13.f1, .int .i64 x0_13.f2]) :: E11)) (H' := (mkH [])) (hs := []) (by kernel_rfl) (opsD_call (l' := (opsAt g49p1).toList.drop 16) (eE := ((25, .bool x0_15) :: (24, .agg [.int .i64 x0_13.f0, .str x0_13.f1, .int .i64 x0_13.f2]) :: (23, .vptr [.int .i64 x0_13.f0, .str x0_13.f1, .int .i64 x0_13.f2]) :: E11)) (hs := [(mkH [])]) (fi := 66) (args := [.str a0, .agg [.int .i64 x0_13.f0, .str x0_13.f1, .int .i64 x0_13.f2]]) (v := .bool x0_15) (by kernel_rfl) (by kernel_rfl) (by kernel_rfl) (g66_ok k a0 (⟨x0_13.f0, x0_13.f1, x0_13.f2⟩ : S46) x0_15 hx0_15) (by kernel_rfl) (opsD_run 3 (l' := (opsAt g49p1).toList.drop 19) (eE := E12) (H' := (mkH [])) (hs := []) (by kernel_rfl) (opsD_env (eE := [(28, .bool true), (27, .bool true), (26, .bool true), (25, .bool x0_15), (24, .agg [.int .i64 x0_13.f0, .str x0_13.f1, .int .i64 x0_13.f2]), (23, .vptr [.int .i64 x0_13.f0, .str x0_13.f1, .int .i64 x0_13.f2]), (22, .int .i64 (fW .i64 (a2 - 1))), (21, .int .i64 a2), (20, .vec (a1).length 3 ((a1).flatMap e47)), (19, .str a0), (18, .bool false), (17, .bool false), (16, .bool false), (15, .int .i64 (a1.length : Int)), (14, .vec (a1).length 3 ((a1).flatMap e47)), (13, .int .i64 a2), (12, .bool false), (11, .bool false), (10, .int .i64 a2), (6, .int .i64 0), (0, .str a0), (1, .vec (a1).length 3 ((a1).flatMap e47)), (2, .int .i64 a2)]) (congrArg (fun z : Bool => ([(28, .bool z), (27, .bool z), (26, .bool z), (25, .bool x0_15), (24, .agg [.int .i64 x0_13.f0, .str x0_13.f1, .int .i64 x0_13.f2]), (23, .vptr [.int .i64 x0_13.f0, .str x0_13.f1, .int .i64 x0_13.f2]), (22, .int .i64 (fW .i64 (a2 - 1))), (21, .int .i64 a2), (20, .vec (a1).length 3 ((a1).flatMap e47)), (19, .str a0), (18, .bool false), (17, .bool false), (16, .bool false), (15, .int .i64 (a1.length : Int)), (14, .vec (a1).length 3 ((a1).flatMap e47)), (13, .int .i64 a2), (12, .bool false), (11, .bool false), (10, .int .i64 a2), (6, .int .i64 0), (0, .str a0), (1, .vec (a1).length 3 ((a1).flatMap e47)), (2, .int .i64 a2)] : Env)) hb6) (opsD_run 22 (l' := (opsAt g49p1).toList.drop 41) (eE := E13) (H' := (mkH [])) (hs := [(mkH []), (mkH [])]) (by kernel_rfl) (.nil)))))))))))) (by kernel_rfl) (by kernel_rfl) (by kernel_rfl) ?_
     refine oK [0, 1, 2, 50] (eE := [(0, .str a0), (1, .vec (a1).length 3 ((a1).flatMap e47)), (2, .int .i64 a2), (50, .bool true)]) (by kernel_rfl) ?_
     exact hj4 true
    ·refine ok_bind (fun x0_22 hx0_22 => ?_)
     refine ok_bind (fun x0_24 hx0_24 => ?_)
     refine ok_if (fun hb7 => ?_) (fun hb7 => ?_)
     ·let E7 : Env := [(12, .bool (decide (a2 < 1))), (11, .bool (decide (a2 < 1))), (10, .int .i64 a2), (6, .int .i64 0), (0, .str a0), (1, .vec (a1).length 3 ((a1).flatMap e47)), (2, .int .i64 a2)]
      let E9 : Env := [(18, .bool (decide ((a1.length : Int) ≤ a2))), (17, .bool (decide ((a1.length : Int) ≤ a2))), (16, .bool (decide ((a1.length : Int) ≤ a2))), (15, .int .i64 (a1.length : Int)), (14, .vec (a1).length 3 ((a1).flatMap e47)), (13, .int .i64 a2), (12, .bool false), (11, .bool false), (10, .int .i64 a2), (6, .int .i64 0), (0, .str a0), (1, .vec (a1).length 3 ((a1).flatMap e47)), (2, .int .i64 a2)]
      let E11 : Env := [(22, .int .i64 (fW .i64 (a2 - 1))), (21, .int .i64 a2), (20, .vec (a1).length 3 ((a1).flatMap e47)), (19, .str a0), (18, .bool false), (17, .bool false), (16, .bool false), (15, .int .i64 (a1.length : Int)), (14, .vec (a1).length 3 ((a1).flatMap e47)), (13, .int .i64 a2), (12, .bool false), (11, .bool false), (10, .int .i64 a2), (6, .int .i64 0), (0, .str a0), (1, .vec (a1).length 3 ((a1).flatMap e47)), (2, .int .i64 a2)]
      let E12 : Env := ((28, .bool (!x0_15)) :: (27, .bool (!x0_15)) :: (26, .bool (!x0_15)) :: (25, .bool x0_15) :: (24, .agg [.int .i64 x0_13.f0, .str x0_13.f1, .int .i64 x0_13.f2]) :: (23, .vptr [.int .i64 x0_13.f0, .str x0_13.f1, .int .i64 x0_13.f2]) :: E11)
      let E14 : Env := [(31, .int .i64 a2), (30, .vec (a1).length 3 ((a1).flatMap e47)), (29, .str a0), (28, .bool false), (27, .bool false), (26, .bool false), (25, .bool x0_15), (24, .agg [.int .i64 x0_13.f0, .str x0_13.f1, .int .i64 x0_13.f2]), (23, .vptr [.int .i64 x0_13.f0, .str x0_13.f1, .int .i64 x0_13.f2]), (22, .int .i64 (fW .i64 (a2 - 1))), (21, .int .i64 a2), (20, .vec (a1).length 3 ((a1).flatMap e47)), (19, .str a0), (18, .bool false), (17, .bool false), (16, .bool false), (15, .int .i64 (a1.length : Int)), (14, .vec (a1).length 3 ((a1).flatMap e47)), (13, .int .i64 a2), (12, .bool false), (11, .bool false), (10, .int .i64 a2), (6, .int .i64 0), (0, .str a0), (1, .vec (a1).length 3 ((a1).flatMap e47)), (2, .int .i64 a2)]
      let E15 : Env := ((37, .bool (!x0_24)) :: (36, .bool (!x0_24)) :: (35, .bool (!x0_24)) :: (34, .bool x0_24) :: (33, .agg [.int .i64 x0_22.f0, .str x0_22.f1, .int .i64 x0_22.f2]) :: (32, .vptr [.int .i64 x0_22.f0, .str x0_22.f1, .int .i64 x0_22.f2]) :: E14)
      let E16 : Env := [(50, .bool true), (49, .tuple []), (48, .tuple []), (47, .tuple []), (46, .tuple []), (45, .tuple []), (44, .tuple []), (43, .tuple []), (42, .tuple []), (41, .tuple []), (40, .tuple []), (39, .tuple []), (38, .tuple []), (37, .bool true), (36, .bool true), (35, .bool true), (34, .bool x0_24), (33, .agg [.int .i64 x0_22.f0, .str x0_22.f1, .int .i64 x0_22.f2]), (32, .vptr [.int .i64 x0_22.f0, .str x0_22.f1, .int .i64 x0_22.f2]), (31, .int .i64 a2), (30, .vec (a1).length 3 ((a1).flatMap e47)), (29, .str a0), (28, .bool false), (27, .bool false), (26, .bool false), (25, .bool x0_15), (24, .agg [.int .i64 x0_13.f0, .str x0_13.f1, .int .i64 x0_13.f2]), (23, .vptr [.int .i64 x0_13.f0, .str x0_13.f1, .int .i64 x0_13.f2]), (22, .int .i64 (fW .i64 (a2 - 1))), (21, .int .i64 a2), (20, .vec (a1).length 3 ((a1).flatMap e47)), (19, .str a0), (18, .bool false), (17, .bool false), (16, .bool false), (15, .int .i64 (a1.length : Int)), (14, .vec (a1).length 3 ((a1).flatMap e47)), (13, .int .i64 a2), (12, .bool false), (11, .bool false), (10, .int .i64 a2), (6, .int .i64 0), (0, .str a0), (1, .vec (a1).length 3 ((a1).flatMap e47)), (2, .int .i64 a2)]
      refine ok_draw (p' := nav [0] g49p1) (eE := E16) (H' := (mkH [])) (hs := [(mkH []), (mkH []), (mkH [])]) [(0, 0, 0), (1, 0, 0), (3, 0, 0), (7, 0, 0), (7, 0, 0), (23, 0, 0), (63, 0, 0), (127, 0, 0), (255, 0, 0), (511, 0, 0), (511, 0, 0), (511, 0, 0), (2559, 0, 0), (7679, 0, 0), (15871, 0, 0), (32767, 0, 0), (65535, 0, 0), (131071, 0, 0), (262143, 0, 0), (524287, 0, 0), (524287, 0, 0), (524287, 0, 0), (3670015, 0, 0), (7864319, 1, 1), (16777215, 0, 0), (33554431, 0, 0), (67108863, 0, 0), (134217727, 0, 0), (268435455, 0, 0), (268435455, 0, 0), (805306367, 0, 0), (2147483647, 0, 0), (4294967295, 2, 2), (8589934591, 0, 0), (268435455, 0, 0), (268435455, 0, 0), (51808043007, 0, 0), (120527519743, 0, 0), (257966473215, 2, 3), (549755813887, 0, 0), (1099511627775, 0, 0)] (by kernel_rfl) (by kernel_rfl) (by kernel_rfl) (opsD_run 3 (l' := (opsAt g49p1).toList.drop 3) (eE := E7) (H' := (mkH [])) (hs := []) (by kernel_rfl) (opsD_env (eE := [(12, .bool false), (11, .bool false), (10, .int .i64 a2), (6, .int .i64 0), (0, .str a0), (1, .vec (a1).length 3 ((a1).flatMap e47)), (2, .int .i64 a2)]) (congrArg (fun z : Bool => ([(12, .bool z), (11, .bool z), (10, .int .i64 a2), (6, .int .i64 0), (0, .str a0), (1, .vec (a1).length 3 ((a1).flatMap e47)), (2, .int .i64 a2)] : Env)) hb4) (opsD_run 6 (l' := (opsAt g49p1).toList.drop 9) (eE := E9) (H' := (mkH [])) (hs := []) (by kernel_rfl) (opsD_env (eE := [(18, .bool false), (17, .bool false), (16, .bool false), (15, .int .i64 (a1.length : Int)), (14, .vec (a1).length 3 ((a1).flatMap e47)), (13, .int .i64 a2), (12, .bool false), (11, .bool false), (10, .int .i64 a2), (6, .int .i64 0), (0, .str a0), (1, .vec (a1).length 3 ((a1).flatMap e47)), (2, .int .i64 a2)]) (congrArg (fun z : Bool => ([(18, .bool z), (17, .bool z), (16, .bool z), (15, .int .i64 (a1.length : Int)), (14, .vec (a1).length 3 ((a1).flatMap e47)), (13, .int .i64 a2), (12, .bool false), (11, .bool false), (10, .int .i64 a2), (6, .int .i64 0), (0, .str a0), (1, .vec (a1).length 3 ((a1).flatMap e47)), (2, .int .i64 a2)] : Env)) hb5) (opsD_run 4 (l' := (opsAt g49p1).toList.drop 13) (eE := E11) (H' := (mkH [])) (hs := []) (by kernel_rfl) (opsD_chk (l' := (opsAt g49p1).toList.drop 14) (eE := ((23, .vptr [.int .i64 x0_13.f0, .str x0_13.f1, .int .i64 x0_13.f2]) :: E11)) (hs := []) (x := x0_13) (fun (x0_13 : S46) => (.vptr [.int .i64 x0_13.f0, .str x0_13.f1, .int .i64 x0_13.f2], (mkH []))) (vidxH (sz := 3) e47_len (by kernel_rfl)) hx0_13 (by kernel_rfl) (opsD_run 1 (l' := (opsAt g49p1).toList.drop 15) (eE := ((24, .agg [.int .i64 x0_13.f0, .str x0_13.f1, .int .i64 x0_13.f2]) :: (23, .vptr [.int .i64 x0_13.f0, .str x0_13.f1, .int .i64 x0_13.f2]) :: E11)) (H' := (mkH [])) (hs := []) (by kernel_rfl) (opsD_call (l' := (opsAt g49p1).toList.drop 16) (eE := ((25, .bool x0_15) :: (24, .agg [.int .i64 x0_13.f0, .str x0_13.f1, .int .i64 x0_13.f2]) :: (23, .vptr [.int .i64 x0_13.f0, .str x0_13.f1, .int .i64 x0_13.f2]) :: E11)) (hs := [(mkH [])]) (fi := 66) (args := [.str a0, .agg [.int .i64 x0_13.f0, .str x0_13.f1, .int .i64 x0_13.f2]]) (v := .bool x0_15) (by kernel_rfl) (by kernel_rfl) (by kernel_rfl) (g66_ok k a0 (⟨x0_13.f0, x0_13.f1, x0_13.f2⟩ : S46) x0_15 hx0_15) (by kernel_rfl) (opsD_run 3 (l' := (opsAt g49p1).toList.drop 19) (eE := E12) (H' := (mkH [])) (hs := []) (by kernel_rfl) (opsD_env (eE := [(28, .bool false), (27, .bool false), (26, .bool false), (25, .bool x0_15), (24, .agg [.int .i64 x0_13.f0, .str x0_13.f1, .int .i64 x0_13.f2]), (23, .vptr [.int .i64 x0_13.f0, .str x0_13.f1, .int .i64 x0_13.f2]), (22, .int .i64 (fW .i64 (a2 - 1))), (21, .int .i64 a2), (20, .vec (a1).length 3 ((a1).flatMap e47)), (19, .str a0), (18, .bool false), (17, .bool false), (16, .bool false), (15, .int .i64 (a1.length : Int)), (14, .vec (a1).length 3 ((a1).flatMap e47)), (13, .int .i64 a2), (12, .bool false), (11, .bool false), (10, .int .i64 a2), (6, .int .i64 0), (0, .str a0), (1, .vec (a1).length 3 ((a1).flatMap e47)), (2, .int .i64 a2)]) (congrArg (fun z : Bool => ([(28, .bool z), (27, .bool z), (26, .bool z), (25, .bool x0_15), (24, .agg [.int .i64 x0_13.f0, .str x0_13.f1, .int .i64 x0_13.f2]), (23, .vptr [.int .i64 x0_13.f0, .str x0_13.f1, .int .i64 x0_13.f2]), (22, .int .i64 (fW .i64 (a2 - 1))), (21, .int .i64 a2), (20, .vec (a1).length 3 ((a1).flatMap e47)), (19, .str a0), (18, .bool false), (17, .bool false), (16, .bool false), (15, .int .i64 (a1.length : Int)), (14, .vec (a1).length 3 ((a1).flatMap e47)), (13, .int .i64 a2), (12, .bool false), (11, .bool false), (10, .int .i64 a2), (6, .int .i64 0), (0, .str a0), (1, .vec (a1).length 3 ((a1).flatMap e47)), (2, .int .i64 a2)] : Env)) hb6) (opsD_run 3 (l' := (opsAt g49p1).toList.drop 22) (eE := E14) (H' := (mkH [])) (hs := []) (by kernel_rfl) (opsD_chk (l' := (opsAt g49p1).toList.drop 23) (eE := ((32, .vptr [.int .i64 x0_22.f0, .str x0_22.f1, .int .i64 x0_22.f2]) :: E14)) (hs := []) (x := x0_22) (fun (x0_22 : S46) => (.vptr [.int .i64 x0_22.f0, .str x0_22.f1, .int .i64 x0_22.f2], (mkH []))) (vidxH (sz := 3) e47_len (by kernel_rfl)) hx0_22 (by kernel_rfl) (opsD_run 1 (l' := (opsAt g49p1).toList.drop 24) (eE := ((33, .agg [.int .i64 x0_22.f0, .str x0_22.f1, .int .i64 x0_22.f2]) :: (32, .vptr [.int .i64 x0_22.f0, .str x0_22.f1, .int .i64 x0_22.f2]) :: E14)) (H' := (mkH [])) (hs := []) (by kernel_rfl) (opsD_call (l' := (opsAt g49p1).toList.drop 25) (eE := ((34, .bool x0_24) :: (33, .agg [.int .i64 x0_22.f0, .str x0_22.f1, .int .i64 x0_22.f2]) :: (32, .vptr [.int .i64 x0_22.f0, .str x0_22.f1, .int .i64 x0_22.f2]) :: E14)) (hs := [(mkH [])]) (fi := 66) (args := [.str a0, .agg [.int .i64 x0_22.f0, .str x0_22.f1, .int .i64 x0_22.f2]]) (v := .bool x0_24) (by kernel_rfl) (by kernel_rfl) (by kernel_rfl) (g66_ok k a0 (⟨x0_22.f0, x0_22.f1, x0_22.f2⟩ : S46) x0_24 hx0_24) (by kernel_rfl) (opsD_run 3 (l' := (opsAt g49p1).toList.drop 28) (eE := E15) (H' := (mkH [])) (hs := []) (by kernel_rfl) (opsD_env (eE := [(37, .bool true), (36, .bool true), (35, .bool true), (34, .bool x0_24), (33, .agg [.int .i64 x0_22.f0, .str x0_22.f1, .int .i64 x0_22.f2]), (32, .vptr [.int .i64 x0_22.f0, .str x0_22.f1, .int .i64 x0_22.f2]), (31, .int .i64 a2), (30, .vec (a1).length 3 ((a1).flatMap e47)), (29, .str a0), (28, .bool false), (27, .bool false), (26, .bool false), (25, .bool x0_15), (24, .agg [.int .i64 x0_13.f0, .str x0_13.f1, .int .i64 x0_13.f2]), (23, .vptr [.int .i64 x0_13.f0, .str x0_13.f1, .int .i64 x0_13.f2]), (22, .int .i64 (fW .i64 (a2 - 1))), (21, .int .i64 a2), (20, .vec (a1).length 3 ((a1).flatMap e47)), (19, .str a0), (18, .bool false), (17, .bool false), (16, .bool false), (15, .int .i64 (a1.length : Int)), (14, .vec (a1).length 3 ((a1).flatMap e47)), (13, .int .i64 a2), (12, .bool false), (11, .bool false), (10, .int .i64 a2), (6, .int .i64 0), (0, .str a0), (1, .vec (a1).length 3 ((a1).flatMap e47)), (2, .int .i64 a2)]) (congrArg (fun z : Bool => ([(37, .bool z), (36, .bool z), (35, .bool z), (34, .bool x0_24), (33, .agg [.int .i64 x0_22.f0, .str x0_22.f1, .int .i64 x0_22.f2]), (32, .vptr [.int .i64 x0_22.f0, .str x0_22.f1, .int .i64 x0_22.f2]), (31, .int .i64 a2), (30, .vec (a1).length 3 ((a1).flatMap e47)), (29, .str a0), (28, .bool false), (27, .bool false), (26, .bool false), (25, .bool x0_15), (24, .agg [.int .i64 x0_13.f0, .str x0_13.f1, .int .i64 x0_13.f2]), (23, .vptr [.int .i64 x0_13.f0, .str x0_13.f1, .int .i64 x0_13.f2]), (22, .int .i64 (fW .i64 (a2 - 1))), (21, .int .i64 a2), (20, .vec (a1).length 3 ((a1).flatMap e47)), (19, .str a0), (18, .bool false), (17, .bool false), (16, .bool false), (15, .int .i64 (a1.length : Int)), (14, .vec (a1).length 3 ((a1).flatMap e47)), (13, .int .i64 a2), (12, .bool false), (11, .bool false), (10, .int .i64 a2), (6, .int .i64 0), (0, .str a0), (1, .vec (a1).length 3 ((a1).flatMap e47)), (2, .int .i64 a2)] : Env)) hb7) (opsD_run 13 (l' := (opsAt g49p1).toList.drop 41) (eE := E16) (H' := (mkH [])) (hs := [(mkH [])]) (by kernel_rfl) (.nil)))))))))))))))))) (by kernel_rfl) (by kernel_rfl) (by kernel_rfl) ?_
      refine oK [0, 1, 2, 50] (eE := [(0, .str a0), (1, .vec (a1).length 3 ((a1).flatMap e47)), (2, .int .i64 a2), (50, .bool true)]) (by kernel_rfl) ?_
      exact hj4 true
     ·refine ok_bind (fun x0_31 hx0_31 => ?_)
      refine ok_bind (fun x0_33 hx0_33 => ?_)
      refine ok_bind (fun x0_36 hx0_36 => ?_)
      let E7 : Env := [(12, .bool (decide (a2 < 1))), (11, .bool (decide (a2 < 1))), (10, .int .i64 a2), (6, .int .i64 0), (0, .str a0), (1, .vec (a1).length 3 ((a1).flatMap e47)), (2, .int .i64 a2)]
      let E9 : Env := [(18, .bool (decide ((a1.length : Int) ≤ a2))), (17, .bool (decide ((a1.length : Int) ≤ a2))), (16, .bool (decide ((a1.length : Int) ≤ a2))), (15, .int .i64 (a1.length : Int)), (14, .vec (a1).length 3 ((a1).flatMap e47)), (13, .int .i64 a2), (12, .bool false), (11, .bool false), (10, .int .i64 a2), (6, .int .i64 0), (0, .str a0), (1, .vec (a1).length 3 ((a1).flatMap e47)), (2, .int .i64 a2)]
      let E11 : Env := [(22, .int .i64 (fW .i64 (a2 - 1))), (21, .int .i64 a2), (20, .vec (a1).length 3 ((a1).flatMap e47)), (19, .str a0), (18, .bool false), (17, .bool false), (16, .bool false), (15, .int .i64 (a1.length : Int)), (14, .vec (a1).length 3 ((a1).flatMap e47)), (13, .int .i64 a2), (12, .bool false), (11, .bool false), (10, .int .i64 a2), (6, .int .i64 0), (0, .str a0), (1, .vec (a1).length 3 ((a1).flatMap e47)), (2, .int .i64 a2)]
      let E12 : Env := ((28, .bool (!x0_15)) :: (27, .bool (!x0_15)) :: (26, .bool (!x0_15)) :: (25, .bool x0_15) :: (24, .agg [.int .i64 x0_13.f0, .str x0_13.f1, .int .i64 x0_13.f2]) :: (23, .vptr [.int .i64 x0_13.f0, .str x0_13.f1, .int .i64 x0_13.f2]) :: E11)
      let E14 : Env := [(31, .int .i64 a2), (30, .vec (a1).length 3 ((a1).flatMap e47)), (29, .str a0), (28, .bool false), (27, .bool false), (26, .bool false), (25, .bool x0_15), (24, .agg [.int .i64 x0_13.f0, .str x0_13.f1, .int .i64 x0_13.f2]), (23, .vptr [.int .i64 x0_13.f0, .str x0_13.f1, .int .i64 x0_13.f2]), (22, .int .i64 (fW .i64 (a2 - 1))), (21, .int .i64 a2), (20, .vec (a1).length 3 ((a1).flatMap e47)), (19, .str a0), (18, .bool false), (17, .bool false), (16, .bool false), (15, .int .i64 (a1.length : Int)), (14, .vec (a1).length 3 ((a1).flatMap e47)), (13, .int .i64 a2), (12, .bool false), (11, .bool false), (10, .int .i64 a2), (6, .int .i64 0), (0, .str a0), (1, .vec (a1).length 3 ((a1).flatMap e47)), (2, .int .i64 a2)]
      let E15 : Env := ((37, .bool (!x0_24)) :: (36, .bool (!x0_24)) :: (35, .bool (!x0_24)) :: (34, .bool x0_24) :: (33, .agg [.int .i64 x0_22.f0, .str x0_22.f1, .int .i64 x0_22.f2]) :: (32, .vptr [.int .i64 x0_22.f0, .str x0_22.f1, .int .i64 x0_22.f2]) :: E14)
      let E17 : Env := [(40, .int .i64 (fW .i64 (a2 - 1))), (39, .int .i64 a2), (38, .vec (a1).length 3 ((a1).flatMap e47)), (37, .bool false), (36, .bool false), (35, .bool false), (34, .bool x0_24), (33, .agg [.int .i64 x0_22.f0, .str x0_22.f1, .int .i64 x0_22.f2]), (32, .vptr [.int .i64 x0_22.f0, .str x0_22.f1, .int .i64 x0_22.f2]), (31, .int .i64 a2), (30, .vec (a1).length 3 ((a1).flatMap e47)), (29, .str a0), (28, .bool false), (27, .bool false), (26, .bool false), (25, .bool x0_15), (24, .agg [.int .i64 x0_13.f0, .str x0_13.f1, .int .i64 x0_13.f2]), (23, .vptr [.int .i64 x0_13.f0, .str x0_13.f1, .int .i64 x0_13.f2]), (22, .int .i64 (fW .i64 (a2 - 1))), (21, .int .i64 a2), (20, .vec (a1).length 3 ((a1).flatMap e47)), (19, .str a0), (18, .bool false), (17, .bool false), (16, .bool false), (15, .int .i64 (a1.length : Int)), (14, .vec (a1).length 3 ((a1).flatMap e47)), (13, .int .i64 a2), (12, .bool false), (11, .bool false), (10, .int .i64 a2), (6, .int .i64 0), (0, .str a0), (1, .vec (a1).length 3 ((a1).flatMap e47)), (2, .int .i64 a2)]
      let E18 : Env := ((45, .int .i64 a2) :: (44, .vec (a1).length 3 ((a1).flatMap e47)) :: (43, .int .i64 x0_33) :: (42, .agg [.int .i64 x0_31.f0, .str x0_31.f1, .int .i64 x0_31.f2]) :: (41, .vptr [.int .i64 x0_31.f0, .str x0_31.f1, .int .i64 x0_31.f2]) :: E17)
      let E19 : Env := ((50, .bool (decide (x0_36.f2 < x0_33))) :: (49, .bool (decide (x0_36.f2 < x0_33))) :: (48, .int .i64 x0_36.f2) :: (47, .vptr [.int .i64 x0_36.f2]) :: (46, .vptr [.int .i64 x0_36.f0, .str x0_36.f1, .int .i64 x0_36.f2]) :: E18)
      refine ok_draw (p' := nav [0] g49p1) (eE := E19) (H' := (mkH [])) (hs := [(mkH []), (mkH []), (mkH [])]) [(0, 0, 0), (1, 0, 0), (3, 0, 0), (7, 0, 0), (7, 0, 0), (23, 0, 0), (63, 0, 0), (127, 0, 0), (255, 0, 0), (511, 0, 0), (511, 0, 0), (511, 0, 0), (2559, 0, 0), (7679, 0, 0), (15871, 0, 0), (32767, 0, 0), (65535, 0, 0), (131071, 0, 0), (262143, 0, 0), (524287, 0, 0), (524287, 0, 0), (524287, 0, 0), (3670015, 0, 0), (7864319, 1, 1), (16777215, 0, 0), (33554431, 0, 0), (67108863, 0, 0), (134217727, 0, 0), (268435455, 0, 0), (268435455, 0, 0), (805306367, 0, 0), (2147483647, 0, 0), (4294967295, 2, 2), (8589934591, 0, 0), (268435455, 0, 0), (268435455, 0, 0), (51808043007, 0, 0), (120527519743, 0, 0), (257966473215, 2, 3), (549755813887, 0, 0), (1099511627775, 0, 0)] (by kernel_rfl) (by kernel_rfl) (by kernel_rfl) (opsD_run 3 (l' := (opsAt g49p1).toList.drop 3) (eE := E7) (H' := (mkH [])) (hs := []) (by kernel_rfl) (opsD_env (eE := [(12, .bool false), (11, .bool false), (10, .int .i64 a2), (6, .int .i64 0), (0, .str a0), (1, .vec (a1).length 3 ((a1).flatMap e47)), (2, .int .i64 a2)]) (congrArg (fun z : Bool => ([(12, .bool z), (11, .bool z), (10, .int .i64 a2), (6, .int .i64 0), (0, .str a0), (1, .vec (a1).length 3 ((a1).flatMap e47)), (2, .int .i64 a2)] : Env)) hb4) (opsD_run 6 (l' := (opsAt g49p1).toList.drop 9) (eE := E9) (H' := (mkH [])) (hs := []) (by kernel_rfl) (opsD_env (eE := [(18, .bool false), (17, .bool false), (16, .bool false), (15, .int .i64 (a1.length : Int)), (14, .vec (a1).length 3 ((a1).flatMap e47)), (13, .int .i64 a2), (12, .bool false), (11, .bool false), (10, .int .i64 a2), (6, .int .i64 0), (0, .str a0), (1, .vec (a1).length 3 ((a1).flatMap e47)), (2, .int .i64 a2)]) (congrArg (fun z : Bool => ([(18, .bool z), (17, .bool z), (16, .bool z), (15, .int .i64 (a1.length : Int)), (14, .vec (a1).length 3 ((a1).flatMap e47)), (13, .int .i64 a2), (12, .bool false), (11, .bool false), (10, .int .i64 a2), (6, .int .i64 0), (0, .str a0), (1, .vec (a1).length 3 ((a1).flatMap e47)), (2, .int .i64 a2)] : Env)) hb5) (opsD_run 4 (l' := (opsAt g49p1).toList.drop 13) (eE := E11) (H' := (mkH [])) (hs := []) (by kernel_rfl) (opsD_chk (l' := (opsAt g49p1).toList.drop 14) (eE := ((23, .vptr [.int .i64 x0_13.f0, .str x0_13.f1, .int .i64 x0_13.f2]) :: E11)) (hs := []) (x := x0_13) (fun (x0_13 : S46) => (.vptr [.int .i64 x0_13.f0, .str x0_13.f1, .int .i64 x0_13.f2], (mkH []))) (vidxH (sz := 3) e47_len (by kernel_rfl)) hx0_13 (by kernel_rfl) (opsD_run 1 (l' := (opsAt g49p1).toList.drop 15) (eE := ((24, .agg [.int .i64 x0_13.f0, .str x0_13.f1, .int .i64 x0_13.f2]) :: (23, .vptr [.int .i64 x0_13.f0, .str x0_13.f1, .int .i64 x0_13.f2]) :: E11)) (H' := (mkH [])) (hs := []) (by kernel_rfl) (opsD_call (l' := (opsAt g49p1).toList.drop 16) (eE := ((25, .bool x0_15) :: (24, .agg [.int .i64 x0_13.f0, .str x0_13.f1, .int .i64 x0_13.f2]) :: (23, .vptr [.int .i64 x0_13.f0, .str x0_13.f1, .int .i64 x0_13.f2]) :: E11)) (hs := [(mkH [])]) (fi := 66) (args := [.str a0, .agg [.int .i64 x0_13.f0, .str x0_13.f1, .int .i64 x0_13.f2]]) (v := .bool x0_15) (by kernel_rfl) (by kernel_rfl) (by kernel_rfl) (g66_ok k a0 (⟨x0_13.f0, x0_13.f1, x0_13.f2⟩ : S46) x0_15 hx0_15) (by kernel_rfl) (opsD_run 3 (l' := (opsAt g49p1).toList.drop 19) (eE := E12) (H' := (mkH [])) (hs := []) (by kernel_rfl) (opsD_env (eE := [(28, .bool false), (27, .bool false), (26, .bool false), (25, .bool x0_15), (24, .agg [.int .i64 x0_13.f0, .str x0_13.f1, .int .i64 x0_13.f2]), (23, .vptr [.int .i64 x0_13.f0, .str x0_13.f1, .int .i64 x0_13.f2]), (22, .int .i64 (fW .i64 (a2 - 1))), (21, .int .i64 a2), (20, .vec (a1).length 3 ((a1).flatMap e47)), (19, .str a0), (18, .bool false), (17, .bool false), (16, .bool false), (15, .int .i64 (a1.length : Int)), (14, .vec (a1).length 3 ((a1).flatMap e47)), (13, .int .i64 a2), (12, .bool false), (11, .bool false), (10, .int .i64 a2), (6, .int .i64 0), (0, .str a0), (1, .vec (a1).length 3 ((a1).flatMap e47)), (2, .int .i64 a2)]) (congrArg (fun z : Bool => ([(28, .bool z), (27, .bool z), (26, .bool z), (25, .bool x0_15), (24, .agg [.int .i64 x0_13.f0, .str x0_13.f1, .int .i64 x0_13.f2]), (23, .vptr [.int .i64 x0_13.f0, .str x0_13.f1, .int .i64 x0_13.f2]), (22, .int .i64 (fW .i64 (a2 - 1))), (21, .int .i64 a2), (20, .vec (a1).length 3 ((a1).flatMap e47)), (19, .str a0), (18, .bool false), (17, .bool false), (16, .bool false), (15, .int .i64 (a1.length : Int)), (14, .vec (a1).length 3 ((a1).flatMap e47)), (13, .int .i64 a2), (12, .bool false), (11, .bool false), (10, .int .i64 a2), (6, .int .i64 0), (0, .str a0), (1, .vec (a1).length 3 ((a1).flatMap e47)), (2, .int .i64 a2)] : Env)) hb6) (opsD_run 3 (l' := (opsAt g49p1).toList.drop 22) (eE := E14) (H' := (mkH [])) (hs := []) (by kernel_rfl) (opsD_chk (l' := (opsAt g49p1).toList.drop 23) (eE := ((32, .vptr [.int .i64 x0_22.f0, .str x0_22.f1, .int .i64 x0_22.f2]) :: E14)) (hs := []) (x := x0_22) (fun (x0_22 : S46) => (.vptr [.int .i64 x0_22.f0, .str x0_22.f1, .int .i64 x0_22.f2], (mkH []))) (vidxH (sz := 3) e47_len (by kernel_rfl)) hx0_22 (by kernel_rfl) (opsD_run 1 (l' := (opsAt g49p1).toList.drop 24) (eE := ((33, .agg [.int .i64 x0_22.f0, .str x0_22.f1, .int .i64 x0_22.f2]) :: (32, .vptr [.int .i64 x0_22.f0, .str x0_22.f1, .int .i64 x0_22.f2]) :: E14)) (H' := (mkH [])) (hs := []) (by kernel_rfl) (opsD_call (l' := (opsAt g49p1).toList.drop 25) (eE := ((34, .bool x0_24) :: (33, .agg [.int .i64 x0_22.f0, .str x0_22.f1, .int .i64 x0_22.f2]) :: (32, .vptr [.int .i64 x0_22.f0, .str x0_22.f1, .int .i64 x0_22.f2]) :: E14)) (hs := [(mkH [])]) (fi := 66) (args := [.str a0, .agg [.int .i64 x0_22.f0, .str x0_22.f1, .int .i64 x0_22.f2]]) (v := .bool x0_24) (by kernel_rfl) (by kernel_rfl) (by kernel_rfl) (g66_ok k a0 (⟨x0_22.f0, x0_22.f1, x0_22.f2⟩ : S46) x0_24 hx0_24) (by kernel_rfl) (opsD_run 3 (l' := (opsAt g49p1).toList.drop 28) (eE := E15) (H' := (mkH [])) (hs := []) (by kernel_rfl) (opsD_env (eE := [(37, .bool false), (36, .bool false), (35, .bool false), (34, .bool x0_24), (33, .agg [.int .i64 x0_22.f0, .str x0_22.f1, .int .i64 x0_22.f2]), (32, .vptr [.int .i64 x0_22.f0, .str x0_22.f1, .int .i64 x0_22.f2]), (31, .int .i64 a2), (30, .vec (a1).length 3 ((a1).flatMap e47)), (29, .str a0), (28, .bool false), (27, .bool false), (26, .bool false), (25, .bool x0_15), (24, .agg [.int .i64 x0_13.f0, .str x0_13.f1, .int .i64 x0_13.f2]), (23, .vptr [.int .i64 x0_13.f0, .str x0_13.f1, .int .i64 x0_13.f2]), (22, .int .i64 (fW .i64 (a2 - 1))), (21, .int .i64 a2), (20, .vec (a1).length 3 ((a1).flatMap e47)), (19, .str a0), (18, .bool false), (17, .bool false), (16, .bool false), (15, .int .i64 (a1.length : Int)), (14, .vec (a1).length 3 ((a1).flatMap e47)), (13, .int .i64 a2), (12, .bool false), (11, .bool false), (10, .int .i64 a2), (6, .int .i64 0), (0, .str a0), (1, .vec (a1).length 3 ((a1).flatMap e47)), (2, .int .i64 a2)]) (congrArg (fun z : Bool => ([(37, .bool z), (36, .bool z), (35, .bool z), (34, .bool x0_24), (33, .agg [.int .i64 x0_22.f0, .str x0_22.f1, .int .i64 x0_22.f2]), (32, .vptr [.int .i64 x0_22.f0, .str x0_22.f1, .int .i64 x0_22.f2]), (31, .int .i64 a2), (30, .vec (a1).length 3 ((a1).flatMap e47)), (29, .str a0), (28, .bool false), (27, .bool false), (26, .bool false), (25, .bool x0_15), (24, .agg [.int .i64 x0_13.f0, .str x0_13.f1, .int .i64 x0_13.f2]), (23, .vptr [.int .i64 x0_13.f0, .str x0_13.f1, .int .i64 x0_13.f2]), (22, .int .i64 (fW .i64 (a2 - 1))), (21, .int .i64 a2), (20, .vec (a1).length 3 ((a1).flatMap e47)), (19, .str a0), (18, .bool false), (17, .bool false), (16, .bool false), (15, .int .i64 (a1.length : Int)), (14, .vec (a1).length 3 ((a1).flatMap e47)), (13, .int .i64 a2), (12, .bool false), (11, .bool false), (10, .int .i64 a2), (6, .int .i64 0), (0, .str a0), (1, .vec (a1).length 3 ((a1).flatMap e47)), (2, .int .i64 a2)] : Env)) hb7) (opsD_run 3 (l' := (opsAt g49p1).toList.drop 31) (eE := E17) (H' := (mkH [])) (hs := []) (by kernel_rfl) (opsD_chk (l' := (opsAt g49p1).toList.drop 32) (eE := ((41, .vptr [.int .i64 x0_31.f0, .str x0_31.f1, .int .i64 x0_31.f2]) :: E17)) (hs := []) (x := x0_31) (fun (x0_31 : S46) => (.vptr [.int .i64 x0_31.f0, .str x0_31.f1, .int .i64 x0_31.f2], (mkH []))) (vidxH (sz := 3) e47_len (by kernel_rfl)) hx0_31 (by kernel_rfl) (opsD_run 1 (l' := (opsAt g49p1).toList.drop 33) (eE := ((42, .agg [.int .i64 x0_31.f0, .str x0_31.f1, .int .i64 x0_31.f2]) :: (41, .vptr [.int .i64 x0_31.f0, .str x0_31.f1, .int .i64 x0_31.f2]) :: E17)) (H' := (mkH [])) (hs := []) (by kernel_rfl) (opsD_call (l' := (opsAt g49p1).toList.drop 34) (eE := ((43, .int .i64 x0_33) :: (42, .agg [.int .i64 x0_31.f0, .str x0_31.f1, .int .i64 x0_31.f2]) :: (41, .vptr [.int .i64 x0_31.f0, .str x0_31.f1, .int .i64 x0_31.f2]) :: E17)) (hs := [(mkH [])]) (fi := 38) (args := [.agg [.int .i64 x0_31.f0, .str x0_31.f1, .int .i64 x0_31.f2]]) (v := .int .i64 x0_33) (by kernel_rfl) (by kernel_rfl) (by kernel_rfl) (g38_ok k (⟨x0_31.f0, x0_31.f1, x0_31.f2⟩ : S46) x0_33 hx0_33) (by kernel_rfl) (opsD_run 2 (l' := (opsAt g49p1).toList.drop 36) (eE := E18) (H' := (mkH [])) (hs := []) (by kernel_rfl) (opsD_chk (l' := (opsAt g49p1).toList.drop 37) (eE := ((46, .vptr [.int .i64 x0_36.f0, .str x0_36.f1, .int .i64 x0_36.f2]) :: E18)) (hs := []) (x := x0_36) (fun (x0_36 : S46) => (.vptr [.int .i64 x0_36.f0, .str x0_36.f1, .int .i64 x0_36.f2], (mkH []))) (vidxH (sz := 3) e47_len (by kernel_rfl)) hx0_36 (by kernel_rfl) (opsD_run 4 (l' := (opsAt g49p1).toList.drop 41) (eE := E19) (H' := (mkH [])) (hs := []) (by kernel_rfl) (.nil)))))))))))))))))))))))) (by kernel_rfl) (by kernel_rfl) (by kernel_rfl) ?_
      refine oK [0, 1, 2, 50] (eE := [(0, .str a0), (1, .vec (a1).length 3 ((a1).flatMap e47)), (2, .int .i64 a2), (50, .bool (decide (x0_36.f2 < x0_33)))]) (by kernel_rfl) ?_
      exact hj4 (decide (x0_36.f2 < x0_33))
end
end Go.Proofs.Ytbmijiibfaacmaa.Am
set_option maxRecDepth 100000
set_option linter.unusedVariables false
namespace Go.Proofs.Ytbmijiibfaacmaa.Am
noncomputable section
open Go
def X37 : Fx Bool := ⟨Try.prog, cx, Try.f37, fun r => .bool r, 0, fun _ => H0, cxTi, cxOrd⟩
def g37p0 : Pt := nav [0] (bodyAt Try.f37)
def g37p1 : Pt := nav [0, 0, 0] g37p0
def g37 (k : Nat) (a0 : (List Nat)) (a1 : (List S46)) (a2 : Int) : Option Bool :=
 (g49 k a0 a1 a2).bind fun x0_3 => some (decide (1 < x0_3))
theorem g37_ok (k : Nat) (a0 : (List Nat)) (a1 : (List S46)) (a2 : Int) (r : Bool) (h : g37 k a0 a1 a2 = some r) : PureOk Try.prog 37 [.str a0, .vec (a1).length 3 ((a1).flatMap e47), .int .i64 a2] (.bool r) := by
 refine pure_of X37 (fun _ => rfl) Try.func37 (by decide +kernel) (by kernel_rfl) (t := g37 k a0 a1 a2) ?_ h
 unfold g37
 refine oE (eE := [(0, .str a0), (1, .vec (a1).length 3 ((a1).flatMap e47)), (2, .int .i64 a2)]) (by kernel_rfl) ?_
 let E1 : Env := [(9, .int .i64 a2), (8, .vec (a1).length 3 ((a1).flatMap e47)), (7, .str a0), (6, .bool false), (0, .str a0), (1, .vec (a1).length 3 ((a1).flatMap e47)), (2, .int .i64 a2)]
 refine oR 9 (p' := (atN 3 (ctl1 g37p1))) (eE := E1) (H' := (mkH [])) (by kernel_rfl) ?_
 refine oC (fun (x0_3 : Int) => .int .i64 x0_3) (atN 4 (ctl1 g37p1)) (fun x0_3 => ((10, .int .i64 x0_3) :: E1)) (fi := 49) (args := [.str a0, .vec (a1).length 3 ((a1).flatMap e47), .int .i64 a2]) (by kernel_rfl) (by kernel_rfl) (fun _ => by kernel_rfl) (fun r h => g49_ok k a0 a1 a2 r h) (fun _ => by kernel_rfl) (fun x0_3 hx0_3 => ?_)
 refine oR 4 (p' := .fin) (eE := ((6, .bool (decide (1 < x0_3))) :: (11, .bool (decide (1 < x0_3))) :: (10, .int .i64 x0_3) :: E1)) (H' := (mkH [])) (by kernel_rfl) ?_
 exact oT (r := (decide (1 < x0_3))) (xs := [.bool (decide (1 < x0_3))]) (v := .bool (decide (1 < x0_3))) (by kernel_rfl) (by kernel_rfl) (by kernel_rfl) (.pures (by kernel_rfl)) (by kernel_rfl)
end
end Go.Proofs.Ytbmijiibfaacmaa.Am
set_option maxRecDepth 100000
set_option linter.unusedVariables false
namespace Go.Proofs.Ytbmijiibfaacmaa.Am
noncomputable section
open Go
def X48 : Fx Int := ⟨Try.prog, cx, Try.f48, fun r => .int .i64 r, 0, fun _ => H0, cxTi, cxOrd⟩
def g48 (k : Nat) (a0 : S46) : Option Int :=
 some (fW .i64 (a0.f2 + (a0.f1.length : Int)))
theorem g48_ok (k : Nat) (a0 : S46) (r : Int) (h : g48 k a0 = some r) : PureOk Try.prog 48 [.agg [.int .i64 a0.f0, .str a0.f1, .int .i64 a0.f2]] (.int .i64 r) := by
 refine pure_of X48 (fun _ => rfl) Try.func48 (by decide +kernel) (by kernel_rfl) (t := g48 k a0) ?_ h
 unfold g48
 refine oE (eE := [(0, .agg [.int .i64 a0.f0, .str a0.f1, .int .i64 a0.f2])]) (by kernel_rfl) ?_
 let E1 : Env := [(2, .int .i64 (fW .i64 (a0.f2 + (a0.f1.length : Int)))), (8, .int .i64 (fW .i64 (a0.f2 + (a0.f1.length : Int)))), (7, .int .i64 (a0.f1.length : Int)), (6, .str a0.f1), (5, .ptr 0 3 1), (4, .int .i64 a0.f2), (3, .ptr 0 3 2), (2, .int .i64 0), (1, .ptr 0 3 0), (0, .agg [.int .i64 a0.f0, .str a0.f1, .int .i64 a0.f2])]
 refine oR 16 (p' := .fin) (eE := E1) (H' := (mkH [⟨[.int .i64 a0.f0, .str a0.f1, .int .i64 a0.f2], 0, false⟩])) (by kernel_rfl) ?_
 exact oT (r := (fW .i64 (a0.f2 + (a0.f1.length : Int)))) (xs := [.int .i64 (fW .i64 (a0.f2 + (a0.f1.length : Int)))]) (v := .int .i64 (fW .i64 (a0.f2 + (a0.f1.length : Int)))) (by kernel_rfl) (by kernel_rfl) (by kernel_rfl) (.pures (by kernel_rfl)) (by kernel_rfl)
end
end Go.Proofs.Ytbmijiibfaacmaa.Am
set_option maxRecDepth 100000
set_option linter.unusedVariables false
namespace Go.Proofs.Ytbmijiibfaacmaa.Am
noncomputable section
open Go
def X35 : Fx Int := ⟨Try.prog, cx, Try.f35, fun r => .int .i64 r, 0, fun _ => H0, cxTi, cxOrd⟩
def g35p0 : Pt := nav [0] (bodyAt Try.f35)
def g35p1 : Pt := nav [0, 0, 0] g35p0
def g35p2 : Pt := nav [0, 0, 0, 0] g35p1
def g35p3 : Pt := nav [0, 0] g35p2
def g35p5 : Pt := nav [2, 0, 0, 0] g35p3
def g35p7 : Pt := nav [0, 0, 0, 0] g35p5
def g35p8 : Pt := nav [0, 0, 0] g35p7
def g35p9 : Pt := nav [0, 0] g35p8
def g35p10 : Pt := nav [1, 0, 0, 0, 0] g35p9
def g35p12 : Pt := nav [0, 0] g35p10
def g35p14 : Pt := nav [2, 0] g35p12
def g35_l4 (k : Nat)  (a0 : (List Nat)) (a1 : (List S46)) (a2 : Int) (n : Nat) : Int → Int → Option Int :=
 Nat.rec (motive := fun _ => Int → Int → Option Int) (fun _ _ => none) (fun _ ih => fun (y4_0 : Int) (y4_1 : Int) => (nthL a1 a2).bind fun x1_3 => if (decide (y4_1 < x1_3.f2)) then ((nthS a0 y4_1).bind fun x2_2 => jn (fun (z5 : Int × Int) => ih z5.1 (fW .i64 (z5.2 + 1))) (fun j5 => if (decide (x2_2 = 10)) then (j5 (fW .i64 (y4_0 + 1), y4_1)) else (j5 (y4_0, y4_1)))) else (some y4_0)) n
theorem g35_l4_s (k : Nat)  (a0 : (List Nat)) (a1 : (List S46)) (a2 : Int) (n : Nat) (y4_0 : Int) (y4_1 : Int) : g35_l4 k a0 a1 a2 (n + 1) y4_0 y4_1 = ((nthL a1 a2).bind fun x1_3 => if (decide (y4_1 < x1_3.f2)) then ((nthS a0 y4_1).bind fun x2_2 => jn (fun (z5 : Int × Int) => (g35_l4 k a0 a1 a2 n) z5.1 (fW .i64 (z5.2 + 1))) (fun j5 => if (decide (x2_2 = 10)) then (j5 (fW .i64 (y4_0 + 1), y4_1)) else (j5 (y4_0, y4_1)))) else (some y4_0)) := rfl
theorem g35_l4_ok (k : Nat)  (a0 : (List Nat)) (a1 : (List S46)) (a2 : Int)  : ∀ (n : Nat) (y4_0 : Int) (y4_1 : Int), Ok X35 g35p7 [(0, .str a0), (1, .vec (a1).length 3 ((a1).flatMap e47)), (2, .int .i64 a2), (7, .int .i64 y4_0), (8, .int .i64 y4_1)] (mkH []) (g35_l4 k a0 a1 a2 n y4_0 y4_1)
 | 0, _, _ => ok_none
 | n + 1, y4_0, y4_1 => by
  have ih := g35_l4_ok k a0 a1 a2 n
  rw [g35_l4_s]
  refine ok_ent (p' := nav [0] g35p7) (by kernel_rfl) ?_
  let E4 : Env := [(25, .int .i64 a2), (24, .vec (a1).length 3 ((a1).flatMap e47)), (23, .int .i64 y4_1), (0, .str a0), (1, .vec (a1).length 3 ((a1).flatMap e47)), (2, .int .i64 a2), (7, .int .i64 y4_0), (8, .int .i64 y4_1)]
  refine oR 6 (p' := (atN 3 (ctl1 g35p8))) (eE := E4) (H' := (mkH [])) (by kernel_rfl) ?_
  refine oH (fun (x1_3 : S46) => (.vptr [.int .i64 x1_3.f0, .str x1_3.f1, .int .i64 x1_3.f2], (mkH []))) (atN 4 (ctl1 g35p8)) (fun x1_3 => ((26, .vptr [.int .i64 x1_3.f0, .str x1_3.f1, .int .i64 x1_3.f2]) :: E4)) (vidxH (sz := 3) e47_len (by kernel_rfl)) (fun _ => by kernel_rfl) (fun x1_3 hx1_3 => ?_)
  refine oR 4 (p' := g35p9) (eE := ((29, .bool (decide (y4_1 < x1_3.f2))) :: (28, .int .i64 x1_3.f2) :: (27, .vptr [.int .i64 x1_3.f2]) :: (26, .vptr [.int .i64 x1_3.f0, .str x1_3.f1, .int .i64 x1_3.f2]) :: E4)) (H' := (mkH [])) (by kernel_rfl) ?_
  refine oS 29 (b := decide (y4_1 < x1_3.f2)) (by kernel_rfl) (fun hb => ?_) (fun hb => ?_)
  ·let E5 : Env := ((33, .int .i64 y4_1) :: (32, .str a0) :: (29, .bool true) :: (29, .bool (decide (y4_1 < x1_3.f2))) :: (28, .int .i64 x1_3.f2) :: (27, .vptr [.int .i64 x1_3.f2]) :: (26, .vptr [.int .i64 x1_3.f0, .str x1_3.f1, .int .i64 x1_3.f2]) :: E4)
   refine oR 8 (p' := (atN 2 (ctl1 g35p10))) (eE := E5) (H' := (mkH [])) (by kernel_rfl) ?_
   refine oH (fun (x2_2 : Int) => (.int .u8 x2_2, (mkH []))) (atN 3 (ctl1 g35p10)) (fun x2_2 => ((34, .int .u8 x2_2) :: E5)) (idxH (by kernel_rfl)) (fun _ => by kernel_rfl) (fun x2_2 hx2_2 => ?_)
   refine oR 2 (p' := g35p12) (eE := ((35, .bool (decide (x2_2 = 10))) :: (34, .int .u8 x2_2) :: E5)) (H' := (mkH [])) (by kernel_rfl) ?_
   refine oK [0, 1, 2, 7, 8, 35] (eE := [(0, .str a0), (1, .vec (a1).length 3 ((a1).flatMap e47)), (2, .int .i64 a2), (7, .int .i64 y4_0), (8, .int .i64 y4_1), (35, .bool (decide (x2_2 = 10)))]) (by kernel_rfl) ?_
   refine oJ (f := fun (z5 : Int × Int) => (g35_l4 k a0 a1 a2 n) z5.1 (fW .i64 (z5.2 + 1))) g35p14 (fun (z5 : Int × Int) => [(0, .str a0), (1, .vec (a1).length 3 ((a1).flatMap e47)), (2, .int .i64 a2), (7, .int .i64 z5.1), (8, .int .i64 z5.2)]) (fun (z5 : Int × Int) => (mkH [])) (fun z5 => ?_) (fun j5 hj5 => ?_)
   ·let E6 : Env := [(8, .int .i64 (fW .i64 (z5.2 + 1))), (31, .int .i64 (fW .i64 (z5.2 + 1))), (30, .int .i64 z5.2), (0, .str a0), (1, .vec (a1).length 3 ((a1).flatMap e47)), (2, .int .i64 a2), (7, .int .i64 z5.1), (8, .int .i64 z5.2)]
    refine oR 5 (p' := g35p7) (eE := E6) (H' := (mkH [])) (by kernel_rfl) ?_
    refine oK [0, 1, 2, 7, 8] (eE := [(0, .str a0), (1, .vec (a1).length 3 ((a1).flatMap e47)), (2, .int .i64 a2), (7, .int .i64 z5.1), (8, .int .i64 (fW .i64 (z5.2 + 1)))]) (by kernel_rfl) ?_
    exact ih z5.1 (fW .i64 (z5.2 + 1))
   ·refine oS 35 (b := decide (x2_2 = 10)) (by kernel_rfl) (fun hb => ?_) (fun hb => ?_)
    ·let E7 : Env := [(7, .int .i64 (fW .i64 (y4_0 + 1))), (37, .int .i64 (fW .i64 (y4_0 + 1))), (36, .int .i64 y4_0), (35, .bool true), (0, .str a0), (1, .vec (a1).length 3 ((a1).flatMap e47)), (2, .int .i64 a2), (7, .int .i64 y4_0), (8, .int .i64 y4_1), (35, .bool (decide (x2_2 = 10)))]
     refine oR 6 (p' := g35p14) (eE := E7) (H' := (mkH [])) (by kernel_rfl) ?_
     refine oK [0, 1, 2, 7, 8] (eE := [(0, .str a0), (1, .vec (a1).length 3 ((a1).flatMap e47)), (2, .int .i64 a2), (7, .int .i64 (fW .i64 (y4_0 + 1))), (8, .int .i64 y4_1)]) (by kernel_rfl) ?_
     exact hj5 (fW .i64 (y4_0 + 1), y4_1)
    ·let E8 : Env := [(35, .bool false), (0, .str a0), (1, .vec (a1).length 3 ((a1).flatMap e47)), (2, .int .i64 a2), (7, .int .i64 y4_0), (8, .int .i64 y4_1), (35, .bool (decide (x2_2 = 10)))]
     refine oR 2 (p' := g35p14) (eE := E8) (H' := (mkH [])) (by kernel_rfl) ?_
     refine oK [0, 1, 2, 7, 8] (eE := [(0, .str a0), (1, .vec (a1).length 3 ((a1).flatMap e47)), (2, .int .i64 a2), (7, .int .i64 y4_0), (8, .int .i64 y4_1)]) (by kernel_rfl) ?_
     exact hj5 (y4_0, y4_1)
  ·let E9 : Env := ((6, .int .i64 y4_0) :: (38, .int .i64 y4_0) :: (29, .bool false) :: (29, .bool (decide (y4_1 < x1_3.f2))) :: (28, .int .i64 x1_3.f2) :: (27, .vptr [.int .i64 x1_3.f2]) :: (26, .vptr [.int .i64 x1_3.f0, .str x1_3.f1, .int .i64 x1_3.f2]) :: E4)
   refine oR 8 (p' := .fin) (eE := E9) (H' := (mkH [])) (by kernel_rfl) ?_
   exact oT (r := y4_0) (xs := [.int .i64 y4_0]) (v := .int .i64 y4_0) (by kernel_rfl) (by kernel_rfl) (by kernel_rfl) (.pures (by kernel_rfl)) (by kernel_rfl)
def g35 (k : Nat) (a0 : (List Nat)) (a1 : (List S46)) (a2 : Int) : Option Int :=
 jn (fun (z3 : Bool) => if z3 then (some (0 : Int)) else ((nthL a1 (fW .i64 (a2 - 1))).bind fun x0_3 => (g48 k (⟨x0_3.f0, x0_3.f1, x0_3.f2⟩ : S46)).bind fun x0_5 => g35_l4 k a0 a1 a2 k 0 x0_5)) (fun j3 => if (decide (a2 < 1)) then (j3 true) else (j3 (decide ((a1.length : Int) ≤ a2))))
theorem g35_ok (k : Nat) (a0 : (List Nat)) (a1 : (List S46)) (a2 : Int) (r : Int) (h : g35 k a0 a1 a2 = some r) : PureOk Try.prog 35 [.str a0, .vec (a1).length 3 ((a1).flatMap e47), .int .i64 a2] (.int .i64 r) := by
 refine pure_of X35 (fun _ => rfl) Try.func35 (by decide +kernel) (by kernel_rfl) (t := g35 k a0 a1 a2) ?_ h
 unfold g35
 refine oE (eE := [(0, .str a0), (1, .vec (a1).length 3 ((a1).flatMap e47)), (2, .int .i64 a2)]) (by kernel_rfl) ?_
 let E1 : Env := [(11, .bool (decide (a2 < 1))), (10, .bool (decide (a2 < 1))), (9, .int .i64 a2), (7, .int .i64 0), (6, .int .i64 0), (0, .str a0), (1, .vec (a1).length 3 ((a1).flatMap e47)), (2, .int .i64 a2)]
 refine oR 14 (p' := (atN 3 (ctl1 g35p2))) (eE := E1) (H' := (mkH [])) (by kernel_rfl) ?_
 refine oJ (f := fun (z3 : Bool) => if z3 then (some (0 : Int)) else ((nthL a1 (fW .i64 (a2 - 1))).bind fun x0_3 => (g48 k (⟨x0_3.f0, x0_3.f1, x0_3.f2⟩ : S46)).bind fun x0_5 => g35_l4 k a0 a1 a2 k 0 x0_5)) g35p3 (fun (z3 : Bool) => [(0, .str a0), (1, .vec (a1).length 3 ((a1).flatMap e47)), (2, .int .i64 a2), (7, .int .i64 0), (16, .bool z3)]) (fun (z3 : Bool) => (mkH [])) (fun z3 => ?_) (fun j3 hj3 => ?_)
 ·refine oS 16 (b := z3) (by kernel_rfl) (fun hb => ?_) (fun hb => ?_)
  ·let E2 : Env := [(6, .int .i64 0), (16, .bool true), (0, .str a0), (1, .vec (a1).length 3 ((a1).flatMap e47)), (2, .int .i64 a2), (7, .int .i64 0), (16, .bool z3)]
   refine oR 6 (p' := .fin) (eE := E2) (H' := (mkH [])) (by kernel_rfl) ?_
   exact oT (r := (0 : Int)) (xs := [.int .i64 0]) (v := .int .i64 0) (by kernel_rfl) (by kernel_rfl) (by kernel_rfl) (.pures (by kernel_rfl)) (by kernel_rfl)
  ·let E3 : Env := [(19, .int .i64 (fW .i64 (a2 - 1))), (18, .int .i64 a2), (17, .vec (a1).length 3 ((a1).flatMap e47)), (16, .bool false), (0, .str a0), (1, .vec (a1).length 3 ((a1).flatMap e47)), (2, .int .i64 a2), (7, .int .i64 0), (16, .bool z3)]
   refine oR 8 (p' := (atN 3 (ctl1 g35p5))) (eE := E3) (H' := (mkH [])) (by kernel_rfl) ?_
   refine oH (fun (x0_3 : S46) => (.vptr [.int .i64 x0_3.f0, .str x0_3.f1, .int .i64 x0_3.f2], (mkH []))) (atN 4 (ctl1 g35p5)) (fun x0_3 => ((20, .vptr [.int .i64 x0_3.f0, .str x0_3.f1, .int .i64 x0_3.f2]) :: E3)) (vidxH (sz := 3) e47_len (by kernel_rfl)) (fun _ => by kernel_rfl) (fun x0_3 hx0_3 => ?_)
   refine oR 1 (p' := (atN 5 (ctl1 g35p5))) (eE := ((21, .agg [.int .i64 x0_3.f0, .str x0_3.f1, .int .i64 x0_3.f2]) :: (20, .vptr [.int .i64 x0_3.f0, .str x0_3.f1, .int .i64 x0_3.f2]) :: E3)) (H' := (mkH [])) (by kernel_rfl) ?_
   refine oC (fun (x0_5 : Int) => .int .i64 x0_5) (atN 6 (ctl1 g35p5)) (fun x0_5 => ((22, .int .i64 x0_5) :: (21, .agg [.int .i64 x0_3.f0, .str x0_3.f1, .int .i64 x0_3.f2]) :: (20, .vptr [.int .i64 x0_3.f0, .str x0_3.f1, .int .i64 x0_3.f2]) :: E3)) (fi := 48) (args := [.agg [.int .i64 x0_3.f0, .str x0_3.f1, .int .i64 x0_3.f2]]) (by kernel_rfl) (by kernel_rfl) (fun _ => by kernel_rfl) (fun r h => g48_ok k (⟨x0_3.f0, x0_3.f1, x0_3.f2⟩ : S46) r h) (fun _ => by kernel_rfl) (fun x0_5 hx0_5 => ?_)
   refine oR 4 (p' := g35p7) (eE := ((8, .int .i64 x0_5) :: (22, .int .i64 x0_5) :: (21, .agg [.int .i64 x0_3.f0, .str x0_3.f1, .int .i64 x0_3.f2]) :: (20, .vptr [.int .i64 x0_3.f0, .str x0_3.f1, .int .i64 x0_3.f2]) :: E3)) (H' := (mkH [])) (by kernel_rfl) ?_
   refine oK [0, 1, 2, 7, 8] (eE := [(0, .str a0), (1, .vec (a1).length 3 ((a1).flatMap e47)), (2, .int .i64 a2), (7, .int .i64 0), (8, .int .i64 x0_5)]) (by kernel_rfl) ?_
   exact (g35_l4_ok k a0 a1 a2 k) 0 x0_5
 ·refine oS 11 (b := decide (a2 < 1)) (by kernel_rfl) (fun hb => ?_) (fun hb => ?_)
  ·let E10 : Env := ((16, .bool true) :: (15, .tuple []) :: (14, .tuple []) :: (13, .tuple []) :: (12, .tuple []) :: (11, .bool true) :: E1)
   refine oR 6 (p' := g35p3) (eE := E10) (H' := (mkH [])) (by kernel_rfl) ?_
   refine oK [0, 1, 2, 7, 16] (eE := [(0, .str a0), (1, .vec (a1).length 3 ((a1).flatMap e47)), (2, .int .i64 a2), (7, .int .i64 0), (16, .bool true)]) (by kernel_rfl) ?_
   exact hj3 true
  ·let E11 : Env := ((16, .bool (decide ((a1.length : Int) ≤ a2))) :: (15, .bool (decide ((a1.length : Int) ≤ a2))) :: (14, .int .i64 (a1.length : Int)) :: (13, .vec (a1).length 3 ((a1).flatMap e47)) :: (12, .int .i64 a2) :: (11, .bool false) :: E1)
   refine oR 6 (p' := g35p3) (eE := E11) (H' := (mkH [])) (by kernel_rfl) ?_
   refine oK [0, 1, 2, 7, 16] (eE := [(0, .str a0), (1, .vec (a1).length 3 ((a1).flatMap e47)), (2, .int .i64 a2), (7, .int .i64 0), (16, .bool (decide ((a1.length : Int) ≤ a2)))]) (by kernel_rfl) ?_
   exact hj3 (decide ((a1.length : Int) ≤ a2))
end
end Go.Proofs.Ytbmijiibfaacmaa.Am
set_option maxRecDepth 100000
set_option linter.unusedVariables false
set_option linter.unusedSimpArgs false
namespace Go.Proofs.Ytbmijiibfaacmaa.Am
open Go
def nlF (s : List Nat) (e : Nat) : Nat → Nat → Nat
 | 0, _ => 0
 | d + 1, i => if e ≤ i then 0 else (match s.drop i with | c :: _ => if c = 10 then 1 else 0 | [] => 0) + nlF s e d (i + 1)
def gapN (s : List Nat) (l : List (Nat × Nat × Nat)) (k : Nat) : Nat := match l.drop (k - 1) with | x :: y :: _ => nlF s y.2.1 (y.2.1 - (x.2.1 + x.2.2)) (x.2.1 + x.2.2) | _ => 0
def gapI (s : List Nat) (l : List (Nat × Nat × Nat)) (k : Int) : Nat := if 1 ≤ k ∧ k < l.length then gapN s l k.toNat else 0
theorem toks_pair {s : List Nat} : ∀ {l : List (Nat × Nat × Nat)} {a i : Nat} {x y : Nat × Nat × Nat} {r : List (Nat × Nat × Nat)}, Toks s a l → l.drop i = x :: y :: r → x.2.1 + x.2.2 ≤ y.2.1
 | [], a, i, x, y, r, h, hd => by simp at hd
 | z :: l, a, 0, x, y, r, h, hd => by
  rw [List.drop_zero] at hd
  obtain ⟨rfl, rfl⟩ := List.cons.inj hd
  simp only [Toks] at h
  omega
 | z :: l, a, i + 1, x, y, r, h, hd => by
  rw [List.drop_succ_cons] at hd
  simp only [Toks] at h
  exact toks_pair h.2.2.2.2 hd
theorem map_drop' {α β : Type} {f : α → β} {l : List α} {i : Nat} {x : α} {r : List α} (h : l.drop i = x :: r) : nthL (l.map f) (i : Int) = some (f x) := by
 refine nthL_at (r := r.map f) ?_
 rw [← List.map_drop, h]; rfl
theorem pair_at {l : List (Nat × Nat × Nat)} {k : Nat} (h1 : 1 ≤ k) (h2 : k < l.length) : ∃ x y r, l.drop (k - 1) = x :: y :: r ∧ l.drop k = y :: r ∧ x ∈ l ∧ y ∈ l := by
 obtain ⟨x, r, hx, hr, hxm, -⟩ := dconsL (s := l) (i := k - 1) (by omega)
 obtain ⟨y, r2, hy, -, hym, -⟩ := dconsL (s := l) (i := k) h2
 rw [show k - 1 + 1 = k by omega, hy] at hr
 exact ⟨x, y, r2, by rw [hx, ← hr], hy, hxm, hym⟩
theorem tok_end {s : List Nat} {x : Nat × Nat × Nat} (h : x.2.1 + x.2.2 ≤ s.length) : (mkTok s x).f2 + ((mkTok s x).f1.length : Int) = ((x.2.1 + x.2.2 : Nat) : Int) := by
 have : ((s.drop x.2.1).take x.2.2).length = x.2.2 := by rw [List.length_take, List.length_drop]; omega
 show (x.2.1 : Int) + (((s.drop x.2.1).take x.2.2).length : Int) = _
 rw [this]; push_cast; rfl
theorem rnewl_l (k : Nat) {s : List Nat} (hl : s.length ≤ 2000) {L : List S46} {kk : Int} {y : Nat × Nat × Nat} (hk : nthL L kk = some (mkTok s y)) (hy : y.2.1 ≤ s.length) : ∀ (d f i c : Nat), i + d = y.2.1 → d < f → c ≤ i →
 g35_l4 k s L kk f (c : Int) (i : Int) = some ((c + nlF s y.2.1 d i : Nat) : Int)
 | 0, f, i, c, h, hf, hc => by
  obtain ⟨f, rfl⟩ : ∃ g, f = g + 1 := ⟨f - 1, by omega⟩
  rw [g35_l4_s]
  refine bS (by (try simp (disch := omega) only [fwI]); exact hk) ?_
  refine iF (dF (show ¬ (i : Int) < (y.2.1 : Int) by omega)) ?_
  rfl
 | d + 1, f, i, c, h, hf, hc => by
  obtain ⟨f, rfl⟩ : ∃ g, f = g + 1 := ⟨f - 1, by omega⟩
  rw [g35_l4_s]
  refine bS (by (try simp (disch := omega) only [fwI]); exact hk) ?_
  obtain ⟨b, r, hb, -, -, -⟩ := dcons (s := s) (i := i) (by omega)
  have nb := nthX (x := (i : Int)) rfl hb
  refine iT (dT (show (i : Int) < (y.2.1 : Int) by omega)) ?_
  refine bS (by (try simp (disch := omega) only [fwI]); exact nb) ?_
  simp only [nlF]
  rw [if_neg (by omega), hb]
  simp only []
  by_cases h10 : b = 10
  ·have ih := rnewl_l k hl hk hy d f (i + 1) (c + 1) (by omega) (by omega) (by omega)
   refine (jS (v := (((c + 1 : Nat) : Int), (i : Int))) (fun j => ?_)).trans ?_
   ·refine iT (dT (by omega)) ?_
    rw [fw_s (by omega)]
   ·show g35_l4 k s L kk f ((c + 1 : Nat) : Int) (fW .i64 ((i : Int) + 1)) = _
    rw [fw_s (by omega), if_pos h10]
    exact ih.trans (sn (by omega))
  ·have ih := rnewl_l k hl hk hy d f (i + 1) c (by omega) (by omega) (by omega)
   refine (jS (v := ((c : Int), (i : Int))) (fun j => ?_)).trans ?_
   ·exact iF (dF (by omega)) rfl
   ·show g35_l4 k s L kk f (c : Int) (fW .i64 ((i : Int) + 1)) = _
    rw [fw_s (by omega), if_neg h10]
    exact ih.trans (sn (by omega))
theorem rnewl_at {k : Nat} {s : List Nat} (hk : s.length + 10 ≤ k) (hl : s.length ≤ 2000) {l : List (Nat × Nat × Nat)} (ht : Toks s 0 l) (kk : Int) : g35 k s (l.map (mkTok s)) kk = some ((gapI s l kk : Nat) : Int) := by
 unfold g35 gapI
 have ll : ((l.map (mkTok s)).length : Int) = (l.length : Int) := by simp
 by_cases h : 1 ≤ kk ∧ kk < l.length
 ·rw [if_pos h]
  obtain ⟨n, rfl⟩ : ∃ n : Nat, kk = (n : Int) := ⟨kk.toNat, by omega⟩
  obtain ⟨x, y, r, h1, h2, h3, h4⟩ := pair_at (l := l) (k := n) (by omega) (by omega)
  have bx := toks_bounds ht (Nat.zero_le _) x h3
  have bY := toks_bounds ht (Nat.zero_le _) y h4
  have pr := toks_pair ht h1
  have cl : l.length ≤ s.length := toks_len s (s.length + 1) 0 l ((toks_iff s (s.length + 1) 0 l (by omega)).2 ht) (Nat.zero_le _)
  refine (jS (v := false) (fun j => ?_)).trans ?_
  ·refine iF (dF (by omega)) ?_
   rw [dF (by omega)]
  ·refine iF rfl ?_
   rw [show fW .i64 ((n : Int) - 1) = ((n - 1 : Nat) : Int) from by rw [fwI (by omega) (by omega)]; omega]
   refine bS (by (try simp (disch := omega) only [fwI]); exact map_drop' h1) ?_
   have ge : g48 k (⟨(mkTok s x).f0, (mkTok s x).f1, (mkTok s x).f2⟩ : S46) = some ((x.2.1 + x.2.2 : Nat) : Int) := by
    unfold g48
    show some (fW .i64 ((mkTok s x).f2 + ((mkTok s x).f1.length : Int))) = _
    rw [tok_end bx.2.1, fwI (by omega) (by omega)]
   refine bS (by (try simp (disch := omega) only [fwI]); exact ge) ?_
   refine (rnewl_l k hl (map_drop' h2) (by omega) (y.2.1 - (x.2.1 + x.2.2)) k (x.2.1 + x.2.2) 0 (by omega) (by omega) (by omega)).trans ?_
   rw [Int.toNat_natCast]
   unfold gapN
   rw [h1, Nat.zero_add]
 ·rw [if_neg h]
  refine (jS (v := true) (fun j => ?_)).trans rfl
  by_cases h1 : kk < 1
  ·exact iT (dT h1) rfl
  ·refine iF (dF h1) ?_
   rw [dT (by omega)]
theorem ends_l (k : Nat) {s : List Nat} (hl : s.length ≤ 2000) {L : List S46} {kk : Int} {y : Nat × Nat × Nat} (hk : nthL L kk = some (mkTok s y)) (hy : y.2.1 ≤ s.length) : ∀ (d f i c : Nat), i + d = y.2.1 → d < f → c ≤ i →
 g49_l5 k s L kk f (i : Int) (c : Int) = some ((c + nlF s y.2.1 d i : Nat) : Int)
 | 0, f, i, c, h, hf, hc => by
  obtain ⟨f, rfl⟩ : ∃ g, f = g + 1 := ⟨f - 1, by omega⟩
  rw [g49_l5_s]
  refine bS (by (try simp (disch := omega) only [fwI]); exact hk) ?_
  refine iF (dF (show ¬ (i : Int) < (y.2.1 : Int) by omega)) ?_
  rfl
 | d + 1, f, i, c, h, hf, hc => by
  obtain ⟨f, rfl⟩ : ∃ g, f = g + 1 := ⟨f - 1, by omega⟩
  rw [g49_l5_s]
  refine bS (by (try simp (disch := omega) only [fwI]); exact hk) ?_
  obtain ⟨b, r, hb, -, -, -⟩ := dcons (s := s) (i := i) (by omega)
  have nb := nthX (x := (i : Int)) rfl hb
  refine iT (dT (show (i : Int) < (y.2.1 : Int) by omega)) ?_
  refine bS (by (try simp (disch := omega) only [fwI]); exact nb) ?_
  have gc : g49f67_0 k (b : Int) (c : Int) = some ((c + (if b = 10 then 1 else 0) : Nat) : Int) := by
   unfold g49f67_0
   by_cases h10 : b = 10
   ·rw [if_pos h10]
    refine iT (dT (by omega)) ?_
    rw [fw_s (by omega)]
   ·rw [if_neg h10]
    exact iF (dF (by omega)) rfl
  refine bS (by (try simp (disch := omega) only [fwI]); exact gc) ?_
  simp only [nlF]
  rw [if_neg (show ¬ y.2.1 ≤ i by omega), hb, fw_s (n := i) (by omega)]
  simp only []
  clear gc
  have hle : (if b = 10 then 1 else 0) ≤ 1 := by split <;> omega
  generalize (if b = 10 then 1 else 0) = z at *
  have ih := ends_l k hl hk hy d f (i + 1) (c + z) (by omega) (by omega) (by omega)
  exact ih.trans (sn (by omega))
theorem in_at {k : Nat} {s : List Nat} (hl : s.length ≤ 2000) {x : Nat × Nat × Nat} (h : x.2.1 + x.2.2 ≤ s.length) : g66 k s (⟨(mkTok s x).f0, (mkTok s x).f1, (mkTok s x).f2⟩ : S46) = some true := by
 have tl : ((s.drop x.2.1).take x.2.2).length = x.2.2 := by rw [List.length_take, List.length_drop]; omega
 unfold g66
 refine iT (dT (show (0 : Int) ≤ (x.2.1 : Int) by omega)) ?_
 refine iT (dT (show (x.2.1 : Int) ≤ (s.length : Int) by omega)) ?_
 show some (decide ((((s.drop x.2.1).take x.2.2).length : Int) ≤ fW .i64 ((s.length : Int) - (x.2.1 : Int)))) = _
 rw [tl, fw_d (by omega) (by omega), dT (by omega)]
theorem gend_at {k : Nat} {s : List Nat} (hl : s.length ≤ 2000) {x : Nat × Nat × Nat} (h : x.2.1 + x.2.2 ≤ s.length) : g38 k (⟨(mkTok s x).f0, (mkTok s x).f1, (mkTok s x).f2⟩ : S46) = some ((x.2.1 + x.2.2 : Nat) : Int) := by
 unfold g38
 show some (fW .i64 ((mkTok s x).f2 + ((mkTok s x).f1.length : Int))) = _
 rw [tok_end h, fwI (by omega) (by omega)]
theorem ends_at {k : Nat} {s : List Nat} (hk : s.length + 10 ≤ k) (hl : s.length ≤ 2000) {l : List (Nat × Nat × Nat)} (ht : Toks s 0 l) (kk : Int) : g49 k s (l.map (mkTok s)) kk = some ((gapI s l kk : Nat) : Int) := by
 unfold g49 gapI
 have ll : ((l.map (mkTok s)).length : Int) = (l.length : Int) := by simp
 by_cases h : 1 ≤ kk ∧ kk < l.length
 ·rw [if_pos h]
  obtain ⟨n, rfl⟩ : ∃ n : Nat, kk = (n : Int) := ⟨kk.toNat, by omega⟩
  obtain ⟨x, y, r, h1, h2, h3, h4⟩ := pair_at (l := l) (k := n) (by omega) (by omega)
  have bx := toks_bounds ht (Nat.zero_le _) x h3
  have bY := toks_bounds ht (Nat.zero_le _) y h4
  have cl : l.length ≤ s.length := toks_len s (s.length + 1) 0 l ((toks_iff s (s.length + 1) 0 l (by omega)).2 ht) (Nat.zero_le _)
  have pr := toks_pair ht h1
  have e1 := fun _ : Unit => (show fW .i64 ((n : Int) - 1) = ((n - 1 : Nat) : Int) from by rw [fwI (by omega) (by omega)]; omega)
  refine (jS (v := false) (fun j => ?_)).trans ?_
  ·refine iF (dF (by omega)) ?_
   refine iF (dF (by omega)) ?_
   rw [e1 ()]
   refine bS (by (try simp (disch := omega) only [fwI]); exact map_drop' h1) ?_
   refine bS (by (try simp (disch := omega) only [fwI]); exact in_at hl bx.2.1) ?_
   refine iF rfl ?_
   refine bS (by (try simp (disch := omega) only [fwI]); exact map_drop' h2) ?_
   refine bS (by (try simp (disch := omega) only [fwI]); exact in_at hl bY.2.1) ?_
   refine iF rfl ?_
   refine bS (by (try simp (disch := omega) only [fwI]); exact map_drop' h1) ?_
   refine bS (by (try simp (disch := omega) only [fwI]); exact gend_at hl bx.2.1) ?_
   refine bS (by (try simp (disch := omega) only [fwI]); exact map_drop' h2) ?_
   rw [show (mkTok s y).f2 = (y.2.1 : Int) from rfl, dF (show ¬ (y.2.1 : Int) < ((x.2.1 + x.2.2 : Nat) : Int) by omega)]
  ·refine iF rfl ?_
   rw [e1 ()]
   refine bS (by (try simp (disch := omega) only [fwI]); exact map_drop' h1) ?_
   refine bS (by (try simp (disch := omega) only [fwI]); exact gend_at hl bx.2.1) ?_
   refine (ends_l k hl (map_drop' h2) (by omega) (y.2.1 - (x.2.1 + x.2.2)) k (x.2.1 + x.2.2) 0 (by omega) (by omega) (by omega)).trans ?_
   rw [Int.toNat_natCast]
   unfold gapN
   rw [h1, Nat.zero_add]
 ·rw [if_neg h]
  refine (jS (v := true) (fun j => ?_)).trans rfl
  by_cases h1 : kk < 1
  ·exact iT (dT h1) rfl
  ·refine iF (dF h1) ?_
   exact iT (dT (by omega)) rfl
theorem gblank_at {k : Nat} {s : List Nat} (hk : s.length + 10 ≤ k) (hl : s.length ≤ 2000) {l : List (Nat × Nat × Nat)} (ht : Toks s 0 l) (kk : Int) : g37 k s (l.map (mkTok s)) kk = some (decide (2 ≤ ((gapI s l kk : Nat) : Int))) := by
 unfold g37
 refine bS (by (try simp (disch := omega) only [fwI]); exact ends_at hk hl ht kk) ?_
 have : decide ((1 : Int) < ((gapI s l kk : Nat) : Int)) = decide (2 ≤ ((gapI s l kk : Nat) : Int)) := by rw [Bool.eq_iff_iff]; simp; omega
 rw [this]
end Go.Proofs.Ytbmijiibfaacmaa.Am
set_option maxRecDepth 100000
set_option linter.unusedVariables false
namespace Go.Proofs.Ytbmijiibfaacmaa.Am
noncomputable section
open Go
def X29 : Fx (List S36) := ⟨Try.prog, cx, Try.f29, fun r => .vec (r).length 4 ((r).flatMap e37), 0, fun _ => H0, cxTi, cxOrd⟩
def X29f47_1 (a_0 : Int) (a_1 : Int) (a_2 : Bool) (b_3 : (List Nat)) (b_4 : (List S46)) (b3 : (List S36)) : Fx (List S36) := ⟨Try.prog, cx, Try.f47, fun r => .tuple [], 4, fun r => (mkH [⟨[.str b_3], 0, false⟩, ⟨[.vec (b_4).length 3 ((b_4).flatMap e47)], 0, false⟩, ⟨[.own 3 (r).length 4], 1, false⟩, ⟨(r).flatMap e37, 0, false⟩]), cxTi, cxOrd⟩
def g29f47_1p0 : Pt := nav [] (bodyAt Try.f47)
def g29f47_1 (k : Nat) (a_0 : Int) (a_1 : Int) (a_2 : Bool) (b_3 : (List Nat)) (b_4 : (List S46)) (b3 : (List S36)) : Option (List S36) :=
 (g37 k b_3 b_4 a_0).bind fun x0_7 => (appS 24 b3 ([(⟨a_0, a_1, a_2, x0_7⟩ : S36)] : List S36)).bind fun x0_10 => some x0_10
theorem g29f47_1_ok (k : Nat) (a_0 : Int) (a_1 : Int) (a_2 : Bool) (b_3 : (List Nat)) (b_4 : (List S46)) (b3 : (List S36)) (r : (List S36)) (h : g29f47_1 k a_0 a_1 a_2 b_3 b_4 b3 = some r) : CallV Try.prog 47 [.int .i64 a_0, .int .i64 a_1, .bool a_2, .ptr 2 1 0, .ptr 0 1 0, .ptr 1 1 0] (mkH [⟨[.str b_3], 0, false⟩, ⟨[.vec (b_4).length 3 ((b_4).flatMap e47)], 0, false⟩, ⟨[.own 3 (b3).length 4], 1, false⟩, ⟨(b3).flatMap e37, 0, false⟩]) (.tuple []) (mkH [⟨[.str b_3], 0, false⟩, ⟨[.vec (b_4).length 3 ((b_4).flatMap e47)], 0, false⟩, ⟨[.own 3 (r).length 4], 1, false⟩, ⟨(r).flatMap e37, 0, false⟩]) := by
 refine callM_of (X29f47_1 a_0 a_1 a_2 b_3 b_4 b3) Try.func47 (by kernel_rfl) (by kernel_rfl) rfl (t := g29f47_1 k a_0 a_1 a_2 b_3 b_4 b3) ?_ h
 unfold g29f47_1
 refine oE (eE := [(0, .int .i64 a_0), (1, .int .i64 a_1), (2, .bool a_2), (3, .ptr 2 1 0), (4, .ptr 0 1 0), (5, .ptr 1 1 0)]) (by kernel_rfl) ?_
 refine ok_bind (fun x0_7 hx0_7 => ?_)
 refine ok_bind (fun x0_10 hx0_10 => ?_)
 let E1 : Env := [(15, .int .i64 a_0), (14, .vec (b_4).length 3 ((b_4).flatMap e47)), (13, .str b_3), (12, .bool a_2), (11, .int .i64 a_1), (10, .int .i64 a_0), (9, .own 3 (b3).length 4), (0, .int .i64 a_0), (1, .int .i64 a_1), (2, .bool a_2), (3, .ptr 2 1 0), (4, .ptr 0 1 0), (5, .ptr 1 1 0)]
 refine ok_draw (p' := nav [0] g29f47_1p0) (eE := ((19, .own 3 (x0_10).length 4) :: (18, .slice 4 4 0 1 4) :: (17, .agg [.int .i64 a_0, .int .i64 a_1, .bool a_2, .bool x0_7]) :: (16, .bool x0_7) :: E1)) (H' := (mkH [⟨[.str b_3], 0, false⟩, ⟨[.vec (b_4).length 3 ((b_4).flatMap e47)], 0, false⟩, ⟨[.own 3 (x0_10).length 4], 1, false⟩, ⟨(x0_10).flatMap e37, 0, false⟩, ⟨[.int .i64 a_0, .int .i64 a_1, .bool a_2, .bool x0_7], 0, false⟩])) (hs := [(mkH [⟨[.str b_3], 0, false⟩, ⟨[.vec (b_4).length 3 ((b_4).flatMap e47)], 0, false⟩, ⟨[.own 3 (b3).length 4], 1, false⟩, ⟨(b3).flatMap e37, 0, false⟩]), (mkH [⟨[.str b_3], 0, false⟩, ⟨[.vec (b_4).length 3 ((b_4).flatMap e47)], 0, false⟩, ⟨[.own 3 (b3).length 4], 1, false⟩, ⟨(b3).flatMap e37, 0, false⟩, ⟨[.int .i64 a_0, .int .i64 a_1, .bool a_2, .bool x0_7], 0, false⟩]), (mkH [⟨[.str b_3], 0, false⟩, ⟨[.vec (b_4).length 3 ((b_4).flatMap e47)], 0, false⟩, ⟨[.own 3 (b3).length 4], 1, false⟩, ⟨(x0_10).flatMap e37, 0, false⟩, ⟨[.int .i64 a_0, .int .i64 a_1, .bool a_2, .bool x0_7], 0, false⟩]), (mkH [⟨[.str b_3], 0, false⟩, ⟨[.vec (b_4).length 3 ((b_4).flatMap e47)], 0, false⟩, ⟨[.own 3 (x0_10).length 4], 1, false⟩, ⟨(x0_10).flatMap e37, 0, false⟩, ⟨[.int .i64 a_0, .int .i64 a_1, .bool a_2, .bool x0_7], 0, false⟩])]) [(0, 0, 2), (0, 0, 0), (0, 0, 0), (0, 0, 0), (0, 0, 0), (0, 0, 0), (0, 0, 0), (112, 0, 0), (254, 0, 0), (510, 0, 0), (1023, 0, 0), (2047, 0, 0)] (by kernel_rfl) (by kernel_rfl) (by kernel_rfl) (opsD_run 7 (l' := (opsAt g29f47_1p0).toList.drop 7) (eE := E1) (H' := (mkH [⟨[.str b_3], 0, false⟩, ⟨[.vec (b_4).length 3 ((b_4).flatMap e47)], 0, false⟩, ⟨[.own 3 (b3).length 4], 1, false⟩, ⟨(b3).flatMap e37, 0, false⟩])) (hs := []) (by kernel_rfl) (opsD_call (l' := (opsAt g29f47_1p0).toList.drop 8) (eE := ((16, .bool x0_7) :: E1)) (hs := [(mkH [⟨[.str b_3], 0, false⟩, ⟨[.vec (b_4).length 3 ((b_4).flatMap e47)], 0, false⟩, ⟨[.own 3 (b3).length 4], 1, false⟩, ⟨(b3).flatMap e37, 0, false⟩])]) (fi := 37) (args := [.str b_3, .vec (b_4).length 3 ((b_4).flatMap e47), .int .i64 a_0]) (v := .bool x0_7) (by kernel_rfl) (by kernel_rfl) (by kernel_rfl) (g37_ok k b_3 b_4 a_0 x0_7 hx0_7) (by kernel_rfl) (opsD_run 2 (l' := (opsAt g29f47_1p0).toList.drop 10) (eE := ((18, .slice 4 4 0 1 4) :: (17, .agg [.int .i64 a_0, .int .i64 a_1, .bool a_2, .bool x0_7]) :: (16, .bool x0_7) :: E1)) (H' := (mkH [⟨[.str b_3], 0, false⟩, ⟨[.vec (b_4).length 3 ((b_4).flatMap e47)], 0, false⟩, ⟨[.own 3 (b3).length 4], 1, false⟩, ⟨(b3).flatMap e37, 0, false⟩, ⟨[.int .i64 a_0, .int .i64 a_1, .bool a_2, .bool x0_7], 0, false⟩])) (hs := [(mkH [⟨[.str b_3], 0, false⟩, ⟨[.vec (b_4).length 3 ((b_4).flatMap e47)], 0, false⟩, ⟨[.own 3 (b3).length 4], 1, false⟩, ⟨(b3).flatMap e37, 0, false⟩, ⟨[.int .i64 a_0, .int .i64 a_1, .bool a_2, .bool x0_7], 0, false⟩])]) (by kernel_rfl) (opsD_chk (l' := (opsAt g29f47_1p0).toList.drop 11) (eE := ((19, .own 3 (x0_10).length 4) :: (18, .slice 4 4 0 1 4) :: (17, .agg [.int .i64 a_0, .int .i64 a_1, .bool a_2, .bool x0_7]) :: (16, .bool x0_7) :: E1)) (hs := [(mkH [⟨[.str b_3], 0, false⟩, ⟨[.vec (b_4).length 3 ((b_4).flatMap e47)], 0, false⟩, ⟨[.own 3 (b3).length 4], 1, false⟩, ⟨(x0_10).flatMap e37, 0, false⟩, ⟨[.int .i64 a_0, .int .i64 a_1, .bool a_2, .bool x0_7], 0, false⟩])]) (x := x0_10) (fun (x0_10 : (List S36)) => (.own 3 (x0_10).length 4, (mkH [⟨[.str b_3], 0, false⟩, ⟨[.vec (b_4).length 3 ((b_4).flatMap e47)], 0, false⟩, ⟨[.own 3 (b3).length 4], 1, false⟩, ⟨(x0_10).flatMap e37, 0, false⟩, ⟨[.int .i64 a_0, .int .i64 a_1, .bool a_2, .bool x0_7], 0, false⟩]))) (appH (sz := 4) e37_len rfl e37_one [⟨[.str b_3], 0, false⟩, ⟨[.vec (b_4).length 3 ((b_4).flatMap e47)], 0, false⟩, ⟨[.own 3 (b3).length 4], 1, false⟩, ⟨(b3).flatMap e37, 0, false⟩, ⟨[.int .i64 a_0, .int .i64 a_1, .bool a_2, .bool x0_7], 0, false⟩] 3 24 b3 ([(⟨a_0, a_1, a_2, x0_7⟩ : S36)] : List S36) rfl rfl (by kernel_rfl)) hx0_10 (by kernel_rfl) (opsD_run 1 (l' := (opsAt g29f47_1p0).toList.drop 12) (eE := ((19, .own 3 (x0_10).length 4) :: (18, .slice 4 4 0 1 4) :: (17, .agg [.int .i64 a_0, .int .i64 a_1, .bool a_2, .bool x0_7]) :: (16, .bool x0_7) :: E1)) (H' := (mkH [⟨[.str b_3], 0, false⟩, ⟨[.vec (b_4).length 3 ((b_4).flatMap e47)], 0, false⟩, ⟨[.own 3 (x0_10).length 4], 1, false⟩, ⟨(x0_10).flatMap e37, 0, false⟩, ⟨[.int .i64 a_0, .int .i64 a_1, .bool a_2, .bool x0_7], 0, false⟩])) (hs := [(mkH [⟨[.str b_3], 0, false⟩, ⟨[.vec (b_4).length 3 ((b_4).flatMap e47)], 0, false⟩, ⟨[.own 3 (x0_10).length 4], 1, false⟩, ⟨(x0_10).flatMap e37, 0, false⟩, ⟨[.int .i64 a_0, .int .i64 a_1, .bool a_2, .bool x0_7], 0, false⟩])]) (by kernel_rfl) (.nil)))))) (by kernel_rfl) (by kernel_rfl) (by kernel_rfl) ?_
 refine oK [] (eE := []) (by kernel_rfl) ?_
 refine ok_cut [⟨[.str b_3], 0, false⟩, ⟨[.vec (b_4).length 3 ((b_4).flatMap e47)], 0, false⟩, ⟨[.own 3 (x0_10).length 4], 1, false⟩, ⟨(x0_10).flatMap e37, 0, false⟩] [⟨[.int .i64 a_0, .int .i64 a_1, .bool a_2, .bool x0_7], 0, false⟩] (by kernel_rfl) rfl (by kernel_rfl) ⟨(by kernel_rfl), ⟨(by kernel_rfl), ⟨(by kernel_rfl), ⟨(purs_belows _ (purs_flatMap e37_pur _)), trivial⟩⟩⟩⟩ ?_
 exact ok_retM (r := x0_10) (xs := []) (by kernel_rfl) (by kernel_rfl) (by kernel_rfl) (by kernel_rfl)
def g29p0 : Pt := nav [0] (bodyAt Try.f29)
def g29p1 : Pt := nav [0, 0, 0] g29p0
def g29p2 : Pt := nav [0, 0, 0] g29p1
def g29p3 : Pt := nav [0, 0, 0, 0] g29p2
def g29p4 : Pt := nav [0, 0, 0, 0] g29p3
def g29p5 : Pt := nav [0, 0, 0] g29p4
def g29p6 : Pt := nav [0, 0] g29p5
def g29p7 : Pt := nav [1, 0, 0, 0, 0] g29p6
def g29p9 : Pt := nav [0, 0] g29p7
def g29p11 : Pt := nav [1, 0] g29p9
def g29p12 : Pt := nav [2, 0, 0] g29p9
def g29p13 : Pt := nav [0, 0, 0] g29p11
def g29p14 : Pt := nav [0, 0, 0, 0, 0] g29p12
def g29p15 : Pt := nav [0, 0, 0] g29p14
def g29p16 : Pt := nav [0, 0] g29p15
def g29p17 : Pt := nav [1, 0, 0, 0, 0, 0] g29p16
def g29p18 : Pt := nav [2, 0, 0] g29p16
def g29p19 : Pt := nav [0, 0] g29p17
def g29p22 : Pt := nav [2, 0, 0] g29p19
def g29p23 : Pt := nav [0, 0] g29p22
def g29_l6 (k : Nat) (c5 : Int → (List S36) → Option (List S36)) (a0 : (List Nat)) (a1 : (List S46)) (y5_0 : Int) (n : Nat) : Int → Int → Int → (List S36) → Option (List S36) :=
 Nat.rec (motive := fun _ => Int → Int → Int → (List S36) → Option (List S36)) (fun _ _ _ _ => none) (fun _ ih => fun (y6_0 : Int) (y6_1 : Int) (y6_2 : Int) (y6_3 : (List S36)) => jn (fun (z8 : Int × Int × (List S36)) => (g29f47_1 k z8.2.1 z8.1 false a0 a1 z8.2.2).bind fun x4_3 => c5 z8.1 x4_3) (fun j8 => if (decide (y6_0 < (a1.length : Int))) then ((nthL a1 y6_0).bind fun x2_2 => jn (fun (z7 : Int × Int × Int × (List S36)) => (nthL a1 z7.2.1).bind fun x3_2 => if (decide (x3_2.f0 = 10)) then (j8 (z7.1, z7.2.2.1, z7.2.2.2)) else (ih (fW .i64 (z7.2.1 + 1)) z7.1 z7.2.2.1 z7.2.2.2)) (fun j7 => if (!decide (x2_2.f0 = 11)) then (j7 (fW .i64 (y6_0 + 1), y6_0, y6_2, y6_3)) else (j7 (y6_1, y6_0, y6_2, y6_3)))) else (j8 (y6_1, y6_2, y6_3)))) n
theorem g29_l6_s (k : Nat) (c5 : Int → (List S36) → Option (List S36)) (a0 : (List Nat)) (a1 : (List S46)) (y5_0 : Int) (n : Nat) (y6_0 : Int) (y6_1 : Int) (y6_2 : Int) (y6_3 : (List S36)) : g29_l6 k c5 a0 a1 y5_0 (n + 1) y6_0 y6_1 y6_2 y6_3 = (jn (fun (z8 : Int × Int × (List S36)) => (g29f47_1 k z8.2.1 z8.1 false a0 a1 z8.2.2).bind fun x4_3 => c5 z8.1 x4_3) (fun j8 => if (decide (y6_0 < (a1.length : Int))) then ((nthL a1 y6_0).bind fun x2_2 => jn (fun (z7 : Int × Int × Int × (List S36)) => (nthL a1 z7.2.1).bind fun x3_2 => if (decide (x3_2.f0 = 10)) then (j8 (z7.1, z7.2.2.1, z7.2.2.2)) else ((g29_l6 k c5 a0 a1 y5_0 n) (fW .i64 (z7.2.1 + 1)) z7.1 z7.2.2.1 z7.2.2.2)) (fun j7 => if (!decide (x2_2.f0 = 11)) then (j7 (fW .i64 (y6_0 + 1), y6_0, y6_2, y6_3)) else (j7 (y6_1, y6_0, y6_2, y6_3)))) else (j8 (y6_1, y6_2, y6_3)))) := rfl
theorem g29_l6_ok (k : Nat) (c5 : Int → (List S36) → Option (List S36)) (a0 : (List Nat)) (a1 : (List S46)) (y5_0 : Int) (hc5 : ∀ (y5_0 : Int) (y5_1 : (List S36)), Ok X29 g29p4 [(3, .ptr 1 1 0), (5, .ptr 2 1 0), (6, .func 47 [] [.ptr 2 1 0, .ptr 0 1 0, .ptr 1 1 0]), (7, .int .i64 y5_0)] (mkH [⟨[.str a0], 0, false⟩, ⟨[.vec (a1).length 3 ((a1).flatMap e47)], 0, false⟩, ⟨[.own 3 (y5_1).length 4], 1, false⟩, ⟨(y5_1).flatMap e37, 0, false⟩]) (c5 y5_0 y5_1)) : ∀ (n : Nat) (y6_0 : Int) (y6_1 : Int) (y6_2 : Int) (y6_3 : (List S36)), Ok X29 g29p14 [(3, .ptr 1 1 0), (5, .ptr 2 1 0), (6, .func 47 [] [.ptr 2 1 0, .ptr 0 1 0, .ptr 1 1 0]), (7, .int .i64 y6_2), (8, .int .i64 y6_1), (9, .int .i64 y6_0)] (mkH [⟨[.str a0], 0, false⟩, ⟨[.vec (a1).length 3 ((a1).flatMap e47)], 0, false⟩, ⟨[.own 3 (y6_3).length 4], 1, false⟩, ⟨(y6_3).flatMap e37, 0, false⟩]) (g29_l6 k c5 a0 a1 y5_0 n y6_0 y6_1 y6_2 y6_3)
 | 0, _, _, _, _ => ok_none
 | n + 1, y6_0, y6_1, y6_2, y6_3 => by
  have ih := g29_l6_ok k c5 a0 a1 y5_0 hc5 n
  rw [g29_l6_s]
  refine ok_ent (p' := nav [0] g29p14) (by kernel_rfl) ?_
  let E7 : Env := [(34, .bool (decide (y6_0 < (a1.length : Int)))), (33, .int .i64 (a1.length : Int)), (32, .vec (a1).length 3 ((a1).flatMap e47)), (31, .int .i64 y6_0), (3, .ptr 1 1 0), (5, .ptr 2 1 0), (6, .func 47 [] [.ptr 2 1 0, .ptr 0 1 0, .ptr 1 1 0]), (7, .int .i64 y6_2), (8, .int .i64 y6_1), (9, .int .i64 y6_0)]
  refine oR 8 (p' := g29p16) (eE := E7) (H' := (mkH [⟨[.str a0], 0, false⟩, ⟨[.vec (a1).length 3 ((a1).flatMap e47)], 0, false⟩, ⟨[.own 3 (y6_3).length 4], 1, false⟩, ⟨(y6_3).flatMap e37, 0, false⟩])) (by kernel_rfl) ?_
  refine oJ (f := fun (z8 : Int × Int × (List S36)) => (g29f47_1 k z8.2.1 z8.1 false a0 a1 z8.2.2).bind fun x4_3 => c5 z8.1 x4_3) g29p18 (fun (z8 : Int × Int × (List S36)) => [(3, .ptr 1 1 0), (5, .ptr 2 1 0), (6, .func 47 [] [.ptr 2 1 0, .ptr 0 1 0, .ptr 1 1 0]), (7, .int .i64 z8.2.1), (8, .int .i64 z8.1)]) (fun (z8 : Int × Int × (List S36)) => (mkH [⟨[.str a0], 0, false⟩, ⟨[.vec (a1).length 3 ((a1).flatMap e47)], 0, false⟩, ⟨[.own 3 (z8.2.2).length 4], 1, false⟩, ⟨(z8.2.2).flatMap e37, 0, false⟩])) (fun z8 => ?_) (fun j8 hj8 => ?_)
  ·let E8 : Env := [(53, .int .i64 z8.1), (52, .int .i64 z8.2.1), (51, .func 47 [] [.ptr 2 1 0, .ptr 0 1 0, .ptr 1 1 0]), (3, .ptr 1 1 0), (5, .ptr 2 1 0), (6, .func 47 [] [.ptr 2 1 0, .ptr 0 1 0, .ptr 1 1 0]), (7, .int .i64 z8.2.1), (8, .int .i64 z8.1)]
   refine oR 4 (p' := (atN 3 (ctl1 g29p18))) (eE := E8) (H' := (mkH [⟨[.str a0], 0, false⟩, ⟨[.vec (a1).length 3 ((a1).flatMap e47)], 0, false⟩, ⟨[.own 3 (z8.2.2).length 4], 1, false⟩, ⟨(z8.2.2).flatMap e37, 0, false⟩])) (by kernel_rfl) ?_
   refine ok_callM (fun (x4_3 : (List S36)) => .tuple []) (fun (x4_3 : (List S36)) => (mkH [⟨[.str a0], 0, false⟩, ⟨[.vec (a1).length 3 ((a1).flatMap e47)], 0, false⟩, ⟨[.own 3 (x4_3).length 4], 1, false⟩, ⟨(x4_3).flatMap e37, 0, false⟩])) (atN 4 (ctl1 g29p18)) (fun x4_3 => ((54, .tuple []) :: E8)) (fi := 47) (args := [.int .i64 z8.2.1, .int .i64 z8.1, .bool false, .ptr 2 1 0, .ptr 0 1 0, .ptr 1 1 0]) (by kernel_rfl) (fun r h => g29f47_1_ok k z8.2.1 z8.1 false a0 a1 z8.2.2 r h) (fun _ => by kernel_rfl) (fun x4_3 hx4_3 => ?_)
   refine oR 5 (p' := g29p4) (eE := ((7, .int .i64 z8.1) :: (55, .int .i64 z8.1) :: (54, .tuple []) :: E8)) (H' := (mkH [⟨[.str a0], 0, false⟩, ⟨[.vec (a1).length 3 ((a1).flatMap e47)], 0, false⟩, ⟨[.own 3 (x4_3).length 4], 1, false⟩, ⟨(x4_3).flatMap e37, 0, false⟩])) (by kernel_rfl) ?_
   refine oK [3, 5, 6, 7] (eE := [(3, .ptr 1 1 0), (5, .ptr 2 1 0), (6, .func 47 [] [.ptr 2 1 0, .ptr 0 1 0, .ptr 1 1 0]), (7, .int .i64 z8.1)]) (by kernel_rfl) ?_
   exact hc5 z8.1 x4_3
  ·refine oS 34 (b := decide (y6_0 < (a1.length : Int))) (by kernel_rfl) (fun hb => ?_) (fun hb => ?_)
   ·refine oR 9 (p' := (atN 2 (ctl1 g29p17))) (eE := ((38, .int .i64 y6_0) :: (37, .vec (a1).length 3 ((a1).flatMap e47)) :: (34, .bool true) :: E7)) (H' := (mkH [⟨[.str a0], 0, false⟩, ⟨[.vec (a1).length 3 ((a1).flatMap e47)], 0, false⟩, ⟨[.own 3 (y6_3).length 4], 1, false⟩, ⟨(y6_3).flatMap e37, 0, false⟩])) (by kernel_rfl) ?_
    refine oH (fun (x2_2 : S46) => (.vptr [.int .i64 x2_2.f0, .str x2_2.f1, .int .i64 x2_2.f2], (mkH [⟨[.str a0], 0, false⟩, ⟨[.vec (a1).length 3 ((a1).flatMap e47)], 0, false⟩, ⟨[.own 3 (y6_3).length 4], 1, false⟩, ⟨(y6_3).flatMap e37, 0, false⟩]))) (atN 3 (ctl1 g29p17)) (fun x2_2 => ((39, .vptr [.int .i64 x2_2.f0, .str x2_2.f1, .int .i64 x2_2.f2]) :: (38, .int .i64 y6_0) :: (37, .vec (a1).length 3 ((a1).flatMap e47)) :: (34, .bool true) :: E7)) (vidxH (sz := 3) e47_len (by kernel_rfl)) (fun _ => by kernel_rfl) (fun x2_2 hx2_2 => ?_)
    let E9 : Env := ((42, .bool (!decide (x2_2.f0 = 11))) :: (41, .int .i64 x2_2.f0) :: (40, .vptr [.int .i64 x2_2.f0, .str x2_2.f1, .int .i64 x2_2.f2]) :: (39, .vptr [.int .i64 x2_2.f0, .str x2_2.f1, .int .i64 x2_2.f2]) :: (38, .int .i64 y6_0) :: (37, .vec (a1).length 3 ((a1).flatMap e47)) :: (34, .bool true) :: E7)
    refine oR 4 (p' := g29p19) (eE := E9) (H' := (mkH [⟨[.str a0], 0, false⟩, ⟨[.vec (a1).length 3 ((a1).flatMap e47)], 0, false⟩, ⟨[.own 3 (y6_3).length 4], 1, false⟩, ⟨(y6_3).flatMap e37, 0, false⟩])) (by kernel_rfl) ?_
    refine oK [3, 5, 6, 7, 8, 9, 42] (eE := [(3, .ptr 1 1 0), (5, .ptr 2 1 0), (6, .func 47 [] [.ptr 2 1 0, .ptr 0 1 0, .ptr 1 1 0]), (7, .int .i64 y6_2), (8, .int .i64 y6_1), (9, .int .i64 y6_0), (42, .bool (!decide (x2_2.f0 = 11)))]) (by kernel_rfl) ?_
    refine oJ (f := fun (z7 : Int × Int × Int × (List S36)) => (nthL a1 z7.2.1).bind fun x3_2 => if (decide (x3_2.f0 = 10)) then (j8 (z7.1, z7.2.2.1, z7.2.2.2)) else ((g29_l6 k c5 a0 a1 y5_0 n) (fW .i64 (z7.2.1 + 1)) z7.1 z7.2.2.1 z7.2.2.2)) g29p22 (fun (z7 : Int × Int × Int × (List S36)) => [(3, .ptr 1 1 0), (5, .ptr 2 1 0), (6, .func 47 [] [.ptr 2 1 0, .ptr 0 1 0, .ptr 1 1 0]), (7, .int .i64 z7.2.2.1), (8, .int .i64 z7.1), (9, .int .i64 z7.2.1)]) (fun (z7 : Int × Int × Int × (List S36)) => (mkH [⟨[.str a0], 0, false⟩, ⟨[.vec (a1).length 3 ((a1).flatMap e47)], 0, false⟩, ⟨[.own 3 (z7.2.2.2).length 4], 1, false⟩, ⟨(z7.2.2.2).flatMap e37, 0, false⟩])) (fun z7 => ?_) (fun j7 hj7 => ?_)
    ·let E10 : Env := [(46, .int .i64 z7.2.1), (45, .vec (a1).length 3 ((a1).flatMap e47)), (3, .ptr 1 1 0), (5, .ptr 2 1 0), (6, .func 47 [] [.ptr 2 1 0, .ptr 0 1 0, .ptr 1 1 0]), (7, .int .i64 z7.2.2.1), (8, .int .i64 z7.1), (9, .int .i64 z7.2.1)]
     refine oR 3 (p' := (atN 2 (ctl1 g29p22))) (eE := E10) (H' := (mkH [⟨[.str a0], 0, false⟩, ⟨[.vec (a1).length 3 ((a1).flatMap e47)], 0, false⟩, ⟨[.own 3 (z7.2.2.2).length 4], 1, false⟩, ⟨(z7.2.2.2).flatMap e37, 0, false⟩])) (by kernel_rfl) ?_
     refine oH (fun (x3_2 : S46) => (.vptr [.int .i64 x3_2.f0, .str x3_2.f1, .int .i64 x3_2.f2], (mkH [⟨[.str a0], 0, false⟩, ⟨[.vec (a1).length 3 ((a1).flatMap e47)], 0, false⟩, ⟨[.own 3 (z7.2.2.2).length 4], 1, false⟩, ⟨(z7.2.2.2).flatMap e37, 0, false⟩]))) (atN 3 (ctl1 g29p22)) (fun x3_2 => ((47, .vptr [.int .i64 x3_2.f0, .str x3_2.f1, .int .i64 x3_2.f2]) :: E10)) (vidxH (sz := 3) e47_len (by kernel_rfl)) (fun _ => by kernel_rfl) (fun x3_2 hx3_2 => ?_)
     refine oR 4 (p' := g29p23) (eE := ((50, .bool (decide (x3_2.f0 = 10))) :: (49, .int .i64 x3_2.f0) :: (48, .vptr [.int .i64 x3_2.f0, .str x3_2.f1, .int .i64 x3_2.f2]) :: (47, .vptr [.int .i64 x3_2.f0, .str x3_2.f1, .int .i64 x3_2.f2]) :: E10)) (H' := (mkH [⟨[.str a0], 0, false⟩, ⟨[.vec (a1).length 3 ((a1).flatMap e47)], 0, false⟩, ⟨[.own 3 (z7.2.2.2).length 4], 1, false⟩, ⟨(z7.2.2.2).flatMap e37, 0, false⟩])) (by kernel_rfl) ?_
     refine oS 50 (b := decide (x3_2.f0 = 10)) (by kernel_rfl) (fun hb => ?_) (fun hb => ?_)
     ·let E11 : Env := ((50, .bool true) :: (50, .bool (decide (x3_2.f0 = 10))) :: (49, .int .i64 x3_2.f0) :: (48, .vptr [.int .i64 x3_2.f0, .str x3_2.f1, .int .i64 x3_2.f2]) :: (47, .vptr [.int .i64 x3_2.f0, .str x3_2.f1, .int .i64 x3_2.f2]) :: E10)
      refine oR 3 (p' := g29p18) (eE := E11) (H' := (mkH [⟨[.str a0], 0, false⟩, ⟨[.vec (a1).length 3 ((a1).flatMap e47)], 0, false⟩, ⟨[.own 3 (z7.2.2.2).length 4], 1, false⟩, ⟨(z7.2.2.2).flatMap e37, 0, false⟩])) (by kernel_rfl) ?_
      refine oK [3, 5, 6, 7, 8] (eE := [(3, .ptr 1 1 0), (5, .ptr 2 1 0), (6, .func 47 [] [.ptr 2 1 0, .ptr 0 1 0, .ptr 1 1 0]), (7, .int .i64 z7.2.2.1), (8, .int .i64 z7.1)]) (by kernel_rfl) ?_
      exact hj8 (z7.1, z7.2.2.1, z7.2.2.2)
     ·let E12 : Env := ((9, .int .i64 (fW .i64 (z7.2.1 + 1))) :: (36, .int .i64 (fW .i64 (z7.2.1 + 1))) :: (35, .int .i64 z7.2.1) :: (50, .bool false) :: (50, .bool (decide (x3_2.f0 = 10))) :: (49, .int .i64 x3_2.f0) :: (48, .vptr [.int .i64 x3_2.f0, .str x3_2.f1, .int .i64 x3_2.f2]) :: (47, .vptr [.int .i64 x3_2.f0, .str x3_2.f1, .int .i64 x3_2.f2]) :: E10)
      refine oR 7 (p' := g29p14) (eE := E12) (H' := (mkH [⟨[.str a0], 0, false⟩, ⟨[.vec (a1).length 3 ((a1).flatMap e47)], 0, false⟩, ⟨[.own 3 (z7.2.2.2).length 4], 1, false⟩, ⟨(z7.2.2.2).flatMap e37, 0, false⟩])) (by kernel_rfl) ?_
      refine oK [3, 5, 6, 7, 8, 9] (eE := [(3, .ptr 1 1 0), (5, .ptr 2 1 0), (6, .func 47 [] [.ptr 2 1 0, .ptr 0 1 0, .ptr 1 1 0]), (7, .int .i64 z7.2.2.1), (8, .int .i64 z7.1), (9, .int .i64 (fW .i64 (z7.2.1 + 1)))]) (by kernel_rfl) ?_
      exact ih (fW .i64 (z7.2.1 + 1)) z7.1 z7.2.2.1 z7.2.2.2
    ·refine oS 42 (b := !decide (x2_2.f0 = 11)) (by kernel_rfl) (fun hb => ?_) (fun hb => ?_)
     ·let E13 : Env := [(8, .int .i64 (fW .i64 (y6_0 + 1))), (44, .int .i64 (fW .i64 (y6_0 + 1))), (43, .int .i64 y6_0), (42, .bool true), (3, .ptr 1 1 0), (5, .ptr 2 1 0), (6, .func 47 [] [.ptr 2 1 0, .ptr 0 1 0, .ptr 1 1 0]), (7, .int .i64 y6_2), (8, .int .i64 y6_1), (9, .int .i64 y6_0), (42, .bool (!decide (x2_2.f0 = 11)))]
      refine oR 7 (p' := g29p22) (eE := E13) (H' := (mkH [⟨[.str a0], 0, false⟩, ⟨[.vec (a1).length 3 ((a1).flatMap e47)], 0, false⟩, ⟨[.own 3 (y6_3).length 4], 1, false⟩, ⟨(y6_3).flatMap e37, 0, false⟩])) (by kernel_rfl) ?_
      refine oK [3, 5, 6, 7, 8, 9] (eE := [(3, .ptr 1 1 0), (5, .ptr 2 1 0), (6, .func 47 [] [.ptr 2 1 0, .ptr 0 1 0, .ptr 1 1 0]), (7, .int .i64 y6_2), (8, .int .i64 (fW .i64 (y6_0 + 1))), (9, .int .i64 y6_0)]) (by kernel_rfl) ?_
      exact hj7 (fW .i64 (y6_0 + 1), y6_0, y6_2, y6_3)
     ·let E14 : Env := [(42, .bool false), (3, .ptr 1 1 0), (5, .ptr 2 1 0), (6, .func 47 [] [.ptr 2 1 0, .ptr 0 1 0, .ptr 1 1 0]), (7, .int .i64 y6_2), (8, .int .i64 y6_1), (9, .int .i64 y6_0), (42, .bool (!decide (x2_2.f0 = 11)))]
      refine oR 3 (p' := g29p22) (eE := E14) (H' := (mkH [⟨[.str a0], 0, false⟩, ⟨[.vec (a1).length 3 ((a1).flatMap e47)], 0, false⟩, ⟨[.own 3 (y6_3).length 4], 1, false⟩, ⟨(y6_3).flatMap e37, 0, false⟩])) (by kernel_rfl) ?_
      refine oK [3, 5, 6, 7, 8, 9] (eE := [(3, .ptr 1 1 0), (5, .ptr 2 1 0), (6, .func 47 [] [.ptr 2 1 0, .ptr 0 1 0, .ptr 1 1 0]), (7, .int .i64 y6_2), (8, .int .i64 y6_1), (9, .int .i64 y6_0)]) (by kernel_rfl) ?_
      exact hj7 (y6_1, y6_0, y6_2, y6_3)
   ·refine oR 3 (p' := g29p18) (eE := ((34, .bool false) :: E7)) (H' := (mkH [⟨[.str a0], 0, false⟩, ⟨[.vec (a1).length 3 ((a1).flatMap e47)], 0, false⟩, ⟨[.own 3 (y6_3).length 4], 1, false⟩, ⟨(y6_3).flatMap e37, 0, false⟩])) (by kernel_rfl) ?_
    refine oK [3, 5, 6, 7, 8] (eE := [(3, .ptr 1 1 0), (5, .ptr 2 1 0), (6, .func 47 [] [.ptr 2 1 0, .ptr 0 1 0, .ptr 1 1 0]), (7, .int .i64 y6_2), (8, .int .i64 y6_1)]) (by kernel_rfl) ?_
    exact hj8 (y6_1, y6_2, y6_3)
def g29_l5 (k : Nat)  (a0 : (List Nat)) (a1 : (List S46)) (n : Nat) : Int → (List S36) → Option (List S36) :=
 Nat.rec (motive := fun _ => Int → (List S36) → Option (List S36)) (fun _ _ => none) (fun _ ih => fun (y5_0 : Int) (y5_1 : (List S36)) => if (decide (y5_0 < (a1.length : Int))) then ((nthL a1 y5_0).bind fun x0_2 => if (decide (x0_2.f0 = 11)) then ((g29f47_1 k y5_0 (fW .i64 (y5_0 + 1)) true a0 a1 y5_1).bind fun x1_4 => ih (fW .i64 (y5_0 + 1)) x1_4) else (g29_l6 k ih a0 a1 y5_0 k y5_0 (fW .i64 (y5_0 + 1)) y5_0 y5_1)) else (some y5_1)) n
theorem g29_l5_s (k : Nat)  (a0 : (List Nat)) (a1 : (List S46)) (n : Nat) (y5_0 : Int) (y5_1 : (List S36)) : g29_l5 k a0 a1 (n + 1) y5_0 y5_1 = (if (decide (y5_0 < (a1.length : Int))) then ((nthL a1 y5_0).bind fun x0_2 => if (decide (x0_2.f0 = 11)) then ((g29f47_1 k y5_0 (fW .i64 (y5_0 + 1)) true a0 a1 y5_1).bind fun x1_4 => (g29_l5 k a0 a1 n) (fW .i64 (y5_0 + 1)) x1_4) else (g29_l6 k (g29_l5 k a0 a1 n) a0 a1 y5_0 k y5_0 (fW .i64 (y5_0 + 1)) y5_0 y5_1)) else (some y5_1)) := rfl
theorem g29_l5_ok (k : Nat)  (a0 : (List Nat)) (a1 : (List S46))  : ∀ (n : Nat) (y5_0 : Int) (y5_1 : (List S36)), Ok X29 g29p4 [(3, .ptr 1 1 0), (5, .ptr 2 1 0), (6, .func 47 [] [.ptr 2 1 0, .ptr 0 1 0, .ptr 1 1 0]), (7, .int .i64 y5_0)] (mkH [⟨[.str a0], 0, false⟩, ⟨[.vec (a1).length 3 ((a1).flatMap e47)], 0, false⟩, ⟨[.own 3 (y5_1).length 4], 1, false⟩, ⟨(y5_1).flatMap e37, 0, false⟩]) (g29_l5 k a0 a1 n y5_0 y5_1)
 | 0, _, _ => ok_none
 | n + 1, y5_0, y5_1 => by
  have ih := g29_l5_ok k a0 a1 n
  rw [g29_l5_s]
  refine ok_ent (p' := nav [0] g29p4) (by kernel_rfl) ?_
  let E2 : Env := [(14, .bool (decide (y5_0 < (a1.length : Int)))), (13, .int .i64 (a1.length : Int)), (12, .vec (a1).length 3 ((a1).flatMap e47)), (11, .int .i64 y5_0), (3, .ptr 1 1 0), (5, .ptr 2 1 0), (6, .func 47 [] [.ptr 2 1 0, .ptr 0 1 0, .ptr 1 1 0]), (7, .int .i64 y5_0)]
  refine oR 8 (p' := g29p6) (eE := E2) (H' := (mkH [⟨[.str a0], 0, false⟩, ⟨[.vec (a1).length 3 ((a1).flatMap e47)], 0, false⟩, ⟨[.own 3 (y5_1).length 4], 1, false⟩, ⟨(y5_1).flatMap e37, 0, false⟩])) (by kernel_rfl) ?_
  refine oS 14 (b := decide (y5_0 < (a1.length : Int))) (by kernel_rfl) (fun hb => ?_) (fun hb => ?_)
  ·refine oR 8 (p' := (atN 2 (ctl1 g29p7))) (eE := ((16, .int .i64 y5_0) :: (15, .vec (a1).length 3 ((a1).flatMap e47)) :: (14, .bool true) :: E2)) (H' := (mkH [⟨[.str a0], 0, false⟩, ⟨[.vec (a1).length 3 ((a1).flatMap e47)], 0, false⟩, ⟨[.own 3 (y5_1).length 4], 1, false⟩, ⟨(y5_1).flatMap e37, 0, false⟩])) (by kernel_rfl) ?_
   refine oH (fun (x0_2 : S46) => (.vptr [.int .i64 x0_2.f0, .str x0_2.f1, .int .i64 x0_2.f2], (mkH [⟨[.str a0], 0, false⟩, ⟨[.vec (a1).length 3 ((a1).flatMap e47)], 0, false⟩, ⟨[.own 3 (y5_1).length 4], 1, false⟩, ⟨(y5_1).flatMap e37, 0, false⟩]))) (atN 3 (ctl1 g29p7)) (fun x0_2 => ((17, .vptr [.int .i64 x0_2.f0, .str x0_2.f1, .int .i64 x0_2.f2]) :: (16, .int .i64 y5_0) :: (15, .vec (a1).length 3 ((a1).flatMap e47)) :: (14, .bool true) :: E2)) (vidxH (sz := 3) e47_len (by kernel_rfl)) (fun _ => by kernel_rfl) (fun x0_2 hx0_2 => ?_)
   let E3 : Env := ((20, .bool (decide (x0_2.f0 = 11))) :: (19, .int .i64 x0_2.f0) :: (18, .vptr [.int .i64 x0_2.f0, .str x0_2.f1, .int .i64 x0_2.f2]) :: (17, .vptr [.int .i64 x0_2.f0, .str x0_2.f1, .int .i64 x0_2.f2]) :: (16, .int .i64 y5_0) :: (15, .vec (a1).length 3 ((a1).flatMap e47)) :: (14, .bool true) :: E2)
   refine oR 4 (p' := g29p9) (eE := E3) (H' := (mkH [⟨[.str a0], 0, false⟩, ⟨[.vec (a1).length 3 ((a1).flatMap e47)], 0, false⟩, ⟨[.own 3 (y5_1).length 4], 1, false⟩, ⟨(y5_1).flatMap e37, 0, false⟩])) (by kernel_rfl) ?_
   refine oK [3, 5, 6, 7, 20] (eE := [(3, .ptr 1 1 0), (5, .ptr 2 1 0), (6, .func 47 [] [.ptr 2 1 0, .ptr 0 1 0, .ptr 1 1 0]), (7, .int .i64 y5_0), (20, .bool (decide (x0_2.f0 = 11)))]) (by kernel_rfl) ?_
   refine oS 20 (b := decide (x0_2.f0 = 11)) (by kernel_rfl) (fun hb => ?_) (fun hb => ?_)
   ·let E4 : Env := [(24, .int .i64 (fW .i64 (y5_0 + 1))), (23, .int .i64 y5_0), (22, .int .i64 y5_0), (21, .func 47 [] [.ptr 2 1 0, .ptr 0 1 0, .ptr 1 1 0]), (20, .bool true), (3, .ptr 1 1 0), (5, .ptr 2 1 0), (6, .func 47 [] [.ptr 2 1 0, .ptr 0 1 0, .ptr 1 1 0]), (7, .int .i64 y5_0), (20, .bool (decide (x0_2.f0 = 11)))]
    refine oR 7 (p' := (atN 4 (ctl1 g29p11))) (eE := E4) (H' := (mkH [⟨[.str a0], 0, false⟩, ⟨[.vec (a1).length 3 ((a1).flatMap e47)], 0, false⟩, ⟨[.own 3 (y5_1).length 4], 1, false⟩, ⟨(y5_1).flatMap e37, 0, false⟩])) (by kernel_rfl) ?_
    refine ok_callM (fun (x1_4 : (List S36)) => .tuple []) (fun (x1_4 : (List S36)) => (mkH [⟨[.str a0], 0, false⟩, ⟨[.vec (a1).length 3 ((a1).flatMap e47)], 0, false⟩, ⟨[.own 3 (x1_4).length 4], 1, false⟩, ⟨(x1_4).flatMap e37, 0, false⟩])) (atN 5 (ctl1 g29p11)) (fun x1_4 => ((25, .tuple []) :: E4)) (fi := 47) (args := [.int .i64 y5_0, .int .i64 (fW .i64 (y5_0 + 1)), .bool true, .ptr 2 1 0, .ptr 0 1 0, .ptr 1 1 0]) (by kernel_rfl) (fun r h => g29f47_1_ok k y5_0 (fW .i64 (y5_0 + 1)) true a0 a1 y5_1 r h) (fun _ => by kernel_rfl) (fun x1_4 hx1_4 => ?_)
    refine oR 2 (p' := g29p13) (eE := ((25, .tuple []) :: E4)) (H' := (mkH [⟨[.str a0], 0, false⟩, ⟨[.vec (a1).length 3 ((a1).flatMap e47)], 0, false⟩, ⟨[.own 3 (x1_4).length 4], 1, false⟩, ⟨(x1_4).flatMap e37, 0, false⟩])) (by kernel_rfl) ?_
    refine oK [3, 5, 6, 7] (eE := [(3, .ptr 1 1 0), (5, .ptr 2 1 0), (6, .func 47 [] [.ptr 2 1 0, .ptr 0 1 0, .ptr 1 1 0]), (7, .int .i64 y5_0)]) (by kernel_rfl) ?_
    let E5 : Env := [(7, .int .i64 (fW .i64 (y5_0 + 1))), (27, .int .i64 (fW .i64 (y5_0 + 1))), (26, .int .i64 y5_0), (3, .ptr 1 1 0), (5, .ptr 2 1 0), (6, .func 47 [] [.ptr 2 1 0, .ptr 0 1 0, .ptr 1 1 0]), (7, .int .i64 y5_0)]
    refine oR 6 (p' := g29p4) (eE := E5) (H' := (mkH [⟨[.str a0], 0, false⟩, ⟨[.vec (a1).length 3 ((a1).flatMap e47)], 0, false⟩, ⟨[.own 3 (x1_4).length 4], 1, false⟩, ⟨(x1_4).flatMap e37, 0, false⟩])) (by kernel_rfl) ?_
    refine oK [3, 5, 6, 7] (eE := [(3, .ptr 1 1 0), (5, .ptr 2 1 0), (6, .func 47 [] [.ptr 2 1 0, .ptr 0 1 0, .ptr 1 1 0]), (7, .int .i64 (fW .i64 (y5_0 + 1)))]) (by kernel_rfl) ?_
    exact ih (fW .i64 (y5_0 + 1)) x1_4
   ·let E6 : Env := [(9, .int .i64 y5_0), (8, .int .i64 (fW .i64 (y5_0 + 1))), (30, .int .i64 y5_0), (29, .int .i64 (fW .i64 (y5_0 + 1))), (28, .int .i64 y5_0), (20, .bool false), (3, .ptr 1 1 0), (5, .ptr 2 1 0), (6, .func 47 [] [.ptr 2 1 0, .ptr 0 1 0, .ptr 1 1 0]), (7, .int .i64 y5_0), (20, .bool (decide (x0_2.f0 = 11)))]
    refine oR 13 (p' := g29p14) (eE := E6) (H' := (mkH [⟨[.str a0], 0, false⟩, ⟨[.vec (a1).length 3 ((a1).flatMap e47)], 0, false⟩, ⟨[.own 3 (y5_1).length 4], 1, false⟩, ⟨(y5_1).flatMap e37, 0, false⟩])) (by kernel_rfl) ?_
    refine oK [3, 5, 6, 7, 8, 9] (eE := [(3, .ptr 1 1 0), (5, .ptr 2 1 0), (6, .func 47 [] [.ptr 2 1 0, .ptr 0 1 0, .ptr 1 1 0]), (7, .int .i64 y5_0), (8, .int .i64 (fW .i64 (y5_0 + 1))), (9, .int .i64 y5_0)]) (by kernel_rfl) ?_
    exact (g29_l6_ok k (g29_l5 k a0 a1 n) a0 a1 y5_0 ih k) y5_0 (fW .i64 (y5_0 + 1)) y5_0 y5_1
  ·refine oR 8 (p' := .fin) (eE := ((4, .own 3 (y5_1).length 4) :: (56, .own 3 (y5_1).length 4) :: (14, .bool false) :: E2)) (H' := (mkH [⟨[.str a0], 0, false⟩, ⟨[.vec (a1).length 3 ((a1).flatMap e47)], 0, false⟩, ⟨[.own 3 (y5_1).length 4], 1, false⟩, ⟨(y5_1).flatMap e37, 0, false⟩])) (by kernel_rfl) ?_
   exact oT (r := y5_1) (xs := [.own 3 (y5_1).length 4]) (v := .vec (y5_1).length 4 ((y5_1).flatMap e37)) (by kernel_rfl) (by kernel_rfl) (by kernel_rfl) (fz_own e37_len e37_pur rfl rfl (.pures (by kernel_rfl))) (by kernel_rfl)
def g29 (k : Nat) (a0 : (List Nat)) (a1 : (List S46)) : Option (List S36) :=
 g29_l5 k a0 a1 k 0 ([] : List S36)
theorem g29_ok (k : Nat) (a0 : (List Nat)) (a1 : (List S46)) (r : (List S36)) (h : g29 k a0 a1 = some r) : PureOk Try.prog 29 [.str a0, .vec (a1).length 3 ((a1).flatMap e47)] (.vec (r).length 4 ((r).flatMap e37)) := by
 refine pure_of X29 (fun _ => rfl) Try.func29 (by decide +kernel) (by kernel_rfl) (t := g29 k a0 a1) ?_ h
 unfold g29
 refine oE (eE := [(0, .str a0), (1, .vec (a1).length 3 ((a1).flatMap e47))]) (by kernel_rfl) ?_
 let E1 : Env := [(5, .ptr 2 1 0), (4, .nils), (3, .ptr 1 1 0), (2, .ptr 0 1 0), (0, .str a0), (1, .vec (a1).length 3 ((a1).flatMap e47))]
 refine oR 9 (p' := (atN 1 (ctl1 g29p1))) (eE := E1) (H' := (mkH [⟨[.str a0], 0, false⟩, ⟨[.vec (a1).length 3 ((a1).flatMap e47)], 0, false⟩, ⟨[.nils], 0, false⟩])) (by kernel_rfl) ?_
 refine ok_ownc [⟨[.str a0], 0, false⟩, ⟨[.vec (a1).length 3 ((a1).flatMap e47)], 0, false⟩, ⟨[.nils], 0, false⟩] 2 0 4 0 [.nils] rfl rfl rfl ?_
 refine ok_heap (H' := (mkH [⟨[.str a0], 0, false⟩, ⟨[.vec (a1).length 3 ((a1).flatMap e47)], 0, false⟩, ⟨[.own 3 (([] : List S36)).length 4], 0, false⟩, ⟨(([] : List S36)).flatMap e37, 0, false⟩])) (by kernel_rfl) ?_
 refine oR 13 (p' := g29p4) (eE := ((7, .int .i64 0) :: (6, .func 47 [] [.ptr 2 1 0, .ptr 0 1 0, .ptr 1 1 0]) :: (10, .func 47 [] [.ptr 2 1 0, .ptr 0 1 0, .ptr 1 1 0]) :: E1)) (H' := (mkH [⟨[.str a0], 0, false⟩, ⟨[.vec (a1).length 3 ((a1).flatMap e47)], 0, false⟩, ⟨[.own 3 (([] : List S36)).length 4], 0, false⟩, ⟨(([] : List S36)).flatMap e37, 0, false⟩])) (by kernel_rfl) ?_
 refine oK [3, 5, 6, 7] (eE := [(3, .ptr 1 1 0), (5, .ptr 2 1 0), (6, .func 47 [] [.ptr 2 1 0, .ptr 0 1 0, .ptr 1 1 0]), (7, .int .i64 0)]) (by kernel_rfl) ?_
 refine ok_minv [⟨[.str a0], 0, false⟩, ⟨[.vec (a1).length 3 ((a1).flatMap e47)], 0, false⟩, ⟨[.own 3 (([] : List S36)).length 4], 0, false⟩, ⟨(([] : List S36)).flatMap e37, 0, false⟩] 2 [.own 3 (([] : List S36)).length 4] 0 1 rfl rfl (by decide) ?_
 refine ok_heap (H' := (mkH [⟨[.str a0], 0, false⟩, ⟨[.vec (a1).length 3 ((a1).flatMap e47)], 0, false⟩, ⟨[.own 3 (([] : List S36)).length 4], 1, false⟩, ⟨(([] : List S36)).flatMap e37, 0, false⟩])) (by kernel_rfl) ?_
 exact (g29_l5_ok k a0 a1 k) 0 ([] : List S36)
end
end Go.Proofs.Ytbmijiibfaacmaa.Am
set_option maxRecDepth 100000
set_option linter.unusedVariables false
namespace Go.Proofs.Ytbmijiibfaacmaa.Am
noncomputable section
open Go
def X30 : Fx (List S36) := ⟨Try.prog, cx, Try.f30, fun r => .vec (r).length 4 ((r).flatMap e37), 0, fun _ => H0, cxTi, cxOrd⟩
def g30p0 : Pt := nav [0] (bodyAt Try.f30)
def g30p1 : Pt := nav [0, 0, 0] g30p0
def g30p2 : Pt := nav [0, 0, 0, 0] g30p1
def g30p3 : Pt := nav [0, 0, 0, 0] g30p2
def g30p4 : Pt := nav [0, 0, 0] g30p3
def g30p5 : Pt := nav [0, 0] g30p4
def g30p6 : Pt := nav [1, 0, 0, 0] g30p5
def g30p8 : Pt := nav [0, 0, 0, 0] g30p6
def g30p10 : Pt := nav [0, 0] g30p8
def g30p11 : Pt := nav [1] g30p10
def g30p12 : Pt := nav [2, 0] g30p10
def g30p13 : Pt := nav [0, 0, 0] g30p11
def g30p14 : Pt := nav [0, 0, 0, 0] g30p12
def g30p16 : Pt := nav [0, 0, 0] g30p14
def g30p17 : Pt := nav [0, 0] g30p16
def g30p18 : Pt := nav [1, 0, 0, 0, 0, 0] g30p17
def g30p19 : Pt := nav [0, 0] g30p18
def g30p21 : Pt := nav [2, 0, 0] g30p19
def g30p22 : Pt := nav [0, 0] g30p21
def g30_l7 (k : Nat) (c6 : Bool × Int × (List S36) × Int → Option (List S36)) (a0 : (List Nat)) (a1 : (List S46)) (x0_6 : Int) (n : Nat) : Int → Int → (List S36) → Int → Option (List S36) :=
 Nat.rec (motive := fun _ => Int → Int → (List S36) → Int → Option (List S36)) (fun _ _ _ _ => none) (fun _ ih => fun (y7_0 : Int) (y7_1 : Int) (y7_2 : (List S36)) (y7_3 : Int) => if (decide (y7_0 < (a1.length : Int))) then ((nthL a1 y7_0).bind fun x3_2 => jn (fun (z8 : Int × Int × (List S36) × Int) => (nthL a1 z8.1).bind fun x4_2 => if (decide (x4_2.f0 = 10)) then (c6 (false, z8.2.1, z8.2.2.1, z8.2.2.2)) else (ih (fW .i64 (z8.1 + 1)) z8.2.1 z8.2.2.1 z8.2.2.2)) (fun j8 => if (!decide (x3_2.f0 = 11)) then (j8 (y7_0, fW .i64 (y7_0 + 1), y7_2, y7_3)) else (j8 (y7_0, y7_1, y7_2, y7_3)))) else (c6 (false, y7_1, y7_2, y7_3))) n
theorem g30_l7_s (k : Nat) (c6 : Bool × Int × (List S36) × Int → Option (List S36)) (a0 : (List Nat)) (a1 : (List S46)) (x0_6 : Int) (n : Nat) (y7_0 : Int) (y7_1 : Int) (y7_2 : (List S36)) (y7_3 : Int) : g30_l7 k c6 a0 a1 x0_6 (n + 1) y7_0 y7_1 y7_2 y7_3 = (if (decide (y7_0 < (a1.length : Int))) then ((nthL a1 y7_0).bind fun x3_2 => jn (fun (z8 : Int × Int × (List S36) × Int) => (nthL a1 z8.1).bind fun x4_2 => if (decide (x4_2.f0 = 10)) then (c6 (false, z8.2.1, z8.2.2.1, z8.2.2.2)) else ((g30_l7 k c6 a0 a1 x0_6 n) (fW .i64 (z8.1 + 1)) z8.2.1 z8.2.2.1 z8.2.2.2)) (fun j8 => if (!decide (x3_2.f0 = 11)) then (j8 (y7_0, fW .i64 (y7_0 + 1), y7_2, y7_3)) else (j8 (y7_0, y7_1, y7_2, y7_3)))) else (c6 (false, y7_1, y7_2, y7_3))) := rfl
theorem g30_l7_ok (k : Nat) (c6 : Bool × Int × (List S36) × Int → Option (List S36)) (a0 : (List Nat)) (a1 : (List S46)) (x0_6 : Int) (hc6 : ∀ z6 : Bool × Int × (List S36) × Int, Ok X30 g30p13 ((fun (z6 : Bool × Int × (List S36) × Int) => [(0, .str a0), (1, .vec (a1).length 3 ((a1).flatMap e47)), (5, .own 0 (z6.2.2.1).length 4), (7, .ptr 1 4 0)]) z6) ((fun (z6 : Bool × Int × (List S36) × Int) => (mkH [⟨(z6.2.2.1).flatMap e37, 0, false⟩, ⟨[.int .i64 z6.2.2.2, .int .i64 z6.2.1, .bool z6.1, .bool (decide (2 ≤ x0_6))], 4, false⟩])) z6) (c6 z6)) : ∀ (n : Nat) (y7_0 : Int) (y7_1 : Int) (y7_2 : (List S36)) (y7_3 : Int), Ok X30 g30p14 [(0, .str a0), (1, .vec (a1).length 3 ((a1).flatMap e47)), (5, .own 0 (y7_2).length 4), (7, .ptr 1 4 0), (8, .int .i64 y7_0)] (mkH [⟨(y7_2).flatMap e37, 0, false⟩, ⟨[.int .i64 y7_3, .int .i64 y7_1, .bool false, .bool (decide (2 ≤ x0_6))], 4, false⟩]) (g30_l7 k c6 a0 a1 x0_6 n y7_0 y7_1 y7_2 y7_3)
 | 0, _, _, _, _ => ok_none
 | n + 1, y7_0, y7_1, y7_2, y7_3 => by
  have ih := g30_l7_ok k c6 a0 a1 x0_6 hc6 n
  rw [g30_l7_s]
  refine ok_ent (p' := nav [0] g30p14) (by kernel_rfl) ?_
  let E9 : Env := [(33, .bool (decide (y7_0 < (a1.length : Int)))), (32, .int .i64 (a1.length : Int)), (31, .vec (a1).length 3 ((a1).flatMap e47)), (30, .int .i64 y7_0), (0, .str a0), (1, .vec (a1).length 3 ((a1).flatMap e47)), (5, .own 0 (y7_2).length 4), (7, .ptr 1 4 0), (8, .int .i64 y7_0)]
  refine oR 8 (p' := g30p17) (eE := E9) (H' := (mkH [⟨(y7_2).flatMap e37, 0, false⟩, ⟨[.int .i64 y7_3, .int .i64 y7_1, .bool false, .bool (decide (2 ≤ x0_6))], 4, false⟩])) (by kernel_rfl) ?_
  refine oS 33 (b := decide (y7_0 < (a1.length : Int))) (by kernel_rfl) (fun hb => ?_) (fun hb => ?_)
  ·refine oR 9 (p' := (atN 2 (ctl1 g30p18))) (eE := ((37, .int .i64 y7_0) :: (36, .vec (a1).length 3 ((a1).flatMap e47)) :: (33, .bool true) :: E9)) (H' := (mkH [⟨(y7_2).flatMap e37, 0, false⟩, ⟨[.int .i64 y7_3, .int .i64 y7_1, .bool false, .bool (decide (2 ≤ x0_6))], 4, false⟩])) (by kernel_rfl) ?_
   refine oH (fun (x3_2 : S46) => (.vptr [.int .i64 x3_2.f0, .str x3_2.f1, .int .i64 x3_2.f2], (mkH [⟨(y7_2).flatMap e37, 0, false⟩, ⟨[.int .i64 y7_3, .int .i64 y7_1, .bool false, .bool (decide (2 ≤ x0_6))], 4, false⟩]))) (atN 3 (ctl1 g30p18)) (fun x3_2 => ((38, .vptr [.int .i64 x3_2.f0, .str x3_2.f1, .int .i64 x3_2.f2]) :: (37, .int .i64 y7_0) :: (36, .vec (a1).length 3 ((a1).flatMap e47)) :: (33, .bool true) :: E9)) (vidxH (sz := 3) e47_len (by kernel_rfl)) (fun _ => by kernel_rfl) (fun x3_2 hx3_2 => ?_)
   let E10 : Env := ((41, .bool (!decide (x3_2.f0 = 11))) :: (40, .int .i64 x3_2.f0) :: (39, .vptr [.int .i64 x3_2.f0, .str x3_2.f1, .int .i64 x3_2.f2]) :: (38, .vptr [.int .i64 x3_2.f0, .str x3_2.f1, .int .i64 x3_2.f2]) :: (37, .int .i64 y7_0) :: (36, .vec (a1).length 3 ((a1).flatMap e47)) :: (33, .bool true) :: E9)
   refine oR 4 (p' := g30p19) (eE := E10) (H' := (mkH [⟨(y7_2).flatMap e37, 0, false⟩, ⟨[.int .i64 y7_3, .int .i64 y7_1, .bool false, .bool (decide (2 ≤ x0_6))], 4, false⟩])) (by kernel_rfl) ?_
   refine oK [0, 1, 5, 7, 8, 41] (eE := [(0, .str a0), (1, .vec (a1).length 3 ((a1).flatMap e47)), (5, .own 0 (y7_2).length 4), (7, .ptr 1 4 0), (8, .int .i64 y7_0), (41, .bool (!decide (x3_2.f0 = 11)))]) (by kernel_rfl) ?_
   refine oJ (f := fun (z8 : Int × Int × (List S36) × Int) => (nthL a1 z8.1).bind fun x4_2 => if (decide (x4_2.f0 = 10)) then (c6 (false, z8.2.1, z8.2.2.1, z8.2.2.2)) else ((g30_l7 k c6 a0 a1 x0_6 n) (fW .i64 (z8.1 + 1)) z8.2.1 z8.2.2.1 z8.2.2.2)) g30p21 (fun (z8 : Int × Int × (List S36) × Int) => [(0, .str a0), (1, .vec (a1).length 3 ((a1).flatMap e47)), (5, .own 0 (z8.2.2.1).length 4), (7, .ptr 1 4 0), (8, .int .i64 z8.1)]) (fun (z8 : Int × Int × (List S36) × Int) => (mkH [⟨(z8.2.2.1).flatMap e37, 0, false⟩, ⟨[.int .i64 z8.2.2.2, .int .i64 z8.2.1, .bool false, .bool (decide (2 ≤ x0_6))], 4, false⟩])) (fun z8 => ?_) (fun j8 hj8 => ?_)
   ·let E11 : Env := [(46, .int .i64 z8.1), (45, .vec (a1).length 3 ((a1).flatMap e47)), (0, .str a0), (1, .vec (a1).length 3 ((a1).flatMap e47)), (5, .own 0 (z8.2.2.1).length 4), (7, .ptr 1 4 0), (8, .int .i64 z8.1)]
    refine oR 3 (p' := (atN 2 (ctl1 g30p21))) (eE := E11) (H' := (mkH [⟨(z8.2.2.1).flatMap e37, 0, false⟩, ⟨[.int .i64 z8.2.2.2, .int .i64 z8.2.1, .bool false, .bool (decide (2 ≤ x0_6))], 4, false⟩])) (by kernel_rfl) ?_
    refine oH (fun (x4_2 : S46) => (.vptr [.int .i64 x4_2.f0, .str x4_2.f1, .int .i64 x4_2.f2], (mkH [⟨(z8.2.2.1).flatMap e37, 0, false⟩, ⟨[.int .i64 z8.2.2.2, .int .i64 z8.2.1, .bool false, .bool (decide (2 ≤ x0_6))], 4, false⟩]))) (atN 3 (ctl1 g30p21)) (fun x4_2 => ((47, .vptr [.int .i64 x4_2.f0, .str x4_2.f1, .int .i64 x4_2.f2]) :: E11)) (vidxH (sz := 3) e47_len (by kernel_rfl)) (fun _ => by kernel_rfl) (fun x4_2 hx4_2 => ?_)
    refine oR 4 (p' := g30p22) (eE := ((50, .bool (decide (x4_2.f0 = 10))) :: (49, .int .i64 x4_2.f0) :: (48, .vptr [.int .i64 x4_2.f0, .str x4_2.f1, .int .i64 x4_2.f2]) :: (47, .vptr [.int .i64 x4_2.f0, .str x4_2.f1, .int .i64 x4_2.f2]) :: E11)) (H' := (mkH [⟨(z8.2.2.1).flatMap e37, 0, false⟩, ⟨[.int .i64 z8.2.2.2, .int .i64 z8.2.1, .bool false, .bool (decide (2 ≤ x0_6))], 4, false⟩])) (by kernel_rfl) ?_
    refine oS 50 (b := decide (x4_2.f0 = 10)) (by kernel_rfl) (fun hb => ?_) (fun hb => ?_)
    ·let E12 : Env := ((50, .bool true) :: (50, .bool (decide (x4_2.f0 = 10))) :: (49, .int .i64 x4_2.f0) :: (48, .vptr [.int .i64 x4_2.f0, .str x4_2.f1, .int .i64 x4_2.f2]) :: (47, .vptr [.int .i64 x4_2.f0, .str x4_2.f1, .int .i64 x4_2.f2]) :: E11)
     refine oR 3 (p' := g30p13) (eE := E12) (H' := (mkH [⟨(z8.2.2.1).flatMap e37, 0, false⟩, ⟨[.int .i64 z8.2.2.2, .int .i64 z8.2.1, .bool false, .bool (decide (2 ≤ x0_6))], 4, false⟩])) (by kernel_rfl) ?_
     refine oK [0, 1, 5, 7] (eE := [(0, .str a0), (1, .vec (a1).length 3 ((a1).flatMap e47)), (5, .own 0 (z8.2.2.1).length 4), (7, .ptr 1 4 0)]) (by kernel_rfl) ?_
     exact hc6 (false, z8.2.1, z8.2.2.1, z8.2.2.2)
    ·let E13 : Env := ((8, .int .i64 (fW .i64 (z8.1 + 1))) :: (35, .int .i64 (fW .i64 (z8.1 + 1))) :: (34, .int .i64 z8.1) :: (50, .bool false) :: (50, .bool (decide (x4_2.f0 = 10))) :: (49, .int .i64 x4_2.f0) :: (48, .vptr [.int .i64 x4_2.f0, .str x4_2.f1, .int .i64 x4_2.f2]) :: (47, .vptr [.int .i64 x4_2.f0, .str x4_2.f1, .int .i64 x4_2.f2]) :: E11)
     refine oR 7 (p' := g30p14) (eE := E13) (H' := (mkH [⟨(z8.2.2.1).flatMap e37, 0, false⟩, ⟨[.int .i64 z8.2.2.2, .int .i64 z8.2.1, .bool false, .bool (decide (2 ≤ x0_6))], 4, false⟩])) (by kernel_rfl) ?_
     refine oK [0, 1, 5, 7, 8] (eE := [(0, .str a0), (1, .vec (a1).length 3 ((a1).flatMap e47)), (5, .own 0 (z8.2.2.1).length 4), (7, .ptr 1 4 0), (8, .int .i64 (fW .i64 (z8.1 + 1)))]) (by kernel_rfl) ?_
     exact ih (fW .i64 (z8.1 + 1)) z8.2.1 z8.2.2.1 z8.2.2.2
   ·refine oS 41 (b := !decide (x3_2.f0 = 11)) (by kernel_rfl) (fun hb => ?_) (fun hb => ?_)
    ·let E14 : Env := [(44, .ptr 1 4 1), (43, .int .i64 (fW .i64 (y7_0 + 1))), (42, .int .i64 y7_0), (41, .bool true), (0, .str a0), (1, .vec (a1).length 3 ((a1).flatMap e47)), (5, .own 0 (y7_2).length 4), (7, .ptr 1 4 0), (8, .int .i64 y7_0), (41, .bool (!decide (x3_2.f0 = 11)))]
     refine oR 8 (p' := g30p21) (eE := E14) (H' := (mkH [⟨(y7_2).flatMap e37, 0, false⟩, ⟨[.int .i64 y7_3, .int .i64 (fW .i64 (y7_0 + 1)), .bool false, .bool (decide (2 ≤ x0_6))], 4, false⟩])) (by kernel_rfl) ?_
     refine oK [0, 1, 5, 7, 8] (eE := [(0, .str a0), (1, .vec (a1).length 3 ((a1).flatMap e47)), (5, .own 0 (y7_2).length 4), (7, .ptr 1 4 0), (8, .int .i64 y7_0)]) (by kernel_rfl) ?_
     exact hj8 (y7_0, fW .i64 (y7_0 + 1), y7_2, y7_3)
    ·let E15 : Env := [(41, .bool false), (0, .str a0), (1, .vec (a1).length 3 ((a1).flatMap e47)), (5, .own 0 (y7_2).length 4), (7, .ptr 1 4 0), (8, .int .i64 y7_0), (41, .bool (!decide (x3_2.f0 = 11)))]
     refine oR 3 (p' := g30p21) (eE := E15) (H' := (mkH [⟨(y7_2).flatMap e37, 0, false⟩, ⟨[.int .i64 y7_3, .int .i64 y7_1, .bool false, .bool (decide (2 ≤ x0_6))], 4, false⟩])) (by kernel_rfl) ?_
     refine oK [0, 1, 5, 7, 8] (eE := [(0, .str a0), (1, .vec (a1).length 3 ((a1).flatMap e47)), (5, .own 0 (y7_2).length 4), (7, .ptr 1 4 0), (8, .int .i64 y7_0)]) (by kernel_rfl) ?_
     exact hj8 (y7_0, y7_1, y7_2, y7_3)
  ·refine oR 3 (p' := g30p13) (eE := ((33, .bool false) :: E9)) (H' := (mkH [⟨(y7_2).flatMap e37, 0, false⟩, ⟨[.int .i64 y7_3, .int .i64 y7_1, .bool false, .bool (decide (2 ≤ x0_6))], 4, false⟩])) (by kernel_rfl) ?_
   refine oK [0, 1, 5, 7] (eE := [(0, .str a0), (1, .vec (a1).length 3 ((a1).flatMap e47)), (5, .own 0 (y7_2).length 4), (7, .ptr 1 4 0)]) (by kernel_rfl) ?_
   exact hc6 (false, y7_1, y7_2, y7_3)
def g30_l5 (k : Nat)  (a0 : (List Nat)) (a1 : (List S46)) (n : Nat) : Int → (List S36) → Option (List S36) :=
 Nat.rec (motive := fun _ => Int → (List S36) → Option (List S36)) (fun _ _ => none) (fun _ ih => fun (y5_0 : Int) (y5_1 : (List S36)) => if (decide (y5_0 < (a1.length : Int))) then ((g35 k a0 a1 y5_0).bind fun x0_6 => (nthL a1 y5_0).bind fun x1_2 => jn (fun (z6 : Bool × Int × (List S36) × Int) => (appS 24 z6.2.2.1 ([(⟨z6.2.2.2, z6.2.1, z6.1, decide (2 ≤ x0_6)⟩ : S36)] : List S36)).bind fun x2_3 => ih z6.2.1 x2_3) (fun j6 => if (decide (x1_2.f0 = 11)) then (j6 (true, fW .i64 (y5_0 + 1), y5_1, y5_0)) else (g30_l7 k j6 a0 a1 x0_6 k y5_0 (fW .i64 (y5_0 + 1)) y5_1 y5_0))) else (some y5_1)) n
theorem g30_l5_s (k : Nat)  (a0 : (List Nat)) (a1 : (List S46)) (n : Nat) (y5_0 : Int) (y5_1 : (List S36)) : g30_l5 k a0 a1 (n + 1) y5_0 y5_1 = (if (decide (y5_0 < (a1.length : Int))) then ((g35 k a0 a1 y5_0).bind fun x0_6 => (nthL a1 y5_0).bind fun x1_2 => jn (fun (z6 : Bool × Int × (List S36) × Int) => (appS 24 z6.2.2.1 ([(⟨z6.2.2.2, z6.2.1, z6.1, decide (2 ≤ x0_6)⟩ : S36)] : List S36)).bind fun x2_3 => (g30_l5 k a0 a1 n) z6.2.1 x2_3) (fun j6 => if (decide (x1_2.f0 = 11)) then (j6 (true, fW .i64 (y5_0 + 1), y5_1, y5_0)) else (g30_l7 k j6 a0 a1 x0_6 k y5_0 (fW .i64 (y5_0 + 1)) y5_1 y5_0))) else (some y5_1)) := rfl
theorem g30_l5_ok (k : Nat)  (a0 : (List Nat)) (a1 : (List S46))  : ∀ (n : Nat) (y5_0 : Int) (y5_1 : (List S36)), Ok X30 g30p3 [(0, .str a0), (1, .vec (a1).length 3 ((a1).flatMap e47)), (5, .own 0 (y5_1).length 4), (6, .int .i64 y5_0)] (mkH [⟨(y5_1).flatMap e37, 0, false⟩]) (g30_l5 k a0 a1 n y5_0 y5_1)
 | 0, _, _ => ok_none
 | n + 1, y5_0, y5_1 => by
  have ih := g30_l5_ok k a0 a1 n
  rw [g30_l5_s]
  refine ok_ent (p' := nav [0] g30p3) (by kernel_rfl) ?_
  let E2 : Env := [(12, .bool (decide (y5_0 < (a1.length : Int)))), (11, .int .i64 (a1.length : Int)), (10, .vec (a1).length 3 ((a1).flatMap e47)), (9, .int .i64 y5_0), (0, .str a0), (1, .vec (a1).length 3 ((a1).flatMap e47)), (5, .own 0 (y5_1).length 4), (6, .int .i64 y5_0)]
  refine oR 8 (p' := g30p5) (eE := E2) (H' := (mkH [⟨(y5_1).flatMap e37, 0, false⟩])) (by kernel_rfl) ?_
  refine oS 12 (b := decide (y5_0 < (a1.length : Int))) (by kernel_rfl) (fun hb => ?_) (fun hb => ?_)
  ·let E3 : Env := ((18, .int .i64 y5_0) :: (17, .vec (a1).length 3 ((a1).flatMap e47)) :: (16, .str a0) :: (15, .int .i64 (fW .i64 (y5_0 + 1))) :: (14, .int .i64 y5_0) :: (13, .int .i64 y5_0) :: (12, .bool true) :: E2)
   refine oR 11 (p' := (atN 6 (ctl1 g30p6))) (eE := E3) (H' := (mkH [⟨(y5_1).flatMap e37, 0, false⟩])) (by kernel_rfl) ?_
   refine oC (fun (x0_6 : Int) => .int .i64 x0_6) (atN 7 (ctl1 g30p6)) (fun x0_6 => ((19, .int .i64 x0_6) :: E3)) (fi := 35) (args := [.str a0, .vec (a1).length 3 ((a1).flatMap e47), .int .i64 y5_0]) (by kernel_rfl) (by kernel_rfl) (fun _ => by kernel_rfl) (fun r h => g35_ok k a0 a1 y5_0 r h) (fun _ => by kernel_rfl) (fun x0_6 hx0_6 => ?_)
   refine oR 7 (p' := g30p8) (eE := ((7, .ptr 1 4 0) :: (21, .agg [.int .i64 y5_0, .int .i64 (fW .i64 (y5_0 + 1)), .bool false, .bool (decide (2 ≤ x0_6))]) :: (20, .bool (decide (2 ≤ x0_6))) :: (19, .int .i64 x0_6) :: E3)) (H' := (mkH [⟨(y5_1).flatMap e37, 0, false⟩, ⟨[.int .i64 y5_0, .int .i64 (fW .i64 (y5_0 + 1)), .bool false, .bool (decide (2 ≤ x0_6))], 4, false⟩])) (by kernel_rfl) ?_
   refine oK [0, 1, 5, 6, 7] (eE := [(0, .str a0), (1, .vec (a1).length 3 ((a1).flatMap e47)), (5, .own 0 (y5_1).length 4), (6, .int .i64 y5_0), (7, .ptr 1 4 0)]) (by kernel_rfl) ?_
   let E4 : Env := [(23, .int .i64 y5_0), (22, .vec (a1).length 3 ((a1).flatMap e47)), (0, .str a0), (1, .vec (a1).length 3 ((a1).flatMap e47)), (5, .own 0 (y5_1).length 4), (6, .int .i64 y5_0), (7, .ptr 1 4 0)]
   refine oR 3 (p' := (atN 2 (ctl1 g30p8))) (eE := E4) (H' := (mkH [⟨(y5_1).flatMap e37, 0, false⟩, ⟨[.int .i64 y5_0, .int .i64 (fW .i64 (y5_0 + 1)), .bool false, .bool (decide (2 ≤ x0_6))], 4, false⟩])) (by kernel_rfl) ?_
   refine oH (fun (x1_2 : S46) => (.vptr [.int .i64 x1_2.f0, .str x1_2.f1, .int .i64 x1_2.f2], (mkH [⟨(y5_1).flatMap e37, 0, false⟩, ⟨[.int .i64 y5_0, .int .i64 (fW .i64 (y5_0 + 1)), .bool false, .bool (decide (2 ≤ x0_6))], 4, false⟩]))) (atN 3 (ctl1 g30p8)) (fun x1_2 => ((24, .vptr [.int .i64 x1_2.f0, .str x1_2.f1, .int .i64 x1_2.f2]) :: E4)) (vidxH (sz := 3) e47_len (by kernel_rfl)) (fun _ => by kernel_rfl) (fun x1_2 hx1_2 => ?_)
   refine oR 4 (p' := g30p10) (eE := ((27, .bool (decide (x1_2.f0 = 11))) :: (26, .int .i64 x1_2.f0) :: (25, .vptr [.int .i64 x1_2.f0, .str x1_2.f1, .int .i64 x1_2.f2]) :: (24, .vptr [.int .i64 x1_2.f0, .str x1_2.f1, .int .i64 x1_2.f2]) :: E4)) (H' := (mkH [⟨(y5_1).flatMap e37, 0, false⟩, ⟨[.int .i64 y5_0, .int .i64 (fW .i64 (y5_0 + 1)), .bool false, .bool (decide (2 ≤ x0_6))], 4, false⟩])) (by kernel_rfl) ?_
   refine oJ (f := fun (z6 : Bool × Int × (List S36) × Int) => (appS 24 z6.2.2.1 ([(⟨z6.2.2.2, z6.2.1, z6.1, decide (2 ≤ x0_6)⟩ : S36)] : List S36)).bind fun x2_3 => (g30_l5 k a0 a1 n) z6.2.1 x2_3) g30p13 (fun (z6 : Bool × Int × (List S36) × Int) => [(0, .str a0), (1, .vec (a1).length 3 ((a1).flatMap e47)), (5, .own 0 (z6.2.2.1).length 4), (7, .ptr 1 4 0)]) (fun (z6 : Bool × Int × (List S36) × Int) => (mkH [⟨(z6.2.2.1).flatMap e37, 0, false⟩, ⟨[.int .i64 z6.2.2.2, .int .i64 z6.2.1, .bool z6.1, .bool (decide (2 ≤ x0_6))], 4, false⟩])) (fun z6 => ?_) (fun j6 hj6 => ?_)
   ·let E5 : Env := [(53, .slice 2 4 0 1 4), (52, .agg [.int .i64 z6.2.2.2, .int .i64 z6.2.1, .bool z6.1, .bool (decide (2 ≤ x0_6))]), (51, .own 0 (z6.2.2.1).length 4), (0, .str a0), (1, .vec (a1).length 3 ((a1).flatMap e47)), (5, .own 0 (z6.2.2.1).length 4), (7, .ptr 1 4 0)]
    refine oR 4 (p' := (atN 3 (ctl1 g30p13))) (eE := E5) (H' := (mkH [⟨(z6.2.2.1).flatMap e37, 0, false⟩, ⟨[.int .i64 z6.2.2.2, .int .i64 z6.2.1, .bool z6.1, .bool (decide (2 ≤ x0_6))], 4, false⟩, ⟨[.int .i64 z6.2.2.2, .int .i64 z6.2.1, .bool z6.1, .bool (decide (2 ≤ x0_6))], 0, false⟩])) (by kernel_rfl) ?_
    refine oH (fun (x2_3 : (List S36)) => (.own 0 (x2_3).length 4, (mkH [⟨(x2_3).flatMap e37, 0, false⟩, ⟨[.int .i64 z6.2.2.2, .int .i64 z6.2.1, .bool z6.1, .bool (decide (2 ≤ x0_6))], 4, false⟩, ⟨[.int .i64 z6.2.2.2, .int .i64 z6.2.1, .bool z6.1, .bool (decide (2 ≤ x0_6))], 0, false⟩]))) (atN 4 (ctl1 g30p13)) (fun x2_3 => ((54, .own 0 (x2_3).length 4) :: E5)) (appH (sz := 4) e37_len rfl e37_one [⟨(z6.2.2.1).flatMap e37, 0, false⟩, ⟨[.int .i64 z6.2.2.2, .int .i64 z6.2.1, .bool z6.1, .bool (decide (2 ≤ x0_6))], 4, false⟩, ⟨[.int .i64 z6.2.2.2, .int .i64 z6.2.1, .bool z6.1, .bool (decide (2 ≤ x0_6))], 0, false⟩] 0 24 z6.2.2.1 ([(⟨z6.2.2.2, z6.2.1, z6.1, decide (2 ≤ x0_6)⟩ : S36)] : List S36) rfl rfl (by kernel_rfl)) (fun _ => by kernel_rfl) (fun x2_3 hx2_3 => ?_)
    let E6 : Env := ((6, .int .i64 z6.2.1) :: (56, .int .i64 z6.2.1) :: (55, .ptr 1 4 1) :: (5, .own 0 (x2_3).length 4) :: (54, .own 0 (x2_3).length 4) :: E5)
    refine oR 7 (p' := g30p3) (eE := E6) (H' := (mkH [⟨(x2_3).flatMap e37, 0, false⟩, ⟨[.int .i64 z6.2.2.2, .int .i64 z6.2.1, .bool z6.1, .bool (decide (2 ≤ x0_6))], 4, false⟩, ⟨[.int .i64 z6.2.2.2, .int .i64 z6.2.1, .bool z6.1, .bool (decide (2 ≤ x0_6))], 0, false⟩])) (by kernel_rfl) ?_
    refine oK [0, 1, 5, 6] (eE := [(0, .str a0), (1, .vec (a1).length 3 ((a1).flatMap e47)), (5, .own 0 (x2_3).length 4), (6, .int .i64 z6.2.1)]) (by kernel_rfl) ?_
    refine ok_cut [⟨(x2_3).flatMap e37, 0, false⟩] [⟨[.int .i64 z6.2.2.2, .int .i64 z6.2.1, .bool z6.1, .bool (decide (2 ≤ x0_6))], 4, false⟩, ⟨[.int .i64 z6.2.2.2, .int .i64 z6.2.1, .bool z6.1, .bool (decide (2 ≤ x0_6))], 0, false⟩] (by kernel_rfl) rfl (by kernel_rfl) ⟨(purs_belows _ (purs_flatMap e37_pur _)), trivial⟩ ?_
    exact ih z6.2.1 x2_3
   ·refine oS 27 (b := decide (x1_2.f0 = 11)) (by kernel_rfl) (fun hb => ?_) (fun hb => ?_)
    ·let E7 : Env := ((28, .ptr 1 4 2) :: (27, .bool true) :: (27, .bool (decide (x1_2.f0 = 11))) :: (26, .int .i64 x1_2.f0) :: (25, .vptr [.int .i64 x1_2.f0, .str x1_2.f1, .int .i64 x1_2.f2]) :: (24, .vptr [.int .i64 x1_2.f0, .str x1_2.f1, .int .i64 x1_2.f2]) :: E4)
     refine oR 6 (p' := g30p13) (eE := E7) (H' := (mkH [⟨(y5_1).flatMap e37, 0, false⟩, ⟨[.int .i64 y5_0, .int .i64 (fW .i64 (y5_0 + 1)), .bool true, .bool (decide (2 ≤ x0_6))], 4, false⟩])) (by kernel_rfl) ?_
     refine oK [0, 1, 5, 7] (eE := [(0, .str a0), (1, .vec (a1).length 3 ((a1).flatMap e47)), (5, .own 0 (y5_1).length 4), (7, .ptr 1 4 0)]) (by kernel_rfl) ?_
     exact hj6 (true, fW .i64 (y5_0 + 1), y5_1, y5_0)
    ·let E8 : Env := ((8, .int .i64 y5_0) :: (29, .int .i64 y5_0) :: (27, .bool false) :: (27, .bool (decide (x1_2.f0 = 11))) :: (26, .int .i64 x1_2.f0) :: (25, .vptr [.int .i64 x1_2.f0, .str x1_2.f1, .int .i64 x1_2.f2]) :: (24, .vptr [.int .i64 x1_2.f0, .str x1_2.f1, .int .i64 x1_2.f2]) :: E4)
     refine oR 8 (p' := g30p14) (eE := E8) (H' := (mkH [⟨(y5_1).flatMap e37, 0, false⟩, ⟨[.int .i64 y5_0, .int .i64 (fW .i64 (y5_0 + 1)), .bool false, .bool (decide (2 ≤ x0_6))], 4, false⟩])) (by kernel_rfl) ?_
     refine oK [0, 1, 5, 7, 8] (eE := [(0, .str a0), (1, .vec (a1).length 3 ((a1).flatMap e47)), (5, .own 0 (y5_1).length 4), (7, .ptr 1 4 0), (8, .int .i64 y5_0)]) (by kernel_rfl) ?_
     exact (g30_l7_ok k j6 a0 a1 x0_6 hj6 k) y5_0 (fW .i64 (y5_0 + 1)) y5_1 y5_0
  ·refine oR 8 (p' := .fin) (eE := ((4, .own 0 (y5_1).length 4) :: (57, .own 0 (y5_1).length 4) :: (12, .bool false) :: E2)) (H' := (mkH [⟨(y5_1).flatMap e37, 0, false⟩])) (by kernel_rfl) ?_
   exact oT (r := y5_1) (xs := [.own 0 (y5_1).length 4]) (v := .vec (y5_1).length 4 ((y5_1).flatMap e37)) (by kernel_rfl) (by kernel_rfl) (by kernel_rfl) (fz_own e37_len e37_pur rfl rfl (.pures (by kernel_rfl))) (by kernel_rfl)
def g30 (k : Nat) (a0 : (List Nat)) (a1 : (List S46)) : Option (List S36) :=
 g30_l5 k a0 a1 k 0 ([] : List S36)
theorem g30_ok (k : Nat) (a0 : (List Nat)) (a1 : (List S46)) (r : (List S36)) (h : g30 k a0 a1 = some r) : PureOk Try.prog 30 [.str a0, .vec (a1).length 3 ((a1).flatMap e47)] (.vec (r).length 4 ((r).flatMap e37)) := by
 refine pure_of X30 (fun _ => rfl) Try.func30 (by decide +kernel) (by kernel_rfl) (t := g30 k a0 a1) ?_ h
 unfold g30
 refine oE (eE := [(0, .str a0), (1, .vec (a1).length 3 ((a1).flatMap e47))]) (by kernel_rfl) ?_
 refine oR 7 (p' := (atN 1 (ctl1 g30p1))) (eE := [(5, .nils), (4, .nils), (0, .str a0), (1, .vec (a1).length 3 ((a1).flatMap e47))]) (H' := (mkH [])) (by kernel_rfl) ?_
 refine ok_own [] 5 4 rfl (by kernel_rfl) ?_
 refine oE (eE := [(5, .own 0 (([] : List S36)).length 4), (5, .nils), (4, .nils), (0, .str a0), (1, .vec (a1).length 3 ((a1).flatMap e47))]) (by kernel_rfl) ?_
 refine ok_heap (H' := (mkH [⟨(([] : List S36)).flatMap e37, 0, false⟩])) (by kernel_rfl) ?_
 let E1 : Env := [(6, .int .i64 0), (5, .own 0 (([] : List S36)).length 4), (5, .nils), (4, .nils), (0, .str a0), (1, .vec (a1).length 3 ((a1).flatMap e47))]
 refine oR 8 (p' := g30p3) (eE := E1) (H' := (mkH [⟨(([] : List S36)).flatMap e37, 0, false⟩])) (by kernel_rfl) ?_
 refine oK [0, 1, 5, 6] (eE := [(0, .str a0), (1, .vec (a1).length 3 ((a1).flatMap e47)), (5, .own 0 (([] : List S36)).length 4), (6, .int .i64 0)]) (by kernel_rfl) ?_
 exact (g30_l5_ok k a0 a1 k) 0 ([] : List S36)
end
end Go.Proofs.Ytbmijiibfaacmaa.Am
set_option maxRecDepth 100000
set_option linter.unusedVariables false
set_option linter.unusedSimpArgs false
namespace Go.Proofs.Ytbmijiibfaacmaa.Am
open Go
def frmN : List Nat → Nat → Nat → Nat
 | [], _, e => e
 | c :: r, k, e => if c = 10 then (if c = 11 then e else k + 1) else frmN r (k + 1) (if c = 11 then e else k + 1)
def splN (bl : Nat → Bool) : Nat → List Nat → Nat → List (Nat × Nat × Bool × Bool)
 | 0, _, _ => []
 | _ + 1, [], _ => []
 | f + 1, c :: r, i => if c = 11 then (i, i + 1, true, bl i) :: splN bl f r (i + 1) else (i, frmN (c :: r) i (i + 1), false, bl i) :: splN bl f ((c :: r).drop (frmN (c :: r) i (i + 1) - i)) (frmN (c :: r) i (i + 1))
theorem frm_lo : ∀ (r : List Nat) (k e : Nat), e ≤ k → e ≤ frmN r k e ∧ frmN r k e ≤ k + r.length
 | [], k, e, h => by simp only [frmN, List.length_nil]; omega
 | c :: r, k, e, h => by
  simp only [frmN, List.length_cons]
  have h1 := frm_lo r (k + 1) e (by omega)
  have h2 := frm_lo r (k + 1) (k + 1) (Nat.le_refl _)
  split
  ·split <;> omega
  ·split <;> omega
theorem frm_bnd {c : Nat} (r : List Nat) (i : Nat) (h : c ≠ 11) : i + 1 ≤ frmN (c :: r) i (i + 1) ∧ frmN (c :: r) i (i + 1) ≤ i + r.length + 1 := by
 simp only [frmN, if_neg h]
 have h2 := frm_lo r (i + 1) (i + 1) (Nat.le_refl _)
 split <;> omega
def itm (x : Nat × Nat × Bool × Bool) : S36 := ⟨(x.1 : Int), (x.2.1 : Int), x.2.2.1, x.2.2.2⟩
abbrev kindsN (l : List (Nat × Nat × Nat)) : List Nat := l.map (fun x => x.1)
abbrev blkF (s : List Nat) (l : List (Nat × Nat × Nat)) : Nat → Bool := fun i => decide (2 ≤ ((gapI s l (i : Int) : Nat) : Int))
theorem splN_len (bl : Nat → Bool) : ∀ (f : Nat) (r : List Nat) (i : Nat), (splN bl f r i).length ≤ r.length
 | 0, r, i => by simp [splN]
 | f + 1, [], i => by simp [splN]
 | f + 1, c :: r, i => by
  simp only [splN]
  split
  ·have := splN_len bl f r (i + 1)
   simp only [List.length_cons]; omega
  ·rename_i h
   have b := frm_bnd r i h
   have := splN_len bl f ((c :: r).drop (frmN (c :: r) i (i + 1) - i)) (frmN (c :: r) i (i + 1))
   simp only [List.length_cons, List.length_drop] at this ⊢
   omega
theorem ap24 {acc : List S36} {v : S36} (h : acc.length ≤ 100000) : appS 24 acc [v] = some (acc ++ [v]) := by
 unfold appS; rw [if_pos (by simp only [List.length_cons, List.length_nil]; omega)]
theorem kinds_at {s : List Nat} {l : List (Nat × Nat × Nat)} {i c : Nat} {r : List Nat} (h : (kindsN l).drop i = c :: r) : ∃ x, nthL (l.map (mkTok s)) (i : Int) = some (mkTok s x) ∧ x.1 = c ∧ i < l.length := by
 rcases Nat.lt_or_ge i l.length with hi | hi
 ·obtain ⟨x, r', hx, -, -, -⟩ := dconsL (s := l) (i := i) hi
  refine ⟨x, map_drop' hx, ?_, hi⟩
  rw [kindsN, ← List.map_drop, hx, List.map_cons] at h
  exact (List.cons.inj h).1
 ·rw [kindsN, ← List.map_drop, List.drop_eq_nil_of_le hi] at h; cases h
theorem kinds_end {l : List (Nat × Nat × Nat)} {i : Nat} (h : (kindsN l).drop i = []) : l.length ≤ i := by
 rw [kindsN, ← List.map_drop] at h
 exact List.drop_eq_nil_iff.1 (List.map_eq_nil_iff.1 h)
theorem take_at {k : Nat} {s : List Nat} (hk : s.length + 10 ≤ k) (hl : s.length ≤ 2000) {l : List (Nat × Nat × Nat)} (ht : Toks s 0 l) (a e : Nat) (nt : Bool) {acc : List S36} (ha : acc.length ≤ 100000) :
 g29f47_1 k (a : Int) (e : Int) nt s (l.map (mkTok s)) acc = some (acc ++ [itm (a, e, nt, blkF s l a)]) := by
 unfold g29f47_1
 refine bS (by (try simp (disch := omega) only [fwI]); exact gblank_at hk hl ht (a : Int)) ?_
 refine bS (by (try simp (disch := omega) only [fwI]); exact ap24 ha) ?_
 rfl
theorem split_f {k : Nat} {s : List Nat} (hk : s.length + 10 ≤ k) (hl : s.length ≤ 2000) {l : List (Nat × Nat × Nat)} (ht : Toks s 0 l) (c5 : Int → List S36 → Option (List S36)) (y : Int) {acc : List S36} (ha : acc.length ≤ 100000) (cl : l.length ≤ 2000) (a : Nat) : ∀ (r : List Nat) (f i e : Nat), (kindsN l).drop i = r → r.length < f → e ≤ 3000 →
 g29_l6 k c5 s (l.map (mkTok s)) y f (i : Int) (e : Int) (a : Int) acc = c5 ((frmN r i e : Nat) : Int) (acc ++ [itm (a, frmN r i e, false, blkF s l a)])
 | r, 0, i, e, hr, hf, he => by omega
 | [], f + 1, i, e, hr, hf, he => by
  have := kinds_end hr
  rw [g29_l6_s]
  refine (jS (v := ((e : Int), (a : Int), acc)) (fun j => ?_)).trans ?_
  ·exact iF (dF (by rw [List.length_map]; omega)) rfl
  ·refine bS (by (try simp (disch := omega) only [fwI]); exact take_at hk hl ht a e false ha) ?_
   rfl
 | c :: r, f + 1, i, e, hr, hf, he => by
  obtain ⟨x, hx, hc, hi⟩ := kinds_at (s := s) hr
  have ih := split_f hk hl ht c5 y ha cl a r f (i + 1) (if c = 11 then e else i + 1) (drop_step hr) (by simp only [List.length_cons] at hf; omega) (by split <;> omega)
  rw [g29_l6_s]
  simp only [frmN]
  have fx : (mkTok s x).f0 = (c : Int) := by rw [← hc]; rfl
  by_cases h10 : c = 10
  ·rw [if_pos h10, if_neg (by omega)]
   refine (jS (v := (((i + 1 : Nat) : Int), (a : Int), acc)) (fun j => ?_)).trans ?_
   ·refine iT (dT (by rw [List.length_map]; omega)) ?_
    refine bS (by (try simp (disch := omega) only [fwI]); exact hx) ?_
    refine (jS (v := (((i + 1 : Nat) : Int), (i : Int), (a : Int), acc)) (fun j => ?_)).trans ?_
    ·refine iT (by rw [fx, dF (by omega)]; rfl) ?_
     rw [fw_s (by omega)]
    ·refine bS (by (try simp (disch := omega) only [fwI]); exact hx) ?_
     exact iT (dT (by rw [fx]; omega)) rfl
   ·refine bS (by (try simp (disch := omega) only [fwI]); exact take_at hk hl ht a (i + 1) false ha) ?_
    rfl
  ·rw [if_neg h10]
   refine (jC (r := g29_l6 k c5 s (l.map (mkTok s)) y f ((i + 1 : Nat) : Int) (((if c = 11 then e else i + 1) : Nat) : Int) (a : Int) acc) (fun j => ?_)).trans ih
   refine iT (dT (by rw [List.length_map]; omega)) ?_
   refine bS (by (try simp (disch := omega) only [fwI]); exact hx) ?_
   refine (jS (v := ((((if c = 11 then e else i + 1) : Nat) : Int), (i : Int), (a : Int), acc)) (fun j => ?_)).trans ?_
   ·by_cases h11 : c = 11
    ·refine iF (by rw [fx, dT (by omega)]; rfl) ?_
     rw [if_pos h11]
    ·refine iT (by rw [fx, dF (by omega)]; rfl) ?_
     rw [if_neg h11, fw_s (by omega)]
   ·refine bS (by (try simp (disch := omega) only [fwI]); exact hx) ?_
    refine iF (dF (by rw [fx]; omega)) ?_
    rw [fw_s (by omega)]
theorem split_l {k : Nat} {s : List Nat} (hk : s.length + 10 ≤ k) (hl : s.length ≤ 2000) {l : List (Nat × Nat × Nat)} (ht : Toks s 0 l) (cl : l.length ≤ s.length) : ∀ (f i : Nat) (r : List Nat) (acc : List S36), (kindsN l).drop i = r → r.length < f → i ≤ l.length → acc.length ≤ i →
 g29_l5 k s (l.map (mkTok s)) f (i : Int) acc = some (acc ++ (splN (blkF s l) f r i).map itm)
 | 0, i, r, acc, hr, hf, hi, ha => by omega
 | f + 1, i, [], acc, hr, hf, hi, ha => by
  have := kinds_end hr
  rw [g29_l5_s]
  refine iF (dF (by rw [List.length_map]; omega)) ?_
  simp [splN]
 | f + 1, i, c :: r, acc, hr, hf, hi, ha => by
  obtain ⟨x, hx, hc, hi⟩ := kinds_at (s := s) hr
  have fx : (mkTok s x).f0 = (c : Int) := by rw [← hc]; rfl
  rw [g29_l5_s]
  refine iT (dT (by rw [List.length_map]; omega)) ?_
  refine bS (by (try simp (disch := omega) only [fwI]); exact hx) ?_
  have rl : r.length + i + 1 = l.length := by have := drop_len hr; rw [kindsN, List.length_map] at this; exact this
  simp only [List.length_cons] at hf
  simp only [splN]
  by_cases h11 : c = 11
  ·refine iT (dT (by rw [fx]; omega)) ?_
   rw [fw_s (by omega), if_pos h11]
   refine bS (by (try simp (disch := omega) only [fwI]); exact take_at hk hl ht i (i + 1) true (acc := acc) (by omega)) ?_
   have ih := split_l hk hl ht cl f (i + 1) r (acc ++ [itm (i, i + 1, true, blkF s l i)]) (drop_step hr) (by omega) (by omega) (by simp only [List.length_append, List.length_cons, List.length_nil]; omega)
   refine ih.trans ?_
   simp only [List.append_assoc, List.map_cons, List.singleton_append]
  ·refine iF (dF (by rw [fx]; omega)) ?_
   rw [fw_s (by omega), if_neg h11]
   have b := frm_bnd r i h11
   refine (split_f hk hl ht _ _ (by omega) (by omega) i (c :: r) k i (i + 1) hr (by simp only [List.length_cons]; omega) (by omega)).trans ?_
   have hd : ∀ z, i ≤ z → (kindsN l).drop z = (c :: r).drop (z - i) := fun z hz => by rw [← hr, List.drop_drop]; congr 1; omega
   have ih := split_l hk hl ht cl f (frmN (c :: r) i (i + 1)) ((c :: r).drop (frmN (c :: r) i (i + 1) - i)) (acc ++ [itm (i, frmN (c :: r) i (i + 1), false, blkF s l i)]) (hd _ (by omega)) (by simp only [List.length_drop, List.length_cons]; omega) (by omega) (by simp only [List.length_append, List.length_cons, List.length_nil]; omega)
   refine ih.trans ?_
   simp only [List.append_assoc, List.map_cons, List.singleton_append]
theorem split_at {k : Nat} {s : List Nat} (hk : s.length + 10 ≤ k) (hl : s.length ≤ 2000) {l : List (Nat × Nat × Nat)} (ht : Toks s 0 l) : g29 k s (l.map (mkTok s)) = some ((splN (blkF s l) k (kindsN l) 0).map itm) := by
 have cl : l.length ≤ s.length := toks_len s (s.length + 1) 0 l ((toks_iff s (s.length + 1) 0 l (by omega)).2 ht) (Nat.zero_le _)
 unfold g29
 exact split_l hk hl ht cl k 0 (kindsN l) [] rfl (by rw [kindsN, List.length_map]; omega) (Nat.zero_le _) (Nat.zero_le _)
end Go.Proofs.Ytbmijiibfaacmaa.Am
set_option maxRecDepth 100000
set_option linter.unusedVariables false
namespace Go.Proofs.Ytbmijiibfaacmaa.Am
noncomputable section
open Go
def X32 : Fx (List Nat) := ⟨Try.prog, cx, Try.f32, fun r => .str r, 0, fun _ => H0, cxTi, cxOrd⟩
def g32p0 : Pt := nav [0] (bodyAt Try.f32)
def g32p1 : Pt := nav [0, 0, 0, 0] g32p0
def g32p2 : Pt := nav [0, 0] g32p1
def g32p4 : Pt := nav [2, 0, 0] g32p2
def g32p6 : Pt := nav [0, 0, 0] g32p4
def g32p7 : Pt := nav [0, 0] g32p6
def g32p9 : Pt := nav [2, 0, 0] g32p7
def g32 (k : Nat) (a0 : (List Nat)) (a1 : (List S46)) (a2 : S36) : Option (List Nat) :=
 jn (fun (z2 : Bool) => if z2 then (some ([] : List Nat)) else ((nthL a1 a2.f0).bind fun x0_3 => (nthL a1 (fW .i64 (a2.f1 - 1))).bind fun x0_10 => (g38 k (⟨x0_10.f0, x0_10.f1, x0_10.f2⟩ : S46)).bind fun x0_12 => jn (fun (z3 : Bool) => if z3 then (some ([] : List Nat)) else ((subL a0 (some x0_3.f2) (some x0_12)).bind fun x1_3 => some x1_3)) (fun j3 => if (decide (x0_3.f2 < 0)) then (j3 true) else (if (decide ((a0.length : Int) < x0_12)) then (j3 true) else (j3 (decide (x0_12 < x0_3.f2))))))) (fun j2 => if (decide (a2.f0 < 0)) then (j2 true) else (if (decide ((a1.length : Int) < a2.f1)) then (j2 true) else (j2 (decide (a2.f1 ≤ a2.f0)))))
theorem g32_ok (k : Nat) (a0 : (List Nat)) (a1 : (List S46)) (a2 : S36) (r : (List Nat)) (h : g32 k a0 a1 a2 = some r) : PureOk Try.prog 32 [.str a0, .vec (a1).length 3 ((a1).flatMap e47), .agg [.int .i64 a2.f0, .int .i64 a2.f1, .bool a2.f2, .bool a2.f3]] (.str r) := by
 refine pure_of X32 (fun _ => rfl) Try.func32 (by decide +kernel) (by kernel_rfl) (t := g32 k a0 a1 a2) ?_ h
 unfold g32
 refine oE (eE := [(0, .str a0), (1, .vec (a1).length 3 ((a1).flatMap e47)), (2, .agg [.int .i64 a2.f0, .int .i64 a2.f1, .bool a2.f2, .bool a2.f3])]) (by kernel_rfl) ?_
 let E1 : Env := [(12, .bool (decide (a2.f0 < 0))), (11, .bool (decide (a2.f0 < 0))), (10, .int .i64 a2.f0), (9, .ptr 0 4 0), (6, .str []), (5, .ptr 0 4 0), (0, .str a0), (1, .vec (a1).length 3 ((a1).flatMap e47)), (2, .agg [.int .i64 a2.f0, .int .i64 a2.f1, .bool a2.f2, .bool a2.f3])]
 refine oR 12 (p' := (atN 4 (ctl1 g32p1))) (eE := E1) (H' := (mkH [⟨[.int .i64 a2.f0, .int .i64 a2.f1, .bool a2.f2, .bool a2.f3], 0, false⟩])) (by kernel_rfl) ?_
 refine oJ (f := fun (z2 : Bool) => if z2 then (some ([] : List Nat)) else ((nthL a1 a2.f0).bind fun x0_3 => (nthL a1 (fW .i64 (a2.f1 - 1))).bind fun x0_10 => (g38 k (⟨x0_10.f0, x0_10.f1, x0_10.f2⟩ : S46)).bind fun x0_12 => jn (fun (z3 : Bool) => if z3 then (some ([] : List Nat)) else ((subL a0 (some x0_3.f2) (some x0_12)).bind fun x1_3 => some x1_3)) (fun j3 => if (decide (x0_3.f2 < 0)) then (j3 true) else (if (decide ((a0.length : Int) < x0_12)) then (j3 true) else (j3 (decide (x0_12 < x0_3.f2))))))) g32p2 (fun (z2 : Bool) => [(0, .str a0), (1, .vec (a1).length 3 ((a1).flatMap e47)), (5, .ptr 0 4 0), (25, .bool z2)]) (fun (z2 : Bool) => (mkH [⟨[.int .i64 a2.f0, .int .i64 a2.f1, .bool a2.f2, .bool a2.f3], 0, false⟩])) (fun z2 => ?_) (fun j2 hj2 => ?_)
 ·refine oS 25 (b := z2) (by kernel_rfl) (fun hb => ?_) (fun hb => ?_)
  ·let E2 : Env := [(6, .str []), (25, .bool true), (0, .str a0), (1, .vec (a1).length 3 ((a1).flatMap e47)), (5, .ptr 0 4 0), (25, .bool z2)]
   refine oR 6 (p' := .fin) (eE := E2) (H' := (mkH [⟨[.int .i64 a2.f0, .int .i64 a2.f1, .bool a2.f2, .bool a2.f3], 0, false⟩])) (by kernel_rfl) ?_
   exact oT (r := ([] : List Nat)) (xs := [.str []]) (v := .str []) (by kernel_rfl) (by kernel_rfl) (by kernel_rfl) (.pures (by kernel_rfl)) (by kernel_rfl)
  ·let E3 : Env := [(25, .bool false), (0, .str a0), (1, .vec (a1).length 3 ((a1).flatMap e47)), (5, .ptr 0 4 0), (25, .bool z2)]
   refine oR 3 (p' := g32p4) (eE := E3) (H' := (mkH [⟨[.int .i64 a2.f0, .int .i64 a2.f1, .bool a2.f2, .bool a2.f3], 0, false⟩])) (by kernel_rfl) ?_
   refine ok_bind (fun x0_3 hx0_3 => ?_)
   refine ok_bind (fun x0_10 hx0_10 => ?_)
   refine ok_bind (fun x0_12 hx0_12 => ?_)
   let E4 : Env := [(28, .int .i64 a2.f0), (27, .ptr 0 4 0), (26, .vec (a1).length 3 ((a1).flatMap e47)), (25, .bool false), (0, .str a0), (1, .vec (a1).length 3 ((a1).flatMap e47)), (5, .ptr 0 4 0), (25, .bool z2)]
   let E5 : Env := ((35, .int .i64 (fW .i64 (a2.f1 - 1))) :: (34, .int .i64 a2.f1) :: (33, .ptr 0 4 1) :: (32, .vec (a1).length 3 ((a1).flatMap e47)) :: (31, .int .i64 x0_3.f2) :: (30, .vptr [.int .i64 x0_3.f2]) :: (29, .vptr [.int .i64 x0_3.f0, .str x0_3.f1, .int .i64 x0_3.f2]) :: E4)
   let E6 : Env := ((8, .int .i64 x0_12) :: (7, .int .i64 x0_3.f2) :: (38, .int .i64 x0_12) :: (37, .agg [.int .i64 x0_10.f0, .str x0_10.f1, .int .i64 x0_10.f2]) :: (36, .vptr [.int .i64 x0_10.f0, .str x0_10.f1, .int .i64 x0_10.f2]) :: E5)
   refine ok_draw (p' := nav [0] g32p4) (eE := E6) (H' := (mkH [⟨[.int .i64 a2.f0, .int .i64 a2.f1, .bool a2.f2, .bool a2.f3], 0, false⟩])) (hs := [(mkH [⟨[.int .i64 a2.f0, .int .i64 a2.f1, .bool a2.f2, .bool a2.f3], 0, false⟩])]) [(0, 0, 0), (0, 0, 0), (2, 0, 1), (7, 0, 0), (15, 0, 0), (31, 0, 1), (0, 0, 0), (0, 0, 0), (128, 0, 0), (384, 0, 0), (960, 0, 0), (1984, 0, 0), (4032, 0, 0), (8191, 0, 0), (16383, 0, 0)] (by kernel_rfl) (by kernel_rfl) (by kernel_rfl) (opsD_run 3 (l' := (opsAt g32p4).toList.drop 3) (eE := E4) (H' := (mkH [⟨[.int .i64 a2.f0, .int .i64 a2.f1, .bool a2.f2, .bool a2.f3], 0, false⟩])) (hs := []) (by kernel_rfl) (opsD_chk (l' := (opsAt g32p4).toList.drop 4) (eE := ((29, .vptr [.int .i64 x0_3.f0, .str x0_3.f1, .int .i64 x0_3.f2]) :: E4)) (hs := []) (x := x0_3) (fun (x0_3 : S46) => (.vptr [.int .i64 x0_3.f0, .str x0_3.f1, .int .i64 x0_3.f2], (mkH [⟨[.int .i64 a2.f0, .int .i64 a2.f1, .bool a2.f2, .bool a2.f3], 0, false⟩]))) (vidxH (sz := 3) e47_len (by kernel_rfl)) hx0_3 (by kernel_rfl) (opsD_run 6 (l' := (opsAt g32p4).toList.drop 10) (eE := E5) (H' := (mkH [⟨[.int .i64 a2.f0, .int .i64 a2.f1, .bool a2.f2, .bool a2.f3], 0, false⟩])) (hs := []) (by kernel_rfl) (opsD_chk (l' := (opsAt g32p4).toList.drop 11) (eE := ((36, .vptr [.int .i64 x0_10.f0, .str x0_10.f1, .int .i64 x0_10.f2]) :: E5)) (hs := []) (x := x0_10) (fun (x0_10 : S46) => (.vptr [.int .i64 x0_10.f0, .str x0_10.f1, .int .i64 x0_10.f2], (mkH [⟨[.int .i64 a2.f0, .int .i64 a2.f1, .bool a2.f2, .bool a2.f3], 0, false⟩]))) (vidxH (sz := 3) e47_len (by kernel_rfl)) hx0_10 (by kernel_rfl) (opsD_run 1 (l' := (opsAt g32p4).toList.drop 12) (eE := ((37, .agg [.int .i64 x0_10.f0, .str x0_10.f1, .int .i64 x0_10.f2]) :: (36, .vptr [.int .i64 x0_10.f0, .str x0_10.f1, .int .i64 x0_10.f2]) :: E5)) (H' := (mkH [⟨[.int .i64 a2.f0, .int .i64 a2.f1, .bool a2.f2, .bool a2.f3], 0, false⟩])) (hs := []) (by kernel_rfl) (opsD_call (l' := (opsAt g32p4).toList.drop 13) (eE := ((38, .int .i64 x0_12) :: (37, .agg [.int .i64 x0_10.f0, .str x0_10.f1, .int .i64 x0_10.f2]) :: (36, .vptr [.int .i64 x0_10.f0, .str x0_10.f1, .int .i64 x0_10.f2]) :: E5)) (hs := [(mkH [⟨[.int .i64 a2.f0, .int .i64 a2.f1, .bool a2.f2, .bool a2.f3], 0, false⟩])]) (fi := 38) (args := [.agg [.int .i64 x0_10.f0, .str x0_10.f1, .int .i64 x0_10.f2]]) (v := .int .i64 x0_12) (by kernel_rfl) (by kernel_rfl) (by kernel_rfl) (g38_ok k (⟨x0_10.f0, x0_10.f1, x0_10.f2⟩ : S46) x0_12 hx0_12) (by kernel_rfl) (opsD_run 2 (l' := (opsAt g32p4).toList.drop 15) (eE := E6) (H' := (mkH [⟨[.int .i64 a2.f0, .int .i64 a2.f1, .bool a2.f2, .bool a2.f3], 0, false⟩])) (hs := []) (by kernel_rfl) (.nil)))))))) (by kernel_rfl) (by kernel_rfl) (by kernel_rfl) ?_
   refine oR 6 (p' := (atN 3 (ctl1 g32p6))) (eE := ((41, .bool (decide (x0_3.f2 < 0))) :: (40, .bool (decide (x0_3.f2 < 0))) :: (39, .int .i64 x0_3.f2) :: E6)) (H' := (mkH [⟨[.int .i64 a2.f0, .int .i64 a2.f1, .bool a2.f2, .bool a2.f3], 0, false⟩])) (by kernel_rfl) ?_
   refine oJ (f := fun (z3 : Bool) => if z3 then (some ([] : List Nat)) else ((subL a0 (some x0_3.f2) (some x0_12)).bind fun x1_3 => some x1_3)) g32p7 (fun (z3 : Bool) => [(0, .str a0), (7, .int .i64 x0_3.f2), (8, .int .i64 x0_12), (51, .bool z3)]) (fun (z3 : Bool) => (mkH [])) (fun z3 => ?_) (fun j3 hj3 => ?_)
   ·refine oS 51 (b := z3) (by kernel_rfl) (fun hb => ?_) (fun hb => ?_)
    ·let E7 : Env := [(6, .str []), (51, .bool true), (0, .str a0), (7, .int .i64 x0_3.f2), (8, .int .i64 x0_12), (51, .bool z3)]
     refine oR 6 (p' := .fin) (eE := E7) (H' := (mkH [])) (by kernel_rfl) ?_
     exact oT (r := ([] : List Nat)) (xs := [.str []]) (v := .str []) (by kernel_rfl) (by kernel_rfl) (by kernel_rfl) (.pures (by kernel_rfl)) (by kernel_rfl)
    ·let E8 : Env := [(54, .int .i64 x0_12), (53, .int .i64 x0_3.f2), (52, .str a0), (51, .bool false), (0, .str a0), (7, .int .i64 x0_3.f2), (8, .int .i64 x0_12), (51, .bool z3)]
     refine oR 7 (p' := (atN 3 (ctl1 g32p9))) (eE := E8) (H' := (mkH [])) (by kernel_rfl) ?_
     refine oH (fun (x1_3 : (List Nat)) => (.str x1_3, (mkH []))) (atN 4 (ctl1 g32p9)) (fun x1_3 => ((55, .str x1_3) :: E8)) (subH (some x0_3.f2) (some x0_12) (by kernel_rfl)) (fun _ => by kernel_rfl) (fun x1_3 hx1_3 => ?_)
     refine oR 3 (p' := .fin) (eE := ((6, .str x1_3) :: (55, .str x1_3) :: E8)) (H' := (mkH [])) (by kernel_rfl) ?_
     exact oT (r := x1_3) (xs := [.str x1_3]) (v := .str x1_3) (by kernel_rfl) (by kernel_rfl) (by kernel_rfl) (.pures (by kernel_rfl)) (by kernel_rfl)
   ·refine oS 41 (b := decide (x0_3.f2 < 0)) (by kernel_rfl) (fun hb => ?_) (fun hb => ?_)
    ·let E9 : Env := ((51, .bool true) :: (50, .tuple []) :: (49, .tuple []) :: (48, .tuple []) :: (47, .bool true) :: (46, .bool true) :: (45, .tuple []) :: (44, .tuple []) :: (43, .tuple []) :: (42, .tuple []) :: (41, .bool true) :: (41, .bool (decide (x0_3.f2 < 0))) :: (40, .bool (decide (x0_3.f2 < 0))) :: (39, .int .i64 x0_3.f2) :: E6)
     refine oR 11 (p' := g32p7) (eE := E9) (H' := (mkH [⟨[.int .i64 a2.f0, .int .i64 a2.f1, .bool a2.f2, .bool a2.f3], 0, false⟩])) (by kernel_rfl) ?_
     refine oK [0, 7, 8, 51] (eE := [(0, .str a0), (7, .int .i64 x0_3.f2), (8, .int .i64 x0_12), (51, .bool true)]) (by kernel_rfl) ?_
     refine ok_cut [] [⟨[.int .i64 a2.f0, .int .i64 a2.f1, .bool a2.f2, .bool a2.f3], 0, false⟩] (by kernel_rfl) rfl (by kernel_rfl) trivial ?_
     exact hj3 true
    ·let E10 : Env := ((47, .bool (decide ((a0.length : Int) < x0_12))) :: (46, .bool (decide ((a0.length : Int) < x0_12))) :: (45, .bool (decide ((a0.length : Int) < x0_12))) :: (44, .int .i64 (a0.length : Int)) :: (43, .str a0) :: (42, .int .i64 x0_12) :: (41, .bool false) :: (41, .bool (decide (x0_3.f2 < 0))) :: (40, .bool (decide (x0_3.f2 < 0))) :: (39, .int .i64 x0_3.f2) :: E6)
     refine oR 6 (p' := (atN 9 (ctl1 g32p6))) (eE := E10) (H' := (mkH [⟨[.int .i64 a2.f0, .int .i64 a2.f1, .bool a2.f2, .bool a2.f3], 0, false⟩])) (by kernel_rfl) ?_
     refine oS 47 (b := decide ((a0.length : Int) < x0_12)) (by kernel_rfl) (fun hb => ?_) (fun hb => ?_)
     ·let E11 : Env := ((51, .bool true) :: (50, .tuple []) :: (49, .tuple []) :: (48, .tuple []) :: (47, .bool true) :: E10)
      refine oR 5 (p' := g32p7) (eE := E11) (H' := (mkH [⟨[.int .i64 a2.f0, .int .i64 a2.f1, .bool a2.f2, .bool a2.f3], 0, false⟩])) (by kernel_rfl) ?_
      refine oK [0, 7, 8, 51] (eE := [(0, .str a0), (7, .int .i64 x0_3.f2), (8, .int .i64 x0_12), (51, .bool true)]) (by kernel_rfl) ?_
      refine ok_cut [] [⟨[.int .i64 a2.f0, .int .i64 a2.f1, .bool a2.f2, .bool a2.f3], 0, false⟩] (by kernel_rfl) rfl (by kernel_rfl) trivial ?_
      exact hj3 true
     ·let E12 : Env := ((51, .bool (decide (x0_12 < x0_3.f2))) :: (50, .bool (decide (x0_12 < x0_3.f2))) :: (49, .int .i64 x0_12) :: (48, .int .i64 x0_3.f2) :: (47, .bool false) :: E10)
      refine oR 5 (p' := g32p7) (eE := E12) (H' := (mkH [⟨[.int .i64 a2.f0, .int .i64 a2.f1, .bool a2.f2, .bool a2.f3], 0, false⟩])) (by kernel_rfl) ?_
      refine oK [0, 7, 8, 51] (eE := [(0, .str a0), (7, .int .i64 x0_3.f2), (8, .int .i64 x0_12), (51, .bool (decide (x0_12 < x0_3.f2)))]) (by kernel_rfl) ?_
      refine ok_cut [] [⟨[.int .i64 a2.f0, .int .i64 a2.f1, .bool a2.f2, .bool a2.f3], 0, false⟩] (by kernel_rfl) rfl (by kernel_rfl) trivial ?_
      exact hj3 (decide (x0_12 < x0_3.f2))
 ·refine oS 12 (b := decide (a2.f0 < 0)) (by kernel_rfl) (fun hb => ?_) (fun hb => ?_)
  ·let E13 : Env := ((25, .bool true) :: (24, .tuple []) :: (23, .tuple []) :: (22, .tuple []) :: (21, .tuple []) :: (20, .tuple []) :: (19, .bool true) :: (18, .bool true) :: (17, .tuple []) :: (16, .tuple []) :: (15, .tuple []) :: (14, .tuple []) :: (13, .tuple []) :: (12, .bool true) :: E1)
   refine oR 14 (p' := g32p2) (eE := E13) (H' := (mkH [⟨[.int .i64 a2.f0, .int .i64 a2.f1, .bool a2.f2, .bool a2.f3], 0, false⟩])) (by kernel_rfl) ?_
   refine oK [0, 1, 5, 25] (eE := [(0, .str a0), (1, .vec (a1).length 3 ((a1).flatMap e47)), (5, .ptr 0 4 0), (25, .bool true)]) (by kernel_rfl) ?_
   exact hj2 true
  ·let E14 : Env := ((19, .bool (decide ((a1.length : Int) < a2.f1))) :: (18, .bool (decide ((a1.length : Int) < a2.f1))) :: (17, .bool (decide ((a1.length : Int) < a2.f1))) :: (16, .int .i64 (a1.length : Int)) :: (15, .vec (a1).length 3 ((a1).flatMap e47)) :: (14, .int .i64 a2.f1) :: (13, .ptr 0 4 1) :: (12, .bool false) :: E1)
   refine oR 7 (p' := (atN 11 (ctl1 g32p1))) (eE := E14) (H' := (mkH [⟨[.int .i64 a2.f0, .int .i64 a2.f1, .bool a2.f2, .bool a2.f3], 0, false⟩])) (by kernel_rfl) ?_
   refine oS 19 (b := decide ((a1.length : Int) < a2.f1)) (by kernel_rfl) (fun hb => ?_) (fun hb => ?_)
   ·let E15 : Env := ((25, .bool true) :: (24, .tuple []) :: (23, .tuple []) :: (22, .tuple []) :: (21, .tuple []) :: (20, .tuple []) :: (19, .bool true) :: E14)
    refine oR 7 (p' := g32p2) (eE := E15) (H' := (mkH [⟨[.int .i64 a2.f0, .int .i64 a2.f1, .bool a2.f2, .bool a2.f3], 0, false⟩])) (by kernel_rfl) ?_
    refine oK [0, 1, 5, 25] (eE := [(0, .str a0), (1, .vec (a1).length 3 ((a1).flatMap e47)), (5, .ptr 0 4 0), (25, .bool true)]) (by kernel_rfl) ?_
    exact hj2 true
   ·let E16 : Env := ((25, .bool (decide (a2.f1 ≤ a2.f0))) :: (24, .bool (decide (a2.f1 ≤ a2.f0))) :: (23, .int .i64 a2.f1) :: (22, .ptr 0 4 1) :: (21, .int .i64 a2.f0) :: (20, .ptr 0 4 0) :: (19, .bool false) :: E14)
    refine oR 7 (p' := g32p2) (eE := E16) (H' := (mkH [⟨[.int .i64 a2.f0, .int .i64 a2.f1, .bool a2.f2, .bool a2.f3], 0, false⟩])) (by kernel_rfl) ?_
    refine oK [0, 1, 5, 25] (eE := [(0, .str a0), (1, .vec (a1).length 3 ((a1).flatMap e47)), (5, .ptr 0 4 0), (25, .bool (decide (a2.f1 ≤ a2.f0)))]) (by kernel_rfl) ?_
    exact hj2 (decide (a2.f1 ≤ a2.f0))
end
end Go.Proofs.Ytbmijiibfaacmaa.Am
set_option maxRecDepth 100000
set_option linter.unusedVariables false
namespace Go.Proofs.Ytbmijiibfaacmaa.Am
noncomputable section
open Go
def X33 : Fx (List Nat) := ⟨Try.prog, cx, Try.f33, fun r => .str r, 0, fun _ => H0, cxTi, cxOrd⟩
def g33p0 : Pt := nav [0] (bodyAt Try.f33)
def g33p1 : Pt := nav [0, 0, 0, 0] g33p0
def g33p2 : Pt := nav [0, 0] g33p1
def g33p4 : Pt := nav [2, 0, 0] g33p2
def g33 (k : Nat) (a0 : (List Nat)) (a1 : (List S46)) (a2 : S36) : Option (List Nat) :=
 jn (fun (z1 : Bool) => if z1 then (some ([] : List Nat)) else ((nthL a1 a2.f0).bind fun x0_4 => (nthL a1 (fW .i64 (a2.f1 - 1))).bind fun x0_11 => (g48 k (⟨x0_11.f0, x0_11.f1, x0_11.f2⟩ : S46)).bind fun x0_13 => (subL a0 (some x0_4.f2) (some x0_13)).bind fun x0_14 => some x0_14)) (fun j1 => if (decide (a2.f0 < 0)) then (j1 true) else (if (decide (a2.f1 ≤ a2.f0)) then (j1 true) else (j1 (decide ((a1.length : Int) < a2.f1)))))
theorem g33_ok (k : Nat) (a0 : (List Nat)) (a1 : (List S46)) (a2 : S36) (r : (List Nat)) (h : g33 k a0 a1 a2 = some r) : PureOk Try.prog 33 [.str a0, .vec (a1).length 3 ((a1).flatMap e47), .agg [.int .i64 a2.f0, .int .i64 a2.f1, .bool a2.f2, .bool a2.f3]] (.str r) := by
 refine pure_of X33 (fun _ => rfl) Try.func33 (by decide +kernel) (by kernel_rfl) (t := g33 k a0 a1 a2) ?_ h
 unfold g33
 refine oE (eE := [(0, .str a0), (1, .vec (a1).length 3 ((a1).flatMap e47)), (2, .agg [.int .i64 a2.f0, .int .i64 a2.f1, .bool a2.f2, .bool a2.f3])]) (by kernel_rfl) ?_
 let E1 : Env := [(10, .bool (decide (a2.f0 < 0))), (9, .bool (decide (a2.f0 < 0))), (8, .int .i64 a2.f0), (7, .ptr 0 4 0), (6, .str []), (5, .ptr 0 4 0), (0, .str a0), (1, .vec (a1).length 3 ((a1).flatMap e47)), (2, .agg [.int .i64 a2.f0, .int .i64 a2.f1, .bool a2.f2, .bool a2.f3])]
 refine oR 12 (p' := (atN 4 (ctl1 g33p1))) (eE := E1) (H' := (mkH [⟨[.int .i64 a2.f0, .int .i64 a2.f1, .bool a2.f2, .bool a2.f3], 0, false⟩])) (by kernel_rfl) ?_
 refine oJ (f := fun (z1 : Bool) => if z1 then (some ([] : List Nat)) else ((nthL a1 a2.f0).bind fun x0_4 => (nthL a1 (fW .i64 (a2.f1 - 1))).bind fun x0_11 => (g48 k (⟨x0_11.f0, x0_11.f1, x0_11.f2⟩ : S46)).bind fun x0_13 => (subL a0 (some x0_4.f2) (some x0_13)).bind fun x0_14 => some x0_14)) g33p2 (fun (z1 : Bool) => [(0, .str a0), (1, .vec (a1).length 3 ((a1).flatMap e47)), (5, .ptr 0 4 0), (23, .bool z1)]) (fun (z1 : Bool) => (mkH [⟨[.int .i64 a2.f0, .int .i64 a2.f1, .bool a2.f2, .bool a2.f3], 0, false⟩])) (fun z1 => ?_) (fun j1 hj1 => ?_)
 ·refine oS 23 (b := z1) (by kernel_rfl) (fun hb => ?_) (fun hb => ?_)
  ·let E2 : Env := [(6, .str []), (23, .bool true), (0, .str a0), (1, .vec (a1).length 3 ((a1).flatMap e47)), (5, .ptr 0 4 0), (23, .bool z1)]
   refine oR 6 (p' := .fin) (eE := E2) (H' := (mkH [⟨[.int .i64 a2.f0, .int .i64 a2.f1, .bool a2.f2, .bool a2.f3], 0, false⟩])) (by kernel_rfl) ?_
   exact oT (r := ([] : List Nat)) (xs := [.str []]) (v := .str []) (by kernel_rfl) (by kernel_rfl) (by kernel_rfl) (.pures (by kernel_rfl)) (by kernel_rfl)
  ·let E3 : Env := [(23, .bool false), (0, .str a0), (1, .vec (a1).length 3 ((a1).flatMap e47)), (5, .ptr 0 4 0), (23, .bool z1)]
   refine oR 3 (p' := g33p4) (eE := E3) (H' := (mkH [⟨[.int .i64 a2.f0, .int .i64 a2.f1, .bool a2.f2, .bool a2.f3], 0, false⟩])) (by kernel_rfl) ?_
   refine ok_bind (fun x0_4 hx0_4 => ?_)
   refine ok_bind (fun x0_11 hx0_11 => ?_)
   refine ok_bind (fun x0_13 hx0_13 => ?_)
   refine ok_bind (fun x0_14 hx0_14 => ?_)
   let E4 : Env := [(27, .int .i64 a2.f0), (26, .ptr 0 4 0), (25, .vec (a1).length 3 ((a1).flatMap e47)), (24, .str a0), (23, .bool false), (0, .str a0), (1, .vec (a1).length 3 ((a1).flatMap e47)), (5, .ptr 0 4 0), (23, .bool z1)]
   let E5 : Env := ((34, .int .i64 (fW .i64 (a2.f1 - 1))) :: (33, .int .i64 a2.f1) :: (32, .ptr 0 4 1) :: (31, .vec (a1).length 3 ((a1).flatMap e47)) :: (30, .int .i64 x0_4.f2) :: (29, .vptr [.int .i64 x0_4.f2]) :: (28, .vptr [.int .i64 x0_4.f0, .str x0_4.f1, .int .i64 x0_4.f2]) :: E4)
   let E6 : Env := ((6, .str x0_14) :: (38, .str x0_14) :: (37, .int .i64 x0_13) :: (36, .agg [.int .i64 x0_11.f0, .str x0_11.f1, .int .i64 x0_11.f2]) :: (35, .vptr [.int .i64 x0_11.f0, .str x0_11.f1, .int .i64 x0_11.f2]) :: E5)
   refine ok_draw (p' := nav [0] g33p4) (eE := E6) (H' := (mkH [⟨[.int .i64 a2.f0, .int .i64 a2.f1, .bool a2.f2, .bool a2.f3], 0, false⟩])) (hs := [(mkH [⟨[.int .i64 a2.f0, .int .i64 a2.f1, .bool a2.f2, .bool a2.f3], 0, false⟩])]) [(0, 0, 0), (0, 0, 0), (0, 0, 0), (4, 0, 1), (14, 0, 0), (30, 0, 0), (62, 0, 1), (0, 0, 0), (0, 0, 0), (256, 0, 0), (768, 0, 0), (1920, 0, 0), (3968, 0, 0), (8064, 0, 0), (16383, 0, 0), (32767, 0, 0)] (by kernel_rfl) (by kernel_rfl) (by kernel_rfl) (opsD_run 4 (l' := (opsAt g33p4).toList.drop 4) (eE := E4) (H' := (mkH [⟨[.int .i64 a2.f0, .int .i64 a2.f1, .bool a2.f2, .bool a2.f3], 0, false⟩])) (hs := []) (by kernel_rfl) (opsD_chk (l' := (opsAt g33p4).toList.drop 5) (eE := ((28, .vptr [.int .i64 x0_4.f0, .str x0_4.f1, .int .i64 x0_4.f2]) :: E4)) (hs := []) (x := x0_4) (fun (x0_4 : S46) => (.vptr [.int .i64 x0_4.f0, .str x0_4.f1, .int .i64 x0_4.f2], (mkH [⟨[.int .i64 a2.f0, .int .i64 a2.f1, .bool a2.f2, .bool a2.f3], 0, false⟩]))) (vidxH (sz := 3) e47_len (by kernel_rfl)) hx0_4 (by kernel_rfl) (opsD_run 6 (l' := (opsAt g33p4).toList.drop 11) (eE := E5) (H' := (mkH [⟨[.int .i64 a2.f0, .int .i64 a2.f1, .bool a2.f2, .bool a2.f3], 0, false⟩])) (hs := []) (by kernel_rfl) (opsD_chk (l' := (opsAt g33p4).toList.drop 12) (eE := ((35, .vptr [.int .i64 x0_11.f0, .str x0_11.f1, .int .i64 x0_11.f2]) :: E5)) (hs := []) (x := x0_11) (fun (x0_11 : S46) => (.vptr [.int .i64 x0_11.f0, .str x0_11.f1, .int .i64 x0_11.f2], (mkH [⟨[.int .i64 a2.f0, .int .i64 a2.f1, .bool a2.f2, .bool a2.f3], 0, false⟩]))) (vidxH (sz := 3) e47_len (by kernel_rfl)) hx0_11 (by kernel_rfl) (opsD_run 1 (l' := (opsAt g33p4).toList.drop 13) (eE := ((36, .agg [.int .i64 x0_11.f0, .str x0_11.f1, .int .i64 x0_11.f2]) :: (35, .vptr [.int .i64 x0_11.f0, .str x0_11.f1, .int .i64 x0_11.f2]) :: E5)) (H' := (mkH [⟨[.int .i64 a2.f0, .int .i64 a2.f1, .bool a2.f2, .bool a2.f3], 0, false⟩])) (hs := []) (by kernel_rfl) (opsD_call (l' := (opsAt g33p4).toList.drop 14) (eE := ((37, .int .i64 x0_13) :: (36, .agg [.int .i64 x0_11.f0, .str x0_11.f1, .int .i64 x0_11.f2]) :: (35, .vptr [.int .i64 x0_11.f0, .str x0_11.f1, .int .i64 x0_11.f2]) :: E5)) (hs := [(mkH [⟨[.int .i64 a2.f0, .int .i64 a2.f1, .bool a2.f2, .bool a2.f3], 0, false⟩])]) (fi := 48) (args := [.agg [.int .i64 x0_11.f0, .str x0_11.f1, .int .i64 x0_11.f2]]) (v := .int .i64 x0_13) (by kernel_rfl) (by kernel_rfl) (by kernel_rfl) (g48_ok k (⟨x0_11.f0, x0_11.f1, x0_11.f2⟩ : S46) x0_13 hx0_13) (by kernel_rfl) (opsD_chk (l' := (opsAt g33p4).toList.drop 15) (eE := ((38, .str x0_14) :: (37, .int .i64 x0_13) :: (36, .agg [.int .i64 x0_11.f0, .str x0_11.f1, .int .i64 x0_11.f2]) :: (35, .vptr [.int .i64 x0_11.f0, .str x0_11.f1, .int .i64 x0_11.f2]) :: E5)) (hs := []) (x := x0_14) (fun (x0_14 : (List Nat)) => (.str x0_14, (mkH [⟨[.int .i64 a2.f0, .int .i64 a2.f1, .bool a2.f2, .bool a2.f3], 0, false⟩]))) (subH (some x0_4.f2) (some x0_13) (by kernel_rfl)) hx0_14 (by kernel_rfl) (opsD_run 1 (l' := (opsAt g33p4).toList.drop 16) (eE := E6) (H' := (mkH [⟨[.int .i64 a2.f0, .int .i64 a2.f1, .bool a2.f2, .bool a2.f3], 0, false⟩])) (hs := []) (by kernel_rfl) (.nil))))))))) (by kernel_rfl) (by kernel_rfl) (by kernel_rfl) ?_
   refine oR 1 (p' := .fin) (eE := E6) (H' := (mkH [⟨[.int .i64 a2.f0, .int .i64 a2.f1, .bool a2.f2, .bool a2.f3], 0, false⟩])) (by kernel_rfl) ?_
   exact oT (r := x0_14) (xs := [.str x0_14]) (v := .str x0_14) (by kernel_rfl) (by kernel_rfl) (by kernel_rfl) (.pures (by kernel_rfl)) (by kernel_rfl)
 ·refine oS 10 (b := decide (a2.f0 < 0)) (by kernel_rfl) (fun hb => ?_) (fun hb => ?_)
  ·let E7 : Env := ((23, .bool true) :: (22, .tuple []) :: (21, .tuple []) :: (20, .tuple []) :: (19, .tuple []) :: (18, .tuple []) :: (17, .bool true) :: (16, .bool true) :: (15, .tuple []) :: (14, .tuple []) :: (13, .tuple []) :: (12, .tuple []) :: (11, .tuple []) :: (10, .bool true) :: E1)
   refine oR 14 (p' := g33p2) (eE := E7) (H' := (mkH [⟨[.int .i64 a2.f0, .int .i64 a2.f1, .bool a2.f2, .bool a2.f3], 0, false⟩])) (by kernel_rfl) ?_
   refine oK [0, 1, 5, 23] (eE := [(0, .str a0), (1, .vec (a1).length 3 ((a1).flatMap e47)), (5, .ptr 0 4 0), (23, .bool true)]) (by kernel_rfl) ?_
   exact hj1 true
  ·let E8 : Env := ((17, .bool (decide (a2.f1 ≤ a2.f0))) :: (16, .bool (decide (a2.f1 ≤ a2.f0))) :: (15, .bool (decide (a2.f1 ≤ a2.f0))) :: (14, .int .i64 a2.f1) :: (13, .ptr 0 4 1) :: (12, .int .i64 a2.f0) :: (11, .ptr 0 4 0) :: (10, .bool false) :: E1)
   refine oR 7 (p' := (atN 11 (ctl1 g33p1))) (eE := E8) (H' := (mkH [⟨[.int .i64 a2.f0, .int .i64 a2.f1, .bool a2.f2, .bool a2.f3], 0, false⟩])) (by kernel_rfl) ?_
   refine oS 17 (b := decide (a2.f1 ≤ a2.f0)) (by kernel_rfl) (fun hb => ?_) (fun hb => ?_)
   ·let E9 : Env := ((23, .bool true) :: (22, .tuple []) :: (21, .tuple []) :: (20, .tuple []) :: (19, .tuple []) :: (18, .tuple []) :: (17, .bool true) :: E8)
    refine oR 7 (p' := g33p2) (eE := E9) (H' := (mkH [⟨[.int .i64 a2.f0, .int .i64 a2.f1, .bool a2.f2, .bool a2.f3], 0, false⟩])) (by kernel_rfl) ?_
    refine oK [0, 1, 5, 23] (eE := [(0, .str a0), (1, .vec (a1).length 3 ((a1).flatMap e47)), (5, .ptr 0 4 0), (23, .bool true)]) (by kernel_rfl) ?_
    exact hj1 true
   ·let E10 : Env := ((23, .bool (decide ((a1.length : Int) < a2.f1))) :: (22, .bool (decide ((a1.length : Int) < a2.f1))) :: (21, .int .i64 (a1.length : Int)) :: (20, .vec (a1).length 3 ((a1).flatMap e47)) :: (19, .int .i64 a2.f1) :: (18, .ptr 0 4 1) :: (17, .bool false) :: E8)
    refine oR 7 (p' := g33p2) (eE := E10) (H' := (mkH [⟨[.int .i64 a2.f0, .int .i64 a2.f1, .bool a2.f2, .bool a2.f3], 0, false⟩])) (by kernel_rfl) ?_
    refine oK [0, 1, 5, 23] (eE := [(0, .str a0), (1, .vec (a1).length 3 ((a1).flatMap e47)), (5, .ptr 0 4 0), (23, .bool (decide ((a1.length : Int) < a2.f1)))]) (by kernel_rfl) ?_
    exact hj1 (decide ((a1.length : Int) < a2.f1))
end
end Go.Proofs.Ytbmijiibfaacmaa.Am
set_option maxRecDepth 100000
set_option linter.unusedVariables false
namespace Go.Proofs.Ytbmijiibfaacmaa.Am
noncomputable section
open Go
def X27 : Fx Bool := ⟨Try.prog, cx, Try.f27, fun r => .bool r, 0, fun _ => H0, cxTi, cxOrd⟩
def g27c0 : List Nat := [37, 97, 10, 102, 40, 41, 32, 45, 62, 32, 111, 107, 46, 32, 37, 98]
def g27c1 : List Nat := [102, 40, 41, 32, 45, 62, 32, 111, 107, 46]
def g27p0 : Pt := nav [0] (bodyAt Try.f27)
def g27p1 : Pt := nav [0, 0, 0] g27p0
def g27p2 : Pt := nav [0, 0, 0] g27p1
def g27p3 : Pt := nav [0, 0, 0] g27p2
def g27p4 : Pt := nav [0, 0, 0] g27p3
def g27 (k : Nat)  : Option Bool :=
 (g28 k g27c0).bind fun x0_1 => (g29 k g27c0 x0_1.1).bind fun x1_2 => if (decide (x0_1.2 = 0)) then (if (decide ((x1_2.length : Int) = 3)) then ((nthL x1_2 0).bind fun x2_9 => if x2_9.f2 then ((nthL x1_2 1).bind fun x2_15 => if (!x2_15.f2) then ((nthL x1_2 2).bind fun x2_22 => if x2_22.f2 then ((nthL x1_2 1).bind fun x2_30 => (g32 k g27c0 x0_1.1 (⟨x2_30.f0, x2_30.f1, x2_30.f2, x2_30.f3⟩ : S36)).bind fun x2_32 => if (eqL x2_32 g27c1) then ((g32 k g27c0 x0_1.1 (⟨(0 : Int), (0 : Int), false, false⟩ : S36)).bind fun x2_39 => some (eqL x2_39 [])) else (some false)) else (some false)) else (some false)) else (some false)) else (some false)) else (some false)
theorem g27_ok (k : Nat)  (r : Bool) (h : g27 k  = some r) : PureOk Try.prog 27 [] (.bool r) := by
 refine pure_of X27 (fun _ => rfl) Try.func27 (by decide +kernel) (by kernel_rfl) (t := g27 k ) ?_ h
 unfold g27
 refine oE (eE := []) (by kernel_rfl) ?_
 refine oR 11 (p' := (atN 1 (ctl1 g27p2))) (eE := [(6, .str g27c0), (1, .str g27c0), (0, .bool false)]) (H' := (mkH [])) (by kernel_rfl) ?_
 refine oC (fun (x0_1 : ((List S46) × Int)) => .tuple [.vec (x0_1.1).length 3 ((x0_1.1).flatMap e47), .int .i64 x0_1.2]) (atN 2 (ctl1 g27p2)) (fun x0_1 => [(7, .tuple [.vec (x0_1.1).length 3 ((x0_1.1).flatMap e47), .int .i64 x0_1.2]), (6, .str g27c0), (1, .str g27c0), (0, .bool false)]) (fi := 28) (args := [.str g27c0]) (by kernel_rfl) (by kernel_rfl) (fun _ => by kernel_rfl) (fun r h => g28_ok k g27c0 r h) (fun _ => by kernel_rfl) (fun x0_1 hx0_1 => ?_)
 let E1 : Env := [(11, .vec (x0_1.1).length 3 ((x0_1.1).flatMap e47)), (10, .str g27c0), (3, .int .i64 x0_1.2), (2, .vec (x0_1.1).length 3 ((x0_1.1).flatMap e47)), (9, .int .i64 x0_1.2), (8, .vec (x0_1.1).length 3 ((x0_1.1).flatMap e47)), (5, .tuple [.vec (x0_1.1).length 3 ((x0_1.1).flatMap e47), .int .i64 x0_1.2]), (7, .tuple [.vec (x0_1.1).length 3 ((x0_1.1).flatMap e47), .int .i64 x0_1.2]), (6, .str g27c0), (1, .str g27c0), (0, .bool false)]
 refine oR 10 (p' := (atN 2 (ctl1 g27p3))) (eE := E1) (H' := (mkH [])) (by kernel_rfl) ?_
 refine oC (fun (x1_2 : (List S36)) => .vec (x1_2).length 4 ((x1_2).flatMap e37)) (atN 3 (ctl1 g27p3)) (fun x1_2 => ((12, .vec (x1_2).length 4 ((x1_2).flatMap e37)) :: E1)) (fi := 29) (args := [.str g27c0, .vec (x0_1.1).length 3 ((x0_1.1).flatMap e47)]) (by kernel_rfl) (by kernel_rfl) (fun _ => by kernel_rfl) (fun r h => g29_ok k g27c0 x0_1.1 r h) (fun _ => by kernel_rfl) (fun x1_2 hx1_2 => ?_)
 refine oR 3 (p' := g27p4) (eE := ((4, .vec (x1_2).length 4 ((x1_2).flatMap e37)) :: (12, .vec (x1_2).length 4 ((x1_2).flatMap e37)) :: E1)) (H' := (mkH [])) (by kernel_rfl) ?_
 refine oK [1, 2, 3, 4] (eE := [(1, .str g27c0), (2, .vec (x0_1.1).length 3 ((x0_1.1).flatMap e47)), (3, .int .i64 x0_1.2), (4, .vec (x1_2).length 4 ((x1_2).flatMap e37))]) (by kernel_rfl) ?_
 let E2 : Env := [(15, .bool (decide (x0_1.2 = 0))), (14, .bool (decide (x0_1.2 = 0))), (13, .int .i64 x0_1.2), (1, .str g27c0), (2, .vec (x0_1.1).length 3 ((x0_1.1).flatMap e47)), (3, .int .i64 x0_1.2), (4, .vec (x1_2).length 4 ((x1_2).flatMap e37))]
 refine oR 4 (p' := (atN 3 (ctl1 g27p4))) (eE := E2) (H' := (mkH [])) (by kernel_rfl) ?_
 refine oS 15 (b := decide (x0_1.2 = 0)) (by kernel_rfl) (fun hb => ?_) (fun hb => ?_)
 ·let E3 : Env := ((20, .bool (decide ((x1_2.length : Int) = 3))) :: (19, .bool (decide ((x1_2.length : Int) = 3))) :: (18, .bool (decide ((x1_2.length : Int) = 3))) :: (17, .int .i64 (x1_2.length : Int)) :: (16, .vec (x1_2).length 4 ((x1_2).flatMap e37)) :: (15, .bool true) :: E2)
  refine oR 5 (p' := (atN 8 (ctl1 g27p4))) (eE := E3) (H' := (mkH [])) (by kernel_rfl) ?_
  refine oS 20 (b := decide ((x1_2.length : Int) = 3)) (by kernel_rfl) (fun hb => ?_) (fun hb => ?_)
  ·refine oR 1 (p' := (atN 9 (ctl1 g27p4))) (eE := ((21, .vec (x1_2).length 4 ((x1_2).flatMap e37)) :: (20, .bool true) :: E3)) (H' := (mkH [])) (by kernel_rfl) ?_
   refine oH (fun (x2_9 : S36) => (.vptr [.int .i64 x2_9.f0, .int .i64 x2_9.f1, .bool x2_9.f2, .bool x2_9.f3], (mkH []))) (atN 10 (ctl1 g27p4)) (fun x2_9 => ((22, .vptr [.int .i64 x2_9.f0, .int .i64 x2_9.f1, .bool x2_9.f2, .bool x2_9.f3]) :: (21, .vec (x1_2).length 4 ((x1_2).flatMap e37)) :: (20, .bool true) :: E3)) (vidxH (sz := 4) e37_len (by kernel_rfl)) (fun _ => by kernel_rfl) (fun x2_9 hx2_9 => ?_)
   let E4 : Env := ((26, .bool x2_9.f2) :: (25, .bool x2_9.f2) :: (24, .bool x2_9.f2) :: (23, .vptr [.bool x2_9.f2, .bool x2_9.f3]) :: (22, .vptr [.int .i64 x2_9.f0, .int .i64 x2_9.f1, .bool x2_9.f2, .bool x2_9.f3]) :: (21, .vec (x1_2).length 4 ((x1_2).flatMap e37)) :: (20, .bool true) :: E3)
   refine oR 4 (p' := (atN 14 (ctl1 g27p4))) (eE := E4) (H' := (mkH [])) (by kernel_rfl) ?_
   refine oS 26 (b := x2_9.f2) (by kernel_rfl) (fun hb => ?_) (fun hb => ?_)
   ·refine oR 1 (p' := (atN 15 (ctl1 g27p4))) (eE := ((27, .vec (x1_2).length 4 ((x1_2).flatMap e37)) :: (26, .bool true) :: E4)) (H' := (mkH [])) (by kernel_rfl) ?_
    refine oH (fun (x2_15 : S36) => (.vptr [.int .i64 x2_15.f0, .int .i64 x2_15.f1, .bool x2_15.f2, .bool x2_15.f3], (mkH []))) (atN 16 (ctl1 g27p4)) (fun x2_15 => ((28, .vptr [.int .i64 x2_15.f0, .int .i64 x2_15.f1, .bool x2_15.f2, .bool x2_15.f3]) :: (27, .vec (x1_2).length 4 ((x1_2).flatMap e37)) :: (26, .bool true) :: E4)) (vidxH (sz := 4) e37_len (by kernel_rfl)) (fun _ => by kernel_rfl) (fun x2_15 hx2_15 => ?_)
    let E5 : Env := ((33, .bool (!x2_15.f2)) :: (32, .bool (!x2_15.f2)) :: (31, .bool (!x2_15.f2)) :: (30, .bool x2_15.f2) :: (29, .vptr [.bool x2_15.f2, .bool x2_15.f3]) :: (28, .vptr [.int .i64 x2_15.f0, .int .i64 x2_15.f1, .bool x2_15.f2, .bool x2_15.f3]) :: (27, .vec (x1_2).length 4 ((x1_2).flatMap e37)) :: (26, .bool true) :: E4)
    refine oR 5 (p' := (atN 21 (ctl1 g27p4))) (eE := E5) (H' := (mkH [])) (by kernel_rfl) ?_
    refine oS 33 (b := !x2_15.f2) (by kernel_rfl) (fun hb => ?_) (fun hb => ?_)
    ·refine oR 1 (p' := (atN 22 (ctl1 g27p4))) (eE := ((34, .vec (x1_2).length 4 ((x1_2).flatMap e37)) :: (33, .bool true) :: E5)) (H' := (mkH [])) (by kernel_rfl) ?_
     refine oH (fun (x2_22 : S36) => (.vptr [.int .i64 x2_22.f0, .int .i64 x2_22.f1, .bool x2_22.f2, .bool x2_22.f3], (mkH []))) (atN 23 (ctl1 g27p4)) (fun x2_22 => ((35, .vptr [.int .i64 x2_22.f0, .int .i64 x2_22.f1, .bool x2_22.f2, .bool x2_22.f3]) :: (34, .vec (x1_2).length 4 ((x1_2).flatMap e37)) :: (33, .bool true) :: E5)) (vidxH (sz := 4) e37_len (by kernel_rfl)) (fun _ => by kernel_rfl) (fun x2_22 hx2_22 => ?_)
     let E6 : Env := ((39, .bool x2_22.f2) :: (38, .bool x2_22.f2) :: (37, .bool x2_22.f2) :: (36, .vptr [.bool x2_22.f2, .bool x2_22.f3]) :: (35, .vptr [.int .i64 x2_22.f0, .int .i64 x2_22.f1, .bool x2_22.f2, .bool x2_22.f3]) :: (34, .vec (x1_2).length 4 ((x1_2).flatMap e37)) :: (33, .bool true) :: E5)
     refine oR 4 (p' := (atN 27 (ctl1 g27p4))) (eE := E6) (H' := (mkH [])) (by kernel_rfl) ?_
     refine oS 39 (b := x2_22.f2) (by kernel_rfl) (fun hb => ?_) (fun hb => ?_)
     ·refine oR 3 (p' := (atN 30 (ctl1 g27p4))) (eE := ((42, .vec (x1_2).length 4 ((x1_2).flatMap e37)) :: (41, .vec (x0_1.1).length 3 ((x0_1.1).flatMap e47)) :: (40, .str g27c0) :: (39, .bool true) :: E6)) (H' := (mkH [])) (by kernel_rfl) ?_
      refine oH (fun (x2_30 : S36) => (.vptr [.int .i64 x2_30.f0, .int .i64 x2_30.f1, .bool x2_30.f2, .bool x2_30.f3], (mkH []))) (atN 31 (ctl1 g27p4)) (fun x2_30 => ((43, .vptr [.int .i64 x2_30.f0, .int .i64 x2_30.f1, .bool x2_30.f2, .bool x2_30.f3]) :: (42, .vec (x1_2).length 4 ((x1_2).flatMap e37)) :: (41, .vec (x0_1.1).length 3 ((x0_1.1).flatMap e47)) :: (40, .str g27c0) :: (39, .bool true) :: E6)) (vidxH (sz := 4) e37_len (by kernel_rfl)) (fun _ => by kernel_rfl) (fun x2_30 hx2_30 => ?_)
      let E7 : Env := ((44, .agg [.int .i64 x2_30.f0, .int .i64 x2_30.f1, .bool x2_30.f2, .bool x2_30.f3]) :: (43, .vptr [.int .i64 x2_30.f0, .int .i64 x2_30.f1, .bool x2_30.f2, .bool x2_30.f3]) :: (42, .vec (x1_2).length 4 ((x1_2).flatMap e37)) :: (41, .vec (x0_1.1).length 3 ((x0_1.1).flatMap e47)) :: (40, .str g27c0) :: (39, .bool true) :: E6)
      refine oR 1 (p' := (atN 32 (ctl1 g27p4))) (eE := E7) (H' := (mkH [])) (by kernel_rfl) ?_
      refine oC (fun (x2_32 : (List Nat)) => .str x2_32) (atN 33 (ctl1 g27p4)) (fun x2_32 => ((45, .str x2_32) :: E7)) (fi := 32) (args := [.str g27c0, .vec (x0_1.1).length 3 ((x0_1.1).flatMap e47), .agg [.int .i64 x2_30.f0, .int .i64 x2_30.f1, .bool x2_30.f2, .bool x2_30.f3]]) (by kernel_rfl) (by kernel_rfl) (fun _ => by kernel_rfl) (fun r h => g32_ok k g27c0 x0_1.1 (⟨x2_30.f0, x2_30.f1, x2_30.f2, x2_30.f3⟩ : S36) r h) (fun _ => by kernel_rfl) (fun x2_32 hx2_32 => ?_)
      refine oR 3 (p' := (atN 36 (ctl1 g27p4))) (eE := ((48, .bool (eqL x2_32 g27c1)) :: (47, .bool (eqL x2_32 g27c1)) :: (46, .bool (eqL x2_32 g27c1)) :: (45, .str x2_32) :: E7)) (H' := (mkH [])) (by kernel_rfl) ?_
      refine oS 48 (b := eqL x2_32 g27c1) (by kernel_rfl) (fun hb => ?_) (fun hb => ?_)
      ·let E8 : Env := ((51, .agg [.int .i64 0, .int .i64 0, .bool false, .bool false]) :: (50, .vec (x0_1.1).length 3 ((x0_1.1).flatMap e47)) :: (49, .str g27c0) :: (48, .bool true) :: (48, .bool (eqL x2_32 g27c1)) :: (47, .bool (eqL x2_32 g27c1)) :: (46, .bool (eqL x2_32 g27c1)) :: (45, .str x2_32) :: E7)
       refine oR 3 (p' := (atN 39 (ctl1 g27p4))) (eE := E8) (H' := (mkH [])) (by kernel_rfl) ?_
       refine oC (fun (x2_39 : (List Nat)) => .str x2_39) (atN 40 (ctl1 g27p4)) (fun x2_39 => ((52, .str x2_39) :: E8)) (fi := 32) (args := [.str g27c0, .vec (x0_1.1).length 3 ((x0_1.1).flatMap e47), .agg [.int .i64 0, .int .i64 0, .bool false, .bool false]]) (by kernel_rfl) (by kernel_rfl) (fun _ => by kernel_rfl) (fun r h => g32_ok k g27c0 x0_1.1 (⟨(0 : Int), (0 : Int), false, false⟩ : S36) r h) (fun _ => by kernel_rfl) (fun x2_39 hx2_39 => ?_)
       refine oR 5 (p' := .fin) (eE := ((0, .bool (eqL x2_39 [])) :: (54, .bool (eqL x2_39 [])) :: (53, .bool (eqL x2_39 [])) :: (52, .str x2_39) :: E8)) (H' := (mkH [])) (by kernel_rfl) ?_
       exact oT (r := (eqL x2_39 [])) (xs := [.bool (eqL x2_39 [])]) (v := .bool (eqL x2_39 [])) (by kernel_rfl) (by kernel_rfl) (by kernel_rfl) (.pures (by kernel_rfl)) (by kernel_rfl)
      ·let E9 : Env := ((0, .bool false) :: (54, .bool false) :: (53, .tuple []) :: (52, .tuple []) :: (51, .tuple []) :: (50, .tuple []) :: (49, .tuple []) :: (48, .bool false) :: (48, .bool (eqL x2_32 g27c1)) :: (47, .bool (eqL x2_32 g27c1)) :: (46, .bool (eqL x2_32 g27c1)) :: (45, .str x2_32) :: E7)
       refine oR 9 (p' := .fin) (eE := E9) (H' := (mkH [])) (by kernel_rfl) ?_
       exact oT (r := false) (xs := [.bool false]) (v := .bool false) (by kernel_rfl) (by kernel_rfl) (by kernel_rfl) (.pures (by kernel_rfl)) (by kernel_rfl)
     ·let E10 : Env := ((0, .bool false) :: (54, .bool false) :: (53, .tuple []) :: (52, .tuple []) :: (51, .tuple []) :: (50, .tuple []) :: (49, .tuple []) :: (48, .bool false) :: (47, .bool false) :: (46, .tuple []) :: (45, .tuple []) :: (44, .tuple []) :: (43, .tuple []) :: (42, .tuple []) :: (41, .tuple []) :: (40, .tuple []) :: (39, .bool false) :: E6)
      refine oR 18 (p' := .fin) (eE := E10) (H' := (mkH [])) (by kernel_rfl) ?_
      exact oT (r := false) (xs := [.bool false]) (v := .bool false) (by kernel_rfl) (by kernel_rfl) (by kernel_rfl) (.pures (by kernel_rfl)) (by kernel_rfl)
    ·let E11 : Env := ((0, .bool false) :: (54, .bool false) :: (53, .tuple []) :: (52, .tuple []) :: (51, .tuple []) :: (50, .tuple []) :: (49, .tuple []) :: (48, .bool false) :: (47, .bool false) :: (46, .tuple []) :: (45, .tuple []) :: (44, .tuple []) :: (43, .tuple []) :: (42, .tuple []) :: (41, .tuple []) :: (40, .tuple []) :: (39, .bool false) :: (38, .bool false) :: (37, .tuple []) :: (36, .tuple []) :: (35, .tuple []) :: (34, .tuple []) :: (33, .bool false) :: E5)
     refine oR 24 (p' := .fin) (eE := E11) (H' := (mkH [])) (by kernel_rfl) ?_
     exact oT (r := false) (xs := [.bool false]) (v := .bool false) (by kernel_rfl) (by kernel_rfl) (by kernel_rfl) (.pures (by kernel_rfl)) (by kernel_rfl)
   ·let E12 : Env := ((0, .bool false) :: (54, .bool false) :: (53, .tuple []) :: (52, .tuple []) :: (51, .tuple []) :: (50, .tuple []) :: (49, .tuple []) :: (48, .bool false) :: (47, .bool false) :: (46, .tuple []) :: (45, .tuple []) :: (44, .tuple []) :: (43, .tuple []) :: (42, .tuple []) :: (41, .tuple []) :: (40, .tuple []) :: (39, .bool false) :: (38, .bool false) :: (37, .tuple []) :: (36, .tuple []) :: (35, .tuple []) :: (34, .tuple []) :: (33, .bool false) :: (32, .bool false) :: (31, .tuple []) :: (30, .tuple []) :: (29, .tuple []) :: (28, .tuple []) :: (27, .tuple []) :: (26, .bool false) :: E4)
    refine oR 31 (p' := .fin) (eE := E12) (H' := (mkH [])) (by kernel_rfl) ?_
    exact oT (r := false) (xs := [.bool false]) (v := .bool false) (by kernel_rfl) (by kernel_rfl) (by kernel_rfl) (.pures (by kernel_rfl)) (by kernel_rfl)
  ·let E13 : Env := ((0, .bool false) :: (54, .bool false) :: (53, .tuple []) :: (52, .tuple []) :: (51, .tuple []) :: (50, .tuple []) :: (49, .tuple []) :: (48, .bool false) :: (47, .bool false) :: (46, .tuple []) :: (45, .tuple []) :: (44, .tuple []) :: (43, .tuple []) :: (42, .tuple []) :: (41, .tuple []) :: (40, .tuple []) :: (39, .bool false) :: (38, .bool false) :: (37, .tuple []) :: (36, .tuple []) :: (35, .tuple []) :: (34, .tuple []) :: (33, .bool false) :: (32, .bool false) :: (31, .tuple []) :: (30, .tuple []) :: (29, .tuple []) :: (28, .tuple []) :: (27, .tuple []) :: (26, .bool false) :: (25, .bool false) :: (24, .tuple []) :: (23, .tuple []) :: (22, .tuple []) :: (21, .tuple []) :: (20, .bool false) :: E3)
   refine oR 37 (p' := .fin) (eE := E13) (H' := (mkH [])) (by kernel_rfl) ?_
   exact oT (r := false) (xs := [.bool false]) (v := .bool false) (by kernel_rfl) (by kernel_rfl) (by kernel_rfl) (.pures (by kernel_rfl)) (by kernel_rfl)
 ·let E14 : Env := ((0, .bool false) :: (54, .bool false) :: (53, .tuple []) :: (52, .tuple []) :: (51, .tuple []) :: (50, .tuple []) :: (49, .tuple []) :: (48, .bool false) :: (47, .bool false) :: (46, .tuple []) :: (45, .tuple []) :: (44, .tuple []) :: (43, .tuple []) :: (42, .tuple []) :: (41, .tuple []) :: (40, .tuple []) :: (39, .bool false) :: (38, .bool false) :: (37, .tuple []) :: (36, .tuple []) :: (35, .tuple []) :: (34, .tuple []) :: (33, .bool false) :: (32, .bool false) :: (31, .tuple []) :: (30, .tuple []) :: (29, .tuple []) :: (28, .tuple []) :: (27, .tuple []) :: (26, .bool false) :: (25, .bool false) :: (24, .tuple []) :: (23, .tuple []) :: (22, .tuple []) :: (21, .tuple []) :: (20, .bool false) :: (19, .bool false) :: (18, .tuple []) :: (17, .tuple []) :: (16, .tuple []) :: (15, .bool false) :: E2)
  refine oR 42 (p' := .fin) (eE := E14) (H' := (mkH [])) (by kernel_rfl) ?_
  exact oT (r := false) (xs := [.bool false]) (v := .bool false) (by kernel_rfl) (by kernel_rfl) (by kernel_rfl) (.pures (by kernel_rfl)) (by kernel_rfl)
end
end Go.Proofs.Ytbmijiibfaacmaa.Am
set_option maxRecDepth 100000
set_option linter.unusedVariables false
namespace Go.Proofs.Ytbmijiibfaacmaa.Am
noncomputable section
open Go
def X31 : Fx Bool := ⟨Try.prog, cx, Try.f31, fun r => .bool r, 0, fun _ => H0, cxTi, cxOrd⟩
def g31p0 : Pt := nav [0] (bodyAt Try.f31)
def g31p1 : Pt := nav [0, 0, 0, 0] g31p0
def g31p2 : Pt := nav [0, 0] g31p1
def g31p4 : Pt := nav [2, 0, 0, 0] g31p2
def g31p6 : Pt := nav [0, 0, 0, 0] g31p4
def g31p7 : Pt := nav [0, 0, 0] g31p6
def g31p8 : Pt := nav [0, 0] g31p7
def g31p9 : Pt := nav [1, 0, 0, 0, 0] g31p8
def g31_l1 (k : Nat)  (a0 : (List S36)) (a1 : (List S36)) (n : Nat) : Int → Option Bool :=
 Nat.rec (motive := fun _ => Int → Option Bool) (fun _ => none) (fun _ ih => fun (y1_0 : Int) => if (decide (y1_0 < (a0.length : Int))) then ((nthL a0 y1_0).bind fun x0_2 => (nthL a1 y1_0).bind fun x0_6 => if (!((decide (x0_2.f0 = x0_6.f0)) && ((decide (x0_2.f1 = x0_6.f1)) && ((x0_2.f2 == x0_6.f2) && ((x0_2.f3 == x0_6.f3) && true))))) then (some false) else (ih (fW .i64 (y1_0 + 1)))) else (some true)) n
theorem g31_l1_s (k : Nat)  (a0 : (List S36)) (a1 : (List S36)) (n : Nat) (y1_0 : Int) : g31_l1 k a0 a1 (n + 1) y1_0 = (if (decide (y1_0 < (a0.length : Int))) then ((nthL a0 y1_0).bind fun x0_2 => (nthL a1 y1_0).bind fun x0_6 => if (!((decide (x0_2.f0 = x0_6.f0)) && ((decide (x0_2.f1 = x0_6.f1)) && ((x0_2.f2 == x0_6.f2) && ((x0_2.f3 == x0_6.f3) && true))))) then (some false) else ((g31_l1 k a0 a1 n) (fW .i64 (y1_0 + 1)))) else (some true)) := rfl
theorem g31_l1_ok (k : Nat)  (a0 : (List S36)) (a1 : (List S36))  : ∀ (n : Nat) (y1_0 : Int), Ok X31 g31p6 [(0, .vec (a0).length 4 ((a0).flatMap e37)), (1, .vec (a1).length 4 ((a1).flatMap e37)), (5, .int .i64 y1_0)] (mkH []) (g31_l1 k a0 a1 n y1_0)
 | 0, _ => ok_none
 | n + 1, y1_0 => by
  have ih := g31_l1_ok k a0 a1 n
  rw [g31_l1_s]
  refine ok_ent (p' := nav [0] g31p6) (by kernel_rfl) ?_
  let E2 : Env := [(14, .bool (decide (y1_0 < (a0.length : Int)))), (13, .int .i64 (a0.length : Int)), (12, .vec (a0).length 4 ((a0).flatMap e37)), (11, .int .i64 y1_0), (0, .vec (a0).length 4 ((a0).flatMap e37)), (1, .vec (a1).length 4 ((a1).flatMap e37)), (5, .int .i64 y1_0)]
  refine oR 8 (p' := g31p8) (eE := E2) (H' := (mkH [])) (by kernel_rfl) ?_
  refine oS 14 (b := decide (y1_0 < (a0.length : Int))) (by kernel_rfl) (fun hb => ?_) (fun hb => ?_)
  ·refine oR 5 (p' := g31p9) (eE := ((14, .bool true) :: E2)) (H' := (mkH [])) (by kernel_rfl) ?_
   refine ok_bind (fun x0_2 hx0_2 => ?_)
   refine ok_bind (fun x0_6 hx0_6 => ?_)
   let E3 : Env := [(18, .int .i64 y1_0), (17, .vec (a0).length 4 ((a0).flatMap e37)), (14, .bool true), (14, .bool (decide (y1_0 < (a0.length : Int)))), (13, .int .i64 (a0.length : Int)), (12, .vec (a0).length 4 ((a0).flatMap e37)), (11, .int .i64 y1_0), (0, .vec (a0).length 4 ((a0).flatMap e37)), (1, .vec (a1).length 4 ((a1).flatMap e37)), (5, .int .i64 y1_0)]
   let E4 : Env := ((23, .vptr [.int .i64 x0_6.f0, .int .i64 x0_6.f1, .bool x0_6.f2, .bool x0_6.f3]) :: (22, .int .i64 y1_0) :: (21, .vec (a1).length 4 ((a1).flatMap e37)) :: (20, .agg [.int .i64 x0_2.f0, .int .i64 x0_2.f1, .bool x0_2.f2, .bool x0_2.f3]) :: (19, .vptr [.int .i64 x0_2.f0, .int .i64 x0_2.f1, .bool x0_2.f2, .bool x0_2.f3]) :: E3)
   refine ok_draw (p' := nav [0] g31p9) (eE := ((25, .bool (!((decide (x0_2.f0 = x0_6.f0)) && ((decide (x0_2.f1 = x0_6.f1)) && ((x0_2.f2 == x0_6.f2) && ((x0_2.f3 == x0_6.f3) && true)))))) :: (24, .agg [.int .i64 x0_6.f0, .int .i64 x0_6.f1, .bool x0_6.f2, .bool x0_6.f3]) :: E4)) (H' := (mkH [])) (hs := []) [(0, 0, 0), (0, 0, 0), (3, 0, 0), (7, 0, 0), (0, 0, 0), (0, 0, 0), (48, 0, 0), (112, 0, 0), (255, 0, 0)] (by kernel_rfl) (by kernel_rfl) (by kernel_rfl) (opsD_run 2 (l' := (opsAt g31p9).toList.drop 2) (eE := E3) (H' := (mkH [])) (hs := []) (by kernel_rfl) (opsD_chk (l' := (opsAt g31p9).toList.drop 3) (eE := ((19, .vptr [.int .i64 x0_2.f0, .int .i64 x0_2.f1, .bool x0_2.f2, .bool x0_2.f3]) :: E3)) (hs := []) (x := x0_2) (fun (x0_2 : S36) => (.vptr [.int .i64 x0_2.f0, .int .i64 x0_2.f1, .bool x0_2.f2, .bool x0_2.f3], (mkH []))) (vidxH (sz := 4) e37_len (by kernel_rfl)) hx0_2 (by kernel_rfl) (opsD_run 3 (l' := (opsAt g31p9).toList.drop 6) (eE := ((22, .int .i64 y1_0) :: (21, .vec (a1).length 4 ((a1).flatMap e37)) :: (20, .agg [.int .i64 x0_2.f0, .int .i64 x0_2.f1, .bool x0_2.f2, .bool x0_2.f3]) :: (19, .vptr [.int .i64 x0_2.f0, .int .i64 x0_2.f1, .bool x0_2.f2, .bool x0_2.f3]) :: E3)) (H' := (mkH [])) (hs := []) (by kernel_rfl) (opsD_chk (l' := (opsAt g31p9).toList.drop 7) (eE := E4) (hs := []) (x := x0_6) (fun (x0_6 : S36) => (.vptr [.int .i64 x0_6.f0, .int .i64 x0_6.f1, .bool x0_6.f2, .bool x0_6.f3], (mkH []))) (vidxH (sz := 4) e37_len (by kernel_rfl)) hx0_6 (by kernel_rfl) (opsD_run 2 (l' := (opsAt g31p9).toList.drop 9) (eE := ((25, .bool (!((decide (x0_2.f0 = x0_6.f0)) && ((decide (x0_2.f1 = x0_6.f1)) && ((x0_2.f2 == x0_6.f2) && ((x0_2.f3 == x0_6.f3) && true)))))) :: (24, .agg [.int .i64 x0_6.f0, .int .i64 x0_6.f1, .bool x0_6.f2, .bool x0_6.f3]) :: E4)) (H' := (mkH [])) (hs := []) (by kernel_rfl) (.nil)))))) (by kernel_rfl) (by kernel_rfl) (by kernel_rfl) ?_
   refine oS 25 (b := !((decide (x0_2.f0 = x0_6.f0)) && ((decide (x0_2.f1 = x0_6.f1)) && ((x0_2.f2 == x0_6.f2) && ((x0_2.f3 == x0_6.f3) && true))))) (by kernel_rfl) (fun hb => ?_) (fun hb => ?_)
   ·refine oR 6 (p' := .fin) (eE := ((4, .bool false) :: (25, .bool true) :: (25, .bool (!((decide (x0_2.f0 = x0_6.f0)) && ((decide (x0_2.f1 = x0_6.f1)) && ((x0_2.f2 == x0_6.f2) && ((x0_2.f3 == x0_6.f3) && true)))))) :: (24, .agg [.int .i64 x0_6.f0, .int .i64 x0_6.f1, .bool x0_6.f2, .bool x0_6.f3]) :: E4)) (H' := (mkH [])) (by kernel_rfl) ?_
    exact oT (r := false) (xs := [.bool false]) (v := .bool false) (by kernel_rfl) (by kernel_rfl) (by kernel_rfl) (.pures (by kernel_rfl)) (by kernel_rfl)
   ·let E5 : Env := ((5, .int .i64 (fW .i64 (y1_0 + 1))) :: (16, .int .i64 (fW .i64 (y1_0 + 1))) :: (15, .int .i64 y1_0) :: (25, .bool false) :: (25, .bool (!((decide (x0_2.f0 = x0_6.f0)) && ((decide (x0_2.f1 = x0_6.f1)) && ((x0_2.f2 == x0_6.f2) && ((x0_2.f3 == x0_6.f3) && true)))))) :: (24, .agg [.int .i64 x0_6.f0, .int .i64 x0_6.f1, .bool x0_6.f2, .bool x0_6.f3]) :: E4)
    refine oR 7 (p' := g31p6) (eE := E5) (H' := (mkH [])) (by kernel_rfl) ?_
    refine oK [0, 1, 5] (eE := [(0, .vec (a0).length 4 ((a0).flatMap e37)), (1, .vec (a1).length 4 ((a1).flatMap e37)), (5, .int .i64 (fW .i64 (y1_0 + 1)))]) (by kernel_rfl) ?_
    exact ih (fW .i64 (y1_0 + 1))
  ·refine oR 7 (p' := .fin) (eE := ((4, .bool true) :: (14, .bool false) :: E2)) (H' := (mkH [])) (by kernel_rfl) ?_
   exact oT (r := true) (xs := [.bool true]) (v := .bool true) (by kernel_rfl) (by kernel_rfl) (by kernel_rfl) (.pures (by kernel_rfl)) (by kernel_rfl)
def g31 (k : Nat) (a0 : (List S36)) (a1 : (List S36)) : Option Bool :=
 if (!decide ((a0.length : Int) = (a1.length : Int))) then (some false) else (g31_l1 k a0 a1 k 0)
theorem g31_ok (k : Nat) (a0 : (List S36)) (a1 : (List S36)) (r : Bool) (h : g31 k a0 a1 = some r) : PureOk Try.prog 31 [.vec (a0).length 4 ((a0).flatMap e37), .vec (a1).length 4 ((a1).flatMap e37)] (.bool r) := by
 refine pure_of X31 (fun _ => rfl) Try.func31 (by decide +kernel) (by kernel_rfl) (t := g31 k a0 a1) ?_ h
 unfold g31
 refine oE (eE := [(0, .vec (a0).length 4 ((a0).flatMap e37)), (1, .vec (a1).length 4 ((a1).flatMap e37))]) (by kernel_rfl) ?_
 let E1 : Env := [(10, .bool (!decide ((a0.length : Int) = (a1.length : Int)))), (9, .int .i64 (a1.length : Int)), (8, .vec (a1).length 4 ((a1).flatMap e37)), (7, .int .i64 (a0.length : Int)), (6, .vec (a0).length 4 ((a0).flatMap e37)), (4, .bool false), (0, .vec (a0).length 4 ((a0).flatMap e37)), (1, .vec (a1).length 4 ((a1).flatMap e37))]
 refine oR 13 (p' := g31p2) (eE := E1) (H' := (mkH [])) (by kernel_rfl) ?_
 refine oS 10 (b := !decide ((a0.length : Int) = (a1.length : Int))) (by kernel_rfl) (fun hb => ?_) (fun hb => ?_)
 ·refine oR 6 (p' := .fin) (eE := ((4, .bool false) :: (10, .bool true) :: E1)) (H' := (mkH [])) (by kernel_rfl) ?_
  exact oT (r := false) (xs := [.bool false]) (v := .bool false) (by kernel_rfl) (by kernel_rfl) (by kernel_rfl) (.pures (by kernel_rfl)) (by kernel_rfl)
 ·refine oR 9 (p' := g31p6) (eE := ((5, .int .i64 0) :: (10, .bool false) :: E1)) (H' := (mkH [])) (by kernel_rfl) ?_
  refine oK [0, 1, 5] (eE := [(0, .vec (a0).length 4 ((a0).flatMap e37)), (1, .vec (a1).length 4 ((a1).flatMap e37)), (5, .int .i64 0)]) (by kernel_rfl) ?_
  exact (g31_l1_ok k a0 a1 k) 0
end
end Go.Proofs.Ytbmijiibfaacmaa.Am
set_option maxRecDepth 100000
set_option linter.unusedVariables false
namespace Go.Proofs.Ytbmijiibfaacmaa.Am
noncomputable section
open Go
def X6 : Fx Bool := ⟨Try.prog, cx, Try.f6, fun r => .bool r, 0, fun _ => H0, cxTi, cxOrd⟩
def g6p0 : Pt := nav [0] (bodyAt Try.f6)
def g6p1 : Pt := nav [0, 0, 0, 0] g6p0
def g6p2 : Pt := nav [0, 0] g6p1
def g6p3 : Pt := nav [1, 0] g6p2
def g6p4 : Pt := nav [2, 0, 0] g6p2
def g6p6 : Pt := nav [0, 0, 0, 0] g6p4
def g6p7 : Pt := nav [0, 0] g6p6
def g6p8 : Pt := nav [1, 0] g6p7
def g6p9 : Pt := nav [2, 0, 0] g6p7
def g6p10 : Pt := nav [0, 0, 0, 0] g6p9
def g6p11 : Pt := nav [0, 0] g6p10
def g6p13 : Pt := nav [2, 0, 0, 0] g6p11
def g6p14 : Pt := nav [0, 0, 0, 0] g6p13
def g6p15 : Pt := nav [0, 0, 0] g6p14
def g6p16 : Pt := nav [0, 0] g6p15
def g6p17 : Pt := nav [1, 0, 0, 0, 0] g6p16
def g6p18 : Pt := nav [2, 0, 0] g6p16
def g6_l7 (k : Nat)  (a0 : (List Nat)) (a1 : S36) (x1_1 : ((List S46) × Int)) (x3_2 : (List S36)) (x3_5 : (List S36)) (n : Nat) : Int → Option Bool :=
 Nat.rec (motive := fun _ => Int → Option Bool) (fun _ => none) (fun _ ih => fun (y7_0 : Int) => if (decide (y7_0 < (x3_5.length : Int))) then ((nthL x3_2 y7_0).bind fun x5_4 => (g32 k a0 x1_1.1 (⟨x5_4.f0, x5_4.f1, x5_4.f2, x5_4.f3⟩ : S36)).bind fun x5_6 => (nthL x3_5 y7_0).bind fun x5_11 => (g33 k a0 x1_1.1 (⟨x5_11.f0, x5_11.f1, x5_11.f2, x5_11.f3⟩ : S36)).bind fun x5_13 => if (!(eqL x5_6 x5_13)) then (some false) else (ih (fW .i64 (y7_0 + 1)))) else ((g27 k).bind fun x6_0 => if x6_0 then ((g32 k a0 x1_1.1 (⟨a1.f0, a1.f1, a1.f2, a1.f3⟩ : S36)).bind fun x6_5 => (g33 k a0 x1_1.1 (⟨a1.f0, a1.f1, a1.f2, a1.f3⟩ : S36)).bind fun x6_9 => some (eqL x6_5 x6_9)) else (some false))) n
theorem g6_l7_s (k : Nat)  (a0 : (List Nat)) (a1 : S36) (x1_1 : ((List S46) × Int)) (x3_2 : (List S36)) (x3_5 : (List S36)) (n : Nat) (y7_0 : Int) : g6_l7 k a0 a1 x1_1 x3_2 x3_5 (n + 1) y7_0 = (if (decide (y7_0 < (x3_5.length : Int))) then ((nthL x3_2 y7_0).bind fun x5_4 => (g32 k a0 x1_1.1 (⟨x5_4.f0, x5_4.f1, x5_4.f2, x5_4.f3⟩ : S36)).bind fun x5_6 => (nthL x3_5 y7_0).bind fun x5_11 => (g33 k a0 x1_1.1 (⟨x5_11.f0, x5_11.f1, x5_11.f2, x5_11.f3⟩ : S36)).bind fun x5_13 => if (!(eqL x5_6 x5_13)) then (some false) else ((g6_l7 k a0 a1 x1_1 x3_2 x3_5 n) (fW .i64 (y7_0 + 1)))) else ((g27 k).bind fun x6_0 => if x6_0 then ((g32 k a0 x1_1.1 (⟨a1.f0, a1.f1, a1.f2, a1.f3⟩ : S36)).bind fun x6_5 => (g33 k a0 x1_1.1 (⟨a1.f0, a1.f1, a1.f2, a1.f3⟩ : S36)).bind fun x6_9 => some (eqL x6_5 x6_9)) else (some false))) := rfl
theorem g6_l7_ok (k : Nat)  (a0 : (List Nat)) (a1 : S36) (x1_1 : ((List S46) × Int)) (x3_2 : (List S36)) (x3_5 : (List S36))  : ∀ (n : Nat) (y7_0 : Int), Ok X6 g6p14 [(0, .str a0), (3, .ptr 0 4 0), (5, .vec (x1_1.1).length 3 ((x1_1.1).flatMap e47)), (7, .vec (x3_2).length 4 ((x3_2).flatMap e37)), (8, .vec (x3_5).length 4 ((x3_5).flatMap e37)), (9, .int .i64 y7_0)] (mkH [⟨[.int .i64 a1.f0, .int .i64 a1.f1, .bool a1.f2, .bool a1.f3], 0, false⟩]) (g6_l7 k a0 a1 x1_1 x3_2 x3_5 n y7_0)
 | 0, _ => ok_none
 | n + 1, y7_0 => by
  have ih := g6_l7_ok k a0 a1 x1_1 x3_2 x3_5 n
  rw [g6_l7_s]
  refine ok_ent (p' := nav [0] g6p14) (by kernel_rfl) ?_
  let E6 : Env := [(35, .bool (decide (y7_0 < (x3_5.length : Int)))), (34, .int .i64 (x3_5.length : Int)), (33, .vec (x3_5).length 4 ((x3_5).flatMap e37)), (32, .int .i64 y7_0), (0, .str a0), (3, .ptr 0 4 0), (5, .vec (x1_1.1).length 3 ((x1_1.1).flatMap e47)), (7, .vec (x3_2).length 4 ((x3_2).flatMap e37)), (8, .vec (x3_5).length 4 ((x3_5).flatMap e37)), (9, .int .i64 y7_0)]
  refine oR 8 (p' := g6p16) (eE := E6) (H' := (mkH [⟨[.int .i64 a1.f0, .int .i64 a1.f1, .bool a1.f2, .bool a1.f3], 0, false⟩])) (by kernel_rfl) ?_
  refine oS 35 (b := decide (y7_0 < (x3_5.length : Int))) (by kernel_rfl) (fun hb => ?_) (fun hb => ?_)
  ·refine oR 5 (p' := g6p17) (eE := ((35, .bool true) :: E6)) (H' := (mkH [⟨[.int .i64 a1.f0, .int .i64 a1.f1, .bool a1.f2, .bool a1.f3], 0, false⟩])) (by kernel_rfl) ?_
   refine ok_bind (fun x5_4 hx5_4 => ?_)
   refine ok_bind (fun x5_6 hx5_6 => ?_)
   refine ok_bind (fun x5_11 hx5_11 => ?_)
   refine ok_bind (fun x5_13 hx5_13 => ?_)
   let E7 : Env := [(41, .int .i64 y7_0), (40, .vec (x3_2).length 4 ((x3_2).flatMap e37)), (39, .vec (x1_1.1).length 3 ((x1_1.1).flatMap e47)), (38, .str a0), (35, .bool true), (35, .bool (decide (y7_0 < (x3_5.length : Int)))), (34, .int .i64 (x3_5.length : Int)), (33, .vec (x3_5).length 4 ((x3_5).flatMap e37)), (32, .int .i64 y7_0), (0, .str a0), (3, .ptr 0 4 0), (5, .vec (x1_1.1).length 3 ((x1_1.1).flatMap e47)), (7, .vec (x3_2).length 4 ((x3_2).flatMap e37)), (8, .vec (x3_5).length 4 ((x3_5).flatMap e37)), (9, .int .i64 y7_0)]
   let E8 : Env := ((48, .int .i64 y7_0) :: (47, .vec (x3_5).length 4 ((x3_5).flatMap e37)) :: (46, .vec (x1_1.1).length 3 ((x1_1.1).flatMap e47)) :: (45, .str a0) :: (44, .str x5_6) :: (43, .agg [.int .i64 x5_4.f0, .int .i64 x5_4.f1, .bool x5_4.f2, .bool x5_4.f3]) :: (42, .vptr [.int .i64 x5_4.f0, .int .i64 x5_4.f1, .bool x5_4.f2, .bool x5_4.f3]) :: E7)
   refine ok_draw (p' := nav [0] g6p17) (eE := ((52, .bool (!(eqL x5_6 x5_13))) :: (51, .str x5_13) :: (50, .agg [.int .i64 x5_11.f0, .int .i64 x5_11.f1, .bool x5_11.f2, .bool x5_11.f3]) :: (49, .vptr [.int .i64 x5_11.f0, .int .i64 x5_11.f1, .bool x5_11.f2, .bool x5_11.f3]) :: E8)) (H' := (mkH [⟨[.int .i64 a1.f0, .int .i64 a1.f1, .bool a1.f2, .bool a1.f3], 0, false⟩])) (hs := [(mkH [⟨[.int .i64 a1.f0, .int .i64 a1.f1, .bool a1.f2, .bool a1.f3], 0, false⟩]), (mkH [⟨[.int .i64 a1.f0, .int .i64 a1.f1, .bool a1.f2, .bool a1.f3], 0, false⟩])]) [(0, 0, 0), (0, 0, 0), (0, 0, 0), (0, 0, 0), (12, 0, 0), (28, 0, 0), (63, 0, 0), (0, 0, 0), (0, 0, 0), (0, 0, 0), (0, 0, 0), (1536, 0, 0), (3584, 0, 1), (8191, 0, 0), (16383, 0, 0)] (by kernel_rfl) (by kernel_rfl) (by kernel_rfl) (opsD_run 4 (l' := (opsAt g6p17).toList.drop 4) (eE := E7) (H' := (mkH [⟨[.int .i64 a1.f0, .int .i64 a1.f1, .bool a1.f2, .bool a1.f3], 0, false⟩])) (hs := []) (by kernel_rfl) (opsD_chk (l' := (opsAt g6p17).toList.drop 5) (eE := ((42, .vptr [.int .i64 x5_4.f0, .int .i64 x5_4.f1, .bool x5_4.f2, .bool x5_4.f3]) :: E7)) (hs := []) (x := x5_4) (fun (x5_4 : S36) => (.vptr [.int .i64 x5_4.f0, .int .i64 x5_4.f1, .bool x5_4.f2, .bool x5_4.f3], (mkH [⟨[.int .i64 a1.f0, .int .i64 a1.f1, .bool a1.f2, .bool a1.f3], 0, false⟩]))) (vidxH (sz := 4) e37_len (by kernel_rfl)) hx5_4 (by kernel_rfl) (opsD_run 1 (l' := (opsAt g6p17).toList.drop 6) (eE := ((43, .agg [.int .i64 x5_4.f0, .int .i64 x5_4.f1, .bool x5_4.f2, .bool x5_4.f3]) :: (42, .vptr [.int .i64 x5_4.f0, .int .i64 x5_4.f1, .bool x5_4.f2, .bool x5_4.f3]) :: E7)) (H' := (mkH [⟨[.int .i64 a1.f0, .int .i64 a1.f1, .bool a1.f2, .bool a1.f3], 0, false⟩])) (hs := []) (by kernel_rfl) (opsD_call (l' := (opsAt g6p17).toList.drop 7) (eE := ((44, .str x5_6) :: (43, .agg [.int .i64 x5_4.f0, .int .i64 x5_4.f1, .bool x5_4.f2, .bool x5_4.f3]) :: (42, .vptr [.int .i64 x5_4.f0, .int .i64 x5_4.f1, .bool x5_4.f2, .bool x5_4.f3]) :: E7)) (hs := [(mkH [⟨[.int .i64 a1.f0, .int .i64 a1.f1, .bool a1.f2, .bool a1.f3], 0, false⟩])]) (fi := 32) (args := [.str a0, .vec (x1_1.1).length 3 ((x1_1.1).flatMap e47), .agg [.int .i64 x5_4.f0, .int .i64 x5_4.f1, .bool x5_4.f2, .bool x5_4.f3]]) (v := .str x5_6) (by kernel_rfl) (by kernel_rfl) (by kernel_rfl) (g32_ok k a0 x1_1.1 (⟨x5_4.f0, x5_4.f1, x5_4.f2, x5_4.f3⟩ : S36) x5_6 hx5_6) (by kernel_rfl) (opsD_run 4 (l' := (opsAt g6p17).toList.drop 11) (eE := E8) (H' := (mkH [⟨[.int .i64 a1.f0, .int .i64 a1.f1, .bool a1.f2, .bool a1.f3], 0, false⟩])) (hs := []) (by kernel_rfl) (opsD_chk (l' := (opsAt g6p17).toList.drop 12) (eE := ((49, .vptr [.int .i64 x5_11.f0, .int .i64 x5_11.f1, .bool x5_11.f2, .bool x5_11.f3]) :: E8)) (hs := []) (x := x5_11) (fun (x5_11 : S36) => (.vptr [.int .i64 x5_11.f0, .int .i64 x5_11.f1, .bool x5_11.f2, .bool x5_11.f3], (mkH [⟨[.int .i64 a1.f0, .int .i64 a1.f1, .bool a1.f2, .bool a1.f3], 0, false⟩]))) (vidxH (sz := 4) e37_len (by kernel_rfl)) hx5_11 (by kernel_rfl) (opsD_run 1 (l' := (opsAt g6p17).toList.drop 13) (eE := ((50, .agg [.int .i64 x5_11.f0, .int .i64 x5_11.f1, .bool x5_11.f2, .bool x5_11.f3]) :: (49, .vptr [.int .i64 x5_11.f0, .int .i64 x5_11.f1, .bool x5_11.f2, .bool x5_11.f3]) :: E8)) (H' := (mkH [⟨[.int .i64 a1.f0, .int .i64 a1.f1, .bool a1.f2, .bool a1.f3], 0, false⟩])) (hs := []) (by kernel_rfl) (opsD_call (l' := (opsAt g6p17).toList.drop 14) (eE := ((51, .str x5_13) :: (50, .agg [.int .i64 x5_11.f0, .int .i64 x5_11.f1, .bool x5_11.f2, .bool x5_11.f3]) :: (49, .vptr [.int .i64 x5_11.f0, .int .i64 x5_11.f1, .bool x5_11.f2, .bool x5_11.f3]) :: E8)) (hs := [(mkH [⟨[.int .i64 a1.f0, .int .i64 a1.f1, .bool a1.f2, .bool a1.f3], 0, false⟩])]) (fi := 33) (args := [.str a0, .vec (x1_1.1).length 3 ((x1_1.1).flatMap e47), .agg [.int .i64 x5_11.f0, .int .i64 x5_11.f1, .bool x5_11.f2, .bool x5_11.f3]]) (v := .str x5_13) (by kernel_rfl) (by kernel_rfl) (by kernel_rfl) (g33_ok k a0 x1_1.1 (⟨x5_11.f0, x5_11.f1, x5_11.f2, x5_11.f3⟩ : S36) x5_13 hx5_13) (by kernel_rfl) (opsD_run 1 (l' := (opsAt g6p17).toList.drop 15) (eE := ((52, .bool (!(eqL x5_6 x5_13))) :: (51, .str x5_13) :: (50, .agg [.int .i64 x5_11.f0, .int .i64 x5_11.f1, .bool x5_11.f2, .bool x5_11.f3]) :: (49, .vptr [.int .i64 x5_11.f0, .int .i64 x5_11.f1, .bool x5_11.f2, .bool x5_11.f3]) :: E8)) (H' := (mkH [⟨[.int .i64 a1.f0, .int .i64 a1.f1, .bool a1.f2, .bool a1.f3], 0, false⟩])) (hs := []) (by kernel_rfl) (.nil)))))))))) (by kernel_rfl) (by kernel_rfl) (by kernel_rfl) ?_
   refine oS 52 (b := !(eqL x5_6 x5_13)) (by kernel_rfl) (fun hb => ?_) (fun hb => ?_)
   ·let E9 : Env := ((4, .bool false) :: (52, .bool true) :: (52, .bool (!(eqL x5_6 x5_13))) :: (51, .str x5_13) :: (50, .agg [.int .i64 x5_11.f0, .int .i64 x5_11.f1, .bool x5_11.f2, .bool x5_11.f3]) :: (49, .vptr [.int .i64 x5_11.f0, .int .i64 x5_11.f1, .bool x5_11.f2, .bool x5_11.f3]) :: E8)
    refine oR 6 (p' := .fin) (eE := E9) (H' := (mkH [⟨[.int .i64 a1.f0, .int .i64 a1.f1, .bool a1.f2, .bool a1.f3], 0, false⟩])) (by kernel_rfl) ?_
    exact oT (r := false) (xs := [.bool false]) (v := .bool false) (by kernel_rfl) (by kernel_rfl) (by kernel_rfl) (.pures (by kernel_rfl)) (by kernel_rfl)
   ·let E10 : Env := ((9, .int .i64 (fW .i64 (y7_0 + 1))) :: (37, .int .i64 (fW .i64 (y7_0 + 1))) :: (36, .int .i64 y7_0) :: (52, .bool false) :: (52, .bool (!(eqL x5_6 x5_13))) :: (51, .str x5_13) :: (50, .agg [.int .i64 x5_11.f0, .int .i64 x5_11.f1, .bool x5_11.f2, .bool x5_11.f3]) :: (49, .vptr [.int .i64 x5_11.f0, .int .i64 x5_11.f1, .bool x5_11.f2, .bool x5_11.f3]) :: E8)
    refine oR 7 (p' := g6p14) (eE := E10) (H' := (mkH [⟨[.int .i64 a1.f0, .int .i64 a1.f1, .bool a1.f2, .bool a1.f3], 0, false⟩])) (by kernel_rfl) ?_
    refine oK [0, 3, 5, 7, 8, 9] (eE := [(0, .str a0), (3, .ptr 0 4 0), (5, .vec (x1_1.1).length 3 ((x1_1.1).flatMap e47)), (7, .vec (x3_2).length 4 ((x3_2).flatMap e37)), (8, .vec (x3_5).length 4 ((x3_5).flatMap e37)), (9, .int .i64 (fW .i64 (y7_0 + 1)))]) (by kernel_rfl) ?_
    exact ih (fW .i64 (y7_0 + 1))
  ·refine oR 3 (p' := g6p18) (eE := ((35, .bool false) :: E6)) (H' := (mkH [⟨[.int .i64 a1.f0, .int .i64 a1.f1, .bool a1.f2, .bool a1.f3], 0, false⟩])) (by kernel_rfl) ?_
   refine ok_bind (fun x6_0 hx6_0 => ?_)
   refine ok_if (fun hb7 => ?_) (fun hb7 => ?_)
   ·refine ok_bind (fun x6_5 hx6_5 => ?_)
    refine ok_bind (fun x6_9 hx6_9 => ?_)
    let E11 : Env := [(53, .bool x6_0), (35, .bool false), (35, .bool (decide (y7_0 < (x3_5.length : Int)))), (34, .int .i64 (x3_5.length : Int)), (33, .vec (x3_5).length 4 ((x3_5).flatMap e37)), (32, .int .i64 y7_0), (0, .str a0), (3, .ptr 0 4 0), (5, .vec (x1_1.1).length 3 ((x1_1.1).flatMap e47)), (7, .vec (x3_2).length 4 ((x3_2).flatMap e37)), (8, .vec (x3_5).length 4 ((x3_5).flatMap e37)), (9, .int .i64 y7_0)]
    let E12 : Env := [(57, .agg [.int .i64 a1.f0, .int .i64 a1.f1, .bool a1.f2, .bool a1.f3]), (56, .vec (x1_1.1).length 3 ((x1_1.1).flatMap e47)), (55, .str a0), (54, .bool true), (53, .bool true), (35, .bool false), (35, .bool (decide (y7_0 < (x3_5.length : Int)))), (34, .int .i64 (x3_5.length : Int)), (33, .vec (x3_5).length 4 ((x3_5).flatMap e37)), (32, .int .i64 y7_0), (0, .str a0), (3, .ptr 0 4 0), (5, .vec (x1_1.1).length 3 ((x1_1.1).flatMap e47)), (7, .vec (x3_2).length 4 ((x3_2).flatMap e37)), (8, .vec (x3_5).length 4 ((x3_5).flatMap e37)), (9, .int .i64 y7_0)]
    let E13 : Env := ((62, .str x6_9) :: (61, .agg [.int .i64 a1.f0, .int .i64 a1.f1, .bool a1.f2, .bool a1.f3]) :: (60, .vec (x1_1.1).length 3 ((x1_1.1).flatMap e47)) :: (59, .str a0) :: (58, .str x6_5) :: E12)
    refine ok_draw (p' := nav [0] g6p18) (eE := ((4, .bool (eqL x6_5 x6_9)) :: (64, .bool (eqL x6_5 x6_9)) :: (63, .bool (eqL x6_5 x6_9)) :: E13)) (H' := (mkH [⟨[.int .i64 a1.f0, .int .i64 a1.f1, .bool a1.f2, .bool a1.f3], 0, false⟩])) (hs := [(mkH [⟨[.int .i64 a1.f0, .int .i64 a1.f1, .bool a1.f2, .bool a1.f3], 0, false⟩]), (mkH [⟨[.int .i64 a1.f0, .int .i64 a1.f1, .bool a1.f2, .bool a1.f3], 0, false⟩]), (mkH [⟨[.int .i64 a1.f0, .int .i64 a1.f1, .bool a1.f2, .bool a1.f3], 0, false⟩])]) [(0, 0, 0), (1, 0, 0), (3, 0, 0), (3, 0, 0), (3, 1, 1), (31, 0, 0), (3, 0, 0), (3, 0, 0), (3, 1, 2), (511, 0, 0), (1023, 0, 0), (2047, 0, 0), (4095, 0, 0)] (by kernel_rfl) (by kernel_rfl) (by kernel_rfl) (opsD_call (l' := (opsAt g6p18).toList.drop 1) (eE := E11) (hs := [(mkH [⟨[.int .i64 a1.f0, .int .i64 a1.f1, .bool a1.f2, .bool a1.f3], 0, false⟩])]) (fi := 27) (args := []) (v := .bool x6_0) (by kernel_rfl) (by kernel_rfl) (by kernel_rfl) (g27_ok k  x6_0 hx6_0) (by kernel_rfl) (opsD_run 1 (l' := (opsAt g6p18).toList.drop 2) (eE := ((54, .bool x6_0) :: E11)) (H' := (mkH [⟨[.int .i64 a1.f0, .int .i64 a1.f1, .bool a1.f2, .bool a1.f3], 0, false⟩])) (hs := []) (by kernel_rfl) (opsD_env (eE := [(54, .bool true), (53, .bool true), (35, .bool false), (35, .bool (decide (y7_0 < (x3_5.length : Int)))), (34, .int .i64 (x3_5.length : Int)), (33, .vec (x3_5).length 4 ((x3_5).flatMap e37)), (32, .int .i64 y7_0), (0, .str a0), (3, .ptr 0 4 0), (5, .vec (x1_1.1).length 3 ((x1_1.1).flatMap e47)), (7, .vec (x3_2).length 4 ((x3_2).flatMap e37)), (8, .vec (x3_5).length 4 ((x3_5).flatMap e37)), (9, .int .i64 y7_0)]) (congrArg (fun z : Bool => ([(54, .bool z), (53, .bool z), (35, .bool false), (35, .bool (decide (y7_0 < (x3_5.length : Int)))), (34, .int .i64 (x3_5.length : Int)), (33, .vec (x3_5).length 4 ((x3_5).flatMap e37)), (32, .int .i64 y7_0), (0, .str a0), (3, .ptr 0 4 0), (5, .vec (x1_1.1).length 3 ((x1_1.1).flatMap e47)), (7, .vec (x3_2).length 4 ((x3_2).flatMap e37)), (8, .vec (x3_5).length 4 ((x3_5).flatMap e37)), (9, .int .i64 y7_0)] : Env)) hb7) (opsD_run 3 (l' := (opsAt g6p18).toList.drop 5) (eE := E12) (H' := (mkH [⟨[.int .i64 a1.f0, .int .i64 a1.f1, .bool a1.f2, .bool a1.f3], 0, false⟩])) (hs := []) (by kernel_rfl) (opsD_call (l' := (opsAt g6p18).toList.drop 6) (eE := ((58, .str x6_5) :: E12)) (hs := [(mkH [⟨[.int .i64 a1.f0, .int .i64 a1.f1, .bool a1.f2, .bool a1.f3], 0, false⟩])]) (fi := 32) (args := [.str a0, .vec (x1_1.1).length 3 ((x1_1.1).flatMap e47), .agg [.int .i64 a1.f0, .int .i64 a1.f1, .bool a1.f2, .bool a1.f3]]) (v := .str x6_5) (by kernel_rfl) (by kernel_rfl) (by kernel_rfl) (g32_ok k a0 x1_1.1 (⟨a1.f0, a1.f1, a1.f2, a1.f3⟩ : S36) x6_5 hx6_5) (by kernel_rfl) (opsD_run 3 (l' := (opsAt g6p18).toList.drop 9) (eE := ((61, .agg [.int .i64 a1.f0, .int .i64 a1.f1, .bool a1.f2, .bool a1.f3]) :: (60, .vec (x1_1.1).length 3 ((x1_1.1).flatMap e47)) :: (59, .str a0) :: (58, .str x6_5) :: E12)) (H' := (mkH [⟨[.int .i64 a1.f0, .int .i64 a1.f1, .bool a1.f2, .bool a1.f3], 0, false⟩])) (hs := []) (by kernel_rfl) (opsD_call (l' := (opsAt g6p18).toList.drop 10) (eE := E13) (hs := [(mkH [⟨[.int .i64 a1.f0, .int .i64 a1.f1, .bool a1.f2, .bool a1.f3], 0, false⟩])]) (fi := 33) (args := [.str a0, .vec (x1_1.1).length 3 ((x1_1.1).flatMap e47), .agg [.int .i64 a1.f0, .int .i64 a1.f1, .bool a1.f2, .bool a1.f3]]) (v := .str x6_9) (by kernel_rfl) (by kernel_rfl) (by kernel_rfl) (g33_ok k a0 x1_1.1 (⟨a1.f0, a1.f1, a1.f2, a1.f3⟩ : S36) x6_9 hx6_9) (by kernel_rfl) (opsD_run 3 (l' := (opsAt g6p18).toList.drop 13) (eE := ((4, .bool (eqL x6_5 x6_9)) :: (64, .bool (eqL x6_5 x6_9)) :: (63, .bool (eqL x6_5 x6_9)) :: E13)) (H' := (mkH [⟨[.int .i64 a1.f0, .int .i64 a1.f1, .bool a1.f2, .bool a1.f3], 0, false⟩])) (hs := []) (by kernel_rfl) (.nil))))))))) (by kernel_rfl) (by kernel_rfl) (by kernel_rfl) ?_
    refine oR 1 (p' := .fin) (eE := ((4, .bool (eqL x6_5 x6_9)) :: (64, .bool (eqL x6_5 x6_9)) :: (63, .bool (eqL x6_5 x6_9)) :: E13)) (H' := (mkH [⟨[.int .i64 a1.f0, .int .i64 a1.f1, .bool a1.f2, .bool a1.f3], 0, false⟩])) (by kernel_rfl) ?_
    exact oT (r := (eqL x6_5 x6_9)) (xs := [.bool (eqL x6_5 x6_9)]) (v := .bool (eqL x6_5 x6_9)) (by kernel_rfl) (by kernel_rfl) (by kernel_rfl) (.pures (by kernel_rfl)) (by kernel_rfl)
   ·let E11 : Env := [(53, .bool x6_0), (35, .bool false), (35, .bool (decide (y7_0 < (x3_5.length : Int)))), (34, .int .i64 (x3_5.length : Int)), (33, .vec (x3_5).length 4 ((x3_5).flatMap e37)), (32, .int .i64 y7_0), (0, .str a0), (3, .ptr 0 4 0), (5, .vec (x1_1.1).length 3 ((x1_1.1).flatMap e47)), (7, .vec (x3_2).length 4 ((x3_2).flatMap e37)), (8, .vec (x3_5).length 4 ((x3_5).flatMap e37)), (9, .int .i64 y7_0)]
    let E14 : Env := [(4, .bool false), (64, .bool false), (63, .tuple []), (62, .tuple []), (61, .tuple []), (60, .tuple []), (59, .tuple []), (58, .tuple []), (57, .tuple []), (56, .tuple []), (55, .tuple []), (54, .bool false), (53, .bool false), (35, .bool false), (35, .bool (decide (y7_0 < (x3_5.length : Int)))), (34, .int .i64 (x3_5.length : Int)), (33, .vec (x3_5).length 4 ((x3_5).flatMap e37)), (32, .int .i64 y7_0), (0, .str a0), (3, .ptr 0 4 0), (5, .vec (x1_1.1).length 3 ((x1_1.1).flatMap e47)), (7, .vec (x3_2).length 4 ((x3_2).flatMap e37)), (8, .vec (x3_5).length 4 ((x3_5).flatMap e37)), (9, .int .i64 y7_0)]
    refine ok_draw (p' := nav [0] g6p18) (eE := E14) (H' := (mkH [⟨[.int .i64 a1.f0, .int .i64 a1.f1, .bool a1.f2, .bool a1.f3], 0, false⟩])) (hs := [(mkH [⟨[.int .i64 a1.f0, .int .i64 a1.f1, .bool a1.f2, .bool a1.f3], 0, false⟩]), (mkH [⟨[.int .i64 a1.f0, .int .i64 a1.f1, .bool a1.f2, .bool a1.f3], 0, false⟩]), (mkH [⟨[.int .i64 a1.f0, .int .i64 a1.f1, .bool a1.f2, .bool a1.f3], 0, false⟩])]) [(0, 0, 0), (1, 0, 0), (3, 0, 0), (3, 0, 0), (3, 1, 1), (31, 0, 0), (3, 0, 0), (3, 0, 0), (3, 1, 2), (511, 0, 0), (1023, 0, 0), (2047, 0, 0), (4095, 0, 0)] (by kernel_rfl) (by kernel_rfl) (by kernel_rfl) (opsD_call (l' := (opsAt g6p18).toList.drop 1) (eE := E11) (hs := [(mkH [⟨[.int .i64 a1.f0, .int .i64 a1.f1, .bool a1.f2, .bool a1.f3], 0, false⟩])]) (fi := 27) (args := []) (v := .bool x6_0) (by kernel_rfl) (by kernel_rfl) (by kernel_rfl) (g27_ok k  x6_0 hx6_0) (by kernel_rfl) (opsD_run 1 (l' := (opsAt g6p18).toList.drop 2) (eE := ((54, .bool x6_0) :: E11)) (H' := (mkH [⟨[.int .i64 a1.f0, .int .i64 a1.f1, .bool a1.f2, .bool a1.f3], 0, false⟩])) (hs := []) (by kernel_rfl) (opsD_env (eE := [(54, .bool false), (53, .bool false), (35, .bool false), (35, .bool (decide (y7_0 < (x3_5.length : Int)))), (34, .int .i64 (x3_5.length : Int)), (33, .vec (x3_5).length 4 ((x3_5).flatMap e37)), (32, .int .i64 y7_0), (0, .str a0), (3, .ptr 0 4 0), (5, .vec (x1_1.1).length 3 ((x1_1.1).flatMap e47)), (7, .vec (x3_2).length 4 ((x3_2).flatMap e37)), (8, .vec (x3_5).length 4 ((x3_5).flatMap e37)), (9, .int .i64 y7_0)]) (congrArg (fun z : Bool => ([(54, .bool z), (53, .bool z), (35, .bool false), (35, .bool (decide (y7_0 < (x3_5.length : Int)))), (34, .int .i64 (x3_5.length : Int)), (33, .vec (x3_5).length 4 ((x3_5).flatMap e37)), (32, .int .i64 y7_0), (0, .str a0), (3, .ptr 0 4 0), (5, .vec (x1_1.1).length 3 ((x1_1.1).flatMap e47)), (7, .vec (x3_2).length 4 ((x3_2).flatMap e37)), (8, .vec (x3_5).length 4 ((x3_5).flatMap e37)), (9, .int .i64 y7_0)] : Env)) hb7) (opsD_run 11 (l' := (opsAt g6p18).toList.drop 13) (eE := E14) (H' := (mkH [⟨[.int .i64 a1.f0, .int .i64 a1.f1, .bool a1.f2, .bool a1.f3], 0, false⟩])) (hs := [(mkH [⟨[.int .i64 a1.f0, .int .i64 a1.f1, .bool a1.f2, .bool a1.f3], 0, false⟩]), (mkH [⟨[.int .i64 a1.f0, .int .i64 a1.f1, .bool a1.f2, .bool a1.f3], 0, false⟩])]) (by kernel_rfl) (.nil))))) (by kernel_rfl) (by kernel_rfl) (by kernel_rfl) ?_
    refine oR 1 (p' := .fin) (eE := E14) (H' := (mkH [⟨[.int .i64 a1.f0, .int .i64 a1.f1, .bool a1.f2, .bool a1.f3], 0, false⟩])) (by kernel_rfl) ?_
    exact oT (r := false) (xs := [.bool false]) (v := .bool false) (by kernel_rfl) (by kernel_rfl) (by kernel_rfl) (.pures (by kernel_rfl)) (by kernel_rfl)
def g6 (k : Nat) (a0 : (List Nat)) (a1 : S36) : Option Bool :=
 if (decide (1500 < (a0.length : Int))) then ((g27 k).bind fun x0_0 => some x0_0) else ((g28 k a0).bind fun x1_1 => if (!decide (x1_1.2 = 0)) then ((g27 k).bind fun x2_0 => some x2_0) else ((g29 k a0 x1_1.1).bind fun x3_2 => (g30 k a0 x1_1.1).bind fun x3_5 => (g31 k x3_2 x3_5).bind fun x4_2 => if (!x4_2) then (some false) else (g6_l7 k a0 a1 x1_1 x3_2 x3_5 k 0)))
theorem g6_ok (k : Nat) (a0 : (List Nat)) (a1 : S36) (r : Bool) (h : g6 k a0 a1 = some r) : PureOk Try.prog 6 [.str a0, .agg [.int .i64 a1.f0, .int .i64 a1.f1, .bool a1.f2, .bool a1.f3]] (.bool r) := by
 refine pure_of X6 (fun _ => rfl) Try.func6 (by decide +kernel) (by kernel_rfl) (t := g6 k a0 a1) ?_ h
 unfold g6
 refine oE (eE := [(0, .str a0), (1, .agg [.int .i64 a1.f0, .int .i64 a1.f1, .bool a1.f2, .bool a1.f3])]) (by kernel_rfl) ?_
 let E1 : Env := [(12, .bool (decide (1500 < (a0.length : Int)))), (11, .int .i64 (a0.length : Int)), (10, .str a0), (4, .bool false), (3, .ptr 0 4 0), (0, .str a0), (1, .agg [.int .i64 a1.f0, .int .i64 a1.f1, .bool a1.f2, .bool a1.f3])]
 refine oR 12 (p' := g6p2) (eE := E1) (H' := (mkH [⟨[.int .i64 a1.f0, .int .i64 a1.f1, .bool a1.f2, .bool a1.f3], 0, false⟩])) (by kernel_rfl) ?_
 refine oS 12 (b := decide (1500 < (a0.length : Int))) (by kernel_rfl) (fun hb => ?_) (fun hb => ?_)
 ·refine oR 3 (p' := (atN 0 (ctl1 g6p3))) (eE := ((12, .bool true) :: E1)) (H' := (mkH [⟨[.int .i64 a1.f0, .int .i64 a1.f1, .bool a1.f2, .bool a1.f3], 0, false⟩])) (by kernel_rfl) ?_
  refine oC (fun (x0_0 : Bool) => .bool x0_0) (atN 1 (ctl1 g6p3)) (fun x0_0 => ((13, .bool x0_0) :: (12, .bool true) :: E1)) (fi := 27) (args := []) (by kernel_rfl) (by kernel_rfl) (fun _ => by kernel_rfl) (fun r h => g27_ok k  r h) (fun _ => by kernel_rfl) (fun x0_0 hx0_0 => ?_)
  refine oR 3 (p' := .fin) (eE := ((4, .bool x0_0) :: (13, .bool x0_0) :: (12, .bool true) :: E1)) (H' := (mkH [⟨[.int .i64 a1.f0, .int .i64 a1.f1, .bool a1.f2, .bool a1.f3], 0, false⟩])) (by kernel_rfl) ?_
  exact oT (r := x0_0) (xs := [.bool x0_0]) (v := .bool x0_0) (by kernel_rfl) (by kernel_rfl) (by kernel_rfl) (.pures (by kernel_rfl)) (by kernel_rfl)
 ·refine oR 5 (p' := (atN 1 (ctl1 g6p4))) (eE := ((15, .str a0) :: (12, .bool false) :: E1)) (H' := (mkH [⟨[.int .i64 a1.f0, .int .i64 a1.f1, .bool a1.f2, .bool a1.f3], 0, false⟩])) (by kernel_rfl) ?_
  refine oC (fun (x1_1 : ((List S46) × Int)) => .tuple [.vec (x1_1.1).length 3 ((x1_1.1).flatMap e47), .int .i64 x1_1.2]) (atN 2 (ctl1 g6p4)) (fun x1_1 => ((16, .tuple [.vec (x1_1.1).length 3 ((x1_1.1).flatMap e47), .int .i64 x1_1.2]) :: (15, .str a0) :: (12, .bool false) :: E1)) (fi := 28) (args := [.str a0]) (by kernel_rfl) (by kernel_rfl) (fun _ => by kernel_rfl) (fun r h => g28_ok k a0 r h) (fun _ => by kernel_rfl) (fun x1_1 hx1_1 => ?_)
  let E2 : Env := ((6, .int .i64 x1_1.2) :: (5, .vec (x1_1.1).length 3 ((x1_1.1).flatMap e47)) :: (18, .int .i64 x1_1.2) :: (17, .vec (x1_1.1).length 3 ((x1_1.1).flatMap e47)) :: (14, .tuple [.vec (x1_1.1).length 3 ((x1_1.1).flatMap e47), .int .i64 x1_1.2]) :: (16, .tuple [.vec (x1_1.1).length 3 ((x1_1.1).flatMap e47), .int .i64 x1_1.2]) :: (15, .str a0) :: (12, .bool false) :: E1)
  refine oR 8 (p' := g6p6) (eE := E2) (H' := (mkH [⟨[.int .i64 a1.f0, .int .i64 a1.f1, .bool a1.f2, .bool a1.f3], 0, false⟩])) (by kernel_rfl) ?_
  refine oK [0, 3, 5, 6] (eE := [(0, .str a0), (3, .ptr 0 4 0), (5, .vec (x1_1.1).length 3 ((x1_1.1).flatMap e47)), (6, .int .i64 x1_1.2)]) (by kernel_rfl) ?_
  let E3 : Env := [(20, .bool (!decide (x1_1.2 = 0))), (19, .int .i64 x1_1.2), (0, .str a0), (3, .ptr 0 4 0), (5, .vec (x1_1.1).length 3 ((x1_1.1).flatMap e47)), (6, .int .i64 x1_1.2)]
  refine oR 4 (p' := g6p7) (eE := E3) (H' := (mkH [⟨[.int .i64 a1.f0, .int .i64 a1.f1, .bool a1.f2, .bool a1.f3], 0, false⟩])) (by kernel_rfl) ?_
  refine oS 20 (b := !decide (x1_1.2 = 0)) (by kernel_rfl) (fun hb => ?_) (fun hb => ?_)
  ·refine oR 3 (p' := (atN 0 (ctl1 g6p8))) (eE := ((20, .bool true) :: E3)) (H' := (mkH [⟨[.int .i64 a1.f0, .int .i64 a1.f1, .bool a1.f2, .bool a1.f3], 0, false⟩])) (by kernel_rfl) ?_
   refine oC (fun (x2_0 : Bool) => .bool x2_0) (atN 1 (ctl1 g6p8)) (fun x2_0 => ((21, .bool x2_0) :: (20, .bool true) :: E3)) (fi := 27) (args := []) (by kernel_rfl) (by kernel_rfl) (fun _ => by kernel_rfl) (fun r h => g27_ok k  r h) (fun _ => by kernel_rfl) (fun x2_0 hx2_0 => ?_)
   refine oR 3 (p' := .fin) (eE := ((4, .bool x2_0) :: (21, .bool x2_0) :: (20, .bool true) :: E3)) (H' := (mkH [⟨[.int .i64 a1.f0, .int .i64 a1.f1, .bool a1.f2, .bool a1.f3], 0, false⟩])) (by kernel_rfl) ?_
   exact oT (r := x2_0) (xs := [.bool x2_0]) (v := .bool x2_0) (by kernel_rfl) (by kernel_rfl) (by kernel_rfl) (.pures (by kernel_rfl)) (by kernel_rfl)
  ·refine oR 6 (p' := (atN 2 (ctl1 g6p9))) (eE := ((23, .vec (x1_1.1).length 3 ((x1_1.1).flatMap e47)) :: (22, .str a0) :: (20, .bool false) :: E3)) (H' := (mkH [⟨[.int .i64 a1.f0, .int .i64 a1.f1, .bool a1.f2, .bool a1.f3], 0, false⟩])) (by kernel_rfl) ?_
   refine oC (fun (x3_2 : (List S36)) => .vec (x3_2).length 4 ((x3_2).flatMap e37)) (atN 3 (ctl1 g6p9)) (fun x3_2 => ((24, .vec (x3_2).length 4 ((x3_2).flatMap e37)) :: (23, .vec (x1_1.1).length 3 ((x1_1.1).flatMap e47)) :: (22, .str a0) :: (20, .bool false) :: E3)) (fi := 29) (args := [.str a0, .vec (x1_1.1).length 3 ((x1_1.1).flatMap e47)]) (by kernel_rfl) (by kernel_rfl) (fun _ => by kernel_rfl) (fun r h => g29_ok k a0 x1_1.1 r h) (fun _ => by kernel_rfl) (fun x3_2 hx3_2 => ?_)
   let E4 : Env := ((26, .vec (x1_1.1).length 3 ((x1_1.1).flatMap e47)) :: (25, .str a0) :: (24, .vec (x3_2).length 4 ((x3_2).flatMap e37)) :: (23, .vec (x1_1.1).length 3 ((x1_1.1).flatMap e47)) :: (22, .str a0) :: (20, .bool false) :: E3)
   refine oR 2 (p' := (atN 5 (ctl1 g6p9))) (eE := E4) (H' := (mkH [⟨[.int .i64 a1.f0, .int .i64 a1.f1, .bool a1.f2, .bool a1.f3], 0, false⟩])) (by kernel_rfl) ?_
   refine oC (fun (x3_5 : (List S36)) => .vec (x3_5).length 4 ((x3_5).flatMap e37)) (atN 6 (ctl1 g6p9)) (fun x3_5 => ((27, .vec (x3_5).length 4 ((x3_5).flatMap e37)) :: E4)) (fi := 30) (args := [.str a0, .vec (x1_1.1).length 3 ((x1_1.1).flatMap e47)]) (by kernel_rfl) (by kernel_rfl) (fun _ => by kernel_rfl) (fun r h => g30_ok k a0 x1_1.1 r h) (fun _ => by kernel_rfl) (fun x3_5 hx3_5 => ?_)
   refine oR 5 (p' := g6p10) (eE := ((8, .vec (x3_5).length 4 ((x3_5).flatMap e37)) :: (7, .vec (x3_2).length 4 ((x3_2).flatMap e37)) :: (27, .vec (x3_5).length 4 ((x3_5).flatMap e37)) :: E4)) (H' := (mkH [⟨[.int .i64 a1.f0, .int .i64 a1.f1, .bool a1.f2, .bool a1.f3], 0, false⟩])) (by kernel_rfl) ?_
   refine oK [0, 3, 5, 7, 8] (eE := [(0, .str a0), (3, .ptr 0 4 0), (5, .vec (x1_1.1).length 3 ((x1_1.1).flatMap e47)), (7, .vec (x3_2).length 4 ((x3_2).flatMap e37)), (8, .vec (x3_5).length 4 ((x3_5).flatMap e37))]) (by kernel_rfl) ?_
   let E5 : Env := [(29, .vec (x3_5).length 4 ((x3_5).flatMap e37)), (28, .vec (x3_2).length 4 ((x3_2).flatMap e37)), (0, .str a0), (3, .ptr 0 4 0), (5, .vec (x1_1.1).length 3 ((x1_1.1).flatMap e47)), (7, .vec (x3_2).length 4 ((x3_2).flatMap e37)), (8, .vec (x3_5).length 4 ((x3_5).flatMap e37))]
   refine oR 3 (p' := (atN 2 (ctl1 g6p10))) (eE := E5) (H' := (mkH [⟨[.int .i64 a1.f0, .int .i64 a1.f1, .bool a1.f2, .bool a1.f3], 0, false⟩])) (by kernel_rfl) ?_
   refine oC (fun (x4_2 : Bool) => .bool x4_2) (atN 3 (ctl1 g6p10)) (fun x4_2 => ((30, .bool x4_2) :: E5)) (fi := 31) (args := [.vec (x3_2).length 4 ((x3_2).flatMap e37), .vec (x3_5).length 4 ((x3_5).flatMap e37)]) (by kernel_rfl) (by kernel_rfl) (fun _ => by kernel_rfl) (fun r h => g31_ok k x3_2 x3_5 r h) (fun _ => by kernel_rfl) (fun x4_2 hx4_2 => ?_)
   refine oR 2 (p' := g6p11) (eE := ((31, .bool (!x4_2)) :: (30, .bool x4_2) :: E5)) (H' := (mkH [⟨[.int .i64 a1.f0, .int .i64 a1.f1, .bool a1.f2, .bool a1.f3], 0, false⟩])) (by kernel_rfl) ?_
   refine oS 31 (b := !x4_2) (by kernel_rfl) (fun hb => ?_) (fun hb => ?_)
   ·refine oR 6 (p' := .fin) (eE := ((4, .bool false) :: (31, .bool true) :: (31, .bool (!x4_2)) :: (30, .bool x4_2) :: E5)) (H' := (mkH [⟨[.int .i64 a1.f0, .int .i64 a1.f1, .bool a1.f2, .bool a1.f3], 0, false⟩])) (by kernel_rfl) ?_
    exact oT (r := false) (xs := [.bool false]) (v := .bool false) (by kernel_rfl) (by kernel_rfl) (by kernel_rfl) (.pures (by kernel_rfl)) (by kernel_rfl)
   ·refine oR 9 (p' := g6p14) (eE := ((9, .int .i64 0) :: (31, .bool false) :: (31, .bool (!x4_2)) :: (30, .bool x4_2) :: E5)) (H' := (mkH [⟨[.int .i64 a1.f0, .int .i64 a1.f1, .bool a1.f2, .bool a1.f3], 0, false⟩])) (by kernel_rfl) ?_
    refine oK [0, 3, 5, 7, 8, 9] (eE := [(0, .str a0), (3, .ptr 0 4 0), (5, .vec (x1_1.1).length 3 ((x1_1.1).flatMap e47)), (7, .vec (x3_2).length 4 ((x3_2).flatMap e37)), (8, .vec (x3_5).length 4 ((x3_5).flatMap e37)), (9, .int .i64 0)]) (by kernel_rfl) ?_
    exact (g6_l7_ok k a0 a1 x1_1 x3_2 x3_5 k) 0
end
end Go.Proofs.Ytbmijiibfaacmaa.Am
set_option maxRecDepth 100000
set_option linter.unusedVariables false
set_option linter.unusedSimpArgs false
namespace Go.Proofs.Ytbmijiibfaacmaa.Am
open Go
theorem told8 (k : Nat) : g27 (k + 60) = some true := by kernel_rfl
theorem rsplit_f {k : Nat} {s : List Nat} {l : List (Nat × Nat × Nat)} (c6 : Bool × Int × List S36 × Int → Option (List S36)) (z : Int) (acc : List S36) (cl : l.length ≤ 2000) (a : Int) : ∀ (r : List Nat) (f i e : Nat), (kindsN l).drop i = r → r.length < f → e ≤ 3000 →
 g30_l7 k c6 s (l.map (mkTok s)) z f (i : Int) (e : Int) acc a = c6 (false, ((frmN r i e : Nat) : Int), acc, a)
 | r, 0, i, e, hr, hf, he => by omega
 | [], f + 1, i, e, hr, hf, he => by
  have := kinds_end hr
  rw [g30_l7_s]
  exact iF (dF (by rw [List.length_map]; omega)) rfl
 | c :: r, f + 1, i, e, hr, hf, he => by
  obtain ⟨x, hx, hc, hi⟩ := kinds_at (s := s) hr
  have ih := rsplit_f (k := k) (s := s) c6 z acc cl a r f (i + 1) (if c = 11 then e else i + 1) (drop_step hr) (by simp only [List.length_cons] at hf; omega) (by split <;> omega)
  rw [g30_l7_s]
  have fx : (mkTok s x).f0 = (c : Int) := by rw [← hc]; rfl
  refine iT (dT (by rw [List.length_map]; omega)) ?_
  refine bS (by (try simp (disch := omega) only [fwI]); exact hx) ?_
  refine (jS (v := ((i : Int), (((if c = 11 then e else i + 1) : Nat) : Int), acc, a)) (fun j => ?_)).trans ?_
  ·by_cases h11 : c = 11
   ·refine iF (by rw [fx, dT (by omega)]; rfl) ?_
    rw [if_pos h11]
   ·refine iT (by rw [fx, dF (by omega)]; rfl) ?_
    rw [if_neg h11, fw_s (by omega)]
  ·refine bS (by (try simp (disch := omega) only [fwI]); exact hx) ?_
   simp only [frmN]
   by_cases h10 : c = 10
   ·refine iT (dT (by rw [fx]; omega)) ?_
    rw [if_pos h10, if_neg (by omega)]
   ·refine iF (dF (by rw [fx]; omega)) ?_
    rw [if_neg h10, fw_s (by omega)]
    exact ih
theorem rsplit_l {k : Nat} {s : List Nat} (hk : s.length + 10 ≤ k) (hl : s.length ≤ 2000) {l : List (Nat × Nat × Nat)} (ht : Toks s 0 l) (cl : l.length ≤ s.length) : ∀ (f i : Nat) (r : List Nat) (acc : List S36), (kindsN l).drop i = r → r.length < f → i ≤ l.length → acc.length ≤ i →
 g30_l5 k s (l.map (mkTok s)) f (i : Int) acc = some (acc ++ (splN (blkF s l) f r i).map itm)
 | 0, i, r, acc, hr, hf, hi, ha => by omega
 | f + 1, i, [], acc, hr, hf, hi, ha => by
  have := kinds_end hr
  rw [g30_l5_s]
  refine iF (dF (by rw [List.length_map]; omega)) ?_
  simp [splN]
 | f + 1, i, c :: r, acc, hr, hf, hi, ha => by
  obtain ⟨x, hx, hc, hi⟩ := kinds_at (s := s) hr
  have fx : (mkTok s x).f0 = (c : Int) := by rw [← hc]; rfl
  rw [g30_l5_s]
  refine iT (dT (by rw [List.length_map]; omega)) ?_
  refine bS (by (try simp (disch := omega) only [fwI]); exact rnewl_at hk hl ht (i : Int)) ?_
  refine bS (by (try simp (disch := omega) only [fwI]); exact hx) ?_
  have rl : r.length + i + 1 = l.length := by have := drop_len hr; rw [kindsN, List.length_map] at this; exact this
  simp only [List.length_cons] at hf
  simp only [splN]
  by_cases h11 : c = 11
  ·rw [if_pos h11]
   refine (jS (v := (true, ((i + 1 : Nat) : Int), acc, (i : Int))) (fun j => ?_)).trans ?_
   ·refine iT (dT (by rw [fx]; omega)) ?_
    rw [fw_s (by omega)]
   ·refine bS (by (try simp (disch := omega) only [fwI]); exact ap24 (acc := acc) (v := itm (i, i + 1, true, blkF s l i)) (by omega)) ?_
    have ih := rsplit_l hk hl ht cl f (i + 1) r (acc ++ [itm (i, i + 1, true, blkF s l i)]) (drop_step hr) (by omega) (by omega) (by simp only [List.length_append, List.length_cons, List.length_nil]; omega)
    refine ih.trans ?_
    simp only [List.append_assoc, List.map_cons, List.singleton_append]
  ·rw [if_neg h11]
   have b := frm_bnd r i h11
   have hd : ∀ z, i ≤ z → (kindsN l).drop z = (c :: r).drop (z - i) := fun z hz => by rw [← hr, List.drop_drop]; congr 1; omega
   refine (jS (v := (false, ((frmN (c :: r) i (i + 1) : Nat) : Int), acc, (i : Int))) (fun j => ?_)).trans ?_
   ·refine iF (dF (by rw [fx]; omega)) ?_
    rw [fw_s (by omega)]
    exact rsplit_f _ _ acc (by omega) _ (c :: r) k i (i + 1) hr (by simp only [List.length_cons]; omega) (by omega)
   ·refine bS (by (try simp (disch := omega) only [fwI]); exact ap24 (acc := acc) (v := itm (i, frmN (c :: r) i (i + 1), false, blkF s l i)) (by omega)) ?_
    have ih := rsplit_l hk hl ht cl f (frmN (c :: r) i (i + 1)) ((c :: r).drop (frmN (c :: r) i (i + 1) - i)) (acc ++ [itm (i, frmN (c :: r) i (i + 1), false, blkF s l i)]) (hd _ (by omega)) (by simp only [List.length_drop, List.length_cons]; omega) (by omega) (by simp only [List.length_append, List.length_cons, List.length_nil]; omega)
    refine ih.trans ?_
    simp only [List.append_assoc, List.map_cons, List.singleton_append]
theorem rsplit_at {k : Nat} {s : List Nat} (hk : s.length + 10 ≤ k) (hl : s.length ≤ 2000) {l : List (Nat × Nat × Nat)} (ht : Toks s 0 l) : g30 k s (l.map (mkTok s)) = some ((splN (blkF s l) k (kindsN l) 0).map itm) := by
 have cl : l.length ≤ s.length := toks_len s (s.length + 1) 0 l ((toks_iff s (s.length + 1) 0 l (by omega)).2 ht) (Nat.zero_le _)
 unfold g30
 exact rsplit_l hk hl ht cl k 0 (kindsN l) [] rfl (by rw [kindsN, List.length_map]; omega) (Nat.zero_le _) (Nat.zero_le _)
theorem toks_drop {s : List Nat} : ∀ {l : List (Nat × Nat × Nat)} {a i : Nat} {x : Nat × Nat × Nat} {r : List (Nat × Nat × Nat)}, Toks s a l → l.drop i = x :: r → Toks s (x.2.1 + x.2.2) r
 | [], a, i, x, r, h, hd => by simp at hd
 | z :: l, a, 0, x, r, h, hd => by
  rw [List.drop_zero] at hd
  obtain ⟨rfl, rfl⟩ := List.cons.inj hd
  exact h.2.2.2.2
 | z :: l, a, i + 1, x, r, h, hd => by
  rw [List.drop_succ_cons] at hd
  exact toks_drop h.2.2.2.2 hd
theorem bytes_both (k : Nat) {s : List Nat} (hl : s.length ≤ 2000) {l : List (Nat × Nat × Nat)} (ht : Toks s 0 l) (t : S36) : ∃ r, g32 k s (l.map (mkTok s)) t = some r ∧ g33 k s (l.map (mkTok s)) t = some r := by
 have ll : (l.map (mkTok s)).length = l.length := List.length_map _
 have cl : l.length ≤ s.length := toks_len s (s.length + 1) 0 l ((toks_iff s (s.length + 1) 0 l (by omega)).2 ht) (Nat.zero_le _)
 by_cases h : t.f0 < 0 ∨ (l.length : Int) < t.f1 ∨ t.f1 ≤ t.f0
 ·refine ⟨[], ?_, ?_⟩
  ·unfold g32
   refine (jS (v := true) (fun j => ?_)).trans rfl
   by_cases h0 : t.f0 < 0
   ·exact iT (dT h0) rfl
   ·refine iF (dF h0) ?_
    by_cases h1 : (l.length : Int) < t.f1
    ·exact iT (dT (by omega)) rfl
    ·refine iF (dF (by omega)) ?_
     rw [dT (by omega)]
  ·unfold g33
   refine (jS (v := true) (fun j => ?_)).trans rfl
   by_cases h0 : t.f0 < 0
   ·exact iT (dT h0) rfl
   ·refine iF (dF h0) ?_
    by_cases h1 : t.f1 ≤ t.f0
    ·exact iT (dT h1) rfl
    ·refine iF (dF h1) ?_
     rw [dT (by omega)]
 ·obtain ⟨t0, t1, t2, t3⟩ := t
  simp only [] at h
  obtain ⟨i, rfl⟩ : ∃ n : Nat, t0 = (n : Int) := ⟨t0.toNat, by omega⟩
  obtain ⟨e, rfl⟩ : ∃ n : Nat, t1 = ((n + 1 : Nat) : Int) := ⟨(t1 - 1).toNat, by omega⟩
  obtain ⟨x, r, hx, -, hxm, -⟩ := dconsL (s := l) (i := i) (by omega)
  obtain ⟨y, q, hy, -, hym, -⟩ := dconsL (s := l) (i := e) (by omega)
  have bx := toks_bounds ht (Nat.zero_le _) x hxm
  have bY := toks_bounds ht (Nat.zero_le _) y hym
  have hle : x.2.1 ≤ y.2.1 := by
   have hye : (x :: r).drop (e - i) = y :: q := by rw [← hx, List.drop_drop, show i + (e - i) = e by omega, hy]
   cases he : e - i with
   | zero =>
    rw [he, List.drop_zero] at hye
    rw [(List.cons.inj hye).1]
    exact Nat.le_refl _
   | succ d =>
    rw [he, List.drop_succ_cons] at hye
    have hm : y ∈ r := List.mem_of_mem_drop (i := d) (by rw [hye]; exact List.mem_cons_self)
    have := toks_bounds (toks_drop ht hx) bx.2.1 y hm
    omega
  have ge : g48 k (⟨(mkTok s y).f0, (mkTok s y).f1, (mkTok s y).f2⟩ : S46) = some ((y.2.1 + y.2.2 : Nat) : Int) := by
   unfold g48
   show some (fW .i64 ((mkTok s y).f2 + ((mkTok s y).f1.length : Int))) = _
   rw [tok_end bY.2.1, fwI (by omega) (by omega)]
  have sm : subL s (some (mkTok s x).f2) (some ((y.2.1 + y.2.2 : Nat) : Int)) = some ((s.take (y.2.1 + y.2.2)).drop x.2.1) := subMid rfl rfl (by omega) bY.2.1
  refine ⟨(s.take (y.2.1 + y.2.2)).drop x.2.1, ?_, ?_⟩
  ·unfold g32
   refine (jS (v := false) (fun j => ?_)).trans ?_
   ·refine iF (dF (by show ¬ (i : Int) < 0; omega)) ?_
    refine iF (dF (by show ¬ ((l.map (mkTok s)).length : Int) < ((e + 1 : Nat) : Int); omega)) ?_
    rw [dF (show ¬ (((e + 1 : Nat) : Int)) ≤ (i : Int) by omega)]
   ·refine iF rfl ?_
    refine bS (by (try simp (disch := omega) only [fwI]); exact map_drop' hx) ?_
    simp only []
    rw [fw_p (by omega)]
    refine bS (by (try simp (disch := omega) only [fwI]); exact map_drop' hy) ?_
    refine bS (by (try simp (disch := omega) only [fwI]); exact gend_at hl bY.2.1) ?_
    refine (jS (v := false) (fun j => ?_)).trans ?_
    ·refine iF (dF (show ¬ (x.2.1 : Int) < 0 by omega)) ?_
     refine iF (dF (by omega)) ?_
     rw [dF (show ¬ ((y.2.1 + y.2.2 : Nat) : Int) < (mkTok s x).f2 by show ¬ ((y.2.1 + y.2.2 : Nat) : Int) < (x.2.1 : Int); omega)]
    ·refine iF rfl ?_
     refine bS (by (try simp (disch := omega) only [fwI]); exact sm) ?_
     rfl
  ·unfold g33
   refine (jS (v := false) (fun j => ?_)).trans ?_
   ·refine iF (dF (by show ¬ (i : Int) < 0; omega)) ?_
    refine iF (dF (show ¬ (((e + 1 : Nat) : Int)) ≤ (i : Int) by omega)) ?_
    rw [dF (show ¬ ((l.map (mkTok s)).length : Int) < ((e + 1 : Nat) : Int) by omega)]
   ·refine iF rfl ?_
    refine bS (by (try simp (disch := omega) only [fwI]); exact map_drop' hx) ?_
    simp only []
    rw [fw_p (by omega)]
    refine bS (by (try simp (disch := omega) only [fwI]); exact map_drop' hy) ?_
    refine bS (by (try simp (disch := omega) only [fwI]); exact ge) ?_
    refine bS (by (try simp (disch := omega) only [fwI]); exact sm) ?_
    rfl
theorem itm_beq (x : S36) : ((decide (x.f0 = x.f0)) && ((decide (x.f1 = x.f1)) && ((x.f2 == x.f2) && ((x.f3 == x.f3) && true)))) = true := by simp
theorem items_l (k : Nat) (X : List S36) (hX : X.length ≤ 3000) : ∀ (d i f : Nat), i + d = X.length → d < f → g31_l1 k X X f (i : Int) = some true
 | d, i, 0, h, hf => by omega
 | 0, i, f + 1, h, hf => by
  rw [g31_l1_s]
  exact iF (dF (by omega)) rfl
 | d + 1, i, f + 1, h, hf => by
  obtain ⟨x, r, hx, -, -, -⟩ := dconsL (s := X) (i := i) (by omega)
  have ih := items_l k X hX d (i + 1) f (by omega) (by omega)
  rw [g31_l1_s]
  refine iT (dT (by omega)) ?_
  refine bS (by (try simp (disch := omega) only [fwI]); exact nthL_at hx) ?_
  refine bS (by (try simp (disch := omega) only [fwI]); exact nthL_at hx) ?_
  refine iF (by rw [itm_beq]; rfl) ?_
  rw [fw_s (by omega)]
  exact ih
theorem items_at {k : Nat} {X : List S36} (hX : X.length ≤ 3000) (hk : X.length < k) : g31 k X X = some true := by
 unfold g31
 refine iF (by rw [dT rfl]; rfl) ?_
 exact items_l k X hX X.length 0 k (by omega) hk
theorem eqL_self (s : List Nat) : eqL s s = true := (eqL_iff s s).2 rfl
theorem asks_l (k : Nat) {s : List Nat} (hl : s.length ≤ 2000) {l : List (Nat × Nat × Nat)} (ht : Toks s 0 l) (a1 : S36) (er : Int) (X : List S36) (hX : X.length ≤ 3000) : ∀ (d i f : Nat), i + d = X.length → d < f → g6_l7 (k + 60) s a1 (l.map (mkTok s), er) X X f (i : Int) = some true
 | d, i, 0, h, hf => by omega
 | 0, i, f + 1, h, hf => by
  obtain ⟨r, h1, h2⟩ := bytes_both (k + 60) hl ht a1
  rw [g6_l7_s]
  refine iF (dF (by omega)) ?_
  refine bS (by (try simp (disch := omega) only [fwI]); exact told8 k) ?_
  refine iT rfl ?_
  refine bS (by (try simp (disch := omega) only [fwI]); exact h1) ?_
  refine bS (by (try simp (disch := omega) only [fwI]); exact h2) ?_
  rw [eqL_self]
 | d + 1, i, f + 1, h, hf => by
  obtain ⟨x, q, hx, -, -, -⟩ := dconsL (s := X) (i := i) (by omega)
  obtain ⟨r, h1, h2⟩ := bytes_both (k + 60) hl ht x
  have ih := asks_l k hl ht a1 er X hX d (i + 1) f (by omega) (by omega)
  rw [g6_l7_s]
  refine iT (dT (by omega)) ?_
  refine bS (by (try simp (disch := omega) only [fwI]); exact nthL_at hx) ?_
  refine bS (by (try simp (disch := omega) only [fwI]); exact h1) ?_
  refine bS (by (try simp (disch := omega) only [fwI]); exact nthL_at hx) ?_
  refine bS (by (try simp (disch := omega) only [fwI]); exact h2) ?_
  refine iF (by rw [eqL_self]; rfl) ?_
  rw [fw_s (by omega)]
  exact ih
theorem splitAsks_true (s : List Nat) (a1 : S36) (hs : ∀ b ∈ s, b < 256) (hl : s.length ≤ 140737488351232) (hq : (-9223372036854775808 ≤ a1.f0 ∧ a1.f0 ≤ 9223372036854775807) ∧ (-9223372036854775808 ≤ a1.f1 ∧ a1.f1 ≤ 9223372036854775807) ∧ True) : ∃ k, g6 k s a1 = some true := by
 refine ⟨s.length + 70000 + 60, ?_⟩
 unfold g6
 by_cases h : 1500 < s.length
 ·refine iT (dT (by omega)) ?_
  refine bS (by (try simp (disch := omega) only [fwI]); exact told8 (s.length + 70000)) ?_
  rfl
 ·refine iF (dF (by omega)) ?_
  refine bS (by (try simp (disch := omega) only [fwI]); exact rscan_at (k := s.length + 70000 + 60) (by omega) hs hl) ?_
  by_cases h0 : (scanN s).2 = 0
  ·obtain ⟨l, ht, hsc, -, -⟩ := scan_ok h0
   have cl : l.length ≤ s.length := toks_len s (s.length + 1) 0 l ((toks_iff s (s.length + 1) 0 l (by omega)).2 ht) (Nat.zero_le _)
   refine iF (by rw [dT h0]; rfl) ?_
   rw [hsc]
   refine bS (by (try simp (disch := omega) only [fwI]); exact split_at (k := s.length + 70000 + 60) (by omega) (by omega) ht) ?_
   refine bS (by (try simp (disch := omega) only [fwI]); exact rsplit_at (k := s.length + 70000 + 60) (by omega) (by omega) ht) ?_
   have hlen := splN_len (blkF s l) (s.length + 70000 + 60) (kindsN l) 0
   have kl : (kindsN l).length = l.length := List.length_map _
   generalize splN (blkF s l) (s.length + 70000 + 60) (kindsN l) 0 = X0 at *
   have xl : (X0.map itm).length = X0.length := List.length_map _
   refine bS (by (try simp (disch := omega) only [fwI]); exact items_at (k := s.length + 70000 + 60) (X := X0.map itm) (by omega) (by omega)) ?_
   refine iF rfl ?_
   exact asks_l (s.length + 70000) (by omega) ht a1 0 (X0.map itm) (by omega) X0.length 0 _ (by omega) (by omega)
  ·refine iT (by rw [dF h0]; rfl) ?_
   refine bS (by (try simp (disch := omega) only [fwI]); exact told8 (s.length + 70000)) ?_
   rfl
end Go.Proofs.Ytbmijiibfaacmaa.Am
set_option linter.unusedVariables false
namespace Go.Proofs.Ytbmijiibfaacmaa.Am
open Go Go.ChangeShapes Go.WideShapes
def mpOf (fz : List (Nat × List AV)) : Mp := ⟨fun _ _ => none, fun i => fz[i]?⟩
theorem law_walk_fz {P : Program} {n : Nat} {xs : List AV} {args : Array Value} (h : PureOk P n xs (.bool true)) (w : World) (fz : List (Nat × List AV)) (hargs : VRs (mpOf fz) xs args.toList)
 (hfz : ∀ p ∈ fz, ∃ cs ty fr, w.heap[p.1]? = some (.cells cs ty fr) ∧ p.2.length ≤ cs.size ∧ VRs (mpOf fz) p.2 (cs.toList.take p.2.length)) :
 Calls P n args w fun e W' => e = .returned (.bool true) ∧ RowKit.Below w.heap.size w W' := by
 refine Calls.mono (h.1 (mpOf fz) w args (fun _ _ => rfl) hargs ?_) ?_
 ·refine ⟨?_, ?_, ?_, fun _ _ => rfl, ?_, ?_, ?_, ⟨fz.length, fun i hi => List.getElem?_eq_none hi⟩, Nat.le_refl _, by show 0 ≤ roots; unfold roots; omega⟩
  ·intro r b v B N hb hm; cases hm
  ·intro r v B N hm; cases hm
  ·intro r v B N r' v' N' hm; cases hm
  ·intro r v B N hm; cases hm
  ·intro i B cells hi
   exact hfz (B, cells) (List.mem_of_getElem? hi)
  ·intro i B cells r v N b _ hm; cases hm
 ·rintro e w' ⟨m', c, rfl, q1, q2, q3⟩
  simp only [VR] at q3
  exact ⟨by rw [q3], q2.below (Nat.le_refl _)⟩
section
variable {H : Type} {enc : TypeId × Value → H} {P : Program} {w : World} {base : Nat} {held : Bool}
end
end Go.Proofs.Ytbmijiibfaacmaa.Am
set_option linter.unusedVariables false
namespace Go.Proofs.Ytbmijiibfaacmaa.Am
open Go Go.ChangeShapes Go.WideShapes
section
variable {H : Type} {enc : TypeId × Value → H} {P : Program} {w : World} {base : Nat} {held : Bool}
end
theorem VRs_nil (m : Mp) : VRs m [] [] := by simp only [VRs]
theorem VRs_cons {m : Mp} {x : AV} {y : Value} {xs : List AV} {ys : List Value} (h : VR m x y) (k : VRs m xs ys) : VRs m (x :: xs) (y :: ys) := by simp only [VRs]; exact ⟨y, ys, rfl, h, k⟩
theorem VR_int (m : Mp) (k : IntKind) (n : Int) : VR m (.int k n) (.int k n) := by simp only [VR]
theorem VR_bool (m : Mp) (b : Bool) : VR m (.bool b) (.bool b) := by simp only [VR]
theorem VR_str (m : Mp) (s : ByteArray) : VR m (.str (s.data.toList.map (·.toNat))) (.string s) := by simp only [VR]; exact ⟨s, rfl, rfl⟩
theorem VR_agg {m : Mp} {xs : List AV} {c : Array Value} (h : VRs m xs c.toList) : VR m (.agg xs) (.agg c) := by simp only [VR]; exact ⟨c, rfl, h⟩
end Go.Proofs.Ytbmijiibfaacmaa.Am
set_option linter.unusedVariables false
set_option linter.unusedSimpArgs false
namespace Go.Proofs.Ytbmijiibfaacmaa.Am
open Go Go.ChangeShapes Go.WideShapes
theorem opn37 {H : Type} {enc : TypeId × Value → H} {w : World} {base : Nat} {sp : Nat → Bool} {held : Bool} {fuel : Nat} {cs : List Value} {y : DataW H × List MemPlace} (h : DataW.trod enc Try.prog w base sp held fuel 37 cs = some y) : ∃ x : S36, ((-9223372036854775808 ≤ x.f0 ∧ x.f0 ≤ 9223372036854775807) ∧ (-9223372036854775808 ≤ x.f1 ∧ x.f1 ≤ 9223372036854775807) ∧ True) ∧ ∀ m, VRs m (e37 x) cs := by
 obtain ⟨xs, n, -, -, hl, hx, hf⟩ := DataW.trod_struct Try.underlying37 h
 rw [show Try.prog.cellsOf 37 = 4 from by kernel_rfl] at hl
 obtain ⟨c0, c1, c2, c3, rfl⟩ : ∃ c0 c1 c2 c3, cs = [c0, c1, c2, c3] := match cs, hl with | [c0, c1, c2, c3], _ => ⟨c0, c1, c2, c3, rfl⟩
 have hf0 : DataW.trod enc Try.prog w base sp held n 3 (([c0, c1, c2, c3].drop 0).take (Try.prog.cellsOf 3)) = xs[0]? := hf 0 _ rfl
 rw [show Try.prog.cellsOf 3 = 1 from by kernel_rfl, List.getElem?_eq_getElem (by rw [hx]; show 0 < 4; decide)] at hf0
 have hf0 : DataW.trod enc Try.prog w base sp held n 3 [c0] = some _ := hf0
 obtain ⟨n0, z0, -, w0⟩ := DataW.trod_int Try.underlying3 hf0
 have y0 := (List.cons.inj z0).1
 have hf1 : DataW.trod enc Try.prog w base sp held n 3 (([c0, c1, c2, c3].drop 1).take (Try.prog.cellsOf 3)) = xs[1]? := hf 1 _ rfl
 rw [show Try.prog.cellsOf 3 = 1 from by kernel_rfl, List.getElem?_eq_getElem (by rw [hx]; show 1 < 4; decide)] at hf1
 have hf1 : DataW.trod enc Try.prog w base sp held n 3 [c1] = some _ := hf1
 obtain ⟨n1, z1, -, w1⟩ := DataW.trod_int Try.underlying3 hf1
 have y1 := (List.cons.inj z1).1
 have hf2 : DataW.trod enc Try.prog w base sp held n 4 (([c0, c1, c2, c3].drop 2).take (Try.prog.cellsOf 4)) = xs[2]? := hf 2 _ rfl
 rw [show Try.prog.cellsOf 4 = 1 from by kernel_rfl, List.getElem?_eq_getElem (by rw [hx]; show 2 < 4; decide)] at hf2
 have hf2 : DataW.trod enc Try.prog w base sp held n 4 [c2] = some _ := hf2
 obtain ⟨n2, z2, -⟩ := DataW.trod_bool Try.underlying4 hf2
 have y2 := (List.cons.inj z2).1
 have hf3 : DataW.trod enc Try.prog w base sp held n 4 (([c0, c1, c2, c3].drop 3).take (Try.prog.cellsOf 4)) = xs[3]? := hf 3 _ rfl
 rw [show Try.prog.cellsOf 4 = 1 from by kernel_rfl, List.getElem?_eq_getElem (by rw [hx]; show 3 < 4; decide)] at hf3
 have hf3 : DataW.trod enc Try.prog w base sp held n 4 [c3] = some _ := hf3
 obtain ⟨n3, z3, -⟩ := DataW.trod_bool Try.underlying4 hf3
 have y3 := (List.cons.inj z3).1
 subst y0 y1 y2 y3
 exact ⟨⟨n0, n1, n2, n3⟩, ⟨(by simpa [Lit.wf, IntKind.min, IntKind.max, IntKind.signed, IntKind.bits] using w0), (by simpa [Lit.wf, IntKind.min, IntKind.max, IntKind.signed, IntKind.bits] using w1), trivial⟩, fun m => VRs_cons (VR_int m .i64 n0) (VRs_cons (VR_int m .i64 n1) (VRs_cons (VR_bool m n2) (VRs_cons (VR_bool m n3) (VRs_nil m))))⟩
theorem splitAsks_walk (a0 : ByteArray) (c1 : Array Value) (a1 : S36) (W : World) (w0 : a0.size ≤ 140737488351232) (u1 : ∀ m, VRs m (e37 a1) c1.toList) (w1 : (-9223372036854775808 ≤ a1.f0 ∧ a1.f0 ≤ 9223372036854775807) ∧ (-9223372036854775808 ≤ a1.f1 ∧ a1.f1 ≤ 9223372036854775807) ∧ True) : Calls Try.prog 6 #[.string a0, .agg c1] W fun e W' => e = .returned (.bool true) ∧ RowKit.Below W.heap.size W W' := by
 obtain ⟨k, h⟩ := splitAsks_true (a0.data.toList.map (·.toNat)) a1 (bytes_lt a0) (by simpa using w0) w1
 refine law_walk_fz (g6_ok k (a0.data.toList.map (·.toNat)) a1 true h) W [] ?_ ?_
 ·exact VRs_cons (VR_str _ a0) (VRs_cons (VR_agg (u1 _)) (VRs_nil _))
 intro p hp
 cases hp
end Go.Proofs.Ytbmijiibfaacmaa.Am
namespace Go.Proofs.Ytbmijiibfaacmaa.splitAsks
open Go.ChangeShapes Go.WideShapes Go.ChangeAt Go.RowKit
open Go.ChangeMaps (open_string shut_string)
set_option linter.unusedVariables false
theorem laidOut : laidOutB Try.prog = true := by kernel_rfl
theorem own : ownKnob Try.prog.godebug = none := by kernel_rfl
set_option maxRecDepth 100000 in
theorem lifted (os : Os) (started : os.Started) (H : Type) (enc : TypeId × Value → H) :
 ReturnsInHanded {} Try.checked os 6 .any (Rows.splitAsksSpec.pre6 enc Try.prog Try.f6 Rows.splitAsksRow.domain false) (Rows.splitAsksSpec.post enc Try.prog Try.f6 false true false false) := by
 refine returnsInHanded_of_change_sized (C := Try.checked) own started (by kernel_rfl) Try.func6
  (ChangeSpec.witness6 (enc := enc) (C := Try.checked) false ⟨#[], #[.string ByteArray.empty, .agg #[.int .i64 0, .int .i64 0, .bool false, .bool false]], []⟩ 8 (by kernel_rfl) (by kernel_rfl) (by kernel_rfl) (by kernel_rfl)) ?_
 intro W base args ds gs before hval0 hW hcnd hsz0 _
 have hsz : (DataW.weightsEach Try.prog (Try.f6.params.toList ++ Rows.splitAsksSpec.plain.varTypes Try.prog) (ds ++ gs)).all (· ≤ reachBytes) = true := hsz0
 have hval : ∀ (j : Nat) t v, Try.f6.params[j]? = some t → args[j]? = some v → Value.okWide Try.prog W .any base t v := hval0
 have hW' := hW
 obtain ⟨p, q, hA0, hV, rfl, hfz, hnd⟩ := hW
 have hA : DataW.TrodAll enc Try.prog W 0 (fun _ => true) true Try.f6.params.toList args.toList ds p := hA0
 rw [Try.params6] at hA hval hsz
 obtain ⟨v0, vs0, d0, ds0, p0, q0, hargs, rfl, rfl, h0, r0⟩ := trodAll_cons hA
 obtain ⟨v1, vs1, d1, ds1, p1, q1, rfl, rfl, rfl, h1, r1⟩ := trodAll_cons r0
 obtain ⟨rfl, rfl, rfl⟩ := trodAll_nil r1
 obtain rfl : args = #[v0, v1] := by cases args; simp_all
 obtain ⟨rfl, rfl⟩ := trodVars_none hV
 obtain ⟨a0, rfl, rfl, rfl, y0⟩ := open_string Try.underlying9 (hval 0 9 v0 rfl rfl) h0
 have w0 : a0.size ≤ 140737488351232 := by
  have z := sized_string hsz (j := 0) (t := 9) rfl rfl
  rw [Array.length_toList] at z
  exact z
 obtain ⟨c1, rfl, -⟩ := okWide_struct Try.underlying37 (hval 1 37 v1 rfl rfl)
 have k1 := h1
 have lt1 : ∀ x ∈ p1, x.block < W.heap.size := by obtain ⟨m, hm⟩ := k1; exact DataW.trod_lt m _ _ _ hm
 have g1 : ∃ x : Am.S36, ((-9223372036854775808 ≤ x.f0 ∧ x.f0 ≤ 9223372036854775807) ∧ (-9223372036854775808 ≤ x.f1 ∧ x.f1 ≤ 9223372036854775807) ∧ True) ∧ ∀ m, Am.VRs m (Am.e37 x) c1.toList := by obtain ⟨m, hm⟩ := h1; exact Am.opn37 hm
 obtain ⟨a1, w1, u1⟩ := g1
 clear hA0 hval0 hsz0 hsz
 refine (Am.splitAsks_walk a0 c1 a1 W w0 u1 w1).mono fun e W' ⟨he, bel⟩ => ?_
 subst he
 exact ⟨_, rfl, _, _, _, [], _, [], hW', trodAll_mk1 (shut_bool Try.underlying4 _), (trodAll_cons_mk (shut_string Try.underlying9 y0) (trodAll_cons_mk (Below.trod laidOut (by kernel_rfl) (of_decide_eq_true (by kernel_rfl)) k1 bel lt1) trodAll_mk0)), rfl, bel.frame _, fun h => by cases h⟩
theorem over : Rows.splitAsksRow.holds Try.pinned (OpenSpec.ofChange Rows.splitAsksSpec) :=
 OpenClaim.holds_of_wide 6 Try.f6 rfl rfl rfl rfl rfl rfl rfl ⟨rfl, rfl, rfl, rfl, rfl⟩ rfl rfl rfl rfl rfl (by kernel_rfl) Try.func6 (by kernel_rfl)
  (of_decide_eq_true (by kernel_rfl)) (by unfold Func.isWrapper; first | (rw [if_pos (by decide +kernel)]; kernel_rfl) | (rw [if_neg (by decide +kernel)]; exact ⟨rfl, rfl⟩))
  (fun os started H enc _ => lifted os started H enc)
theorem proved : Rows.SplitAsksSaid := over
#print axioms proved
end Go.Proofs.Ytbmijiibfaacmaa.splitAsks
namespace Go.Proofs.Ytbmijiibfaacmaa
theorem splitAsks_holds : Rows.SplitAsksSaid := splitAsks.proved
end Go.Proofs.Ytbmijiibfaacmaa
