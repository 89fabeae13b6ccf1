/- LawGapAsks, part 4: whatever the input, the law comes out true: our texts, joined by a tool, without what the claim does not name. -/
import Derived.Test.YtbmijiibfaacmaaPkGapAsks3
import Derived.Below
import Derived.Test.YtbmijiibfaacmaaRows
import Derived.WalkKit
import Derived.ProofKit
import Derived.OpenShut
import Derived.ShutString
import Derived.ChangeOld
import Derived.SizedLaws
set_option maxRecDepth 100000
set_option linter.unusedVariables false
set_option linter.unusedSimpArgs false
namespace Go.Proofs.Ytbmijiibfaacmaa.Am
open Go
theorem rOne_at {k : Nat} {s : List Nat} (hk : s.length + 40 < k) (hs : By s) (hl : Sz s) {a : Nat} (ha : a < s.length) : g46 k s (a : Int) = some (oneAt s a) := by
 have hl' := hl
 unfold Sz at hl
 unfold g46 oneAt
 refine (jS (v := false) (fun j => by simp (disch := omega) only [↓reduceIte, ↓jn, gsL])).trans ?_
 refine iF rfl ?_
 obtain ⟨c, r, hc, hr, hm, hrl⟩ := dcons ha
 have c256 := hs c hm
 have nc := nthX (x := (a : Int)) rfl hc
 have ol := oneN_le (s.drop a)
 rw [List.length_drop] at ol
 refine bS (by (try simp (disch := omega) only [fwI]); exact nc) ?_
 by_cases h37 : c = 37
 ·subst h37
  refine iT rfl ?_
  have e : oneN (s.drop a) = (cmtN (s.drop a), 11) := by rw [hc]; rfl
  rw [e, if_neg (by rw [hc]; have := cmtN_pos r; show ¬ cmtN (37 :: r) = 0; omega)]
  exact rnote_l (by omega) hs hl' hc k a (by omega) (by omega) rfl (Nat.le_refl _)
 refine iF (dF (by omega)) ?_
 have out : ∀ (n kind : Nat), n ≤ s.length - a → (if decide ((n : Int) = 0) then some (tok0, (4 : Int)) else (subL s (some (a : Int)) (some (fW .i64 ((a : Int) + (n : Int))))).bind fun x14_6 => some ((⟨(kind : Int), x14_6, (a : Int)⟩ : S46), (0 : Int))) = some (if n = 0 then (tok0, 4) else (mkTok s (kind, a, n), 0)) := by
  intro n kind hn
  by_cases h0 : n = 0
  ·rw [if_pos h0]
   refine iT (dT (by omega)) rfl
  ·rw [if_neg h0]
   refine iF (dF (by omega)) ?_
   rw [fw_a (by omega) (by omega)]
   refine bS (by (try simp (disch := omega) only [fwI]); exact subMid (s := s) (i := a) (j := a + n) rfl rfl (by omega) (by omega)) ?_
   rw [List.drop_take, Nat.add_sub_cancel_left]; rfl
 have isD : ∀ _ : Unit, (∀ (j : Bool → Option (S46 × Int)), (if (decide ((c : Int) = 46)) then (if (decide (fW .i64 ((a : Int) + 1) = (s.length : Int))) then (j true) else ((nthS s (fW .i64 ((a : Int) + 1))).bind fun x1_12 => if (decide (x1_12 = 37)) then (j true) else ((g45 k s (fW .i64 ((a : Int) + 1))).bind fun x1_19 => j (decide (fW .i64 ((a : Int) + 1) < x1_19))))) else (j false)) = j (decide (c = 46) && dotN r)) := by
  intro _ j
  by_cases h46 : c = 46
  ·rw [decide_eq_true h46, Bool.true_and]
   refine iT (dT (by omega)) ?_
   rw [fw_s (by omega)]
   cases r with
   | nil =>
    simp only [List.length_nil] at hrl
    refine iT (dT (by omega)) rfl
   | cons d q =>
    simp only [List.length_cons] at hrl
    have nd := nthX (x := ((a + 1 : Nat) : Int)) rfl hr
    refine iF (dF (by omega)) ?_
    refine bS (by (try simp (disch := omega) only [fwI]); exact nd) ?_
    simp only [dotN]
    by_cases h37 : d = 37
    ·refine iT (dT (by omega)) ?_
     rw [decide_eq_true h37, Bool.or_true]
    ·refine iF (dF (by omega)) ?_
     have rb := rblank_at (k := k) (by omega) hs hl' (a := a + 1) (by omega)
     rw [hr] at rb
     refine bS (by (try simp (disch := omega) only [fwI]); exact rb) ?_
     rw [decide_eq_false h37, Bool.or_false]
     refine congrArg j ?_
     by_cases hb : blkN d = true
     ·have e : skipN (d :: q) = skipN q + 1 := by simp only [skipN, hb, if_true]
      rw [hb]; exact decide_eq_true (by omega)
     ·have e : skipN (d :: q) = 0 := by simp only [skipN, if_neg hb]
      rw [Bool.eq_false_iff.2 hb]; exact decide_eq_false (by omega)
  ·rw [decide_eq_false h46, Bool.false_and]
   refine iF (dF (by omega)) rfl
 have eo : oneN (s.drop a) = if c = 46 ∧ dotN r = true then (1, 10) else if c = 39 then (qtdN (s.drop a), 1) else if c = 34 then (qtdN (s.drop a), 6) else if c = 36 then (chrN (s.drop a), 5) else if c = 63 then (macN (s.drop a), 7)
  else if begN c = 3 then numN (s.drop a) else if begN c = 1 ∨ begN c = 2 then (innN (s.drop a), if rsvN ((s.drop a).take (innN (s.drop a))) then 8 else begN c) else (lngN (s.drop a), 9) := by
  rw [hc]; simp only [oneN]; rw [if_neg h37]
 refine (jS (v := decide (c = 46) && dotN r) (fun j => isD () j)).trans ?_
 clear isD
 have il := innN_le (s.drop a)
 rw [List.length_drop] at il
 by_cases h46 : c = 46 ∧ dotN r = true
 ·rw [if_pos h46] at eo
  rw [eo] at ol ⊢
  obtain ⟨h1, h2⟩ := h46
  rw [decide_eq_true h1, h2]
  refine (jS (v := (((10 : Nat) : Int), ((1 : Nat) : Int))) (fun j => iT (Bool.and_self true) (congrArg j (Prod.ext rfl rfl)))).trans ?_
  exact out 1 10 ol
 ·rw [if_neg h46] at eo
  have : (decide (c = 46) && dotN r) = false := by
   rw [Bool.and_eq_false_iff]
   by_cases h : c = 46
   ·right
    cases hd : dotN r with
    | true => exact absurd ⟨h, hd⟩ h46
    | false => rfl
   ·left; exact decide_eq_false h
  rw [this]
  have bg := begins_at58 k c256
  have nodig : (c = 39 ∨ c = 34 ∨ c = 36 ∨ c = 63) → begN c = 0 := by rintro (rfl | rfl | rfl | rfl) <;> decide
  by_cases h39 : c = 39
  ·rw [if_pos h39] at eo
   rw [eo] at ol ⊢
   subst h39
   refine (jS (v := (((1 : Nat) : Int), (qtdN (s.drop a) : Int))) (fun j => ?_)).trans ?_
   ·refine iF rfl ?_
    refine bS (by (try simp (disch := omega) only [fwI]); exact bg) ?_
    refine iF rfl ?_
    refine bS (by (try simp (disch := omega) only [fwI]); exact bg) ?_
    refine iF rfl ?_
    refine iT rfl ?_
    refine bS (by (try simp (disch := omega) only [fwI]); exact rquoted_at (by omega) hs hl' hc (.inl rfl)) ?_
    rfl
   ·exact out _ 1 ol
  rw [if_neg h39] at eo
  by_cases h34 : c = 34
  ·rw [if_pos h34] at eo
   rw [eo] at ol ⊢
   subst h34
   refine (jS (v := (((6 : Nat) : Int), (qtdN (s.drop a) : Int))) (fun j => ?_)).trans ?_
   ·refine iF rfl ?_
    refine bS (by (try simp (disch := omega) only [fwI]); exact bg) ?_
    refine iF rfl ?_
    refine bS (by (try simp (disch := omega) only [fwI]); exact bg) ?_
    refine iF rfl ?_
    refine iF rfl ?_
    refine iT rfl ?_
    refine bS (by (try simp (disch := omega) only [fwI]); exact rquoted_at (by omega) hs hl' hc (.inr rfl)) ?_
    rfl
   ·exact out _ 6 ol
  rw [if_neg h34] at eo
  by_cases h36 : c = 36
  ·rw [if_pos h36] at eo
   rw [eo] at ol ⊢
   subst h36
   refine (jS (v := (((5 : Nat) : Int), (chrN (s.drop a) : Int))) (fun j => ?_)).trans ?_
   ·refine iF rfl ?_
    refine bS (by (try simp (disch := omega) only [fwI]); exact bg) ?_
    refine iF rfl ?_
    refine bS (by (try simp (disch := omega) only [fwI]); exact bg) ?_
    refine iF rfl ?_
    refine iF rfl ?_
    refine iF rfl ?_
    refine iT rfl ?_
    refine bS (by (try simp (disch := omega) only [fwI]); exact rchar_at (by omega) hs hl' hc) ?_
    rfl
   ·exact out _ 5 ol
  rw [if_neg h36] at eo
  by_cases h63 : c = 63
  ·rw [if_pos h63] at eo
   rw [eo] at ol ⊢
   subst h63
   have mac : ∀ (n : Nat) (t : List Nat) (j : Int × Int → Option (S46 × Int)), a + n ≤ s.length → s.drop (a + n) = t →
    jn (fun (z23 : Bool) => if z23 then ((g60 k s ((a + n : Nat) : Int)).bind fun x13_2 => j (7, fW .i64 (x13_2 - (a : Int)))) else (j (0, 0))) (fun j23 => if (decide (((a + n : Nat) : Int) < (s.length : Int))) then ((nthS s ((a + n : Nat) : Int)).bind fun x12_7 => (g64 k x12_7).bind fun x12_8 => if x12_8 then (j23 true) else ((nthS s ((a + n : Nat) : Int)).bind fun x12_12 => j23 (decide (x12_12 = 95)))) else (j23 false)) = j (if macB t then (7, (mac1 n t : Int)) else (0, 0)) := by
    intro n t j hn ht
    rcases Nat.lt_or_ge (a + n) s.length with h | h
    ·obtain ⟨d, q, hd, hq, hdm, hql⟩ := dcons h
     rw [ht] at hd
     subst hd
     have nd := nthX (x := ((a + n : Nat) : Int)) rfl ht
     have lt := letter_at k (hs d hdm)
     have lb : (letN d || decide (d = 95)) = decide (begN d = 1 ∨ begN d = 2) := by
      have w := byteAll (f := fun d => (letN d || decide (d = 95)) == decide (begN d = 1 ∨ begN d = 2)) (by decide +kernel) (hs d hdm)
      exact eq_of_beq w
     refine (jS (v := decide (begN d = 1 ∨ begN d = 2)) (fun j23 => ?_)).trans ?_
     ·refine iT (dT (by omega)) ?_
      refine bS (by (try simp (disch := omega) only [fwI]); exact nd) ?_
      refine bS (by (try simp (disch := omega) only [fwI]); exact lt) ?_
      rw [← lb]
      cases letN d with
      | true => rfl
      | false =>
       refine iF rfl ?_
       refine bS (by (try simp (disch := omega) only [fwI]); exact nd) ?_
       rw [Bool.false_or]
       refine congrArg j23 ?_
       rw [Bool.eq_iff_iff]; simp; omega
     ·by_cases hb : begN d = 1 ∨ begN d = 2
      ·have mb : macB (d :: q) = true := decide_eq_true hb
       rw [decide_eq_true hb, mb]
       refine iT rfl ?_
       have ri := rinner_at (k := k) (by omega) hs hl' (a := a + n) hn
       rw [ht] at ri
       refine bS (by (try simp (disch := omega) only [fwI]); exact ri) ?_
       have il := innN_le (d :: q)
       simp only [List.length_cons] at il
       rw [fwI (by omega) (by omega)]
       simp only [mac1, if_pos hb, if_true]
       refine congrArg j (Prod.ext rfl ?_)
       show ((_ : Nat) : Int) - (a : Int) = ((_ : Nat) : Int)
       omega
      ·have mb : macB (d :: q) = false := decide_eq_false hb
       rw [decide_eq_false hb, mb]
       rfl
    ·rw [dnil h] at ht
     subst ht
     refine (jS (v := false) (fun j23 => ?_)).trans ?_
     ·refine iF (dF (by omega)) rfl
     ·rfl
   have fin : ∀ (n : Nat) (t : List Nat) (X : (Int × Int → Option (S46 × Int)) → Option (S46 × Int)), macN (s.drop a) = mac1 n t → (∀ j, X j = j (if macB t then (7, (mac1 n t : Int)) else (0, 0))) →
    jn (fun (z20 : Int × Int) => if (decide (z20.2 = 0)) then (some ((⟨(0 : Int), ([] : List Nat), (0 : Int)⟩ : S46), (4 : Int))) else ((subL s (some (a : Int)) (some (fW .i64 ((a : Int) + z20.2)))).bind fun x14_6 => some ((⟨z20.1, x14_6, (a : Int)⟩ : S46), (0 : Int)))) X = some (if (macN (s.drop a), 7).1 = 0 then (tok0, 4) else (mkTok s ((macN (s.drop a), 7).2, a, (macN (s.drop a), 7).1), 0)) := by
    intro n t X hm hX
    rw [hm] at ol ⊢
    cases h : macB t with
    | false =>
     rw [h] at hX
     have m0 : mac1 n t = 0 := by
      cases t with
      | nil => rfl
      | cons d q => simp only [mac1, if_neg (of_decide_eq_false h)]
     refine (jS hX).trans ?_
     rw [m0]; rfl
    | true =>
     rw [h] at hX
     refine (jS hX).trans ?_
     exact out _ 7 ol
   cases r with
   | nil =>
    simp only [List.length_nil] at hrl
    refine fin 1 [] _ (by rw [hc]; rfl) (fun j => ?_)
    refine iF rfl ?_
    refine bS (by (try simp (disch := omega) only [fwI]); exact bg) ?_
    refine iF rfl ?_
    refine bS (by (try simp (disch := omega) only [fwI]); exact bg) ?_
    refine iF rfl ?_
    refine iF rfl ?_
    refine iF rfl ?_
    refine iF rfl ?_
    refine iT rfl ?_
    refine (jS (v := false) (fun j => ?_)).trans ?_
    ·refine iF (dF (by rw [fw_s (by omega)]; omega)) rfl
    ·refine (jS (v := ((a + 1 : Nat) : Int)) (fun j => ?_)).trans ?_
     ·refine iF rfl ?_
      rw [fw_s (by omega)]
     ·exact mac 1 [] j (by omega) hr
   | cons d q =>
    simp only [List.length_cons] at hrl
    have nd := nthX (x := ((a + 1 : Nat) : Int)) rfl hr
    by_cases hd : d = 63
    ·refine fin 2 q _ (by rw [hc]; simp only [macN, hd, if_true]) (fun j => ?_)
     refine iF rfl ?_
     refine bS (by (try simp (disch := omega) only [fwI]); exact bg) ?_
     refine iF rfl ?_
     refine bS (by (try simp (disch := omega) only [fwI]); exact bg) ?_
     refine iF rfl ?_
     refine iF rfl ?_
     refine iF rfl ?_
     refine iF rfl ?_
     refine iT rfl ?_
     refine (jS (v := true) (fun j => ?_)).trans ?_
     ·rw [fw_s (by omega)]
      refine iT (dT (by omega)) ?_
      refine bS (by (try simp (disch := omega) only [fwI]); exact nd) ?_
      rw [dT (by omega)]
     ·refine (jS (v := ((a + 2 : Nat) : Int)) (fun j => ?_)).trans ?_
      ·refine iT rfl ?_
       rw [fw_s (by omega), fw_s (by omega)]
      ·exact mac 2 q j (by omega) (drop_step hr)
    ·refine fin 1 (d :: q) _ (by rw [hc]; simp only [macN, hd, if_false]) (fun j => ?_)
     refine iF rfl ?_
     refine bS (by (try simp (disch := omega) only [fwI]); exact bg) ?_
     refine iF rfl ?_
     refine bS (by (try simp (disch := omega) only [fwI]); exact bg) ?_
     refine iF rfl ?_
     refine iF rfl ?_
     refine iF rfl ?_
     refine iF rfl ?_
     refine iT rfl ?_
     refine (jS (v := false) (fun j => ?_)).trans ?_
     ·rw [fw_s (by omega)]
      refine iT (dT (by omega)) ?_
      refine bS (by (try simp (disch := omega) only [fwI]); exact nd) ?_
      rw [dF (by omega)]
     ·refine (jS (v := ((a + 1 : Nat) : Int)) (fun j => ?_)).trans ?_
      ·refine iF rfl ?_
       rw [fw_s (by omega)]
      ·exact mac 1 (d :: q) j (by omega) hr
  rw [if_neg h63] at eo
  by_cases h3 : begN c = 3
  ·rw [if_pos h3] at eo
   rw [eo] at ol ⊢
   refine jC fun j => ?_
   refine iF rfl ?_
   refine bS (by (try simp (disch := omega) only [fwI]); exact bg) ?_
   refine iT (dT (by omega)) ?_
   refine bS (by (try simp (disch := omega) only [fwI]); exact rnumber_at (by omega) hs hl' (a := a) (by omega)) ?_
   by_cases h0 : (numN (s.drop a)).1 = 0
   ·rw [if_pos h0]
   ·rw [if_neg h0]
  rw [if_neg h3] at eo
  by_cases h12 : begN c = 1 ∨ begN c = 2
  ·rw [if_pos h12] at eo
   rw [eo] at ol ⊢
   refine (jS (v := (((if rsvN ((s.drop a).take (innN (s.drop a))) then 8 else begN c : Nat) : Int), (innN (s.drop a) : Int))) (fun j => ?_)).trans ?_
   ·refine iF rfl ?_
    refine bS (by (try simp (disch := omega) only [fwI]); exact bg) ?_
    refine iF (dF (by omega)) ?_
    refine bS (by (try simp (disch := omega) only [fwI]); exact bg) ?_
    refine iT (dT (by omega)) ?_
    refine bS (by (try simp (disch := omega) only [fwI]); exact bg) ?_
    refine bS (by (try simp (disch := omega) only [fwI]); exact rinner_at (k := k) (by omega) hs hl' (a := a) (by omega)) ?_
    rw [fw_d (n := a + innN (s.drop a)) (m := a) (by omega) (by omega), Nat.add_sub_cancel_left, fw_a (by omega) (by omega)]
    refine bS (by (try simp (disch := omega) only [fwI]); exact subMid (s := s) (i := a) (j := a + innN (s.drop a)) rfl rfl (by omega) (by omega)) ?_
    rw [List.drop_take, Nat.add_sub_cancel_left]
    refine bS (by (try simp (disch := omega) only [fwI]); exact rreserved_at (by omega) _) ?_
    cases rsvN ((s.drop a).take (innN (s.drop a))) <;> rfl
   ·exact out _ _ il
  ·rw [if_neg h12] at eo
   rw [eo] at ol ⊢
   refine (jS (v := (((9 : Nat) : Int), (lngN (s.drop a) : Int))) (fun j => ?_)).trans ?_
   ·refine iF rfl ?_
    refine bS (by (try simp (disch := omega) only [fwI]); exact bg) ?_
    refine iF (dF (by omega)) ?_
    refine bS (by (try simp (disch := omega) only [fwI]); exact bg) ?_
    refine iF (dF (by have := begN_le c; omega)) ?_
    refine iF (dF (by omega)) ?_
    refine iF (dF (by omega)) ?_
    refine iF (dF (by omega)) ?_
    refine iF (dF (by omega)) ?_
    refine bS (by (try simp (disch := omega) only [fwI]); exact rlongest_at (k := k) (by omega) hl' (a := a) (by omega)) ?_
    rfl
   ·exact out _ 9 ol
end Go.Proofs.Ytbmijiibfaacmaa.Am
set_option maxRecDepth 100000
set_option linter.unusedVariables false
set_option linter.unusedSimpArgs false
namespace Go.Proofs.Ytbmijiibfaacmaa.Am
open Go
theorem rscan_l (k : Nat) {s : List Nat} (hk : s.length + 40 < k) (hs : By s) (hl : Sz s) (h16 : s.length ≤ 65536) : ∀ (d f a : Nat) (acc : List S46), s.length < a + d → d < f → a ≤ s.length → acc.length ≤ a → g28_l5 k s f ((a + skipN (s.drop a) : Nat) : Int) acc = some (match toksN s d a with | some l => (acc ++ l.map (mkTok s), 0) | none => ([], 4))
 | 0, f, a, acc, h, hf, ha, hacc => by omega
 | d + 1, f, a, acc, h, hf, ha, hacc => by
  have hl' := hl
  unfold Sz at hl
  obtain ⟨f, rfl⟩ : ∃ f', f = f' + 1 := ⟨f - 1, by omega⟩
  rw [g28_l5_s]
  have sl := skipN_le (s.drop a)
  rw [List.length_drop] at sl
  unfold toksN
  have hab : a ≤ a + skipN (s.drop a) := Nat.le_add_right _ _
  have hbl : a + skipN (s.drop a) ≤ s.length := by omega
  generalize a + skipN (s.drop a) = b at *
  by_cases hb : s.length ≤ b
  ·rw [if_pos hb]
   refine iF (dF (by omega)) ?_
   simp only [List.map_nil, List.append_nil]
  ·rw [if_neg hb]
   refine iT (dT (by omega)) ?_
   refine bS (by (try simp (disch := omega) only [fwI]); exact rOne_at hk hs hl' (a := b) (by omega)) ?_
   have ol := oneN_le (s.drop b)
   rw [List.length_drop] at ol
   unfold oneAt
   by_cases h0 : (oneN (s.drop b)).1 = 0
   ·rw [if_pos h0, if_pos h0]; rfl
   ·rw [if_neg h0, if_neg h0]
    refine iF rfl ?_
    have ap : appS 32 acc [mkTok s ((oneN (s.drop b)).2, b, (oneN (s.drop b)).1)] = some (acc ++ [mkTok s ((oneN (s.drop b)).2, b, (oneN (s.drop b)).1)]) := by
     unfold appS
     rw [if_pos (by simp only [List.length_cons, List.length_nil]; omega)]
    refine bS (by (try simp (disch := omega) only [fwI]); exact ap) ?_
    have tl : ((s.drop b).take (oneN (s.drop b)).1).length = (oneN (s.drop b)).1 := by
     rw [List.length_take, List.length_drop]; omega
    show (g45 k s (fW .i64 ((b : Int) + (((s.drop b).take (oneN (s.drop b)).1).length : Int)))).bind _ = _
    rw [tl, fw_a (by omega) (by omega)]
    have hpos : 0 < (oneN (s.drop b)).1 := Nat.pos_of_ne_zero h0
    refine bS (by (try simp (disch := omega) only [fwI]); exact rblank_at (by omega) hs hl' (a := b + (oneN (s.drop b)).1) (by omega)) ?_
    refine (rscan_l k hk hs hl' h16 d f (b + (oneN (s.drop b)).1) _ (by omega) (by omega) (by omega) (by rw [List.length_append]; simp only [List.length_cons, List.length_nil]; omega)).trans ?_
    cases toksN s d (b + (oneN (s.drop b)).1) with
    | none => rfl
    | some l => simp only [Option.map_some, List.map_cons, List.append_assoc, List.singleton_append]
theorem rscan_at {k : Nat} {s : List Nat} (hk : s.length + 40 < k) (hs : By s) (hl : Sz s) : g28 k s = some (scanN s) := by
 have hl' := hl
 unfold Sz at hl
 unfold g28 scanN
 by_cases h16 : 65536 < s.length
 ·rw [if_pos h16]
  refine iT (dT (by omega)) rfl
 ·rw [if_neg h16]
  refine iF (dF (by omega)) ?_
  refine bS (by (try simp (disch := omega) only [fwI]); exact valid_at44 (by omega) hs hl') ?_
  cases hv : vld s.length s with
  | false => rfl
  | true =>
   refine iF rfl ?_
   have rb := rblank_at (k := k) (by omega) hs hl' (a := 0) (by omega)
   refine bS (by (try simp (disch := omega) only [fwI]); exact rb) ?_
   refine (rscan_l k hk hs hl' (by omega) (s.length + 1) k 0 [] (by omega) (by omega) (by omega) (Nat.le_refl _)).trans ?_
   simp only [Bool.true_eq_false, if_false]
   cases toksN s (s.length + 1) 0 <;> rfl
end Go.Proofs.Ytbmijiibfaacmaa.Am
set_option maxRecDepth 100000
set_option linter.unusedVariables false
namespace Go.Proofs.Ytbmijiibfaacmaa.Am
noncomputable section
open Go
def X38 : Fx Int := ⟨Try.prog, cx, Try.f38, fun r => .int .i64 r, 0, fun _ => H0, cxTi, cxOrd⟩
def g38 (k : Nat) (a0 : S46) : Option Int :=
 some (fW .i64 (a0.f2 + (a0.f1.length : Int)))
theorem g38_ok (k : Nat) (a0 : S46) (r : Int) (h : g38 k a0 = some r) : PureOk Try.prog 38 [.agg [.int .i64 a0.f0, .str a0.f1, .int .i64 a0.f2]] (.int .i64 r) := by
 refine pure_of X38 (fun _ => rfl) Try.func38 (by decide +kernel) (by kernel_rfl) (t := g38 k a0) ?_ h
 unfold g38
 refine oE (eE := [(0, .agg [.int .i64 a0.f0, .str a0.f1, .int .i64 a0.f2])]) (by kernel_rfl) ?_
 let E1 : Env := [(2, .int .i64 (fW .i64 (a0.f2 + (a0.f1.length : Int)))), (8, .int .i64 (fW .i64 (a0.f2 + (a0.f1.length : Int)))), (7, .int .i64 (a0.f1.length : Int)), (6, .str a0.f1), (5, .ptr 0 3 1), (4, .int .i64 a0.f2), (3, .ptr 0 3 2), (2, .int .i64 0), (1, .ptr 0 3 0), (0, .agg [.int .i64 a0.f0, .str a0.f1, .int .i64 a0.f2])]
 refine oR 16 (p' := .fin) (eE := E1) (H' := (mkH [⟨[.int .i64 a0.f0, .str a0.f1, .int .i64 a0.f2], 0, false⟩])) (by kernel_rfl) ?_
 exact oT (r := (fW .i64 (a0.f2 + (a0.f1.length : Int)))) (xs := [.int .i64 (fW .i64 (a0.f2 + (a0.f1.length : Int)))]) (v := .int .i64 (fW .i64 (a0.f2 + (a0.f1.length : Int)))) (by kernel_rfl) (by kernel_rfl) (by kernel_rfl) (.pures (by kernel_rfl)) (by kernel_rfl)
end
end Go.Proofs.Ytbmijiibfaacmaa.Am
set_option maxRecDepth 100000
set_option linter.unusedVariables false
namespace Go.Proofs.Ytbmijiibfaacmaa.Am
noncomputable section
open Go
def X66 : Fx Bool := ⟨Try.prog, cx, Try.f66, fun r => .bool r, 0, fun _ => H0, cxTi, cxOrd⟩
def g66p0 : Pt := nav [0] (bodyAt Try.f66)
def g66p1 : Pt := nav [0, 0, 0] g66p0
def g66 (k : Nat) (a0 : (List Nat)) (a1 : S46) : Option Bool :=
 if (decide (0 ≤ a1.f2)) then (if (decide (a1.f2 ≤ (a0.length : Int))) then (some (decide ((a1.f1.length : Int) ≤ fW .i64 ((a0.length : Int) - a1.f2)))) else (some false)) else (some false)
theorem g66_ok (k : Nat) (a0 : (List Nat)) (a1 : S46) (r : Bool) (h : g66 k a0 a1 = some r) : PureOk Try.prog 66 [.str a0, .agg [.int .i64 a1.f0, .str a1.f1, .int .i64 a1.f2]] (.bool r) := by
 refine pure_of X66 (fun _ => rfl) Try.func66 (by decide +kernel) (by kernel_rfl) (t := g66 k a0 a1) ?_ h
 unfold g66
 refine oE (eE := [(0, .str a0), (1, .agg [.int .i64 a1.f0, .str a1.f1, .int .i64 a1.f2])]) (by kernel_rfl) ?_
 let E1 : Env := [(8, .bool (decide (0 ≤ a1.f2))), (7, .bool (decide (0 ≤ a1.f2))), (6, .int .i64 a1.f2), (5, .ptr 0 3 2), (4, .bool false), (3, .ptr 0 3 0), (0, .str a0), (1, .agg [.int .i64 a1.f0, .str a1.f1, .int .i64 a1.f2])]
 refine oR 11 (p' := (atN 4 (ctl1 g66p1))) (eE := E1) (H' := (mkH [⟨[.int .i64 a1.f0, .str a1.f1, .int .i64 a1.f2], 0, false⟩])) (by kernel_rfl) ?_
 refine oS 8 (b := decide (0 ≤ a1.f2)) (by kernel_rfl) (fun hb => ?_) (fun hb => ?_)
 ·let E2 : Env := ((15, .bool (decide (a1.f2 ≤ (a0.length : Int)))) :: (14, .bool (decide (a1.f2 ≤ (a0.length : Int)))) :: (13, .bool (decide (a1.f2 ≤ (a0.length : Int)))) :: (12, .int .i64 (a0.length : Int)) :: (11, .str a0) :: (10, .int .i64 a1.f2) :: (9, .ptr 0 3 2) :: (8, .bool true) :: E1)
  refine oR 7 (p' := (atN 11 (ctl1 g66p1))) (eE := E2) (H' := (mkH [⟨[.int .i64 a1.f0, .str a1.f1, .int .i64 a1.f2], 0, false⟩])) (by kernel_rfl) ?_
  refine oS 15 (b := decide (a1.f2 ≤ (a0.length : Int))) (by kernel_rfl) (fun hb => ?_) (fun hb => ?_)
  ·let E3 : Env := ((4, .bool (decide ((a1.f1.length : Int) ≤ fW .i64 ((a0.length : Int) - a1.f2)))) :: (25, .bool (decide ((a1.f1.length : Int) ≤ fW .i64 ((a0.length : Int) - a1.f2)))) :: (24, .bool (decide ((a1.f1.length : Int) ≤ fW .i64 ((a0.length : Int) - a1.f2)))) :: (23, .int .i64 (fW .i64 ((a0.length : Int) - a1.f2))) :: (22, .int .i64 a1.f2) :: (21, .ptr 0 3 2) :: (20, .int .i64 (a0.length : Int)) :: (19, .str a0) :: (18, .int .i64 (a1.f1.length : Int)) :: (17, .str a1.f1) :: (16, .ptr 0 3 1) :: (15, .bool true) :: E2)
   refine oR 13 (p' := .fin) (eE := E3) (H' := (mkH [⟨[.int .i64 a1.f0, .str a1.f1, .int .i64 a1.f2], 0, false⟩])) (by kernel_rfl) ?_
   exact oT (r := (decide ((a1.f1.length : Int) ≤ fW .i64 ((a0.length : Int) - a1.f2)))) (xs := [.bool (decide ((a1.f1.length : Int) ≤ fW .i64 ((a0.length : Int) - a1.f2)))]) (v := .bool (decide ((a1.f1.length : Int) ≤ fW .i64 ((a0.length : Int) - a1.f2)))) (by kernel_rfl) (by kernel_rfl) (by kernel_rfl) (.pures (by kernel_rfl)) (by kernel_rfl)
  ·let E4 : Env := ((4, .bool false) :: (25, .bool false) :: (24, .tuple []) :: (23, .tuple []) :: (22, .tuple []) :: (21, .tuple []) :: (20, .tuple []) :: (19, .tuple []) :: (18, .tuple []) :: (17, .tuple []) :: (16, .tuple []) :: (15, .bool false) :: E2)
   refine oR 13 (p' := .fin) (eE := E4) (H' := (mkH [⟨[.int .i64 a1.f0, .str a1.f1, .int .i64 a1.f2], 0, false⟩])) (by kernel_rfl) ?_
   exact oT (r := false) (xs := [.bool false]) (v := .bool false) (by kernel_rfl) (by kernel_rfl) (by kernel_rfl) (.pures (by kernel_rfl)) (by kernel_rfl)
 ·let E5 : Env := ((4, .bool false) :: (25, .bool false) :: (24, .tuple []) :: (23, .tuple []) :: (22, .tuple []) :: (21, .tuple []) :: (20, .tuple []) :: (19, .tuple []) :: (18, .tuple []) :: (17, .tuple []) :: (16, .tuple []) :: (15, .bool false) :: (14, .bool false) :: (13, .tuple []) :: (12, .tuple []) :: (11, .tuple []) :: (10, .tuple []) :: (9, .tuple []) :: (8, .bool false) :: E1)
  refine oR 20 (p' := .fin) (eE := E5) (H' := (mkH [⟨[.int .i64 a1.f0, .str a1.f1, .int .i64 a1.f2], 0, false⟩])) (by kernel_rfl) ?_
  exact oT (r := false) (xs := [.bool false]) (v := .bool false) (by kernel_rfl) (by kernel_rfl) (by kernel_rfl) (.pures (by kernel_rfl)) (by kernel_rfl)
end
end Go.Proofs.Ytbmijiibfaacmaa.Am
set_option maxRecDepth 100000
set_option linter.unusedVariables false
namespace Go.Proofs.Ytbmijiibfaacmaa.Am
noncomputable section
open Go
def X49 : Fx Int := ⟨Try.prog, cx, Try.f49, fun r => .int .i64 r, 0, fun _ => H0, cxTi, cxOrd⟩
def X49f67_0 (a_0 : Int) (b_1 : Int) : Fx Int := ⟨Try.prog, cx, Try.f67, fun r => .tuple [], 1, fun r => (mkH [⟨[.int .i64 r], 1, false⟩]), cxTi, cxOrd⟩
def g49f67_0p0 : Pt := nav [0] (bodyAt Try.f67)
def g49f67_0p1 : Pt := nav [0, 0] g49f67_0p0
def g49f67_0 (k : Nat) (a_0 : Int) (b_1 : Int) : Option Int :=
 if (decide (a_0 = 10)) then (some (fW .i64 (b_1 + 1))) else (some b_1)
theorem g49f67_0_ok (k : Nat) (a_0 : Int) (b_1 : Int) (r : Int) (h : g49f67_0 k a_0 b_1 = some r) : CallV Try.prog 67 [.int .u8 a_0, .ptr 0 1 0] (mkH [⟨[.int .i64 b_1], 1, false⟩]) (.tuple []) (mkH [⟨[.int .i64 r], 1, false⟩]) := by
 refine callM_of (X49f67_0 a_0 b_1) Try.func67 (by kernel_rfl) (by kernel_rfl) rfl (t := g49f67_0 k a_0 b_1) ?_ h
 unfold g49f67_0
 refine oE (eE := [(0, .int .u8 a_0), (1, .ptr 0 1 0)]) (by kernel_rfl) ?_
 refine oR 5 (p' := g49f67_0p1) (eE := [(4, .bool (decide (a_0 = 10))), (3, .int .u8 a_0), (0, .int .u8 a_0), (1, .ptr 0 1 0)]) (H' := (mkH [⟨[.int .i64 b_1], 1, false⟩])) (by kernel_rfl) ?_
 refine oS 4 (b := decide (a_0 = 10)) (by kernel_rfl) (fun hb => ?_) (fun hb => ?_)
 ·let E1 : Env := [(6, .int .i64 (fW .i64 (b_1 + 1))), (5, .int .i64 b_1), (4, .bool true), (4, .bool (decide (a_0 = 10))), (3, .int .u8 a_0), (0, .int .u8 a_0), (1, .ptr 0 1 0)]
  refine oR 6 (p' := .fin) (eE := E1) (H' := (mkH [⟨[.int .i64 (fW .i64 (b_1 + 1))], 1, false⟩])) (by kernel_rfl) ?_
  refine oK [] (eE := []) (by kernel_rfl) ?_
  exact ok_retM (r := (fW .i64 (b_1 + 1))) (xs := []) (by kernel_rfl) (by kernel_rfl) (by kernel_rfl) (by kernel_rfl)
 ·let E2 : Env := [(4, .bool false), (4, .bool (decide (a_0 = 10))), (3, .int .u8 a_0), (0, .int .u8 a_0), (1, .ptr 0 1 0)]
  refine oR 2 (p' := .fin) (eE := E2) (H' := (mkH [⟨[.int .i64 b_1], 1, false⟩])) (by kernel_rfl) ?_
  refine oK [] (eE := []) (by kernel_rfl) ?_
  exact ok_retM (r := b_1) (xs := []) (by kernel_rfl) (by kernel_rfl) (by kernel_rfl) (by kernel_rfl)
def g49p0 : Pt := nav [0] (bodyAt Try.f49)
def g49p1 : Pt := nav [0, 0, 0, 0] g49p0
def g49p2 : Pt := nav [0] g49p1
def g49p4 : Pt := nav [2, 0, 0] g49p2
def g49p6 : Pt := nav [0, 0, 0] g49p4
def g49p7 : Pt := nav [0, 0, 0, 0] g49p6
def g49p8 : Pt := nav [0, 0, 0, 0] g49p7
def g49p9 : Pt := nav [0, 0, 0] g49p8
def g49p10 : Pt := nav [0, 0] g49p9
def g49p11 : Pt := nav [1, 0, 0, 0] g49p10
def g49p13 : Pt := nav [0, 0] g49p11
def g49_l5 (k : Nat)  (a0 : (List Nat)) (a1 : (List S46)) (a2 : Int) (n : Nat) : Int → Int → Option Int :=
 Nat.rec (motive := fun _ => Int → Int → Option Int) (fun _ _ => none) (fun _ ih => fun (y5_0 : Int) (y5_1 : Int) => (nthL a1 a2).bind fun x2_3 => if (decide (y5_0 < x2_3.f2)) then ((nthS a0 y5_0).bind fun x3_3 => (g49f67_0 k x3_3 y5_1).bind fun x3_4 => ih (fW .i64 (y5_0 + 1)) x3_4) else (some y5_1)) n
theorem g49_l5_s (k : Nat)  (a0 : (List Nat)) (a1 : (List S46)) (a2 : Int) (n : Nat) (y5_0 : Int) (y5_1 : Int) : g49_l5 k a0 a1 a2 (n + 1) y5_0 y5_1 = ((nthL a1 a2).bind fun x2_3 => if (decide (y5_0 < x2_3.f2)) then ((nthS a0 y5_0).bind fun x3_3 => (g49f67_0 k x3_3 y5_1).bind fun x3_4 => (g49_l5 k a0 a1 a2 n) (fW .i64 (y5_0 + 1)) x3_4) else (some y5_1)) := rfl
theorem g49_l5_ok (k : Nat)  (a0 : (List Nat)) (a1 : (List S46)) (a2 : Int)  : ∀ (n : Nat) (y5_0 : Int) (y5_1 : Int), Ok X49 g49p8 [(0, .str a0), (1, .vec (a1).length 3 ((a1).flatMap e47)), (2, .int .i64 a2), (7, .ptr 0 1 0), (8, .func 67 [] [.ptr 0 1 0]), (9, .int .i64 y5_0)] (mkH [⟨[.int .i64 y5_1], 1, false⟩]) (g49_l5 k a0 a1 a2 n y5_0 y5_1)
 | 0, _, _ => ok_none
 | n + 1, y5_0, y5_1 => by
  have ih := g49_l5_ok k a0 a1 a2 n
  rw [g49_l5_s]
  refine ok_ent (p' := nav [0] g49p8) (by kernel_rfl) ?_
  let E3 : Env := [(60, .int .i64 a2), (59, .vec (a1).length 3 ((a1).flatMap e47)), (58, .int .i64 y5_0), (0, .str a0), (1, .vec (a1).length 3 ((a1).flatMap e47)), (2, .int .i64 a2), (7, .ptr 0 1 0), (8, .func 67 [] [.ptr 0 1 0]), (9, .int .i64 y5_0)]
  refine oR 6 (p' := (atN 3 (ctl1 g49p9))) (eE := E3) (H' := (mkH [⟨[.int .i64 y5_1], 1, false⟩])) (by kernel_rfl) ?_
  refine oH (fun (x2_3 : S46) => (.vptr [.int .i64 x2_3.f0, .str x2_3.f1, .int .i64 x2_3.f2], (mkH [⟨[.int .i64 y5_1], 1, false⟩]))) (atN 4 (ctl1 g49p9)) (fun x2_3 => ((61, .vptr [.int .i64 x2_3.f0, .str x2_3.f1, .int .i64 x2_3.f2]) :: E3)) (vidxH (sz := 3) e47_len (by kernel_rfl)) (fun _ => by kernel_rfl) (fun x2_3 hx2_3 => ?_)
  refine oR 4 (p' := g49p10) (eE := ((64, .bool (decide (y5_0 < x2_3.f2))) :: (63, .int .i64 x2_3.f2) :: (62, .vptr [.int .i64 x2_3.f2]) :: (61, .vptr [.int .i64 x2_3.f0, .str x2_3.f1, .int .i64 x2_3.f2]) :: E3)) (H' := (mkH [⟨[.int .i64 y5_1], 1, false⟩])) (by kernel_rfl) ?_
  refine oS 64 (b := decide (y5_0 < x2_3.f2)) (by kernel_rfl) (fun hb => ?_) (fun hb => ?_)
  ·let E4 : Env := ((69, .int .i64 y5_0) :: (68, .str a0) :: (67, .func 67 [] [.ptr 0 1 0]) :: (64, .bool true) :: (64, .bool (decide (y5_0 < x2_3.f2))) :: (63, .int .i64 x2_3.f2) :: (62, .vptr [.int .i64 x2_3.f2]) :: (61, .vptr [.int .i64 x2_3.f0, .str x2_3.f1, .int .i64 x2_3.f2]) :: E3)
   refine oR 8 (p' := (atN 3 (ctl1 g49p11))) (eE := E4) (H' := (mkH [⟨[.int .i64 y5_1], 1, false⟩])) (by kernel_rfl) ?_
   refine oH (fun (x3_3 : Int) => (.int .u8 x3_3, (mkH [⟨[.int .i64 y5_1], 1, false⟩]))) (atN 4 (ctl1 g49p11)) (fun x3_3 => ((70, .int .u8 x3_3) :: E4)) (idxH (by kernel_rfl)) (fun _ => by kernel_rfl) (fun x3_3 hx3_3 => ?_)
   refine ok_callM (fun (x3_4 : Int) => .tuple []) (fun (x3_4 : Int) => (mkH [⟨[.int .i64 x3_4], 1, false⟩])) (atN 5 (ctl1 g49p11)) (fun x3_4 => ((71, .tuple []) :: (70, .int .u8 x3_3) :: E4)) (fi := 67) (args := [.int .u8 x3_3, .ptr 0 1 0]) (by kernel_rfl) (fun r h => g49f67_0_ok k x3_3 y5_1 r h) (fun _ => by kernel_rfl) (fun x3_4 hx3_4 => ?_)
   refine oR 1 (p' := g49p13) (eE := ((71, .tuple []) :: (70, .int .u8 x3_3) :: E4)) (H' := (mkH [⟨[.int .i64 x3_4], 1, false⟩])) (by kernel_rfl) ?_
   refine oK [0, 1, 2, 7, 8, 9] (eE := [(0, .str a0), (1, .vec (a1).length 3 ((a1).flatMap e47)), (2, .int .i64 a2), (7, .ptr 0 1 0), (8, .func 67 [] [.ptr 0 1 0]), (9, .int .i64 y5_0)]) (by kernel_rfl) ?_
   let E5 : Env := [(9, .int .i64 (fW .i64 (y5_0 + 1))), (66, .int .i64 (fW .i64 (y5_0 + 1))), (65, .int .i64 y5_0), (0, .str a0), (1, .vec (a1).length 3 ((a1).flatMap e47)), (2, .int .i64 a2), (7, .ptr 0 1 0), (8, .func 67 [] [.ptr 0 1 0]), (9, .int .i64 y5_0)]
   refine oR 5 (p' := g49p8) (eE := E5) (H' := (mkH [⟨[.int .i64 x3_4], 1, false⟩])) (by kernel_rfl) ?_
   refine oK [0, 1, 2, 7, 8, 9] (eE := [(0, .str a0), (1, .vec (a1).length 3 ((a1).flatMap e47)), (2, .int .i64 a2), (7, .ptr 0 1 0), (8, .func 67 [] [.ptr 0 1 0]), (9, .int .i64 (fW .i64 (y5_0 + 1)))]) (by kernel_rfl) ?_
   exact ih (fW .i64 (y5_0 + 1)) x3_4
  ·let E6 : Env := ((6, .int .i64 y5_1) :: (72, .int .i64 y5_1) :: (64, .bool false) :: (64, .bool (decide (y5_0 < x2_3.f2))) :: (63, .int .i64 x2_3.f2) :: (62, .vptr [.int .i64 x2_3.f2]) :: (61, .vptr [.int .i64 x2_3.f0, .str x2_3.f1, .int .i64 x2_3.f2]) :: E3)
   refine oR 8 (p' := .fin) (eE := E6) (H' := (mkH [⟨[.int .i64 y5_1], 1, false⟩])) (by kernel_rfl) ?_
   exact oT (r := y5_1) (xs := [.int .i64 y5_1]) (v := .int .i64 y5_1) (by kernel_rfl) (by kernel_rfl) (by kernel_rfl) (.pures (by kernel_rfl)) (by kernel_rfl)
def g49 (k : Nat) (a0 : (List Nat)) (a1 : (List S46)) (a2 : Int) : Option Int :=
 jn (fun (z4 : Bool) => if z4 then (some (0 : Int)) else ((nthL a1 (fW .i64 (a2 - 1))).bind fun x1_3 => (g38 k (⟨x1_3.f0, x1_3.f1, x1_3.f2⟩ : S46)).bind fun x1_5 => g49_l5 k a0 a1 a2 k x1_5 0)) (fun j4 => if (decide (a2 < 1)) then (j4 true) else (if (decide ((a1.length : Int) ≤ a2)) then (j4 true) else ((nthL a1 (fW .i64 (a2 - 1))).bind fun x0_13 => (g66 k a0 (⟨x0_13.f0, x0_13.f1, x0_13.f2⟩ : S46)).bind fun x0_15 => if (!x0_15) then (j4 true) else ((nthL a1 a2).bind fun x0_22 => (g66 k a0 (⟨x0_22.f0, x0_22.f1, x0_22.f2⟩ : S46)).bind fun x0_24 => if (!x0_24) then (j4 true) else ((nthL a1 (fW .i64 (a2 - 1))).bind fun x0_31 => (g38 k (⟨x0_31.f0, x0_31.f1, x0_31.f2⟩ : S46)).bind fun x0_33 => (nthL a1 a2).bind fun x0_36 => j4 (decide (x0_36.f2 < x0_33)))))))
theorem g49_ok (k : Nat) (a0 : (List Nat)) (a1 : (List S46)) (a2 : Int) (r : Int) (h : g49 k a0 a1 a2 = some r) : PureOk Try.prog 49 [.str a0, .vec (a1).length 3 ((a1).flatMap e47), .int .i64 a2] (.int .i64 r) := by
 refine pure_of X49 (fun _ => rfl) Try.func49 (by decide +kernel) (by kernel_rfl) (t := g49 k a0 a1 a2) ?_ h
 unfold g49
 refine oE (eE := [(0, .str a0), (1, .vec (a1).length 3 ((a1).flatMap e47)), (2, .int .i64 a2)]) (by kernel_rfl) ?_
 refine oR 6 (p' := g49p1) (eE := [(6, .int .i64 0), (0, .str a0), (1, .vec (a1).length 3 ((a1).flatMap e47)), (2, .int .i64 a2)]) (H' := (mkH [])) (by kernel_rfl) ?_
 refine oJ (f := fun (z4 : Bool) => if z4 then (some (0 : Int)) else ((nthL a1 (fW .i64 (a2 - 1))).bind fun x1_3 => (g38 k (⟨x1_3.f0, x1_3.f1, x1_3.f2⟩ : S46)).bind fun x1_5 => g49_l5 k a0 a1 a2 k x1_5 0)) g49p2 (fun (z4 : Bool) => [(0, .str a0), (1, .vec (a1).length 3 ((a1).flatMap e47)), (2, .int .i64 a2), (50, .bool z4)]) (fun (z4 : Bool) => (mkH [])) (fun z4 => ?_) (fun j4 hj4 => ?_)
 ·refine oS 50 (b := z4) (by kernel_rfl) (fun hb => ?_) (fun hb => ?_)
  ·let E1 : Env := [(6, .int .i64 0), (50, .bool true), (0, .str a0), (1, .vec (a1).length 3 ((a1).flatMap e47)), (2, .int .i64 a2), (50, .bool z4)]
   refine oR 6 (p' := .fin) (eE := E1) (H' := (mkH [])) (by kernel_rfl) ?_
   exact oT (r := (0 : Int)) (xs := [.int .i64 0]) (v := .int .i64 0) (by kernel_rfl) (by kernel_rfl) (by kernel_rfl) (.pures (by kernel_rfl)) (by kernel_rfl)
  ·let E2 : Env := [(54, .int .i64 (fW .i64 (a2 - 1))), (53, .int .i64 a2), (52, .vec (a1).length 3 ((a1).flatMap e47)), (8, .func 67 [] [.ptr 0 1 0]), (51, .func 67 [] [.ptr 0 1 0]), (7, .ptr 0 1 0), (50, .bool false), (0, .str a0), (1, .vec (a1).length 3 ((a1).flatMap e47)), (2, .int .i64 a2), (50, .bool z4)]
   refine oR 18 (p' := (atN 3 (ctl1 g49p7))) (eE := E2) (H' := (mkH [⟨[.int .i64 0], 1, false⟩])) (by kernel_rfl) ?_
   refine oH (fun (x1_3 : S46) => (.vptr [.int .i64 x1_3.f0, .str x1_3.f1, .int .i64 x1_3.f2], (mkH [⟨[.int .i64 0], 1, false⟩]))) (atN 4 (ctl1 g49p7)) (fun x1_3 => ((55, .vptr [.int .i64 x1_3.f0, .str x1_3.f1, .int .i64 x1_3.f2]) :: E2)) (vidxH (sz := 3) e47_len (by kernel_rfl)) (fun _ => by kernel_rfl) (fun x1_3 hx1_3 => ?_)
   refine oR 1 (p' := (atN 5 (ctl1 g49p7))) (eE := ((56, .agg [.int .i64 x1_3.f0, .str x1_3.f1, .int .i64 x1_3.f2]) :: (55, .vptr [.int .i64 x1_3.f0, .str x1_3.f1, .int .i64 x1_3.f2]) :: E2)) (H' := (mkH [⟨[.int .i64 0], 1, false⟩])) (by kernel_rfl) ?_
   refine oC (fun (x1_5 : Int) => .int .i64 x1_5) (atN 6 (ctl1 g49p7)) (fun x1_5 => ((57, .int .i64 x1_5) :: (56, .agg [.int .i64 x1_3.f0, .str x1_3.f1, .int .i64 x1_3.f2]) :: (55, .vptr [.int .i64 x1_3.f0, .str x1_3.f1, .int .i64 x1_3.f2]) :: E2)) (fi := 38) (args := [.agg [.int .i64 x1_3.f0, .str x1_3.f1, .int .i64 x1_3.f2]]) (by kernel_rfl) (by kernel_rfl) (fun _ => by kernel_rfl) (fun r h => g38_ok k (⟨x1_3.f0, x1_3.f1, x1_3.f2⟩ : S46) r h) (fun _ => by kernel_rfl) (fun x1_5 hx1_5 => ?_)
   refine oR 4 (p' := g49p8) (eE := ((9, .int .i64 x1_5) :: (57, .int .i64 x1_5) :: (56, .agg [.int .i64 x1_3.f0, .str x1_3.f1, .int .i64 x1_3.f2]) :: (55, .vptr [.int .i64 x1_3.f0, .str x1_3.f1, .int .i64 x1_3.f2]) :: E2)) (H' := (mkH [⟨[.int .i64 0], 1, false⟩])) (by kernel_rfl) ?_
   refine oK [0, 1, 2, 7, 8, 9] (eE := [(0, .str a0), (1, .vec (a1).length 3 ((a1).flatMap e47)), (2, .int .i64 a2), (7, .ptr 0 1 0), (8, .func 67 [] [.ptr 0 1 0]), (9, .int .i64 x1_5)]) (by kernel_rfl) ?_
   exact (g49_l5_ok k a0 a1 a2 k) x1_5 0
 ·refine ok_if (fun hb4 => ?_) (fun hb4 => ?_)
  ·let E7 : Env := [(12, .bool (decide (a2 < 1))), (11, .bool (decide (a2 < 1))), (10, .int .i64 a2), (6, .int .i64 0), (0, .str a0), (1, .vec (a1).length 3 ((a1).flatMap e47)), (2, .int .i64 a2)]
   let E8 : Env := [(50, .bool true), (49, .tuple []), (48, .tuple []), (47, .tuple []), (46, .tuple []), (45, .tuple []), (44, .tuple []), (43, .tuple []), (42, .tuple []), (41, .tuple []), (40, .tuple []), (39, .tuple []), (38, .tuple []), (37, .bool true), (36, .bool true), (35, .tuple []), (34, .tuple []), (33, .tuple []), (32, .tuple []), (31, .tuple []), (30, .tuple []), (29, .tuple []), (28, .bool true), (27, .bool true), (26, .tuple []), (25, .tuple []), (24, .tuple []), (23, .tuple []), (22, .tuple []), (21, .tuple []), (20, .tuple []), (19, .tuple []), (18, .bool true), (17, .bool true), (16, .tuple []), (15, .tuple []), (14, .tuple []), (13, .tuple []), (12, .bool true), (11, .bool true), (10, .int .i64 a2), (6, .int .i64 0), (0, .str a0), (1, .vec (a1).length 3 ((a1).flatMap e47)), (2, .int .i64 a2)]
   refine ok_draw (p' := nav [0] g49p1) (eE := E8) (H' := (mkH [])) (hs := [(mkH []), (mkH []), (mkH [])]) [(0, 0, 0), (1, 0, 0), (3, 0, 0), (7, 0, 0), (7, 0, 0), (23, 0, 0), (63, 0, 0), (127, 0, 0), (255, 0, 0), (511, 0, 0), (511, 0, 0), (511, 0, 0), (2559, 0, 0), (7679, 0, 0), (15871, 0, 0), (32767, 0, 0), (65535, 0, 0), (131071, 0, 0), (262143, 0, 0), (524287, 0, 0), (524287, 0, 0), (524287, 0, 0), (3670015, 0, 0), (7864319, 1, 1), (16777215, 0, 0), (33554431, 0, 0), (67108863, 0, 0), (134217727, 0, 0), (268435455, 0, 0), (268435455, 0, 0), (805306367, 0, 0), (2147483647, 0, 0), (4294967295, 2, 2), (8589934591, 0, 0), (268435455, 0, 0), (268435455, 0, 0), (51808043007, 0, 0), (120527519743, 0, 0), (257966473215, 2, 3), (549755813887, 0, 0), (1099511627775, 0, 0)] (by kernel_rfl) (by kernel_rfl) (by kernel_rfl) (opsD_run 3 (l' := (opsAt g49p1).toList.drop 3) (eE := E7) (H' := (mkH [])) (hs := []) (by kernel_rfl) (opsD_env (eE := [(12, .bool true), (11, .bool true), (10, .int .i64 a2), (6, .int .i64 0), (0, .str a0), (1, .vec (a1).length 3 ((a1).flatMap e47)), (2, .int .i64 a2)]) (congrArg (fun z : Bool => ([(12, .bool z), (11, .bool z), (10, .int .i64 a2), (6, .int .i64 0), (0, .str a0), (1, .vec (a1).length 3 ((a1).flatMap e47)), (2, .int .i64 a2)] : Env)) hb4) (opsD_run 38 (l' := (opsAt g49p1).toList.drop 41) (eE := E8) (H' := (mkH [])) (hs := [(mkH []), (mkH []), (mkH [])]) (by kernel_rfl) (.nil)))) (by kernel_rfl) (by kernel_rfl) (by kernel_rfl) ?_
   refine oK [0, 1, 2, 50] (eE := [(0, .str a0), (1, .vec (a1).length 3 ((a1).flatMap e47)), (2, .int .i64 a2), (50, .bool true)]) (by kernel_rfl) ?_
   exact hj4 true
  ·refine ok_if (fun hb5 => ?_) (fun hb5 => ?_)
   ·let E7 : Env := [(12, .bool (decide (a2 < 1))), (11, .bool (decide (a2 < 1))), (10, .int .i64 a2), (6, .int .i64 0), (0, .str a0), (1, .vec (a1).length 3 ((a1).flatMap e47)), (2, .int .i64 a2)]
    let E9 : Env := [(18, .bool (decide ((a1.length : Int) ≤ a2))), (17, .bool (decide ((a1.length : Int) ≤ a2))), (16, .bool (decide ((a1.length : Int) ≤ a2))), (15, .int .i64 (a1.length : Int)), (14, .vec (a1).length 3 ((a1).flatMap e47)), (13, .int .i64 a2), (12, .bool false), (11, .bool false), (10, .int .i64 a2), (6, .int .i64 0), (0, .str a0), (1, .vec (a1).length 3 ((a1).flatMap e47)), (2, .int .i64 a2)]
    let E10 : Env := [(50, .bool true), (49, .tuple []), (48, .tuple []), (47, .tuple []), (46, .tuple []), (45, .tuple []), (44, .tuple []), (43, .tuple []), (42, .tuple []), (41, .tuple []), (40, .tuple []), (39, .tuple []), (38, .tuple []), (37, .bool true), (36, .bool true), (35, .tuple []), (34, .tuple []), (33, .tuple []), (32, .tuple []), (31, .tuple []), (30, .tuple []), (29, .tuple []), (28, .bool true), (27, .bool true), (26, .tuple []), (25, .tuple []), (24, .tuple []), (23, .tuple []), (22, .tuple []), (21, .tuple []), (20, .tuple []), (19, .tuple []), (18, .bool true), (17, .bool true), (16, .bool true), (15, .int .i64 (a1.length : Int)), (14, .vec (a1).length 3 ((a1).flatMap e47)), (13, .int .i64 a2), (12, .bool false), (11, .bool false), (10, .int .i64 a2), (6, .int .i64 0), (0, .str a0), (1, .vec (a1).length 3 ((a1).flatMap e47)), (2, .int .i64 a2)]
    refine ok_draw (p' := nav [0] g49p1) (eE := E10) (H' := (mkH [])) (hs := [(mkH []), (mkH []), (mkH [])]) [(0, 0, 0), (1, 0, 0), (3, 0, 0), (7, 0, 0), (7, 0, 0), (23, 0, 0), (63, 0, 0), (127, 0, 0), (255, 0, 0), (511, 0, 0), (511, 0, 0), (511, 0, 0), (2559, 0, 0), (7679, 0, 0), (15871, 0, 0), (32767, 0, 0), (65535, 0, 0), (131071, 0, 0), (262143, 0, 0), (524287, 0, 0), (524287, 0, 0), (524287, 0, 0), (3670015, 0, 0), (7864319, 1, 1), (16777215, 0, 0), (33554431, 0, 0), (67108863, 0, 0), (134217727, 0, 0), (268435455, 0, 0), (268435455, 0, 0), (805306367, 0, 0), (2147483647, 0, 0), (4294967295, 2, 2), (8589934591, 0, 0), (268435455, 0, 0), (268435455, 0, 0), (51808043007, 0, 0), (120527519743, 0, 0), (257966473215, 2, 3), (549755813887, 0, 0), (1099511627775, 0, 0)] (by kernel_rfl) (by kernel_rfl) (by kernel_rfl) (opsD_run 3 (l' := (opsAt g49p1).toList.drop 3) (eE := E7) (H' := (mkH [])) (hs := []) (by kernel_rfl) (opsD_env (eE := [(12, .bool false), (11, .bool false), (10, .int .i64 a2), (6, .int .i64 0), (0, .str a0), (1, .vec (a1).length 3 ((a1).flatMap e47)), (2, .int .i64 a2)]) (congrArg (fun z : Bool => ([(12, .bool z), (11, .bool z), (10, .int .i64 a2), (6, .int .i64 0), (0, .str a0), (1, .vec (a1).length 3 ((a1).flatMap e47)), (2, .int .i64 a2)] : Env)) hb4) (opsD_run 6 (l' := (opsAt g49p1).toList.drop 9) (eE := E9) (H' := (mkH [])) (hs := []) (by kernel_rfl) (opsD_env (eE := [(18, .bool true), (17, .bool true), (16, .bool true), (15, .int .i64 (a1.length : Int)), (14, .vec (a1).length 3 ((a1).flatMap e47)), (13, .int .i64 a2), (12, .bool false), (11, .bool false), (10, .int .i64 a2), (6, .int .i64 0), (0, .str a0), (1, .vec (a1).length 3 ((a1).flatMap e47)), (2, .int .i64 a2)]) (congrArg (fun z : Bool => ([(18, .bool z), (17, .bool z), (16, .bool z), (15, .int .i64 (a1.length : Int)), (14, .vec (a1).length 3 ((a1).flatMap e47)), (13, .int .i64 a2), (12, .bool false), (11, .bool false), (10, .int .i64 a2), (6, .int .i64 0), (0, .str a0), (1, .vec (a1).length 3 ((a1).flatMap e47)), (2, .int .i64 a2)] : Env)) hb5) (opsD_run 32 (l' := (opsAt g49p1).toList.drop 41) (eE := E10) (H' := (mkH [])) (hs := [(mkH []), (mkH []), (mkH [])]) (by kernel_rfl) (.nil)))))) (by kernel_rfl) (by kernel_rfl) (by kernel_rfl) ?_
    refine oK [0, 1, 2, 50] (eE := [(0, .str a0), (1, .vec (a1).length 3 ((a1).flatMap e47)), (2, .int .i64 a2), (50, .bool true)]) (by kernel_rfl) ?_
    exact hj4 true
   ·refine ok_bind (fun x0_13 hx0_13 => ?_)
    refine ok_bind (fun x0_15 hx0_15 => ?_)
    refine ok_if (fun hb6 => ?_) (fun hb6 => ?_)
    ·let E7 : Env := [(12, .bool (decide (a2 < 1))), (11, .bool (decide (a2 < 1))), (10, .int .i64 a2), (6, .int .i64 0), (0, .str a0), (1, .vec (a1).length 3 ((a1).flatMap e47)), (2, .int .i64 a2)]
     let E9 : Env := [(18, .bool (decide ((a1.length : Int) ≤ a2))), (17, .bool (decide ((a1.length : Int) ≤ a2))), (16, .bool (decide ((a1.length : Int) ≤ a2))), (15, .int .i64 (a1.length : Int)), (14, .vec (a1).length 3 ((a1).flatMap e47)), (13, .int .i64 a2), (12, .bool false), (11, .bool false), (10, .int .i64 a2), (6, .int .i64 0), (0, .str a0), (1, .vec (a1).length 3 ((a1).flatMap e47)), (2, .int .i64 a2)]
     let E11 : Env := [(22, .int .i64 (fW .i64 (a2 - 1))), (21, .int .i64 a2), (20, .vec (a1).length 3 ((a1).flatMap e47)), (19, .str a0), (18, .bool false), (17, .bool false), (16, .bool false), (15, .int .i64 (a1.length : Int)), (14, .vec (a1).length 3 ((a1).flatMap e47)), (13, .int .i64 a2), (12, .bool false), (11, .bool false), (10, .int .i64 a2), (6, .int .i64 0), (0, .str a0), (1, .vec (a1).length 3 ((a1).flatMap e47)), (2, .int .i64 a2)]
     let E12 : Env := ((28, .bool (!x0_15)) :: (27, .bool (!x0_15)) :: (26, .bool (!x0_15)) :: (25, .bool x0_15) :: (24, .agg [.int .i64 x0_13.f0, .str x0_13.f1, .int .i64 x0_13.f2]) :: (23, .vptr [.int .i64 x0_13.f0, .str x0_13.f1, .int .i64 x0_13.f2]) :: E11)
     let E13 : Env := [(50, .bool true), (49, .tuple []), (48, .tuple []), (47, .tuple []), (46, .tuple []), (45, .tuple []), (44, .tuple []), (43, .tuple []), (42, .tuple []), (41, .tuple []), (40, .tuple []), (39, .tuple []), (38, .tuple []), (37, .bool true), (36, .bool true), (35, .tuple []), (34, .tuple []), (33, .tuple []), (32, .tuple []), (31, .tuple []), (30, .tuple []), (29, .tuple []), (28, .bool true), (27, .bool true), (26, .bool true), (25, .bool x0_15), (24, .agg [.int .i64 x0_13.f0, .str x0_13.f1, .int .i64 x0_13.f2]), (23, .vptr [.int .i64 x0_13.f0, .str x0_13.f1, .int .i64 x0_13.f2]), (22, .int .i64 (fW .i64 (a2 - 1))), (21, .int .i64 a2), (20, .vec (a1).length 3 ((a1).flatMap e47)), (19, .str a0), (18, .bool false), (17, .bool false), (16, .bool false), (15, .int .i64 (a1.length : Int)), (14, .vec (a1).length 3 ((a1).flatMap e47)), (13, .int .i64 a2), (12, .bool false), (11, .bool false), (10, .int .i64 a2), (6, .int .i64 0), (0, .str a0), (1, .vec (a1).length 3 ((a1).flatMap e47)), (2, .int .i64 a2)]
     refine ok_draw (p' := nav [0] g49p1) (eE := E13) (H' := (mkH [])) (hs := [(mkH []), (mkH []), (mkH [])]) [(0, 0, 0), (1, 0, 0), (3, 0, 0), (7, 0, 0), (7, 0, 0), (23, 0, 0), (63, 0, 0), (127, 0, 0), (255, 0, 0), (511, 0, 0), (511, 0, 0), (511, 0, 0), (2559, 0, 0), (7679, 0, 0), (15871, 0, 0), (32767, 0, 0), (65535, 0, 0), (131071, 0, 0), (262143, 0, 0), (524287, 0, 0), (524287, 0, 0), (524287, 0, 0), (3670015, 0, 0), (7864319, 1, 1), (16777215, 0, 0), (33554431, 0, 0), (67108863, 0, 0), (134217727, 0, 0), (268435455, 0, 0), (268435455, 0, 0), (805306367, 0, 0), (2147483647, 0, 0), (4294967295, 2, 2), (8589934591, 0, 0), (268435455, 0, 0), (268435455, 0, 0), (51808043007, 0, 0), (120527519743, 0, 0), (257966473215, 2, 3), (549755813887, 0, 0), (1099511627775, 0, 0)] (by kernel_rfl) (by kernel_rfl) (by kernel_rfl) (opsD_run 3 (l' := (opsAt g49p1).toList.drop 3) (eE := E7) (H' := (mkH [])) (hs := []) (by kernel_rfl) (opsD_env (eE := [(12, .bool false), (11, .bool false), (10, .int .i64 a2), (6, .int .i64 0), (0, .str a0), (1, .vec (a1).length 3 ((a1).flatMap e47)), (2, .int .i64 a2)]) (congrArg (fun z : Bool => ([(12, .bool z), (11, .bool z), (10, .int .i64 a2), (6, .int .i64 0), (0, .str a0), (1, .vec (a1).length 3 ((a1).flatMap e47)), (2, .int .i64 a2)] : Env)) hb4) (opsD_run 6 (l' := (opsAt g49p1).toList.drop 9) (eE := E9) (H' := (mkH [])) (hs := []) (by kernel_rfl) (opsD_env (eE := [(18, .bool false), (17, .bool false), (16, .bool false), (15, .int .i64 (a1.length : Int)), (14, .vec (a1).length 3 ((a1).flatMap e47)), (13, .int .i64 a2), (12, .bool false), (11, .bool false), (10, .int .i64 a2), (6, .int .i64 0), (0, .str a0), (1, .vec (a1).length 3 ((a1).flatMap e47)), (2, .int .i64 a2)]) (congrArg (fun z : Bool => ([(18, .bool z), (17, .bool z), (16, .bool z), (15, .int .i64 (a1.length : Int)), (14, .vec (a1).length 3 ((a1).flatMap e47)), (13, .int .i64 a2), (12, .bool false), (11, .bool false), (10, .int .i64 a2), (6, .int .i64 0), (0, .str a0), (1, .vec (a1).length 3 ((a1).flatMap e47)), (2, .int .i64 a2)] : Env)) hb5) (opsD_run 4 (l' := (opsAt g49p1).toList.drop 13) (eE := E11) (H' := (mkH [])) (hs := []) (by kernel_rfl) (opsD_chk (l' := (opsAt g49p1).toList.drop 14) (eE := ((23, .vptr [.int .i64 x0_13.f0, .str x0_13.f1, .int .i64 x0_13.f2]) :: E11)) (hs := []) (x := x0_13) (fun (x0_13 : S46) => (.vptr [.int .i64 x0_13.f0, .str x0_13.f1, .int .i64 x0_13.f2], (mkH []))) (vidxH (sz := 3) e47_len (by kernel_rfl)) hx0_13 (by kernel_rfl) (opsD_run 1 (l' := (opsAt g49p1).toList.drop 15) (eE := ((24, .agg [.int .i64 x0_13.f0, .str x0_13.f1, .int .i64 x0_13.f2]) :: (23, .vptr [.int .i64 x0_13.f0, .str x0_13.f1, .int .i64 x0_13.f2]) :: E11)) (H' := (mkH [])) (hs := []) (by kernel_rfl) (opsD_call (l' := (opsAt g49p1).toList.drop 16) (eE := ((25, .bool x0_15) :: (24, .agg [.int .i64 x0_13.f0, .str x0_13.f1, .int .i64 x0_13.f2]) :: (23, .vptr [.int .i64 x0_13.f0, .str x0_13.f1, .int .i64 x0_13.f2]) :: E11)) (hs := [(mkH [])]) (fi := 66) (args := [.str a0, .agg [.int .i64 x0_13.f0, .str x0_13.f1, .int .i64 x0_13.f2]]) (v := .bool x0_15) (by kernel_rfl) (by kernel_rfl) (by kernel_rfl) (g66_ok k a0 (⟨x0_13.f0, x0_13.f1, x0_13.f2⟩ : S46) x0_15 hx0_15) (by kernel_rfl) (opsD_run 3 (l' := (opsAt g49p1).toList.drop 19) (eE := E12) (H' := (mkH [])) (hs := []) (by kernel_rfl) (opsD_env (eE := [(28, .bool true), (27, .bool true), (26, .bool true), (25, .bool x0_15), (24, .agg [.int .i64 x0_13.f0, .str x0_13.f1, .int .i64 x0_13.f2]), (23, .vptr [.int .i64 x0_13.f0, .str x0_13.f1, .int .i64 x0_13.f2]), (22, .int .i64 (fW .i64 (a2 - 1))), (21, .int .i64 a2), (20, .vec (a1).length 3 ((a1).flatMap e47)), (19, .str a0), (18, .bool false), (17, .bool false), (16, .bool false), (15, .int .i64 (a1.length : Int)), (14, .vec (a1).length 3 ((a1).flatMap e47)), (13, .int .i64 a2), (12, .bool false), (11, .bool false), (10, .int .i64 a2), (6, .int .i64 0), (0, .str a0), (1, .vec (a1).length 3 ((a1).flatMap e47)), (2, .int .i64 a2)]) (congrArg (fun z : Bool => ([(28, .bool z), (27, .bool z), (26, .bool z), (25, .bool x0_15), (24, .agg [.int .i64 x0_13.f0, .str x0_13.f1, .int .i64 x0_13.f2]), (23, .vptr [.int .i64 x0_13.f0, .str x0_13.f1, .int .i64 x0_13.f2]), (22, .int .i64 (fW .i64 (a2 - 1))), (21, .int .i64 a2), (20, .vec (a1).length 3 ((a1).flatMap e47)), (19, .str a0), (18, .bool false), (17, .bool false), (16, .bool false), (15, .int .i64 (a1.length : Int)), (14, .vec (a1).length 3 ((a1).flatMap e47)), (13, .int .i64 a2), (12, .bool false), (11, .bool false), (10, .int .i64 a2), (6, .int .i64 0), (0, .str a0), (1, .vec (a1).length 3 ((a1).flatMap e47)), (2, .int .i64 a2)] : Env)) hb6) (opsD_run 22 (l' := (opsAt g49p1).toList.drop 41) (eE := E13) (H' := (mkH [])) (hs := [(mkH []), (mkH [])]) (by kernel_rfl) (.nil)))))))))))) (by kernel_rfl) (by kernel_rfl) (by kernel_rfl) ?_
     refine oK [0, 1, 2, 50] (eE := [(0, .str a0), (1, .vec (a1).length 3 ((a1).flatMap e47)), (2, .int .i64 a2), (50, .bool true)]) (by kernel_rfl) ?_
     exact hj4 true
    ·refine ok_bind (fun x0_22 hx0_22 => ?_)
     refine ok_bind (fun x0_24 hx0_24 => ?_)
     refine ok_if (fun hb7 => ?_) (fun hb7 => ?_)
     ·let E7 : Env := [(12, .bool (decide (a2 < 1))), (11, .bool (decide (a2 < 1))), (10, .int .i64 a2), (6, .int .i64 0), (0, .str a0), (1, .vec (a1).length 3 ((a1).flatMap e47)), (2, .int .i64 a2)]
      let E9 : Env := [(18, .bool (decide ((a1.length : Int) ≤ a2))), (17, .bool (decide ((a1.length : Int) ≤ a2))), (16, .bool (decide ((a1.length : Int) ≤ a2))), (15, .int .i64 (a1.length : Int)), (14, .vec (a1).length 3 ((a1).flatMap e47)), (13, .int .i64 a2), (12, .bool false), (11, .bool false), (10, .int .i64 a2), (6, .int .i64 0), (0, .str a0), (1, .vec (a1).length 3 ((a1).flatMap e47)), (2, .int .i64 a2)]
      let E11 : Env := [(22, .int .i64 (fW .i64 (a2 - 1))), (21, .int .i64 a2), (20, .vec (a1).length 3 ((a1).flatMap e47)), (19, .str a0), (18, .bool false), (17, .bool false), (16, .bool false), (15, .int .i64 (a1.length : Int)), (14, .vec (a1).length 3 ((a1).flatMap e47)), (13, .int .i64 a2), (12, .bool false), (11, .bool false), (10, .int .i64 a2), (6, .int .i64 0), (0, .str a0), (1, .vec (a1).length 3 ((a1).flatMap e47)), (2, .int .i64 a2)]
      let E12 : Env := ((28, .bool (!x0_15)) :: (27, .bool (!x0_15)) :: (26, .bool (!x0_15)) :: (25, .bool x0_15) :: (24, .agg [.int .i64 x0_13.f0, .str x0_13.f1, .int .i64 x0_13.f2]) :: (23, .vptr [.int .i64 x0_13.f0, .str x0_13.f1, .int .i64 x0_13.f2]) :: E11)
      let E14 : Env := [(31, .int .i64 a2), (30, .vec (a1).length 3 ((a1).flatMap e47)), (29, .str a0), (28, .bool false), (27, .bool false), (26, .bool false), (25, .bool x0_15), (24, .agg [.int .i64 x0_13.f0, .str x0_13.f1, .int .i64 x0_13.f2]), (23, .vptr [.int .i64 x0_13.f0, .str x0_13.f1, .int .i64 x0_13.f2]), (22, .int .i64 (fW .i64 (a2 - 1))), (21, .int .i64 a2), (20, .vec (a1).length 3 ((a1).flatMap e47)), (19, .str a0), (18, .bool false), (17, .bool false), (16, .bool false), (15, .int .i64 (a1.length : Int)), (14, .vec (a1).length 3 ((a1).flatMap e47)), (13, .int .i64 a2), (12, .bool false), (11, .bool false), (10, .int .i64 a2), (6, .int .i64 0), (0, .str a0), (1, .vec (a1).length 3 ((a1).flatMap e47)), (2, .int .i64 a2)]
      let E15 : Env := ((37, .bool (!x0_24)) :: (36, .bool (!x0_24)) :: (35, .bool (!x0_24)) :: (34, .bool x0_24) :: (33, .agg [.int .i64 x0_22.f0, .str x0_22.f1, .int .i64 x0_22.f2]) :: (32, .vptr [.int .i64 x0_22.f0, .str x0_22.f1, .int .i64 x0_22.f2]) :: E14)
      let E16 : Env := [(50, .bool true), (49, .tuple []), (48, .tuple []), (47, .tuple []), (46, .tuple []), (45, .tuple []), (44, .tuple []), (43, .tuple []), (42, .tuple []), (41, .tuple []), (40, .tuple []), (39, .tuple []), (38, .tuple []), (37, .bool true), (36, .bool true), (35, .bool true), (34, .bool x0_24), (33, .agg [.int .i64 x0_22.f0, .str x0_22.f1, .int .i64 x0_22.f2]), (32, .vptr [.int .i64 x0_22.f0, .str x0_22.f1, .int .i64 x0_22.f2]), (31, .int .i64 a2), (30, .vec (a1).length 3 ((a1).flatMap e47)), (29, .str a0), (28, .bool false), (27, .bool false), (26, .bool false), (25, .bool x0_15), (24, .agg [.int .i64 x0_13.f0, .str x0_13.f1, .int .i64 x0_13.f2]), (23, .vptr [.int .i64 x0_13.f0, .str x0_13.f1, .int .i64 x0_13.f2]), (22, .int .i64 (fW .i64 (a2 - 1))), (21, .int .i64 a2), (20, .vec (a1).length 3 ((a1).flatMap e47)), (19, .str a0), (18, .bool false), (17, .bool false), (16, .bool false), (15, .int .i64 (a1.length : Int)), (14, .vec (a1).length 3 ((a1).flatMap e47)), (13, .int .i64 a2), (12, .bool false), (11, .bool false), (10, .int .i64 a2), (6, .int .i64 0), (0, .str a0), (1, .vec (a1).length 3 ((a1).flatMap e47)), (2, .int .i64 a2)]
      refine ok_draw (p' := nav [0] g49p1) (eE := E16) (H' := (mkH [])) (hs := [(mkH []), (mkH []), (mkH [])]) [(0, 0, 0), (1, 0, 0), (3, 0, 0), (7, 0, 0), (7, 0, 0), (23, 0, 0), (63, 0, 0), (127, 0, 0), (255, 0, 0), (511, 0, 0), (511, 0, 0), (511, 0, 0), (2559, 0, 0), (7679, 0, 0), (15871, 0, 0), (32767, 0, 0), (65535, 0, 0), (131071, 0, 0), (262143, 0, 0), (524287, 0, 0), (524287, 0, 0), (524287, 0, 0), (3670015, 0, 0), (7864319, 1, 1), (16777215, 0, 0), (33554431, 0, 0), (67108863, 0, 0), (134217727, 0, 0), (268435455, 0, 0), (268435455, 0, 0), (805306367, 0, 0), (2147483647, 0, 0), (4294967295, 2, 2), (8589934591, 0, 0), (268435455, 0, 0), (268435455, 0, 0), (51808043007, 0, 0), (120527519743, 0, 0), (257966473215, 2, 3), (549755813887, 0, 0), (1099511627775, 0, 0)] (by kernel_rfl) (by kernel_rfl) (by kernel_rfl) (opsD_run 3 (l' := (opsAt g49p1).toList.drop 3) (eE := E7) (H' := (mkH [])) (hs := []) (by kernel_rfl) (opsD_env (eE := [(12, .bool false), (11, .bool false), (10, .int .i64 a2), (6, .int .i64 0), (0, .str a0), (1, .vec (a1).length 3 ((a1).flatMap e47)), (2, .int .i64 a2)]) (congrArg (fun z : Bool => ([(12, .bool z), (11, .bool z), (10, .int .i64 a2), (6, .int .i64 0), (0, .str a0), (1, .vec (a1).length 3 ((a1).flatMap e47)), (2, .int .i64 a2)] : Env)) hb4) (opsD_run 6 (l' := (opsAt g49p1).toList.drop 9) (eE := E9) (H' := (mkH [])) (hs := []) (by kernel_rfl) (opsD_env (eE := [(18, .bool false), (17, .bool false), (16, .bool false), (15, .int .i64 (a1.length : Int)), (14, .vec (a1).length 3 ((a1).flatMap e47)), (13, .int .i64 a2), (12, .bool false), (11, .bool false), (10, .int .i64 a2), (6, .int .i64 0), (0, .str a0), (1, .vec (a1).length 3 ((a1).flatMap e47)), (2, .int .i64 a2)]) (congrArg (fun z : Bool => ([(18, .bool z), (17, .bool z), (16, .bool z), (15, .int .i64 (a1.length : Int)), (14, .vec (a1).length 3 ((a1).flatMap e47)), (13, .int .i64 a2), (12, .bool false), (11, .bool false), (10, .int .i64 a2), (6, .int .i64 0), (0, .str a0), (1, .vec (a1).length 3 ((a1).flatMap e47)), (2, .int .i64 a2)] : Env)) hb5) (opsD_run 4 (l' := (opsAt g49p1).toList.drop 13) (eE := E11) (H' := (mkH [])) (hs := []) (by kernel_rfl) (opsD_chk (l' := (opsAt g49p1).toList.drop 14) (eE := ((23, .vptr [.int .i64 x0_13.f0, .str x0_13.f1, .int .i64 x0_13.f2]) :: E11)) (hs := []) (x := x0_13) (fun (x0_13 : S46) => (.vptr [.int .i64 x0_13.f0, .str x0_13.f1, .int .i64 x0_13.f2], (mkH []))) (vidxH (sz := 3) e47_len (by kernel_rfl)) hx0_13 (by kernel_rfl) (opsD_run 1 (l' := (opsAt g49p1).toList.drop 15) (eE := ((24, .agg [.int .i64 x0_13.f0, .str x0_13.f1, .int .i64 x0_13.f2]) :: (23, .vptr [.int .i64 x0_13.f0, .str x0_13.f1, .int .i64 x0_13.f2]) :: E11)) (H' := (mkH [])) (hs := []) (by kernel_rfl) (opsD_call (l' := (opsAt g49p1).toList.drop 16) (eE := ((25, .bool x0_15) :: (24, .agg [.int .i64 x0_13.f0, .str x0_13.f1, .int .i64 x0_13.f2]) :: (23, .vptr [.int .i64 x0_13.f0, .str x0_13.f1, .int .i64 x0_13.f2]) :: E11)) (hs := [(mkH [])]) (fi := 66) (args := [.str a0, .agg [.int .i64 x0_13.f0, .str x0_13.f1, .int .i64 x0_13.f2]]) (v := .bool x0_15) (by kernel_rfl) (by kernel_rfl) (by kernel_rfl) (g66_ok k a0 (⟨x0_13.f0, x0_13.f1, x0_13.f2⟩ : S46) x0_15 hx0_15) (by kernel_rfl) (opsD_run 3 (l' := (opsAt g49p1).toList.drop 19) (eE := E12) (H' := (mkH [])) (hs := []) (by kernel_rfl) (opsD_env (eE := [(28, .bool false), (27, .bool false), (26, .bool false), (25, .bool x0_15), (24, .agg [.int .i64 x0_13.f0, .str x0_13.f1, .int .i64 x0_13.f2]), (23, .vptr [.int .i64 x0_13.f0, .str x0_13.f1, .int .i64 x0_13.f2]), (22, .int .i64 (fW .i64 (a2 - 1))), (21, .int .i64 a2), (20, .vec (a1).length 3 ((a1).flatMap e47)), (19, .str a0), (18, .bool false), (17, .bool false), (16, .bool false), (15, .int .i64 (a1.length : Int)), (14, .vec (a1).length 3 ((a1).flatMap e47)), (13, .int .i64 a2), (12, .bool false), (11, .bool false), (10, .int .i64 a2), (6, .int .i64 0), (0, .str a0), (1, .vec (a1).length 3 ((a1).flatMap e47)), (2, .int .i64 a2)]) (congrArg (fun z : Bool => ([(28, .bool z), (27, .bool z), (26, .bool z), (25, .bool x0_15), (24, .agg [.int .i64 x0_13.f0, .str x0_13.f1, .int .i64 x0_13.f2]), (23, .vptr [.int .i64 x0_13.f0, .str x0_13.f1, .int .i64 x0_13.f2]), (22, .int .i64 (fW .i64 (a2 - 1))), (21, .int .i64 a2), (20, .vec (a1).length 3 ((a1).flatMap e47)), (19, .str a0), (18, .bool false), (17, .bool false), (16, .bool false), (15, .int .i64 (a1.length : Int)), (14, .vec (a1).length 3 ((a1).flatMap e47)), (13, .int .i64 a2), (12, .bool false), (11, .bool false), (10, .int .i64 a2), (6, .int .i64 0), (0, .str a0), (1, .vec (a1).length 3 ((a1).flatMap e47)), (2, .int .i64 a2)] : Env)) hb6) (opsD_run 3 (l' := (opsAt g49p1).toList.drop 22) (eE := E14) (H' := (mkH [])) (hs := []) (by kernel_rfl) (opsD_chk (l' := (opsAt g49p1).toList.drop 23) (eE := ((32, .vptr [.int .i64 x0_22.f0, .str x0_22.f1, .int .i64 x0_22.f2]) :: E14)) (hs := []) (x := x0_22) (fun (x0_22 : S46) => (.vptr [.int .i64 x0_22.f0, .str x0_22.f1, .int .i64 x0_22.f2], (mkH []))) (vidxH (sz := 3) e47_len (by kernel_rfl)) hx0_22 (by kernel_rfl) (opsD_run 1 (l' := (opsAt g49p1).toList.drop 24) (eE := ((33, .agg [.int .i64 x0_22.f0, .str x0_22.f1, .int .i64 x0_22.f2]) :: (32, .vptr [.int .i64 x0_22.f0, .str x0_22.f1, .int .i64 x0_22.f2]) :: E14)) (H' := (mkH [])) (hs := []) (by kernel_rfl) (opsD_call (l' := (opsAt g49p1).toList.drop 25) (eE := ((34, .bool x0_24) :: (33, .agg [.int .i64 x0_22.f0, .str x0_22.f1, .int .i64 x0_22.f2]) :: (32, .vptr [.int .i64 x0_22.f0, .str x0_22.f1, .int .i64 x0_22.f2]) :: E14)) (hs := [(mkH [])]) (fi := 66) (args := [.str a0, .agg [.int .i64 x0_22.f0, .str x0_22.f1, .int .i64 x0_22.f2]]) (v := .bool x0_24) (by kernel_rfl) (by kernel_rfl) (by kernel_rfl) (g66_ok k a0 (⟨x0_22.f0, x0_22.f1, x0_22.f2⟩ : S46) x0_24 hx0_24) (by kernel_rfl) (opsD_run 3 (l' := (opsAt g49p1).toList.drop 28) (eE := E15) (H' := (mkH [])) (hs := []) (by kernel_rfl) (opsD_env (eE := [(37, .bool true), (36, .bool true), (35, .bool true), (34, .bool x0_24), (33, .agg [.int .i64 x0_22.f0, .str x0_22.f1, .int .i64 x0_22.f2]), (32, .vptr [.int .i64 x0_22.f0, .str x0_22.f1, .int .i64 x0_22.f2]), (31, .int .i64 a2), (30, .vec (a1).length 3 ((a1).flatMap e47)), (29, .str a0), (28, .bool false), (27, .bool false), (26, .bool false), (25, .bool x0_15), (24, .agg [.int .i64 x0_13.f0, .str x0_13.f1, .int .i64 x0_13.f2]), (23, .vptr [.int .i64 x0_13.f0, .str x0_13.f1, .int .i64 x0_13.f2]), (22, .int .i64 (fW .i64 (a2 - 1))), (21, .int .i64 a2), (20, .vec (a1).length 3 ((a1).flatMap e47)), (19, .str a0), (18, .bool false), (17, .bool false), (16, .bool false), (15, .int .i64 (a1.length : Int)), (14, .vec (a1).length 3 ((a1).flatMap e47)), (13, .int .i64 a2), (12, .bool false), (11, .bool false), (10, .int .i64 a2), (6, .int .i64 0), (0, .str a0), (1, .vec (a1).length 3 ((a1).flatMap e47)), (2, .int .i64 a2)]) (congrArg (fun z : Bool => ([(37, .bool z), (36, .bool z), (35, .bool z), (34, .bool x0_24), (33, .agg [.int .i64 x0_22.f0, .str x0_22.f1, .int .i64 x0_22.f2]), (32, .vptr [.int .i64 x0_22.f0, .str x0_22.f1, .int .i64 x0_22.f2]), (31, .int .i64 a2), (30, .vec (a1).length 3 ((a1).flatMap e47)), (29, .str a0), (28, .bool false), (27, .bool false), (26, .bool false), (25, .bool x0_15), (24, .agg [.int .i64 x0_13.f0, .str x0_13.f1, .int .i64 x0_13.f2]), (23, .vptr [.int .i64 x0_13.f0, .str x0_13.f1, .int .i64 x0_13.f2]), (22, .int .i64 (fW .i64 (a2 - 1))), (21, .int .i64 a2), (20, .vec (a1).length 3 ((a1).flatMap e47)), (19, .str a0), (18, .bool false), (17, .bool false), (16, .bool false), (15, .int .i64 (a1.length : Int)), (14, .vec (a1).length 3 ((a1).flatMap e47)), (13, .int .i64 a2), (12, .bool false), (11, .bool false), (10, .int .i64 a2), (6, .int .i64 0), (0, .str a0), (1, .vec (a1).length 3 ((a1).flatMap e47)), (2, .int .i64 a2)] : Env)) hb7) (opsD_run 13 (l' := (opsAt g49p1).toList.drop 41) (eE := E16) (H' := (mkH [])) (hs := [(mkH [])]) (by kernel_rfl) (.nil)))))))))))))))))) (by kernel_rfl) (by kernel_rfl) (by kernel_rfl) ?_
      refine oK [0, 1, 2, 50] (eE := [(0, .str a0), (1, .vec (a1).length 3 ((a1).flatMap e47)), (2, .int .i64 a2), (50, .bool true)]) (by kernel_rfl) ?_
      exact hj4 true
     ·refine ok_bind (fun x0_31 hx0_31 => ?_)
      refine ok_bind (fun x0_33 hx0_33 => ?_)
      refine ok_bind (fun x0_36 hx0_36 => ?_)
      let E7 : Env := [(12, .bool (decide (a2 < 1))), (11, .bool (decide (a2 < 1))), (10, .int .i64 a2), (6, .int .i64 0), (0, .str a0), (1, .vec (a1).length 3 ((a1).flatMap e47)), (2, .int .i64 a2)]
      let E9 : Env := [(18, .bool (decide ((a1.length : Int) ≤ a2))), (17, .bool (decide ((a1.length : Int) ≤ a2))), (16, .bool (decide ((a1.length : Int) ≤ a2))), (15, .int .i64 (a1.length : Int)), (14, .vec (a1).length 3 ((a1).flatMap e47)), (13, .int .i64 a2), (12, .bool false), (11, .bool false), (10, .int .i64 a2), (6, .int .i64 0), (0, .str a0), (1, .vec (a1).length 3 ((a1).flatMap e47)), (2, .int .i64 a2)]
      let E11 : Env := [(22, .int .i64 (fW .i64 (a2 - 1))), (21, .int .i64 a2), (20, .vec (a1).length 3 ((a1).flatMap e47)), (19, .str a0), (18, .bool false), (17, .bool false), (16, .bool false), (15, .int .i64 (a1.length : Int)), (14, .vec (a1).length 3 ((a1).flatMap e47)), (13, .int .i64 a2), (12, .bool false), (11, .bool false), (10, .int .i64 a2), (6, .int .i64 0), (0, .str a0), (1, .vec (a1).length 3 ((a1).flatMap e47)), (2, .int .i64 a2)]
      let E12 : Env := ((28, .bool (!x0_15)) :: (27, .bool (!x0_15)) :: (26, .bool (!x0_15)) :: (25, .bool x0_15) :: (24, .agg [.int .i64 x0_13.f0, .str x0_13.f1, .int .i64 x0_13.f2]) :: (23, .vptr [.int .i64 x0_13.f0, .str x0_13.f1, .int .i64 x0_13.f2]) :: E11)
      let E14 : Env := [(31, .int .i64 a2), (30, .vec (a1).length 3 ((a1).flatMap e47)), (29, .str a0), (28, .bool false), (27, .bool false), (26, .bool false), (25, .bool x0_15), (24, .agg [.int .i64 x0_13.f0, .str x0_13.f1, .int .i64 x0_13.f2]), (23, .vptr [.int .i64 x0_13.f0, .str x0_13.f1, .int .i64 x0_13.f2]), (22, .int .i64 (fW .i64 (a2 - 1))), (21, .int .i64 a2), (20, .vec (a1).length 3 ((a1).flatMap e47)), (19, .str a0), (18, .bool false), (17, .bool false), (16, .bool false), (15, .int .i64 (a1.length : Int)), (14, .vec (a1).length 3 ((a1).flatMap e47)), (13, .int .i64 a2), (12, .bool false), (11, .bool false), (10, .int .i64 a2), (6, .int .i64 0), (0, .str a0), (1, .vec (a1).length 3 ((a1).flatMap e47)), (2, .int .i64 a2)]
      let E15 : Env := ((37, .bool (!x0_24)) :: (36, .bool (!x0_24)) :: (35, .bool (!x0_24)) :: (34, .bool x0_24) :: (33, .agg [.int .i64 x0_22.f0, .str x0_22.f1, .int .i64 x0_22.f2]) :: (32, .vptr [.int .i64 x0_22.f0, .str x0_22.f1, .int .i64 x0_22.f2]) :: E14)
      let E17 : Env := [(40, .int .i64 (fW .i64 (a2 - 1))), (39, .int .i64 a2), (38, .vec (a1).length 3 ((a1).flatMap e47)), (37, .bool false), (36, .bool false), (35, .bool false), (34, .bool x0_24), (33, .agg [.int .i64 x0_22.f0, .str x0_22.f1, .int .i64 x0_22.f2]), (32, .vptr [.int .i64 x0_22.f0, .str x0_22.f1, .int .i64 x0_22.f2]), (31, .int .i64 a2), (30, .vec (a1).length 3 ((a1).flatMap e47)), (29, .str a0), (28, .bool false), (27, .bool false), (26, .bool false), (25, .bool x0_15), (24, .agg [.int .i64 x0_13.f0, .str x0_13.f1, .int .i64 x0_13.f2]), (23, .vptr [.int .i64 x0_13.f0, .str x0_13.f1, .int .i64 x0_13.f2]), (22, .int .i64 (fW .i64 (a2 - 1))), (21, .int .i64 a2), (20, .vec (a1).length 3 ((a1).flatMap e47)), (19, .str a0), (18, .bool false), (17, .bool false), (16, .bool false), (15, .int .i64 (a1.length : Int)), (14, .vec (a1).length 3 ((a1).flatMap e47)), (13, .int .i64 a2), (12, .bool false), (11, .bool false), (10, .int .i64 a2), (6, .int .i64 0), (0, .str a0), (1, .vec (a1).length 3 ((a1).flatMap e47)), (2, .int .i64 a2)]
      let E18 : Env := ((45, .int .i64 a2) :: (44, .vec (a1).length 3 ((a1).flatMap e47)) :: (43, .int .i64 x0_33) :: (42, .agg [.int .i64 x0_31.f0, .str x0_31.f1, .int .i64 x0_31.f2]) :: (41, .vptr [.int .i64 x0_31.f0, .str x0_31.f1, .int .i64 x0_31.f2]) :: E17)
      let E19 : Env := ((50, .bool (decide (x0_36.f2 < x0_33))) :: (49, .bool (decide (x0_36.f2 < x0_33))) :: (48, .int .i64 x0_36.f2) :: (47, .vptr [.int .i64 x0_36.f2]) :: (46, .vptr [.int .i64 x0_36.f0, .str x0_36.f1, .int .i64 x0_36.f2]) :: E18)
      refine ok_draw (p' := nav [0] g49p1) (eE := E19) (H' := (mkH [])) (hs := [(mkH []), (mkH []), (mkH [])]) [(0, 0, 0), (1, 0, 0), (3, 0, 0), (7, 0, 0), (7, 0, 0), (23, 0, 0), (63, 0, 0), (127, 0, 0), (255, 0, 0), (511, 0, 0), (511, 0, 0), (511, 0, 0), (2559, 0, 0), (7679, 0, 0), (15871, 0, 0), (32767, 0, 0), (65535, 0, 0), (131071, 0, 0), (262143, 0, 0), (524287, 0, 0), (524287, 0, 0), (524287, 0, 0), (3670015, 0, 0), (7864319, 1, 1), (16777215, 0, 0), (33554431, 0, 0), (67108863, 0, 0), (134217727, 0, 0), (268435455, 0, 0), (268435455, 0, 0), (805306367, 0, 0), (2147483647, 0, 0), (4294967295, 2, 2), (8589934591, 0, 0), (268435455, 0, 0), (268435455, 0, 0), (51808043007, 0, 0), (120527519743, 0, 0), (257966473215, 2, 3), (549755813887, 0, 0), (1099511627775, 0, 0)] (by kernel_rfl) (by kernel_rfl) (by kernel_rfl) (opsD_run 3 (l' := (opsAt g49p1).toList.drop 3) (eE := E7) (H' := (mkH [])) (hs := []) (by kernel_rfl) (opsD_env (eE := [(12, .bool false), (11, .bool false), (10, .int .i64 a2), (6, .int .i64 0), (0, .str a0), (1, .vec (a1).length 3 ((a1).flatMap e47)), (2, .int .i64 a2)]) (congrArg (fun z : Bool => ([(12, .bool z), (11, .bool z), (10, .int .i64 a2), (6, .int .i64 0), (0, .str a0), (1, .vec (a1).length 3 ((a1).flatMap e47)), (2, .int .i64 a2)] : Env)) hb4) (opsD_run 6 (l' := (opsAt g49p1).toList.drop 9) (eE := E9) (H' := (mkH [])) (hs := []) (by kernel_rfl) (opsD_env (eE := [(18, .bool false), (17, .bool false), (16, .bool false), (15, .int .i64 (a1.length : Int)), (14, .vec (a1).length 3 ((a1).flatMap e47)), (13, .int .i64 a2), (12, .bool false), (11, .bool false), (10, .int .i64 a2), (6, .int .i64 0), (0, .str a0), (1, .vec (a1).length 3 ((a1).flatMap e47)), (2, .int .i64 a2)]) (congrArg (fun z : Bool => ([(18, .bool z), (17, .bool z), (16, .bool z), (15, .int .i64 (a1.length : Int)), (14, .vec (a1).length 3 ((a1).flatMap e47)), (13, .int .i64 a2), (12, .bool false), (11, .bool false), (10, .int .i64 a2), (6, .int .i64 0), (0, .str a0), (1, .vec (a1).length 3 ((a1).flatMap e47)), (2, .int .i64 a2)] : Env)) hb5) (opsD_run 4 (l' := (opsAt g49p1).toList.drop 13) (eE := E11) (H' := (mkH [])) (hs := []) (by kernel_rfl) (opsD_chk (l' := (opsAt g49p1).toList.drop 14) (eE := ((23, .vptr [.int .i64 x0_13.f0, .str x0_13.f1, .int .i64 x0_13.f2]) :: E11)) (hs := []) (x := x0_13) (fun (x0_13 : S46) => (.vptr [.int .i64 x0_13.f0, .str x0_13.f1, .int .i64 x0_13.f2], (mkH []))) (vidxH (sz := 3) e47_len (by kernel_rfl)) hx0_13 (by kernel_rfl) (opsD_run 1 (l' := (opsAt g49p1).toList.drop 15) (eE := ((24, .agg [.int .i64 x0_13.f0, .str x0_13.f1, .int .i64 x0_13.f2]) :: (23, .vptr [.int .i64 x0_13.f0, .str x0_13.f1, .int .i64 x0_13.f2]) :: E11)) (H' := (mkH [])) (hs := []) (by kernel_rfl) (opsD_call (l' := (opsAt g49p1).toList.drop 16) (eE := ((25, .bool x0_15) :: (24, .agg [.int .i64 x0_13.f0, .str x0_13.f1, .int .i64 x0_13.f2]) :: (23, .vptr [.int .i64 x0_13.f0, .str x0_13.f1, .int .i64 x0_13.f2]) :: E11)) (hs := [(mkH [])]) (fi := 66) (args := [.str a0, .agg [.int .i64 x0_13.f0, .str x0_13.f1, .int .i64 x0_13.f2]]) (v := .bool x0_15) (by kernel_rfl) (by kernel_rfl) (by kernel_rfl) (g66_ok k a0 (⟨x0_13.f0, x0_13.f1, x0_13.f2⟩ : S46) x0_15 hx0_15) (by kernel_rfl) (opsD_run 3 (l' := (opsAt g49p1).toList.drop 19) (eE := E12) (H' := (mkH [])) (hs := []) (by kernel_rfl) (opsD_env (eE := [(28, .bool false), (27, .bool false), (26, .bool false), (25, .bool x0_15), (24, .agg [.int .i64 x0_13.f0, .str x0_13.f1, .int .i64 x0_13.f2]), (23, .vptr [.int .i64 x0_13.f0, .str x0_13.f1, .int .i64 x0_13.f2]), (22, .int .i64 (fW .i64 (a2 - 1))), (21, .int .i64 a2), (20, .vec (a1).length 3 ((a1).flatMap e47)), (19, .str a0), (18, .bool false), (17, .bool false), (16, .bool false), (15, .int .i64 (a1.length : Int)), (14, .vec (a1).length 3 ((a1).flatMap e47)), (13, .int .i64 a2), (12, .bool false), (11, .bool false), (10, .int .i64 a2), (6, .int .i64 0), (0, .str a0), (1, .vec (a1).length 3 ((a1).flatMap e47)), (2, .int .i64 a2)]) (congrArg (fun z : Bool => ([(28, .bool z), (27, .bool z), (26, .bool z), (25, .bool x0_15), (24, .agg [.int .i64 x0_13.f0, .str x0_13.f1, .int .i64 x0_13.f2]), (23, .vptr [.int .i64 x0_13.f0, .str x0_13.f1, .int .i64 x0_13.f2]), (22, .int .i64 (fW .i64 (a2 - 1))), (21, .int .i64 a2), (20, .vec (a1).length 3 ((a1).flatMap e47)), (19, .str a0), (18, .bool false), (17, .bool false), (16, .bool false), (15, .int .i64 (a1.length : Int)), (14, .vec (a1).length 3 ((a1).flatMap e47)), (13, .int .i64 a2), (12, .bool false), (11, .bool false), (10, .int .i64 a2), (6, .int .i64 0), (0, .str a0), (1, .vec (a1).length 3 ((a1).flatMap e47)), (2, .int .i64 a2)] : Env)) hb6) (opsD_run 3 (l' := (opsAt g49p1).toList.drop 22) (eE := E14) (H' := (mkH [])) (hs := []) (by kernel_rfl) (opsD_chk (l' := (opsAt g49p1).toList.drop 23) (eE := ((32, .vptr [.int .i64 x0_22.f0, .str x0_22.f1, .int .i64 x0_22.f2]) :: E14)) (hs := []) (x := x0_22) (fun (x0_22 : S46) => (.vptr [.int .i64 x0_22.f0, .str x0_22.f1, .int .i64 x0_22.f2], (mkH []))) (vidxH (sz := 3) e47_len (by kernel_rfl)) hx0_22 (by kernel_rfl) (opsD_run 1 (l' := (opsAt g49p1).toList.drop 24) (eE := ((33, .agg [.int .i64 x0_22.f0, .str x0_22.f1, .int .i64 x0_22.f2]) :: (32, .vptr [.int .i64 x0_22.f0, .str x0_22.f1, .int .i64 x0_22.f2]) :: E14)) (H' := (mkH [])) (hs := []) (by kernel_rfl) (opsD_call (l' := (opsAt g49p1).toList.drop 25) (eE := ((34, .bool x0_24) :: (33, .agg [.int .i64 x0_22.f0, .str x0_22.f1, .int .i64 x0_22.f2]) :: (32, .vptr [.int .i64 x0_22.f0, .str x0_22.f1, .int .i64 x0_22.f2]) :: E14)) (hs := [(mkH [])]) (fi := 66) (args := [.str a0, .agg [.int .i64 x0_22.f0, .str x0_22.f1, .int .i64 x0_22.f2]]) (v := .bool x0_24) (by kernel_rfl) (by kernel_rfl) (by kernel_rfl) (g66_ok k a0 (⟨x0_22.f0, x0_22.f1, x0_22.f2⟩ : S46) x0_24 hx0_24) (by kernel_rfl) (opsD_run 3 (l' := (opsAt g49p1).toList.drop 28) (eE := E15) (H' := (mkH [])) (hs := []) (by kernel_rfl) (opsD_env (eE := [(37, .bool false), (36, .bool false), (35, .bool false), (34, .bool x0_24), (33, .agg [.int .i64 x0_22.f0, .str x0_22.f1, .int .i64 x0_22.f2]), (32, .vptr [.int .i64 x0_22.f0, .str x0_22.f1, .int .i64 x0_22.f2]), (31, .int .i64 a2), (30, .vec (a1).length 3 ((a1).flatMap e47)), (29, .str a0), (28, .bool false), (27, .bool false), (26, .bool false), (25, .bool x0_15), (24, .agg [.int .i64 x0_13.f0, .str x0_13.f1, .int .i64 x0_13.f2]), (23, .vptr [.int .i64 x0_13.f0, .str x0_13.f1, .int .i64 x0_13.f2]), (22, .int .i64 (fW .i64 (a2 - 1))), (21, .int .i64 a2), (20, .vec (a1).length 3 ((a1).flatMap e47)), (19, .str a0), (18, .bool false), (17, .bool false), (16, .bool false), (15, .int .i64 (a1.length : Int)), (14, .vec (a1).length 3 ((a1).flatMap e47)), (13, .int .i64 a2), (12, .bool false), (11, .bool false), (10, .int .i64 a2), (6, .int .i64 0), (0, .str a0), (1, .vec (a1).length 3 ((a1).flatMap e47)), (2, .int .i64 a2)]) (congrArg (fun z : Bool => ([(37, .bool z), (36, .bool z), (35, .bool z), (34, .bool x0_24), (33, .agg [.int .i64 x0_22.f0, .str x0_22.f1, .int .i64 x0_22.f2]), (32, .vptr [.int .i64 x0_22.f0, .str x0_22.f1, .int .i64 x0_22.f2]), (31, .int .i64 a2), (30, .vec (a1).length 3 ((a1).flatMap e47)), (29, .str a0), (28, .bool false), (27, .bool false), (26, .bool false), (25, .bool x0_15), (24, .agg [.int .i64 x0_13.f0, .str x0_13.f1, .int .i64 x0_13.f2]), (23, .vptr [.int .i64 x0_13.f0, .str x0_13.f1, .int .i64 x0_13.f2]), (22, .int .i64 (fW .i64 (a2 - 1))), (21, .int .i64 a2), (20, .vec (a1).length 3 ((a1).flatMap e47)), (19, .str a0), (18, .bool false), (17, .bool false), (16, .bool false), (15, .int .i64 (a1.length : Int)), (14, .vec (a1).length 3 ((a1).flatMap e47)), (13, .int .i64 a2), (12, .bool false), (11, .bool false), (10, .int .i64 a2), (6, .int .i64 0), (0, .str a0), (1, .vec (a1).length 3 ((a1).flatMap e47)), (2, .int .i64 a2)] : Env)) hb7) (opsD_run 3 (l' := (opsAt g49p1).toList.drop 31) (eE := E17) (H' := (mkH [])) (hs := []) (by kernel_rfl) (opsD_chk (l' := (opsAt g49p1).toList.drop 32) (eE := ((41, .vptr [.int .i64 x0_31.f0, .str x0_31.f1, .int .i64 x0_31.f2]) :: E17)) (hs := []) (x := x0_31) (fun (x0_31 : S46) => (.vptr [.int .i64 x0_31.f0, .str x0_31.f1, .int .i64 x0_31.f2], (mkH []))) (vidxH (sz := 3) e47_len (by kernel_rfl)) hx0_31 (by kernel_rfl) (opsD_run 1 (l' := (opsAt g49p1).toList.drop 33) (eE := ((42, .agg [.int .i64 x0_31.f0, .str x0_31.f1, .int .i64 x0_31.f2]) :: (41, .vptr [.int .i64 x0_31.f0, .str x0_31.f1, .int .i64 x0_31.f2]) :: E17)) (H' := (mkH [])) (hs := []) (by kernel_rfl) (opsD_call (l' := (opsAt g49p1).toList.drop 34) (eE := ((43, .int .i64 x0_33) :: (42, .agg [.int .i64 x0_31.f0, .str x0_31.f1, .int .i64 x0_31.f2]) :: (41, .vptr [.int .i64 x0_31.f0, .str x0_31.f1, .int .i64 x0_31.f2]) :: E17)) (hs := [(mkH [])]) (fi := 38) (args := [.agg [.int .i64 x0_31.f0, .str x0_31.f1, .int .i64 x0_31.f2]]) (v := .int .i64 x0_33) (by kernel_rfl) (by kernel_rfl) (by kernel_rfl) (g38_ok k (⟨x0_31.f0, x0_31.f1, x0_31.f2⟩ : S46) x0_33 hx0_33) (by kernel_rfl) (opsD_run 2 (l' := (opsAt g49p1).toList.drop 36) (eE := E18) (H' := (mkH [])) (hs := []) (by kernel_rfl) (opsD_chk (l' := (opsAt g49p1).toList.drop 37) (eE := ((46, .vptr [.int .i64 x0_36.f0, .str x0_36.f1, .int .i64 x0_36.f2]) :: E18)) (hs := []) (x := x0_36) (fun (x0_36 : S46) => (.vptr [.int .i64 x0_36.f0, .str x0_36.f1, .int .i64 x0_36.f2], (mkH []))) (vidxH (sz := 3) e47_len (by kernel_rfl)) hx0_36 (by kernel_rfl) (opsD_run 4 (l' := (opsAt g49p1).toList.drop 41) (eE := E19) (H' := (mkH [])) (hs := []) (by kernel_rfl) (.nil)))))))))))))))))))))))) (by kernel_rfl) (by kernel_rfl) (by kernel_rfl) ?_
      refine oK [0, 1, 2, 50] (eE := [(0, .str a0), (1, .vec (a1).length 3 ((a1).flatMap e47)), (2, .int .i64 a2), (50, .bool (decide (x0_36.f2 < x0_33)))]) (by kernel_rfl) ?_
      exact hj4 (decide (x0_36.f2 < x0_33))
end
end Go.Proofs.Ytbmijiibfaacmaa.Am
set_option maxRecDepth 100000
set_option linter.unusedVariables false
namespace Go.Proofs.Ytbmijiibfaacmaa.Am
noncomputable section
open Go
def X36 : Fx Bool := ⟨Try.prog, cx, Try.f36, fun r => .bool r, 0, fun _ => H0, cxTi, cxOrd⟩
def g36p0 : Pt := nav [0] (bodyAt Try.f36)
def g36p1 : Pt := nav [0, 0, 0] g36p0
def g36 (k : Nat) (a0 : (List Nat)) (a1 : (List S46)) (a2 : Int) : Option Bool :=
 (g49 k a0 a1 a2).bind fun x0_3 => some (decide (0 < x0_3))
theorem g36_ok (k : Nat) (a0 : (List Nat)) (a1 : (List S46)) (a2 : Int) (r : Bool) (h : g36 k a0 a1 a2 = some r) : PureOk Try.prog 36 [.str a0, .vec (a1).length 3 ((a1).flatMap e47), .int .i64 a2] (.bool r) := by
 refine pure_of X36 (fun _ => rfl) Try.func36 (by decide +kernel) (by kernel_rfl) (t := g36 k a0 a1 a2) ?_ h
 unfold g36
 refine oE (eE := [(0, .str a0), (1, .vec (a1).length 3 ((a1).flatMap e47)), (2, .int .i64 a2)]) (by kernel_rfl) ?_
 let E1 : Env := [(9, .int .i64 a2), (8, .vec (a1).length 3 ((a1).flatMap e47)), (7, .str a0), (6, .bool false), (0, .str a0), (1, .vec (a1).length 3 ((a1).flatMap e47)), (2, .int .i64 a2)]
 refine oR 9 (p' := (atN 3 (ctl1 g36p1))) (eE := E1) (H' := (mkH [])) (by kernel_rfl) ?_
 refine oC (fun (x0_3 : Int) => .int .i64 x0_3) (atN 4 (ctl1 g36p1)) (fun x0_3 => ((10, .int .i64 x0_3) :: E1)) (fi := 49) (args := [.str a0, .vec (a1).length 3 ((a1).flatMap e47), .int .i64 a2]) (by kernel_rfl) (by kernel_rfl) (fun _ => by kernel_rfl) (fun r h => g49_ok k a0 a1 a2 r h) (fun _ => by kernel_rfl) (fun x0_3 hx0_3 => ?_)
 refine oR 4 (p' := .fin) (eE := ((6, .bool (decide (0 < x0_3))) :: (11, .bool (decide (0 < x0_3))) :: (10, .int .i64 x0_3) :: E1)) (H' := (mkH [])) (by kernel_rfl) ?_
 exact oT (r := (decide (0 < x0_3))) (xs := [.bool (decide (0 < x0_3))]) (v := .bool (decide (0 < x0_3))) (by kernel_rfl) (by kernel_rfl) (by kernel_rfl) (.pures (by kernel_rfl)) (by kernel_rfl)
end
end Go.Proofs.Ytbmijiibfaacmaa.Am
set_option maxRecDepth 100000
set_option linter.unusedVariables false
namespace Go.Proofs.Ytbmijiibfaacmaa.Am
noncomputable section
open Go
def X37 : Fx Bool := ⟨Try.prog, cx, Try.f37, fun r => .bool r, 0, fun _ => H0, cxTi, cxOrd⟩
def g37p0 : Pt := nav [0] (bodyAt Try.f37)
def g37p1 : Pt := nav [0, 0, 0] g37p0
def g37 (k : Nat) (a0 : (List Nat)) (a1 : (List S46)) (a2 : Int) : Option Bool :=
 (g49 k a0 a1 a2).bind fun x0_3 => some (decide (1 < x0_3))
theorem g37_ok (k : Nat) (a0 : (List Nat)) (a1 : (List S46)) (a2 : Int) (r : Bool) (h : g37 k a0 a1 a2 = some r) : PureOk Try.prog 37 [.str a0, .vec (a1).length 3 ((a1).flatMap e47), .int .i64 a2] (.bool r) := by
 refine pure_of X37 (fun _ => rfl) Try.func37 (by decide +kernel) (by kernel_rfl) (t := g37 k a0 a1 a2) ?_ h
 unfold g37
 refine oE (eE := [(0, .str a0), (1, .vec (a1).length 3 ((a1).flatMap e47)), (2, .int .i64 a2)]) (by kernel_rfl) ?_
 let E1 : Env := [(9, .int .i64 a2), (8, .vec (a1).length 3 ((a1).flatMap e47)), (7, .str a0), (6, .bool false), (0, .str a0), (1, .vec (a1).length 3 ((a1).flatMap e47)), (2, .int .i64 a2)]
 refine oR 9 (p' := (atN 3 (ctl1 g37p1))) (eE := E1) (H' := (mkH [])) (by kernel_rfl) ?_
 refine oC (fun (x0_3 : Int) => .int .i64 x0_3) (atN 4 (ctl1 g37p1)) (fun x0_3 => ((10, .int .i64 x0_3) :: E1)) (fi := 49) (args := [.str a0, .vec (a1).length 3 ((a1).flatMap e47), .int .i64 a2]) (by kernel_rfl) (by kernel_rfl) (fun _ => by kernel_rfl) (fun r h => g49_ok k a0 a1 a2 r h) (fun _ => by kernel_rfl) (fun x0_3 hx0_3 => ?_)
 refine oR 4 (p' := .fin) (eE := ((6, .bool (decide (1 < x0_3))) :: (11, .bool (decide (1 < x0_3))) :: (10, .int .i64 x0_3) :: E1)) (H' := (mkH [])) (by kernel_rfl) ?_
 exact oT (r := (decide (1 < x0_3))) (xs := [.bool (decide (1 < x0_3))]) (v := .bool (decide (1 < x0_3))) (by kernel_rfl) (by kernel_rfl) (by kernel_rfl) (.pures (by kernel_rfl)) (by kernel_rfl)
end
end Go.Proofs.Ytbmijiibfaacmaa.Am
set_option maxRecDepth 100000
set_option linter.unusedVariables false
namespace Go.Proofs.Ytbmijiibfaacmaa.Am
noncomputable section
open Go
def X48 : Fx Int := ⟨Try.prog, cx, Try.f48, fun r => .int .i64 r, 0, fun _ => H0, cxTi, cxOrd⟩
def g48 (k : Nat) (a0 : S46) : Option Int :=
 some (fW .i64 (a0.f2 + (a0.f1.length : Int)))
theorem g48_ok (k : Nat) (a0 : S46) (r : Int) (h : g48 k a0 = some r) : PureOk Try.prog 48 [.agg [.int .i64 a0.f0, .str a0.f1, .int .i64 a0.f2]] (.int .i64 r) := by
 refine pure_of X48 (fun _ => rfl) Try.func48 (by decide +kernel) (by kernel_rfl) (t := g48 k a0) ?_ h
 unfold g48
 refine oE (eE := [(0, .agg [.int .i64 a0.f0, .str a0.f1, .int .i64 a0.f2])]) (by kernel_rfl) ?_
 let E1 : Env := [(2, .int .i64 (fW .i64 (a0.f2 + (a0.f1.length : Int)))), (8, .int .i64 (fW .i64 (a0.f2 + (a0.f1.length : Int)))), (7, .int .i64 (a0.f1.length : Int)), (6, .str a0.f1), (5, .ptr 0 3 1), (4, .int .i64 a0.f2), (3, .ptr 0 3 2), (2, .int .i64 0), (1, .ptr 0 3 0), (0, .agg [.int .i64 a0.f0, .str a0.f1, .int .i64 a0.f2])]
 refine oR 16 (p' := .fin) (eE := E1) (H' := (mkH [⟨[.int .i64 a0.f0, .str a0.f1, .int .i64 a0.f2], 0, false⟩])) (by kernel_rfl) ?_
 exact oT (r := (fW .i64 (a0.f2 + (a0.f1.length : Int)))) (xs := [.int .i64 (fW .i64 (a0.f2 + (a0.f1.length : Int)))]) (v := .int .i64 (fW .i64 (a0.f2 + (a0.f1.length : Int)))) (by kernel_rfl) (by kernel_rfl) (by kernel_rfl) (.pures (by kernel_rfl)) (by kernel_rfl)
end
end Go.Proofs.Ytbmijiibfaacmaa.Am
set_option maxRecDepth 100000
set_option linter.unusedVariables false
namespace Go.Proofs.Ytbmijiibfaacmaa.Am
noncomputable section
open Go
def X35 : Fx Int := ⟨Try.prog, cx, Try.f35, fun r => .int .i64 r, 0, fun _ => H0, cxTi, cxOrd⟩
def g35p0 : Pt := nav [0] (bodyAt Try.f35)
def g35p1 : Pt := nav [0, 0, 0] g35p0
def g35p2 : Pt := nav [0, 0, 0, 0] g35p1
def g35p3 : Pt := nav [0, 0] g35p2
def g35p5 : Pt := nav [2, 0, 0, 0] g35p3
def g35p7 : Pt := nav [0, 0, 0, 0] g35p5
def g35p8 : Pt := nav [0, 0, 0] g35p7
def g35p9 : Pt := nav [0, 0] g35p8
def g35p10 : Pt := nav [1, 0, 0, 0, 0] g35p9
def g35p12 : Pt := nav [0, 0] g35p10
def g35p14 : Pt := nav [2, 0] g35p12
def g35_l4 (k : Nat)  (a0 : (List Nat)) (a1 : (List S46)) (a2 : Int) (n : Nat) : Int → Int → Option Int :=
 Nat.rec (motive := fun _ => Int → Int → Option Int) (fun _ _ => none) (fun _ ih => fun (y4_0 : Int) (y4_1 : Int) => (nthL a1 a2).bind fun x1_3 => if (decide (y4_1 < x1_3.f2)) then ((nthS a0 y4_1).bind fun x2_2 => jn (fun (z5 : Int × Int) => ih z5.1 (fW .i64 (z5.2 + 1))) (fun j5 => if (decide (x2_2 = 10)) then (j5 (fW .i64 (y4_0 + 1), y4_1)) else (j5 (y4_0, y4_1)))) else (some y4_0)) n
theorem g35_l4_s (k : Nat)  (a0 : (List Nat)) (a1 : (List S46)) (a2 : Int) (n : Nat) (y4_0 : Int) (y4_1 : Int) : g35_l4 k a0 a1 a2 (n + 1) y4_0 y4_1 = ((nthL a1 a2).bind fun x1_3 => if (decide (y4_1 < x1_3.f2)) then ((nthS a0 y4_1).bind fun x2_2 => jn (fun (z5 : Int × Int) => (g35_l4 k a0 a1 a2 n) z5.1 (fW .i64 (z5.2 + 1))) (fun j5 => if (decide (x2_2 = 10)) then (j5 (fW .i64 (y4_0 + 1), y4_1)) else (j5 (y4_0, y4_1)))) else (some y4_0)) := rfl
theorem g35_l4_ok (k : Nat)  (a0 : (List Nat)) (a1 : (List S46)) (a2 : Int)  : ∀ (n : Nat) (y4_0 : Int) (y4_1 : Int), Ok X35 g35p7 [(0, .str a0), (1, .vec (a1).length 3 ((a1).flatMap e47)), (2, .int .i64 a2), (7, .int .i64 y4_0), (8, .int .i64 y4_1)] (mkH []) (g35_l4 k a0 a1 a2 n y4_0 y4_1)
 | 0, _, _ => ok_none
 | n + 1, y4_0, y4_1 => by
  have ih := g35_l4_ok k a0 a1 a2 n
  rw [g35_l4_s]
  refine ok_ent (p' := nav [0] g35p7) (by kernel_rfl) ?_
  let E4 : Env := [(25, .int .i64 a2), (24, .vec (a1).length 3 ((a1).flatMap e47)), (23, .int .i64 y4_1), (0, .str a0), (1, .vec (a1).length 3 ((a1).flatMap e47)), (2, .int .i64 a2), (7, .int .i64 y4_0), (8, .int .i64 y4_1)]
  refine oR 6 (p' := (atN 3 (ctl1 g35p8))) (eE := E4) (H' := (mkH [])) (by kernel_rfl) ?_
  refine oH (fun (x1_3 : S46) => (.vptr [.int .i64 x1_3.f0, .str x1_3.f1, .int .i64 x1_3.f2], (mkH []))) (atN 4 (ctl1 g35p8)) (fun x1_3 => ((26, .vptr [.int .i64 x1_3.f0, .str x1_3.f1, .int .i64 x1_3.f2]) :: E4)) (vidxH (sz := 3) e47_len (by kernel_rfl)) (fun _ => by kernel_rfl) (fun x1_3 hx1_3 => ?_)
  refine oR 4 (p' := g35p9) (eE := ((29, .bool (decide (y4_1 < x1_3.f2))) :: (28, .int .i64 x1_3.f2) :: (27, .vptr [.int .i64 x1_3.f2]) :: (26, .vptr [.int .i64 x1_3.f0, .str x1_3.f1, .int .i64 x1_3.f2]) :: E4)) (H' := (mkH [])) (by kernel_rfl) ?_
  refine oS 29 (b := decide (y4_1 < x1_3.f2)) (by kernel_rfl) (fun hb => ?_) (fun hb => ?_)
  ·let E5 : Env := ((33, .int .i64 y4_1) :: (32, .str a0) :: (29, .bool true) :: (29, .bool (decide (y4_1 < x1_3.f2))) :: (28, .int .i64 x1_3.f2) :: (27, .vptr [.int .i64 x1_3.f2]) :: (26, .vptr [.int .i64 x1_3.f0, .str x1_3.f1, .int .i64 x1_3.f2]) :: E4)
   refine oR 8 (p' := (atN 2 (ctl1 g35p10))) (eE := E5) (H' := (mkH [])) (by kernel_rfl) ?_
   refine oH (fun (x2_2 : Int) => (.int .u8 x2_2, (mkH []))) (atN 3 (ctl1 g35p10)) (fun x2_2 => ((34, .int .u8 x2_2) :: E5)) (idxH (by kernel_rfl)) (fun _ => by kernel_rfl) (fun x2_2 hx2_2 => ?_)
   refine oR 2 (p' := g35p12) (eE := ((35, .bool (decide (x2_2 = 10))) :: (34, .int .u8 x2_2) :: E5)) (H' := (mkH [])) (by kernel_rfl) ?_
   refine oK [0, 1, 2, 7, 8, 35] (eE := [(0, .str a0), (1, .vec (a1).length 3 ((a1).flatMap e47)), (2, .int .i64 a2), (7, .int .i64 y4_0), (8, .int .i64 y4_1), (35, .bool (decide (x2_2 = 10)))]) (by kernel_rfl) ?_
   refine oJ (f := fun (z5 : Int × Int) => (g35_l4 k a0 a1 a2 n) z5.1 (fW .i64 (z5.2 + 1))) g35p14 (fun (z5 : Int × Int) => [(0, .str a0), (1, .vec (a1).length 3 ((a1).flatMap e47)), (2, .int .i64 a2), (7, .int .i64 z5.1), (8, .int .i64 z5.2)]) (fun (z5 : Int × Int) => (mkH [])) (fun z5 => ?_) (fun j5 hj5 => ?_)
   ·let E6 : Env := [(8, .int .i64 (fW .i64 (z5.2 + 1))), (31, .int .i64 (fW .i64 (z5.2 + 1))), (30, .int .i64 z5.2), (0, .str a0), (1, .vec (a1).length 3 ((a1).flatMap e47)), (2, .int .i64 a2), (7, .int .i64 z5.1), (8, .int .i64 z5.2)]
    refine oR 5 (p' := g35p7) (eE := E6) (H' := (mkH [])) (by kernel_rfl) ?_
    refine oK [0, 1, 2, 7, 8] (eE := [(0, .str a0), (1, .vec (a1).length 3 ((a1).flatMap e47)), (2, .int .i64 a2), (7, .int .i64 z5.1), (8, .int .i64 (fW .i64 (z5.2 + 1)))]) (by kernel_rfl) ?_
    exact ih z5.1 (fW .i64 (z5.2 + 1))
   ·refine oS 35 (b := decide (x2_2 = 10)) (by kernel_rfl) (fun hb => ?_) (fun hb => ?_)
    ·let E7 : Env := [(7, .int .i64 (fW .i64 (y4_0 + 1))), (37, .int .i64 (fW .i64 (y4_0 + 1))), (36, .int .i64 y4_0), (35, .bool true), (0, .str a0), (1, .vec (a1).length 3 ((a1).flatMap e47)), (2, .int .i64 a2), (7, .int .i64 y4_0), (8, .int .i64 y4_1), (35, .bool (decide (x2_2 = 10)))]
     refine oR 6 (p' := g35p14) (eE := E7) (H' := (mkH [])) (by kernel_rfl) ?_
     refine oK [0, 1, 2, 7, 8] (eE := [(0, .str a0), (1, .vec (a1).length 3 ((a1).flatMap e47)), (2, .int .i64 a2), (7, .int .i64 (fW .i64 (y4_0 + 1))), (8, .int .i64 y4_1)]) (by kernel_rfl) ?_
     exact hj5 (fW .i64 (y4_0 + 1), y4_1)
    ·let E8 : Env := [(35, .bool false), (0, .str a0), (1, .vec (a1).length 3 ((a1).flatMap e47)), (2, .int .i64 a2), (7, .int .i64 y4_0), (8, .int .i64 y4_1), (35, .bool (decide (x2_2 = 10)))]
     refine oR 2 (p' := g35p14) (eE := E8) (H' := (mkH [])) (by kernel_rfl) ?_
     refine oK [0, 1, 2, 7, 8] (eE := [(0, .str a0), (1, .vec (a1).length 3 ((a1).flatMap e47)), (2, .int .i64 a2), (7, .int .i64 y4_0), (8, .int .i64 y4_1)]) (by kernel_rfl) ?_
     exact hj5 (y4_0, y4_1)
  ·let E9 : Env := ((6, .int .i64 y4_0) :: (38, .int .i64 y4_0) :: (29, .bool false) :: (29, .bool (decide (y4_1 < x1_3.f2))) :: (28, .int .i64 x1_3.f2) :: (27, .vptr [.int .i64 x1_3.f2]) :: (26, .vptr [.int .i64 x1_3.f0, .str x1_3.f1, .int .i64 x1_3.f2]) :: E4)
   refine oR 8 (p' := .fin) (eE := E9) (H' := (mkH [])) (by kernel_rfl) ?_
   exact oT (r := y4_0) (xs := [.int .i64 y4_0]) (v := .int .i64 y4_0) (by kernel_rfl) (by kernel_rfl) (by kernel_rfl) (.pures (by kernel_rfl)) (by kernel_rfl)
def g35 (k : Nat) (a0 : (List Nat)) (a1 : (List S46)) (a2 : Int) : Option Int :=
 jn (fun (z3 : Bool) => if z3 then (some (0 : Int)) else ((nthL a1 (fW .i64 (a2 - 1))).bind fun x0_3 => (g48 k (⟨x0_3.f0, x0_3.f1, x0_3.f2⟩ : S46)).bind fun x0_5 => g35_l4 k a0 a1 a2 k 0 x0_5)) (fun j3 => if (decide (a2 < 1)) then (j3 true) else (j3 (decide ((a1.length : Int) ≤ a2))))
theorem g35_ok (k : Nat) (a0 : (List Nat)) (a1 : (List S46)) (a2 : Int) (r : Int) (h : g35 k a0 a1 a2 = some r) : PureOk Try.prog 35 [.str a0, .vec (a1).length 3 ((a1).flatMap e47), .int .i64 a2] (.int .i64 r) := by
 refine pure_of X35 (fun _ => rfl) Try.func35 (by decide +kernel) (by kernel_rfl) (t := g35 k a0 a1 a2) ?_ h
 unfold g35
 refine oE (eE := [(0, .str a0), (1, .vec (a1).length 3 ((a1).flatMap e47)), (2, .int .i64 a2)]) (by kernel_rfl) ?_
 let E1 : Env := [(11, .bool (decide (a2 < 1))), (10, .bool (decide (a2 < 1))), (9, .int .i64 a2), (7, .int .i64 0), (6, .int .i64 0), (0, .str a0), (1, .vec (a1).length 3 ((a1).flatMap e47)), (2, .int .i64 a2)]
 refine oR 14 (p' := (atN 3 (ctl1 g35p2))) (eE := E1) (H' := (mkH [])) (by kernel_rfl) ?_
 refine oJ (f := fun (z3 : Bool) => if z3 then (some (0 : Int)) else ((nthL a1 (fW .i64 (a2 - 1))).bind fun x0_3 => (g48 k (⟨x0_3.f0, x0_3.f1, x0_3.f2⟩ : S46)).bind fun x0_5 => g35_l4 k a0 a1 a2 k 0 x0_5)) g35p3 (fun (z3 : Bool) => [(0, .str a0), (1, .vec (a1).length 3 ((a1).flatMap e47)), (2, .int .i64 a2), (7, .int .i64 0), (16, .bool z3)]) (fun (z3 : Bool) => (mkH [])) (fun z3 => ?_) (fun j3 hj3 => ?_)
 ·refine oS 16 (b := z3) (by kernel_rfl) (fun hb => ?_) (fun hb => ?_)
  ·let E2 : Env := [(6, .int .i64 0), (16, .bool true), (0, .str a0), (1, .vec (a1).length 3 ((a1).flatMap e47)), (2, .int .i64 a2), (7, .int .i64 0), (16, .bool z3)]
   refine oR 6 (p' := .fin) (eE := E2) (H' := (mkH [])) (by kernel_rfl) ?_
   exact oT (r := (0 : Int)) (xs := [.int .i64 0]) (v := .int .i64 0) (by kernel_rfl) (by kernel_rfl) (by kernel_rfl) (.pures (by kernel_rfl)) (by kernel_rfl)
  ·let E3 : Env := [(19, .int .i64 (fW .i64 (a2 - 1))), (18, .int .i64 a2), (17, .vec (a1).length 3 ((a1).flatMap e47)), (16, .bool false), (0, .str a0), (1, .vec (a1).length 3 ((a1).flatMap e47)), (2, .int .i64 a2), (7, .int .i64 0), (16, .bool z3)]
   refine oR 8 (p' := (atN 3 (ctl1 g35p5))) (eE := E3) (H' := (mkH [])) (by kernel_rfl) ?_
   refine oH (fun (x0_3 : S46) => (.vptr [.int .i64 x0_3.f0, .str x0_3.f1, .int .i64 x0_3.f2], (mkH []))) (atN 4 (ctl1 g35p5)) (fun x0_3 => ((20, .vptr [.int .i64 x0_3.f0, .str x0_3.f1, .int .i64 x0_3.f2]) :: E3)) (vidxH (sz := 3) e47_len (by kernel_rfl)) (fun _ => by kernel_rfl) (fun x0_3 hx0_3 => ?_)
   refine oR 1 (p' := (atN 5 (ctl1 g35p5))) (eE := ((21, .agg [.int .i64 x0_3.f0, .str x0_3.f1, .int .i64 x0_3.f2]) :: (20, .vptr [.int .i64 x0_3.f0, .str x0_3.f1, .int .i64 x0_3.f2]) :: E3)) (H' := (mkH [])) (by kernel_rfl) ?_
   refine oC (fun (x0_5 : Int) => .int .i64 x0_5) (atN 6 (ctl1 g35p5)) (fun x0_5 => ((22, .int .i64 x0_5) :: (21, .agg [.int .i64 x0_3.f0, .str x0_3.f1, .int .i64 x0_3.f2]) :: (20, .vptr [.int .i64 x0_3.f0, .str x0_3.f1, .int .i64 x0_3.f2]) :: E3)) (fi := 48) (args := [.agg [.int .i64 x0_3.f0, .str x0_3.f1, .int .i64 x0_3.f2]]) (by kernel_rfl) (by kernel_rfl) (fun _ => by kernel_rfl) (fun r h => g48_ok k (⟨x0_3.f0, x0_3.f1, x0_3.f2⟩ : S46) r h) (fun _ => by kernel_rfl) (fun x0_5 hx0_5 => ?_)
   refine oR 4 (p' := g35p7) (eE := ((8, .int .i64 x0_5) :: (22, .int .i64 x0_5) :: (21, .agg [.int .i64 x0_3.f0, .str x0_3.f1, .int .i64 x0_3.f2]) :: (20, .vptr [.int .i64 x0_3.f0, .str x0_3.f1, .int .i64 x0_3.f2]) :: E3)) (H' := (mkH [])) (by kernel_rfl) ?_
   refine oK [0, 1, 2, 7, 8] (eE := [(0, .str a0), (1, .vec (a1).length 3 ((a1).flatMap e47)), (2, .int .i64 a2), (7, .int .i64 0), (8, .int .i64 x0_5)]) (by kernel_rfl) ?_
   exact (g35_l4_ok k a0 a1 a2 k) 0 x0_5
 ·refine oS 11 (b := decide (a2 < 1)) (by kernel_rfl) (fun hb => ?_) (fun hb => ?_)
  ·let E10 : Env := ((16, .bool true) :: (15, .tuple []) :: (14, .tuple []) :: (13, .tuple []) :: (12, .tuple []) :: (11, .bool true) :: E1)
   refine oR 6 (p' := g35p3) (eE := E10) (H' := (mkH [])) (by kernel_rfl) ?_
   refine oK [0, 1, 2, 7, 16] (eE := [(0, .str a0), (1, .vec (a1).length 3 ((a1).flatMap e47)), (2, .int .i64 a2), (7, .int .i64 0), (16, .bool true)]) (by kernel_rfl) ?_
   exact hj3 true
  ·let E11 : Env := ((16, .bool (decide ((a1.length : Int) ≤ a2))) :: (15, .bool (decide ((a1.length : Int) ≤ a2))) :: (14, .int .i64 (a1.length : Int)) :: (13, .vec (a1).length 3 ((a1).flatMap e47)) :: (12, .int .i64 a2) :: (11, .bool false) :: E1)
   refine oR 6 (p' := g35p3) (eE := E11) (H' := (mkH [])) (by kernel_rfl) ?_
   refine oK [0, 1, 2, 7, 16] (eE := [(0, .str a0), (1, .vec (a1).length 3 ((a1).flatMap e47)), (2, .int .i64 a2), (7, .int .i64 0), (16, .bool (decide ((a1.length : Int) ≤ a2)))]) (by kernel_rfl) ?_
   exact hj3 (decide ((a1.length : Int) ≤ a2))
end
end Go.Proofs.Ytbmijiibfaacmaa.Am
set_option maxRecDepth 100000
set_option linter.unusedVariables false
set_option linter.unusedSimpArgs false
namespace Go.Proofs.Ytbmijiibfaacmaa.Am
open Go
def nlF (s : List Nat) (e : Nat) : Nat → Nat → Nat
 | 0, _ => 0
 | d + 1, i => if e ≤ i then 0 else (match s.drop i with | c :: _ => if c = 10 then 1 else 0 | [] => 0) + nlF s e d (i + 1)
def gapN (s : List Nat) (l : List (Nat × Nat × Nat)) (k : Nat) : Nat := match l.drop (k - 1) with | x :: y :: _ => nlF s y.2.1 (y.2.1 - (x.2.1 + x.2.2)) (x.2.1 + x.2.2) | _ => 0
def gapI (s : List Nat) (l : List (Nat × Nat × Nat)) (k : Int) : Nat := if 1 ≤ k ∧ k < l.length then gapN s l k.toNat else 0
theorem toks_pair {s : List Nat} : ∀ {l : List (Nat × Nat × Nat)} {a i : Nat} {x y : Nat × Nat × Nat} {r : List (Nat × Nat × Nat)}, Toks s a l → l.drop i = x :: y :: r → x.2.1 + x.2.2 ≤ y.2.1
 | [], a, i, x, y, r, h, hd => by simp at hd
 | z :: l, a, 0, x, y, r, h, hd => by
  rw [List.drop_zero] at hd
  obtain ⟨rfl, rfl⟩ := List.cons.inj hd
  simp only [Toks] at h
  omega
 | z :: l, a, i + 1, x, y, r, h, hd => by
  rw [List.drop_succ_cons] at hd
  simp only [Toks] at h
  exact toks_pair h.2.2.2.2 hd
theorem map_drop' {α β : Type} {f : α → β} {l : List α} {i : Nat} {x : α} {r : List α} (h : l.drop i = x :: r) : nthL (l.map f) (i : Int) = some (f x) := by
 refine nthL_at (r := r.map f) ?_
 rw [← List.map_drop, h]; rfl
theorem pair_at {l : List (Nat × Nat × Nat)} {k : Nat} (h1 : 1 ≤ k) (h2 : k < l.length) : ∃ x y r, l.drop (k - 1) = x :: y :: r ∧ l.drop k = y :: r ∧ x ∈ l ∧ y ∈ l := by
 obtain ⟨x, r, hx, hr, hxm, -⟩ := dconsL (s := l) (i := k - 1) (by omega)
 obtain ⟨y, r2, hy, -, hym, -⟩ := dconsL (s := l) (i := k) h2
 rw [show k - 1 + 1 = k by omega, hy] at hr
 exact ⟨x, y, r2, by rw [hx, ← hr], hy, hxm, hym⟩
theorem tok_end {s : List Nat} {x : Nat × Nat × Nat} (h : x.2.1 + x.2.2 ≤ s.length) : (mkTok s x).f2 + ((mkTok s x).f1.length : Int) = ((x.2.1 + x.2.2 : Nat) : Int) := by
 have : ((s.drop x.2.1).take x.2.2).length = x.2.2 := by rw [List.length_take, List.length_drop]; omega
 show (x.2.1 : Int) + (((s.drop x.2.1).take x.2.2).length : Int) = _
 rw [this]; push_cast; rfl
theorem rnewl_l (k : Nat) {s : List Nat} (hl : s.length ≤ 2000) {L : List S46} {kk : Int} {y : Nat × Nat × Nat} (hk : nthL L kk = some (mkTok s y)) (hy : y.2.1 ≤ s.length) : ∀ (d f i c : Nat), i + d = y.2.1 → d < f → c ≤ i →
 g35_l4 k s L kk f (c : Int) (i : Int) = some ((c + nlF s y.2.1 d i : Nat) : Int)
 | 0, f, i, c, h, hf, hc => by
  obtain ⟨f, rfl⟩ : ∃ g, f = g + 1 := ⟨f - 1, by omega⟩
  rw [g35_l4_s]
  refine bS (by (try simp (disch := omega) only [fwI]); exact hk) ?_
  refine iF (dF (show ¬ (i : Int) < (y.2.1 : Int) by omega)) ?_
  rfl
 | d + 1, f, i, c, h, hf, hc => by
  obtain ⟨f, rfl⟩ : ∃ g, f = g + 1 := ⟨f - 1, by omega⟩
  rw [g35_l4_s]
  refine bS (by (try simp (disch := omega) only [fwI]); exact hk) ?_
  obtain ⟨b, r, hb, -, -, -⟩ := dcons (s := s) (i := i) (by omega)
  have nb := nthX (x := (i : Int)) rfl hb
  refine iT (dT (show (i : Int) < (y.2.1 : Int) by omega)) ?_
  refine bS (by (try simp (disch := omega) only [fwI]); exact nb) ?_
  simp only [nlF]
  rw [if_neg (by omega), hb]
  simp only []
  by_cases h10 : b = 10
  ·have ih := rnewl_l k hl hk hy d f (i + 1) (c + 1) (by omega) (by omega) (by omega)
   refine (jS (v := (((c + 1 : Nat) : Int), (i : Int))) (fun j => ?_)).trans ?_
   ·refine iT (dT (by omega)) ?_
    rw [fw_s (by omega)]
   ·show g35_l4 k s L kk f ((c + 1 : Nat) : Int) (fW .i64 ((i : Int) + 1)) = _
    rw [fw_s (by omega), if_pos h10]
    exact ih.trans (sn (by omega))
  ·have ih := rnewl_l k hl hk hy d f (i + 1) c (by omega) (by omega) (by omega)
   refine (jS (v := ((c : Int), (i : Int))) (fun j => ?_)).trans ?_
   ·exact iF (dF (by omega)) rfl
   ·show g35_l4 k s L kk f (c : Int) (fW .i64 ((i : Int) + 1)) = _
    rw [fw_s (by omega), if_neg h10]
    exact ih.trans (sn (by omega))
theorem rnewl_at {k : Nat} {s : List Nat} (hk : s.length + 10 ≤ k) (hl : s.length ≤ 2000) {l : List (Nat × Nat × Nat)} (ht : Toks s 0 l) (kk : Int) : g35 k s (l.map (mkTok s)) kk = some ((gapI s l kk : Nat) : Int) := by
 unfold g35 gapI
 have ll : ((l.map (mkTok s)).length : Int) = (l.length : Int) := by simp
 by_cases h : 1 ≤ kk ∧ kk < l.length
 ·rw [if_pos h]
  obtain ⟨n, rfl⟩ : ∃ n : Nat, kk = (n : Int) := ⟨kk.toNat, by omega⟩
  obtain ⟨x, y, r, h1, h2, h3, h4⟩ := pair_at (l := l) (k := n) (by omega) (by omega)
  have bx := toks_bounds ht (Nat.zero_le _) x h3
  have bY := toks_bounds ht (Nat.zero_le _) y h4
  have pr := toks_pair ht h1
  have cl : l.length ≤ s.length := toks_len s (s.length + 1) 0 l ((toks_iff s (s.length + 1) 0 l (by omega)).2 ht) (Nat.zero_le _)
  refine (jS (v := false) (fun j => ?_)).trans ?_
  ·refine iF (dF (by omega)) ?_
   rw [dF (by omega)]
  ·refine iF rfl ?_
   rw [show fW .i64 ((n : Int) - 1) = ((n - 1 : Nat) : Int) from by rw [fwI (by omega) (by omega)]; omega]
   refine bS (by (try simp (disch := omega) only [fwI]); exact map_drop' h1) ?_
   have ge : g48 k (⟨(mkTok s x).f0, (mkTok s x).f1, (mkTok s x).f2⟩ : S46) = some ((x.2.1 + x.2.2 : Nat) : Int) := by
    unfold g48
    show some (fW .i64 ((mkTok s x).f2 + ((mkTok s x).f1.length : Int))) = _
    rw [tok_end bx.2.1, fwI (by omega) (by omega)]
   refine bS (by (try simp (disch := omega) only [fwI]); exact ge) ?_
   refine (rnewl_l k hl (map_drop' h2) (by omega) (y.2.1 - (x.2.1 + x.2.2)) k (x.2.1 + x.2.2) 0 (by omega) (by omega) (by omega)).trans ?_
   rw [Int.toNat_natCast]
   unfold gapN
   rw [h1, Nat.zero_add]
 ·rw [if_neg h]
  refine (jS (v := true) (fun j => ?_)).trans rfl
  by_cases h1 : kk < 1
  ·exact iT (dT h1) rfl
  ·refine iF (dF h1) ?_
   rw [dT (by omega)]
theorem ends_l (k : Nat) {s : List Nat} (hl : s.length ≤ 2000) {L : List S46} {kk : Int} {y : Nat × Nat × Nat} (hk : nthL L kk = some (mkTok s y)) (hy : y.2.1 ≤ s.length) : ∀ (d f i c : Nat), i + d = y.2.1 → d < f → c ≤ i →
 g49_l5 k s L kk f (i : Int) (c : Int) = some ((c + nlF s y.2.1 d i : Nat) : Int)
 | 0, f, i, c, h, hf, hc => by
  obtain ⟨f, rfl⟩ : ∃ g, f = g + 1 := ⟨f - 1, by omega⟩
  rw [g49_l5_s]
  refine bS (by (try simp (disch := omega) only [fwI]); exact hk) ?_
  refine iF (dF (show ¬ (i : Int) < (y.2.1 : Int) by omega)) ?_
  rfl
 | d + 1, f, i, c, h, hf, hc => by
  obtain ⟨f, rfl⟩ : ∃ g, f = g + 1 := ⟨f - 1, by omega⟩
  rw [g49_l5_s]
  refine bS (by (try simp (disch := omega) only [fwI]); exact hk) ?_
  obtain ⟨b, r, hb, -, -, -⟩ := dcons (s := s) (i := i) (by omega)
  have nb := nthX (x := (i : Int)) rfl hb
  refine iT (dT (show (i : Int) < (y.2.1 : Int) by omega)) ?_
  refine bS (by (try simp (disch := omega) only [fwI]); exact nb) ?_
  have gc : g49f67_0 k (b : Int) (c : Int) = some ((c + (if b = 10 then 1 else 0) : Nat) : Int) := by
   unfold g49f67_0
   by_cases h10 : b = 10
   ·rw [if_pos h10]
    refine iT (dT (by omega)) ?_
    rw [fw_s (by omega)]
   ·rw [if_neg h10]
    exact iF (dF (by omega)) rfl
  refine bS (by (try simp (disch := omega) only [fwI]); exact gc) ?_
  simp only [nlF]
  rw [if_neg (show ¬ y.2.1 ≤ i by omega), hb, fw_s (n := i) (by omega)]
  simp only []
  clear gc
  have hle : (if b = 10 then 1 else 0) ≤ 1 := by split <;> omega
  generalize (if b = 10 then 1 else 0) = z at *
  have ih := ends_l k hl hk hy d f (i + 1) (c + z) (by omega) (by omega) (by omega)
  exact ih.trans (sn (by omega))
theorem in_at {k : Nat} {s : List Nat} (hl : s.length ≤ 2000) {x : Nat × Nat × Nat} (h : x.2.1 + x.2.2 ≤ s.length) : g66 k s (⟨(mkTok s x).f0, (mkTok s x).f1, (mkTok s x).f2⟩ : S46) = some true := by
 have tl : ((s.drop x.2.1).take x.2.2).length = x.2.2 := by rw [List.length_take, List.length_drop]; omega
 unfold g66
 refine iT (dT (show (0 : Int) ≤ (x.2.1 : Int) by omega)) ?_
 refine iT (dT (show (x.2.1 : Int) ≤ (s.length : Int) by omega)) ?_
 show some (decide ((((s.drop x.2.1).take x.2.2).length : Int) ≤ fW .i64 ((s.length : Int) - (x.2.1 : Int)))) = _
 rw [tl, fw_d (by omega) (by omega), dT (by omega)]
theorem gend_at {k : Nat} {s : List Nat} (hl : s.length ≤ 2000) {x : Nat × Nat × Nat} (h : x.2.1 + x.2.2 ≤ s.length) : g38 k (⟨(mkTok s x).f0, (mkTok s x).f1, (mkTok s x).f2⟩ : S46) = some ((x.2.1 + x.2.2 : Nat) : Int) := by
 unfold g38
 show some (fW .i64 ((mkTok s x).f2 + ((mkTok s x).f1.length : Int))) = _
 rw [tok_end h, fwI (by omega) (by omega)]
theorem ends_at {k : Nat} {s : List Nat} (hk : s.length + 10 ≤ k) (hl : s.length ≤ 2000) {l : List (Nat × Nat × Nat)} (ht : Toks s 0 l) (kk : Int) : g49 k s (l.map (mkTok s)) kk = some ((gapI s l kk : Nat) : Int) := by
 unfold g49 gapI
 have ll : ((l.map (mkTok s)).length : Int) = (l.length : Int) := by simp
 by_cases h : 1 ≤ kk ∧ kk < l.length
 ·rw [if_pos h]
  obtain ⟨n, rfl⟩ : ∃ n : Nat, kk = (n : Int) := ⟨kk.toNat, by omega⟩
  obtain ⟨x, y, r, h1, h2, h3, h4⟩ := pair_at (l := l) (k := n) (by omega) (by omega)
  have bx := toks_bounds ht (Nat.zero_le _) x h3
  have bY := toks_bounds ht (Nat.zero_le _) y h4
  have cl : l.length ≤ s.length := toks_len s (s.length + 1) 0 l ((toks_iff s (s.length + 1) 0 l (by omega)).2 ht) (Nat.zero_le _)
  have pr := toks_pair ht h1
  have e1 := fun _ : Unit => (show fW .i64 ((n : Int) - 1) = ((n - 1 : Nat) : Int) from by rw [fwI (by omega) (by omega)]; omega)
  refine (jS (v := false) (fun j => ?_)).trans ?_
  ·refine iF (dF (by omega)) ?_
   refine iF (dF (by omega)) ?_
   rw [e1 ()]
   refine bS (by (try simp (disch := omega) only [fwI]); exact map_drop' h1) ?_
   refine bS (by (try simp (disch := omega) only [fwI]); exact in_at hl bx.2.1) ?_
   refine iF rfl ?_
   refine bS (by (try simp (disch := omega) only [fwI]); exact map_drop' h2) ?_
   refine bS (by (try simp (disch := omega) only [fwI]); exact in_at hl bY.2.1) ?_
   refine iF rfl ?_
   refine bS (by (try simp (disch := omega) only [fwI]); exact map_drop' h1) ?_
   refine bS (by (try simp (disch := omega) only [fwI]); exact gend_at hl bx.2.1) ?_
   refine bS (by (try simp (disch := omega) only [fwI]); exact map_drop' h2) ?_
   rw [show (mkTok s y).f2 = (y.2.1 : Int) from rfl, dF (show ¬ (y.2.1 : Int) < ((x.2.1 + x.2.2 : Nat) : Int) by omega)]
  ·refine iF rfl ?_
   rw [e1 ()]
   refine bS (by (try simp (disch := omega) only [fwI]); exact map_drop' h1) ?_
   refine bS (by (try simp (disch := omega) only [fwI]); exact gend_at hl bx.2.1) ?_
   refine (ends_l k hl (map_drop' h2) (by omega) (y.2.1 - (x.2.1 + x.2.2)) k (x.2.1 + x.2.2) 0 (by omega) (by omega) (by omega)).trans ?_
   rw [Int.toNat_natCast]
   unfold gapN
   rw [h1, Nat.zero_add]
 ·rw [if_neg h]
  refine (jS (v := true) (fun j => ?_)).trans rfl
  by_cases h1 : kk < 1
  ·exact iT (dT h1) rfl
  ·refine iF (dF h1) ?_
   exact iT (dT (by omega)) rfl
theorem broken_at {k : Nat} {s : List Nat} (hk : s.length + 10 ≤ k) (hl : s.length ≤ 2000) {l : List (Nat × Nat × Nat)} (ht : Toks s 0 l) (kk : Int) : g36 k s (l.map (mkTok s)) kk = some (decide (1 ≤ ((gapI s l kk : Nat) : Int))) := by
 unfold g36
 refine bS (by (try simp (disch := omega) only [fwI]); exact ends_at hk hl ht kk) ?_
 have : decide ((0 : Int) < ((gapI s l kk : Nat) : Int)) = decide (1 ≤ ((gapI s l kk : Nat) : Int)) := by rw [Bool.eq_iff_iff]; simp; omega
 rw [this]
theorem gblank_at {k : Nat} {s : List Nat} (hk : s.length + 10 ≤ k) (hl : s.length ≤ 2000) {l : List (Nat × Nat × Nat)} (ht : Toks s 0 l) (kk : Int) : g37 k s (l.map (mkTok s)) kk = some (decide (2 ≤ ((gapI s l kk : Nat) : Int))) := by
 unfold g37
 refine bS (by (try simp (disch := omega) only [fwI]); exact ends_at hk hl ht kk) ?_
 have : decide ((1 : Int) < ((gapI s l kk : Nat) : Int)) = decide (2 ≤ ((gapI s l kk : Nat) : Int)) := by rw [Bool.eq_iff_iff]; simp; omega
 rw [this]
end Go.Proofs.Ytbmijiibfaacmaa.Am
set_option maxRecDepth 100000
set_option linter.unusedVariables false
namespace Go.Proofs.Ytbmijiibfaacmaa.Am
noncomputable section
open Go
def X68 : Fx (List Nat) := ⟨Try.prog, cx, Try.f68, fun r => .str r, 0, fun _ => H0, cxTi, cxOrd⟩
def g68p0 : Pt := nav [0] (bodyAt Try.f68)
def g68p1 : Pt := nav [0, 0, 0, 0] g68p0
def g68p2 : Pt := nav [0, 0, 0, 0] g68p1
def g68p3 : Pt := nav [0, 0] g68p2
def g68p5 : Pt := nav [2, 0] g68p3
def g68p7 : Pt := nav [0, 0] g68p5
def g68p9 : Pt := nav [2, 0] g68p7
def g68p10 : Pt := nav [0, 0] g68p9
def g68p12 : Pt := nav [2, 0] g68p10
def g68p13 : Pt := nav [0, 0] g68p12
def g68 (k : Nat) (a0 : (List Nat)) : Option (List Nat) :=
 if (eqL a0 [40]) then (some ([41] : List Nat)) else (if (eqL a0 [123]) then (some ([125] : List Nat)) else (if (eqL a0 [91]) then (some ([93] : List Nat)) else (if (eqL a0 [60, 60]) then (some ([62, 62] : List Nat)) else (some ([] : List Nat)))))
theorem g68_ok (k : Nat) (a0 : (List Nat)) (r : (List Nat)) (h : g68 k a0 = some r) : PureOk Try.prog 68 [.str a0] (.str r) := by
 refine pure_of X68 (fun _ => rfl) Try.func68 (by decide +kernel) (by kernel_rfl) (t := g68 k a0) ?_ h
 unfold g68
 refine oE (eE := [(0, .str a0)]) (by kernel_rfl) ?_
 let E1 : Env := [(4, .bool (eqL a0 [40])), (5, .bool (eqL a0 [40])), (3, .str a0), (2, .str []), (0, .str a0)]
 refine oR 15 (p' := g68p3) (eE := E1) (H' := (mkH [])) (by kernel_rfl) ?_
 refine oS 4 (b := eqL a0 [40]) (by kernel_rfl) (fun hb => ?_) (fun hb => ?_)
 ·refine oR 6 (p' := .fin) (eE := ((2, .str [41]) :: (4, .bool true) :: E1)) (H' := (mkH [])) (by kernel_rfl) ?_
  exact oT (r := ([41] : List Nat)) (xs := [.str [41]]) (v := .str [41]) (by kernel_rfl) (by kernel_rfl) (by kernel_rfl) (.pures (by kernel_rfl)) (by kernel_rfl)
 ·refine oR 6 (p' := g68p7) (eE := ((6, .bool (eqL a0 [123])) :: (7, .bool (eqL a0 [123])) :: (4, .bool false) :: E1)) (H' := (mkH [])) (by kernel_rfl) ?_
  refine oS 6 (b := eqL a0 [123]) (by kernel_rfl) (fun hb => ?_) (fun hb => ?_)
  ·let E2 : Env := ((2, .str [125]) :: (6, .bool true) :: (6, .bool (eqL a0 [123])) :: (7, .bool (eqL a0 [123])) :: (4, .bool false) :: E1)
   refine oR 6 (p' := .fin) (eE := E2) (H' := (mkH [])) (by kernel_rfl) ?_
   exact oT (r := ([125] : List Nat)) (xs := [.str [125]]) (v := .str [125]) (by kernel_rfl) (by kernel_rfl) (by kernel_rfl) (.pures (by kernel_rfl)) (by kernel_rfl)
  ·let E3 : Env := ((8, .bool (eqL a0 [91])) :: (9, .bool (eqL a0 [91])) :: (6, .bool false) :: (6, .bool (eqL a0 [123])) :: (7, .bool (eqL a0 [123])) :: (4, .bool false) :: E1)
   refine oR 6 (p' := g68p10) (eE := E3) (H' := (mkH [])) (by kernel_rfl) ?_
   refine oK [3, 8] (eE := [(3, .str a0), (8, .bool (eqL a0 [91]))]) (by kernel_rfl) ?_
   refine oS 8 (b := eqL a0 [91]) (by kernel_rfl) (fun hb => ?_) (fun hb => ?_)
   ·refine oR 6 (p' := .fin) (eE := [(2, .str [93]), (8, .bool true), (3, .str a0), (8, .bool (eqL a0 [91]))]) (H' := (mkH [])) (by kernel_rfl) ?_
    exact oT (r := ([93] : List Nat)) (xs := [.str [93]]) (v := .str [93]) (by kernel_rfl) (by kernel_rfl) (by kernel_rfl) (.pures (by kernel_rfl)) (by kernel_rfl)
   ·let E4 : Env := [(10, .bool (eqL a0 [60, 60])), (11, .bool (eqL a0 [60, 60])), (8, .bool false), (3, .str a0), (8, .bool (eqL a0 [91]))]
    refine oR 6 (p' := g68p13) (eE := E4) (H' := (mkH [])) (by kernel_rfl) ?_
    refine oS 10 (b := eqL a0 [60, 60]) (by kernel_rfl) (fun hb => ?_) (fun hb => ?_)
    ·refine oR 6 (p' := .fin) (eE := ((2, .str [62, 62]) :: (10, .bool true) :: E4)) (H' := (mkH [])) (by kernel_rfl) ?_
     exact oT (r := ([62, 62] : List Nat)) (xs := [.str [62, 62]]) (v := .str [62, 62]) (by kernel_rfl) (by kernel_rfl) (by kernel_rfl) (.pures (by kernel_rfl)) (by kernel_rfl)
    ·refine oR 7 (p' := .fin) (eE := ((2, .str []) :: (10, .bool false) :: E4)) (H' := (mkH [])) (by kernel_rfl) ?_
     exact oT (r := ([] : List Nat)) (xs := [.str []]) (v := .str []) (by kernel_rfl) (by kernel_rfl) (by kernel_rfl) (.pures (by kernel_rfl)) (by kernel_rfl)
end
end Go.Proofs.Ytbmijiibfaacmaa.Am
set_option maxRecDepth 100000
set_option linter.unusedVariables false
namespace Go.Proofs.Ytbmijiibfaacmaa.Am
noncomputable section
open Go
def X51 : Fx Bool := ⟨Try.prog, cx, Try.f51, fun r => .bool r, 0, fun _ => H0, cxTi, cxOrd⟩
def g51c0 : List Nat := [98, 101, 103, 105, 110]
def g51c1 : List Nat := [114, 101, 99, 101, 105, 118, 101]
def g51p0 : Pt := nav [0] (bodyAt Try.f51)
def g51p1 : Pt := nav [0, 0, 0, 0, 0] g51p0
def g51p2 : Pt := nav [0, 0] g51p1
def g51p3 : Pt := nav [1, 0] g51p2
def g51p4 : Pt := nav [2, 0] g51p2
def g51p6 : Pt := nav [0, 0] g51p4
def g51p7 : Pt := nav [1, 0] g51p6
def g51 (k : Nat) (a0 : S46) : Option Bool :=
 if (decide (a0.f0 = 9)) then ((g68 k a0.f1).bind fun x0_2 => some (!(eqL x0_2 []))) else (if (decide (a0.f0 = 8)) then (if (eqL a0.f1 g51c0) then (some true) else (if (eqL a0.f1 [99, 97, 115, 101]) then (some true) else (if (eqL a0.f1 [105, 102]) then (some true) else (some (eqL a0.f1 g51c1))))) else (some false))
theorem g51_ok (k : Nat) (a0 : S46) (r : Bool) (h : g51 k a0 = some r) : PureOk Try.prog 51 [.agg [.int .i64 a0.f0, .str a0.f1, .int .i64 a0.f2]] (.bool r) := by
 refine pure_of X51 (fun _ => rfl) Try.func51 (by decide +kernel) (by kernel_rfl) (t := g51 k a0) ?_ h
 unfold g51
 refine oE (eE := [(0, .agg [.int .i64 a0.f0, .str a0.f1, .int .i64 a0.f2])]) (by kernel_rfl) ?_
 let E1 : Env := [(3, .bool (decide (a0.f0 = 9))), (6, .bool (decide (a0.f0 = 9))), (5, .int .i64 a0.f0), (4, .ptr 0 3 0), (2, .bool false), (1, .ptr 0 3 0), (0, .agg [.int .i64 a0.f0, .str a0.f1, .int .i64 a0.f2])]
 refine oR 14 (p' := g51p2) (eE := E1) (H' := (mkH [⟨[.int .i64 a0.f0, .str a0.f1, .int .i64 a0.f2], 0, false⟩])) (by kernel_rfl) ?_
 refine oS 3 (b := decide (a0.f0 = 9)) (by kernel_rfl) (fun hb => ?_) (fun hb => ?_)
 ·refine oR 5 (p' := (atN 2 (ctl1 g51p3))) (eE := ((8, .str a0.f1) :: (7, .ptr 0 3 1) :: (3, .bool true) :: E1)) (H' := (mkH [⟨[.int .i64 a0.f0, .str a0.f1, .int .i64 a0.f2], 0, false⟩])) (by kernel_rfl) ?_
  refine oC (fun (x0_2 : (List Nat)) => .str x0_2) (atN 3 (ctl1 g51p3)) (fun x0_2 => ((9, .str x0_2) :: (8, .str a0.f1) :: (7, .ptr 0 3 1) :: (3, .bool true) :: E1)) (fi := 68) (args := [.str a0.f1]) (by kernel_rfl) (by kernel_rfl) (fun _ => by kernel_rfl) (fun r h => g68_ok k a0.f1 r h) (fun _ => by kernel_rfl) (fun x0_2 hx0_2 => ?_)
  let E2 : Env := ((2, .bool (!(eqL x0_2 []))) :: (10, .bool (!(eqL x0_2 []))) :: (9, .str x0_2) :: (8, .str a0.f1) :: (7, .ptr 0 3 1) :: (3, .bool true) :: E1)
  refine oR 4 (p' := .fin) (eE := E2) (H' := (mkH [⟨[.int .i64 a0.f0, .str a0.f1, .int .i64 a0.f2], 0, false⟩])) (by kernel_rfl) ?_
  exact oT (r := (!(eqL x0_2 []))) (xs := [.bool (!(eqL x0_2 []))]) (v := .bool (!(eqL x0_2 []))) (by kernel_rfl) (by kernel_rfl) (by kernel_rfl) (.pures (by kernel_rfl)) (by kernel_rfl)
 ·let E3 : Env := ((11, .bool (decide (a0.f0 = 8))) :: (14, .bool (decide (a0.f0 = 8))) :: (13, .int .i64 a0.f0) :: (12, .ptr 0 3 0) :: (3, .bool false) :: E1)
  refine oR 8 (p' := g51p6) (eE := E3) (H' := (mkH [⟨[.int .i64 a0.f0, .str a0.f1, .int .i64 a0.f2], 0, false⟩])) (by kernel_rfl) ?_
  refine oK [1, 11] (eE := [(1, .ptr 0 3 0), (11, .bool (decide (a0.f0 = 8)))]) (by kernel_rfl) ?_
  refine oS 11 (b := decide (a0.f0 = 8)) (by kernel_rfl) (fun hb => ?_) (fun hb => ?_)
  ·let E4 : Env := [(18, .bool (eqL a0.f1 g51c0)), (17, .bool (eqL a0.f1 g51c0)), (16, .str a0.f1), (15, .ptr 0 3 1), (11, .bool true), (1, .ptr 0 3 0), (11, .bool (decide (a0.f0 = 8)))]
   refine oR 7 (p' := (atN 4 (ctl1 g51p7))) (eE := E4) (H' := (mkH [⟨[.int .i64 a0.f0, .str a0.f1, .int .i64 a0.f2], 0, false⟩])) (by kernel_rfl) ?_
   refine oS 18 (b := eqL a0.f1 g51c0) (by kernel_rfl) (fun hb => ?_) (fun hb => ?_)
   ·let E5 : Env := ((2, .bool true) :: (32, .bool true) :: (31, .tuple []) :: (30, .tuple []) :: (29, .tuple []) :: (28, .bool true) :: (27, .bool true) :: (26, .tuple []) :: (25, .tuple []) :: (24, .tuple []) :: (23, .bool true) :: (22, .bool true) :: (21, .tuple []) :: (20, .tuple []) :: (19, .tuple []) :: (18, .bool true) :: E4)
    refine oR 17 (p' := .fin) (eE := E5) (H' := (mkH [⟨[.int .i64 a0.f0, .str a0.f1, .int .i64 a0.f2], 0, false⟩])) (by kernel_rfl) ?_
    exact oT (r := true) (xs := [.bool true]) (v := .bool true) (by kernel_rfl) (by kernel_rfl) (by kernel_rfl) (.pures (by kernel_rfl)) (by kernel_rfl)
   ·let E6 : Env := ((23, .bool (eqL a0.f1 [99, 97, 115, 101])) :: (22, .bool (eqL a0.f1 [99, 97, 115, 101])) :: (21, .bool (eqL a0.f1 [99, 97, 115, 101])) :: (20, .str a0.f1) :: (19, .ptr 0 3 1) :: (18, .bool false) :: E4)
    refine oR 5 (p' := (atN 9 (ctl1 g51p7))) (eE := E6) (H' := (mkH [⟨[.int .i64 a0.f0, .str a0.f1, .int .i64 a0.f2], 0, false⟩])) (by kernel_rfl) ?_
    refine oS 23 (b := eqL a0.f1 [99, 97, 115, 101]) (by kernel_rfl) (fun hb => ?_) (fun hb => ?_)
    ·let E7 : Env := ((2, .bool true) :: (32, .bool true) :: (31, .tuple []) :: (30, .tuple []) :: (29, .tuple []) :: (28, .bool true) :: (27, .bool true) :: (26, .tuple []) :: (25, .tuple []) :: (24, .tuple []) :: (23, .bool true) :: E6)
     refine oR 12 (p' := .fin) (eE := E7) (H' := (mkH [⟨[.int .i64 a0.f0, .str a0.f1, .int .i64 a0.f2], 0, false⟩])) (by kernel_rfl) ?_
     exact oT (r := true) (xs := [.bool true]) (v := .bool true) (by kernel_rfl) (by kernel_rfl) (by kernel_rfl) (.pures (by kernel_rfl)) (by kernel_rfl)
    ·let E8 : Env := ((28, .bool (eqL a0.f1 [105, 102])) :: (27, .bool (eqL a0.f1 [105, 102])) :: (26, .bool (eqL a0.f1 [105, 102])) :: (25, .str a0.f1) :: (24, .ptr 0 3 1) :: (23, .bool false) :: E6)
     refine oR 5 (p' := (atN 14 (ctl1 g51p7))) (eE := E8) (H' := (mkH [⟨[.int .i64 a0.f0, .str a0.f1, .int .i64 a0.f2], 0, false⟩])) (by kernel_rfl) ?_
     refine oS 28 (b := eqL a0.f1 [105, 102]) (by kernel_rfl) (fun hb => ?_) (fun hb => ?_)
     ·let E9 : Env := ((2, .bool true) :: (32, .bool true) :: (31, .tuple []) :: (30, .tuple []) :: (29, .tuple []) :: (28, .bool true) :: E8)
      refine oR 7 (p' := .fin) (eE := E9) (H' := (mkH [⟨[.int .i64 a0.f0, .str a0.f1, .int .i64 a0.f2], 0, false⟩])) (by kernel_rfl) ?_
      exact oT (r := true) (xs := [.bool true]) (v := .bool true) (by kernel_rfl) (by kernel_rfl) (by kernel_rfl) (.pures (by kernel_rfl)) (by kernel_rfl)
     ·let E10 : Env := ((2, .bool (eqL a0.f1 g51c1)) :: (32, .bool (eqL a0.f1 g51c1)) :: (31, .bool (eqL a0.f1 g51c1)) :: (30, .str a0.f1) :: (29, .ptr 0 3 1) :: (28, .bool false) :: E8)
      refine oR 7 (p' := .fin) (eE := E10) (H' := (mkH [⟨[.int .i64 a0.f0, .str a0.f1, .int .i64 a0.f2], 0, false⟩])) (by kernel_rfl) ?_
      exact oT (r := (eqL a0.f1 g51c1)) (xs := [.bool (eqL a0.f1 g51c1)]) (v := .bool (eqL a0.f1 g51c1)) (by kernel_rfl) (by kernel_rfl) (by kernel_rfl) (.pures (by kernel_rfl)) (by kernel_rfl)
  ·refine oR 7 (p' := .fin) (eE := [(2, .bool false), (11, .bool false), (1, .ptr 0 3 0), (11, .bool (decide (a0.f0 = 8)))]) (H' := (mkH [⟨[.int .i64 a0.f0, .str a0.f1, .int .i64 a0.f2], 0, false⟩])) (by kernel_rfl) ?_
   exact oT (r := false) (xs := [.bool false]) (v := .bool false) (by kernel_rfl) (by kernel_rfl) (by kernel_rfl) (.pures (by kernel_rfl)) (by kernel_rfl)
end
end Go.Proofs.Ytbmijiibfaacmaa.Am
set_option maxRecDepth 100000
set_option linter.unusedVariables false
namespace Go.Proofs.Ytbmijiibfaacmaa.Am
noncomputable section
open Go
def X52 : Fx Bool := ⟨Try.prog, cx, Try.f52, fun r => .bool r, 0, fun _ => H0, cxTi, cxOrd⟩
def g52p0 : Pt := nav [0] (bodyAt Try.f52)
def g52p1 : Pt := nav [0, 0, 0, 0] g52p0
def g52p2 : Pt := nav [0, 0] g52p1
def g52p3 : Pt := nav [1, 0] g52p2
def g52p4 : Pt := nav [2, 0, 0] g52p2
def g52 (k : Nat) (a0 : S46) : Option Bool :=
 if (decide (a0.f0 = 9)) then (if (eqL a0.f1 [41]) then (some true) else (if (eqL a0.f1 [125]) then (some true) else (if (eqL a0.f1 [93]) then (some true) else (some (eqL a0.f1 [62, 62]))))) else (if (decide (a0.f0 = 8)) then (some (eqL a0.f1 [101, 110, 100])) else (some false))
theorem g52_ok (k : Nat) (a0 : S46) (r : Bool) (h : g52 k a0 = some r) : PureOk Try.prog 52 [.agg [.int .i64 a0.f0, .str a0.f1, .int .i64 a0.f2]] (.bool r) := by
 refine pure_of X52 (fun _ => rfl) Try.func52 (by decide +kernel) (by kernel_rfl) (t := g52 k a0) ?_ h
 unfold g52
 refine oE (eE := [(0, .agg [.int .i64 a0.f0, .str a0.f1, .int .i64 a0.f2])]) (by kernel_rfl) ?_
 let E1 : Env := [(5, .bool (decide (a0.f0 = 9))), (4, .int .i64 a0.f0), (3, .ptr 0 3 0), (2, .bool false), (1, .ptr 0 3 0), (0, .agg [.int .i64 a0.f0, .str a0.f1, .int .i64 a0.f2])]
 refine oR 12 (p' := g52p2) (eE := E1) (H' := (mkH [⟨[.int .i64 a0.f0, .str a0.f1, .int .i64 a0.f2], 0, false⟩])) (by kernel_rfl) ?_
 refine oS 5 (b := decide (a0.f0 = 9)) (by kernel_rfl) (fun hb => ?_) (fun hb => ?_)
 ·let E2 : Env := ((9, .bool (eqL a0.f1 [41])) :: (8, .bool (eqL a0.f1 [41])) :: (7, .str a0.f1) :: (6, .ptr 0 3 1) :: (5, .bool true) :: E1)
  refine oR 7 (p' := (atN 4 (ctl1 g52p3))) (eE := E2) (H' := (mkH [⟨[.int .i64 a0.f0, .str a0.f1, .int .i64 a0.f2], 0, false⟩])) (by kernel_rfl) ?_
  refine oS 9 (b := eqL a0.f1 [41]) (by kernel_rfl) (fun hb => ?_) (fun hb => ?_)
  ·let E3 : Env := ((2, .bool true) :: (23, .bool true) :: (22, .tuple []) :: (21, .tuple []) :: (20, .tuple []) :: (19, .bool true) :: (18, .bool true) :: (17, .tuple []) :: (16, .tuple []) :: (15, .tuple []) :: (14, .bool true) :: (13, .bool true) :: (12, .tuple []) :: (11, .tuple []) :: (10, .tuple []) :: (9, .bool true) :: E2)
   refine oR 17 (p' := .fin) (eE := E3) (H' := (mkH [⟨[.int .i64 a0.f0, .str a0.f1, .int .i64 a0.f2], 0, false⟩])) (by kernel_rfl) ?_
   exact oT (r := true) (xs := [.bool true]) (v := .bool true) (by kernel_rfl) (by kernel_rfl) (by kernel_rfl) (.pures (by kernel_rfl)) (by kernel_rfl)
  ·let E4 : Env := ((14, .bool (eqL a0.f1 [125])) :: (13, .bool (eqL a0.f1 [125])) :: (12, .bool (eqL a0.f1 [125])) :: (11, .str a0.f1) :: (10, .ptr 0 3 1) :: (9, .bool false) :: E2)
   refine oR 5 (p' := (atN 9 (ctl1 g52p3))) (eE := E4) (H' := (mkH [⟨[.int .i64 a0.f0, .str a0.f1, .int .i64 a0.f2], 0, false⟩])) (by kernel_rfl) ?_
   refine oS 14 (b := eqL a0.f1 [125]) (by kernel_rfl) (fun hb => ?_) (fun hb => ?_)
   ·let E5 : Env := ((2, .bool true) :: (23, .bool true) :: (22, .tuple []) :: (21, .tuple []) :: (20, .tuple []) :: (19, .bool true) :: (18, .bool true) :: (17, .tuple []) :: (16, .tuple []) :: (15, .tuple []) :: (14, .bool true) :: E4)
    refine oR 12 (p' := .fin) (eE := E5) (H' := (mkH [⟨[.int .i64 a0.f0, .str a0.f1, .int .i64 a0.f2], 0, false⟩])) (by kernel_rfl) ?_
    exact oT (r := true) (xs := [.bool true]) (v := .bool true) (by kernel_rfl) (by kernel_rfl) (by kernel_rfl) (.pures (by kernel_rfl)) (by kernel_rfl)
   ·let E6 : Env := ((19, .bool (eqL a0.f1 [93])) :: (18, .bool (eqL a0.f1 [93])) :: (17, .bool (eqL a0.f1 [93])) :: (16, .str a0.f1) :: (15, .ptr 0 3 1) :: (14, .bool false) :: E4)
    refine oR 5 (p' := (atN 14 (ctl1 g52p3))) (eE := E6) (H' := (mkH [⟨[.int .i64 a0.f0, .str a0.f1, .int .i64 a0.f2], 0, false⟩])) (by kernel_rfl) ?_
    refine oS 19 (b := eqL a0.f1 [93]) (by kernel_rfl) (fun hb => ?_) (fun hb => ?_)
    ·let E7 : Env := ((2, .bool true) :: (23, .bool true) :: (22, .tuple []) :: (21, .tuple []) :: (20, .tuple []) :: (19, .bool true) :: E6)
     refine oR 7 (p' := .fin) (eE := E7) (H' := (mkH [⟨[.int .i64 a0.f0, .str a0.f1, .int .i64 a0.f2], 0, false⟩])) (by kernel_rfl) ?_
     exact oT (r := true) (xs := [.bool true]) (v := .bool true) (by kernel_rfl) (by kernel_rfl) (by kernel_rfl) (.pures (by kernel_rfl)) (by kernel_rfl)
    ·let E8 : Env := ((2, .bool (eqL a0.f1 [62, 62])) :: (23, .bool (eqL a0.f1 [62, 62])) :: (22, .bool (eqL a0.f1 [62, 62])) :: (21, .str a0.f1) :: (20, .ptr 0 3 1) :: (19, .bool false) :: E6)
     refine oR 7 (p' := .fin) (eE := E8) (H' := (mkH [⟨[.int .i64 a0.f0, .str a0.f1, .int .i64 a0.f2], 0, false⟩])) (by kernel_rfl) ?_
     exact oT (r := (eqL a0.f1 [62, 62])) (xs := [.bool (eqL a0.f1 [62, 62])]) (v := .bool (eqL a0.f1 [62, 62])) (by kernel_rfl) (by kernel_rfl) (by kernel_rfl) (.pures (by kernel_rfl)) (by kernel_rfl)
 ·let E9 : Env := ((27, .bool (decide (a0.f0 = 8))) :: (26, .bool (decide (a0.f0 = 8))) :: (25, .int .i64 a0.f0) :: (24, .ptr 0 3 0) :: (5, .bool false) :: E1)
  refine oR 8 (p' := (atN 4 (ctl1 g52p4))) (eE := E9) (H' := (mkH [⟨[.int .i64 a0.f0, .str a0.f1, .int .i64 a0.f2], 0, false⟩])) (by kernel_rfl) ?_
  refine oS 27 (b := decide (a0.f0 = 8)) (by kernel_rfl) (fun hb => ?_) (fun hb => ?_)
  ·let E10 : Env := ((2, .bool (eqL a0.f1 [101, 110, 100])) :: (31, .bool (eqL a0.f1 [101, 110, 100])) :: (30, .bool (eqL a0.f1 [101, 110, 100])) :: (29, .str a0.f1) :: (28, .ptr 0 3 1) :: (27, .bool true) :: E9)
   refine oR 7 (p' := .fin) (eE := E10) (H' := (mkH [⟨[.int .i64 a0.f0, .str a0.f1, .int .i64 a0.f2], 0, false⟩])) (by kernel_rfl) ?_
   exact oT (r := (eqL a0.f1 [101, 110, 100])) (xs := [.bool (eqL a0.f1 [101, 110, 100])]) (v := .bool (eqL a0.f1 [101, 110, 100])) (by kernel_rfl) (by kernel_rfl) (by kernel_rfl) (.pures (by kernel_rfl)) (by kernel_rfl)
  ·let E11 : Env := ((2, .bool false) :: (31, .bool false) :: (30, .tuple []) :: (29, .tuple []) :: (28, .tuple []) :: (27, .bool false) :: E9)
   refine oR 7 (p' := .fin) (eE := E11) (H' := (mkH [⟨[.int .i64 a0.f0, .str a0.f1, .int .i64 a0.f2], 0, false⟩])) (by kernel_rfl) ?_
   exact oT (r := false) (xs := [.bool false]) (v := .bool false) (by kernel_rfl) (by kernel_rfl) (by kernel_rfl) (.pures (by kernel_rfl)) (by kernel_rfl)
end
end Go.Proofs.Ytbmijiibfaacmaa.Am
set_option maxRecDepth 100000
set_option linter.unusedVariables false
namespace Go.Proofs.Ytbmijiibfaacmaa.Am
noncomputable section
open Go
def X39 : Fx Int := ⟨Try.prog, cx, Try.f39, fun r => .int .i64 r, 0, fun _ => H0, cxTi, cxOrd⟩
def X39f50_0 (a_0 : Int) (b_1 : (List S46)) (b_2 : Int) (b_3 : (List Nat)) (b_4 : Int) : Fx Bool := ⟨Try.prog, cx, Try.f50, fun r => .bool r, 2, fun r => (mkH [⟨[.vec (b_1).length 3 ((b_1).flatMap e47)], 0, false⟩, ⟨[.int .i64 b_2, .str b_3, .int .i64 b_4], 3, false⟩]), cxTi, cxOrd⟩
def g39f50_0p0 : Pt := nav [0] (bodyAt Try.f50)
def g39f50_0p1 : Pt := nav [0, 0, 0] g39f50_0p0
def g39f50_0 (k : Nat) (a_0 : Int) (b_1 : (List S46)) (b_2 : Int) (b_3 : (List Nat)) (b_4 : Int) : Option Bool :=
 (nthL b_1 a_0).bind fun x0_2 => (g51 k (⟨x0_2.f0, x0_2.f1, x0_2.f2⟩ : S46)).bind fun x0_4 => if x0_4 then (some true) else ((nthL b_1 a_0).bind fun x0_8 => if (decide (x0_8.f0 = 8)) then ((nthL b_1 a_0).bind fun x0_15 => if (eqL x0_15.f1 [102, 117, 110]) then (if (decide (fW .i64 (a_0 + 1) < (b_1.length : Int))) then ((nthL b_1 (fW .i64 (a_0 + 1))).bind fun x0_31 => if (decide (x0_31.f0 = 9)) then ((nthL b_1 (fW .i64 (a_0 + 1))).bind fun x0_40 => some (eqL x0_40.f1 [40])) else (some false)) else (some false)) else (some false)) else (some false))
theorem g39f50_0_ok (k : Nat) (a_0 : Int) (b_1 : (List S46)) (b_2 : Int) (b_3 : (List Nat)) (b_4 : Int) (r : Bool) (h : g39f50_0 k a_0 b_1 b_2 b_3 b_4 = some r) : CallV Try.prog 50 [.int .i64 a_0, .ptr 0 1 0] (mkH [⟨[.vec (b_1).length 3 ((b_1).flatMap e47)], 0, false⟩, ⟨[.int .i64 b_2, .str b_3, .int .i64 b_4], 3, false⟩]) (.bool r) (mkH [⟨[.vec (b_1).length 3 ((b_1).flatMap e47)], 0, false⟩, ⟨[.int .i64 b_2, .str b_3, .int .i64 b_4], 3, false⟩]) := by
 refine callM_of (X39f50_0 a_0 b_1 b_2 b_3 b_4) Try.func50 (by kernel_rfl) (by kernel_rfl) rfl (t := g39f50_0 k a_0 b_1 b_2 b_3 b_4) ?_ h
 unfold g39f50_0
 refine oE (eE := [(0, .int .i64 a_0), (1, .ptr 0 1 0)]) (by kernel_rfl) ?_
 let E1 : Env := [(5, .int .i64 a_0), (4, .vec (b_1).length 3 ((b_1).flatMap e47)), (3, .bool false), (0, .int .i64 a_0), (1, .ptr 0 1 0)]
 refine oR 8 (p' := (atN 2 (ctl1 g39f50_0p1))) (eE := E1) (H' := (mkH [⟨[.vec (b_1).length 3 ((b_1).flatMap e47)], 0, false⟩, ⟨[.int .i64 b_2, .str b_3, .int .i64 b_4], 3, false⟩])) (by kernel_rfl) ?_
 refine oH (fun (x0_2 : S46) => (.vptr [.int .i64 x0_2.f0, .str x0_2.f1, .int .i64 x0_2.f2], (mkH [⟨[.vec (b_1).length 3 ((b_1).flatMap e47)], 0, false⟩, ⟨[.int .i64 b_2, .str b_3, .int .i64 b_4], 3, false⟩]))) (atN 3 (ctl1 g39f50_0p1)) (fun x0_2 => ((6, .vptr [.int .i64 x0_2.f0, .str x0_2.f1, .int .i64 x0_2.f2]) :: E1)) (vidxH (sz := 3) e47_len (by kernel_rfl)) (fun _ => by kernel_rfl) (fun x0_2 hx0_2 => ?_)
 refine oR 1 (p' := (atN 4 (ctl1 g39f50_0p1))) (eE := ((7, .agg [.int .i64 x0_2.f0, .str x0_2.f1, .int .i64 x0_2.f2]) :: (6, .vptr [.int .i64 x0_2.f0, .str x0_2.f1, .int .i64 x0_2.f2]) :: E1)) (H' := (mkH [⟨[.vec (b_1).length 3 ((b_1).flatMap e47)], 0, false⟩, ⟨[.int .i64 b_2, .str b_3, .int .i64 b_4], 3, false⟩])) (by kernel_rfl) ?_
 refine oC (fun (x0_4 : Bool) => .bool x0_4) (atN 5 (ctl1 g39f50_0p1)) (fun x0_4 => ((8, .bool x0_4) :: (7, .agg [.int .i64 x0_2.f0, .str x0_2.f1, .int .i64 x0_2.f2]) :: (6, .vptr [.int .i64 x0_2.f0, .str x0_2.f1, .int .i64 x0_2.f2]) :: E1)) (fi := 51) (args := [.agg [.int .i64 x0_2.f0, .str x0_2.f1, .int .i64 x0_2.f2]]) (by kernel_rfl) (by kernel_rfl) (fun _ => by kernel_rfl) (fun r h => g51_ok k (⟨x0_2.f0, x0_2.f1, x0_2.f2⟩ : S46) r h) (fun _ => by kernel_rfl) (fun x0_4 hx0_4 => ?_)
 refine oR 1 (p' := (atN 6 (ctl1 g39f50_0p1))) (eE := ((9, .bool x0_4) :: (8, .bool x0_4) :: (7, .agg [.int .i64 x0_2.f0, .str x0_2.f1, .int .i64 x0_2.f2]) :: (6, .vptr [.int .i64 x0_2.f0, .str x0_2.f1, .int .i64 x0_2.f2]) :: E1)) (H' := (mkH [⟨[.vec (b_1).length 3 ((b_1).flatMap e47)], 0, false⟩, ⟨[.int .i64 b_2, .str b_3, .int .i64 b_4], 3, false⟩])) (by kernel_rfl) ?_
 refine oS 9 (b := x0_4) (by kernel_rfl) (fun hb => ?_) (fun hb => ?_)
 ·let E2 : Env := ((3, .bool true) :: (49, .bool true) :: (48, .tuple []) :: (47, .tuple []) :: (46, .tuple []) :: (45, .tuple []) :: (44, .tuple []) :: (43, .tuple []) :: (42, .tuple []) :: (41, .tuple []) :: (40, .tuple []) :: (39, .tuple []) :: (38, .tuple []) :: (37, .tuple []) :: (36, .tuple []) :: (35, .tuple []) :: (34, .tuple []) :: (33, .tuple []) :: (32, .tuple []) :: (31, .tuple []) :: (30, .tuple []) :: (29, .tuple []) :: (28, .tuple []) :: (27, .tuple []) :: (26, .tuple []) :: (25, .tuple []) :: (24, .tuple []) :: (23, .tuple []) :: (22, .tuple []) :: (21, .tuple []) :: (20, .tuple []) :: (19, .tuple []) :: (18, .tuple []) :: (17, .tuple []) :: (16, .tuple []) :: (15, .tuple []) :: (14, .tuple []) :: (13, .tuple []) :: (12, .tuple []) :: (11, .tuple []) :: (10, .tuple []) :: (9, .bool true) :: (9, .bool x0_4) :: (8, .bool x0_4) :: (7, .agg [.int .i64 x0_2.f0, .str x0_2.f1, .int .i64 x0_2.f2]) :: (6, .vptr [.int .i64 x0_2.f0, .str x0_2.f1, .int .i64 x0_2.f2]) :: E1)
  refine oR 43 (p' := .fin) (eE := E2) (H' := (mkH [⟨[.vec (b_1).length 3 ((b_1).flatMap e47)], 0, false⟩, ⟨[.int .i64 b_2, .str b_3, .int .i64 b_4], 3, false⟩])) (by kernel_rfl) ?_
  refine oK [3] (eE := [(3, .bool true)]) (by kernel_rfl) ?_
  exact ok_retM (r := true) (xs := [.bool true]) (by kernel_rfl) (by kernel_rfl) (by kernel_rfl) (by kernel_rfl)
 ·let E3 : Env := ((11, .int .i64 a_0) :: (10, .vec (b_1).length 3 ((b_1).flatMap e47)) :: (9, .bool false) :: (9, .bool x0_4) :: (8, .bool x0_4) :: (7, .agg [.int .i64 x0_2.f0, .str x0_2.f1, .int .i64 x0_2.f2]) :: (6, .vptr [.int .i64 x0_2.f0, .str x0_2.f1, .int .i64 x0_2.f2]) :: E1)
  refine oR 2 (p' := (atN 8 (ctl1 g39f50_0p1))) (eE := E3) (H' := (mkH [⟨[.vec (b_1).length 3 ((b_1).flatMap e47)], 0, false⟩, ⟨[.int .i64 b_2, .str b_3, .int .i64 b_4], 3, false⟩])) (by kernel_rfl) ?_
  refine oH (fun (x0_8 : S46) => (.vptr [.int .i64 x0_8.f0, .str x0_8.f1, .int .i64 x0_8.f2], (mkH [⟨[.vec (b_1).length 3 ((b_1).flatMap e47)], 0, false⟩, ⟨[.int .i64 b_2, .str b_3, .int .i64 b_4], 3, false⟩]))) (atN 9 (ctl1 g39f50_0p1)) (fun x0_8 => ((12, .vptr [.int .i64 x0_8.f0, .str x0_8.f1, .int .i64 x0_8.f2]) :: E3)) (vidxH (sz := 3) e47_len (by kernel_rfl)) (fun _ => by kernel_rfl) (fun x0_8 hx0_8 => ?_)
  let E4 : Env := ((16, .bool (decide (x0_8.f0 = 8))) :: (15, .bool (decide (x0_8.f0 = 8))) :: (14, .int .i64 x0_8.f0) :: (13, .vptr [.int .i64 x0_8.f0, .str x0_8.f1, .int .i64 x0_8.f2]) :: (12, .vptr [.int .i64 x0_8.f0, .str x0_8.f1, .int .i64 x0_8.f2]) :: E3)
  refine oR 4 (p' := (atN 13 (ctl1 g39f50_0p1))) (eE := E4) (H' := (mkH [⟨[.vec (b_1).length 3 ((b_1).flatMap e47)], 0, false⟩, ⟨[.int .i64 b_2, .str b_3, .int .i64 b_4], 3, false⟩])) (by kernel_rfl) ?_
  refine oS 16 (b := decide (x0_8.f0 = 8)) (by kernel_rfl) (fun hb => ?_) (fun hb => ?_)
  ·refine oR 2 (p' := (atN 15 (ctl1 g39f50_0p1))) (eE := ((18, .int .i64 a_0) :: (17, .vec (b_1).length 3 ((b_1).flatMap e47)) :: (16, .bool true) :: E4)) (H' := (mkH [⟨[.vec (b_1).length 3 ((b_1).flatMap e47)], 0, false⟩, ⟨[.int .i64 b_2, .str b_3, .int .i64 b_4], 3, false⟩])) (by kernel_rfl) ?_
   refine oH (fun (x0_15 : S46) => (.vptr [.int .i64 x0_15.f0, .str x0_15.f1, .int .i64 x0_15.f2], (mkH [⟨[.vec (b_1).length 3 ((b_1).flatMap e47)], 0, false⟩, ⟨[.int .i64 b_2, .str b_3, .int .i64 b_4], 3, false⟩]))) (atN 16 (ctl1 g39f50_0p1)) (fun x0_15 => ((19, .vptr [.int .i64 x0_15.f0, .str x0_15.f1, .int .i64 x0_15.f2]) :: (18, .int .i64 a_0) :: (17, .vec (b_1).length 3 ((b_1).flatMap e47)) :: (16, .bool true) :: E4)) (vidxH (sz := 3) e47_len (by kernel_rfl)) (fun _ => by kernel_rfl) (fun x0_15 hx0_15 => ?_)
   let E5 : Env := ((24, .bool (eqL x0_15.f1 [102, 117, 110])) :: (23, .bool (eqL x0_15.f1 [102, 117, 110])) :: (22, .bool (eqL x0_15.f1 [102, 117, 110])) :: (21, .str x0_15.f1) :: (20, .vptr [.str x0_15.f1, .int .i64 x0_15.f2]) :: (19, .vptr [.int .i64 x0_15.f0, .str x0_15.f1, .int .i64 x0_15.f2]) :: (18, .int .i64 a_0) :: (17, .vec (b_1).length 3 ((b_1).flatMap e47)) :: (16, .bool true) :: E4)
   refine oR 5 (p' := (atN 21 (ctl1 g39f50_0p1))) (eE := E5) (H' := (mkH [⟨[.vec (b_1).length 3 ((b_1).flatMap e47)], 0, false⟩, ⟨[.int .i64 b_2, .str b_3, .int .i64 b_4], 3, false⟩])) (by kernel_rfl) ?_
   refine oS 24 (b := eqL x0_15.f1 [102, 117, 110]) (by kernel_rfl) (fun hb => ?_) (fun hb => ?_)
   ·let E6 : Env := ((31, .bool (decide (fW .i64 (a_0 + 1) < (b_1.length : Int)))) :: (30, .bool (decide (fW .i64 (a_0 + 1) < (b_1.length : Int)))) :: (29, .bool (decide (fW .i64 (a_0 + 1) < (b_1.length : Int)))) :: (28, .int .i64 (b_1.length : Int)) :: (27, .vec (b_1).length 3 ((b_1).flatMap e47)) :: (26, .int .i64 (fW .i64 (a_0 + 1))) :: (25, .int .i64 a_0) :: (24, .bool true) :: E5)
    refine oR 7 (p' := (atN 28 (ctl1 g39f50_0p1))) (eE := E6) (H' := (mkH [⟨[.vec (b_1).length 3 ((b_1).flatMap e47)], 0, false⟩, ⟨[.int .i64 b_2, .str b_3, .int .i64 b_4], 3, false⟩])) (by kernel_rfl) ?_
    refine oS 31 (b := decide (fW .i64 (a_0 + 1) < (b_1.length : Int))) (by kernel_rfl) (fun hb => ?_) (fun hb => ?_)
    ·refine oR 3 (p' := (atN 31 (ctl1 g39f50_0p1))) (eE := ((34, .int .i64 (fW .i64 (a_0 + 1))) :: (33, .int .i64 a_0) :: (32, .vec (b_1).length 3 ((b_1).flatMap e47)) :: (31, .bool true) :: E6)) (H' := (mkH [⟨[.vec (b_1).length 3 ((b_1).flatMap e47)], 0, false⟩, ⟨[.int .i64 b_2, .str b_3, .int .i64 b_4], 3, false⟩])) (by kernel_rfl) ?_
     refine oH (fun (x0_31 : S46) => (.vptr [.int .i64 x0_31.f0, .str x0_31.f1, .int .i64 x0_31.f2], (mkH [⟨[.vec (b_1).length 3 ((b_1).flatMap e47)], 0, false⟩, ⟨[.int .i64 b_2, .str b_3, .int .i64 b_4], 3, false⟩]))) (atN 32 (ctl1 g39f50_0p1)) (fun x0_31 => ((35, .vptr [.int .i64 x0_31.f0, .str x0_31.f1, .int .i64 x0_31.f2]) :: (34, .int .i64 (fW .i64 (a_0 + 1))) :: (33, .int .i64 a_0) :: (32, .vec (b_1).length 3 ((b_1).flatMap e47)) :: (31, .bool true) :: E6)) (vidxH (sz := 3) e47_len (by kernel_rfl)) (fun _ => by kernel_rfl) (fun x0_31 hx0_31 => ?_)
     let E7 : Env := ((40, .bool (decide (x0_31.f0 = 9))) :: (39, .bool (decide (x0_31.f0 = 9))) :: (38, .bool (decide (x0_31.f0 = 9))) :: (37, .int .i64 x0_31.f0) :: (36, .vptr [.int .i64 x0_31.f0, .str x0_31.f1, .int .i64 x0_31.f2]) :: (35, .vptr [.int .i64 x0_31.f0, .str x0_31.f1, .int .i64 x0_31.f2]) :: (34, .int .i64 (fW .i64 (a_0 + 1))) :: (33, .int .i64 a_0) :: (32, .vec (b_1).length 3 ((b_1).flatMap e47)) :: (31, .bool true) :: E6)
     refine oR 5 (p' := (atN 37 (ctl1 g39f50_0p1))) (eE := E7) (H' := (mkH [⟨[.vec (b_1).length 3 ((b_1).flatMap e47)], 0, false⟩, ⟨[.int .i64 b_2, .str b_3, .int .i64 b_4], 3, false⟩])) (by kernel_rfl) ?_
     refine oS 40 (b := decide (x0_31.f0 = 9)) (by kernel_rfl) (fun hb => ?_) (fun hb => ?_)
     ·refine oR 3 (p' := (atN 40 (ctl1 g39f50_0p1))) (eE := ((43, .int .i64 (fW .i64 (a_0 + 1))) :: (42, .int .i64 a_0) :: (41, .vec (b_1).length 3 ((b_1).flatMap e47)) :: (40, .bool true) :: E7)) (H' := (mkH [⟨[.vec (b_1).length 3 ((b_1).flatMap e47)], 0, false⟩, ⟨[.int .i64 b_2, .str b_3, .int .i64 b_4], 3, false⟩])) (by kernel_rfl) ?_
      refine oH (fun (x0_40 : S46) => (.vptr [.int .i64 x0_40.f0, .str x0_40.f1, .int .i64 x0_40.f2], (mkH [⟨[.vec (b_1).length 3 ((b_1).flatMap e47)], 0, false⟩, ⟨[.int .i64 b_2, .str b_3, .int .i64 b_4], 3, false⟩]))) (atN 41 (ctl1 g39f50_0p1)) (fun x0_40 => ((44, .vptr [.int .i64 x0_40.f0, .str x0_40.f1, .int .i64 x0_40.f2]) :: (43, .int .i64 (fW .i64 (a_0 + 1))) :: (42, .int .i64 a_0) :: (41, .vec (b_1).length 3 ((b_1).flatMap e47)) :: (40, .bool true) :: E7)) (vidxH (sz := 3) e47_len (by kernel_rfl)) (fun _ => by kernel_rfl) (fun x0_40 hx0_40 => ?_)
      let E8 : Env := ((3, .bool (eqL x0_40.f1 [40])) :: (49, .bool (eqL x0_40.f1 [40])) :: (48, .bool (eqL x0_40.f1 [40])) :: (47, .bool (eqL x0_40.f1 [40])) :: (46, .str x0_40.f1) :: (45, .vptr [.str x0_40.f1, .int .i64 x0_40.f2]) :: (44, .vptr [.int .i64 x0_40.f0, .str x0_40.f1, .int .i64 x0_40.f2]) :: (43, .int .i64 (fW .i64 (a_0 + 1))) :: (42, .int .i64 a_0) :: (41, .vec (b_1).length 3 ((b_1).flatMap e47)) :: (40, .bool true) :: E7)
      refine oR 8 (p' := .fin) (eE := E8) (H' := (mkH [⟨[.vec (b_1).length 3 ((b_1).flatMap e47)], 0, false⟩, ⟨[.int .i64 b_2, .str b_3, .int .i64 b_4], 3, false⟩])) (by kernel_rfl) ?_
      refine oK [3] (eE := [(3, .bool (eqL x0_40.f1 [40]))]) (by kernel_rfl) ?_
      exact ok_retM (r := (eqL x0_40.f1 [40])) (xs := [.bool (eqL x0_40.f1 [40])]) (by kernel_rfl) (by kernel_rfl) (by kernel_rfl) (by kernel_rfl)
     ·let E9 : Env := ((3, .bool false) :: (49, .bool false) :: (48, .bool false) :: (47, .tuple []) :: (46, .tuple []) :: (45, .tuple []) :: (44, .tuple []) :: (43, .tuple []) :: (42, .tuple []) :: (41, .tuple []) :: (40, .bool false) :: E7)
      refine oR 12 (p' := .fin) (eE := E9) (H' := (mkH [⟨[.vec (b_1).length 3 ((b_1).flatMap e47)], 0, false⟩, ⟨[.int .i64 b_2, .str b_3, .int .i64 b_4], 3, false⟩])) (by kernel_rfl) ?_
      refine oK [3] (eE := [(3, .bool false)]) (by kernel_rfl) ?_
      exact ok_retM (r := false) (xs := [.bool false]) (by kernel_rfl) (by kernel_rfl) (by kernel_rfl) (by kernel_rfl)
    ·let E10 : Env := ((3, .bool false) :: (49, .bool false) :: (48, .bool false) :: (47, .tuple []) :: (46, .tuple []) :: (45, .tuple []) :: (44, .tuple []) :: (43, .tuple []) :: (42, .tuple []) :: (41, .tuple []) :: (40, .bool false) :: (39, .bool false) :: (38, .tuple []) :: (37, .tuple []) :: (36, .tuple []) :: (35, .tuple []) :: (34, .tuple []) :: (33, .tuple []) :: (32, .tuple []) :: (31, .bool false) :: E6)
     refine oR 21 (p' := .fin) (eE := E10) (H' := (mkH [⟨[.vec (b_1).length 3 ((b_1).flatMap e47)], 0, false⟩, ⟨[.int .i64 b_2, .str b_3, .int .i64 b_4], 3, false⟩])) (by kernel_rfl) ?_
     refine oK [3] (eE := [(3, .bool false)]) (by kernel_rfl) ?_
     exact ok_retM (r := false) (xs := [.bool false]) (by kernel_rfl) (by kernel_rfl) (by kernel_rfl) (by kernel_rfl)
   ·let E11 : Env := ((3, .bool false) :: (49, .bool false) :: (48, .bool false) :: (47, .tuple []) :: (46, .tuple []) :: (45, .tuple []) :: (44, .tuple []) :: (43, .tuple []) :: (42, .tuple []) :: (41, .tuple []) :: (40, .bool false) :: (39, .bool false) :: (38, .tuple []) :: (37, .tuple []) :: (36, .tuple []) :: (35, .tuple []) :: (34, .tuple []) :: (33, .tuple []) :: (32, .tuple []) :: (31, .bool false) :: (30, .bool false) :: (29, .tuple []) :: (28, .tuple []) :: (27, .tuple []) :: (26, .tuple []) :: (25, .tuple []) :: (24, .bool false) :: E5)
    refine oR 28 (p' := .fin) (eE := E11) (H' := (mkH [⟨[.vec (b_1).length 3 ((b_1).flatMap e47)], 0, false⟩, ⟨[.int .i64 b_2, .str b_3, .int .i64 b_4], 3, false⟩])) (by kernel_rfl) ?_
    refine oK [3] (eE := [(3, .bool false)]) (by kernel_rfl) ?_
    exact ok_retM (r := false) (xs := [.bool false]) (by kernel_rfl) (by kernel_rfl) (by kernel_rfl) (by kernel_rfl)
  ·let E12 : Env := ((3, .bool false) :: (49, .bool false) :: (48, .bool false) :: (47, .tuple []) :: (46, .tuple []) :: (45, .tuple []) :: (44, .tuple []) :: (43, .tuple []) :: (42, .tuple []) :: (41, .tuple []) :: (40, .bool false) :: (39, .bool false) :: (38, .tuple []) :: (37, .tuple []) :: (36, .tuple []) :: (35, .tuple []) :: (34, .tuple []) :: (33, .tuple []) :: (32, .tuple []) :: (31, .bool false) :: (30, .bool false) :: (29, .tuple []) :: (28, .tuple []) :: (27, .tuple []) :: (26, .tuple []) :: (25, .tuple []) :: (24, .bool false) :: (23, .bool false) :: (22, .tuple []) :: (21, .tuple []) :: (20, .tuple []) :: (19, .tuple []) :: (18, .tuple []) :: (17, .tuple []) :: (16, .bool false) :: E4)
   refine oR 36 (p' := .fin) (eE := E12) (H' := (mkH [⟨[.vec (b_1).length 3 ((b_1).flatMap e47)], 0, false⟩, ⟨[.int .i64 b_2, .str b_3, .int .i64 b_4], 3, false⟩])) (by kernel_rfl) ?_
   refine oK [3] (eE := [(3, .bool false)]) (by kernel_rfl) ?_
   exact ok_retM (r := false) (xs := [.bool false]) (by kernel_rfl) (by kernel_rfl) (by kernel_rfl) (by kernel_rfl)
def g39p0 : Pt := nav [0] (bodyAt Try.f39)
def g39p1 : Pt := nav [0, 0, 0] g39p0
def g39p2 : Pt := nav [0, 0, 0] g39p1
def g39p3 : Pt := nav [0, 0, 0, 0] g39p2
def g39p4 : Pt := nav [0, 0, 0, 0] g39p3
def g39p5 : Pt := nav [0, 0] g39p4
def g39p6 : Pt := nav [0, 0, 0] g39p5
def g39p7 : Pt := nav [1, 0, 0, 0, 0] g39p6
def g39p9 : Pt := nav [0, 0, 0, 0, 0] g39p7
def g39p11 : Pt := nav [0, 0] g39p9
def g39p12 : Pt := nav [1] g39p11
def g39p13 : Pt := nav [2, 0] g39p11
def g39p14 : Pt := nav [0, 0] g39p12
def g39p15 : Pt := nav [0, 0] g39p13
def g39_l3 (k : Nat)  (a0 : (List S46)) (n : Nat) : Int → Int → Int → Option Int :=
 Nat.rec (motive := fun _ => Int → Int → Int → Option Int) (fun _ _ _ => none) (fun _ ih => fun (y3_0 : Int) (y3_1 : Int) (y3_2 : Int) => if (decide (y3_2 < (a0.length : Int))) then ((nthL a0 y3_2).bind fun x0_1 => (g39f50_0 k y3_2 a0 x0_1.f0 x0_1.f1 x0_1.f2).bind fun x1_2 => jn (fun (z4 : Int × Int × Int) => ih z4.1 (maxI z4.2.1 z4.1) (fW .i64 (z4.2.2 + 1))) (fun j4 => if x1_2 then (j4 (fW .i64 (y3_0 + 1), y3_1, y3_2)) else ((g52 k (⟨x0_1.f0, x0_1.f1, x0_1.f2⟩ : S46)).bind fun x2_1 => if x2_1 then (j4 (maxI (fW .i64 (y3_0 - 1)) 0, y3_1, y3_2)) else (j4 (y3_0, y3_1, y3_2))))) else (some y3_1)) n
theorem g39_l3_s (k : Nat)  (a0 : (List S46)) (n : Nat) (y3_0 : Int) (y3_1 : Int) (y3_2 : Int) : g39_l3 k a0 (n + 1) y3_0 y3_1 y3_2 = (if (decide (y3_2 < (a0.length : Int))) then ((nthL a0 y3_2).bind fun x0_1 => (g39f50_0 k y3_2 a0 x0_1.f0 x0_1.f1 x0_1.f2).bind fun x1_2 => jn (fun (z4 : Int × Int × Int) => (g39_l3 k a0 n) z4.1 (maxI z4.2.1 z4.1) (fW .i64 (z4.2.2 + 1))) (fun j4 => if x1_2 then (j4 (fW .i64 (y3_0 + 1), y3_1, y3_2)) else ((g52 k (⟨x0_1.f0, x0_1.f1, x0_1.f2⟩ : S46)).bind fun x2_1 => if x2_1 then (j4 (maxI (fW .i64 (y3_0 - 1)) 0, y3_1, y3_2)) else (j4 (y3_0, y3_1, y3_2))))) else (some y3_1)) := rfl
theorem g39_l3_ok (k : Nat)  (a0 : (List S46))  : ∀ (n : Nat) (y3_0 : Int) (y3_1 : Int) (y3_2 : Int), Ok X39 g39p4 [(3, .int .i64 y3_0), (4, .int .i64 y3_1), (5, .func 50 [] [.ptr 0 1 0]), (9, .vec (a0).length 3 ((a0).flatMap e47)), (10, .int .i64 (a0.length : Int)), (11, .int .i64 y3_2)] (mkH [⟨[.vec (a0).length 3 ((a0).flatMap e47)], 0, false⟩]) (g39_l3 k a0 n y3_0 y3_1 y3_2)
 | 0, _, _, _ => ok_none
 | n + 1, y3_0, y3_1, y3_2 => by
  have ih := g39_l3_ok k a0 n
  rw [g39_l3_s]
  refine ok_ent (p' := nav [0] g39p4) (by kernel_rfl) ?_
  let E2 : Env := [(12, .bool (decide (y3_2 < (a0.length : Int)))), (3, .int .i64 y3_0), (4, .int .i64 y3_1), (5, .func 50 [] [.ptr 0 1 0]), (9, .vec (a0).length 3 ((a0).flatMap e47)), (10, .int .i64 (a0.length : Int)), (11, .int .i64 y3_2)]
  refine oR 5 (p' := g39p6) (eE := E2) (H' := (mkH [⟨[.vec (a0).length 3 ((a0).flatMap e47)], 0, false⟩])) (by kernel_rfl) ?_
  refine oS 12 (b := decide (y3_2 < (a0.length : Int))) (by kernel_rfl) (fun hb => ?_) (fun hb => ?_)
  ·refine oR 7 (p' := (atN 1 (ctl1 g39p7))) (eE := ((13, .int .i64 y3_2) :: (12, .bool true) :: E2)) (H' := (mkH [⟨[.vec (a0).length 3 ((a0).flatMap e47)], 0, false⟩])) (by kernel_rfl) ?_
   refine oH (fun (x0_1 : S46) => (.vptr [.int .i64 x0_1.f0, .str x0_1.f1, .int .i64 x0_1.f2], (mkH [⟨[.vec (a0).length 3 ((a0).flatMap e47)], 0, false⟩]))) (atN 2 (ctl1 g39p7)) (fun x0_1 => ((14, .vptr [.int .i64 x0_1.f0, .str x0_1.f1, .int .i64 x0_1.f2]) :: (13, .int .i64 y3_2) :: (12, .bool true) :: E2)) (vidxH (sz := 3) e47_len (by kernel_rfl)) (fun _ => by kernel_rfl) (fun x0_1 hx0_1 => ?_)
   let E3 : Env := ((18, .int .i64 y3_2) :: (17, .func 50 [] [.ptr 0 1 0]) :: (6, .int .i64 y3_2) :: (7, .ptr 1 3 0) :: (15, .agg [.int .i64 x0_1.f0, .str x0_1.f1, .int .i64 x0_1.f2]) :: (14, .vptr [.int .i64 x0_1.f0, .str x0_1.f1, .int .i64 x0_1.f2]) :: (13, .int .i64 y3_2) :: (12, .bool true) :: E2)
   refine oR 11 (p' := (atN 2 (ctl1 g39p9))) (eE := E3) (H' := (mkH [⟨[.vec (a0).length 3 ((a0).flatMap e47)], 0, false⟩, ⟨[.int .i64 x0_1.f0, .str x0_1.f1, .int .i64 x0_1.f2], 3, false⟩])) (by kernel_rfl) ?_
   refine ok_callM (fun (x1_2 : Bool) => .bool x1_2) (fun (x1_2 : Bool) => (mkH [⟨[.vec (a0).length 3 ((a0).flatMap e47)], 0, false⟩, ⟨[.int .i64 x0_1.f0, .str x0_1.f1, .int .i64 x0_1.f2], 3, false⟩])) (atN 3 (ctl1 g39p9)) (fun x1_2 => ((19, .bool x1_2) :: E3)) (fi := 50) (args := [.int .i64 y3_2, .ptr 0 1 0]) (by kernel_rfl) (fun r h => g39f50_0_ok k y3_2 a0 x0_1.f0 x0_1.f1 x0_1.f2 r h) (fun _ => by kernel_rfl) (fun x1_2 hx1_2 => ?_)
   refine oR 2 (p' := g39p11) (eE := ((16, .bool x1_2) :: (19, .bool x1_2) :: E3)) (H' := (mkH [⟨[.vec (a0).length 3 ((a0).flatMap e47)], 0, false⟩, ⟨[.int .i64 x0_1.f0, .str x0_1.f1, .int .i64 x0_1.f2], 3, false⟩])) (by kernel_rfl) ?_
   refine oK [3, 4, 5, 7, 9, 10, 11, 16] (eE := [(3, .int .i64 y3_0), (4, .int .i64 y3_1), (5, .func 50 [] [.ptr 0 1 0]), (7, .ptr 1 3 0), (9, .vec (a0).length 3 ((a0).flatMap e47)), (10, .int .i64 (a0.length : Int)), (11, .int .i64 y3_2), (16, .bool x1_2)]) (by kernel_rfl) ?_
   refine oJ (f := fun (z4 : Int × Int × Int) => (g39_l3 k a0 n) z4.1 (maxI z4.2.1 z4.1) (fW .i64 (z4.2.2 + 1))) g39p14 (fun (z4 : Int × Int × Int) => [(3, .int .i64 z4.1), (4, .int .i64 z4.2.1), (5, .func 50 [] [.ptr 0 1 0]), (9, .vec (a0).length 3 ((a0).flatMap e47)), (10, .int .i64 (a0.length : Int)), (11, .int .i64 z4.2.2)]) (fun (z4 : Int × Int × Int) => (mkH [⟨[.vec (a0).length 3 ((a0).flatMap e47)], 0, false⟩])) (fun z4 => ?_) (fun j4 hj4 => ?_)
   ·let E4 : Env := [(11, .int .i64 (fW .i64 (z4.2.2 + 1))), (31, .int .i64 (fW .i64 (z4.2.2 + 1))), (4, .int .i64 (maxI z4.2.1 z4.1)), (30, .int .i64 (maxI z4.2.1 z4.1)), (29, .int .i64 z4.1), (28, .int .i64 z4.2.1), (3, .int .i64 z4.1), (4, .int .i64 z4.2.1), (5, .func 50 [] [.ptr 0 1 0]), (9, .vec (a0).length 3 ((a0).flatMap e47)), (10, .int .i64 (a0.length : Int)), (11, .int .i64 z4.2.2)]
    refine oR 10 (p' := g39p4) (eE := E4) (H' := (mkH [⟨[.vec (a0).length 3 ((a0).flatMap e47)], 0, false⟩])) (by kernel_rfl) ?_
    refine oK [3, 4, 5, 9, 10, 11] (eE := [(3, .int .i64 z4.1), (4, .int .i64 (maxI z4.2.1 z4.1)), (5, .func 50 [] [.ptr 0 1 0]), (9, .vec (a0).length 3 ((a0).flatMap e47)), (10, .int .i64 (a0.length : Int)), (11, .int .i64 (fW .i64 (z4.2.2 + 1)))]) (by kernel_rfl) ?_
    exact ih z4.1 (maxI z4.2.1 z4.1) (fW .i64 (z4.2.2 + 1))
   ·refine oS 16 (b := x1_2) (by kernel_rfl) (fun hb => ?_) (fun hb => ?_)
    ·let E5 : Env := [(3, .int .i64 (fW .i64 (y3_0 + 1))), (21, .int .i64 (fW .i64 (y3_0 + 1))), (20, .int .i64 y3_0), (16, .bool true), (3, .int .i64 y3_0), (4, .int .i64 y3_1), (5, .func 50 [] [.ptr 0 1 0]), (7, .ptr 1 3 0), (9, .vec (a0).length 3 ((a0).flatMap e47)), (10, .int .i64 (a0.length : Int)), (11, .int .i64 y3_2), (16, .bool x1_2)]
     refine oR 6 (p' := g39p14) (eE := E5) (H' := (mkH [⟨[.vec (a0).length 3 ((a0).flatMap e47)], 0, false⟩, ⟨[.int .i64 x0_1.f0, .str x0_1.f1, .int .i64 x0_1.f2], 3, false⟩])) (by kernel_rfl) ?_
     refine oK [3, 4, 5, 9, 10, 11] (eE := [(3, .int .i64 (fW .i64 (y3_0 + 1))), (4, .int .i64 y3_1), (5, .func 50 [] [.ptr 0 1 0]), (9, .vec (a0).length 3 ((a0).flatMap e47)), (10, .int .i64 (a0.length : Int)), (11, .int .i64 y3_2)]) (by kernel_rfl) ?_
     refine ok_cut [⟨[.vec (a0).length 3 ((a0).flatMap e47)], 0, false⟩] [⟨[.int .i64 x0_1.f0, .str x0_1.f1, .int .i64 x0_1.f2], 3, false⟩] (by kernel_rfl) rfl (by kernel_rfl) ⟨(by kernel_rfl), trivial⟩ ?_
     exact hj4 (fW .i64 (y3_0 + 1), y3_1, y3_2)
    ·let E6 : Env := [(23, .agg [.int .i64 x0_1.f0, .str x0_1.f1, .int .i64 x0_1.f2]), (16, .bool false), (3, .int .i64 y3_0), (4, .int .i64 y3_1), (5, .func 50 [] [.ptr 0 1 0]), (7, .ptr 1 3 0), (9, .vec (a0).length 3 ((a0).flatMap e47)), (10, .int .i64 (a0.length : Int)), (11, .int .i64 y3_2), (16, .bool x1_2)]
     refine oR 4 (p' := (atN 1 (ctl1 g39p13))) (eE := E6) (H' := (mkH [⟨[.vec (a0).length 3 ((a0).flatMap e47)], 0, false⟩, ⟨[.int .i64 x0_1.f0, .str x0_1.f1, .int .i64 x0_1.f2], 3, false⟩])) (by kernel_rfl) ?_
     refine oC (fun (x2_1 : Bool) => .bool x2_1) (atN 2 (ctl1 g39p13)) (fun x2_1 => ((24, .bool x2_1) :: E6)) (fi := 52) (args := [.agg [.int .i64 x0_1.f0, .str x0_1.f1, .int .i64 x0_1.f2]]) (by kernel_rfl) (by kernel_rfl) (fun _ => by kernel_rfl) (fun r h => g52_ok k (⟨x0_1.f0, x0_1.f1, x0_1.f2⟩ : S46) r h) (fun _ => by kernel_rfl) (fun x2_1 hx2_1 => ?_)
     refine oR 2 (p' := g39p15) (eE := ((22, .bool x2_1) :: (24, .bool x2_1) :: E6)) (H' := (mkH [⟨[.vec (a0).length 3 ((a0).flatMap e47)], 0, false⟩, ⟨[.int .i64 x0_1.f0, .str x0_1.f1, .int .i64 x0_1.f2], 3, false⟩])) (by kernel_rfl) ?_
     refine oS 22 (b := x2_1) (by kernel_rfl) (fun hb => ?_) (fun hb => ?_)
     ·let E7 : Env := ((3, .int .i64 (maxI (fW .i64 (y3_0 - 1)) 0)) :: (27, .int .i64 (maxI (fW .i64 (y3_0 - 1)) 0)) :: (26, .int .i64 (fW .i64 (y3_0 - 1))) :: (25, .int .i64 y3_0) :: (22, .bool true) :: (22, .bool x2_1) :: (24, .bool x2_1) :: E6)
      refine oR 7 (p' := g39p14) (eE := E7) (H' := (mkH [⟨[.vec (a0).length 3 ((a0).flatMap e47)], 0, false⟩, ⟨[.int .i64 x0_1.f0, .str x0_1.f1, .int .i64 x0_1.f2], 3, false⟩])) (by kernel_rfl) ?_
      refine oK [3, 4, 5, 9, 10, 11] (eE := [(3, .int .i64 (maxI (fW .i64 (y3_0 - 1)) 0)), (4, .int .i64 y3_1), (5, .func 50 [] [.ptr 0 1 0]), (9, .vec (a0).length 3 ((a0).flatMap e47)), (10, .int .i64 (a0.length : Int)), (11, .int .i64 y3_2)]) (by kernel_rfl) ?_
      refine ok_cut [⟨[.vec (a0).length 3 ((a0).flatMap e47)], 0, false⟩] [⟨[.int .i64 x0_1.f0, .str x0_1.f1, .int .i64 x0_1.f2], 3, false⟩] (by kernel_rfl) rfl (by kernel_rfl) ⟨(by kernel_rfl), trivial⟩ ?_
      exact hj4 (maxI (fW .i64 (y3_0 - 1)) 0, y3_1, y3_2)
     ·refine oR 2 (p' := g39p14) (eE := ((22, .bool false) :: (22, .bool x2_1) :: (24, .bool x2_1) :: E6)) (H' := (mkH [⟨[.vec (a0).length 3 ((a0).flatMap e47)], 0, false⟩, ⟨[.int .i64 x0_1.f0, .str x0_1.f1, .int .i64 x0_1.f2], 3, false⟩])) (by kernel_rfl) ?_
      refine oK [3, 4, 5, 9, 10, 11] (eE := [(3, .int .i64 y3_0), (4, .int .i64 y3_1), (5, .func 50 [] [.ptr 0 1 0]), (9, .vec (a0).length 3 ((a0).flatMap e47)), (10, .int .i64 (a0.length : Int)), (11, .int .i64 y3_2)]) (by kernel_rfl) ?_
      refine ok_cut [⟨[.vec (a0).length 3 ((a0).flatMap e47)], 0, false⟩] [⟨[.int .i64 x0_1.f0, .str x0_1.f1, .int .i64 x0_1.f2], 3, false⟩] (by kernel_rfl) rfl (by kernel_rfl) ⟨(by kernel_rfl), trivial⟩ ?_
      exact hj4 (y3_0, y3_1, y3_2)
  ·refine oR 8 (p' := .fin) (eE := ((2, .int .i64 y3_1) :: (32, .int .i64 y3_1) :: (12, .bool false) :: E2)) (H' := (mkH [⟨[.vec (a0).length 3 ((a0).flatMap e47)], 0, false⟩])) (by kernel_rfl) ?_
   exact oT (r := y3_1) (xs := [.int .i64 y3_1]) (v := .int .i64 y3_1) (by kernel_rfl) (by kernel_rfl) (by kernel_rfl) (.pures (by kernel_rfl)) (by kernel_rfl)
def g39 (k : Nat) (a0 : (List S46)) : Option Int :=
 g39_l3 k a0 k 0 0 0
theorem g39_ok (k : Nat) (a0 : (List S46)) (r : Int) (h : g39 k a0 = some r) : PureOk Try.prog 39 [.vec (a0).length 3 ((a0).flatMap e47)] (.int .i64 r) := by
 refine pure_of X39 (fun _ => rfl) Try.func39 (by decide +kernel) (by kernel_rfl) (t := g39 k a0) ?_ h
 unfold g39
 refine oE (eE := [(0, .vec (a0).length 3 ((a0).flatMap e47))]) (by kernel_rfl) ?_
 let E1 : Env := [(11, .int .i64 0), (10, .int .i64 (a0.length : Int)), (9, .vec (a0).length 3 ((a0).flatMap e47)), (5, .func 50 [] [.ptr 0 1 0]), (8, .func 50 [] [.ptr 0 1 0]), (4, .int .i64 0), (3, .int .i64 0), (2, .int .i64 0), (1, .ptr 0 1 0), (0, .vec (a0).length 3 ((a0).flatMap e47))]
 refine oR 24 (p' := g39p4) (eE := E1) (H' := (mkH [⟨[.vec (a0).length 3 ((a0).flatMap e47)], 0, false⟩])) (by kernel_rfl) ?_
 refine oK [3, 4, 5, 9, 10, 11] (eE := [(3, .int .i64 0), (4, .int .i64 0), (5, .func 50 [] [.ptr 0 1 0]), (9, .vec (a0).length 3 ((a0).flatMap e47)), (10, .int .i64 (a0.length : Int)), (11, .int .i64 0)]) (by kernel_rfl) ?_
 exact (g39_l3_ok k a0 k) 0 0 0
end
end Go.Proofs.Ytbmijiibfaacmaa.Am
set_option maxRecDepth 100000
set_option linter.unusedVariables false
namespace Go.Proofs.Ytbmijiibfaacmaa.Am
noncomputable section
open Go
def X34 : Fx Bool := ⟨Try.prog, cx, Try.f34, fun r => .bool r, 0, fun _ => H0, cxTi, cxOrd⟩
def g34c0 : List Nat := [102, 40, 91, 123, 49, 125, 93, 41, 10, 10, 46]
def g34p0 : Pt := nav [0] (bodyAt Try.f34)
def g34p1 : Pt := nav [0, 0, 0] g34p0
def g34p2 : Pt := nav [0, 0, 0] g34p1
def g34p3 : Pt := nav [0, 0, 0] g34p2
def g34 (k : Nat)  : Option Bool :=
 (g28 k g34c0).bind fun x0_1 => if (decide (x0_1.2 = 0)) then ((g39 k x0_1.1).bind fun x1_4 => if (decide (x1_4 = 3)) then ((g37 k g34c0 x0_1.1 (fW .i64 ((x0_1.1.length : Int) - 1))).bind fun x1_13 => if x1_13 then ((g36 k g34c0 x0_1.1 (fW .i64 ((x0_1.1.length : Int) - 1))).bind fun x1_21 => if x1_21 then ((g36 k g34c0 x0_1.1 (1 : Int)).bind fun x1_26 => if (!x1_26) then ((g37 k g34c0 x0_1.1 (0 : Int)).bind fun x1_32 => if (!x1_32) then ((nthL x0_1.1 0).bind fun x1_37 => (g38 k (⟨x1_37.f0, x1_37.f1, x1_37.f2⟩ : S46)).bind fun x1_39 => some (decide (x1_39 = 1))) else (some false)) else (some false)) else (some false)) else (some false)) else (some false)) else (some false)
theorem g34_ok (k : Nat)  (r : Bool) (h : g34 k  = some r) : PureOk Try.prog 34 [] (.bool r) := by
 refine pure_of X34 (fun _ => rfl) Try.func34 (by decide +kernel) (by kernel_rfl) (t := g34 k ) ?_ h
 unfold g34
 refine oE (eE := []) (by kernel_rfl) ?_
 refine oR 11 (p' := (atN 1 (ctl1 g34p2))) (eE := [(5, .str g34c0), (1, .str g34c0), (0, .bool false)]) (H' := (mkH [])) (by kernel_rfl) ?_
 refine oC (fun (x0_1 : ((List S46) × Int)) => .tuple [.vec (x0_1.1).length 3 ((x0_1.1).flatMap e47), .int .i64 x0_1.2]) (atN 2 (ctl1 g34p2)) (fun x0_1 => [(6, .tuple [.vec (x0_1.1).length 3 ((x0_1.1).flatMap e47), .int .i64 x0_1.2]), (5, .str g34c0), (1, .str g34c0), (0, .bool false)]) (fi := 28) (args := [.str g34c0]) (by kernel_rfl) (by kernel_rfl) (fun _ => by kernel_rfl) (fun r h => g28_ok k g34c0 r h) (fun _ => by kernel_rfl) (fun x0_1 hx0_1 => ?_)
 let E1 : Env := [(11, .bool (decide (x0_1.2 = 0))), (10, .bool (decide (x0_1.2 = 0))), (9, .int .i64 x0_1.2), (3, .int .i64 x0_1.2), (2, .vec (x0_1.1).length 3 ((x0_1.1).flatMap e47)), (8, .int .i64 x0_1.2), (7, .vec (x0_1.1).length 3 ((x0_1.1).flatMap e47)), (4, .tuple [.vec (x0_1.1).length 3 ((x0_1.1).flatMap e47), .int .i64 x0_1.2]), (6, .tuple [.vec (x0_1.1).length 3 ((x0_1.1).flatMap e47), .int .i64 x0_1.2]), (5, .str g34c0), (1, .str g34c0), (0, .bool false)]
 refine oR 11 (p' := (atN 3 (ctl1 g34p3))) (eE := E1) (H' := (mkH [])) (by kernel_rfl) ?_
 refine oS 11 (b := decide (x0_1.2 = 0)) (by kernel_rfl) (fun hb => ?_) (fun hb => ?_)
 ·refine oR 1 (p' := (atN 4 (ctl1 g34p3))) (eE := ((12, .vec (x0_1.1).length 3 ((x0_1.1).flatMap e47)) :: (11, .bool true) :: E1)) (H' := (mkH [])) (by kernel_rfl) ?_
  refine oC (fun (x1_4 : Int) => .int .i64 x1_4) (atN 5 (ctl1 g34p3)) (fun x1_4 => ((13, .int .i64 x1_4) :: (12, .vec (x0_1.1).length 3 ((x0_1.1).flatMap e47)) :: (11, .bool true) :: E1)) (fi := 39) (args := [.vec (x0_1.1).length 3 ((x0_1.1).flatMap e47)]) (by kernel_rfl) (by kernel_rfl) (fun _ => by kernel_rfl) (fun r h => g39_ok k x0_1.1 r h) (fun _ => by kernel_rfl) (fun x1_4 hx1_4 => ?_)
  let E2 : Env := ((16, .bool (decide (x1_4 = 3))) :: (15, .bool (decide (x1_4 = 3))) :: (14, .bool (decide (x1_4 = 3))) :: (13, .int .i64 x1_4) :: (12, .vec (x0_1.1).length 3 ((x0_1.1).flatMap e47)) :: (11, .bool true) :: E1)
  refine oR 3 (p' := (atN 8 (ctl1 g34p3))) (eE := E2) (H' := (mkH [])) (by kernel_rfl) ?_
  refine oS 16 (b := decide (x1_4 = 3)) (by kernel_rfl) (fun hb => ?_) (fun hb => ?_)
  ·let E3 : Env := ((21, .int .i64 (fW .i64 ((x0_1.1.length : Int) - 1))) :: (20, .int .i64 (x0_1.1.length : Int)) :: (19, .vec (x0_1.1).length 3 ((x0_1.1).flatMap e47)) :: (18, .vec (x0_1.1).length 3 ((x0_1.1).flatMap e47)) :: (17, .str g34c0) :: (16, .bool true) :: E2)
   refine oR 5 (p' := (atN 13 (ctl1 g34p3))) (eE := E3) (H' := (mkH [])) (by kernel_rfl) ?_
   refine oC (fun (x1_13 : Bool) => .bool x1_13) (atN 14 (ctl1 g34p3)) (fun x1_13 => ((22, .bool x1_13) :: E3)) (fi := 37) (args := [.str g34c0, .vec (x0_1.1).length 3 ((x0_1.1).flatMap e47), .int .i64 (fW .i64 ((x0_1.1.length : Int) - 1))]) (by kernel_rfl) (by kernel_rfl) (fun _ => by kernel_rfl) (fun r h => g37_ok k g34c0 x0_1.1 (fW .i64 ((x0_1.1.length : Int) - 1)) r h) (fun _ => by kernel_rfl) (fun x1_13 hx1_13 => ?_)
   refine oR 2 (p' := (atN 16 (ctl1 g34p3))) (eE := ((24, .bool x1_13) :: (23, .bool x1_13) :: (22, .bool x1_13) :: E3)) (H' := (mkH [])) (by kernel_rfl) ?_
   refine oS 24 (b := x1_13) (by kernel_rfl) (fun hb => ?_) (fun hb => ?_)
   ·let E4 : Env := ((29, .int .i64 (fW .i64 ((x0_1.1.length : Int) - 1))) :: (28, .int .i64 (x0_1.1.length : Int)) :: (27, .vec (x0_1.1).length 3 ((x0_1.1).flatMap e47)) :: (26, .vec (x0_1.1).length 3 ((x0_1.1).flatMap e47)) :: (25, .str g34c0) :: (24, .bool true) :: (24, .bool x1_13) :: (23, .bool x1_13) :: (22, .bool x1_13) :: E3)
    refine oR 5 (p' := (atN 21 (ctl1 g34p3))) (eE := E4) (H' := (mkH [])) (by kernel_rfl) ?_
    refine oC (fun (x1_21 : Bool) => .bool x1_21) (atN 22 (ctl1 g34p3)) (fun x1_21 => ((30, .bool x1_21) :: E4)) (fi := 36) (args := [.str g34c0, .vec (x0_1.1).length 3 ((x0_1.1).flatMap e47), .int .i64 (fW .i64 ((x0_1.1.length : Int) - 1))]) (by kernel_rfl) (by kernel_rfl) (fun _ => by kernel_rfl) (fun r h => g36_ok k g34c0 x0_1.1 (fW .i64 ((x0_1.1.length : Int) - 1)) r h) (fun _ => by kernel_rfl) (fun x1_21 hx1_21 => ?_)
    refine oR 2 (p' := (atN 24 (ctl1 g34p3))) (eE := ((32, .bool x1_21) :: (31, .bool x1_21) :: (30, .bool x1_21) :: E4)) (H' := (mkH [])) (by kernel_rfl) ?_
    refine oS 32 (b := x1_21) (by kernel_rfl) (fun hb => ?_) (fun hb => ?_)
    ·let E5 : Env := ((34, .vec (x0_1.1).length 3 ((x0_1.1).flatMap e47)) :: (33, .str g34c0) :: (32, .bool true) :: (32, .bool x1_21) :: (31, .bool x1_21) :: (30, .bool x1_21) :: E4)
     refine oR 2 (p' := (atN 26 (ctl1 g34p3))) (eE := E5) (H' := (mkH [])) (by kernel_rfl) ?_
     refine oC (fun (x1_26 : Bool) => .bool x1_26) (atN 27 (ctl1 g34p3)) (fun x1_26 => ((35, .bool x1_26) :: E5)) (fi := 36) (args := [.str g34c0, .vec (x0_1.1).length 3 ((x0_1.1).flatMap e47), .int .i64 1]) (by kernel_rfl) (by kernel_rfl) (fun _ => by kernel_rfl) (fun r h => g36_ok k g34c0 x0_1.1 (1 : Int) r h) (fun _ => by kernel_rfl) (fun x1_26 hx1_26 => ?_)
     refine oR 3 (p' := (atN 30 (ctl1 g34p3))) (eE := ((38, .bool (!x1_26)) :: (37, .bool (!x1_26)) :: (36, .bool (!x1_26)) :: (35, .bool x1_26) :: E5)) (H' := (mkH [])) (by kernel_rfl) ?_
     refine oS 38 (b := !x1_26) (by kernel_rfl) (fun hb => ?_) (fun hb => ?_)
     ·let E6 : Env := ((40, .vec (x0_1.1).length 3 ((x0_1.1).flatMap e47)) :: (39, .str g34c0) :: (38, .bool true) :: (38, .bool (!x1_26)) :: (37, .bool (!x1_26)) :: (36, .bool (!x1_26)) :: (35, .bool x1_26) :: E5)
      refine oR 2 (p' := (atN 32 (ctl1 g34p3))) (eE := E6) (H' := (mkH [])) (by kernel_rfl) ?_
      refine oC (fun (x1_32 : Bool) => .bool x1_32) (atN 33 (ctl1 g34p3)) (fun x1_32 => ((41, .bool x1_32) :: E6)) (fi := 37) (args := [.str g34c0, .vec (x0_1.1).length 3 ((x0_1.1).flatMap e47), .int .i64 0]) (by kernel_rfl) (by kernel_rfl) (fun _ => by kernel_rfl) (fun r h => g37_ok k g34c0 x0_1.1 (0 : Int) r h) (fun _ => by kernel_rfl) (fun x1_32 hx1_32 => ?_)
      refine oR 3 (p' := (atN 36 (ctl1 g34p3))) (eE := ((44, .bool (!x1_32)) :: (43, .bool (!x1_32)) :: (42, .bool (!x1_32)) :: (41, .bool x1_32) :: E6)) (H' := (mkH [])) (by kernel_rfl) ?_
      refine oS 44 (b := !x1_32) (by kernel_rfl) (fun hb => ?_) (fun hb => ?_)
      ·let E7 : Env := ((45, .vec (x0_1.1).length 3 ((x0_1.1).flatMap e47)) :: (44, .bool true) :: (44, .bool (!x1_32)) :: (43, .bool (!x1_32)) :: (42, .bool (!x1_32)) :: (41, .bool x1_32) :: E6)
       refine oR 1 (p' := (atN 37 (ctl1 g34p3))) (eE := E7) (H' := (mkH [])) (by kernel_rfl) ?_
       refine oH (fun (x1_37 : S46) => (.vptr [.int .i64 x1_37.f0, .str x1_37.f1, .int .i64 x1_37.f2], (mkH []))) (atN 38 (ctl1 g34p3)) (fun x1_37 => ((46, .vptr [.int .i64 x1_37.f0, .str x1_37.f1, .int .i64 x1_37.f2]) :: E7)) (vidxH (sz := 3) e47_len (by kernel_rfl)) (fun _ => by kernel_rfl) (fun x1_37 hx1_37 => ?_)
       refine oR 1 (p' := (atN 39 (ctl1 g34p3))) (eE := ((47, .agg [.int .i64 x1_37.f0, .str x1_37.f1, .int .i64 x1_37.f2]) :: (46, .vptr [.int .i64 x1_37.f0, .str x1_37.f1, .int .i64 x1_37.f2]) :: E7)) (H' := (mkH [])) (by kernel_rfl) ?_
       refine oC (fun (x1_39 : Int) => .int .i64 x1_39) (atN 40 (ctl1 g34p3)) (fun x1_39 => ((48, .int .i64 x1_39) :: (47, .agg [.int .i64 x1_37.f0, .str x1_37.f1, .int .i64 x1_37.f2]) :: (46, .vptr [.int .i64 x1_37.f0, .str x1_37.f1, .int .i64 x1_37.f2]) :: E7)) (fi := 38) (args := [.agg [.int .i64 x1_37.f0, .str x1_37.f1, .int .i64 x1_37.f2]]) (by kernel_rfl) (by kernel_rfl) (fun _ => by kernel_rfl) (fun r h => g38_ok k (⟨x1_37.f0, x1_37.f1, x1_37.f2⟩ : S46) r h) (fun _ => by kernel_rfl) (fun x1_39 hx1_39 => ?_)
       let E8 : Env := ((0, .bool (decide (x1_39 = 1))) :: (50, .bool (decide (x1_39 = 1))) :: (49, .bool (decide (x1_39 = 1))) :: (48, .int .i64 x1_39) :: (47, .agg [.int .i64 x1_37.f0, .str x1_37.f1, .int .i64 x1_37.f2]) :: (46, .vptr [.int .i64 x1_37.f0, .str x1_37.f1, .int .i64 x1_37.f2]) :: E7)
       refine oR 5 (p' := .fin) (eE := E8) (H' := (mkH [])) (by kernel_rfl) ?_
       exact oT (r := (decide (x1_39 = 1))) (xs := [.bool (decide (x1_39 = 1))]) (v := .bool (decide (x1_39 = 1))) (by kernel_rfl) (by kernel_rfl) (by kernel_rfl) (.pures (by kernel_rfl)) (by kernel_rfl)
      ·let E9 : Env := ((0, .bool false) :: (50, .bool false) :: (49, .tuple []) :: (48, .tuple []) :: (47, .tuple []) :: (46, .tuple []) :: (45, .tuple []) :: (44, .bool false) :: (44, .bool (!x1_32)) :: (43, .bool (!x1_32)) :: (42, .bool (!x1_32)) :: (41, .bool x1_32) :: E6)
       refine oR 9 (p' := .fin) (eE := E9) (H' := (mkH [])) (by kernel_rfl) ?_
       exact oT (r := false) (xs := [.bool false]) (v := .bool false) (by kernel_rfl) (by kernel_rfl) (by kernel_rfl) (.pures (by kernel_rfl)) (by kernel_rfl)
     ·let E10 : Env := ((0, .bool false) :: (50, .bool false) :: (49, .tuple []) :: (48, .tuple []) :: (47, .tuple []) :: (46, .tuple []) :: (45, .tuple []) :: (44, .bool false) :: (43, .bool false) :: (42, .tuple []) :: (41, .tuple []) :: (40, .tuple []) :: (39, .tuple []) :: (38, .bool false) :: (38, .bool (!x1_26)) :: (37, .bool (!x1_26)) :: (36, .bool (!x1_26)) :: (35, .bool x1_26) :: E5)
      refine oR 15 (p' := .fin) (eE := E10) (H' := (mkH [])) (by kernel_rfl) ?_
      exact oT (r := false) (xs := [.bool false]) (v := .bool false) (by kernel_rfl) (by kernel_rfl) (by kernel_rfl) (.pures (by kernel_rfl)) (by kernel_rfl)
    ·let E11 : Env := ((0, .bool false) :: (50, .bool false) :: (49, .tuple []) :: (48, .tuple []) :: (47, .tuple []) :: (46, .tuple []) :: (45, .tuple []) :: (44, .bool false) :: (43, .bool false) :: (42, .tuple []) :: (41, .tuple []) :: (40, .tuple []) :: (39, .tuple []) :: (38, .bool false) :: (37, .bool false) :: (36, .tuple []) :: (35, .tuple []) :: (34, .tuple []) :: (33, .tuple []) :: (32, .bool false) :: (32, .bool x1_21) :: (31, .bool x1_21) :: (30, .bool x1_21) :: E4)
     refine oR 21 (p' := .fin) (eE := E11) (H' := (mkH [])) (by kernel_rfl) ?_
     exact oT (r := false) (xs := [.bool false]) (v := .bool false) (by kernel_rfl) (by kernel_rfl) (by kernel_rfl) (.pures (by kernel_rfl)) (by kernel_rfl)
   ·let E12 : Env := ((0, .bool false) :: (50, .bool false) :: (49, .tuple []) :: (48, .tuple []) :: (47, .tuple []) :: (46, .tuple []) :: (45, .tuple []) :: (44, .bool false) :: (43, .bool false) :: (42, .tuple []) :: (41, .tuple []) :: (40, .tuple []) :: (39, .tuple []) :: (38, .bool false) :: (37, .bool false) :: (36, .tuple []) :: (35, .tuple []) :: (34, .tuple []) :: (33, .tuple []) :: (32, .bool false) :: (31, .bool false) :: (30, .tuple []) :: (29, .tuple []) :: (28, .tuple []) :: (27, .tuple []) :: (26, .tuple []) :: (25, .tuple []) :: (24, .bool false) :: (24, .bool x1_13) :: (23, .bool x1_13) :: (22, .bool x1_13) :: E3)
    refine oR 29 (p' := .fin) (eE := E12) (H' := (mkH [])) (by kernel_rfl) ?_
    exact oT (r := false) (xs := [.bool false]) (v := .bool false) (by kernel_rfl) (by kernel_rfl) (by kernel_rfl) (.pures (by kernel_rfl)) (by kernel_rfl)
  ·let E13 : Env := ((0, .bool false) :: (50, .bool false) :: (49, .tuple []) :: (48, .tuple []) :: (47, .tuple []) :: (46, .tuple []) :: (45, .tuple []) :: (44, .bool false) :: (43, .bool false) :: (42, .tuple []) :: (41, .tuple []) :: (40, .tuple []) :: (39, .tuple []) :: (38, .bool false) :: (37, .bool false) :: (36, .tuple []) :: (35, .tuple []) :: (34, .tuple []) :: (33, .tuple []) :: (32, .bool false) :: (31, .bool false) :: (30, .tuple []) :: (29, .tuple []) :: (28, .tuple []) :: (27, .tuple []) :: (26, .tuple []) :: (25, .tuple []) :: (24, .bool false) :: (23, .bool false) :: (22, .tuple []) :: (21, .tuple []) :: (20, .tuple []) :: (19, .tuple []) :: (18, .tuple []) :: (17, .tuple []) :: (16, .bool false) :: E2)
   refine oR 37 (p' := .fin) (eE := E13) (H' := (mkH [])) (by kernel_rfl) ?_
   exact oT (r := false) (xs := [.bool false]) (v := .bool false) (by kernel_rfl) (by kernel_rfl) (by kernel_rfl) (.pures (by kernel_rfl)) (by kernel_rfl)
 ·let E14 : Env := ((0, .bool false) :: (50, .bool false) :: (49, .tuple []) :: (48, .tuple []) :: (47, .tuple []) :: (46, .tuple []) :: (45, .tuple []) :: (44, .bool false) :: (43, .bool false) :: (42, .tuple []) :: (41, .tuple []) :: (40, .tuple []) :: (39, .tuple []) :: (38, .bool false) :: (37, .bool false) :: (36, .tuple []) :: (35, .tuple []) :: (34, .tuple []) :: (33, .tuple []) :: (32, .bool false) :: (31, .bool false) :: (30, .tuple []) :: (29, .tuple []) :: (28, .tuple []) :: (27, .tuple []) :: (26, .tuple []) :: (25, .tuple []) :: (24, .bool false) :: (23, .bool false) :: (22, .tuple []) :: (21, .tuple []) :: (20, .tuple []) :: (19, .tuple []) :: (18, .tuple []) :: (17, .tuple []) :: (16, .bool false) :: (15, .bool false) :: (14, .tuple []) :: (13, .tuple []) :: (12, .tuple []) :: (11, .bool false) :: E1)
  refine oR 42 (p' := .fin) (eE := E14) (H' := (mkH [])) (by kernel_rfl) ?_
  exact oT (r := false) (xs := [.bool false]) (v := .bool false) (by kernel_rfl) (by kernel_rfl) (by kernel_rfl) (.pures (by kernel_rfl)) (by kernel_rfl)
end
end Go.Proofs.Ytbmijiibfaacmaa.Am
set_option maxRecDepth 100000
set_option linter.unusedVariables false
namespace Go.Proofs.Ytbmijiibfaacmaa.Am
noncomputable section
open Go
def X10 : Fx Bool := ⟨Try.prog, cx, Try.f10, fun r => .bool r, 0, fun _ => H0, cxTi, cxOrd⟩
def g10p0 : Pt := nav [0] (bodyAt Try.f10)
def g10p1 : Pt := nav [0, 0, 0, 0] g10p0
def g10p2 : Pt := nav [0, 0] g10p1
def g10p3 : Pt := nav [1, 0] g10p2
def g10p4 : Pt := nav [2, 0, 0] g10p2
def g10p6 : Pt := nav [0, 0, 0, 0] g10p4
def g10p7 : Pt := nav [0, 0] g10p6
def g10p8 : Pt := nav [1, 0] g10p7
def g10p9 : Pt := nav [2, 0, 0, 0] g10p7
def g10p10 : Pt := nav [0, 0, 0, 0] g10p9
def g10p11 : Pt := nav [0, 0, 0] g10p10
def g10p12 : Pt := nav [0, 0] g10p11
def g10p13 : Pt := nav [1, 0, 0, 0, 0] g10p12
def g10p14 : Pt := nav [2, 0, 0, 0] g10p12
def g10p15 : Pt := nav [0, 0, 0] g10p13
def g10p16 : Pt := nav [0, 0, 0, 0] g10p14
def g10p17 : Pt := nav [0, 0] g10p15
def g10p18 : Pt := nav [0, 0, 0] g10p16
def g10p21 : Pt := nav [0, 0] g10p18
def g10p22 : Pt := nav [1, 0, 0, 0, 0] g10p21
def g10p23 : Pt := nav [2, 0, 0] g10p21
def g10p25 : Pt := nav [0, 0, 0] g10p23
def g10_l10 (k : Nat)  (a0 : (List Nat)) (a1 : Int) (x1_1 : ((List S46) × Int)) (n : Nat) : Int → Option Bool :=
 Nat.rec (motive := fun _ => Int → Option Bool) (fun _ => none) (fun _ ih => fun (y10_0 : Int) => if (decide (y10_0 < (x1_1.1.length : Int))) then ((nthL x1_1.1 y10_0).bind fun x5_2 => (g38 k (⟨x5_2.f0, x5_2.f1, x5_2.f2⟩ : S46)).bind fun x5_4 => (nthL x1_1.1 y10_0).bind fun x5_7 => (nthL x1_1.1 y10_0).bind fun x5_12 => if (!decide (x5_4 = fW .i64 (x5_7.f2 + (x5_12.f1.length : Int)))) then (some false) else (ih (fW .i64 (y10_0 + 1)))) else ((g35 k a0 x1_1.1 a1).bind fun x6_3 => (g34 k).bind fun x7_0 => if x7_0 then ((g36 k a0 x1_1.1 a1).bind fun x7_5 => if (x7_5 == decide (1 ≤ x6_3)) then ((g37 k a0 x1_1.1 a1).bind fun x7_14 => some (x7_14 == decide (2 ≤ x6_3))) else (some false)) else (some false))) n
theorem g10_l10_s (k : Nat)  (a0 : (List Nat)) (a1 : Int) (x1_1 : ((List S46) × Int)) (n : Nat) (y10_0 : Int) : g10_l10 k a0 a1 x1_1 (n + 1) y10_0 = (if (decide (y10_0 < (x1_1.1.length : Int))) then ((nthL x1_1.1 y10_0).bind fun x5_2 => (g38 k (⟨x5_2.f0, x5_2.f1, x5_2.f2⟩ : S46)).bind fun x5_4 => (nthL x1_1.1 y10_0).bind fun x5_7 => (nthL x1_1.1 y10_0).bind fun x5_12 => if (!decide (x5_4 = fW .i64 (x5_7.f2 + (x5_12.f1.length : Int)))) then (some false) else ((g10_l10 k a0 a1 x1_1 n) (fW .i64 (y10_0 + 1)))) else ((g35 k a0 x1_1.1 a1).bind fun x6_3 => (g34 k).bind fun x7_0 => if x7_0 then ((g36 k a0 x1_1.1 a1).bind fun x7_5 => if (x7_5 == decide (1 ≤ x6_3)) then ((g37 k a0 x1_1.1 a1).bind fun x7_14 => some (x7_14 == decide (2 ≤ x6_3))) else (some false)) else (some false))) := rfl
theorem g10_l10_ok (k : Nat)  (a0 : (List Nat)) (a1 : Int) (x1_1 : ((List S46) × Int))  : ∀ (n : Nat) (y10_0 : Int), Ok X10 g10p16 [(0, .str a0), (1, .int .i64 a1), (5, .vec (x1_1.1).length 3 ((x1_1.1).flatMap e47)), (9, .int .i64 y10_0)] (mkH []) (g10_l10 k a0 a1 x1_1 n y10_0)
 | 0, _ => ok_none
 | n + 1, y10_0 => by
  have ih := g10_l10_ok k a0 a1 x1_1 n
  rw [g10_l10_s]
  refine ok_ent (p' := nav [0] g10p16) (by kernel_rfl) ?_
  let E12 : Env := [(52, .bool (decide (y10_0 < (x1_1.1.length : Int)))), (51, .int .i64 (x1_1.1.length : Int)), (50, .vec (x1_1.1).length 3 ((x1_1.1).flatMap e47)), (49, .int .i64 y10_0), (0, .str a0), (1, .int .i64 a1), (5, .vec (x1_1.1).length 3 ((x1_1.1).flatMap e47)), (9, .int .i64 y10_0)]
  refine oR 8 (p' := g10p21) (eE := E12) (H' := (mkH [])) (by kernel_rfl) ?_
  refine oS 52 (b := decide (y10_0 < (x1_1.1.length : Int))) (by kernel_rfl) (fun hb => ?_) (fun hb => ?_)
  ·refine oR 5 (p' := g10p22) (eE := ((52, .bool true) :: E12)) (H' := (mkH [])) (by kernel_rfl) ?_
   refine ok_bind (fun x5_2 hx5_2 => ?_)
   refine ok_bind (fun x5_4 hx5_4 => ?_)
   refine ok_bind (fun x5_7 hx5_7 => ?_)
   refine ok_bind (fun x5_12 hx5_12 => ?_)
   let E13 : Env := [(56, .int .i64 y10_0), (55, .vec (x1_1.1).length 3 ((x1_1.1).flatMap e47)), (52, .bool true), (52, .bool (decide (y10_0 < (x1_1.1.length : Int)))), (51, .int .i64 (x1_1.1.length : Int)), (50, .vec (x1_1.1).length 3 ((x1_1.1).flatMap e47)), (49, .int .i64 y10_0), (0, .str a0), (1, .int .i64 a1), (5, .vec (x1_1.1).length 3 ((x1_1.1).flatMap e47)), (9, .int .i64 y10_0)]
   let E14 : Env := ((61, .int .i64 y10_0) :: (60, .vec (x1_1.1).length 3 ((x1_1.1).flatMap e47)) :: (59, .int .i64 x5_4) :: (58, .agg [.int .i64 x5_2.f0, .str x5_2.f1, .int .i64 x5_2.f2]) :: (57, .vptr [.int .i64 x5_2.f0, .str x5_2.f1, .int .i64 x5_2.f2]) :: E13)
   let E15 : Env := ((66, .int .i64 y10_0) :: (65, .vec (x1_1.1).length 3 ((x1_1.1).flatMap e47)) :: (64, .int .i64 x5_7.f2) :: (63, .vptr [.int .i64 x5_7.f2]) :: (62, .vptr [.int .i64 x5_7.f0, .str x5_7.f1, .int .i64 x5_7.f2]) :: E14)
   let E16 : Env := ((72, .bool (!decide (x5_4 = fW .i64 (x5_7.f2 + (x5_12.f1.length : Int))))) :: (71, .int .i64 (fW .i64 (x5_7.f2 + (x5_12.f1.length : Int)))) :: (70, .int .i64 (x5_12.f1.length : Int)) :: (69, .str x5_12.f1) :: (68, .vptr [.str x5_12.f1, .int .i64 x5_12.f2]) :: (67, .vptr [.int .i64 x5_12.f0, .str x5_12.f1, .int .i64 x5_12.f2]) :: E15)
   refine ok_draw (p' := nav [0] g10p22) (eE := E16) (H' := (mkH [])) (hs := [(mkH [])]) [(0, 0, 0), (0, 0, 0), (3, 0, 0), (7, 0, 0), (15, 0, 0), (0, 0, 0), (0, 0, 0), (96, 0, 0), (224, 0, 0), (480, 0, 1), (0, 0, 0), (0, 0, 0), (3072, 0, 0), (7168, 0, 0), (15360, 0, 1), (31744, 0, 0), (65504, 0, 0), (131071, 0, 0)] (by kernel_rfl) (by kernel_rfl) (by kernel_rfl) (opsD_run 2 (l' := (opsAt g10p22).toList.drop 2) (eE := E13) (H' := (mkH [])) (hs := []) (by kernel_rfl) (opsD_chk (l' := (opsAt g10p22).toList.drop 3) (eE := ((57, .vptr [.int .i64 x5_2.f0, .str x5_2.f1, .int .i64 x5_2.f2]) :: E13)) (hs := []) (x := x5_2) (fun (x5_2 : S46) => (.vptr [.int .i64 x5_2.f0, .str x5_2.f1, .int .i64 x5_2.f2], (mkH []))) (vidxH (sz := 3) e47_len (by kernel_rfl)) hx5_2 (by kernel_rfl) (opsD_run 1 (l' := (opsAt g10p22).toList.drop 4) (eE := ((58, .agg [.int .i64 x5_2.f0, .str x5_2.f1, .int .i64 x5_2.f2]) :: (57, .vptr [.int .i64 x5_2.f0, .str x5_2.f1, .int .i64 x5_2.f2]) :: E13)) (H' := (mkH [])) (hs := []) (by kernel_rfl) (opsD_call (l' := (opsAt g10p22).toList.drop 5) (eE := ((59, .int .i64 x5_4) :: (58, .agg [.int .i64 x5_2.f0, .str x5_2.f1, .int .i64 x5_2.f2]) :: (57, .vptr [.int .i64 x5_2.f0, .str x5_2.f1, .int .i64 x5_2.f2]) :: E13)) (hs := [(mkH [])]) (fi := 38) (args := [.agg [.int .i64 x5_2.f0, .str x5_2.f1, .int .i64 x5_2.f2]]) (v := .int .i64 x5_4) (by kernel_rfl) (by kernel_rfl) (by kernel_rfl) (g38_ok k (⟨x5_2.f0, x5_2.f1, x5_2.f2⟩ : S46) x5_4 hx5_4) (by kernel_rfl) (opsD_run 2 (l' := (opsAt g10p22).toList.drop 7) (eE := E14) (H' := (mkH [])) (hs := []) (by kernel_rfl) (opsD_chk (l' := (opsAt g10p22).toList.drop 8) (eE := ((62, .vptr [.int .i64 x5_7.f0, .str x5_7.f1, .int .i64 x5_7.f2]) :: E14)) (hs := []) (x := x5_7) (fun (x5_7 : S46) => (.vptr [.int .i64 x5_7.f0, .str x5_7.f1, .int .i64 x5_7.f2], (mkH []))) (vidxH (sz := 3) e47_len (by kernel_rfl)) hx5_7 (by kernel_rfl) (opsD_run 4 (l' := (opsAt g10p22).toList.drop 12) (eE := E15) (H' := (mkH [])) (hs := []) (by kernel_rfl) (opsD_chk (l' := (opsAt g10p22).toList.drop 13) (eE := ((67, .vptr [.int .i64 x5_12.f0, .str x5_12.f1, .int .i64 x5_12.f2]) :: E15)) (hs := []) (x := x5_12) (fun (x5_12 : S46) => (.vptr [.int .i64 x5_12.f0, .str x5_12.f1, .int .i64 x5_12.f2], (mkH []))) (vidxH (sz := 3) e47_len (by kernel_rfl)) hx5_12 (by kernel_rfl) (opsD_run 5 (l' := (opsAt g10p22).toList.drop 18) (eE := E16) (H' := (mkH [])) (hs := []) (by kernel_rfl) (.nil)))))))))) (by kernel_rfl) (by kernel_rfl) (by kernel_rfl) ?_
   refine oS 72 (b := !decide (x5_4 = fW .i64 (x5_7.f2 + (x5_12.f1.length : Int)))) (by kernel_rfl) (fun hb => ?_) (fun hb => ?_)
   ·refine oR 6 (p' := .fin) (eE := ((4, .bool false) :: (72, .bool true) :: E16)) (H' := (mkH [])) (by kernel_rfl) ?_
    exact oT (r := false) (xs := [.bool false]) (v := .bool false) (by kernel_rfl) (by kernel_rfl) (by kernel_rfl) (.pures (by kernel_rfl)) (by kernel_rfl)
   ·refine oR 7 (p' := g10p16) (eE := ((9, .int .i64 (fW .i64 (y10_0 + 1))) :: (54, .int .i64 (fW .i64 (y10_0 + 1))) :: (53, .int .i64 y10_0) :: (72, .bool false) :: E16)) (H' := (mkH [])) (by kernel_rfl) ?_
    refine oK [0, 1, 5, 9] (eE := [(0, .str a0), (1, .int .i64 a1), (5, .vec (x1_1.1).length 3 ((x1_1.1).flatMap e47)), (9, .int .i64 (fW .i64 (y10_0 + 1)))]) (by kernel_rfl) ?_
    exact ih (fW .i64 (y10_0 + 1))
  ·refine oR 7 (p' := (atN 3 (ctl1 g10p23))) (eE := ((75, .int .i64 a1) :: (74, .vec (x1_1.1).length 3 ((x1_1.1).flatMap e47)) :: (73, .str a0) :: (52, .bool false) :: E12)) (H' := (mkH [])) (by kernel_rfl) ?_
   refine oC (fun (x6_3 : Int) => .int .i64 x6_3) (atN 4 (ctl1 g10p23)) (fun x6_3 => ((76, .int .i64 x6_3) :: (75, .int .i64 a1) :: (74, .vec (x1_1.1).length 3 ((x1_1.1).flatMap e47)) :: (73, .str a0) :: (52, .bool false) :: E12)) (fi := 35) (args := [.str a0, .vec (x1_1.1).length 3 ((x1_1.1).flatMap e47), .int .i64 a1]) (by kernel_rfl) (by kernel_rfl) (fun _ => by kernel_rfl) (fun r h => g35_ok k a0 x1_1.1 a1 r h) (fun _ => by kernel_rfl) (fun x6_3 hx6_3 => ?_)
   let E17 : Env := ((10, .int .i64 x6_3) :: (76, .int .i64 x6_3) :: (75, .int .i64 a1) :: (74, .vec (x1_1.1).length 3 ((x1_1.1).flatMap e47)) :: (73, .str a0) :: (52, .bool false) :: E12)
   refine oR 3 (p' := g10p25) (eE := E17) (H' := (mkH [])) (by kernel_rfl) ?_
   refine oK [0, 1, 5, 10] (eE := [(0, .str a0), (1, .int .i64 a1), (5, .vec (x1_1.1).length 3 ((x1_1.1).flatMap e47)), (10, .int .i64 x6_3)]) (by kernel_rfl) ?_
   refine oR 1 (p' := (atN 0 (ctl1 g10p25))) (eE := [(0, .str a0), (1, .int .i64 a1), (5, .vec (x1_1.1).length 3 ((x1_1.1).flatMap e47)), (10, .int .i64 x6_3)]) (H' := (mkH [])) (by kernel_rfl) ?_
   refine oC (fun (x7_0 : Bool) => .bool x7_0) (atN 1 (ctl1 g10p25)) (fun x7_0 => [(77, .bool x7_0), (0, .str a0), (1, .int .i64 a1), (5, .vec (x1_1.1).length 3 ((x1_1.1).flatMap e47)), (10, .int .i64 x6_3)]) (fi := 34) (args := []) (by kernel_rfl) (by kernel_rfl) (fun _ => by kernel_rfl) (fun r h => g34_ok k  r h) (fun _ => by kernel_rfl) (fun x7_0 hx7_0 => ?_)
   let E18 : Env := [(78, .bool x7_0), (77, .bool x7_0), (0, .str a0), (1, .int .i64 a1), (5, .vec (x1_1.1).length 3 ((x1_1.1).flatMap e47)), (10, .int .i64 x6_3)]
   refine oR 1 (p' := (atN 2 (ctl1 g10p25))) (eE := E18) (H' := (mkH [])) (by kernel_rfl) ?_
   refine oS 78 (b := x7_0) (by kernel_rfl) (fun hb => ?_) (fun hb => ?_)
   ·refine oR 3 (p' := (atN 5 (ctl1 g10p25))) (eE := ((81, .int .i64 a1) :: (80, .vec (x1_1.1).length 3 ((x1_1.1).flatMap e47)) :: (79, .str a0) :: (78, .bool true) :: E18)) (H' := (mkH [])) (by kernel_rfl) ?_
    refine oC (fun (x7_5 : Bool) => .bool x7_5) (atN 6 (ctl1 g10p25)) (fun x7_5 => ((82, .bool x7_5) :: (81, .int .i64 a1) :: (80, .vec (x1_1.1).length 3 ((x1_1.1).flatMap e47)) :: (79, .str a0) :: (78, .bool true) :: E18)) (fi := 36) (args := [.str a0, .vec (x1_1.1).length 3 ((x1_1.1).flatMap e47), .int .i64 a1]) (by kernel_rfl) (by kernel_rfl) (fun _ => by kernel_rfl) (fun r h => g36_ok k a0 x1_1.1 a1 r h) (fun _ => by kernel_rfl) (fun x7_5 hx7_5 => ?_)
    let E19 : Env := ((87, .bool (x7_5 == decide (1 ≤ x6_3))) :: (86, .bool (x7_5 == decide (1 ≤ x6_3))) :: (85, .bool (x7_5 == decide (1 ≤ x6_3))) :: (84, .bool (decide (1 ≤ x6_3))) :: (83, .int .i64 x6_3) :: (82, .bool x7_5) :: (81, .int .i64 a1) :: (80, .vec (x1_1.1).length 3 ((x1_1.1).flatMap e47)) :: (79, .str a0) :: (78, .bool true) :: E18)
    refine oR 5 (p' := (atN 11 (ctl1 g10p25))) (eE := E19) (H' := (mkH [])) (by kernel_rfl) ?_
    refine oS 87 (b := (x7_5 == decide (1 ≤ x6_3))) (by kernel_rfl) (fun hb => ?_) (fun hb => ?_)
    ·refine oR 3 (p' := (atN 14 (ctl1 g10p25))) (eE := ((90, .int .i64 a1) :: (89, .vec (x1_1.1).length 3 ((x1_1.1).flatMap e47)) :: (88, .str a0) :: (87, .bool true) :: E19)) (H' := (mkH [])) (by kernel_rfl) ?_
     refine oC (fun (x7_14 : Bool) => .bool x7_14) (atN 15 (ctl1 g10p25)) (fun x7_14 => ((91, .bool x7_14) :: (90, .int .i64 a1) :: (89, .vec (x1_1.1).length 3 ((x1_1.1).flatMap e47)) :: (88, .str a0) :: (87, .bool true) :: E19)) (fi := 37) (args := [.str a0, .vec (x1_1.1).length 3 ((x1_1.1).flatMap e47), .int .i64 a1]) (by kernel_rfl) (by kernel_rfl) (fun _ => by kernel_rfl) (fun r h => g37_ok k a0 x1_1.1 a1 r h) (fun _ => by kernel_rfl) (fun x7_14 hx7_14 => ?_)
     let E20 : Env := ((4, .bool (x7_14 == decide (2 ≤ x6_3))) :: (95, .bool (x7_14 == decide (2 ≤ x6_3))) :: (94, .bool (x7_14 == decide (2 ≤ x6_3))) :: (93, .bool (decide (2 ≤ x6_3))) :: (92, .int .i64 x6_3) :: (91, .bool x7_14) :: (90, .int .i64 a1) :: (89, .vec (x1_1.1).length 3 ((x1_1.1).flatMap e47)) :: (88, .str a0) :: (87, .bool true) :: E19)
     refine oR 7 (p' := .fin) (eE := E20) (H' := (mkH [])) (by kernel_rfl) ?_
     exact oT (r := (x7_14 == decide (2 ≤ x6_3))) (xs := [.bool (x7_14 == decide (2 ≤ x6_3))]) (v := .bool (x7_14 == decide (2 ≤ x6_3))) (by kernel_rfl) (by kernel_rfl) (by kernel_rfl) (.pures (by kernel_rfl)) (by kernel_rfl)
    ·let E21 : Env := ((4, .bool false) :: (95, .bool false) :: (94, .tuple []) :: (93, .tuple []) :: (92, .tuple []) :: (91, .tuple []) :: (90, .tuple []) :: (89, .tuple []) :: (88, .tuple []) :: (87, .bool false) :: E19)
     refine oR 11 (p' := .fin) (eE := E21) (H' := (mkH [])) (by kernel_rfl) ?_
     exact oT (r := false) (xs := [.bool false]) (v := .bool false) (by kernel_rfl) (by kernel_rfl) (by kernel_rfl) (.pures (by kernel_rfl)) (by kernel_rfl)
   ·let E22 : Env := ((4, .bool false) :: (95, .bool false) :: (94, .tuple []) :: (93, .tuple []) :: (92, .tuple []) :: (91, .tuple []) :: (90, .tuple []) :: (89, .tuple []) :: (88, .tuple []) :: (87, .bool false) :: (86, .bool false) :: (85, .tuple []) :: (84, .tuple []) :: (83, .tuple []) :: (82, .tuple []) :: (81, .tuple []) :: (80, .tuple []) :: (79, .tuple []) :: (78, .bool false) :: E18)
    refine oR 20 (p' := .fin) (eE := E22) (H' := (mkH [])) (by kernel_rfl) ?_
    exact oT (r := false) (xs := [.bool false]) (v := .bool false) (by kernel_rfl) (by kernel_rfl) (by kernel_rfl) (.pures (by kernel_rfl)) (by kernel_rfl)
def g10_l8 (k : Nat)  (a0 : (List Nat)) (a1 : Int) (x1_1 : ((List S46) × Int)) (n : Nat) : Int → Option Bool :=
 Nat.rec (motive := fun _ => Int → Option Bool) (fun _ => none) (fun _ ih => fun (y8_0 : Int) => if (decide (y8_0 ≤ (x1_1.1.length : Int))) then ((g35 k a0 x1_1.1 y8_0).bind fun x3_3 => (g36 k a0 x1_1.1 y8_0).bind fun x4_3 => jn (fun (z9 : Bool × Int) => if z9.1 then (some false) else (ih (fW .i64 (z9.2 + 1)))) (fun j9 => if (!(x4_3 == decide (1 ≤ x3_3))) then (j9 (true, y8_0)) else ((g37 k a0 x1_1.1 y8_0).bind fun x4_11 => j9 (!(x4_11 == decide (2 ≤ x3_3)), y8_0)))) else (g10_l10 k a0 a1 x1_1 k 0)) n
theorem g10_l8_s (k : Nat)  (a0 : (List Nat)) (a1 : Int) (x1_1 : ((List S46) × Int)) (n : Nat) (y8_0 : Int) : g10_l8 k a0 a1 x1_1 (n + 1) y8_0 = (if (decide (y8_0 ≤ (x1_1.1.length : Int))) then ((g35 k a0 x1_1.1 y8_0).bind fun x3_3 => (g36 k a0 x1_1.1 y8_0).bind fun x4_3 => jn (fun (z9 : Bool × Int) => if z9.1 then (some false) else ((g10_l8 k a0 a1 x1_1 n) (fW .i64 (z9.2 + 1)))) (fun j9 => if (!(x4_3 == decide (1 ≤ x3_3))) then (j9 (true, y8_0)) else ((g37 k a0 x1_1.1 y8_0).bind fun x4_11 => j9 (!(x4_11 == decide (2 ≤ x3_3)), y8_0)))) else (g10_l10 k a0 a1 x1_1 k 0)) := rfl
theorem g10_l8_ok (k : Nat)  (a0 : (List Nat)) (a1 : Int) (x1_1 : ((List S46) × Int))  : ∀ (n : Nat) (y8_0 : Int), Ok X10 g10p10 [(0, .str a0), (1, .int .i64 a1), (5, .vec (x1_1.1).length 3 ((x1_1.1).flatMap e47)), (7, .int .i64 y8_0)] (mkH []) (g10_l8 k a0 a1 x1_1 n y8_0)
 | 0, _ => ok_none
 | n + 1, y8_0 => by
  have ih := g10_l8_ok k a0 a1 x1_1 n
  rw [g10_l8_s]
  refine ok_ent (p' := nav [0] g10p10) (by kernel_rfl) ?_
  let E4 : Env := [(26, .bool (decide (y8_0 ≤ (x1_1.1.length : Int)))), (25, .int .i64 (x1_1.1.length : Int)), (24, .vec (x1_1.1).length 3 ((x1_1.1).flatMap e47)), (23, .int .i64 y8_0), (0, .str a0), (1, .int .i64 a1), (5, .vec (x1_1.1).length 3 ((x1_1.1).flatMap e47)), (7, .int .i64 y8_0)]
  refine oR 8 (p' := g10p12) (eE := E4) (H' := (mkH [])) (by kernel_rfl) ?_
  refine oS 26 (b := decide (y8_0 ≤ (x1_1.1.length : Int))) (by kernel_rfl) (fun hb => ?_) (fun hb => ?_)
  ·refine oR 9 (p' := (atN 3 (ctl1 g10p13))) (eE := ((31, .int .i64 y8_0) :: (30, .vec (x1_1.1).length 3 ((x1_1.1).flatMap e47)) :: (29, .str a0) :: (26, .bool true) :: E4)) (H' := (mkH [])) (by kernel_rfl) ?_
   refine oC (fun (x3_3 : Int) => .int .i64 x3_3) (atN 4 (ctl1 g10p13)) (fun x3_3 => ((32, .int .i64 x3_3) :: (31, .int .i64 y8_0) :: (30, .vec (x1_1.1).length 3 ((x1_1.1).flatMap e47)) :: (29, .str a0) :: (26, .bool true) :: E4)) (fi := 35) (args := [.str a0, .vec (x1_1.1).length 3 ((x1_1.1).flatMap e47), .int .i64 y8_0]) (by kernel_rfl) (by kernel_rfl) (fun _ => by kernel_rfl) (fun r h => g35_ok k a0 x1_1.1 y8_0 r h) (fun _ => by kernel_rfl) (fun x3_3 hx3_3 => ?_)
   let E5 : Env := ((8, .int .i64 x3_3) :: (32, .int .i64 x3_3) :: (31, .int .i64 y8_0) :: (30, .vec (x1_1.1).length 3 ((x1_1.1).flatMap e47)) :: (29, .str a0) :: (26, .bool true) :: E4)
   refine oR 3 (p' := g10p15) (eE := E5) (H' := (mkH [])) (by kernel_rfl) ?_
   refine oK [0, 1, 5, 7, 8] (eE := [(0, .str a0), (1, .int .i64 a1), (5, .vec (x1_1.1).length 3 ((x1_1.1).flatMap e47)), (7, .int .i64 y8_0), (8, .int .i64 x3_3)]) (by kernel_rfl) ?_
   let E6 : Env := [(35, .int .i64 y8_0), (34, .vec (x1_1.1).length 3 ((x1_1.1).flatMap e47)), (33, .str a0), (0, .str a0), (1, .int .i64 a1), (5, .vec (x1_1.1).length 3 ((x1_1.1).flatMap e47)), (7, .int .i64 y8_0), (8, .int .i64 x3_3)]
   refine oR 4 (p' := (atN 3 (ctl1 g10p15))) (eE := E6) (H' := (mkH [])) (by kernel_rfl) ?_
   refine oC (fun (x4_3 : Bool) => .bool x4_3) (atN 4 (ctl1 g10p15)) (fun x4_3 => ((36, .bool x4_3) :: E6)) (fi := 36) (args := [.str a0, .vec (x1_1.1).length 3 ((x1_1.1).flatMap e47), .int .i64 y8_0]) (by kernel_rfl) (by kernel_rfl) (fun _ => by kernel_rfl) (fun r h => g36_ok k a0 x1_1.1 y8_0 r h) (fun _ => by kernel_rfl) (fun x4_3 hx4_3 => ?_)
   let E7 : Env := ((40, .bool (!(x4_3 == decide (1 ≤ x3_3)))) :: (39, .bool (!(x4_3 == decide (1 ≤ x3_3)))) :: (38, .bool (decide (1 ≤ x3_3))) :: (37, .int .i64 x3_3) :: (36, .bool x4_3) :: E6)
   refine oR 4 (p' := (atN 8 (ctl1 g10p15))) (eE := E7) (H' := (mkH [])) (by kernel_rfl) ?_
   refine oJ (f := fun (z9 : Bool × Int) => if z9.1 then (some false) else ((g10_l8 k a0 a1 x1_1 n) (fW .i64 (z9.2 + 1)))) g10p17 (fun (z9 : Bool × Int) => [(0, .str a0), (1, .int .i64 a1), (5, .vec (x1_1.1).length 3 ((x1_1.1).flatMap e47)), (7, .int .i64 z9.2), (48, .bool z9.1)]) (fun (z9 : Bool × Int) => (mkH [])) (fun z9 => ?_) (fun j9 hj9 => ?_)
   ·refine oS 48 (b := z9.1) (by kernel_rfl) (fun hb => ?_) (fun hb => ?_)
    ·let E8 : Env := [(4, .bool false), (48, .bool true), (0, .str a0), (1, .int .i64 a1), (5, .vec (x1_1.1).length 3 ((x1_1.1).flatMap e47)), (7, .int .i64 z9.2), (48, .bool z9.1)]
     refine oR 6 (p' := .fin) (eE := E8) (H' := (mkH [])) (by kernel_rfl) ?_
     exact oT (r := false) (xs := [.bool false]) (v := .bool false) (by kernel_rfl) (by kernel_rfl) (by kernel_rfl) (.pures (by kernel_rfl)) (by kernel_rfl)
    ·let E9 : Env := [(7, .int .i64 (fW .i64 (z9.2 + 1))), (28, .int .i64 (fW .i64 (z9.2 + 1))), (27, .int .i64 z9.2), (48, .bool false), (0, .str a0), (1, .int .i64 a1), (5, .vec (x1_1.1).length 3 ((x1_1.1).flatMap e47)), (7, .int .i64 z9.2), (48, .bool z9.1)]
     refine oR 7 (p' := g10p10) (eE := E9) (H' := (mkH [])) (by kernel_rfl) ?_
     refine oK [0, 1, 5, 7] (eE := [(0, .str a0), (1, .int .i64 a1), (5, .vec (x1_1.1).length 3 ((x1_1.1).flatMap e47)), (7, .int .i64 (fW .i64 (z9.2 + 1)))]) (by kernel_rfl) ?_
     exact ih (fW .i64 (z9.2 + 1))
   ·refine oS 40 (b := !(x4_3 == decide (1 ≤ x3_3))) (by kernel_rfl) (fun hb => ?_) (fun hb => ?_)
    ·let E10 : Env := ((48, .bool true) :: (47, .tuple []) :: (46, .tuple []) :: (45, .tuple []) :: (44, .tuple []) :: (43, .tuple []) :: (42, .tuple []) :: (41, .tuple []) :: (40, .bool true) :: E7)
     refine oR 9 (p' := g10p17) (eE := E10) (H' := (mkH [])) (by kernel_rfl) ?_
     refine oK [0, 1, 5, 7, 48] (eE := [(0, .str a0), (1, .int .i64 a1), (5, .vec (x1_1.1).length 3 ((x1_1.1).flatMap e47)), (7, .int .i64 y8_0), (48, .bool true)]) (by kernel_rfl) ?_
     exact hj9 (true, y8_0)
    ·refine oR 3 (p' := (atN 11 (ctl1 g10p15))) (eE := ((43, .int .i64 y8_0) :: (42, .vec (x1_1.1).length 3 ((x1_1.1).flatMap e47)) :: (41, .str a0) :: (40, .bool false) :: E7)) (H' := (mkH [])) (by kernel_rfl) ?_
     refine oC (fun (x4_11 : Bool) => .bool x4_11) (atN 12 (ctl1 g10p15)) (fun x4_11 => ((44, .bool x4_11) :: (43, .int .i64 y8_0) :: (42, .vec (x1_1.1).length 3 ((x1_1.1).flatMap e47)) :: (41, .str a0) :: (40, .bool false) :: E7)) (fi := 37) (args := [.str a0, .vec (x1_1.1).length 3 ((x1_1.1).flatMap e47), .int .i64 y8_0]) (by kernel_rfl) (by kernel_rfl) (fun _ => by kernel_rfl) (fun r h => g37_ok k a0 x1_1.1 y8_0 r h) (fun _ => by kernel_rfl) (fun x4_11 hx4_11 => ?_)
     let E11 : Env := ((48, .bool (!(x4_11 == decide (2 ≤ x3_3)))) :: (47, .bool (!(x4_11 == decide (2 ≤ x3_3)))) :: (46, .bool (decide (2 ≤ x3_3))) :: (45, .int .i64 x3_3) :: (44, .bool x4_11) :: (43, .int .i64 y8_0) :: (42, .vec (x1_1.1).length 3 ((x1_1.1).flatMap e47)) :: (41, .str a0) :: (40, .bool false) :: E7)
     refine oR 5 (p' := g10p17) (eE := E11) (H' := (mkH [])) (by kernel_rfl) ?_
     refine oK [0, 1, 5, 7, 48] (eE := [(0, .str a0), (1, .int .i64 a1), (5, .vec (x1_1.1).length 3 ((x1_1.1).flatMap e47)), (7, .int .i64 y8_0), (48, .bool (!(x4_11 == decide (2 ≤ x3_3))))]) (by kernel_rfl) ?_
     exact hj9 (!(x4_11 == decide (2 ≤ x3_3)), y8_0)
  ·refine oR 9 (p' := g10p16) (eE := ((9, .int .i64 0) :: (26, .bool false) :: E4)) (H' := (mkH [])) (by kernel_rfl) ?_
   refine oK [0, 1, 5, 9] (eE := [(0, .str a0), (1, .int .i64 a1), (5, .vec (x1_1.1).length 3 ((x1_1.1).flatMap e47)), (9, .int .i64 0)]) (by kernel_rfl) ?_
   exact (g10_l10_ok k a0 a1 x1_1 k) 0
def g10 (k : Nat) (a0 : (List Nat)) (a1 : Int) : Option Bool :=
 if (decide (1000 < (a0.length : Int))) then ((g34 k).bind fun x0_0 => some x0_0) else ((g28 k a0).bind fun x1_1 => if (!decide (x1_1.2 = 0)) then ((g34 k).bind fun x2_0 => some x2_0) else (g10_l8 k a0 a1 x1_1 k (-1)))
theorem g10_ok (k : Nat) (a0 : (List Nat)) (a1 : Int) (r : Bool) (h : g10 k a0 a1 = some r) : PureOk Try.prog 10 [.str a0, .int .i64 a1] (.bool r) := by
 refine pure_of X10 (fun _ => rfl) Try.func10 (by decide +kernel) (by kernel_rfl) (t := g10 k a0 a1) ?_ h
 unfold g10
 refine oE (eE := [(0, .str a0), (1, .int .i64 a1)]) (by kernel_rfl) ?_
 let E1 : Env := [(13, .bool (decide (1000 < (a0.length : Int)))), (12, .int .i64 (a0.length : Int)), (11, .str a0), (4, .bool false), (0, .str a0), (1, .int .i64 a1)]
 refine oR 11 (p' := g10p2) (eE := E1) (H' := (mkH [])) (by kernel_rfl) ?_
 refine oS 13 (b := decide (1000 < (a0.length : Int))) (by kernel_rfl) (fun hb => ?_) (fun hb => ?_)
 ·refine oR 3 (p' := (atN 0 (ctl1 g10p3))) (eE := ((13, .bool true) :: E1)) (H' := (mkH [])) (by kernel_rfl) ?_
  refine oC (fun (x0_0 : Bool) => .bool x0_0) (atN 1 (ctl1 g10p3)) (fun x0_0 => ((14, .bool x0_0) :: (13, .bool true) :: E1)) (fi := 34) (args := []) (by kernel_rfl) (by kernel_rfl) (fun _ => by kernel_rfl) (fun r h => g34_ok k  r h) (fun _ => by kernel_rfl) (fun x0_0 hx0_0 => ?_)
  refine oR 3 (p' := .fin) (eE := ((4, .bool x0_0) :: (14, .bool x0_0) :: (13, .bool true) :: E1)) (H' := (mkH [])) (by kernel_rfl) ?_
  exact oT (r := x0_0) (xs := [.bool x0_0]) (v := .bool x0_0) (by kernel_rfl) (by kernel_rfl) (by kernel_rfl) (.pures (by kernel_rfl)) (by kernel_rfl)
 ·refine oR 5 (p' := (atN 1 (ctl1 g10p4))) (eE := ((16, .str a0) :: (13, .bool false) :: E1)) (H' := (mkH [])) (by kernel_rfl) ?_
  refine oC (fun (x1_1 : ((List S46) × Int)) => .tuple [.vec (x1_1.1).length 3 ((x1_1.1).flatMap e47), .int .i64 x1_1.2]) (atN 2 (ctl1 g10p4)) (fun x1_1 => ((17, .tuple [.vec (x1_1.1).length 3 ((x1_1.1).flatMap e47), .int .i64 x1_1.2]) :: (16, .str a0) :: (13, .bool false) :: E1)) (fi := 28) (args := [.str a0]) (by kernel_rfl) (by kernel_rfl) (fun _ => by kernel_rfl) (fun r h => g28_ok k a0 r h) (fun _ => by kernel_rfl) (fun x1_1 hx1_1 => ?_)
  let E2 : Env := ((6, .int .i64 x1_1.2) :: (5, .vec (x1_1.1).length 3 ((x1_1.1).flatMap e47)) :: (19, .int .i64 x1_1.2) :: (18, .vec (x1_1.1).length 3 ((x1_1.1).flatMap e47)) :: (15, .tuple [.vec (x1_1.1).length 3 ((x1_1.1).flatMap e47), .int .i64 x1_1.2]) :: (17, .tuple [.vec (x1_1.1).length 3 ((x1_1.1).flatMap e47), .int .i64 x1_1.2]) :: (16, .str a0) :: (13, .bool false) :: E1)
  refine oR 8 (p' := g10p6) (eE := E2) (H' := (mkH [])) (by kernel_rfl) ?_
  refine oK [0, 1, 5, 6] (eE := [(0, .str a0), (1, .int .i64 a1), (5, .vec (x1_1.1).length 3 ((x1_1.1).flatMap e47)), (6, .int .i64 x1_1.2)]) (by kernel_rfl) ?_
  let E3 : Env := [(21, .bool (!decide (x1_1.2 = 0))), (20, .int .i64 x1_1.2), (0, .str a0), (1, .int .i64 a1), (5, .vec (x1_1.1).length 3 ((x1_1.1).flatMap e47)), (6, .int .i64 x1_1.2)]
  refine oR 4 (p' := g10p7) (eE := E3) (H' := (mkH [])) (by kernel_rfl) ?_
  refine oS 21 (b := !decide (x1_1.2 = 0)) (by kernel_rfl) (fun hb => ?_) (fun hb => ?_)
  ·refine oR 3 (p' := (atN 0 (ctl1 g10p8))) (eE := ((21, .bool true) :: E3)) (H' := (mkH [])) (by kernel_rfl) ?_
   refine oC (fun (x2_0 : Bool) => .bool x2_0) (atN 1 (ctl1 g10p8)) (fun x2_0 => ((22, .bool x2_0) :: (21, .bool true) :: E3)) (fi := 34) (args := []) (by kernel_rfl) (by kernel_rfl) (fun _ => by kernel_rfl) (fun r h => g34_ok k  r h) (fun _ => by kernel_rfl) (fun x2_0 hx2_0 => ?_)
   refine oR 3 (p' := .fin) (eE := ((4, .bool x2_0) :: (22, .bool x2_0) :: (21, .bool true) :: E3)) (H' := (mkH [])) (by kernel_rfl) ?_
   exact oT (r := x2_0) (xs := [.bool x2_0]) (v := .bool x2_0) (by kernel_rfl) (by kernel_rfl) (by kernel_rfl) (.pures (by kernel_rfl)) (by kernel_rfl)
  ·refine oR 9 (p' := g10p10) (eE := ((7, .int .i64 (-1)) :: (21, .bool false) :: E3)) (H' := (mkH [])) (by kernel_rfl) ?_
   refine oK [0, 1, 5, 7] (eE := [(0, .str a0), (1, .int .i64 a1), (5, .vec (x1_1.1).length 3 ((x1_1.1).flatMap e47)), (7, .int .i64 (-1))]) (by kernel_rfl) ?_
   exact (g10_l8_ok k a0 a1 x1_1 k) (-1)
end
end Go.Proofs.Ytbmijiibfaacmaa.Am
set_option maxRecDepth 100000
set_option linter.unusedVariables false
set_option linter.unusedSimpArgs false
namespace Go.Proofs.Ytbmijiibfaacmaa.Am
open Go
theorem told7 (k : Nat) : g34 (k + 60) = some true := by kernel_rfl
theorem gasks_2 (k : Nat) (hk : 1900 ≤ k) {s : List Nat} (hl : s.length ≤ 1000) {l : List (Nat × Nat × Nat)} (ht : Toks s 0 l) (a1 e : Int) : ∀ (f i : Nat), l.length < i + f → i ≤ l.length →
 g10_l10 (k + 60) s a1 (l.map (mkTok s), e) f (i : Int) = some true
 | 0, i, h, h2 => by omega
 | f + 1, i, h, h2 => by
  have ll : (((l.map (mkTok s), e) : List S46 × Int).1.length : Int) = (l.length : Int) := by simp
  have cl : l.length ≤ s.length := toks_len s (s.length + 1) 0 l ((toks_iff s (s.length + 1) 0 l (by omega)).2 ht) (Nat.zero_le _)
  rw [g10_l10_s, ll]
  rcases Nat.lt_or_ge i l.length with hi | hi
  ·have ih := gasks_2 k hk hl ht a1 e f (i + 1) (by omega) (by omega)
   obtain ⟨x, r, hx, -, hxm, -⟩ := dconsL (s := l) (i := i) hi
   have bx := toks_bounds ht (Nat.zero_le _) x hxm
   refine iT (dT (by omega)) ?_
   refine bS (by (try simp (disch := omega) only [fwI]); exact map_drop' hx) ?_
   refine bS (by (try simp (disch := omega) only [fwI]); exact gend_at (by omega) bx.2.1) ?_
   refine bS (by (try simp (disch := omega) only [fwI]); exact map_drop' hx) ?_
   refine bS (by (try simp (disch := omega) only [fwI]); exact map_drop' hx) ?_
   rw [tok_end bx.2.1, fwI (by omega) (by omega)]
   refine iF (by rw [dT rfl]; rfl) ?_
   rw [fw_s (by omega)]
   exact ih
  ·refine iF (dF (by omega)) ?_
   refine bS (by (try simp (disch := omega) only [fwI]); exact rnewl_at (k := k + 60) (by omega) (by omega) ht a1) ?_
   refine bS (by (try simp (disch := omega) only [fwI]); exact told7 k) ?_
   refine iT rfl ?_
   refine bS (by (try simp (disch := omega) only [fwI]); exact broken_at (k := k + 60) (by omega) (by omega) ht a1) ?_
   refine iT (by simp) ?_
   refine bS (by (try simp (disch := omega) only [fwI]); exact gblank_at (k := k + 60) (by omega) (by omega) ht a1) ?_
   simp
theorem gasks_1 (k : Nat) (hk : 1900 ≤ k) {s : List Nat} (hl : s.length ≤ 1000) {l : List (Nat × Nat × Nat)} (ht : Toks s 0 l) (a1 e : Int) : ∀ (f : Nat) (i : Int), (l.length : Int) + 1 < i + f → -1 ≤ i → i ≤ l.length + 1 →
 g10_l8 (k + 60) s a1 (l.map (mkTok s), e) f i = some true
 | 0, i, h, h2, h3 => by omega
 | f + 1, i, h, h2, h3 => by
  have ll : (((l.map (mkTok s), e) : List S46 × Int).1.length : Int) = (l.length : Int) := by simp
  have cl : l.length ≤ s.length := toks_len s (s.length + 1) 0 l ((toks_iff s (s.length + 1) 0 l (by omega)).2 ht) (Nat.zero_le _)
  rw [g10_l8_s, ll]
  by_cases hi : i ≤ l.length
  ·have ih := gasks_1 k hk hl ht a1 e f (i + 1) (by omega) (by omega) (by omega)
   refine iT (dT hi) ?_
   refine bS (by (try simp (disch := omega) only [fwI]); exact rnewl_at (k := k + 60) (by omega) (by omega) ht i) ?_
   refine bS (by (try simp (disch := omega) only [fwI]); exact broken_at (k := k + 60) (by omega) (by omega) ht i) ?_
   refine (jS (v := (false, i)) (fun j => ?_)).trans ?_
   ·refine iF (by simp) ?_
    refine bS (by (try simp (disch := omega) only [fwI]); exact gblank_at (k := k + 60) (by omega) (by omega) ht i) ?_
    simp
   ·refine iF rfl ?_
    show g10_l8 _ _ _ _ f (fW .i64 (i + 1)) = _
    rw [fwI (by omega) (by omega)]
    exact ih
  ·refine iF (dF hi) ?_
   exact gasks_2 k hk hl ht a1 e (k + 60) 0 (by omega) (Nat.zero_le _)
theorem gapAsks_true (s : List Nat) (a1 : Int) (hs : ∀ b ∈ s, b < 256) (hl : s.length ≤ 140737488351232) : ∃ k, g10 k s a1 = some true := by
 refine ⟨1940 + 60, ?_⟩
 unfold g10
 by_cases h6 : 1000 < s.length
 ·refine iT (dT (by omega)) ?_
  refine bS (by (try simp (disch := omega) only [fwI]); exact told7 1940) ?_
  rfl
 ·refine iF (dF (by omega)) ?_
  refine bS (by (try simp (disch := omega) only [fwI]); exact rscan_at (k := 1940 + 60) (by omega) hs hl) ?_
  by_cases he : (scanN s).2 = 0
  ·obtain ⟨l, l1, l2, l3, l4⟩ := scan_ok he
   have cl : l.length ≤ s.length := toks_len s (s.length + 1) 0 l ((toks_iff s (s.length + 1) 0 l (by omega)).2 l1) (Nat.zero_le _)
   refine iF (by rw [dT he]; rfl) ?_
   rw [l2]
   exact gasks_1 1940 (by omega) (by omega) l1 a1 0 (1940 + 60) (-1) (by omega) (by omega) (by omega)
  ·refine iT (by rw [dF he]; rfl) ?_
   refine bS (by (try simp (disch := omega) only [fwI]); exact told7 1940) ?_
   rfl
end Go.Proofs.Ytbmijiibfaacmaa.Am
set_option linter.unusedVariables false
set_option linter.unusedSimpArgs false
namespace Go.Proofs.Ytbmijiibfaacmaa.Am
open Go
theorem gapAsks_walk (a0 : ByteArray) (a1 : Int) (W : World) (w0 : a0.size ≤ 140737488351232) (w1 : (Lit.int .i64 a1).wf = true) : Calls Try.prog 10 #[.string a0, .int .i64 a1] W fun e W' => e = .returned (.bool true) ∧ RowKit.Below W.heap.size W W' := by
 obtain ⟨k, h⟩ := gapAsks_true (a0.data.toList.map (·.toNat)) a1 (bytes_lt a0) (by simpa using w0)
 exact law_walk (g10_ok k (a0.data.toList.map (·.toNat)) a1 true h) (by simp only [VRs, VR]; exact ⟨_, _, rfl, ⟨a0, rfl, rfl⟩, ⟨_, _, rfl, rfl, rfl⟩⟩) W
end Go.Proofs.Ytbmijiibfaacmaa.Am
namespace Go.Proofs.Ytbmijiibfaacmaa.gapAsks
open Go.ChangeShapes Go.WideShapes Go.ChangeAt Go.RowKit
open Go.ChangeMaps (open_string shut_string)
set_option linter.unusedVariables false
theorem own : ownKnob Try.prog.godebug = none := by kernel_rfl
set_option maxRecDepth 100000 in
theorem lifted (os : Os) (started : os.Started) (H : Type) (enc : TypeId × Value → H) :
 ReturnsInHanded {} Try.checked os 10 .any (Rows.gapAsksSpec.pre6 enc Try.prog Try.f10 Rows.gapAsksRow.domain false) (Rows.gapAsksSpec.post enc Try.prog Try.f10 false true false false) := by
 refine returnsInHanded_of_change_sized (C := Try.checked) own started (by kernel_rfl) Try.func10
  (ChangeSpec.witness6 (enc := enc) (C := Try.checked) false ⟨#[], #[.string ByteArray.empty, .int .i64 0], []⟩ 8 (by kernel_rfl) (by kernel_rfl) (by kernel_rfl) (by kernel_rfl)) ?_
 intro W base args ds gs before hval0 hW hcnd hsz0 _
 have hsz : (DataW.weightsEach Try.prog (Try.f10.params.toList ++ Rows.gapAsksSpec.plain.varTypes Try.prog) (ds ++ gs)).all (· ≤ reachBytes) = true := hsz0
 have hval : ∀ (j : Nat) t v, Try.f10.params[j]? = some t → args[j]? = some v → Value.okWide Try.prog W .any base t v := hval0
 have hW' := hW
 obtain ⟨p, q, hA0, hV, rfl, hfz, hnd⟩ := hW
 have hA : DataW.TrodAll enc Try.prog W 0 (fun _ => true) true Try.f10.params.toList args.toList ds p := hA0
 rw [Try.params10] at hA hval hsz
 obtain ⟨v0, vs0, d0, ds0, p0, q0, hargs, rfl, rfl, h0, r0⟩ := trodAll_cons hA
 obtain ⟨v1, vs1, d1, ds1, p1, q1, rfl, rfl, rfl, h1, r1⟩ := trodAll_cons r0
 obtain ⟨rfl, rfl, rfl⟩ := trodAll_nil r1
 obtain rfl : args = #[v0, v1] := by cases args; simp_all
 obtain ⟨rfl, rfl⟩ := trodVars_none hV
 obtain ⟨a0, rfl, rfl, rfl, y0⟩ := open_string Try.underlying9 (hval 0 9 v0 rfl rfl) h0
 have w0 : a0.size ≤ 140737488351232 := by
  have z := sized_string hsz (j := 0) (t := 9) rfl rfl
  rw [Array.length_toList] at z
  exact z
 obtain ⟨a1, rfl, rfl, rfl, w1⟩ := open_int Try.underlying3 (hval 1 3 v1 rfl rfl) h1
 clear hA0 hval0 hsz0 hsz
 refine (Am.gapAsks_walk a0 a1 W w0 w1).mono fun e W' ⟨he, bel⟩ => ?_
 subst he
 exact ⟨_, rfl, _, _, _, [], _, [], hW', trodAll_mk1 (shut_bool Try.underlying4 _), (trodAll_cons_mk (shut_string Try.underlying9 y0) (trodAll_cons_mk (shut_int Try.underlying3 w1) trodAll_mk0)), rfl, bel.frame _, fun h => by cases h⟩
theorem over : Rows.gapAsksRow.holds Try.pinned (OpenSpec.ofChange Rows.gapAsksSpec) :=
 OpenClaim.holds_of_wide 10 Try.f10 rfl rfl rfl rfl rfl rfl rfl ⟨rfl, rfl, rfl, rfl, rfl⟩ rfl rfl rfl rfl rfl (by kernel_rfl) Try.func10 (by kernel_rfl)
  (of_decide_eq_true (by kernel_rfl)) (by unfold Func.isWrapper; first | (rw [if_pos (by decide +kernel)]; kernel_rfl) | (rw [if_neg (by decide +kernel)]; exact ⟨rfl, rfl⟩))
  (fun os started H enc _ => lifted os started H enc)
theorem proved : Rows.GapAsksSaid := over
#print axioms proved
end Go.Proofs.Ytbmijiibfaacmaa.gapAsks
namespace Go.Proofs.Ytbmijiibfaacmaa
theorem gapAsks_holds : Rows.GapAsksSaid := gapAsks.proved
end Go.Proofs.Ytbmijiibfaacmaa
