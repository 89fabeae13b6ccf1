/- cell: blanks, and what the laws of layer 12 need of texts. -/
import Derived.Test.YtfkefelgjbfkjaaCellA
import Derived.Test.YtfkefelgjbfkjaaG21
set_option maxRecDepth 100000
set_option linter.unusedVariables false
set_option linter.unusedSimpArgs false
namespace Go.Proofs.Ytfkefelgjbfkjaa.Am
open Go

def indM (a : Int) : Nat := (minI (maxI a 0) 20000).toNat
theorem indM_le (a : Int) : indM a ≤ 20000 := by
  unfold indM minI maxI
  repeat' split
  all_goals omega
theorem indM_eq (a : Int) : minI (maxI a 0) 20000 = ((indM a : Nat) : Int) := by
  unfold indM minI maxI
  repeat' split
  all_goals omega
def indN (a : Int) : List Nat := List.replicate (indM a) 32
theorem toS_rep (n : Nat) : toS (List.replicate n (32 : Int)) = some (List.replicate n 32) := by
  have := toS_nat (List.replicate n 32) (by intro b hb; rw [(List.mem_replicate.1 hb).2]; decide)
  rw [List.map_replicate] at this
  exact this
theorem set_rep (i d : Nat) : (List.replicate i (32 : Int) ++ List.replicate (d + 1) 0).set i 32 = List.replicate (i + 1) 32 ++ List.replicate d 0 := by
  rw [List.set_append_right _ _ (by simp)]
  simp only [List.length_replicate, Nat.sub_self]
  rw [List.replicate_succ, List.set_cons_zero, List.replicate_succ', List.append_assoc]
  rfl
theorem indent_l (k : Nat) (x : List Int) (hx : x.length ≤ 20000) : ∀ (d m i : Nat), i + d = x.length → g25_l3 k x (d + 1 + m) (i : Int) (List.replicate i 32 ++ List.replicate d 0) = some (List.replicate x.length 32)
  | 0, m, i, h => by
    rw [show 0 + 1 + m = m + 1 from by omega, g25_l3_s, decide_eq_false (show ¬ (i : Int) < (x.length : Int) by omega)]
    simp only [Bool.false_eq_true, if_false, List.replicate_zero, List.append_nil, toS_rep, Option.bind_some]
    rw [show i = x.length from by omega]
  | d + 1, m, i, h => by
    rw [show d + 1 + 1 + m = (d + 1 + m) + 1 from by omega, g25_l3_s, decide_eq_true (show (i : Int) < (x.length : Int) by omega)]
    have ih := indent_l k x hx d m (i + 1) (by omega)
    have e1 : idxO (List.replicate i (32 : Int) ++ List.replicate (d + 1) 0) (i : Int) = some i := by
      unfold idxO
      rw [if_pos (by simp; omega)]
      simp
    have e2 : setO (List.replicate i (32 : Int) ++ List.replicate (d + 1) 0) i 32 = some (List.replicate (i + 1) 32 ++ List.replicate d 0) := by
      unfold setO
      rw [if_pos (by simp), set_rep]
    simp only [if_true, e1, e2, Option.bind_some, fw_succ (show i < 9223372036854775807 by omega)]
    exact ih
theorem indent_at {k : Nat} (hk : 20001 ≤ k) (a : Int) : g25 k a = some (indN a) := by
  unfold g25
  have hm := indM_le a
  have e1 : mkS (0 : Int) 1 (minI (maxI a 0) 20000) = some (List.replicate (indM a) 0) := by
    rw [indM_eq]
    unfold mkS
    rw [if_pos (by omega)]
    simp
  rw [e1, Option.bind_some]
  have := indent_l k (List.replicate (indM a) 0) (by simp; omega) (indM a) (k - (indM a + 1)) 0 (by simp)
  rw [show indM a + 1 + (k - (indM a + 1)) = k from by omega] at this
  rw [List.length_replicate] at this
  exact this
theorem rindent_l (k : Nat) (a : Int) : ∀ (d m i : Nat), i + d = indM a → g26_l2 k a (d + 1 + m) (i : Int) (List.replicate i 32) = some (List.replicate (indM a) 32)
  | 0, m, i, h => by
    rw [show 0 + 1 + m = m + 1 from by omega, g26_l2_s]
    have fin : ((toS (List.replicate i (32 : Int))).bind fun x1_1 => some x1_1) = some (List.replicate (indM a) 32) := by
      rw [toS_rep, Option.bind_some, show i = indM a from by omega]
    by_cases h1 : (i : Int) < a
    · have h2 : ¬ (i : Int) < 20000 := by
        have := indM_eq a
        unfold minI maxI at this
        split at this <;> split at this <;> omega
      rw [decide_eq_true h1, decide_eq_false h2]
      simp only [jn, if_true, Bool.false_eq_true, if_false]
      exact fin
    · rw [decide_eq_false h1]
      simp only [jn, Bool.false_eq_true, if_false]
      exact fin
  | d + 1, m, i, h => by
    rw [show d + 1 + 1 + m = (d + 1 + m) + 1 from by omega, g26_l2_s]
    have hm := indM_le a
    have ih := rindent_l k a d m (i + 1) (by omega)
    have h1 : (i : Int) < a := by
      have := indM_eq a
      unfold minI maxI at this
      split at this <;> split at this <;> omega
    have e1 : appS 1 (List.replicate i (32 : Int)) [32] = some (List.replicate (i + 1) 32) := by
      unfold appS
      rw [if_pos (by simp; omega), List.replicate_succ']
    rw [decide_eq_true h1, decide_eq_true (show (i : Int) < 20000 by omega)]
    simp only [jn, if_true, e1, Option.bind_some, fw_succ (show i < 9223372036854775807 by omega)]
    exact ih
theorem rindent_at {k : Nat} (hk : 20001 ≤ k) (a : Int) : g26 k a = some (indN a) := by
  unfold g26
  have hm := indM_le a
  have := rindent_l k a (indM a) (k - (indM a + 1)) 0 (by omega)
  rw [show indM a + 1 + (k - (indM a + 1)) = k from by omega] at this
  exact this
theorem told12_at (k : Nat) : g21 (k + 20060) = some true := by
  unfold g21
  rw [show g22 (k + 20060) [97, 195, 169] = some 2 from by kernel_rfl, show g23 (k + 20060) [97, 98, 10, 99, 100] 7 = some 2 from by kernel_rfl, show g23 (k + 20060) [97, 98] 7 = some 9 from by kernel_rfl, indent_at (by omega), indent_at (by omega), show g27 (k + 20060) [97, 32, 13] = some [97] from by kernel_rfl, show g29 (k + 20060) [37, 97] = some true from by kernel_rfl, show g29 (k + 20060) [37, 32] = some false from by kernel_rfl]
  have e1 : indN 3 = [32, 32, 32] := rfl
  have e2 : (indN 99999).length = 20000 := by
    unfold indN
    rw [List.length_replicate]
    rfl
  simp only [Option.bind_some, e1, e2]
  rfl

/-! ### blanks alone -/
theorem dec_blank (r : List Nat) : dec (32 :: r) = (32, 1) := by
  have hd : dec (32 :: r) = if (leadN 32).1 = 0 then (-1, 1) else fitN (leadN 32).1 (moreN ((leadN 32).1 - 1) (leadN 32).2 r) := rfl
  rw [hd]
  rfl
theorem cpc_rep : ∀ (n m : Nat), m ≤ n → cpc n (List.replicate m 32) = m
  | n, 0, _ => cpc_nil n
  | 0, m + 1, h => by omega
  | n + 1, m + 1, h => by
    rw [List.replicate_succ, cpc_cons (by simp), dec_blank]
    show cpc n (List.replicate m 32) + 1 = m + 1
    rw [cpc_rep n m (by omega)]
theorem CC_rep (m : Nat) : CC (List.replicate m 32) = m := by
  unfold CC; rw [List.length_replicate]; exact cpc_rep m m (Nat.le_refl _)
theorem bytes_rep (m : Nat) : Bytes (List.replicate m 32) := by intro b hb; rw [(List.mem_replicate.1 hb).2]; decide
theorem lnl_rep (m : Nat) : ∀ i, lnl (List.replicate m 32) i = 0
  | 0 => rfl
  | i + 1 => by
    have e : lnl (List.replicate m 32) (i + 1) = if (List.replicate m 32)[i]? = some 10 then i + 1 else lnl (List.replicate m 32) i := rfl
    rw [e, if_neg, lnl_rep m i]
    rw [List.getElem?_replicate]
    split <;> simp
theorem tix_blank {s : List Nat} (q : Nat) : ∀ j, (∀ i, q ≤ i → i < q + j → ∃ b, s[i]? = some b ∧ blankB b = true) → tix s (q + j) = tix s q
  | 0, _ => rfl
  | j + 1, h => by
    obtain ⟨b, h1, h2⟩ := h (q + j) (by omega) (by omega)
    have e : tix s (q + j + 1) = if (match s[q + j]? with | some b => blankB b | none => false) then tix s (q + j) else q + j + 1 := rfl
    rw [show q + (j + 1) = q + j + 1 from by omega, e, h1]
    simp only [h2, if_true]
    exact tix_blank q j (fun i a b => h i a (by omega))
theorem tix_stop {s : List Nat} {i b : Nat} (h : s[i]? = some b) (hb : blankB b = false) : tix s (i + 1) = i + 1 := by
  have e : tix s (i + 1) = if (match s[i]? with | some b => blankB b | none => false) then tix s i else i + 1 := rfl
  rw [e, h]; simp [hb]
theorem tix_app {a b : List Nat} : ∀ i, i ≤ a.length → tix (a ++ b) i = tix a i
  | 0, _ => rfl
  | i + 1, h => by
    have e : ∀ s, tix s (i + 1) = if (match s[i]? with | some b => blankB b | none => false) then tix s i else i + 1 := fun _ => rfl
    rw [e, e, List.getElem?_append_left (by omega), tix_app i (by omega)]
theorem lnl_app {a b : List Nat} : ∀ i, i ≤ a.length → lnl (a ++ b) i = lnl a i
  | 0, _ => rfl
  | i + 1, h => by
    have e : ∀ s : List Nat, lnl s (i + 1) = if s[i]? = some 10 then i + 1 else lnl s i := fun _ => rfl
    rw [e, e, List.getElem?_append_left (by omega), lnl_app i (by omega)]
theorem lnl_join {a b : List Nat} : ∀ j, lnl (a ++ b) (a.length + j) = if lnl b j = 0 then lnl a a.length else a.length + lnl b j
  | 0 => by
    rw [show lnl b 0 = 0 from rfl, if_pos rfl, Nat.add_zero]; exact lnl_app _ (Nat.le_refl _)
  | j + 1 => by
    have e : ∀ (s : List Nat) i, lnl s (i + 1) = if s[i]? = some 10 then i + 1 else lnl s i := fun _ _ => rfl
    rw [show a.length + (j + 1) = (a.length + j) + 1 from by omega, e, e, List.getElem?_append_right (by omega), show a.length + j - a.length = j from by omega, lnl_join j]
    by_cases h : b[j]? = some 10
    · rw [if_pos h, if_pos h, if_neg (by omega)]; omega
    · rw [if_neg h, if_neg h]
theorem lnl_byte {s : List Nat} : ∀ {i q : Nat}, lnl s i = q + 1 → s[q]? = some 10
  | 0, q, h => by cases h
  | i + 1, q, h => by
    have e : lnl s (i + 1) = if s[i]? = some 10 then i + 1 else lnl s i := rfl
    rw [e] at h
    split at h
    · rw [show q = i from by omega]; assumption
    · exact lnl_byte h
theorem moreN_cont : ∀ (n c : Nat) (r : List Nat) (y : Nat), moreN n c r = some y → ∀ j, j < n → ∃ b, r[j]? = some b ∧ b / 64 = 2
  | 0, _, _, _, _, j, hj => by omega
  | n + 1, c, [], y, h, j, hj => by cases h
  | n + 1, c, x :: r, y, h, j, hj => by
    have e : moreN (n + 1) c (x :: r) = if x / 64 = 2 then moreN n (c * 64 + x % 64) r else none := rfl
    rw [e] at h
    split at h
    · cases j with
      | zero => exact ⟨x, rfl, by assumption⟩
      | succ j => exact moreN_cont n _ r y h j (by omega)
    · cases h
/-- Within a code point's bytes but the first one there is none below 128. -/
theorem dec_inner {s : List Nat} (h : ¬ (dec s).1 < 0) {q : Nat} (hq : (dec s).2 = (q : Int)) {j : Nat} (h1 : 1 ≤ j) (h2 : j < q) : ∃ b, s[j]? = some b ∧ 128 ≤ b := by
  cases s with
  | nil => simp [dec] at hq; omega
  | cons c r =>
    have hd : dec (c :: r) = if (leadN c).1 = 0 then (-1, 1) else fitN (leadN c).1 (moreN ((leadN c).1 - 1) (leadN c).2 r) := rfl
    rw [hd] at h hq
    by_cases h0 : (leadN c).1 = 0
    · rw [if_pos h0] at h; exact absurd (show ((-1 : Int), (1 : Int)).1 < 0 by decide) h
    · rw [if_neg h0] at h hq
      cases hm : moreN ((leadN c).1 - 1) (leadN c).2 r with
      | none => rw [hm] at h; exact absurd (show ((-1 : Int), (1 : Int)).1 < 0 by decide) h
      | some y =>
        rw [hm] at h hq
        simp only [fitN] at h hq
        split at hq
        · have : q = (leadN c).1 := by simp at hq; omega
          obtain ⟨b, e1, e2⟩ := moreN_cont _ _ _ _ hm (j - 1) (by omega)
          refine ⟨b, ?_, by omega⟩
          obtain ⟨j, rfl⟩ : ∃ j', j = j' + 1 := ⟨j - 1, by omega⟩
          exact e1
        · rename_i hc
          rw [if_neg hc] at h
          exact absurd (show ((-1 : Int), (1 : Int)).1 < 0 by decide) h
theorem vld_cut : ∀ (n : Nat) (s : List Nat) (i b : Nat), s.length ≤ n → vld n s = true → s[i]? = some b → b < 128 → vld (s.drop (i + 1)).length (s.drop (i + 1)) = true
  | 0, s, i, b, h, hv, hi, hb => by
    have : s = [] := List.eq_nil_of_length_eq_zero (by omega)
    subst this
    simp at hi
  | n + 1, s, i, b, h, hv, hi, hb => by
    have hs : s ≠ [] := by intro e; subst e; simp at hi
    obtain ⟨q, n1, n2, n3, n4, n5⟩ := dec_size hs
    rw [vld_cons hs] at hv
    by_cases hneg : (dec s).1 < 0
    · rw [if_pos hneg] at hv; cases hv
    · rw [if_neg hneg, n1, Int.toNat_natCast] at hv
      have hlen : (s.drop q).length ≤ n := by rw [List.length_drop]; clear n1; omega
      by_cases hq : i < q
      · by_cases h0 : i = 0
        · subst h0
          have : q = 1 := by
            rcases Nat.lt_or_ge 1 q with h1 | h1
            · exfalso
              have hd : ∀ c r, dec (c :: r) = if (leadN c).1 = 0 then (-1, 1) else fitN (leadN c).1 (moreN ((leadN c).1 - 1) (leadN c).2 r) := fun _ _ => rfl
              cases s with
              | nil => exact hs rfl
              | cons c r =>
                simp at hi
                subst hi
                have hL : leadN c = (1, c) := by unfold leadN; rw [if_pos hb]
                rw [hd, hL] at n1
                have n1' : (fitN 1 (some c)).2 = (q : Int) := n1
                unfold fitN at n1'
                simp only [] at n1'
                split at n1' <;> · simp at n1'; omega
            · clear n1; omega
          rw [this] at hv hlen
          rw [vld_more _ n _ (Nat.le_refl _) hlen]
          exact hv
        · obtain ⟨b', e1, e2⟩ := dec_inner hneg n1 (j := i) (by clear n1; omega) hq
          rw [e1] at hi
          cases hi
          omega
      · have hi' : (s.drop q)[i - q]? = some b := by
          rw [List.getElem?_drop, show q + (i - q) = i from by clear n1; omega]; exact hi
        have := vld_cut n (s.drop q) (i - q) b hlen hv hi' hb
        rw [List.drop_drop, show q + (i - q + 1) = i + 1 from by clear n1; omega] at this
        exact this
end Go.Proofs.Ytfkefelgjbfkjaa.Am
