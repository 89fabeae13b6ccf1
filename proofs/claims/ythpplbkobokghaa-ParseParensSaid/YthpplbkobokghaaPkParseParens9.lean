/- LawParseParens, part 9: whatever the input, the law comes out true: our texts, joined by a tool, without what the claim does not name. -/
import Derived.Test.YthpplbkobokghaaPkParseParens8
import Derived.Below
import Derived.Test.YthpplbkobokghaaRows
import Derived.WalkKit
import Derived.ProofKit
import Derived.OpenShut
import Derived.ShutString
import Derived.ChangeOld
import Derived.SizedLaws
set_option maxRecDepth 100000
set_option linter.unusedVariables false
set_option linter.unusedSimpArgs false
set_option maxRecDepth 100000
set_option linter.unusedVariables false
set_option linter.unusedSimpArgs false
namespace Go.Proofs.Ythpplbkobokghaa.Am
open Go
theorem qJp : ∀ (i m : Nat), i < 25 → m < 61 → parC (parK.getD i 0) (g5c16.getD i []) (parN i) m = true
 | 0, m, _, hm => by
  rcases Nat.lt_or_ge m 21 with h | h
  ·exact qA1 pc0_0 (by omega) (by omega)
  ·rcases Nat.lt_or_ge m 41 with h | h
   ·exact qA1 pc0_1 (by omega) (by omega)
   ·exact qA1 pc0_2 (by omega) (by omega)
 | 1, m, _, hm => by
  rcases Nat.lt_or_ge m 21 with h | h
  ·exact qA1 pc1_0 (by omega) (by omega)
  ·rcases Nat.lt_or_ge m 41 with h | h
   ·exact qA1 pc1_1 (by omega) (by omega)
   ·exact qA1 pc1_2 (by omega) (by omega)
 | 2, m, _, hm => by
  rcases Nat.lt_or_ge m 21 with h | h
  ·exact qA1 pc2_0 (by omega) (by omega)
  ·rcases Nat.lt_or_ge m 41 with h | h
   ·exact qA1 pc2_1 (by omega) (by omega)
   ·exact qA1 pc2_2 (by omega) (by omega)
 | 3, m, _, hm => by
  rcases Nat.lt_or_ge m 21 with h | h
  ·exact qA1 pc3_0 (by omega) (by omega)
  ·rcases Nat.lt_or_ge m 41 with h | h
   ·exact qA1 pc3_1 (by omega) (by omega)
   ·exact qA1 pc3_2 (by omega) (by omega)
 | 4, m, _, hm => by
  rcases Nat.lt_or_ge m 21 with h | h
  ·exact qA1 pc4_0 (by omega) (by omega)
  ·rcases Nat.lt_or_ge m 41 with h | h
   ·exact qA1 pc4_1 (by omega) (by omega)
   ·exact qA1 pc4_2 (by omega) (by omega)
 | 5, m, _, hm => by
  rcases Nat.lt_or_ge m 21 with h | h
  ·exact qA1 pc5_0 (by omega) (by omega)
  ·rcases Nat.lt_or_ge m 41 with h | h
   ·exact qA1 pc5_1 (by omega) (by omega)
   ·exact qA1 pc5_2 (by omega) (by omega)
 | 6, m, _, hm => by
  rcases Nat.lt_or_ge m 21 with h | h
  ·exact qA1 pc6_0 (by omega) (by omega)
  ·rcases Nat.lt_or_ge m 41 with h | h
   ·exact qA1 pc6_1 (by omega) (by omega)
   ·exact qA1 pc6_2 (by omega) (by omega)
 | 7, m, _, hm => by
  rcases Nat.lt_or_ge m 21 with h | h
  ·exact qA1 pc7_0 (by omega) (by omega)
  ·rcases Nat.lt_or_ge m 41 with h | h
   ·exact qA1 pc7_1 (by omega) (by omega)
   ·exact qA1 pc7_2 (by omega) (by omega)
 | 8, m, _, hm => by
  rcases Nat.lt_or_ge m 21 with h | h
  ·exact qA1 pc8_0 (by omega) (by omega)
  ·rcases Nat.lt_or_ge m 41 with h | h
   ·exact qA1 pc8_1 (by omega) (by omega)
   ·exact qA1 pc8_2 (by omega) (by omega)
 | 9, m, _, hm => by
  rcases Nat.lt_or_ge m 21 with h | h
  ·exact qA1 pc9_0 (by omega) (by omega)
  ·rcases Nat.lt_or_ge m 41 with h | h
   ·exact qA1 pc9_1 (by omega) (by omega)
   ·exact qA1 pc9_2 (by omega) (by omega)
 | 10, m, _, hm => by
  rcases Nat.lt_or_ge m 21 with h | h
  ·exact qA1 pc10_0 (by omega) (by omega)
  ·rcases Nat.lt_or_ge m 41 with h | h
   ·exact qA1 pc10_1 (by omega) (by omega)
   ·exact qA1 pc10_2 (by omega) (by omega)
 | 11, m, _, hm => by
  rcases Nat.lt_or_ge m 21 with h | h
  ·exact qA1 pc11_0 (by omega) (by omega)
  ·rcases Nat.lt_or_ge m 41 with h | h
   ·exact qA1 pc11_1 (by omega) (by omega)
   ·exact qA1 pc11_2 (by omega) (by omega)
 | 12, m, _, hm => by
  rcases Nat.lt_or_ge m 21 with h | h
  ·exact qA1 pc12_0 (by omega) (by omega)
  ·rcases Nat.lt_or_ge m 41 with h | h
   ·exact qA1 pc12_1 (by omega) (by omega)
   ·exact qA1 pc12_2 (by omega) (by omega)
 | 13, m, _, hm => by
  rcases Nat.lt_or_ge m 21 with h | h
  ·exact qA1 pc13_0 (by omega) (by omega)
  ·rcases Nat.lt_or_ge m 41 with h | h
   ·exact qA1 pc13_1 (by omega) (by omega)
   ·exact qA1 pc13_2 (by omega) (by omega)
 | 14, m, _, hm => by
  rcases Nat.lt_or_ge m 21 with h | h
  ·exact qA1 pc14_0 (by omega) (by omega)
  ·rcases Nat.lt_or_ge m 41 with h | h
   ·exact qA1 pc14_1 (by omega) (by omega)
   ·exact qA1 pc14_2 (by omega) (by omega)
 | 15, m, _, hm => by
  rcases Nat.lt_or_ge m 21 with h | h
  ·exact qA1 pc15_0 (by omega) (by omega)
  ·rcases Nat.lt_or_ge m 41 with h | h
   ·exact qA1 pc15_1 (by omega) (by omega)
   ·exact qA1 pc15_2 (by omega) (by omega)
 | 16, m, _, hm => by
  rcases Nat.lt_or_ge m 21 with h | h
  ·exact qA1 pc16_0 (by omega) (by omega)
  ·rcases Nat.lt_or_ge m 41 with h | h
   ·exact qA1 pc16_1 (by omega) (by omega)
   ·exact qA1 pc16_2 (by omega) (by omega)
 | 17, m, _, hm => by
  rcases Nat.lt_or_ge m 21 with h | h
  ·exact qA1 pc17_0 (by omega) (by omega)
  ·rcases Nat.lt_or_ge m 41 with h | h
   ·exact qA1 pc17_1 (by omega) (by omega)
   ·exact qA1 pc17_2 (by omega) (by omega)
 | 18, m, _, hm => by
  rcases Nat.lt_or_ge m 21 with h | h
  ·exact qA1 pc18_0 (by omega) (by omega)
  ·rcases Nat.lt_or_ge m 41 with h | h
   ·exact qA1 pc18_1 (by omega) (by omega)
   ·exact qA1 pc18_2 (by omega) (by omega)
 | 19, m, _, hm => by
  rcases Nat.lt_or_ge m 21 with h | h
  ·exact qA1 pc19_0 (by omega) (by omega)
  ·rcases Nat.lt_or_ge m 41 with h | h
   ·exact qA1 pc19_1 (by omega) (by omega)
   ·exact qA1 pc19_2 (by omega) (by omega)
 | 20, m, _, hm => by
  rcases Nat.lt_or_ge m 21 with h | h
  ·exact qA1 pc20_0 (by omega) (by omega)
  ·rcases Nat.lt_or_ge m 41 with h | h
   ·exact qA1 pc20_1 (by omega) (by omega)
   ·exact qA1 pc20_2 (by omega) (by omega)
 | 21, m, _, hm => by
  rcases Nat.lt_or_ge m 21 with h | h
  ·exact qA1 pc21_0 (by omega) (by omega)
  ·rcases Nat.lt_or_ge m 41 with h | h
   ·exact qA1 pc21_1 (by omega) (by omega)
   ·exact qA1 pc21_2 (by omega) (by omega)
 | 22, m, _, hm => by
  rcases Nat.lt_or_ge m 21 with h | h
  ·exact qA1 pc22_0 (by omega) (by omega)
  ·rcases Nat.lt_or_ge m 41 with h | h
   ·exact qA1 pc22_1 (by omega) (by omega)
   ·exact qA1 pc22_2 (by omega) (by omega)
 | 23, m, _, hm => by
  rcases Nat.lt_or_ge m 21 with h | h
  ·exact qA1 pc23_0 (by omega) (by omega)
  ·rcases Nat.lt_or_ge m 41 with h | h
   ·exact qA1 pc23_1 (by omega) (by omega)
   ·exact qA1 pc23_2 (by omega) (by omega)
 | 24, m, _, hm => by
  rcases Nat.lt_or_ge m 21 with h | h
  ·exact qA1 pc24_0 (by omega) (by omega)
  ·rcases Nat.lt_or_ge m 41 with h | h
   ·exact qA1 pc24_1 (by omega) (by omega)
   ·exact qA1 pc24_2 (by omega) (by omega)
 | n + 25, _, h, _ => absurd h (by omega)
theorem parK_lt (i : Nat) : parK.getD i 0 < 100 := by
 rw [List.getD_eq_getElem?_getD]
 cases hq : parK[i]? with
 | none => simp
 | some x => exact (show ∀ x ∈ parK, x < 100 by decide) x (List.mem_of_getElem? hq)
theorem c16_len : g5c16.length = 25 := by decide
theorem told_p : g16 400 = some true := by kernel_rfl
theorem qGl {a1 : Int} {i m : Nat} {e1 : Int} (hm : m ≤ 60) (ha : (fW .u64 a1).tmod 61 = (m : Int)) (hi : i < 25) {n1 : S28} {n3 : S28} (h1 : 0 < n1.f0) (h3 : g17 400 (parT m (g5c16.getD i [])) = some (n3, 0)) (h4 : g19 400 n1 n3 = some true) (hs : (g5c16.getD i []).length < 100) : ∀ (n j : Nat), m - j < n → j ≤ m → qJz 400 a1 (n1, 0) n (parT j (g5c16.getD i [])) (j : Int) = some true := by
 intro n
 induction n with
 | zero => intro j h; omega
 | succ n ih =>
  intro j h hj
  rw [g5_l5_s]
  rw [ha, fwI (n := (m : Int)) (by omega) (by omega)]
  by_cases hl : j < m
  ·have hlen : (parT j (g5c16.getD i [])).length < 300 := by simp only [parT, List.length_append, List.length_replicate]; omega
   refine iT (dT (by omega)) (bS (a := [40] ++ parT j (g5c16.getD i [])) ?_ (bS (a := [40] ++ parT j (g5c16.getD i []) ++ [41]) ?_ ?_))
   ·unfold catS; rw [if_pos (by simp only [List.length_append, List.length_cons, List.length_nil]; omega)]
   ·unfold catS; rw [if_pos (by simp only [List.length_append, List.length_cons, List.length_nil]; omega)]
   ·rw [qKm, fw_s (by omega)]
    exact ih (j + 1) (by omega) hl
  ·obtain rfl : j = m := by omega
   exact iF (dF (by omega)) (bS h3 (bS told_p (iT rfl (iT (by simp) (iT (by simp) (iT (dT h1) (bS h4 rfl)))))))
theorem qD8 (a b : Int) : ∃ k, g5 k a b = some true := by
 obtain ⟨i, hi, h1, -⟩ := rem_at a 25 (by decide) (by decide)
 obtain ⟨m, hm, h3, -⟩ := tmod_at b 61 (by decide) (by decide)
 refine ⟨400, ?_⟩
 have hl : (g5c16.length : Int) = ((25 : Nat) : Int) := by decide
 have hb := List.all_eq_true.1 base_all i (List.mem_range.2 hi)
 rw [Bool.and_eq_true] at hb
 obtain ⟨hok, hb⟩ := hb
 simp only [okS, Bool.and_eq_true] at hok
 obtain ⟨⟨ho1, ho2⟩, ho3⟩ := hok
 split at hb
 ·rename_i n1 e1 hw
  simp only [Bool.and_eq_true, decide_eq_true_eq] at hb
  obtain ⟨rfl, hf⟩ := hb
  have hs : (g5c16.getD i []).length < 100 := Nat.le_of_ble_eq_true ho1
  have hpn : parN i = n1 := by unfold parN; rw [hw]
  have hhd : ∃ d q, g5c16.getD i [] = d :: q ∧ nbl d = true := by
   split at ho3
   ·rename_i d q hd; exact ⟨d, q, hd, ho3⟩
   ·cases ho3
  have hc := qJp i m hi (by omega)
  rw [hpn] at hc
  obtain ⟨n3, g1, g2⟩ := qKn (t := parK.getD i 0) (by omega) hs (parK_lt i) hhd (fun b h => Nat.le_of_ble_eq_true (List.all_eq_true.1 ho2 b h)) hc
  unfold g5
  rw [hl]
  have hnth : nthL g5c16 (fW .i64 (i : Int)) = some (g5c16.getD i []) := by
   rw [fwI (by omega) (by omega)]
   unfold nthL
   rw [if_pos (by omega), Int.toNat_natCast, List.getD_eq_getElem?_getD]
   have hlt : i < g5c16.length := by rw [c16_len]; exact hi
   rw [List.getElem?_eq_getElem hlt]
   rfl
  refine bS h1 (bS hnth (bS hw ?_))
  have e0 : parT 0 (g5c16.getD i []) = g5c16.getD i [] := by simp [parT]
  have := qGl (a1 := b) (e1 := 0) (by omega) h3 hi hf g1 g2 hs 400 0 (by omega) (by omega)
  rw [e0] at this
  exact this
 ·cases hb
theorem parseParens_walk (a0 : Int) (a1 : Int) (W : World) (w0 : (Lit.int .i64 a0).wf = true) (w1 : (Lit.int .i64 a1).wf = true) : Calls Try.prog 5 #[.int .i64 a0, .int .i64 a1] W fun e W' => e = .returned (.bool true) ∧ RowKit.Below W.heap.size W W' := by
 obtain ⟨k, h⟩ := qD8 a0 a1
 exact law_walk (g5_ok k _ _ true h) (by simp only [VRs, VR, AV.i, AV.y]; exact ⟨_, _, rfl, rfl, ⟨_, _, rfl, rfl, rfl⟩⟩) W
end Go.Proofs.Ythpplbkobokghaa.Am
namespace Go.Proofs.Ythpplbkobokghaa.parseParens
open Go.ChangeShapes Go.WideShapes Go.ChangeAt Go.RowKit
open Go.ChangeMaps (open_string shut_string)
set_option linter.unusedVariables false
theorem own : ownKnob Try.prog.godebug = none := by kernel_rfl
set_option maxRecDepth 100000 in
theorem lifted (os : Os) (started : os.Started) (H : Type) (enc : TypeId × Value → H) :
 ReturnsInHanded {} Try.checked os 5 .any (Rows.parseParensSpec.pre6 enc Try.prog Try.f5 Rows.parseParensRow.domain false) (Rows.parseParensSpec.post enc Try.prog Try.f5 false true false false) := by
 refine returnsInHanded_of_change_sized (C := Try.checked) own started (by kernel_rfl) Try.func5
  (ChangeSpec.witness6 (enc := enc) (C := Try.checked) false ⟨#[], #[.int .i64 0, .int .i64 0], []⟩ 8 (by kernel_rfl) (by kernel_rfl) (by kernel_rfl) (by kernel_rfl)) ?_
 intro W base args ds gs before hval0 hW hcnd hsz0 _
 have hsz : (DataW.weightsEach Try.prog (Try.f5.params.toList ++ Rows.parseParensSpec.plain.varTypes Try.prog) (ds ++ gs)).all (· ≤ reachBytes) = true := hsz0
 have hval : ∀ (j : Nat) t v, Try.f5.params[j]? = some t → args[j]? = some v → Value.okWide Try.prog W .any base t v := hval0
 have hW' := hW
 obtain ⟨p, q, hA0, hV, rfl, hfz, hnd⟩ := hW
 have hA : DataW.TrodAll enc Try.prog W 0 (fun _ => true) true Try.f5.params.toList args.toList ds p := hA0
 rw [Try.params5] at hA hval hsz
 obtain ⟨v0, vs0, d0, ds0, p0, q0, hargs, rfl, rfl, h0, r0⟩ := trodAll_cons hA
 obtain ⟨v1, vs1, d1, ds1, p1, q1, rfl, rfl, rfl, h1, r1⟩ := trodAll_cons r0
 obtain ⟨rfl, rfl, rfl⟩ := trodAll_nil r1
 obtain rfl : args = #[v0, v1] := by cases args; simp_all
 obtain ⟨rfl, rfl⟩ := trodVars_none hV
 obtain ⟨a0, rfl, rfl, rfl, w0⟩ := open_int Try.underlying3 (hval 0 3 v0 rfl rfl) h0
 obtain ⟨a1, rfl, rfl, rfl, w1⟩ := open_int Try.underlying3 (hval 1 3 v1 rfl rfl) h1
 clear hA0 hval0 hsz0 hsz
 refine (Am.parseParens_walk a0 a1 W w0 w1).mono fun e W' ⟨he, bel⟩ => ?_
 subst he
 exact ⟨_, rfl, _, _, _, [], _, [], hW', trodAll_mk1 (shut_bool Try.underlying4 _), (trodAll_cons_mk (shut_int Try.underlying3 w0) (trodAll_cons_mk (shut_int Try.underlying3 w1) trodAll_mk0)), rfl, bel.frame _, fun h => by cases h⟩
theorem over : Rows.parseParensRow.holds Try.pinned (OpenSpec.ofChange Rows.parseParensSpec) :=
 OpenClaim.holds_of_wide 5 Try.f5 rfl rfl rfl rfl rfl rfl rfl ⟨rfl, rfl, rfl, rfl, rfl⟩ rfl rfl rfl rfl rfl (by kernel_rfl) Try.func5 (by kernel_rfl)
  (of_decide_eq_true (by kernel_rfl)) (by unfold Func.isWrapper; first | (rw [if_pos (by decide +kernel)]; kernel_rfl) | (rw [if_neg (by decide +kernel)]; exact ⟨rfl, rfl⟩))
  (fun os started H enc _ => lifted os started H enc)
theorem proved : Rows.ParseParensSaid := over
#print axioms proved
end Go.Proofs.Ythpplbkobokghaa.parseParens
namespace Go.Proofs.Ythpplbkobokghaa
theorem parseParens_holds : Rows.ParseParensSaid := parseParens.proved
end Go.Proofs.Ythpplbkobokghaa
