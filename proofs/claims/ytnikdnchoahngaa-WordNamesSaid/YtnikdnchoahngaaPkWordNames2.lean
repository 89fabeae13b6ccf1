/- LawWordNames, part 2: whatever the input, the law comes out true: our texts, joined by a tool, without what the claim does not name. -/
import Derived.Test.YtnikdnchoahngaaPkWordNames1
import Derived.KernelRfl
import Derived.Lib.OthersKept
import Derived.Laws.RangeString
import Derived.Test.YtnikdnchoahngaaProg
import Derived.SizedLaws
import Derived.ChangeSlices
import Derived.Below
import Derived.Test.YtnikdnchoahngaaRows
import Derived.WalkKit
import Derived.ProofKit
import Derived.OpenShut
import Derived.ShutString
import Derived.ChangeOld
set_option linter.unusedVariables false
set_option linter.unusedSimpArgs false
namespace Go.Proofs.Ytnikdnchoahngaa.Am
open Go
mutual
def pur : AV → Bool
 | .ptr .. | .slice .. | .own .. => false
 | .agg xs => purs xs
 | .tuple xs => purs xs
 | .func _ a b => purs a && purs b
 | .iface _ v => pur v
 | _ => true
def purs : List AV → Bool
 | [] => true
 | x :: xs => pur x && purs xs
end
mutual
theorem pur_VR {m : Mp} : ∀ (x : AV) (c : Value), pur x = true → VR m x c → VR m.still x c
 | .top, _, _, _ => by simp only [VR]
 | .int .., _, _, e => by simpa only [VR] using e
 | .resid .., _, _, e => by simpa only [VR] using e
 | .bool _, _, _, e => by simpa only [VR] using e
 | .str _, _, _, e => by simpa only [VR] using e
 | .nilp, _, _, e => by simpa only [VR] using e
 | .nils, _, _, e => by simpa only [VR] using e
 | .nilf, _, _, e => by simpa only [VR] using e
 | .nili, _, _, e => by simpa only [VR] using e
 | .vec .., _, _, e => by simp only [VR] at e ⊢; exact e
 | .vptr .., _, _, e => by simp only [VR] at e ⊢; exact e
 | .ptr .., _, h, _ => by simp [pur] at h
 | .slice .., _, h, _ => by simp [pur] at h
 | .own .., _, h, _ => by simp [pur] at h
 | .agg xs, c, h, e => by
  simp only [VR] at e ⊢
  obtain ⟨ys, h1, h2⟩ := e
  exact ⟨ys, h1, purs_VR xs _ (by simpa only [pur] using h) h2⟩
 | .tuple xs, c, h, e => by
  simp only [VR] at e ⊢
  obtain ⟨ys, h1, h2⟩ := e
  exact ⟨ys, h1, purs_VR xs _ (by simpa only [pur] using h) h2⟩
 | .func f a b, c, h, e => by
  simp only [VR] at e ⊢
  simp only [pur, Bool.and_eq_true] at h
  obtain ⟨ys, zs, h1, h2, h3⟩ := e
  exact ⟨ys, zs, h1, purs_VR a _ h.1 h2, purs_VR b _ h.2 h3⟩
 | .iface t v, c, h, e => by
  simp only [VR] at e ⊢
  obtain ⟨d, h1, h2⟩ := e
  exact ⟨d, h1, pur_VR v _ (by simpa only [pur] using h) h2⟩
theorem purs_VR {m : Mp} : ∀ (xs : List AV) (cs : List Value), purs xs = true → VRs m xs cs → VRs m.still xs cs
 | [], _, _, e => by simpa only [VRs] using e
 | x :: xs, cs, h, e => by
  simp only [VRs] at e ⊢
  simp only [purs, Bool.and_eq_true] at h
  obtain ⟨y, ys, rfl, h1, h2⟩ := e
  exact ⟨y, ys, rfl, pur_VR x y h.1 h1, purs_VR xs ys h.2 h2⟩
end
theorem RW.still {m : Mp} {H : Hp} {w : World} {base : Nat} (h : RW m H w base) : RW m.still H0 w w.heap.size where
 blk := by intro r b v B N hb hm; cases hm
 dom := by intro r v B N hm; cases hm
 sep := by intro r v B N r' v' N' hm; cases hm
 fresh := by intro r _; rfl
 vle := by intro r v B N hm; cases hm
 frz := h.frz
 fsep := by intro i B cells r v N b _ hm; cases hm
 ffin := h.ffin
 base_le := Nat.le_refl _
 low := by show 0 ≤ roots; unfold roots; omega
def PureOk (P : Program) (f : Nat) (xs : List AV) (v : AV) : Prop :=
 (∀ (m0 : Mp) (w : World) (args : Array Value), (∀ r v, m0 r v = none) → VRs m0 xs args.toList → RW m0 H0 w w.heap.size → Calls P f args w fun x w' => ∃ m' c, x = .returned c ∧ RW m' H0 w' w.heap.size ∧ St m0 w w.heap.size m' w' ∧ VR m' v c) ∧
 (∃ fn, P.funcs[f]? = some fn ∧ (fn.name == "runtime.NumGoroutine") = false ∧ fn.body.isSome = true)
theorem pure_call {P : Program} {f : Nat} {xs : List AV} {v : AV} (h : PureOk P f xs v) (hx : purs xs = true) (hv : pur v = true) (H : Hp) : CallV P f xs H v H := by
 refine ⟨?_, h.2⟩
 intro m w base args hargs rw
 refine Calls.mono (h.1 m.still w args (fun _ _ => rfl) (purs_VR _ _ hx hargs) rw.still) ?_
 rintro x w' ⟨m', c, rfl, rw', st', hvc⟩
 have hnone : ∀ r v, m' r v = none := by
  intro r v
  cases e : m' r v with
  | none => rfl
  | some p =>
   obtain ⟨b, hb, _⟩ := rw'.dom r v p.1 p.2 e
   cases hb
 have hsame : ∀ B, B < w.heap.size → w'.heap[B]? = w.heap[B]? := fun B hB => st'.same B hB (fun _ _ _ hm => by cases hm)
 have hsub : Sub m ⟨m.map, m'.froz⟩ := ⟨fun _ _ _ h => h, st'.sub.2⟩
 refine ⟨⟨m.map, m'.froz⟩, c, rfl, ⟨?_, ?_, rw.sep, rw.fresh, rw.vle, rw'.frz, ?_, rw'.ffin, Nat.le_trans rw.base_le st'.size, rw.low⟩, ⟨hsub, fun r v B N e => .inl ⟨v, N, e⟩, ?_, st'.size, st'.os, st'.tape, st'.output, fun B hB _ => hsame B hB⟩, ?_⟩
 ·intro r b v B N hb hm h1 h2
  obtain ⟨cs, ty, fr, q1, q2, q3, q4, q5⟩ := rw.blk r b v B N hb hm h1 h2
  obtain ⟨_, _, _, hlt, _⟩ := rw.dom r v B N hm
  exact ⟨cs, ty, fr, by rw [hsame B hlt]; exact q1, q2, q3, q4, VRs.mono hsub _ _ q5⟩
 ·intro r v B N hm
  obtain ⟨b, q1, q2, q3, q4⟩ := rw.dom r v B N hm
  exact ⟨b, q1, q2, Nat.lt_of_lt_of_le q3 st'.size, q4⟩
 ·intro i B cells r v N b hi hm hb
  rcases st'.fext i B cells hi with hi' | hB
  ·exact rw.fsep i B cells r v N b hi' hm hb
  ·obtain ⟨_, _, _, hlt, _⟩ := rw.dom r v B N hm
   omega
 ·intro i B cells e
  rcases st'.fext i B cells e with hi' | hB
  ·exact .inl hi'
  ·exact .inr (Nat.le_trans rw.base_le hB)
 ·have h1 := pur_VR v c hv hvc
  exact VR.mono (m := m'.still) (m' := ⟨m.map, m'.froz⟩) ⟨fun _ _ _ h => (by cases h), fun _ _ h => h⟩ v c h1
inductive Fr where
 | seq (b : Code) | block (id : Nat) | loop (b : Code) | scope (b : Code)
inductive Pt where
 | code (c : Code) (K : List Fr)
 | ops (o : Array Oper) (n : Nat) (K : List Fr)
 | loop (b : Code) (K : List Fr)
 | fin
def FinK (P : Program) (Q : Exit → Act → World → Prop) : List Fr → Exit → Act → World → Prop
 | [] => Q
 | .seq b :: K => Exit.then (b.wp P (FinK P Q K)) (FinK P Q K)
 | .block id :: K => Exit.inBlock id (FinK P Q K)
 | .loop b :: K => Exit.then (LoopWp P b (FinK P Q K)) (FinK P Q K)
 | .scope b :: K => fun e a w => match e with | .goto l => ∃ rest, findLabel b l = some rest ∧ ScopeWp P b rest (FinK P Q K) a w | e => FinK P Q K e a w
def At (P : Program) (Q : Exit → Act → World → Prop) : Pt → Act → World → Prop
 | .code c K, a, w => c.wp P (FinK P Q K) a w
 | .ops o n K, a, w => wpOps P o (FinK P Q K) (List.range' n (o.size - n)) a w
 | .loop b K, a, w => LoopWp P b (FinK P Q K) a w
 | .fin, a, w => Q .normal a w ∧ Q .ret a w
def resume : List Fr → Pt
 | [] => .fin
 | .seq b :: K => .code b K
 | .block _ :: K => resume K
 | .loop b :: K => .loop b K
 | .scope _ :: K => resume K
theorem resume_ok {P : Program} {Q : Exit → Act → World → Prop} {a : Act} {w : World} : ∀ {K : List Fr}, At P Q (resume K) a w → FinK P Q K .normal a w
 | [], h => h.1
 | .seq b :: K, h => h
 | .block id :: K, h => by show Exit.inBlock id (FinK P Q K) .normal a w; exact resume_ok (K := K) h
 | .loop b :: K, h => h
 | .scope b :: K, h => resume_ok (K := K) h
def exitK (id : Nat) : List Fr → Option Pt
 | [] => none
 | .block j :: K => if id = j then some (resume K) else exitK id K
 | .seq _ :: K => exitK id K
 | .loop _ :: K => exitK id K
 | .scope _ :: K => exitK id K
theorem exitK_ok {P : Program} {Q : Exit → Act → World → Prop} {a : Act} {w : World} {id : Nat} {p : Pt} : ∀ {K : List Fr}, exitK id K = some p → At P Q p a w → FinK P Q K (.exit id) a w
 | [], h, _ => by cases h
 | .seq b :: K, h, k => exitK_ok (K := K) h k
 | .loop b :: K, h, k => exitK_ok (K := K) h k
 | .scope b :: K, h, k => exitK_ok (K := K) h k
 | .block j :: K, h, k => by
  simp only [exitK] at h
  show Exit.inBlock j (FinK P Q K) (.exit id) a w
  simp only [Exit.inBlock]
  split at h
  ·rename_i e
   cases h
   rw [if_pos e]
   exact resume_ok k
  ·rename_i e
   rw [if_neg e]
   exact exitK_ok h k
def gotoK (l : Nat) : List Fr → Option Pt
 | [] => none
 | .scope b :: K => match findLabel b l with | some rest => some (.code rest (.scope b :: K)) | none => none
 | .block _ :: K => gotoK l K
 | .seq _ :: K => gotoK l K
 | .loop _ :: K => gotoK l K
theorem scope_ok {P : Program} {Q : Exit → Act → World → Prop} {a : Act} {w : World} {b c : Code} {K : List Fr} (h : c.wp P (FinK P Q (.scope b :: K)) a w) : ScopeWp P b c (FinK P Q K) a w :=
 ScopeWp.of (wp_mono h fun e a1 w1 he => by cases e <;> exact he)
theorem gotoK_ok {P : Program} {Q : Exit → Act → World → Prop} {a : Act} {w : World} {l : Nat} {p : Pt} : ∀ {K : List Fr}, gotoK l K = some p → At P Q p a w → FinK P Q K (.goto l) a w
 | [], h, _ => by cases h
 | .seq b :: K, h, k => gotoK_ok (K := K) h k
 | .loop b :: K, h, k => gotoK_ok (K := K) h k
 | .block b :: K, h, k => gotoK_ok (K := K) h k
 | .scope b :: K, h, k => by
  simp only [gotoK] at h
  split at h
  ·rename_i rest hf
   cases h
   exact ⟨rest, hf, scope_ok k⟩
  ·cases h
theorem retK_ok {P : Program} {Q : Exit → Act → World → Prop} {a : Act} {w : World} (h : Q .ret a w) : ∀ (K : List Fr), FinK P Q K .ret a w
 | [] => h
 | .seq b :: K => retK_ok h K
 | .loop b :: K => retK_ok h K
 | .block b :: K => retK_ok h K
 | .scope b :: K => retK_ok h K
inductive FzG (H : Hp) : List AV → List AV → Prop where
 | pures {xs} : purs xs = true → FzG H xs xs
 | cons {x xs ys} : pur x = true → FzG H xs ys → FzG H (x :: xs) (x :: ys)
 | nil {sz xs ys} : FzG H xs ys → FzG H (.nils :: xs) (.vec 0 sz [] :: ys)
 | own {r len sz cells cells' minv xs ys} : H.t.get r = some ⟨cells, minv, false⟩ → cells.length = len * sz → minv ≤ len * sz → FzG H cells cells' → FzG H xs ys → FzG H (.own r len sz :: xs) (.vec len sz cells' :: ys)
 | slice {r len sz v cells cells' minv xs ys} : H.t.get r = some ⟨cells, minv, false⟩ → cells.length = len * sz → v = len * sz → minv ≤ len * sz → FzG H cells cells' → FzG H xs ys → FzG H (.slice r v 0 len sz :: xs) (.vec len sz cells' :: ys)
 | agg {xs ys zs us} : FzG H xs ys → FzG H zs us → FzG H (.agg xs :: zs) (.agg ys :: us)
 | tuple {xs ys zs us} : FzG H xs ys → FzG H zs us → FzG H (.tuple xs :: zs) (.tuple ys :: us)
structure FOk (F : Nat → Option (Nat × List AV)) (F0 : Nat → Option (Nat × List AV)) (w : World) (base : Nat) : Prop where
 ok : ∀ i B cells, F i = some (B, cells) → ∃ cs ty fr, w.heap[B]? = some (.cells cs ty fr) ∧ cells.length ≤ cs.size ∧ VRs ⟨fun _ _ => none, F⟩ cells (cs.toList.take cells.length)
 fin : ∃ n, ∀ i, n ≤ i → F i = none
 new : ∀ i B cells, F i = some (B, cells) → F0 i = some (B, cells) ∨ base ≤ B
 sub : ∀ i p, F0 i = some p → F i = some p
theorem FzG.length {H : Hp} {xs ys : List AV} (h : FzG H xs ys) : ys.length = xs.length := by
 induction h <;> simp_all
theorem fOk_add {F F0 : Nat → Option (Nat × List AV)} {w : World} {base B : Nat} {cells : List AV} {cs : Array Value} {ty : TypeId} {fr : Nat × Nat} (h : FOk F F0 w base) (hB : base ≤ B) (hw : w.heap[B]? = some (.cells cs ty fr)) (hl : cells.length ≤ cs.size) (hv : VRs ⟨fun _ _ => none, F⟩ cells (cs.toList.take cells.length)) :
 ∃ F' i, FOk F' F0 w base ∧ F' i = some (B, cells) ∧ (∀ i p, F i = some p → F' i = some p) := by
 obtain ⟨n, hn⟩ := h.fin
 have hsub : ∀ i p, F i = some p → (fun i => if i = n then some (B, cells) else F i) i = some p := by
  intro i p hi
  simp only
  rw [if_neg]
  ·exact hi
  ·rintro rfl; rw [hn _ (Nat.le_refl _)] at hi; cases hi
 have hS : Sub ⟨fun _ _ => none, F⟩ ⟨fun _ _ => none, fun i => if i = n then some (B, cells) else F i⟩ := ⟨fun _ _ _ e => (by cases e), hsub⟩
 refine ⟨fun i => if i = n then some (B, cells) else F i, n, ⟨?_, ⟨n + 1, fun i hi => ?_⟩, ?_, fun i p hi => hsub i p (h.sub i p hi)⟩, by simp, hsub⟩
 ·intro i B' cells' hi
  by_cases e : i = n
  ·simp only [e, if_true] at hi
   cases hi
   exact ⟨cs, ty, fr, hw, hl, VRs.mono hS _ _ hv⟩
  ·simp only [e, if_false] at hi
   obtain ⟨cs2, ty2, fr2, h1, h2, h3⟩ := h.ok i B' cells' hi
   exact ⟨cs2, ty2, fr2, h1, h2, VRs.mono hS _ _ h3⟩
 ·have hne : ¬ i = n := by omega
  show (if i = n then some (B, cells) else F i) = none
  rw [if_neg hne]
  exact hn i (by omega)
 ·intro i B' cells' hi
  by_cases e : i = n
  ·simp only [e, if_true] at hi
   cases hi
   exact .inr hB
  ·simp only [e, if_false] at hi
   exact h.new i B' cells' hi
theorem vec_nil (m : Mp) (sz : Nat) : VR m (.vec 0 sz []) (.slice none 0 0) := by
 simp only [VR]
 exact ⟨by simp, none, 0, rfl, Nat.le_refl _, by simp, by simp⟩
theorem fz_ok {m : Mp} {H : Hp} {w : World} {base : Nat} (rw : RW m H w base) {xs ys : List AV} (h : FzG H xs ys) : ∀ {cs : List Value} {F : Nat → Option (Nat × List AV)}, FOk F m.froz w base → VRs m xs cs → ∃ F', FOk F' m.froz w base ∧ (∀ i p, F i = some p → F' i = some p) ∧ VRs ⟨fun _ _ => none, F'⟩ ys cs := by
 have still : ∀ {F : Nat → Option (Nat × List AV)}, FOk F m.froz w base → Sub m.still ⟨fun _ _ => none, F⟩ := fun hF => ⟨fun _ _ _ e => (by cases e), hF.sub⟩
 have grow : ∀ {F F' : Nat → Option (Nat × List AV)}, (∀ i p, F i = some p → F' i = some p) → Sub ⟨fun _ _ => none, F⟩ ⟨fun _ _ => none, F'⟩ := fun h => ⟨fun _ _ _ e => (by cases e), h⟩
 have block : ∀ {r len sz minv cap B N : Nat} {cells cells' : List AV}, H.t.get r = some ⟨cells, minv, false⟩ → cells.length = len * sz → minv ≤ len * sz → cells'.length = cells.length →
  (∀ {cs : List Value} {F : Nat → Option (Nat × List AV)}, FOk F m.froz w base → VRs m cells cs → ∃ F', FOk F' m.froz w base ∧ (∀ i p, F i = some p → F' i = some p) ∧ VRs ⟨fun _ _ => none, F'⟩ cells' cs) →
  ∀ {F : Nat → Option (Nat × List AV)}, FOk F m.froz w base → m r (len * sz) = some (B, N) → len ≤ cap → ∃ F', FOk F' m.froz w base ∧ (∀ i p, F i = some p → F' i = some p) ∧ VR ⟨fun _ _ => none, F'⟩ (.vec len sz cells') (.slice (some ⟨B, 0, none⟩) len cap) := by
  intro r len sz minv cap B N cells cells' hb hl hmin hl' ih F hF hm hcap
  obtain ⟨cs, ty, fr, q1, q2, q3, q4, q5⟩ := rw.blk _ _ _ _ _ hb hm hmin (by rw [hl]; exact Nat.le_refl _)
  obtain ⟨b0, hb0, _, _, hbase⟩ := rw.dom _ _ _ _ hm
  rw [hb] at hb0
  cases hb0
  simp only at q5
  rw [List.take_of_length_le (by omega)] at q5
  obtain ⟨F1, h1, h2, h3⟩ := ih hF q5
  obtain ⟨F2, i, g1, g2, g3⟩ := fOk_add h1 (hbase rfl) q1 (cells := cells') (by omega) (by rw [hl', hl]; exact h3)
  refine ⟨F2, g1, fun i p hi => g3 i p (h2 i p hi), ?_⟩
  simp only [VR]
  refine ⟨by omega, _, cap, rfl, hcap, fun e => (by cases e), fun _ => ⟨i, B, 0, cells', g2, rfl, ?_, by omega⟩⟩
  rw [List.drop_zero, List.take_of_length_le (by omega)]
 induction h with
 | pures hp =>
  intro cs F hF hv
  exact ⟨F, hF, fun _ _ h => h, VRs.mono (still hF) _ _ (purs_VR _ _ hp hv)⟩
 | cons hp _ ih =>
  intro cs F hF hv
  simp only [VRs] at hv ⊢
  obtain ⟨y, ys, rfl, h1, h2⟩ := hv
  obtain ⟨F', g1, g2, g3⟩ := ih hF h2
  exact ⟨F', g1, g2, y, ys, rfl, VR.mono (still g1) _ _ (pur_VR _ _ hp h1), g3⟩
 | nil _ ih =>
  intro cs F hF hv
  simp only [VRs] at hv ⊢
  obtain ⟨y, ys, rfl, h1, h2⟩ := hv
  obtain ⟨F', g1, g2, g3⟩ := ih hF h2
  simp only [VR] at h1
  subst h1
  exact ⟨F', g1, g2, _, ys, rfl, vec_nil _ _, g3⟩
 | @own r len sz cells cells' minv xs ys hb hl hmin hc _ ih1 ih2 =>
  intro cs F hF hv
  simp only [VRs] at hv
  obtain ⟨c, cs', rfl, h1, h2⟩ := hv
  simp only [VR] at h1
  rcases h1 with ⟨h0, rfl⟩ | ⟨B, N, cap, hm, hcap, hN, rfl⟩
  ·obtain ⟨F', g1, g2, g3⟩ := ih2 hF h2
   refine ⟨F', g1, g2, ?_⟩
   subst h0
   obtain rfl : cells' = [] := List.length_eq_zero_iff.1 (by rw [hc.length]; omega)
   simp only [VRs]
   exact ⟨_, _, rfl, vec_nil _ _, g3⟩
  ·obtain ⟨F1, g1, g2, g3⟩ := block hb hl hmin hc.length ih1 hF hm hcap
   obtain ⟨F', e1, e2, e3⟩ := ih2 g1 h2
   refine ⟨F', e1, fun i p hi => e2 i p (g2 i p hi), ?_⟩
   simp only [VRs]
   exact ⟨_, _, rfl, VR.mono (grow e2) _ _ g3, e3⟩
 | @slice r len sz v cells cells' minv xs ys hb hl hv0 hmin hc _ ih1 ih2 =>
  intro cs F hF hv
  simp only [VRs] at hv
  obtain ⟨c, cs', rfl, h1, h2⟩ := hv
  simp only [VR] at h1
  obtain ⟨B, N, cap, hm, _, hcap, hN, rfl⟩ := h1
  subst hv0
  obtain ⟨F1, g1, g2, g3⟩ := block hb hl hmin hc.length ih1 hF hm hcap
  obtain ⟨F', e1, e2, e3⟩ := ih2 g1 h2
  refine ⟨F', e1, fun i p hi => e2 i p (g2 i p hi), ?_⟩
  simp only [VRs]
  exact ⟨_, _, rfl, VR.mono (grow e2) _ _ g3, e3⟩
 | agg _ _ ih1 ih2 =>
  intro cs F hF hv
  simp only [VRs, VR] at hv ⊢
  obtain ⟨c, cs', rfl, ⟨zs, rfl, h1⟩, h2⟩ := hv
  obtain ⟨F1, g1, g2, g3⟩ := ih1 hF h1
  obtain ⟨F', e1, e2, e3⟩ := ih2 g1 h2
  exact ⟨F', e1, fun i p hi => e2 i p (g2 i p hi), _, _, rfl, ⟨zs, rfl, VRs.mono (grow e2) _ _ g3⟩, e3⟩
 | tuple _ _ ih1 ih2 =>
  intro cs F hF hv
  simp only [VRs, VR] at hv ⊢
  obtain ⟨c, cs', rfl, ⟨zs, rfl, h1⟩, h2⟩ := hv
  obtain ⟨F1, g1, g2, g3⟩ := ih1 hF h1
  obtain ⟨F', e1, e2, e3⟩ := ih2 g1 h2
  exact ⟨F', e1, fun i p hi => e2 i p (g2 i p hi), _, _, rfl, ⟨zs, rfl, VRs.mono (grow e2) _ _ g3⟩, e3⟩
structure Fx (R : Type) where
 P : Program
 C : Cx
 fn : Func
 enc : R → AV
 n0 : Nat
 fin : R → Hp
 hti : ∀ t i, C.ti t = some i → mkTi P t = some i
 ord : P.follows .mixedOrders = true
section
variable {R : Type} (X : Fx R)
def Ret (r : R) (m0 : Mp) (w0 : World) (b0 : Nat) : Exit → Act → World → Prop :=
 bodyPost X.P X.fn fun x w' => ∃ m' c, x = .returned c ∧ RW m' (X.fin r) w' b0 ∧ St m0 w0 b0 m' w' ∧ VR m' (X.enc r) c
def Ok (p : Pt) (env : Env) (H : Hp) (t : Option R) : Prop := ∀ r, t = some r → ∀ (m0 : Mp) (w0 : World) (b0 : Nat) (m : Mp) (w : World) (a : Act), ((∀ r v p, m0 r v = some p → r < X.n0) ∧ b0 ≤ w0.heap.size) → FR m env a.tmps → X.fn.ntmps ≤ a.tmps.size → a.defers = [] → RW m H w b0 → St m0 w0 b0 m w → At X.P (Ret X r m0 w0 b0) p a w
end
section
variable {R : Type} {X : Fx R} {p p' : Pt} {env eE : Env} {H H' : Hp}
theorem ok_none : Ok X p env H none := by intro r h; cases h
theorem ok_bind {α : Type} {m : Option α} {f : α → Option R} (h : ∀ x, m = some x → Ok X p env H (f x)) : Ok X p env H (m.bind f) := by
 intro r hr
 cases hm : m with
 | none => rw [hm] at hr; cases hr
 | some x => rw [hm] at hr; exact h x hm r hr
theorem ok_less {t : Option R} (h : Less env eE) (k : Ok X p eE H t) : Ok X p env H t :=
 fun r hr m0 w0 b0 m w a h0 fr hn hd rw st => k r hr m0 w0 b0 m w a h0 (fr.less h) hn hd rw st
theorem oK {t : Option R} (ks : List Nat) (h : keepOnly env ks = eE) (k : Ok X p eE H t) : Ok X p env H t :=
 ok_less (h ▸ less_keepOnly ks env) k
theorem oE {t : Option R} (h : env = eE) (k : Ok X p eE H t) : Ok X p env H t := h ▸ k
theorem less_put {d : Nat} {v : AV} (h : look env d = v) : Less env (putE env d v) := by
 intro t
 rw [look_put]
 split
 ·rename_i e; subst e; exact .inr h.symm
 ·exact .inr rfl
theorem oS {t1 t2 : Option R} (d : Nat) {b : Bool} (h : look env d = .bool b) (k1 : b = true → Ok X p ((d, .bool true) :: env) H t1) (k2 : b = false → Ok X p ((d, .bool false) :: env) H t2) : Ok X p env H (if b then t1 else t2) := by
 cases b with
 | true => exact ok_less (less_put h) (k1 rfl)
 | false => exact ok_less (less_put h) (k2 rfl)
abbrev jn {α R : Type} (f : α → Option R) (b : (α → Option R) → Option R) : Option R := b f
theorem oJ {α : Type} {f : α → Option R} {b : (α → Option R) → Option R} (pj : Pt) (E : α → Env) (G : α → Hp) (k1 : ∀ x, Ok X pj (E x) (G x) (f x)) (k2 : ∀ j : α → Option R, (∀ x, Ok X pj (E x) (G x) (j x)) → Ok X p env H (b j)) : Ok X p env H (jn f b) := k2 f k1
theorem ok_stp {t : Option R} {ops : Array Oper} {n : Nat} {K : List Fr} {o : Oper} {v : AV} (ho : ops[n]? = some o) (hd : dstOk X.fn.ntmps o = true) (hw : wantedV o ops.toList env = some true) (hs : Stp X.P X.C env H o v H') (k : Ok X (.ops ops (n + 1) K) (putV env o.dst v) H' t) : Ok X (.ops ops n K) env H t := by
 intro r hr m0 w0 b0 m w a h0 fr hn hdf rw st
 show wpOps X.P ops _ (List.range' n (ops.size - n)) a w
 have hlt : n < ops.size := (Array.getElem?_eq_some_iff.1 ho).1
 rw [show ops.size - n = (ops.size - (n + 1)) + 1 by omega, List.range'_succ]
 simp only [wpOps, ho]
 rw [wanted_ok hw fr]
 simp only [if_true]
 refine .inl ?_
 refine stp_ok X.hti hs fr rw _ _ fun m' w' c q1 q2 q3 => ?_
 obtain ⟨f1, f2, f3⟩ := act_put_frame (fr.mono q2.sub) hn hdf o hd v c q3
 exact k r hr m0 w0 b0 m' w' _ h0 f1 f2 f3 q1 (st.trans h0.2 q2)
theorem ok_skp {t : Option R} {ops : Array Oper} {n : Nat} {K : List Fr} {o : Oper} (ho : ops[n]? = some o) (hd : dstOk X.fn.ntmps o = true) (hw : wantedV o ops.toList env = some false) (k : Ok X (.ops ops (n + 1) K) (putV env o.dst (.tuple [])) H t) : Ok X (.ops ops n K) env H t := by
 intro r hr m0 w0 b0 m w a h0 fr hn hdf rw st
 show wpOps X.P ops _ (List.range' n (ops.size - n)) a w
 have hlt : n < ops.size := (Array.getElem?_eq_some_iff.1 ho).1
 rw [show ops.size - n = (ops.size - (n + 1)) + 1 by omega, List.range'_succ]
 simp only [wpOps, ho]
 rw [wanted_ok hw fr]
 simp only [Bool.false_eq_true, if_false]
 obtain ⟨f1, f2, f3⟩ := act_put_frame fr hn hdf o hd (.tuple []) undef (VR_undef _)
 exact k r hr m0 w0 b0 m w _ h0 f1 f2 f3 rw st
theorem ok_go {t : Option R} (h : ∀ (Q : Exit → Act → World → Prop) (a : Act) (w : World), True → At X.P Q p' a w → At X.P Q p a w) (k : Ok X p' env H t) : Ok X p env H t :=
 fun r hr m0 w0 b0 m w a h0 fr hn hd rw st => h _ a w trivial (k r hr m0 w0 b0 m w a h0 fr hn hd rw st)
end
end Go.Proofs.Ytnikdnchoahngaa.Am
set_option linter.unusedVariables false
set_option linter.unusedSimpArgs false
namespace Go.Proofs.Ytnikdnchoahngaa.Am
open Go
section
variable {R : Type} {X : Fx R} {p p' : Pt} {env eE : Env} {H H' : Hp}
noncomputable def stepV (C : Cx) (n : Nat) (p : Pt) (env : Env) (H : Hp) : Option (Pt × Env × Hp) :=
 match p with
 | .ops ops k K => match nth ops.toList k with
  | some o => bif dstOk n o then (match wantedV o ops.toList env with
   | some true => (match opV C env H o with | some (v, H') => some (.ops ops (k + 1) K, putV env o.dst v, H') | none => none)
   | some false => some (.ops ops (k + 1) K, putV env o.dst (.tuple []), H)
   | none => none) else none
  | none => some (resume K, env, H)
 | .code c K => match c with
  | .seq a b => some (.code a (.seq b :: K), env, H)
  | .skip => some (resume K, env, H)
  | .label _ => some (resume K, env, H)
  | .block id b => some (.code b (.block id :: K), env, H)
  | .scope b => some (.code b (.scope b :: K), env, H)
  | .loop b => some (.loop b K, env, H)
  | .exit id => match exitK id K with | some q => some (q, env, H) | none => none
  | .goto l => match gotoK l K with | some q => some (q, env, H) | none => none
  | .ret => some (.fin, env, H)
  | .region id ops draw => bif draw then none else some (.ops ops 0 K, env, H)
  | .cond c x y => match opnd env c with | .bool b => some (.code (bif b then x else y) K, env, H) | _ => none
  | _ => none
 | _ => none
theorem fin_ops {t : Option R} {ops : Array Oper} {n : Nat} {K : List Fr} (h : ops[n]? = none) (k : Ok X (resume K) env H t) : Ok X (.ops ops n K) env H t := by
 intro r hr m0 w0 b0 m w a h0 fr hn hd rw st
 show wpOps X.P ops _ (List.range' n (ops.size - n)) a w
 have hle : ops.size ≤ n := by
  rcases Nat.lt_or_ge n ops.size with h1 | h1
  ·rw [Array.getElem?_eq_getElem h1] at h; cases h
  ·exact h1
 rw [show ops.size - n = 0 by omega]
 exact resume_ok (k r hr m0 w0 b0 m w a h0 fr hn hd rw st)
theorem stepV_ok {t : Option R} (h : stepV X.C X.fn.ntmps p env H = some (p', eE, H')) (k : Ok X p' eE H' t) : Ok X p env H t := by
 cases p with
 | ops ops n K =>
  simp only [stepV] at h
  rw [nth_eq, Array.getElem?_toList] at h
  cases ho : ops[n]? with
  | none => rw [ho] at h; cases h; exact fin_ops ho k
  | some o =>
   rw [ho] at h
   simp only at h
   cases hd : dstOk X.fn.ntmps o with
   | false => rw [hd] at h; cases h
   | true =>
    rw [hd] at h
    simp only [cond_true] at h
    split at h
    ·rename_i hw
     split at h
     ·rename_i v H1 hv
      cases h
      exact ok_stp ho hd hw (.inl hv) k
     ·cases h
    ·rename_i hw
     cases h
     exact ok_skp ho hd hw k
    ·cases h
 | code c K =>
  cases c <;> simp only [stepV] at h
  case seq x y => cases h; exact ok_go (p' := .code x (.seq y :: K)) (fun Q a w _ hh => wp_seq (wp_mono hh fun e a w he => by cases e <;> exact he)) k
  case skip => cases h; exact ok_go (fun Q a w _ hh => wp_skip (resume_ok hh)) k
  case label => cases h; exact ok_go (fun Q a w _ hh => wp_label (resume_ok hh)) k
  case block id b => cases h; exact ok_go (p' := .code b (.block id :: K)) (fun Q a w _ hh => wp_block hh) k
  case scope b => cases h; exact ok_go (p' := .code b (.scope b :: K)) (fun Q a w _ hh => (scope_ok hh).wp) k
  case loop b => cases h; exact ok_go (p' := .loop _ _) (fun Q a w _ hh => LoopWp.wp hh) k
  case exit id =>
   split at h
   ·rename_i q hq
    cases h
    exact ok_go (fun Q a w _ hh => wp_exit (exitK_ok hq hh)) k
   ·cases h
  case goto l =>
   split at h
   ·rename_i q hq
    cases h
    exact ok_go (fun Q a w _ hh => wp_goto (gotoK_ok hq hh)) k
   ·cases h
  case ret => cases h; exact ok_go (p' := .fin) (fun Q a w _ hh => wp_ret (retK_ok hh.2 K)) k
  case region id ops draw =>
   cases draw with
   | true => cases h
   | false =>
    cases h
    refine ok_go (fun Q a w _ hh => wp_region ?_) k
    have hh' : wpOps X.P ops (FinK X.P Q K) (List.range' 0 (ops.size - 0)) a w := hh
    rw [List.range_eq_range']
    exact hh'
  case cond c x y =>
   split at h
   ·rename_i b hb
    cases h
    intro r hr m0 w0 b0 m w a h0 fr hn hd rw st
    have hc := opnd_ok fr c
    rw [hb] at hc
    simp only [VR] at hc
    refine wp_cond hc ?_
    have := k r hr m0 w0 b0 m w a h0 fr hn hd rw st
    cases b <;> exact this
   ·cases h
  all_goals cases h
 | loop b K => cases h
 | fin => cases h
noncomputable def runV (C : Cx) (n : Nat) (k : Nat) : Pt → Env → Hp → Option (Pt × Env × Hp) :=
 Nat.rec (motive := fun _ => Pt → Env → Hp → Option (Pt × Env × Hp)) (fun p env H => some (p, env, H))
  (fun _ ih p env H => match stepV C n p env H with | some (p', eE, H') => ih p' eE H' | none => none) k
theorem oR {t : Option R} : ∀ (k : Nat) {p : Pt} {env : Env} {H : Hp}, runV X.C X.fn.ntmps k p env H = some (p', eE, H') → Ok X p' eE H' t → Ok X p env H t
 | 0, p, env, H, h, g => by
  have h' : some (p, env, H) = some (p', eE, H') := h
  cases h'
  exact g
 | k + 1, p, env, H, h, g => by
  have h' : (match stepV X.C X.fn.ntmps p env H with | some (p', eE, H') => runV X.C X.fn.ntmps k p' eE H' | none => none) = some (p', eE, H') := h
  split at h'
  ·rename_i p1 env1 H1 hs
   exact stepV_ok hs (oR k h' g)
  ·cases h'
def entL : Pt → Option Pt
 | .loop b K => some (.code b (.loop b :: K))
 | _ => none
theorem ok_ent {t : Option R} (h : entL p = some p') (k : Ok X p' env H t) : Ok X p env H t := by
 cases p <;> simp only [entL] at h <;> cases h
 exact ok_go (p' := .code _ (.loop _ :: _)) (fun Q a w _ hh => LoopWp.of (wp_mono hh fun e a w he => by cases e <;> exact he)) k
noncomputable def operAt (n : Nat) (p : Pt) (env : Env) : Option Oper :=
 match p with
 | .ops ops k K => match nth ops.toList k with
  | some o => bif dstOk n o then (match wantedV o ops.toList env with | some true => some o | _ => none) else none
  | none => none
 | _ => none
def adv : Pt → Pt
 | .ops ops k K => .ops ops (k + 1) K
 | q => q
noncomputable def evalAt (C : Cx) (n : Nat) (p : Pt) (env : Env) (H : Hp) : Option (AV × Hp) :=
 match operAt n p env with | some o => opV C env H o | none => none
noncomputable def advE (n : Nat) (p : Pt) (env : Env) (v : AV) : Option (Pt × Env) :=
 match operAt n p env with | some o => some (adv p, putV env o.dst v) | none => none
noncomputable def callAt (n : Nat) (p : Pt) (env : Env) : Option (Nat × List AV) :=
 match operAt n p env with
 | some o => match o.op with
  | .call c => match c.callee with
   | .value g => match opnd env g with
    | .func f first caps => some (f, first ++ opnds env c.args.toList ++ caps)
    | _ => none
   | _ => none
  | _ => none
 | none => none
theorem operAt_spec {n : Nat} {o : Oper} (h : operAt n p env = some o) : ∃ ops k K, p = .ops ops k K ∧ ops[k]? = some o ∧ dstOk n o = true ∧ wantedV o ops.toList env = some true := by
 cases p <;> simp only [operAt] at h <;> try (cases h; done)
 rename_i ops k K
 rw [nth_eq, Array.getElem?_toList] at h
 cases ho : ops[k]? with
 | none => rw [ho] at h; cases h
 | some o' =>
  rw [ho] at h
  simp only at h
  cases hd : dstOk n o' with
  | false => rw [hd] at h; cases h
  | true =>
   rw [hd] at h
   simp only [cond_true] at h
   split at h
   ·rename_i hw
    cases h
    exact ⟨ops, k, K, rfl, ho, hd, hw⟩
   ·cases h
theorem ok_val {t : Option R} {v : AV} (h : evalAt X.C X.fn.ntmps p env H = some (v, H')) (ha : advE X.fn.ntmps p env v = some (p', eE)) (k : Ok X p' eE H' t) : Ok X p env H t := by
 unfold evalAt at h
 unfold advE at ha
 cases ho : operAt X.fn.ntmps p env with
 | none => rw [ho] at h; cases h
 | some o =>
  rw [ho] at h ha
  simp only at h ha
  cases ha
  obtain ⟨ops, n, K, rfl, h1, h2, h3⟩ := operAt_spec ho
  exact ok_stp h1 h2 h3 (.inl h) k
theorem oH {α : Type} {m : Option α} {f : α → Option R} (g : α → AV × Hp) (p' : Pt) (E : α → Env) (h : evalAt X.C X.fn.ntmps p env H = m.map g) (ha : ∀ x, advE X.fn.ntmps p env (g x).1 = some (p', E x)) (k : ∀ x, m = some x → Ok X p' (E x) (g x).2 (f x)) : Ok X p env H (m.bind f) := by
 refine ok_bind fun x hx => ?_
 subst hx
 exact ok_val (v := (g x).1) (H' := (g x).2) h (ha x) (k x rfl)
theorem oC {α : Type} {m : Option α} {f : α → Option R} {fi : Nat} {args : List AV} (g : α → AV) (p' : Pt) (E : α → Env) (hc : callAt X.fn.ntmps p env = some (fi, args)) (hp : purs args = true) (hg : ∀ x, pur (g x) = true) (hf : ∀ x, m = some x → PureOk X.P fi args (g x)) (ha : ∀ x, advE X.fn.ntmps p env (g x) = some (p', E x)) (k : ∀ x, m = some x → Ok X p' (E x) H (f x)) : Ok X p env H (m.bind f) := by
 refine ok_bind fun x hx => ?_
 have hpo := pure_call (hf x hx) hp (hg x) H
 have hax := ha x
 unfold advE at hax
 unfold callAt at hc
 cases ho : operAt X.fn.ntmps p env with
 | none => rw [ho] at hax; cases hax
 | some o =>
  rw [ho] at hax hc
  simp only [Option.some.injEq, Prod.mk.injEq] at hax hc
  obtain ⟨e1, e2⟩ := hax
  obtain ⟨ops, n, K, rfl, h1, h2, h3⟩ := operAt_spec ho
  have kx := k x hx
  rw [← e1, ← e2] at kx
  split at hc
  ·rename_i c hoc
   split at hc
   ·rename_i q hq
    split at hc
    ·rename_i fi' first caps hfv
     cases hc
     exact ok_stp h1 h2 h3 (.inr ⟨c, q, fi, first, caps, hoc, hq, hfv, hpo⟩) kx
    ·cases hc
   ·cases hc
  ·cases hc
def drawAt : Pt → Option Pt
 | .code (.region _ _ true) K => some (resume K)
 | _ => none
def opsAt : Pt → Array Oper
 | .code (.region _ ops _) _ => ops
 | _ => #[]
noncomputable def rdOp (C : Cx) (env : Env) (hs : List Hp) (o : Oper) (j : Nat) : List (Option (AV × Hp) × Option (AV × Hp)) :=
 match nth hs j with
 | some H => [(opV C env H o, match o.dst with | some d => some (look env d, H) | none => opV C env H o)]
 | none => []
noncomputable def rdOps (C : Cx) (env : Env) (hs : List Hp) (o : Oper) : Nat → Nat → List (Option (AV × Hp) × Option (AV × Hp))
 | _, 0 => []
 | lo, n + 1 => rdOp C env hs o lo ++ rdOps C env hs o (lo + 1) n
noncomputable def rdL (C : Cx) (all : List Oper) (env : Env) (hs : List Hp) : Nat → List Oper → List (Nat × Nat × Nat) → List (Option (AV × Hp) × Option (AV × Hp))
 | c, o :: l, (_, lo, hi) :: pl => (bif Nat.beq (cls o) 1 && !(Nat.beq lo c && Nat.beq hi c) then (match wantedV o all env with | some true => rdOps C env hs o lo (hi + 1 - lo) | _ => []) else []) ++ rdL C all env hs (bif Nat.beq (cls o) 2 then c + 1 else c) l pl
 | _, _, _ => []
theorem rdOps_at {C : Cx} {env : Env} {hs : List Hp} {o : Oper} : ∀ (n lo j : Nat) (H : Hp), lo ≤ j → j < lo + n → hs[j]? = some H → (opV C env H o, match o.dst with | some d => some (look env d, H) | none => opV C env H o) ∈ rdOps C env hs o lo n
 | 0, lo, j, H, h1, h2, _ => by omega
 | n + 1, lo, j, H, h1, h2, h3 => by
  rw [rdOps, List.mem_append]
  by_cases e : lo = j
  ·subst e
   left
   unfold rdOp
   rw [nth_eq, h3]
   simp
  ·exact .inr (rdOps_at n (lo + 1) j H (by omega) (by omega) h3)
theorem rdL_at {C : Cx} {all : List Oper} {env : Env} {hs : List Hp} : ∀ (l : List Oper) (pl : List (Nat × Nat × Nat)) (c i : Nat) (o : Oper) (mk lo hi : Nat), l[i]? = some o → pl[i]? = some (mk, lo, hi) → cls o = 1 → wantedV o all env = some true → ¬ (lo = c + (l.take i).countP (fun p => Nat.beq (cls p) 2) ∧ hi = c + (l.take i).countP (fun p => Nat.beq (cls p) 2)) → ∀ j, lo ≤ j → j ≤ hi → ∀ H, hs[j]? = some H → (opV C env H o, match o.dst with | some d => some (look env d, H) | none => opV C env H o) ∈ rdL C all env hs c l pl
 | [], pl, c, i, o, mk, lo, hi, ho, _, _, _, _, j, _, _, H, _ => by simp at ho
 | p :: l, [], c, i, o, mk, lo, hi, ho, hp, _, _, _, j, _, _, H, _ => by simp at hp
 | p :: l, (mk0, lo0, hi0) :: pl, c, i, o, mk, lo, hi, ho, hp, hc, hw, hn, j, h1, h2, H, hj => by
  rw [rdL, List.mem_append]
  cases i with
  | zero =>
   simp at ho hp
   subst ho
   obtain ⟨rfl, rfl, rfl⟩ := hp
   left
   have e : Nat.beq (cls p) 1 = true := by rw [hc]; rfl
   have e2 : (Nat.beq lo0 c && Nat.beq hi0 c) = false := by
    cases h : (Nat.beq lo0 c && Nat.beq hi0 c) with
    | false => rfl
    | true =>
     simp only [Bool.and_eq_true] at h
     refine absurd (a := lo0 = c ∧ hi0 = c) ⟨Nat.eq_of_beq_eq_true h.1, Nat.eq_of_beq_eq_true h.2⟩ ?_
     simpa using hn
   rw [e, e2, hw]
   exact rdOps_at _ _ _ _ h1 (by omega) hj
  | succ i =>
   refine .inr (rdL_at l pl _ i o mk lo hi (by simpa using ho) (by simpa using hp) hc hw ?_ j h1 h2 H hj)
   rw [List.take_succ_cons, List.countP_cons] at hn
   cases hb : Nat.beq (cls p) 2 with
   | true => rw [hb] at hn; simp only [if_true] at hn; simp only [cond_true]; omega
   | false => rw [hb] at hn; simp only [Bool.false_eq_true, if_false] at hn; simp only [cond_false]; omega
theorem alike_of {C : Cx} {ops : Array Oper} {env : Env} {hs : List Hp} {pl : List (Nat × Nat × Nat)} (hsome : (rdL C ops.toList env hs 0 ops.toList pl).all (fun q => q.1.isSome) = true) (h : (rdL C ops.toList env hs 0 ops.toList pl).map (·.1) = (rdL C ops.toList env hs 0 ops.toList pl).map (·.2)) : AlikeP C ops env hs pl := by
 intro i o mk lo hi ho hp hc hw hn j h1 h2 H hj
 have hm := rdL_at (C := C) _ _ 0 i o mk lo hi ho hp hc hw (by simpa using hn) j h1 h2 H hj
 have e : opV C env H o = (match o.dst with | some d => some (look env d, H) | none => opV C env H o) := by
  have key : ∀ l : List (Option (AV × Hp) × Option (AV × Hp)), l.map (·.1) = l.map (·.2) → ∀ q ∈ l, q.1 = q.2 := by
   intro l
   induction l with
   | nil => intro _ q hq; cases hq
   | cons x l ih =>
    intro hl q hq
    simp only [List.map_cons, List.cons.injEq] at hl
    rcases List.mem_cons.1 hq with rfl | hq
    ·exact hl.1
    ·exact ih hl.2 q hq
  exact key _ h _ hm
 have hs1 := List.all_eq_true.1 hsome _ hm
 cases hd : o.dst with
 | none =>
  simp only at hs1
  obtain ⟨⟨v, H1⟩, hv⟩ := Option.isSome_iff_exists.1 hs1
  have := opV_reads hc hv
  subst this
  exact ⟨v, hv, fun d hd => by cases hd⟩
 | some d =>
  rw [hd] at e
  exact ⟨_, e, fun d' hd' => by cases hd'; rfl⟩
theorem ok_draw {t : Option R} (pl : List (Nat × Nat × Nat)) {hs : List Hp} (h : drawAt p = some p') (hp : planOk (opsAt p) pl = true) (hds : (opsAt p).toList.all (dstOk X.fn.ntmps) = true) (hD : OpsD X.P X.C (opsAt p).toList (opsAt p).toList env H eE hs) (hsome : (rdL X.C (opsAt p).toList eE (H :: hs) 0 (opsAt p).toList pl).all (fun q => q.1.isSome) = true) (hq : (rdL X.C (opsAt p).toList eE (H :: hs) 0 (opsAt p).toList pl).map (·.1) = (rdL X.C (opsAt p).toList eE (H :: hs) 0 (opsAt p).toList pl).map (·.2)) (hl : lastH H hs = H') (k : Ok X p' eE H' t) : Ok X p env H t := by
 subst hl
 unfold drawAt at h
 split at h
 ·rename_i id ops K
  cases h
  intro r hr m0 w0 b0 m w a h0 fr hn hd rw st
  have := drawS_ok (id := id) X.hti X.ord hds hp hD (alike_of hsome hq) fr hn hd rw
  show (Code.region id ops true).wp X.P _ a w
  refine wp_mono this ?_
  rintro e a' w' ⟨rfl, m', q1, q2, q3, q4, q5⟩
  exact resume_ok (k r hr m0 w0 b0 m' w' a' h0 q3 q4 q5 q1 (st.trans h0.2 q2))
 ·cases h
noncomputable def runD (C : Cx) (all : List Oper) (k : Nat) : List Oper → Env → Hp → Option (List Oper × Env × Hp × List Hp) :=
 Nat.rec (motive := fun _ => List Oper → Env → Hp → Option (List Oper × Env × Hp × List Hp)) (fun l env H => some (l, env, H, []))
  (fun _ ih l env H => match l with
   | [] => none
   | o :: l => match wantedV o all env with
    | none => none
    | some false => (match ih l (putV env o.dst (.tuple [])) H with
     | some (l', e, H', hs) => some (l', e, H', bif Nat.beq (cls o) 2 then H :: hs else hs)
     | none => none)
    | some true => (match opV C env H o with
     | some (v, H1) => (match ih l (putV env o.dst v) H1 with
      | some (l', e, H', hs) => some (l', e, H', bif Nat.beq (cls o) 2 then H1 :: hs else hs)
      | none => none)
     | none => none)) k
theorem opsD_run {P : Program} {C : Cx} {all : List Oper} {e : Env} {hs2 : List Hp} : ∀ (k : Nat) {l l' : List Oper} {env eE : Env} {H H' : Hp} {hs : List Hp}, runD C all k l env H = some (l', eE, H', hs) → OpsD P C all l' eE H' e hs2 → OpsD P C all l env H e (hs ++ hs2)
 | 0, l, l', env, eE, H, H', hs, h, g => by
  have h' : some (l, env, H, ([] : List Hp)) = some (l', eE, H', hs) := h
  cases h'
  exact g
 | k + 1, [], l', env, eE, H, H', hs, h, g => by cases h
 | k + 1, o :: l, l', env, eE, H, H', hs, h, g => by
  have h' : (match wantedV o all env with
   | none => none
   | some false => (match runD C all k l (putV env o.dst (.tuple [])) H with
    | some (l', e, H', hs) => some (l', e, H', bif Nat.beq (cls o) 2 then H :: hs else hs)
    | none => none)
   | some true => (match opV C env H o with
    | some (v, H1) => (match runD C all k l (putV env o.dst v) H1 with
     | some (l', e, H', hs) => some (l', e, H', bif Nat.beq (cls o) 2 then H1 :: hs else hs)
     | none => none)
    | none => none)) = some (l', eE, H', hs) := h
  split at h'
  ·cases h'
  ·rename_i hw
   split at h'
   ·rename_i hr
    cases h'
    have := OpsD.skip (P := P) hw (opsD_run k hr g)
    cases hc : Nat.beq (cls o) 2 <;> rw [hc] at this <;> exact this
   ·cases h'
  ·rename_i hw
   split at h'
   ·rename_i v H1 hv
    split at h'
    ·rename_i hr
     cases h'
     have := OpsD.val (P := P) hw (.inl hv) (opsD_run k hr g)
     cases hc : Nat.beq (cls o) 2 <;> rw [hc] at this <;> exact this
    ·cases h'
   ·cases h'
noncomputable def headO (all l : List Oper) (env : Env) : Option Oper := match l with | o :: _ => (match wantedV o all env with | some true => some o | _ => none) | [] => none
noncomputable def evalD (C : Cx) (all l : List Oper) (env : Env) (H : Hp) : Option (AV × Hp) := match headO all l env with | some o => opV C env H o | none => none
noncomputable def advD (all l : List Oper) (env : Env) (v : AV) (H : Hp) : Option (List Oper × Env × List Hp) := match headO all l env with | some o => some (l.tail, putV env o.dst v, bif Nat.beq (cls o) 2 then [H] else []) | none => none
theorem headO_spec {all l : List Oper} {o : Oper} (h : headO all l env = some o) : ∃ r, l = o :: r ∧ wantedV o all env = some true := by
 unfold headO at h
 split at h
 ·rename_i o' r
  split at h
  ·rename_i hw; cases h; exact ⟨r, rfl, hw⟩
  ·cases h
 ·cases h
theorem opsD_one {P : Program} {C : Cx} {all l l' : List Oper} {e : Env} {hs hs2 : List Hp} {o : Oper} {v : AV} (ho : headO all l env = some o) (hs0 : Stp P C env H o v H') (ha : advD all l env v H' = some (l', eE, hs)) (g : OpsD P C all l' eE H' e hs2) : OpsD P C all l env H e (hs ++ hs2) := by
 unfold advD at ha
 rw [ho] at ha
 cases ha
 obtain ⟨r, rfl, hw⟩ := headO_spec ho
 have := OpsD.val hw hs0 g
 cases hc : Nat.beq (cls o) 2 <;> rw [hc] at this <;> exact this
theorem opsD_chk {P : Program} {C : Cx} {all l l' : List Oper} {e : Env} {hs hs2 : List Hp} {α : Type} {m : Option α} {x : α} (g : α → AV × Hp) (h : evalD C all l env H = m.map g) (hx : m = some x) (ha : advD all l env (g x).1 (g x).2 = some (l', eE, hs)) (k : OpsD P C all l' eE (g x).2 e hs2) : OpsD P C all l env H e (hs ++ hs2) := by
 subst hx
 unfold evalD at h
 cases ho : headO all l env with
 | none => rw [ho] at h; cases h
 | some o =>
  rw [ho] at h
  exact opsD_one (v := (g x).1) ho (.inl h) ha k
noncomputable def mkT (n : Nat) (l : List Blk) : Tr :=
 List.rec (motive := fun _ => Nat → Tr) (fun _ => .nil) (fun b _ ih n => PT.set depth (ih (n + 1)) n b) l n
theorem mkT_nil (n : Nat) : mkT n [] = .nil := rfl
theorem mkT_cons (n : Nat) (b : Blk) (l : List Blk) : mkT n (b :: l) = PT.set depth (mkT (n + 1) l) n b := rfl
noncomputable def mkH (l : List Blk) : Hp := ⟨l.length, mkT 0 l⟩
theorem mkT_get : ∀ (l : List Blk) (n i : Nat), n + l.length ≤ roots → (mkT n l).get i = if n ≤ i then l[i - n]? else none
 | [], n, i, _ => by
  rw [mkT_nil]
  simp only [List.getElem?_nil, ite_self]
  exact PT.get_nil i
 | b :: l, n, i, h => by
  simp only [List.length_cons] at h
  by_cases e : n = i
  ·subst e
   rw [mkT_cons, Tr.get_set_eq _ _ _ _ (by unfold roots at h; unfold depth; omega)]
   simp
  ·rw [mkT_cons, Tr.get_set_ne _ _ _ _ _ e, mkT_get l (n + 1) i (by omega)]
   by_cases h1 : n ≤ i
   ·rw [if_pos (by omega), if_pos h1, show i - n = (i - (n + 1)) + 1 by omega, List.getElem?_cons_succ]
   ·rw [if_neg (by omega), if_neg h1]
mutual
def below (n : Nat) : AV → Bool
 | .ptr r _ _ => Nat.blt r n
 | .slice r _ _ _ _ => Nat.blt r n
 | .own r _ _ => Nat.blt r n
 | .agg xs => belows n xs
 | .tuple xs => belows n xs
 | .func _ a b => belows n a && belows n b
 | .iface _ v => below n v
 | _ => true
def belows (n : Nat) : List AV → Bool
 | [] => true
 | x :: xs => below n x && belows n xs
end
def Mp.cut (m : Mp) (n : Nat) : Mp := ⟨fun r v => if r < n then m r v else none, m.froz⟩
mutual
theorem below_VR {m : Mp} {n : Nat} : ∀ (x : AV) (c : Value), below n x = true → VR m x c → VR (m.cut n) x c
 | .top, _, _, _ => by simp only [VR]
 | .int .., _, _, e => by simpa only [VR] using e
 | .resid .., _, _, e => by simpa only [VR] using e
 | .bool _, _, _, e => by simpa only [VR] using e
 | .str _, _, _, e => by simpa only [VR] using e
 | .nilp, _, _, e => by simpa only [VR] using e
 | .nils, _, _, e => by simpa only [VR] using e
 | .nilf, _, _, e => by simpa only [VR] using e
 | .nili, _, _, e => by simpa only [VR] using e
 | .vec .., _, _, e => by simp only [VR] at e ⊢; exact e
 | .vptr .., _, _, e => by simp only [VR] at e ⊢; exact e
 | .ptr r v off, _, h, e => by
  simp only [VR, below, Nat.blt_eq] at e h ⊢
  obtain ⟨B, N, h1, h2⟩ := e
  exact ⟨B, N, by show (if r < n then m r v else none) = _; rw [if_pos h]; exact h1, h2⟩
 | .slice r v off len sz, _, h, e => by
  simp only [VR, below, Nat.blt_eq] at e h ⊢
  obtain ⟨B, N, cap, h1, h2⟩ := e
  exact ⟨B, N, cap, by show (if r < n then m r v else none) = _; rw [if_pos h]; exact h1, h2⟩
 | .own r len sz, _, h, e => by
  simp only [VR, below, Nat.blt_eq] at e h ⊢
  rcases e with e | ⟨B, N, cap, h1, h2⟩
  ·exact .inl e
  ·exact .inr ⟨B, N, cap, by show (if r < n then m r (len * sz) else none) = _; rw [if_pos h]; exact h1, h2⟩
 | .agg xs, c, h, e => by
  simp only [VR] at e ⊢
  obtain ⟨ys, h1, h2⟩ := e
  exact ⟨ys, h1, belows_VR xs _ (by simpa only [below] using h) h2⟩
 | .tuple xs, c, h, e => by
  simp only [VR] at e ⊢
  obtain ⟨ys, h1, h2⟩ := e
  exact ⟨ys, h1, belows_VR xs _ (by simpa only [below] using h) h2⟩
 | .func f a b, c, h, e => by
  simp only [VR] at e ⊢
  simp only [below, Bool.and_eq_true] at h
  obtain ⟨ys, zs, h1, h2, h3⟩ := e
  exact ⟨ys, zs, h1, belows_VR a _ h.1 h2, belows_VR b _ h.2 h3⟩
 | .iface t v, c, h, e => by
  simp only [VR] at e ⊢
  obtain ⟨d, h1, h2⟩ := e
  exact ⟨d, h1, below_VR v _ (by simpa only [below] using h) h2⟩
theorem belows_VR {m : Mp} {n : Nat} : ∀ (xs : List AV) (cs : List Value), belows n xs = true → VRs m xs cs → VRs (m.cut n) xs cs
 | [], _, _, e => by simpa only [VRs] using e
 | x :: xs, cs, h, e => by
  simp only [VRs] at e ⊢
  simp only [belows, Bool.and_eq_true] at h
  obtain ⟨y, ys, rfl, h1, h2⟩ := e
  exact ⟨y, ys, rfl, below_VR x y h.1 h1, belows_VR xs ys h.2 h2⟩
end
def belowE (n : Nat) : Env → Bool
 | [] => true
 | p :: l => below n p.2 && belowE n l
theorem belowE_look {n : Nat} : ∀ {e : Env} (t : Nat), belowE n e = true → below n (look e t) = true
 | [], t, _ => rfl
 | p :: l, t, h => by
  simp only [belowE, Bool.and_eq_true] at h
  rw [look_cons]
  split
  ·exact h.1
  ·exact belowE_look t h.2
def BB (n : Nat) : List Blk → Prop
 | [] => True
 | b :: l => belows n b.cells = true ∧ BB n l
theorem BB_get {n : Nat} : ∀ {l : List Blk} {i : Nat} {b : Blk}, BB n l → l[i]? = some b → belows n b.cells = true
 | [], i, b, _, h => by simp at h
 | b0 :: l, i, b, hb, h => by
  cases i with
  | zero => simp at h; subst h; exact hb.1
  | succ i => exact BB_get hb.2 (by simpa using h)
theorem belows_take {n : Nat} : ∀ {xs : List AV} (k : Nat), belows n xs = true → belows n (xs.take k) = true
 | [], k, _ => by simp [belows]
 | x :: xs, 0, _ => by simp [belows]
 | x :: xs, k + 1, h => by
  simp only [belows, List.take_succ_cons, Bool.and_eq_true] at h ⊢
  exact ⟨h.1, belows_take k h.2⟩
theorem ok_cut {t : Option R} (l l2 : List Blk) (hn0 : Nat.ble X.n0 l.length = true) (hn : Nat.ble (l.length + l2.length) roots = true) (he : belowE l.length env = true) (hb : BB l.length l) (k : Ok X p env (mkH l) t) : Ok X p env (mkH (l ++ l2)) t := by
 intro r hr m0 w0 b0 m w a h0 fr hnt hd rw st
 have hn : l.length + l2.length ≤ roots := Nat.le_of_ble_eq_true hn
 have hget : ∀ i, i < l.length → (mkH (l ++ l2)).t.get i = (mkH l).t.get i := by
  intro i hi
  show (mkT 0 (l ++ l2)).get i = (mkT 0 l).get i
  rw [mkT_get _ _ _ (by simp; omega), mkT_get _ _ _ (by omega)]
  simp [List.getElem?_append_left hi]
 have hcut : ∀ {r v q}, (m.cut l.length) r v = some q → r < l.length ∧ m r v = some q := by
  intro r v q h
  have h : (if r < l.length then m r v else none) = some q := h
  by_cases e : r < l.length
  ·rw [if_pos e] at h; exact ⟨e, h⟩
  ·rw [if_neg e] at h; cases h
 have hnone : ∀ i, l.length ≤ i → (mkH l).t.get i = none := by
  intro i hi
  show (mkT 0 l).get i = none
  rw [mkT_get _ _ _ (by omega)]
  simp [hi]
 refine k r hr m0 w0 b0 (m.cut l.length) w a h0 ?_ hnt hd ⟨?_, ?_, ?_, hnone, ?_, rw.frz, ?_, rw.ffin, rw.base_le, ?_⟩ ⟨⟨fun r v q hq => (by
  have h1 := h0.1 r v q hq
  have h2 := Nat.le_of_ble_eq_true hn0
  show (if r < l.length then m r v else none) = some q
  rw [if_pos (by omega)]
  exact st.sub.1 r v q hq), st.sub.2⟩, ?_, st.fext, st.size, st.os, st.tape, st.output, st.same⟩
 ·intro t ht
  obtain ⟨c, h1, h2⟩ := fr t ht
  exact ⟨c, h1, below_VR _ _ (belowE_look t he) h2⟩
 ·intro r b v B N hb' hm h1 h2
  obtain ⟨hlt, hm⟩ := hcut hm
  obtain ⟨cs, ty, fr', q1, q2, q3, q4, q5⟩ := rw.blk r b v B N (by rw [hget r hlt]; exact hb') hm h1 h2
  have hbl : l[r]? = some b := by
   have hb' : (mkT 0 l).get r = some b := hb'
   rw [mkT_get _ _ _ (by omega)] at hb'
   simpa using hb'
  exact ⟨cs, ty, fr', q1, q2, q3, q4, belows_VR _ _ (belows_take v (BB_get hb hbl)) q5⟩
 ·intro r v B N hm
  obtain ⟨hlt, hm⟩ := hcut hm
  rw [← hget r hlt]
  exact rw.dom r v B N hm
 ·intro r v B N r' v' N' hm hm' hB
  exact rw.sep _ _ _ _ _ _ _ (hcut hm).2 (hcut hm').2 hB
 ·intro r v B N hm
  exact rw.vle _ _ _ _ (hcut hm).2
 ·intro i B cells r v N b hi hm hb'
  obtain ⟨hlt, hm⟩ := hcut hm
  exact rw.fsep i B cells r v N b hi hm (by rw [hget r hlt]; exact hb')
 ·show l.length ≤ roots
  omega
 ·intro r v B N hm
  exact st.ext r v B N (hcut hm).2
theorem resV_ok {P : Program} {C : Cx} (hti : ∀ t i, C.ti t = some i → mkTi P t = some i) {m : Mp} {H : Hp} {w : World} {base : Nat} {env : Env} {a : Act} (fr : FR m env a.tmps) (rw : RW m H w base) (g : ResultVar → Sem Value) (hg1 : ∀ t, g (.tmp t) = pure (a.tmps.getD t undef)) (hg2 : ∀ p t, g (.cell p t) = do loadVar t (← asAddr (a.tmps.getD p undef))) : ∀ (l : List ResultVar) (xs : List AV), resV C env H l = some xs →
 ∃ vs : List Value, (l.mapM g).run P w = .ok vs w ∧ VRs m xs vs
 | [], xs, h => by simp only [resV] at h; cases h; exact ⟨[], by simp, by simp [VRs]⟩
 | .tmp t :: l, xs, h => by
  simp only [resV] at h
  cases hl : resV C env H l with
  | none => rw [hl] at h; cases h
  | some ys =>
   rw [hl] at h
   cases h
   obtain ⟨vs, h1, h2⟩ := resV_ok hti fr rw g hg1 hg2 l ys hl
   refine ⟨a.tmps.getD t undef :: vs, ?_, by simp only [VRs]; exact ⟨_, _, rfl, fr.getD t, h2⟩⟩
   simp only [List.mapM_cons, hg1, Sem.run_bind, Sem.run_pure, Result.andThen_ok, h1]
 | .cell p t :: l, xs, h => by
  simp only [resV] at h
  split at h
  ·rename_i i r v off ys ht hp hl
   split at h
   ·rename_i cs hcs
    split at h
    ·rename_i x hx
     cases h
     obtain ⟨vs, h1, h2⟩ := resV_ok hti fr rw g hg1 hg2 l ys hl
     have hv := fr.getD p
     rw [hp] at hv
     have hld : ∃ c, (loadVar t (match a.tmps.getD p undef with | .pointer (some b) => b | _ => default)).run P w = .ok c w ∧ VR m x c ∧ ∃ b, a.tmps.getD p undef = .pointer (some b) := by
      have hv' := hv
      simp only [VR] at hv'
      obtain ⟨B, N, hm, e⟩ := hv'
      obtain ⟨c, hc1, hc2⟩ := op_load_run (P := P) hti ht hv hcs hx rw
      rw [e] at hc1
      rw [e]
      exact ⟨c, hc1, hc2, _, rfl⟩
     obtain ⟨c, hc1, hc2, b, hb⟩ := hld
     rw [hb] at hc1
     refine ⟨c :: vs, ?_, by simp only [VRs]; exact ⟨_, _, rfl, hc2, h2⟩⟩
     simp only [List.mapM_cons, hg2, Sem.run_bind, hb, asAddr, Sem.run_pure, Result.andThen_ok, hc1, h1]
    ·cases h
   ·cases h
  ·cases h
theorem results_ok {P : Program} {C : Cx} (hti : ∀ t i, C.ti t = some i → mkTi P t = some i) {m : Mp} {H : Hp} {w : World} {base : Nat} {env : Env} {a : Act} {fn : Func} {xs : List AV} (fr : FR m env a.tmps) (rw : RW m H w base) (h : resV C env H fn.results.toList = some xs) :
 ∃ v, (results fn a.tmps).run P w = .ok v w ∧ VR m (oneRes xs) v := by
 have key : ∀ g : ResultVar → Sem Value, (∀ t, g (.tmp t) = pure (a.tmps.getD t undef)) → (∀ p t, g (.cell p t) = do loadVar t (← asAddr (a.tmps.getD p undef))) → ∃ vs : List Value, (fn.results.mapM g).run P w = .ok vs.toArray w ∧ VRs m xs vs := by
  intro g hg1 hg2
  obtain ⟨vs, h1, h2⟩ := resV_ok (P := P) hti fr rw g hg1 hg2 _ _ h
  exact ⟨vs, by rw [Array.mapM_eq_mapM_toList, Sem.run_map, h1]; rfl, h2⟩
 unfold results
 obtain ⟨vs, hm, h2⟩ := key (fun | .tmp t => pure (a.tmps.getD t undef) | .cell p t => do loadVar t (← asAddr (a.tmps.getD p undef))) (fun _ => rfl) (fun _ _ => rfl)
 have hlen := VRs.len h2
 refine ⟨if h : vs.toArray.size = 1 then vs.toArray[0] else .tuple vs.toArray, ?_, ?_⟩
 ·rw [Sem.run_bind]
  erw [hm]
  rfl
 ·unfold oneRes
  split
  ·simp only [VRs] at h2
   obtain ⟨y, ys, rfl, h3, rfl⟩ := h2
   simpa using h3
  ·rename_i hne
   have : ¬ vs.toArray.size = 1 := by
    intro e
    have e1 : xs.length = 1 := by simpa [hlen] using e
    obtain ⟨x, hx⟩ := List.length_eq_one_iff.1 e1
    exact hne x hx
   rw [dif_neg this]
   simp only [VR]
   exact ⟨_, rfl, by simpa using h2⟩
theorem oT {r : R} {xs : List AV} {v : AV} (hn0 : X.n0 = 0) (hfin : X.fin r = H0) (hr : resV X.C env H X.fn.results.toList = some xs) (hz : FzG H [oneRes xs] [v]) (hv : X.enc r = v) : Ok X .fin env H (some r) := by
 intro r' e m0 w0 b0 m w a h0 fr hnt hd rw st
 cases e
 have hnone : ∀ r v, m0 r v = none := by
  intro r v
  cases e : m0 r v with
  | none => rfl
  | some p => have := h0.1 r v p e; omega
 obtain ⟨c, h1, h2⟩ := results_ok (P := X.P) X.hti fr rw hr
 have hF : FOk m.froz m.froz w b0 := by
  refine ⟨fun i B cells hi => rw.frz i B cells hi, rw.ffin, fun i B cells h => .inl h, fun _ _ h => h⟩
 obtain ⟨F', g1, g2, g3⟩ := fz_ok rw hz hF (cs := [c]) (by simp only [VRs]; exact ⟨c, [], rfl, h2, rfl⟩)
 simp only [VRs] at g3
 obtain ⟨c', cs', e, g3, _⟩ := g3
 cases e
 have fin : ∃ m' c', Ending.returned c = .returned c' ∧ RW m' (X.fin r) w b0 ∧ St m0 w0 b0 m' w ∧ VR m' (X.enc r) c' := by
  rw [hfin]
  refine ⟨⟨fun _ _ => none, F'⟩, c, rfl, ⟨?_, ?_, ?_, fun _ _ => rfl, ?_, g1.ok, ?_, g1.fin, rw.base_le, by show 0 ≤ roots; unfold roots; omega⟩, ⟨⟨fun r v q hq => (by rw [hnone] at hq; cases hq), fun i p hp => g2 i p (st.sub.2 i p hp)⟩, ?_, ?_, st.size, st.os, st.tape, st.output, st.same⟩, by rw [hv]; exact g3⟩
  ·intro r b v B N hb hm; cases hm
  ·intro r v B N hm; cases hm
  ·intro r v B N r' v' N' hm; cases hm
  ·intro r v B N hm; cases hm
  ·intro i B cells r v N b _ hm; cases hm
  ·intro r v B N hm; cases hm
  ·intro i B cells hi
   rcases g1.new i B cells hi with h | h
   ·exact st.fext i B cells h
   ·exact .inr h
 exact ⟨⟨hd, c, h1, fin⟩, ⟨hd, c, h1, fin⟩⟩
theorem look_args0 : ∀ (xs : List AV) (i t : Nat), look (args0 i xs) t = if i ≤ t then (xs[t - i]?).getD .top else .top
 | [], i, t => by simp [args0, look_nil]
 | x :: xs, i, t => by
  rw [args0, look_put, look_args0 xs (i + 1) t]
  by_cases e : i = t
  ·subst e; simp
  ·rw [if_neg e]
   by_cases h : i ≤ t
   ·rw [if_pos (by omega), if_pos h, show t - i = (t - (i + 1)) + 1 by omega]; simp
   ·rw [if_neg (by omega), if_neg h]
theorem FR_args {m : Mp} {xs : List AV} {args rest : Array Value} (h : VRs m xs args.toList) : FR m (args0 0 xs) (args ++ rest) := by
 intro t ht
 rw [look_args0] at ht ⊢
 simp only [Nat.zero_le, if_true, Nat.sub_zero] at ht ⊢
 cases hx : xs[t]? with
 | none => rw [hx] at ht; exact absurd rfl ht
 | some x =>
  obtain ⟨c, hc, hv⟩ := VRs.get h t x hx
  rw [Array.getElem?_toList] at hc
  obtain ⟨hlt, _⟩ := Array.getElem?_eq_some_iff.1 hc
  exact ⟨c, by rw [Array.getElem?_append_left hlt]; exact hc, by simpa using hv⟩
def bodyAt (fn : Func) : Pt := match fn.body with | some c => .code c [] | none => .fin
theorem pure_of (X : Fx R) {f : Nat} (hfin : ∀ r, X.fin r = H0) (hf : X.P.funcs[f]? = some X.fn) (hn : (X.fn.name == "runtime.NumGoroutine") = false) (hb : X.fn.body.isSome = true) {xs : List AV} {t : Option R} (h : Ok X (bodyAt X.fn) (args0 0 xs) (mkH []) t) {r : R} (ht : t = some r) : PureOk X.P f xs (X.enc r) := by
 refine ⟨?_, X.fn, hf, hn, hb⟩
 intro m0 w args h0 hargs rw
 cases hc : X.fn.body with
 | none => rw [hc] at hb; cases hb
 | some c =>
  have e : bodyAt X.fn = .code c [] := by simp [bodyAt, hc]
  rw [e] at h
  have := h r ht m0 w w.heap.size m0 w { tmps := args ++ Array.replicate (X.fn.ntmps - args.size) undef, defers := [] } ⟨fun r v p e => (by rw [h0] at e; cases e), Nat.le_refl _⟩ (FR_args hargs) (by simp; omega) rfl rw (St.refl _ _ _)
  have e2 : Ret X r m0 w w.heap.size = bodyPost X.P X.fn fun x w' => ∃ m' c, x = .returned c ∧ RW m' H0 w' w.heap.size ∧ St m0 w w.heap.size m' w' ∧ VR m' (X.enc r) c := by unfold Ret; rw [hfin]
  rw [e2] at this
  exact calls_of_wp hf hc this
end
end Go.Proofs.Ytnikdnchoahngaa.Am
set_option linter.unusedVariables false
set_option linter.unusedSimpArgs false
namespace Go.Proofs.Ytnikdnchoahngaa.Am
open Go
def nthS (s : List Nat) (k : Int) : Option Int := if 0 ≤ k then (match s[k.toNat]? with | some b => some (b : Int) | none => none) else none
theorem idxH {e : Option (AV × Hp)} {s : List Nat} {k : Int} {H : Hp} (h : e = (if 0 ≤ k then (match s[k.toNat]? with | some b => some (AV.int .u8 (b : Int), H) | none => none) else none)) : e = (nthS s k).map fun c => (AV.int .u8 c, H) := by
 rw [h]; unfold nthS
 split
 ·cases s[k.toNat]? <;> rfl
 ·rfl
def bnd (x : Option Int) (y d : Nat) : Option Nat := match x with | none => some d | some i => if 0 ≤ i ∧ i ≤ y then some i.toNat else none
def subL {α : Type} (l : List α) (lo hi : Option Int) : Option (List α) :=
 match bnd hi l.length l.length with
 | some h => (match bnd lo h 0 with | some b => some ((l.take h).drop b) | none => none)
 | none => none
theorem boundO_bnd (x : Option Int) (k : IntKind) (y d : Nat) : boundO (x.map (AV.int k)) y d = bnd x y d := by cases x <;> rfl
theorem subH {e : Option (AV × Hp)} {s : List Nat} (lo hi : Option Int) {H : Hp} (h : e = (match boundO (hi.map (AV.int .i64)) s.length s.length with | some h => (match boundO (lo.map (AV.int .i64)) h 0 with | some l => some (AV.str ((s.take h).drop l)) | none => none) | none => none).map fun v => (v, H)) : e = (subL s lo hi).map fun x => (AV.str x, H) := by
 rw [h, boundO_bnd]; unfold subL
 cases bnd hi s.length s.length with
 | none => rfl
 | some h =>
  simp only
  rw [boundO_bnd]
  cases bnd lo h 0 <;> rfl
def catS (a b : List Nat) : Option (List Nat) := if a.length + b.length < 2 ^ 40 then some (a ++ b) else none
theorem catH {e : Option (AV × Hp)} {a b : List Nat} {H : Hp} (h : e = (if a.length + b.length < 2 ^ 40 then some (AV.str (a ++ b)) else none).map fun v => (v, H)) : e = (catS a b).map fun x => (AV.str x, H) := by
 rw [h]; unfold catS; split <;> rfl
def nthL {α : Type} (l : List α) (k : Int) : Option α := if 0 ≤ k then l[k.toNat]? else none
theorem flatMap_at {α : Type} {enc : α → List AV} {sz : Nat} (h : ∀ x, (enc x).length = sz) : ∀ (l : List α) (k : Nat) (x : α), l[k]? = some x → ((l.flatMap enc).drop (k * sz)).take sz = enc x
 | [], k, x, e => by simp at e
 | y :: l, k, x, e => by
  rw [List.flatMap_cons]
  cases k with
  | zero =>
   simp at e
   subst e
   rw [Nat.zero_mul, List.drop_zero, List.take_append_of_le_length (by rw [h]; exact Nat.le_refl _), List.take_of_length_le (by rw [h]; exact Nat.le_refl _)]
  | succ k =>
   rw [List.drop_append, List.drop_of_length_le (by rw [h, Nat.add_mul]; omega), List.nil_append, h, show (k + 1) * sz - sz = k * sz by rw [Nat.add_mul]; omega]
   exact flatMap_at h l k x (by simpa using e)
theorem vidxH {α : Type} {enc : α → List AV} {sz : Nat} (hsz : ∀ x, (enc x).length = sz) {e : Option (AV × Hp)} {l : List α} {k : Int} {H : Hp} (h : e = (if sz = sz ∧ 0 ≤ k ∧ k < ((l.length : Nat) : Int) then some (AV.vptr (((l.flatMap enc).drop (k.toNat * sz)).take sz), H) else none)) : e = (nthL l k).map fun x => (AV.vptr (enc x), H) := by
 rw [h]; unfold nthL
 by_cases h0 : 0 ≤ k
 ·rw [if_pos h0]
  by_cases h1 : k < (l.length : Int)
  ·rw [if_pos ⟨rfl, h0, h1⟩]
   have hlt : k.toNat < l.length := by omega
   rw [List.getElem?_eq_getElem hlt, flatMap_at hsz l k.toNat _ (List.getElem?_eq_getElem hlt)]
   rfl
  ·rw [if_neg (fun hh => h1 hh.2.2), List.getElem?_eq_none (by omega)]
   rfl
 ·rw [if_neg (fun hh => h0 hh.2.1), if_neg h0]; rfl
def remS (x y : Int) : Option Int := if y = 0 then none else some (x.tmod y)
theorem remH {e : Option (AV × Hp)} {k : IntKind} {x y : Int} {H : Hp} (h : e = (if y = 0 then none else some (AV.int k (x.tmod y))).map fun v => (v, H)) : e = (remS x y).map fun v => (AV.int k v, H) := by
 rw [h]; unfold remS; split <;> rfl
def ctl1 : Pt → Pt
 | .ops _ _ K => resume K
 | .loop b K => .code b (.loop b :: K)
 | .fin => .fin
 | .code c K => match c with
  | .seq a b => .code a (.seq b :: K)
  | .skip => resume K
  | .label _ => resume K
  | .block id b => .code b (.block id :: K)
  | .scope b => .code b (.scope b :: K)
  | .loop b => .loop b K
  | .exit id => match exitK id K with | some q => q | none => .fin
  | .goto l => match gotoK l K with | some q => q | none => .fin
  | .ret => .fin
  | .region id ops draw => bif draw then resume K else .ops ops 0 K
  | _ => .fin
def nav : List Nat → Pt → Pt
 | [], p => p
 | 0 :: l, p => nav l (ctl1 p)
 | 1 :: l, .code (.cond _ x _) K => nav l (.code x K)
 | _ :: l, .code (.cond _ _ y) K => nav l (.code y K)
 | _ :: _, p => p
def atN (n : Nat) : Pt → Pt
 | .ops ops _ K => .ops ops n K
 | p => p
def Mp.out (m : Mp) (n : Nat) (F : Nat → Option (Nat × List AV)) : Mp := ⟨fun r v => if r = n then none else m r v, F⟩
def toS : List Int → Option (List Nat)
 | [] => some []
 | n :: r => match toS r with | some l => if 0 ≤ n ∧ n ≤ 255 then some (n.toNat :: l) else none | none => none
theorem bytesOf_toS : ∀ l : List Int, bytesOf (l.map (AV.int .u8)) = toS l
 | [] => rfl
 | n :: r => by
  simp only [List.map_cons, bytesOf, toS, bytesOf_toS r]
  cases toS r <;> rfl
theorem toSE (l : List Int) {e : Option (AV × Hp)} {H : Hp} (h : e = (match bytesOf (l.map (AV.int .u8)) with | some l => some (AV.str l, H) | none => none)) : e = (toS l).map fun x => (AV.str x, H) := by
 rw [h, bytesOf_toS]
 cases toS l <;> rfl
end Go.Proofs.Ytnikdnchoahngaa.Am
set_option linter.unusedVariables false
namespace Go.Proofs.Ytnikdnchoahngaa.Am
open Go
def PT.allB {α : Type} (p : Nat → α → Bool) : PT α → (Nat → Nat) → Bool
 | .nil, _ => true
 | .node l b r, g => (match b with | some x => p (g 0) x | none => true) && l.allB p (fun n => g (2 * n + 1)) && r.allB p (fun n => g (2 * n + 2))
theorem PT.allB_get {α : Type} {p : Nat → α → Bool} : ∀ (t : PT α) (g : Nat → Nat), t.allB p g = true → ∀ (n : Nat) (x : α), t.get n = some x → p (g n) x = true
 | .nil, g, _, n, x, h => by cases h
 | .node l b r, g, hh, n, x, h => by
  simp only [PT.allB, Bool.and_eq_true] at hh
  obtain ⟨⟨h1, h2⟩, h3⟩ := hh
  rw [PT.get_node] at h
  by_cases h0 : n = 0
  ·rw [if_pos h0] at h
   subst h0
   subst h
   exact h1
  ·rw [if_neg h0] at h
   by_cases hm : n % 2 = 1
   ·rw [if_pos hm] at h
    have := PT.allB_get l _ h2 _ _ h
    rwa [show 2 * (n / 2) + 1 = n by omega] at this
   ·rw [if_neg hm] at h
    have := PT.allB_get r _ h3 _ _ h
    rwa [show 2 * (n / 2 - 1) + 2 = n by omega] at this
def beqZ : AV → AV → Bool
 | .top, .top => true
 | .int k n, .int k' n' => decide (k = k') && decide (n = n')
 | .bool a, .bool b => a == b
 | .str a, .str b => eqL a b
 | .nilp, .nilp => true
 | .nils, .nils => true
 | .nilf, .nilf => true
 | .nili, .nili => true
 | _, _ => false
theorem beqZ_eq {x y : AV} (h : beqZ x y = true) : x = y := by
 cases x <;> cases y <;> simp [beqZ, eqL_iff] at h ⊢ <;> exact h
def beqZs : List AV → List AV → Bool
 | [], [] => true
 | a :: x, b :: y => beqZ a b && beqZs x y
 | _, _ => false
theorem beqZs_eq : ∀ (x y : List AV), beqZs x y = true → x = y
 | [], [], _ => rfl
 | [], _ :: _, h => by simp [beqZs] at h
 | _ :: _, [], h => by simp [beqZs] at h
 | a :: x, b :: y, h => by
  simp only [beqZs, Bool.and_eq_true] at h
  rw [beqZ_eq h.1, beqZs_eq x y h.2]
def beqTi (i j : Ti) : Bool :=
 Nat.beq i.size j.size && Nat.beq i.bytes j.bytes && (match i.zero, j.zero with | some a, some b => beqZs a b | none, none => true | _, _ => false) && decide (i.kind = j.kind) && decide (i.fields = j.fields) && Nat.beq i.elem j.elem && Nat.beq i.len j.len && decide (i.flat = j.flat)
theorem beqTi_eq {i j : Ti} (h : beqTi i j = true) : i = j := by
 obtain ⟨a1, a2, a3, a4, a5, a6, a7, a8⟩ := i
 obtain ⟨b1, b2, b3, b4, b5, b6, b7, b8⟩ := j
 simp only [beqTi, Bool.and_eq_true, decide_eq_true_eq] at h
 obtain ⟨⟨⟨⟨⟨⟨⟨h1, h2⟩, h3⟩, h4⟩, h5⟩, h6⟩, h7⟩, h8⟩ := h
 have h1 := Nat.eq_of_beq_eq_true h1
 have h2 := Nat.eq_of_beq_eq_true h2
 have h6 := Nat.eq_of_beq_eq_true h6
 have h7 := Nat.eq_of_beq_eq_true h7
 have h3' : a3 = b3 := by
  cases a3 <;> cases b3 <;> simp only at h3 <;> first | rfl | cases h3 | exact congrArg some (beqZs_eq _ _ h3)
 subst h1 h2 h3' h4 h5 h6 h7 h8
 rfl
def tiOk (P : Program) (t : Nat) (i : Ti) : Bool := match mkTi P t with | some j => beqTi i j | none => false
theorem tiOk_eq {P : Program} {t : Nat} {i : Ti} (h : tiOk P t i = true) : mkTi P t = some i := by
 unfold tiOk at h
 split at h
 ·rename_i j hj
  rw [hj, beqTi_eq h]
 ·cases h
end Go.Proofs.Ytnikdnchoahngaa.Am
set_option linter.unusedVariables false
set_option linter.unusedSimpArgs false
namespace Go.Proofs.Ytnikdnchoahngaa.Am
open Go
def It (d : Nat) (s : ByteArray) (pos base : Nat) (m : Mp) (w : World) (a : Act) : Prop :=
 ∃ B, a.tmps[d]? = some (.pointer (some ⟨B, 0, none⟩)) ∧ w.heap[B]? = some (.stringIter s pos) ∧ base ≤ B ∧ ∀ r v N, m r v ≠ some (B, N)
section
variable {R : Type} (X : Fx R)
end
section
variable {R : Type} {X : Fx R} {p p' : Pt} {env eE : Env} {H H' : Hp} {d pos : Nat} {s : ByteArray}
def dneq (o : Oper) (d : Nat) : Bool := match o.dst with | some e => !Nat.beq e d | none => true
theorem It.put {base : Nat} {m : Mp} {w : World} {a : Act} {o : Oper} (c : Value) (hd : dneq o d = true) (it : It d s pos base m w a) : It d s pos base m w (a.put o.dst c) := by
 obtain ⟨B, h1, h2, h3, h4⟩ := it
 refine ⟨B, ?_, h2, h3, h4⟩
 unfold dneq at hd
 cases ho : o.dst with
 | none => exact h1
 | some e =>
  rw [ho] at hd
  simp only [Act.put]
  rw [Array.getElem?_setIfInBounds_ne]
  ·exact h1
  ·rintro rfl; simp at hd
theorem It.step {base b0 : Nat} {m m' : Mp} {w w' : World} {a : Act} (st : St m w b0 m' w') (it : It d s pos base m w a) : It d s pos base m' w' a := by
 obtain ⟨B, h1, h2, h3, h4⟩ := it
 have hlt : B < w.heap.size := (Array.getElem?_eq_some_iff.1 h2).1
 refine ⟨B, h1, by rw [st.same B hlt (fun r v N e => absurd e (h4 r v N))]; exact h2, h3, ?_⟩
 intro r v N e
 rcases st.ext r v B N e with ⟨v0, N0, e0⟩ | hB
 ·exact h4 r v0 N0 e0
 ·omega
end
end Go.Proofs.Ytnikdnchoahngaa.Am
set_option maxRecDepth 100000
namespace Go.Proofs.Ytnikdnchoahngaa.Am
noncomputable section
open Go
def tyT : PT Ti := (.node (.node (.node (.node (.node (.node (.node .nil (some ⟨1, 4, (some [.int .i32 0]), .int .i32, [], 0, 0, none⟩) .nil) (some ⟨1, 8, (some [.nilf]), .other, [], 0, 0, none⟩) .nil) (some ⟨1, 8, (some [.nilp]), .pointer, [], 53, 0, none⟩) (.node .nil (some ⟨10, 80, (some [.int .i64 0, .int .i64 0, .int .i64 0, .int .i64 0, .int .i64 0, .int .i64 0, .int .i64 0, .int .i64 0, .int .i64 0, .int .i64 0]), .array, [], 3, 10, (some (List.replicate 10 (.int .i64)))⟩) .nil)) (some ⟨4, 24, (some [.int .i64 0, .int .i64 0, .bool false, .int .u8 0]), .struct, [(0, 2), (1, 3), (2, 4), (3, 6)], 0, 0, (some [(.int .i64), (.int .i64), .bool, (.int .u8)])⟩) (.node (.node .nil (some ⟨1, 8, (some [.nilf]), .other, [], 0, 0, none⟩) .nil) (some ⟨1, 8, (some [.nilf]), .other, [], 0, 0, none⟩) (.node .nil (some ⟨0, 0, (some []), .struct, [(0, 54)], 0, 0, none⟩) .nil))) (some ⟨1, 8, (some [.int .i64 0]), .int .i64, [], 0, 0, none⟩) (.node (.node (.node (.node .nil (some ⟨1, 8, (some [.nilp]), .other, [], 0, 0, none⟩) .nil) (some ⟨1, 8, (some [.nilf]), .other, [], 0, 0, none⟩) .nil) (some ⟨1, 8, (some [.nilp]), .struct, [(0, 17)], 0, 0, none⟩) (.node .nil (some ⟨1, 8, (some [.nilf]), .other, [], 0, 0, none⟩) .nil)) (some ⟨1, 16, (some [.str []]), .string, [], 0, 0, none⟩) (.node (.node .nil (some ⟨1, 8, (some [.nilf]), .other, [], 0, 0, none⟩) .nil) (some ⟨1, 24, (some [.nils]), .slice, [], 5, 0, none⟩) (.node .nil (some ⟨1, 1, (some [.int .u8 0]), .int .u8, [], 0, 0, none⟩) .nil)))) (some ⟨1, 8, (some [.nilf]), .other, [], 0, 0, none⟩) (.node (.node (.node (.node (.node .nil (some ⟨11, 48, (some [.int .u64 0, .int .u64 0, .int .u32 0, .int .u8 0, .int .u8 0, .int .u8 0, .int .u8 0, .nilf, .nilp, .int .i32 0, .int .i32 0]), .struct, [(0, 12), (1, 12), (2, 58), (3, 59), (4, 5), (5, 5), (6, 60), (7, 61), (8, 62), (9, 63), (10, 64)], 0, 0, none⟩) .nil) (some ⟨1, 8, (some [.nilf]), .other, [], 0, 0, none⟩) .nil) (some ⟨1, 8, (some [.nilp]), .pointer, [], 66, 0, none⟩) (.node .nil (some ⟨2, 2, (some [.int .u8 0, .int .u8 0]), .array, [], 5, 2, (some (List.replicate 2 (.int .u8)))⟩) .nil)) (some ⟨1, 16, (some [.str []]), .string, [], 0, 0, none⟩) (.node (.node .nil (some ⟨1, 8, (some [.nilf]), .other, [], 0, 0, none⟩) .nil) (some ⟨1, 8, (some [.nilf]), .other, [], 0, 0, none⟩) (.node .nil (some ⟨1, 8, (some [.nilf]), .other, [], 0, 0, none⟩) .nil))) (some ⟨1, 1, (some [.int .u8 0]), .int .u8, [], 0, 0, none⟩) (.node (.node (.node .nil (some ⟨3, 32, (some [.int .i64 0, .str [], .int .i64 0]), .struct, [(0, 3), (1, 9), (2, 3)], 0, 0, (some [(.int .i64), .string, (.int .i64)])⟩) .nil) (some ⟨1, 4, (some [.int .i32 0]), .int .i32, [], 0, 0, none⟩) (.node .nil (some ⟨4, 40, (some [.nilp, .nilp, .nilp, .str []]), .struct, [(0, 17), (1, 17), (2, 17), (3, 9)], 0, 0, none⟩) .nil)) (some ⟨2, 24, (some [.str [], .int .u64 0]), .struct, [(0, 9), (1, 12)], 0, 0, none⟩) (.node (.node .nil (some ⟨1, 8, (some [.nilf]), .other, [], 0, 0, none⟩) .nil) (some ⟨1, 24, (some [.nils]), .slice, [], 9, 0, none⟩) (.node .nil (some ⟨1, 8, (some [.nilf]), .other, [], 0, 0, none⟩) .nil))))) (some ⟨1, 0, (some [.top]), .other, [], 0, 0, none⟩) (.node (.node (.node (.node (.node (.node .nil (some ⟨1, 4, (some [.int .i32 0]), .int .i32, [], 0, 0, none⟩) .nil) (some ⟨1, 24, (some [.nils]), .slice, [], 3, 0, none⟩) .nil) (some ⟨1, 8, (some [.nilp]), .pointer, [], 56, 0, none⟩) (.node .nil (some ⟨3, 3, (some [.int .u8 0, .int .u8 0, .int .u8 0]), .array, [], 5, 3, (some (List.replicate 3 (.int .u8)))⟩) .nil)) (some ⟨4, 24, (some [.int .i64 0, .int .i64 0, .bool false, .int .u8 0]), .struct, [(0, 2), (1, 3), (2, 4), (3, 6)], 0, 0, (some [(.int .i64), (.int .i64), .bool, (.int .u8)])⟩) (.node (.node .nil (some ⟨1, 8, (some [.nilf]), .other, [], 0, 0, none⟩) .nil) (some ⟨1, 8, (some [.nilf]), .other, [], 0, 0, none⟩) (.node .nil (some ⟨0, 0, (some []), .struct, [(0, 54)], 0, 0, none⟩) .nil))) (some ⟨1, 1, (some [.bool false]), .bool, [], 0, 0, none⟩) (.node (.node (.node .nil (some ⟨1, 8, (some [.nilf]), .other, [], 0, 0, none⟩) .nil) (some ⟨1, 16, (some [.nili]), .iface, [], 0, 0, none⟩) (.node .nil (some ⟨4, 40, (some [.nilp, .nilp, .nilp, .str []]), .struct, [(0, 17), (1, 17), (2, 17), (3, 9)], 0, 0, none⟩) .nil)) (some ⟨1, 8, (some [.int .u64 0]), .int .u64, [], 0, 0, none⟩) (.node (.node .nil (some ⟨9, 216, (some [.nils, .nils, .nils, .nils, .nils, .nils, .nils, .nils, .nils]), .array, [], 29, 9, (some (List.replicate 9 .slice))⟩) .nil) (some ⟨1, 8, (some [.nilf]), .other, [], 0, 0, none⟩) (.node .nil (some ⟨1, 1, (some [.int .u8 0]), .int .u8, [], 0, 0, none⟩) .nil)))) (some ⟨1, 8, (some [.int .i64 0]), .int .i64, [], 0, 0, none⟩) (.node (.node (.node (.node (.node .nil (some ⟨11, 48, (some [.int .u64 0, .int .u64 0, .int .u32 0, .int .u8 0, .int .u8 0, .int .u8 0, .int .u8 0, .nilf, .nilp, .int .i32 0, .int .i32 0]), .struct, [(0, 12), (1, 12), (2, 58), (3, 59), (4, 5), (5, 5), (6, 60), (7, 61), (8, 62), (9, 63), (10, 64)], 0, 0, none⟩) .nil) (some ⟨1, 8, (some [.nilf]), .other, [], 0, 0, none⟩) .nil) (some ⟨1, 8, (some [.nilp]), .struct, [(0, 17)], 0, 0, none⟩) (.node .nil (some ⟨1, 8, (some [.nilf]), .other, [], 0, 0, none⟩) .nil)) (some ⟨1, 16, (some [.str []]), .string, [], 0, 0, none⟩) (.node (.node .nil (some ⟨1, 8, (some [.nilf]), .other, [], 0, 0, none⟩) .nil) (some ⟨1, 8, (some [.nilf]), .other, [], 0, 0, none⟩) (.node .nil (some ⟨1, 4, (some [.int .u32 0]), .int .u32, [], 0, 0, none⟩) .nil))) (some ⟨1, 1, (some [.int .u8 0]), .int .u8, [], 0, 0, none⟩) (.node (.node (.node .nil (some ⟨3, 32, (some [.int .i64 0, .str [], .int .i64 0]), .struct, [(0, 3), (1, 9), (2, 3)], 0, 0, (some [(.int .i64), .string, (.int .i64)])⟩) .nil) (some ⟨1, 8, (some [.nilf]), .other, [], 0, 0, none⟩) (.node .nil (some ⟨0, 0, (some []), .array, [], 16, 0, (some (List.replicate 0 .pointer))⟩) .nil)) (some ⟨2, 24, (some [.str [], .int .u64 0]), .struct, [(0, 9), (1, 12)], 0, 0, none⟩) (.node (.node .nil (some ⟨1, 24, (some [.nils]), .slice, [], 29, 0, none⟩) .nil) (some ⟨1, 8, (some [.int .u64 0]), .int .u64, [], 0, 0, none⟩) (.node .nil (some ⟨1, 8, (some [.nilp]), .pointer, [], 5, 0, none⟩) .nil))))))
theorem tyOk : tyT.allB (tiOk Try.prog) id = true := by decide +kernel
def cx : Cx := ⟨tyT.get⟩
theorem cxTi : ∀ t i, cx.ti t = some i → mkTi Try.prog t = some i := fun t i h => tiOk_eq (PT.allB_get tyT id tyOk t i h)
theorem cxOrd : Try.prog.follows .mixedOrders = true := by decide +kernel
end
end Go.Proofs.Ytnikdnchoahngaa.Am
set_option linter.unusedVariables false
namespace Go.Proofs.Ytnikdnchoahngaa.Am
open Go
def e2 (x : Int) : List AV := [.int .i64 x]
def v2 (x : Int) : AV := .int .i64 x
def e3 (x : Int) : List AV := [.int .i64 x]
theorem e3_len : ∀ x, (e3 x).length = 1 := fun _ => rfl
def e4 (x : Bool) : List AV := [.bool x]
def e5 (x : Int) : List AV := [.int .u8 x]
end Go.Proofs.Ytnikdnchoahngaa.Am
set_option linter.unusedVariables false
namespace Go.Proofs.Ytnikdnchoahngaa.Am
open Go
theorem fw64 (n : Int) (h1 : -9223372036854775808 ≤ n) (h2 : n ≤ 9223372036854775807) : fW .i64 n = n := by
 have h1 : lo .i64 ≤ n := h1
 have h2 : n ≤ hi .i64 := h2
 unfold fW
 rw [if_pos (by simp [h1, h2])]
theorem fwrap_u64 (n : Int) : fW .u64 n = n % 18446744073709551616 := by
 rw [fwrap_eq]; simp [IntKind.wrap, IntKind.bits, IntKind.signed]
theorem rem_at (a : Int) (q : Nat) (h0 : 0 < q) (hq : q < 18446744073709551616) : ∃ i : Nat, i < q ∧ remS (fW .u64 a) (fW .u64 (q : Int)) = some (i : Int) ∧ remS (fW .u64 (i : Int)) (fW .u64 (q : Int)) = some (i : Int) := by
 have e1 : fW .u64 (q : Int) = q := by rw [fwrap_u64]; omega
 have e2 : 0 ≤ fW .u64 a := by rw [fwrap_u64]; omega
 have hne : ¬ (q : Int) = 0 := by omega
 have h1 : 0 ≤ (fW .u64 a) % (q : Int) := Int.emod_nonneg _ hne
 have h2 : (fW .u64 a) % (q : Int) < q := Int.emod_lt_of_pos _ (by omega)
 refine ⟨((fW .u64 a) % (q : Int)).toNat, by omega, ?_, ?_⟩
 ·rw [e1]; unfold remS
  rw [if_neg hne, Int.tmod_eq_emod_of_nonneg e2]
  congr 1; omega
 ·rw [e1]; unfold remS
  have e3 : fW .u64 ((((fW .u64 a) % (q : Int)).toNat : Nat) : Int) = (fW .u64 a) % (q : Int) := by rw [fwrap_u64]; omega
  rw [e3, if_neg hne, Int.tmod_eq_emod_of_nonneg h1, Int.emod_emod_of_dvd _ (Int.dvd_refl _)]
  congr 1; omega
theorem tmod_at (a : Int) (q : Nat) (h0 : 0 < q) (hq : q < 18446744073709551616) : ∃ i : Nat, i < q ∧ (fW .u64 a).tmod (q : Int) = (i : Int) ∧ (fW .u64 (i : Int)).tmod (q : Int) = (i : Int) := by
 obtain ⟨i, h1, h2, h3⟩ := rem_at a q h0 hq
 have e1 : fW .u64 (q : Int) = q := by rw [fwrap_u64]; omega
 rw [e1] at h2 h3
 unfold remS at h2 h3
 rw [if_neg (by omega)] at h2 h3
 exact ⟨i, h1, Option.some.inj h2, Option.some.inj h3⟩
end Go.Proofs.Ytnikdnchoahngaa.Am
set_option linter.unusedVariables false
set_option linter.unusedSimpArgs false
namespace Go.Proofs.Ytnikdnchoahngaa.Am
open Go
theorem dT {p : Prop} [Decidable p] (h : p) : decide p = true := decide_eq_true h
theorem dF {p : Prop} [Decidable p] (h : ¬ p) : decide p = false := decide_eq_false h
theorem fwI {n : Int} (h1 : -9223372036854775808 ≤ n) (h2 : n ≤ 9223372036854775807) : fW .i64 n = n := fw64 n h1 h2
theorem bS {α β : Type} {x : Option α} {a : α} {f : α → Option β} {r : Option β} (h : x = some a) (k : f a = r) : x.bind f = r := by rw [h]; exact k
theorem jS {α β : Type} {f : α → Option β} {g : (α → Option β) → Option β} {v : α} (h : ∀ j : α → Option β, g j = j v) : jn f g = f v := h f
theorem iT {α : Type} {c : Bool} {A B r : α} (h : c = true) (k : A = r) : (if c then A else B) = r := by rw [h]; exact k
theorem iF {α : Type} {c : Bool} {A B r : α} (h : c = false) (k : B = r) : (if c then A else B) = r := by rw [h]; exact k
theorem fw_s {n : Nat} (h : n < 300000000000000) : fW .i64 ((n : Int) + 1) = ((n + 1 : Nat) : Int) := by rw [fwI (by omega) (by omega)]; omega
theorem byteAll {f : Nat → Bool} (h : ((List.range 256).all f) = true) {c : Nat} (hc : c < 256) : f c = true := List.all_eq_true.1 h c (List.mem_range.2 hc)
abbrev By (s : List Nat) : Prop := ∀ b ∈ s, b < 256
theorem By.drop {s : List Nat} (h : By s) (n : Nat) : By (s.drop n) := fun b hb => h b (List.mem_of_mem_drop hb)
theorem By.take {s : List Nat} (h : By s) (n : Nat) : By (s.take n) := fun b hb => h b (List.mem_of_mem_take hb)
theorem By.app {a b : List Nat} (ha : By a) (hb : By b) : By (a ++ b) := fun c hc => (List.mem_append.1 hc).elim (ha c) (hb c)
theorem By.tail {c : Nat} {r : List Nat} (h : By (c :: r)) : By r := fun b hb => h b (List.mem_cons_of_mem _ hb)
theorem By.head {c : Nat} {r : List Nat} (h : By (c :: r)) : c < 256 := h c List.mem_cons_self
theorem nthX {s : List Nat} {x : Int} {i b : Nat} {r : List Nat} (hx : x = (i : Int)) (h : s.drop i = b :: r) : nthS s x = some (b : Int) := by
 subst hx
 have e : s[i]? = some b := by
  have := List.getElem?_drop (xs := s) (i := i) (j := 0)
  rw [h] at this
  simpa using this.symm
 unfold nthS
 rw [if_pos (by omega)]
 simp [e]
theorem subFrom {s : List Nat} {x : Int} {i : Nat} (hx : x = (i : Int)) (h : i ≤ s.length) : subL s (some x) none = some (s.drop i) := by
 subst hx; unfold subL bnd; simp [h]
theorem subTo {s : List Nat} {x : Int} {i : Nat} (hx : x = (i : Int)) (h : i ≤ s.length) : subL s none (some x) = some (s.take i) := by
 subst hx; unfold subL bnd; simp [h]
theorem drop_step {s : List Nat} {i c : Nat} {r : List Nat} (h : s.drop i = c :: r) : s.drop (i + 1) = r := by
 rw [← List.drop_drop, h]; rfl
theorem drop_len {s : List Nat} {i c : Nat} {r : List Nat} (h : s.drop i = c :: r) : r.length + i + 1 = s.length := by
 have := congrArg List.length h
 rw [List.length_drop, List.length_cons] at this; omega
theorem drop_mem {s : List Nat} {i c : Nat} {r : List Nat} (h : s.drop i = c :: r) : c ∈ s := List.mem_of_mem_drop (i := i) (by rw [h]; exact List.mem_cons_self)
end Go.Proofs.Ytnikdnchoahngaa.Am
set_option maxRecDepth 100000
set_option linter.unusedVariables false
namespace Go.Proofs.Ytnikdnchoahngaa.Am
noncomputable section
open Go
def X43 : Fx Bool := ⟨Try.prog, cx, Try.f43, fun r => .bool r, 0, fun _ => H0, cxTi, cxOrd⟩
def g43p0 : Pt := nav [0] (bodyAt Try.f43)
def g43p1 : Pt := nav [0, 0, 0] g43p0
def g43 (k : Nat) (a0 : Int) (a1 : Int) (a2 : Int) : Option Bool :=
 if (decide (a1 ≤ a0)) then (some (decide (a0 ≤ a2))) else (some false)
theorem g43_ok (k : Nat) (a0 : Int) (a1 : Int) (a2 : Int) (r : Bool) (h : g43 k a0 a1 a2 = some r) : PureOk Try.prog 43 [.int .u8 a0, .int .u8 a1, .int .u8 a2] (.bool r) := by
 refine pure_of X43 (fun _ => rfl) Try.func43 (by decide +kernel) (by kernel_rfl) (t := g43 k a0 a1 a2) ?_ h
 unfold g43
 refine oE (eE := [(0, .int .u8 a0), (1, .int .u8 a1), (2, .int .u8 a2)]) (by kernel_rfl) ?_
 let E1 : Env := [(10, .bool (decide (a1 ≤ a0))), (9, .bool (decide (a1 ≤ a0))), (8, .int .u8 a1), (7, .int .u8 a0), (6, .bool false), (0, .int .u8 a0), (1, .int .u8 a1), (2, .int .u8 a2)]
 refine oR 10 (p' := (atN 4 (ctl1 g43p1))) (eE := E1) (H' := (mkH [])) (by kernel_rfl) ?_
 refine oS 10 (b := decide (a1 ≤ a0)) (by kernel_rfl) (fun hb => ?_) (fun hb => ?_)
 ·let E2 : Env := ((6, .bool (decide (a0 ≤ a2))) :: (14, .bool (decide (a0 ≤ a2))) :: (13, .bool (decide (a0 ≤ a2))) :: (12, .int .u8 a2) :: (11, .int .u8 a0) :: (10, .bool true) :: E1)
  refine oR 7 (p' := .fin) (eE := E2) (H' := (mkH [])) (by kernel_rfl) ?_
  exact oT (r := (decide (a0 ≤ a2))) (xs := [.bool (decide (a0 ≤ a2))]) (v := .bool (decide (a0 ≤ a2))) (by kernel_rfl) (by kernel_rfl) (by kernel_rfl) (.pures (by kernel_rfl)) (by kernel_rfl)
 ·let E3 : Env := ((6, .bool false) :: (14, .bool false) :: (13, .tuple []) :: (12, .tuple []) :: (11, .tuple []) :: (10, .bool false) :: E1)
  refine oR 7 (p' := .fin) (eE := E3) (H' := (mkH [])) (by kernel_rfl) ?_
  exact oT (r := false) (xs := [.bool false]) (v := .bool false) (by kernel_rfl) (by kernel_rfl) (by kernel_rfl) (.pures (by kernel_rfl)) (by kernel_rfl)
end
end Go.Proofs.Ytnikdnchoahngaa.Am
set_option maxRecDepth 100000
set_option linter.unusedVariables false
namespace Go.Proofs.Ytnikdnchoahngaa.Am
noncomputable section
open Go
def X20 : Fx Int := ⟨Try.prog, cx, Try.f20, fun r => .int .i64 r, 0, fun _ => H0, cxTi, cxOrd⟩
def g20p0 : Pt := nav [0] (bodyAt Try.f20)
def g20p1 : Pt := nav [0, 0, 0, 0, 0] g20p0
def g20p2 : Pt := nav [0, 0] g20p1
def g20p4 : Pt := nav [2, 0] g20p2
def g20p6 : Pt := nav [0, 0] g20p4
def g20p8 : Pt := nav [2, 0] g20p6
def g20p9 : Pt := nav [0, 0] g20p8
def g20 (k : Nat) (a0 : Int) : Option Int :=
 (g43 k a0 (97 : Int) (122 : Int)).bind fun x0_1 => if x0_1 then (some (1 : Int)) else ((g43 k a0 (65 : Int) (90 : Int)).bind fun x1_1 => jn (fun (z3 : Bool) => if z3 then (some (2 : Int)) else ((g43 k a0 (48 : Int) (57 : Int)).bind fun x2_1 => if x2_1 then (some (3 : Int)) else (some (0 : Int)))) (fun j3 => if x1_1 then (j3 true) else (j3 (decide (a0 = 95)))))
theorem g20_ok (k : Nat) (a0 : Int) (r : Int) (h : g20 k a0 = some r) : PureOk Try.prog 20 [.int .u8 a0] (.int .i64 r) := by
 refine pure_of X20 (fun _ => rfl) Try.func20 (by decide +kernel) (by kernel_rfl) (t := g20 k a0) ?_ h
 unfold g20
 refine oE (eE := [(0, .int .u8 a0)]) (by kernel_rfl) ?_
 refine oR 9 (p' := (atN 1 (ctl1 g20p1))) (eE := [(4, .int .u8 a0), (2, .int .i64 0), (0, .int .u8 a0)]) (H' := (mkH [])) (by kernel_rfl) ?_
 refine oC (fun (x0_1 : Bool) => .bool x0_1) (atN 2 (ctl1 g20p1)) (fun x0_1 => [(5, .bool x0_1), (4, .int .u8 a0), (2, .int .i64 0), (0, .int .u8 a0)]) (fi := 43) (args := [.int .u8 a0, .int .u8 97, .int .u8 122]) (by kernel_rfl) (by kernel_rfl) (fun _ => by kernel_rfl) (fun r h => g43_ok k a0 (97 : Int) (122 : Int) r h) (fun _ => by kernel_rfl) (fun x0_1 hx0_1 => ?_)
 let E1 : Env := [(3, .bool x0_1), (5, .bool x0_1), (4, .int .u8 a0), (2, .int .i64 0), (0, .int .u8 a0)]
 refine oR 2 (p' := g20p2) (eE := E1) (H' := (mkH [])) (by kernel_rfl) ?_
 refine oS 3 (b := x0_1) (by kernel_rfl) (fun hb => ?_) (fun hb => ?_)
 ·refine oR 6 (p' := .fin) (eE := ((2, .int .i64 1) :: (3, .bool true) :: E1)) (H' := (mkH [])) (by kernel_rfl) ?_
  exact oT (r := (1 : Int)) (xs := [.int .i64 1]) (v := .int .i64 1) (by kernel_rfl) (by kernel_rfl) (by kernel_rfl) (.pures (by kernel_rfl)) (by kernel_rfl)
 ·refine oR 4 (p' := (atN 1 (ctl1 g20p4))) (eE := ((7, .int .u8 a0) :: (3, .bool false) :: E1)) (H' := (mkH [])) (by kernel_rfl) ?_
  refine oC (fun (x1_1 : Bool) => .bool x1_1) (atN 2 (ctl1 g20p4)) (fun x1_1 => ((8, .bool x1_1) :: (7, .int .u8 a0) :: (3, .bool false) :: E1)) (fi := 43) (args := [.int .u8 a0, .int .u8 65, .int .u8 90]) (by kernel_rfl) (by kernel_rfl) (fun _ => by kernel_rfl) (fun r h => g43_ok k a0 (65 : Int) (90 : Int) r h) (fun _ => by kernel_rfl) (fun x1_1 hx1_1 => ?_)
  refine oR 1 (p' := (atN 3 (ctl1 g20p4))) (eE := ((9, .bool x1_1) :: (8, .bool x1_1) :: (7, .int .u8 a0) :: (3, .bool false) :: E1)) (H' := (mkH [])) (by kernel_rfl) ?_
  refine oJ (f := fun (z3 : Bool) => if z3 then (some (2 : Int)) else ((g43 k a0 (48 : Int) (57 : Int)).bind fun x2_1 => if x2_1 then (some (3 : Int)) else (some (0 : Int)))) g20p6 (fun (z3 : Bool) => [(0, .int .u8 a0), (6, .bool z3)]) (fun (z3 : Bool) => (mkH [])) (fun z3 => ?_) (fun j3 hj3 => ?_)
  ·refine oS 6 (b := z3) (by kernel_rfl) (fun hb => ?_) (fun hb => ?_)
   ·refine oR 6 (p' := .fin) (eE := [(2, .int .i64 2), (6, .bool true), (0, .int .u8 a0), (6, .bool z3)]) (H' := (mkH [])) (by kernel_rfl) ?_
    exact oT (r := (2 : Int)) (xs := [.int .i64 2]) (v := .int .i64 2) (by kernel_rfl) (by kernel_rfl) (by kernel_rfl) (.pures (by kernel_rfl)) (by kernel_rfl)
   ·refine oR 4 (p' := (atN 1 (ctl1 g20p8))) (eE := [(14, .int .u8 a0), (6, .bool false), (0, .int .u8 a0), (6, .bool z3)]) (H' := (mkH [])) (by kernel_rfl) ?_
    refine oC (fun (x2_1 : Bool) => .bool x2_1) (atN 2 (ctl1 g20p8)) (fun x2_1 => [(15, .bool x2_1), (14, .int .u8 a0), (6, .bool false), (0, .int .u8 a0), (6, .bool z3)]) (fi := 43) (args := [.int .u8 a0, .int .u8 48, .int .u8 57]) (by kernel_rfl) (by kernel_rfl) (fun _ => by kernel_rfl) (fun r h => g43_ok k a0 (48 : Int) (57 : Int) r h) (fun _ => by kernel_rfl) (fun x2_1 hx2_1 => ?_)
    let E2 : Env := [(13, .bool x2_1), (15, .bool x2_1), (14, .int .u8 a0), (6, .bool false), (0, .int .u8 a0), (6, .bool z3)]
    refine oR 2 (p' := g20p9) (eE := E2) (H' := (mkH [])) (by kernel_rfl) ?_
    refine oS 13 (b := x2_1) (by kernel_rfl) (fun hb => ?_) (fun hb => ?_)
    ·refine oR 6 (p' := .fin) (eE := ((2, .int .i64 3) :: (13, .bool true) :: E2)) (H' := (mkH [])) (by kernel_rfl) ?_
     exact oT (r := (3 : Int)) (xs := [.int .i64 3]) (v := .int .i64 3) (by kernel_rfl) (by kernel_rfl) (by kernel_rfl) (.pures (by kernel_rfl)) (by kernel_rfl)
    ·refine oR 7 (p' := .fin) (eE := ((2, .int .i64 0) :: (13, .bool false) :: E2)) (H' := (mkH [])) (by kernel_rfl) ?_
     exact oT (r := (0 : Int)) (xs := [.int .i64 0]) (v := .int .i64 0) (by kernel_rfl) (by kernel_rfl) (by kernel_rfl) (.pures (by kernel_rfl)) (by kernel_rfl)
  ·refine oS 9 (b := x1_1) (by kernel_rfl) (fun hb => ?_) (fun hb => ?_)
   ·let E3 : Env := ((6, .bool true) :: (12, .bool true) :: (11, .tuple []) :: (10, .tuple []) :: (9, .bool true) :: (9, .bool x1_1) :: (8, .bool x1_1) :: (7, .int .u8 a0) :: (3, .bool false) :: E1)
    refine oR 5 (p' := g20p6) (eE := E3) (H' := (mkH [])) (by kernel_rfl) ?_
    refine oK [0, 6] (eE := [(0, .int .u8 a0), (6, .bool true)]) (by kernel_rfl) ?_
    exact hj3 true
   ·let E4 : Env := ((6, .bool (decide (a0 = 95))) :: (12, .bool (decide (a0 = 95))) :: (11, .bool (decide (a0 = 95))) :: (10, .int .u8 a0) :: (9, .bool false) :: (9, .bool x1_1) :: (8, .bool x1_1) :: (7, .int .u8 a0) :: (3, .bool false) :: E1)
    refine oR 5 (p' := g20p6) (eE := E4) (H' := (mkH [])) (by kernel_rfl) ?_
    refine oK [0, 6] (eE := [(0, .int .u8 a0), (6, .bool (decide (a0 = 95)))]) (by kernel_rfl) ?_
    exact hj3 (decide (a0 = 95))
end
end Go.Proofs.Ytnikdnchoahngaa.Am
set_option maxRecDepth 100000
set_option linter.unusedVariables false
namespace Go.Proofs.Ytnikdnchoahngaa.Am
noncomputable section
open Go
def X18 : Fx Bool := ⟨Try.prog, cx, Try.f18, fun r => .bool r, 0, fun _ => H0, cxTi, cxOrd⟩
def g18p0 : Pt := nav [0] (bodyAt Try.f18)
def g18p1 : Pt := nav [0, 0, 0] g18p0
def g18 (k : Nat) (a0 : Int) : Option Bool :=
 (g20 k a0).bind fun x0_1 => if (!decide (x0_1 = 0)) then (some true) else (some (decide (a0 = 64)))
theorem g18_ok (k : Nat) (a0 : Int) (r : Bool) (h : g18 k a0 = some r) : PureOk Try.prog 18 [.int .u8 a0] (.bool r) := by
 refine pure_of X18 (fun _ => rfl) Try.func18 (by decide +kernel) (by kernel_rfl) (t := g18 k a0) ?_ h
 unfold g18
 refine oE (eE := [(0, .int .u8 a0)]) (by kernel_rfl) ?_
 refine oR 7 (p' := (atN 1 (ctl1 g18p1))) (eE := [(3, .int .u8 a0), (2, .bool false), (0, .int .u8 a0)]) (H' := (mkH [])) (by kernel_rfl) ?_
 refine oC (fun (x0_1 : Int) => .int .i64 x0_1) (atN 2 (ctl1 g18p1)) (fun x0_1 => [(4, .int .i64 x0_1), (3, .int .u8 a0), (2, .bool false), (0, .int .u8 a0)]) (fi := 20) (args := [.int .u8 a0]) (by kernel_rfl) (by kernel_rfl) (fun _ => by kernel_rfl) (fun r h => g20_ok k a0 r h) (fun _ => by kernel_rfl) (fun x0_1 hx0_1 => ?_)
 let E1 : Env := [(6, .bool (!decide (x0_1 = 0))), (5, .bool (!decide (x0_1 = 0))), (4, .int .i64 x0_1), (3, .int .u8 a0), (2, .bool false), (0, .int .u8 a0)]
 refine oR 2 (p' := (atN 4 (ctl1 g18p1))) (eE := E1) (H' := (mkH [])) (by kernel_rfl) ?_
 refine oS 6 (b := !decide (x0_1 = 0)) (by kernel_rfl) (fun hb => ?_) (fun hb => ?_)
 ·let E2 : Env := ((2, .bool true) :: (9, .bool true) :: (8, .tuple []) :: (7, .tuple []) :: (6, .bool true) :: E1)
  refine oR 6 (p' := .fin) (eE := E2) (H' := (mkH [])) (by kernel_rfl) ?_
  exact oT (r := true) (xs := [.bool true]) (v := .bool true) (by kernel_rfl) (by kernel_rfl) (by kernel_rfl) (.pures (by kernel_rfl)) (by kernel_rfl)
 ·let E3 : Env := ((2, .bool (decide (a0 = 64))) :: (9, .bool (decide (a0 = 64))) :: (8, .bool (decide (a0 = 64))) :: (7, .int .u8 a0) :: (6, .bool false) :: E1)
  refine oR 6 (p' := .fin) (eE := E3) (H' := (mkH [])) (by kernel_rfl) ?_
  exact oT (r := (decide (a0 = 64))) (xs := [.bool (decide (a0 = 64))]) (v := .bool (decide (a0 = 64))) (by kernel_rfl) (by kernel_rfl) (by kernel_rfl) (.pures (by kernel_rfl)) (by kernel_rfl)
end
end Go.Proofs.Ytnikdnchoahngaa.Am
set_option maxRecDepth 100000
set_option linter.unusedVariables false
namespace Go.Proofs.Ytnikdnchoahngaa.Am
noncomputable section
open Go
def X14 : Fx Bool := ⟨Try.prog, cx, Try.f14, fun r => .bool r, 0, fun _ => H0, cxTi, cxOrd⟩
def g14c0 : List Nat := [97, 102, 116, 101, 114]
def g14c1 : List Nat := [97, 110, 100, 97, 108, 115, 111]
def g14c2 : List Nat := [98, 101, 103, 105, 110]
def g14c3 : List Nat := [111, 114, 101, 108, 115, 101]
def g14c4 : List Nat := [114, 101, 99, 101, 105, 118, 101]
def g14p0 : Pt := nav [0] (bodyAt Try.f14)
def g14p1 : Pt := nav [0, 0, 0, 0] g14p0
def g14p2 : Pt := nav [0, 0, 0, 0, 0] g14p1
def g14p3 : Pt := nav [0, 0] g14p2
def g14p4 : Pt := nav [1, 0] g14p3
def g14p5 : Pt := nav [2, 0] g14p3
def g14p8 : Pt := nav [0, 0] g14p5
def g14p10 : Pt := nav [2, 0] g14p8
def g14p11 : Pt := nav [0, 0] g14p10
def g14p12 : Pt := nav [2, 0] g14p11
def g14p13 : Pt := nav [0, 0] g14p12
def g14p14 : Pt := nav [2, 0] g14p13
def g14p15 : Pt := nav [0, 0] g14p14
def g14p16 : Pt := nav [2, 0] g14p15
def g14p17 : Pt := nav [0, 0] g14p16
def g14p18 : Pt := nav [2, 0] g14p17
def g14p19 : Pt := nav [0, 0] g14p18
def g14p20 : Pt := nav [2, 0] g14p19
def g14p21 : Pt := nav [0, 0] g14p20
def g14p22 : Pt := nav [2, 0] g14p21
def g14p23 : Pt := nav [0, 0] g14p22
def g14p24 : Pt := nav [2, 0] g14p23
def g14p25 : Pt := nav [0, 0] g14p24
def g14p26 : Pt := nav [2, 0] g14p25
def g14p27 : Pt := nav [0, 0] g14p26
def g14p28 : Pt := nav [2, 0] g14p27
def g14p29 : Pt := nav [0, 0] g14p28
def g14p30 : Pt := nav [2, 0] g14p29
def g14p31 : Pt := nav [0, 0] g14p30
def g14p32 : Pt := nav [2, 0] g14p31
def g14p33 : Pt := nav [0, 0] g14p32
def g14p34 : Pt := nav [2, 0] g14p33
def g14p35 : Pt := nav [0, 0] g14p34
def g14p36 : Pt := nav [2, 0] g14p35
def g14p37 : Pt := nav [0, 0] g14p36
def g14p38 : Pt := nav [2, 0] g14p37
def g14p39 : Pt := nav [0, 0] g14p38
def g14p40 : Pt := nav [2, 0] g14p39
def g14p41 : Pt := nav [0, 0] g14p40
def g14p42 : Pt := nav [2, 0] g14p41
def g14p43 : Pt := nav [0, 0] g14p42
def g14p44 : Pt := nav [2, 0] g14p43
def g14p45 : Pt := nav [0, 0] g14p44
def g14p46 : Pt := nav [2, 0] g14p45
def g14p47 : Pt := nav [0, 0] g14p46
def g14p48 : Pt := nav [2, 0] g14p47
def g14p49 : Pt := nav [0, 0] g14p48
def g14p50 : Pt := nav [2, 0] g14p49
def g14p51 : Pt := nav [0, 0] g14p50
def g14 (k : Nat) (a0 : (List Nat)) : Option Bool :=
 jn (fun (z0 : Bool) => if z0 then (some true) else (some false)) (fun j0 => if (eqL a0 g14c0) then (j0 true) else (if (eqL a0 [97, 110, 100]) then (j0 true) else (if (eqL a0 g14c1) then (j0 true) else (if (eqL a0 [98, 97, 110, 100]) then (j0 true) else (if (eqL a0 g14c2) then (j0 true) else (if (eqL a0 [98, 110, 111, 116]) then (j0 true) else (if (eqL a0 [98, 111, 114]) then (j0 true) else (if (eqL a0 [98, 115, 108]) then (j0 true) else (if (eqL a0 [98, 115, 114]) then (j0 true) else (if (eqL a0 [98, 120, 111, 114]) then (j0 true) else (if (eqL a0 [99, 97, 115, 101]) then (j0 true) else (if (eqL a0 [99, 97, 116, 99, 104]) then (j0 true) else (if (eqL a0 [100, 105, 118]) then (j0 true) else (if (eqL a0 [101, 110, 100]) then (j0 true) else (if (eqL a0 [102, 117, 110]) then (j0 true) else (if (eqL a0 [105, 102]) then (j0 true) else (if (eqL a0 [110, 111, 116]) then (j0 true) else (if (eqL a0 [111, 102]) then (j0 true) else (if (eqL a0 [111, 114]) then (j0 true) else (if (eqL a0 g14c3) then (j0 true) else (if (eqL a0 g14c4) then (j0 true) else (if (eqL a0 [114, 101, 109]) then (j0 true) else (if (eqL a0 [119, 104, 101, 110]) then (j0 true) else (j0 (eqL a0 [120, 111, 114])))))))))))))))))))))))))
theorem g14_ok (k : Nat) (a0 : (List Nat)) (r : Bool) (h : g14 k a0 = some r) : PureOk Try.prog 14 [.str a0] (.bool r) := by
 refine pure_of X14 (fun _ => rfl) Try.func14 (by decide +kernel) (by kernel_rfl) (t := g14 k a0) ?_ h
 unfold g14
 refine oE (eE := [(0, .str a0)]) (by kernel_rfl) ?_
 let E1 : Env := [(4, .bool (eqL a0 g14c0)), (5, .bool (eqL a0 g14c0)), (3, .str a0), (2, .bool false), (0, .str a0)]
 refine oR 16 (p' := g14p3) (eE := E1) (H' := (mkH [])) (by kernel_rfl) ?_
 refine oJ (f := fun (z0 : Bool) => if z0 then (some true) else (some false)) g14p4 (fun (z0 : Bool) => [(4, .bool z0)]) (fun (z0 : Bool) => (mkH [])) (fun z0 => ?_) (fun j0 hj0 => ?_)
 ·refine oS 4 (b := z0) (by kernel_rfl) (fun hb => ?_) (fun hb => ?_)
  ·refine oR 6 (p' := .fin) (eE := [(2, .bool true), (4, .bool true), (4, .bool z0)]) (H' := (mkH [])) (by kernel_rfl) ?_
   exact oT (r := true) (xs := [.bool true]) (v := .bool true) (by kernel_rfl) (by kernel_rfl) (by kernel_rfl) (.pures (by kernel_rfl)) (by kernel_rfl)
  ·refine oR 7 (p' := .fin) (eE := [(2, .bool false), (4, .bool false), (4, .bool z0)]) (H' := (mkH [])) (by kernel_rfl) ?_
   exact oT (r := false) (xs := [.bool false]) (v := .bool false) (by kernel_rfl) (by kernel_rfl) (by kernel_rfl) (.pures (by kernel_rfl)) (by kernel_rfl)
 ·refine oS 4 (b := eqL a0 g14c0) (by kernel_rfl) (fun hb => ?_) (fun hb => ?_)
  ·refine oR 2 (p' := g14p4) (eE := ((4, .bool true) :: E1)) (H' := (mkH [])) (by kernel_rfl) ?_
   refine oK [4] (eE := [(4, .bool true)]) (by kernel_rfl) ?_
   exact hj0 true
  ·refine oR 6 (p' := g14p8) (eE := ((4, .bool (eqL a0 [97, 110, 100])) :: (6, .bool (eqL a0 [97, 110, 100])) :: (4, .bool false) :: E1)) (H' := (mkH [])) (by kernel_rfl) ?_
   refine oS 4 (b := eqL a0 [97, 110, 100]) (by kernel_rfl) (fun hb => ?_) (fun hb => ?_)
   ·refine oR 2 (p' := g14p4) (eE := ((4, .bool true) :: (4, .bool (eqL a0 [97, 110, 100])) :: (6, .bool (eqL a0 [97, 110, 100])) :: (4, .bool false) :: E1)) (H' := (mkH [])) (by kernel_rfl) ?_
    refine oK [4] (eE := [(4, .bool true)]) (by kernel_rfl) ?_
    exact hj0 true
   ·let E2 : Env := ((4, .bool (eqL a0 g14c1)) :: (7, .bool (eqL a0 g14c1)) :: (4, .bool false) :: (4, .bool (eqL a0 [97, 110, 100])) :: (6, .bool (eqL a0 [97, 110, 100])) :: (4, .bool false) :: E1)
    refine oR 6 (p' := g14p11) (eE := E2) (H' := (mkH [])) (by kernel_rfl) ?_
    refine oK [3, 4] (eE := [(3, .str a0), (4, .bool (eqL a0 g14c1))]) (by kernel_rfl) ?_
    refine oS 4 (b := eqL a0 g14c1) (by kernel_rfl) (fun hb => ?_) (fun hb => ?_)
    ·refine oR 2 (p' := g14p4) (eE := [(4, .bool true), (3, .str a0), (4, .bool (eqL a0 g14c1))]) (H' := (mkH [])) (by kernel_rfl) ?_
     refine oK [4] (eE := [(4, .bool true)]) (by kernel_rfl) ?_
     exact hj0 true
    ·let E3 : Env := [(4, .bool (eqL a0 [98, 97, 110, 100])), (8, .bool (eqL a0 [98, 97, 110, 100])), (4, .bool false), (3, .str a0), (4, .bool (eqL a0 g14c1))]
     refine oR 6 (p' := g14p13) (eE := E3) (H' := (mkH [])) (by kernel_rfl) ?_
     refine oS 4 (b := eqL a0 [98, 97, 110, 100]) (by kernel_rfl) (fun hb => ?_) (fun hb => ?_)
     ·refine oR 2 (p' := g14p4) (eE := ((4, .bool true) :: E3)) (H' := (mkH [])) (by kernel_rfl) ?_
      refine oK [4] (eE := [(4, .bool true)]) (by kernel_rfl) ?_
      exact hj0 true
     ·refine oR 6 (p' := g14p15) (eE := ((4, .bool (eqL a0 g14c2)) :: (9, .bool (eqL a0 g14c2)) :: (4, .bool false) :: E3)) (H' := (mkH [])) (by kernel_rfl) ?_
      refine oS 4 (b := eqL a0 g14c2) (by kernel_rfl) (fun hb => ?_) (fun hb => ?_)
      ·refine oR 2 (p' := g14p4) (eE := ((4, .bool true) :: (4, .bool (eqL a0 g14c2)) :: (9, .bool (eqL a0 g14c2)) :: (4, .bool false) :: E3)) (H' := (mkH [])) (by kernel_rfl) ?_
       refine oK [4] (eE := [(4, .bool true)]) (by kernel_rfl) ?_
       exact hj0 true
      ·let E4 : Env := ((4, .bool (eqL a0 [98, 110, 111, 116])) :: (10, .bool (eqL a0 [98, 110, 111, 116])) :: (4, .bool false) :: (4, .bool (eqL a0 g14c2)) :: (9, .bool (eqL a0 g14c2)) :: (4, .bool false) :: E3)
       refine oR 6 (p' := g14p17) (eE := E4) (H' := (mkH [])) (by kernel_rfl) ?_
       refine oK [3, 4] (eE := [(3, .str a0), (4, .bool (eqL a0 [98, 110, 111, 116]))]) (by kernel_rfl) ?_
       refine oS 4 (b := eqL a0 [98, 110, 111, 116]) (by kernel_rfl) (fun hb => ?_) (fun hb => ?_)
       ·refine oR 2 (p' := g14p4) (eE := [(4, .bool true), (3, .str a0), (4, .bool (eqL a0 [98, 110, 111, 116]))]) (H' := (mkH [])) (by kernel_rfl) ?_
        refine oK [4] (eE := [(4, .bool true)]) (by kernel_rfl) ?_
        exact hj0 true
       ·let E5 : Env := [(4, .bool (eqL a0 [98, 111, 114])), (11, .bool (eqL a0 [98, 111, 114])), (4, .bool false), (3, .str a0), (4, .bool (eqL a0 [98, 110, 111, 116]))]
        refine oR 6 (p' := g14p19) (eE := E5) (H' := (mkH [])) (by kernel_rfl) ?_
        refine oS 4 (b := eqL a0 [98, 111, 114]) (by kernel_rfl) (fun hb => ?_) (fun hb => ?_)
        ·refine oR 2 (p' := g14p4) (eE := ((4, .bool true) :: E5)) (H' := (mkH [])) (by kernel_rfl) ?_
         refine oK [4] (eE := [(4, .bool true)]) (by kernel_rfl) ?_
         exact hj0 true
        ·refine oR 6 (p' := g14p21) (eE := ((4, .bool (eqL a0 [98, 115, 108])) :: (12, .bool (eqL a0 [98, 115, 108])) :: (4, .bool false) :: E5)) (H' := (mkH [])) (by kernel_rfl) ?_
         refine oS 4 (b := eqL a0 [98, 115, 108]) (by kernel_rfl) (fun hb => ?_) (fun hb => ?_)
         ·refine oR 2 (p' := g14p4) (eE := ((4, .bool true) :: (4, .bool (eqL a0 [98, 115, 108])) :: (12, .bool (eqL a0 [98, 115, 108])) :: (4, .bool false) :: E5)) (H' := (mkH [])) (by kernel_rfl) ?_
          refine oK [4] (eE := [(4, .bool true)]) (by kernel_rfl) ?_
          exact hj0 true
         ·let E6 : Env := ((4, .bool (eqL a0 [98, 115, 114])) :: (13, .bool (eqL a0 [98, 115, 114])) :: (4, .bool false) :: (4, .bool (eqL a0 [98, 115, 108])) :: (12, .bool (eqL a0 [98, 115, 108])) :: (4, .bool false) :: E5)
          refine oR 6 (p' := g14p23) (eE := E6) (H' := (mkH [])) (by kernel_rfl) ?_
          refine oK [3, 4] (eE := [(3, .str a0), (4, .bool (eqL a0 [98, 115, 114]))]) (by kernel_rfl) ?_
          refine oS 4 (b := eqL a0 [98, 115, 114]) (by kernel_rfl) (fun hb => ?_) (fun hb => ?_)
          ·refine oR 2 (p' := g14p4) (eE := [(4, .bool true), (3, .str a0), (4, .bool (eqL a0 [98, 115, 114]))]) (H' := (mkH [])) (by kernel_rfl) ?_
           refine oK [4] (eE := [(4, .bool true)]) (by kernel_rfl) ?_
           exact hj0 true
          ·let E7 : Env := [(4, .bool (eqL a0 [98, 120, 111, 114])), (14, .bool (eqL a0 [98, 120, 111, 114])), (4, .bool false), (3, .str a0), (4, .bool (eqL a0 [98, 115, 114]))]
           refine oR 6 (p' := g14p25) (eE := E7) (H' := (mkH [])) (by kernel_rfl) ?_
           refine oS 4 (b := eqL a0 [98, 120, 111, 114]) (by kernel_rfl) (fun hb => ?_) (fun hb => ?_)
           ·refine oR 2 (p' := g14p4) (eE := ((4, .bool true) :: E7)) (H' := (mkH [])) (by kernel_rfl) ?_
            refine oK [4] (eE := [(4, .bool true)]) (by kernel_rfl) ?_
            exact hj0 true
           ·refine oR 6 (p' := g14p27) (eE := ((4, .bool (eqL a0 [99, 97, 115, 101])) :: (15, .bool (eqL a0 [99, 97, 115, 101])) :: (4, .bool false) :: E7)) (H' := (mkH [])) (by kernel_rfl) ?_
            refine oS 4 (b := eqL a0 [99, 97, 115, 101]) (by kernel_rfl) (fun hb => ?_) (fun hb => ?_)
            ·refine oR 2 (p' := g14p4) (eE := ((4, .bool true) :: (4, .bool (eqL a0 [99, 97, 115, 101])) :: (15, .bool (eqL a0 [99, 97, 115, 101])) :: (4, .bool false) :: E7)) (H' := (mkH [])) (by kernel_rfl) ?_
             refine oK [4] (eE := [(4, .bool true)]) (by kernel_rfl) ?_
             exact hj0 true
            ·let E8 : Env := ((4, .bool (eqL a0 [99, 97, 116, 99, 104])) :: (16, .bool (eqL a0 [99, 97, 116, 99, 104])) :: (4, .bool false) :: (4, .bool (eqL a0 [99, 97, 115, 101])) :: (15, .bool (eqL a0 [99, 97, 115, 101])) :: (4, .bool false) :: E7)
             refine oR 6 (p' := g14p29) (eE := E8) (H' := (mkH [])) (by kernel_rfl) ?_
             refine oK [3, 4] (eE := [(3, .str a0), (4, .bool (eqL a0 [99, 97, 116, 99, 104]))]) (by kernel_rfl) ?_
             refine oS 4 (b := eqL a0 [99, 97, 116, 99, 104]) (by kernel_rfl) (fun hb => ?_) (fun hb => ?_)
             ·refine oR 2 (p' := g14p4) (eE := [(4, .bool true), (3, .str a0), (4, .bool (eqL a0 [99, 97, 116, 99, 104]))]) (H' := (mkH [])) (by kernel_rfl) ?_
              refine oK [4] (eE := [(4, .bool true)]) (by kernel_rfl) ?_
              exact hj0 true
             ·let E9 : Env := [(4, .bool (eqL a0 [100, 105, 118])), (17, .bool (eqL a0 [100, 105, 118])), (4, .bool false), (3, .str a0), (4, .bool (eqL a0 [99, 97, 116, 99, 104]))]
              refine oR 6 (p' := g14p31) (eE := E9) (H' := (mkH [])) (by kernel_rfl) ?_
              refine oS 4 (b := eqL a0 [100, 105, 118]) (by kernel_rfl) (fun hb => ?_) (fun hb => ?_)
              ·refine oR 2 (p' := g14p4) (eE := ((4, .bool true) :: E9)) (H' := (mkH [])) (by kernel_rfl) ?_
               refine oK [4] (eE := [(4, .bool true)]) (by kernel_rfl) ?_
               exact hj0 true
              ·refine oR 6 (p' := g14p33) (eE := ((4, .bool (eqL a0 [101, 110, 100])) :: (18, .bool (eqL a0 [101, 110, 100])) :: (4, .bool false) :: E9)) (H' := (mkH [])) (by kernel_rfl) ?_
               refine oS 4 (b := eqL a0 [101, 110, 100]) (by kernel_rfl) (fun hb => ?_) (fun hb => ?_)
               ·refine oR 2 (p' := g14p4) (eE := ((4, .bool true) :: (4, .bool (eqL a0 [101, 110, 100])) :: (18, .bool (eqL a0 [101, 110, 100])) :: (4, .bool false) :: E9)) (H' := (mkH [])) (by kernel_rfl) ?_
                refine oK [4] (eE := [(4, .bool true)]) (by kernel_rfl) ?_
                exact hj0 true
               ·let E10 : Env := ((4, .bool (eqL a0 [102, 117, 110])) :: (19, .bool (eqL a0 [102, 117, 110])) :: (4, .bool false) :: (4, .bool (eqL a0 [101, 110, 100])) :: (18, .bool (eqL a0 [101, 110, 100])) :: (4, .bool false) :: E9)
                refine oR 6 (p' := g14p35) (eE := E10) (H' := (mkH [])) (by kernel_rfl) ?_
                refine oK [3, 4] (eE := [(3, .str a0), (4, .bool (eqL a0 [102, 117, 110]))]) (by kernel_rfl) ?_
                refine oS 4 (b := eqL a0 [102, 117, 110]) (by kernel_rfl) (fun hb => ?_) (fun hb => ?_)
                ·refine oR 2 (p' := g14p4) (eE := [(4, .bool true), (3, .str a0), (4, .bool (eqL a0 [102, 117, 110]))]) (H' := (mkH [])) (by kernel_rfl) ?_
                 refine oK [4] (eE := [(4, .bool true)]) (by kernel_rfl) ?_
                 exact hj0 true
                ·let E11 : Env := [(4, .bool (eqL a0 [105, 102])), (20, .bool (eqL a0 [105, 102])), (4, .bool false), (3, .str a0), (4, .bool (eqL a0 [102, 117, 110]))]
                 refine oR 6 (p' := g14p37) (eE := E11) (H' := (mkH [])) (by kernel_rfl) ?_
                 refine oS 4 (b := eqL a0 [105, 102]) (by kernel_rfl) (fun hb => ?_) (fun hb => ?_)
                 ·refine oR 2 (p' := g14p4) (eE := ((4, .bool true) :: E11)) (H' := (mkH [])) (by kernel_rfl) ?_
                  refine oK [4] (eE := [(4, .bool true)]) (by kernel_rfl) ?_
                  exact hj0 true
                 ·refine oR 6 (p' := g14p39) (eE := ((4, .bool (eqL a0 [110, 111, 116])) :: (21, .bool (eqL a0 [110, 111, 116])) :: (4, .bool false) :: E11)) (H' := (mkH [])) (by kernel_rfl) ?_
                  refine oS 4 (b := eqL a0 [110, 111, 116]) (by kernel_rfl) (fun hb => ?_) (fun hb => ?_)
                  ·refine oR 2 (p' := g14p4) (eE := ((4, .bool true) :: (4, .bool (eqL a0 [110, 111, 116])) :: (21, .bool (eqL a0 [110, 111, 116])) :: (4, .bool false) :: E11)) (H' := (mkH [])) (by kernel_rfl) ?_
                   refine oK [4] (eE := [(4, .bool true)]) (by kernel_rfl) ?_
                   exact hj0 true
                  ·let E12 : Env := ((4, .bool (eqL a0 [111, 102])) :: (22, .bool (eqL a0 [111, 102])) :: (4, .bool false) :: (4, .bool (eqL a0 [110, 111, 116])) :: (21, .bool (eqL a0 [110, 111, 116])) :: (4, .bool false) :: E11)
                   refine oR 6 (p' := g14p41) (eE := E12) (H' := (mkH [])) (by kernel_rfl) ?_
                   refine oK [3, 4] (eE := [(3, .str a0), (4, .bool (eqL a0 [111, 102]))]) (by kernel_rfl) ?_
                   refine oS 4 (b := eqL a0 [111, 102]) (by kernel_rfl) (fun hb => ?_) (fun hb => ?_)
                   ·refine oR 2 (p' := g14p4) (eE := [(4, .bool true), (3, .str a0), (4, .bool (eqL a0 [111, 102]))]) (H' := (mkH [])) (by kernel_rfl) ?_
                    refine oK [4] (eE := [(4, .bool true)]) (by kernel_rfl) ?_
                    exact hj0 true
                   ·let E13 : Env := [(4, .bool (eqL a0 [111, 114])), (23, .bool (eqL a0 [111, 114])), (4, .bool false), (3, .str a0), (4, .bool (eqL a0 [111, 102]))]
                    refine oR 6 (p' := g14p43) (eE := E13) (H' := (mkH [])) (by kernel_rfl) ?_
                    refine oS 4 (b := eqL a0 [111, 114]) (by kernel_rfl) (fun hb => ?_) (fun hb => ?_)
                    ·refine oR 2 (p' := g14p4) (eE := ((4, .bool true) :: E13)) (H' := (mkH [])) (by kernel_rfl) ?_
                     refine oK [4] (eE := [(4, .bool true)]) (by kernel_rfl) ?_
                     exact hj0 true
                    ·refine oR 6 (p' := g14p45) (eE := ((4, .bool (eqL a0 g14c3)) :: (24, .bool (eqL a0 g14c3)) :: (4, .bool false) :: E13)) (H' := (mkH [])) (by kernel_rfl) ?_
                     refine oS 4 (b := eqL a0 g14c3) (by kernel_rfl) (fun hb => ?_) (fun hb => ?_)
                     ·refine oR 2 (p' := g14p4) (eE := ((4, .bool true) :: (4, .bool (eqL a0 g14c3)) :: (24, .bool (eqL a0 g14c3)) :: (4, .bool false) :: E13)) (H' := (mkH [])) (by kernel_rfl) ?_
                      refine oK [4] (eE := [(4, .bool true)]) (by kernel_rfl) ?_
                      exact hj0 true
                     ·let E14 : Env := ((4, .bool (eqL a0 g14c4)) :: (25, .bool (eqL a0 g14c4)) :: (4, .bool false) :: (4, .bool (eqL a0 g14c3)) :: (24, .bool (eqL a0 g14c3)) :: (4, .bool false) :: E13)
                      refine oR 6 (p' := g14p47) (eE := E14) (H' := (mkH [])) (by kernel_rfl) ?_
                      refine oK [3, 4] (eE := [(3, .str a0), (4, .bool (eqL a0 g14c4))]) (by kernel_rfl) ?_
                      refine oS 4 (b := eqL a0 g14c4) (by kernel_rfl) (fun hb => ?_) (fun hb => ?_)
                      ·refine oR 2 (p' := g14p4) (eE := [(4, .bool true), (3, .str a0), (4, .bool (eqL a0 g14c4))]) (H' := (mkH [])) (by kernel_rfl) ?_
                       refine oK [4] (eE := [(4, .bool true)]) (by kernel_rfl) ?_
                       exact hj0 true
                      ·let E15 : Env := [(4, .bool (eqL a0 [114, 101, 109])), (26, .bool (eqL a0 [114, 101, 109])), (4, .bool false), (3, .str a0), (4, .bool (eqL a0 g14c4))]
                       refine oR 6 (p' := g14p49) (eE := E15) (H' := (mkH [])) (by kernel_rfl) ?_
                       refine oS 4 (b := eqL a0 [114, 101, 109]) (by kernel_rfl) (fun hb => ?_) (fun hb => ?_)
                       ·refine oR 2 (p' := g14p4) (eE := ((4, .bool true) :: E15)) (H' := (mkH [])) (by kernel_rfl) ?_
                        refine oK [4] (eE := [(4, .bool true)]) (by kernel_rfl) ?_
                        exact hj0 true
                       ·refine oR 6 (p' := g14p51) (eE := ((4, .bool (eqL a0 [119, 104, 101, 110])) :: (27, .bool (eqL a0 [119, 104, 101, 110])) :: (4, .bool false) :: E15)) (H' := (mkH [])) (by kernel_rfl) ?_
                        refine oS 4 (b := eqL a0 [119, 104, 101, 110]) (by kernel_rfl) (fun hb => ?_) (fun hb => ?_)
                        ·refine oR 2 (p' := g14p4) (eE := ((4, .bool true) :: (4, .bool (eqL a0 [119, 104, 101, 110])) :: (27, .bool (eqL a0 [119, 104, 101, 110])) :: (4, .bool false) :: E15)) (H' := (mkH [])) (by kernel_rfl) ?_
                         refine oK [4] (eE := [(4, .bool true)]) (by kernel_rfl) ?_
                         exact hj0 true
                        ·let E16 : Env := ((4, .bool (eqL a0 [120, 111, 114])) :: (28, .bool (eqL a0 [120, 111, 114])) :: (4, .bool false) :: (4, .bool (eqL a0 [119, 104, 101, 110])) :: (27, .bool (eqL a0 [119, 104, 101, 110])) :: (4, .bool false) :: E15)
                         refine oR 5 (p' := g14p4) (eE := E16) (H' := (mkH [])) (by kernel_rfl) ?_
                         refine oK [4] (eE := [(4, .bool (eqL a0 [120, 111, 114]))]) (by kernel_rfl) ?_
                         exact hj0 (eqL a0 [120, 111, 114])
end
end Go.Proofs.Ytnikdnchoahngaa.Am
set_option maxRecDepth 100000
set_option linter.unusedVariables false
set_option linter.unusedSimpArgs false
namespace Go.Proofs.Ytnikdnchoahngaa.Am
open Go
def begN (c : Nat) : Nat := if 97 ≤ c ∧ c ≤ 122 then 1 else if 65 ≤ c ∧ c ≤ 90 ∨ c = 95 then 2 else if 48 ≤ c ∧ c ≤ 57 then 3 else 0
def inrN (c : Nat) : Bool := decide (begN c ≠ 0) || decide (c = 64)
def rsvL : List (List Nat) := [[97, 102, 116, 101, 114], [97, 110, 100], [97, 110, 100, 97, 108, 115, 111], [98, 97, 110, 100], [98, 101, 103, 105, 110], [98, 110, 111, 116], [98, 111, 114], [98, 115, 108], [98, 115, 114], [98, 120, 111, 114], [99, 97, 115, 101], [99, 97, 116, 99, 104], [100, 105, 118], [101, 110, 100], [102, 117, 110], [105, 102], [110, 111, 116], [111, 102], [111, 114], [111, 114, 101, 108, 115, 101], [114, 101, 99, 101, 105, 118, 101], [114, 101, 109], [119, 104, 101, 110], [120, 111, 114]]
def rsvN (s : List Nat) : Bool := rsvL.any fun w => eqL s w
theorem begins_at20 (k : Nat) {c : Nat} (h : c < 256) : g20 k (c : Int) = some ((begN c : Nat) : Int) := by
 have w := byteAll (f := fun c => decide (g20 0 (c : Int) = some ((begN c : Nat) : Int))) (by decide +kernel) h
 exact of_decide_eq_true w
theorem inner_at18 (k : Nat) {c : Nat} (h : c < 256) : g18 k (c : Int) = some (inrN c) := by
 have w := byteAll (f := fun c => decide (g18 0 (c : Int) = some (inrN c))) (by decide +kernel) h
 exact of_decide_eq_true w
theorem ifj {α : Type} (j : Bool → α) (p q : Bool) : (if p = true then j true else j q) = j (p || q) := by cases p <;> rfl
theorem reserved_at (k : Nat) (s : List Nat) : g14 k s = some (rsvN s) := by
 unfold g14
 refine (jS (v := rsvN s) (fun j => ?_)).trans ?_
 ·simp only [ifj]
  refine congrArg j ?_
  simp only [rsvN, rsvL, List.any_cons, List.any_nil, Bool.or_false]
  rfl
 ·cases rsvN s <;> rfl
theorem nthL_at {α : Type} {L : List α} {i : Nat} {x : α} {r : List α} (h : L.drop i = x :: r) : nthL L (i : Int) = some x := by
 unfold nthL
 rw [if_pos (by omega), Int.toNat_natCast]
 have := List.getElem?_drop (xs := L) (i := i) (j := 0)
 rw [h] at this
 simpa using this.symm
theorem dconsL {α : Type} {s : List α} {i : Nat} (h : i < s.length) : ∃ b r, s.drop i = b :: r ∧ s.drop (i + 1) = r ∧ b ∈ s ∧ r.length + i + 1 = s.length := by
 refine ⟨s[i], s.drop (i + 1), List.drop_eq_getElem_cons h, rfl, List.getElem_mem h, ?_⟩
 rw [List.length_drop]; omega
end Go.Proofs.Ytnikdnchoahngaa.Am
set_option maxRecDepth 100000
set_option linter.unusedVariables false
namespace Go.Proofs.Ytnikdnchoahngaa.Am
noncomputable section
open Go
def X16 : Fx Bool := ⟨Try.prog, cx, Try.f16, fun r => .bool r, 0, fun _ => H0, cxTi, cxOrd⟩
def g16p0 : Pt := nav [0] (bodyAt Try.f16)
def g16p1 : Pt := nav [0, 0, 0, 0] g16p0
def g16p2 : Pt := nav [0, 0] g16p1
def g16p4 : Pt := nav [2, 0, 0, 0] g16p2
def g16p6 : Pt := nav [0, 0, 0, 0] g16p4
def g16p7 : Pt := nav [0, 0] g16p6
def g16p8 : Pt := nav [0, 0, 0] g16p7
def g16p9 : Pt := nav [1, 0, 0, 0, 0] g16p8
def g16p11 : Pt := nav [0, 0, 0] g16p9
def g16p12 : Pt := nav [0, 0] g16p11
def g16_l3 (k : Nat)  (a0 : (List Nat)) (n : Nat) : Int → Option Bool :=
 Nat.rec (motive := fun _ => Int → Option Bool) (fun _ => none) (fun _ ih => fun (y3_0 : Int) => if (decide (y3_0 < (a0.length : Int))) then ((nthS a0 y3_0).bind fun x1_2 => (g18 k x1_2).bind fun x1_3 => if (!x1_3) then (some false) else (ih (fW .i64 (y3_0 + 1)))) else (some true)) n
theorem g16_l3_s (k : Nat)  (a0 : (List Nat)) (n : Nat) (y3_0 : Int) : g16_l3 k a0 (n + 1) y3_0 = (if (decide (y3_0 < (a0.length : Int))) then ((nthS a0 y3_0).bind fun x1_2 => (g18 k x1_2).bind fun x1_3 => if (!x1_3) then (some false) else ((g16_l3 k a0 n) (fW .i64 (y3_0 + 1)))) else (some true)) := rfl
theorem g16_l3_ok (k : Nat)  (a0 : (List Nat))  : ∀ (n : Nat) (y3_0 : Int), Ok X16 g16p6 [(0, .str a0), (17, .int .i64 (a0.length : Int)), (18, .int .i64 y3_0)] (mkH []) (g16_l3 k a0 n y3_0)
 | 0, _ => ok_none
 | n + 1, y3_0 => by
  have ih := g16_l3_ok k a0 n
  rw [g16_l3_s]
  refine ok_ent (p' := nav [0] g16p6) (by kernel_rfl) ?_
  refine oR 5 (p' := g16p8) (eE := [(19, .bool (decide (y3_0 < (a0.length : Int)))), (0, .str a0), (17, .int .i64 (a0.length : Int)), (18, .int .i64 y3_0)]) (H' := (mkH [])) (by kernel_rfl) ?_
  refine oS 19 (b := decide (y3_0 < (a0.length : Int))) (by kernel_rfl) (fun hb => ?_) (fun hb => ?_)
  ·let E3 : Env := [(22, .int .i64 y3_0), (21, .str a0), (3, .int .i64 y3_0), (20, .int .i64 y3_0), (19, .bool true), (19, .bool (decide (y3_0 < (a0.length : Int)))), (0, .str a0), (17, .int .i64 (a0.length : Int)), (18, .int .i64 y3_0)]
   refine oR 13 (p' := (atN 2 (ctl1 g16p11))) (eE := E3) (H' := (mkH [])) (by kernel_rfl) ?_
   refine oH (fun (x1_2 : Int) => (.int .u8 x1_2, (mkH []))) (atN 3 (ctl1 g16p11)) (fun x1_2 => ((23, .int .u8 x1_2) :: E3)) (idxH (by kernel_rfl)) (fun _ => by kernel_rfl) (fun x1_2 hx1_2 => ?_)
   refine oC (fun (x1_3 : Bool) => .bool x1_3) (atN 4 (ctl1 g16p11)) (fun x1_3 => ((24, .bool x1_3) :: (23, .int .u8 x1_2) :: E3)) (fi := 18) (args := [.int .u8 x1_2]) (by kernel_rfl) (by kernel_rfl) (fun _ => by kernel_rfl) (fun r h => g18_ok k x1_2 r h) (fun _ => by kernel_rfl) (fun x1_3 hx1_3 => ?_)
   refine oR 2 (p' := g16p12) (eE := ((25, .bool (!x1_3)) :: (24, .bool x1_3) :: (23, .int .u8 x1_2) :: E3)) (H' := (mkH [])) (by kernel_rfl) ?_
   refine oK [0, 17, 18, 25] (eE := [(0, .str a0), (17, .int .i64 (a0.length : Int)), (18, .int .i64 y3_0), (25, .bool (!x1_3))]) (by kernel_rfl) ?_
   refine oS 25 (b := !x1_3) (by kernel_rfl) (fun hb => ?_) (fun hb => ?_)
   ·let E4 : Env := [(2, .bool false), (25, .bool true), (0, .str a0), (17, .int .i64 (a0.length : Int)), (18, .int .i64 y3_0), (25, .bool (!x1_3))]
    refine oR 6 (p' := .fin) (eE := E4) (H' := (mkH [])) (by kernel_rfl) ?_
    exact oT (r := false) (xs := [.bool false]) (v := .bool false) (by kernel_rfl) (by kernel_rfl) (by kernel_rfl) (.pures (by kernel_rfl)) (by kernel_rfl)
   ·let E5 : Env := [(18, .int .i64 (fW .i64 (y3_0 + 1))), (26, .int .i64 (fW .i64 (y3_0 + 1))), (25, .bool false), (0, .str a0), (17, .int .i64 (a0.length : Int)), (18, .int .i64 y3_0), (25, .bool (!x1_3))]
    refine oR 6 (p' := g16p6) (eE := E5) (H' := (mkH [])) (by kernel_rfl) ?_
    refine oK [0, 17, 18] (eE := [(0, .str a0), (17, .int .i64 (a0.length : Int)), (18, .int .i64 (fW .i64 (y3_0 + 1)))]) (by kernel_rfl) ?_
    exact ih (fW .i64 (y3_0 + 1))
  ·let E6 : Env := [(2, .bool true), (19, .bool false), (19, .bool (decide (y3_0 < (a0.length : Int)))), (0, .str a0), (17, .int .i64 (a0.length : Int)), (18, .int .i64 y3_0)]
   refine oR 7 (p' := .fin) (eE := E6) (H' := (mkH [])) (by kernel_rfl) ?_
   exact oT (r := true) (xs := [.bool true]) (v := .bool true) (by kernel_rfl) (by kernel_rfl) (by kernel_rfl) (.pures (by kernel_rfl)) (by kernel_rfl)
def g16 (k : Nat) (a0 : (List Nat)) : Option Bool :=
 jn (fun (z2 : Bool) => if z2 then (some false) else (g16_l3 k a0 k 0)) (fun j2 => if (eqL a0 []) then (j2 true) else ((nthS a0 0).bind fun x0_4 => (g20 k x0_4).bind fun x0_5 => if (!decide (x0_5 = 1)) then (j2 true) else ((g14 k a0).bind fun x0_10 => j2 x0_10)))
theorem g16_ok (k : Nat) (a0 : (List Nat)) (r : Bool) (h : g16 k a0 = some r) : PureOk Try.prog 16 [.str a0] (.bool r) := by
 refine pure_of X16 (fun _ => rfl) Try.func16 (by decide +kernel) (by kernel_rfl) (t := g16 k a0) ?_ h
 unfold g16
 refine oE (eE := [(0, .str a0)]) (by kernel_rfl) ?_
 let E1 : Env := [(6, .bool (eqL a0 [])), (5, .bool (eqL a0 [])), (4, .str a0), (2, .bool false), (0, .str a0)]
 refine oR 10 (p' := (atN 3 (ctl1 g16p1))) (eE := E1) (H' := (mkH [])) (by kernel_rfl) ?_
 refine oJ (f := fun (z2 : Bool) => if z2 then (some false) else (g16_l3 k a0 k 0)) g16p2 (fun (z2 : Bool) => [(0, .str a0), (15, .bool z2)]) (fun (z2 : Bool) => (mkH [])) (fun z2 => ?_) (fun j2 hj2 => ?_)
 ·refine oS 15 (b := z2) (by kernel_rfl) (fun hb => ?_) (fun hb => ?_)
  ·refine oR 6 (p' := .fin) (eE := [(2, .bool false), (15, .bool true), (0, .str a0), (15, .bool z2)]) (H' := (mkH [])) (by kernel_rfl) ?_
   exact oT (r := false) (xs := [.bool false]) (v := .bool false) (by kernel_rfl) (by kernel_rfl) (by kernel_rfl) (.pures (by kernel_rfl)) (by kernel_rfl)
  ·let E2 : Env := [(18, .int .i64 0), (17, .int .i64 (a0.length : Int)), (16, .str a0), (15, .bool false), (0, .str a0), (15, .bool z2)]
   refine oR 11 (p' := g16p6) (eE := E2) (H' := (mkH [])) (by kernel_rfl) ?_
   refine oK [0, 17, 18] (eE := [(0, .str a0), (17, .int .i64 (a0.length : Int)), (18, .int .i64 0)]) (by kernel_rfl) ?_
   exact (g16_l3_ok k a0 k) 0
 ·refine oS 6 (b := eqL a0 []) (by kernel_rfl) (fun hb => ?_) (fun hb => ?_)
  ·let E7 : Env := ((15, .bool true) :: (14, .tuple []) :: (13, .tuple []) :: (12, .bool true) :: (11, .bool true) :: (10, .tuple []) :: (9, .tuple []) :: (8, .tuple []) :: (7, .tuple []) :: (6, .bool true) :: E1)
   refine oR 10 (p' := g16p2) (eE := E7) (H' := (mkH [])) (by kernel_rfl) ?_
   refine oK [0, 15] (eE := [(0, .str a0), (15, .bool true)]) (by kernel_rfl) ?_
   exact hj2 true
  ·refine oR 1 (p' := (atN 4 (ctl1 g16p1))) (eE := ((7, .str a0) :: (6, .bool false) :: E1)) (H' := (mkH [])) (by kernel_rfl) ?_
   refine oH (fun (x0_4 : Int) => (.int .u8 x0_4, (mkH []))) (atN 5 (ctl1 g16p1)) (fun x0_4 => ((8, .int .u8 x0_4) :: (7, .str a0) :: (6, .bool false) :: E1)) (idxH (by kernel_rfl)) (fun _ => by kernel_rfl) (fun x0_4 hx0_4 => ?_)
   refine oC (fun (x0_5 : Int) => .int .i64 x0_5) (atN 6 (ctl1 g16p1)) (fun x0_5 => ((9, .int .i64 x0_5) :: (8, .int .u8 x0_4) :: (7, .str a0) :: (6, .bool false) :: E1)) (fi := 20) (args := [.int .u8 x0_4]) (by kernel_rfl) (by kernel_rfl) (fun _ => by kernel_rfl) (fun r h => g20_ok k x0_4 r h) (fun _ => by kernel_rfl) (fun x0_5 hx0_5 => ?_)
   let E8 : Env := ((12, .bool (!decide (x0_5 = 1))) :: (11, .bool (!decide (x0_5 = 1))) :: (10, .bool (!decide (x0_5 = 1))) :: (9, .int .i64 x0_5) :: (8, .int .u8 x0_4) :: (7, .str a0) :: (6, .bool false) :: E1)
   refine oR 3 (p' := (atN 9 (ctl1 g16p1))) (eE := E8) (H' := (mkH [])) (by kernel_rfl) ?_
   refine oS 12 (b := !decide (x0_5 = 1)) (by kernel_rfl) (fun hb => ?_) (fun hb => ?_)
   ·refine oR 4 (p' := g16p2) (eE := ((15, .bool true) :: (14, .tuple []) :: (13, .tuple []) :: (12, .bool true) :: E8)) (H' := (mkH [])) (by kernel_rfl) ?_
    refine oK [0, 15] (eE := [(0, .str a0), (15, .bool true)]) (by kernel_rfl) ?_
    exact hj2 true
   ·refine oR 1 (p' := (atN 10 (ctl1 g16p1))) (eE := ((13, .str a0) :: (12, .bool false) :: E8)) (H' := (mkH [])) (by kernel_rfl) ?_
    refine oC (fun (x0_10 : Bool) => .bool x0_10) (atN 11 (ctl1 g16p1)) (fun x0_10 => ((14, .bool x0_10) :: (13, .str a0) :: (12, .bool false) :: E8)) (fi := 14) (args := [.str a0]) (by kernel_rfl) (by kernel_rfl) (fun _ => by kernel_rfl) (fun r h => g14_ok k a0 r h) (fun _ => by kernel_rfl) (fun x0_10 hx0_10 => ?_)
    refine oR 2 (p' := g16p2) (eE := ((15, .bool x0_10) :: (14, .bool x0_10) :: (13, .str a0) :: (12, .bool false) :: E8)) (H' := (mkH [])) (by kernel_rfl) ?_
    refine oK [0, 15] (eE := [(0, .str a0), (15, .bool x0_10)]) (by kernel_rfl) ?_
    exact hj2 x0_10
end
end Go.Proofs.Ytnikdnchoahngaa.Am
set_option maxRecDepth 100000
set_option linter.unusedVariables false
namespace Go.Proofs.Ytnikdnchoahngaa.Am
noncomputable section
open Go
def X13 : Fx Bool := ⟨Try.prog, cx, Try.f13, fun r => .bool r, 0, fun _ => H0, cxTi, cxOrd⟩
def g13c0 : List Nat := [102, 111, 111, 64, 98, 97, 114, 49]
def g13p0 : Pt := nav [0] (bodyAt Try.f13)
def g13p1 : Pt := nav [0, 0, 0] g13p0
def g13 (k : Nat)  : Option Bool :=
 (g16 k g13c0).bind fun x0_0 => if x0_0 then ((g16 k ([101, 110, 100] : List Nat)).bind fun x0_2 => if (!x0_2) then ((g16 k ([70, 111, 111] : List Nat)).bind fun x0_6 => if (!x0_6) then ((g14 k ([120, 111, 114] : List Nat)).bind fun x0_10 => if x0_10 then ((g14 k ([120, 111] : List Nat)).bind fun x0_13 => if (!x0_13) then ((g20 k (95 : Int)).bind fun x0_17 => if (decide (x0_17 = 2)) then ((g18 k (64 : Int)).bind fun x0_21 => some x0_21) else (some false)) else (some false)) else (some false)) else (some false)) else (some false)) else (some false)
theorem g13_ok (k : Nat)  (r : Bool) (h : g13 k  = some r) : PureOk Try.prog 13 [] (.bool r) := by
 refine pure_of X13 (fun _ => rfl) Try.func13 (by decide +kernel) (by kernel_rfl) (t := g13 k ) ?_ h
 unfold g13
 refine oE (eE := []) (by kernel_rfl) ?_
 refine oR 6 (p' := (atN 0 (ctl1 g13p1))) (eE := [(0, .bool false)]) (H' := (mkH [])) (by kernel_rfl) ?_
 refine oC (fun (x0_0 : Bool) => .bool x0_0) (atN 1 (ctl1 g13p1)) (fun x0_0 => [(1, .bool x0_0), (0, .bool false)]) (fi := 16) (args := [.str g13c0]) (by kernel_rfl) (by kernel_rfl) (fun _ => by kernel_rfl) (fun r h => g16_ok k g13c0 r h) (fun _ => by kernel_rfl) (fun x0_0 hx0_0 => ?_)
 refine oR 1 (p' := (atN 2 (ctl1 g13p1))) (eE := [(2, .bool x0_0), (1, .bool x0_0), (0, .bool false)]) (H' := (mkH [])) (by kernel_rfl) ?_
 refine oS 2 (b := x0_0) (by kernel_rfl) (fun hb => ?_) (fun hb => ?_)
 ·refine oC (fun (x0_2 : Bool) => .bool x0_2) (atN 3 (ctl1 g13p1)) (fun x0_2 => [(3, .bool x0_2), (2, .bool true), (2, .bool x0_0), (1, .bool x0_0), (0, .bool false)]) (fi := 16) (args := [.str [101, 110, 100]]) (by kernel_rfl) (by kernel_rfl) (fun _ => by kernel_rfl) (fun r h => g16_ok k ([101, 110, 100] : List Nat) r h) (fun _ => by kernel_rfl) (fun x0_2 hx0_2 => ?_)
  let E1 : Env := [(6, .bool (!x0_2)), (5, .bool (!x0_2)), (4, .bool (!x0_2)), (3, .bool x0_2), (2, .bool true), (2, .bool x0_0), (1, .bool x0_0), (0, .bool false)]
  refine oR 3 (p' := (atN 6 (ctl1 g13p1))) (eE := E1) (H' := (mkH [])) (by kernel_rfl) ?_
  refine oS 6 (b := !x0_2) (by kernel_rfl) (fun hb => ?_) (fun hb => ?_)
  ·refine oC (fun (x0_6 : Bool) => .bool x0_6) (atN 7 (ctl1 g13p1)) (fun x0_6 => ((7, .bool x0_6) :: (6, .bool true) :: E1)) (fi := 16) (args := [.str [70, 111, 111]]) (by kernel_rfl) (by kernel_rfl) (fun _ => by kernel_rfl) (fun r h => g16_ok k ([70, 111, 111] : List Nat) r h) (fun _ => by kernel_rfl) (fun x0_6 hx0_6 => ?_)
   let E2 : Env := ((10, .bool (!x0_6)) :: (9, .bool (!x0_6)) :: (8, .bool (!x0_6)) :: (7, .bool x0_6) :: (6, .bool true) :: E1)
   refine oR 3 (p' := (atN 10 (ctl1 g13p1))) (eE := E2) (H' := (mkH [])) (by kernel_rfl) ?_
   refine oS 10 (b := !x0_6) (by kernel_rfl) (fun hb => ?_) (fun hb => ?_)
   ·refine oC (fun (x0_10 : Bool) => .bool x0_10) (atN 11 (ctl1 g13p1)) (fun x0_10 => ((11, .bool x0_10) :: (10, .bool true) :: E2)) (fi := 14) (args := [.str [120, 111, 114]]) (by kernel_rfl) (by kernel_rfl) (fun _ => by kernel_rfl) (fun r h => g14_ok k ([120, 111, 114] : List Nat) r h) (fun _ => by kernel_rfl) (fun x0_10 hx0_10 => ?_)
    refine oR 2 (p' := (atN 13 (ctl1 g13p1))) (eE := ((13, .bool x0_10) :: (12, .bool x0_10) :: (11, .bool x0_10) :: (10, .bool true) :: E2)) (H' := (mkH [])) (by kernel_rfl) ?_
    refine oS 13 (b := x0_10) (by kernel_rfl) (fun hb => ?_) (fun hb => ?_)
    ·refine oC (fun (x0_13 : Bool) => .bool x0_13) (atN 14 (ctl1 g13p1)) (fun x0_13 => ((14, .bool x0_13) :: (13, .bool true) :: (13, .bool x0_10) :: (12, .bool x0_10) :: (11, .bool x0_10) :: (10, .bool true) :: E2)) (fi := 14) (args := [.str [120, 111]]) (by kernel_rfl) (by kernel_rfl) (fun _ => by kernel_rfl) (fun r h => g14_ok k ([120, 111] : List Nat) r h) (fun _ => by kernel_rfl) (fun x0_13 hx0_13 => ?_)
     let E3 : Env := ((17, .bool (!x0_13)) :: (16, .bool (!x0_13)) :: (15, .bool (!x0_13)) :: (14, .bool x0_13) :: (13, .bool true) :: (13, .bool x0_10) :: (12, .bool x0_10) :: (11, .bool x0_10) :: (10, .bool true) :: E2)
     refine oR 3 (p' := (atN 17 (ctl1 g13p1))) (eE := E3) (H' := (mkH [])) (by kernel_rfl) ?_
     refine oS 17 (b := !x0_13) (by kernel_rfl) (fun hb => ?_) (fun hb => ?_)
     ·refine oC (fun (x0_17 : Int) => .int .i64 x0_17) (atN 18 (ctl1 g13p1)) (fun x0_17 => ((18, .int .i64 x0_17) :: (17, .bool true) :: E3)) (fi := 20) (args := [.int .u8 95]) (by kernel_rfl) (by kernel_rfl) (fun _ => by kernel_rfl) (fun r h => g20_ok k (95 : Int) r h) (fun _ => by kernel_rfl) (fun x0_17 hx0_17 => ?_)
      let E4 : Env := ((21, .bool (decide (x0_17 = 2))) :: (20, .bool (decide (x0_17 = 2))) :: (19, .bool (decide (x0_17 = 2))) :: (18, .int .i64 x0_17) :: (17, .bool true) :: E3)
      refine oR 3 (p' := (atN 21 (ctl1 g13p1))) (eE := E4) (H' := (mkH [])) (by kernel_rfl) ?_
      refine oS 21 (b := decide (x0_17 = 2)) (by kernel_rfl) (fun hb => ?_) (fun hb => ?_)
      ·refine oC (fun (x0_21 : Bool) => .bool x0_21) (atN 22 (ctl1 g13p1)) (fun x0_21 => ((22, .bool x0_21) :: (21, .bool true) :: E4)) (fi := 18) (args := [.int .u8 64]) (by kernel_rfl) (by kernel_rfl) (fun _ => by kernel_rfl) (fun r h => g18_ok k (64 : Int) r h) (fun _ => by kernel_rfl) (fun x0_21 hx0_21 => ?_)
       refine oR 4 (p' := .fin) (eE := ((0, .bool x0_21) :: (23, .bool x0_21) :: (22, .bool x0_21) :: (21, .bool true) :: E4)) (H' := (mkH [])) (by kernel_rfl) ?_
       exact oT (r := x0_21) (xs := [.bool x0_21]) (v := .bool x0_21) (by kernel_rfl) (by kernel_rfl) (by kernel_rfl) (.pures (by kernel_rfl)) (by kernel_rfl)
      ·refine oR 5 (p' := .fin) (eE := ((0, .bool false) :: (23, .bool false) :: (22, .tuple []) :: (21, .bool false) :: E4)) (H' := (mkH [])) (by kernel_rfl) ?_
       exact oT (r := false) (xs := [.bool false]) (v := .bool false) (by kernel_rfl) (by kernel_rfl) (by kernel_rfl) (.pures (by kernel_rfl)) (by kernel_rfl)
     ·let E5 : Env := ((0, .bool false) :: (23, .bool false) :: (22, .tuple []) :: (21, .bool false) :: (20, .bool false) :: (19, .tuple []) :: (18, .tuple []) :: (17, .bool false) :: E3)
      refine oR 9 (p' := .fin) (eE := E5) (H' := (mkH [])) (by kernel_rfl) ?_
      exact oT (r := false) (xs := [.bool false]) (v := .bool false) (by kernel_rfl) (by kernel_rfl) (by kernel_rfl) (.pures (by kernel_rfl)) (by kernel_rfl)
    ·let E6 : Env := ((0, .bool false) :: (23, .bool false) :: (22, .tuple []) :: (21, .bool false) :: (20, .bool false) :: (19, .tuple []) :: (18, .tuple []) :: (17, .bool false) :: (16, .bool false) :: (15, .tuple []) :: (14, .tuple []) :: (13, .bool false) :: (13, .bool x0_10) :: (12, .bool x0_10) :: (11, .bool x0_10) :: (10, .bool true) :: E2)
     refine oR 13 (p' := .fin) (eE := E6) (H' := (mkH [])) (by kernel_rfl) ?_
     exact oT (r := false) (xs := [.bool false]) (v := .bool false) (by kernel_rfl) (by kernel_rfl) (by kernel_rfl) (.pures (by kernel_rfl)) (by kernel_rfl)
   ·let E7 : Env := ((0, .bool false) :: (23, .bool false) :: (22, .tuple []) :: (21, .bool false) :: (20, .bool false) :: (19, .tuple []) :: (18, .tuple []) :: (17, .bool false) :: (16, .bool false) :: (15, .tuple []) :: (14, .tuple []) :: (13, .bool false) :: (12, .bool false) :: (11, .tuple []) :: (10, .bool false) :: E2)
    refine oR 16 (p' := .fin) (eE := E7) (H' := (mkH [])) (by kernel_rfl) ?_
    exact oT (r := false) (xs := [.bool false]) (v := .bool false) (by kernel_rfl) (by kernel_rfl) (by kernel_rfl) (.pures (by kernel_rfl)) (by kernel_rfl)
  ·let E8 : Env := ((0, .bool false) :: (23, .bool false) :: (22, .tuple []) :: (21, .bool false) :: (20, .bool false) :: (19, .tuple []) :: (18, .tuple []) :: (17, .bool false) :: (16, .bool false) :: (15, .tuple []) :: (14, .tuple []) :: (13, .bool false) :: (12, .bool false) :: (11, .tuple []) :: (10, .bool false) :: (9, .bool false) :: (8, .tuple []) :: (7, .tuple []) :: (6, .bool false) :: E1)
   refine oR 20 (p' := .fin) (eE := E8) (H' := (mkH [])) (by kernel_rfl) ?_
   exact oT (r := false) (xs := [.bool false]) (v := .bool false) (by kernel_rfl) (by kernel_rfl) (by kernel_rfl) (.pures (by kernel_rfl)) (by kernel_rfl)
 ·let E9 : Env := [(0, .bool false), (23, .bool false), (22, .tuple []), (21, .bool false), (20, .bool false), (19, .tuple []), (18, .tuple []), (17, .bool false), (16, .bool false), (15, .tuple []), (14, .tuple []), (13, .bool false), (12, .bool false), (11, .tuple []), (10, .bool false), (9, .bool false), (8, .tuple []), (7, .tuple []), (6, .bool false), (5, .bool false), (4, .tuple []), (3, .tuple []), (2, .bool false), (2, .bool x0_0), (1, .bool x0_0), (0, .bool false)]
  refine oR 24 (p' := .fin) (eE := E9) (H' := (mkH [])) (by kernel_rfl) ?_
  exact oT (r := false) (xs := [.bool false]) (v := .bool false) (by kernel_rfl) (by kernel_rfl) (by kernel_rfl) (.pures (by kernel_rfl)) (by kernel_rfl)
end
end Go.Proofs.Ytnikdnchoahngaa.Am
set_option maxRecDepth 100000
set_option linter.unusedVariables false
namespace Go.Proofs.Ytnikdnchoahngaa.Am
noncomputable section
open Go
def X6 : Fx Bool := ⟨Try.prog, cx, Try.f6, fun r => .bool r, 0, fun _ => H0, cxTi, cxOrd⟩
def g6c0 : List Nat := [97, 98, 99, 100, 101, 102, 103, 104, 105, 106, 107, 108, 109, 110, 111, 112, 113, 114, 115, 116, 117, 118, 119, 120, 121, 122, 65, 66, 67, 88, 89, 90, 48, 49, 50, 57, 95, 64]
def g6p0 : Pt := nav [0] (bodyAt Try.f6)
def g6p1 : Pt := nav [0, 0, 0, 0] g6p0
def g6p2 : Pt := nav [0, 0] g6p1
def g6p3 : Pt := nav [1, 0] g6p2
def g6p4 : Pt := nav [2, 0, 0] g6p2
def g6p6 : Pt := nav [0, 0, 0] g6p4
def g6p7 : Pt := nav [0, 0, 0, 0] g6p6
def g6p8 : Pt := nav [0, 0, 0, 0] g6p7
def g6p9 : Pt := nav [0, 0, 0] g6p8
def g6p10 : Pt := nav [0, 0] g6p9
def g6p11 : Pt := nav [1, 0, 0, 0, 0] g6p10
def g6p12 : Pt := nav [2, 0, 0] g6p10
def g6p13 : Pt := nav [0, 0] g6p11
def g6p14 : Pt := nav [0, 0, 0] g6p12
def g6p15 : Pt := nav [0, 0] g6p13
def g6p16 : Pt := nav [0, 0] g6p14
def g6_l8 (k : Nat)  (a0 : (List Int)) (a1 : Int) (a2 : Int) (n : Nat) : (List Nat) → Int → Option Bool :=
 Nat.rec (motive := fun _ => (List Nat) → Int → Option Bool) (fun _ _ => none) (fun _ ih => fun (y8_0 : (List Nat)) (y8_1 : Int) => if (decide (y8_1 < (a0.length : Int))) then ((nthL a0 y8_1).bind fun x2_2 => (subL g6c0 (some (fW .i64 ((fW .u64 x2_2).tmod 38))) (some (fW .i64 (fW .i64 ((fW .u64 x2_2).tmod 38) + 1)))).bind fun x3_5 => (catS y8_0 x3_5).bind fun x3_6 => ih x3_6 (fW .i64 (y8_1 + 1))) else ((remS (fW .u64 a1) (fW .u64 (y8_0.length : Int))).bind fun x4_5 => (subL y8_0 none (some (fW .i64 (1 + fW .i64 x4_5)))).bind fun x5_2 => (toS ([a2] : List Int)).bind fun x5_5 => (catS x5_2 x5_5).bind fun x5_6 => (subL y8_0 (some (fW .i64 (1 + fW .i64 x4_5))) none).bind fun x5_9 => (catS x5_6 x5_9).bind fun x5_10 => (g13 k).bind fun x6_0 => if x6_0 then ((g16 k y8_0).bind fun x6_3 => (g14 k y8_0).bind fun x6_5 => if (x6_3 == (!x6_5)) then ((g16 k x5_10).bind fun x6_11 => if x6_11 then ((g18 k a2).bind fun x6_17 => if (true == x6_17) then ((catS ([65] : List Nat) y8_0).bind fun x6_22 => (g16 k x6_22).bind fun x6_23 => if (!x6_23) then ((g16 k ([] : List Nat)).bind fun x6_27 => if (!x6_27) then ((nthS y8_0 0).bind fun x6_32 => (g20 k x6_32).bind fun x6_33 => some (decide (x6_33 = 1))) else (some false)) else (some false)) else (some false)) else ((g14 k x5_10).bind fun x6_14 => (g18 k a2).bind fun x6_17 => if (x6_14 == x6_17) then ((catS ([65] : List Nat) y8_0).bind fun x6_22 => (g16 k x6_22).bind fun x6_23 => if (!x6_23) then ((g16 k ([] : List Nat)).bind fun x6_27 => if (!x6_27) then ((nthS y8_0 0).bind fun x6_32 => (g20 k x6_32).bind fun x6_33 => some (decide (x6_33 = 1))) else (some false)) else (some false)) else (some false))) else (some false)) else (some false))) n
theorem g6_l8_s (k : Nat)  (a0 : (List Int)) (a1 : Int) (a2 : Int) (n : Nat) (y8_0 : (List Nat)) (y8_1 : Int) : g6_l8 k a0 a1 a2 (n + 1) y8_0 y8_1 = (if (decide (y8_1 < (a0.length : Int))) then ((nthL a0 y8_1).bind fun x2_2 => (subL g6c0 (some (fW .i64 ((fW .u64 x2_2).tmod 38))) (some (fW .i64 (fW .i64 ((fW .u64 x2_2).tmod 38) + 1)))).bind fun x3_5 => (catS y8_0 x3_5).bind fun x3_6 => (g6_l8 k a0 a1 a2 n) x3_6 (fW .i64 (y8_1 + 1))) else ((remS (fW .u64 a1) (fW .u64 (y8_0.length : Int))).bind fun x4_5 => (subL y8_0 none (some (fW .i64 (1 + fW .i64 x4_5)))).bind fun x5_2 => (toS ([a2] : List Int)).bind fun x5_5 => (catS x5_2 x5_5).bind fun x5_6 => (subL y8_0 (some (fW .i64 (1 + fW .i64 x4_5))) none).bind fun x5_9 => (catS x5_6 x5_9).bind fun x5_10 => (g13 k).bind fun x6_0 => if x6_0 then ((g16 k y8_0).bind fun x6_3 => (g14 k y8_0).bind fun x6_5 => if (x6_3 == (!x6_5)) then ((g16 k x5_10).bind fun x6_11 => if x6_11 then ((g18 k a2).bind fun x6_17 => if (true == x6_17) then ((catS ([65] : List Nat) y8_0).bind fun x6_22 => (g16 k x6_22).bind fun x6_23 => if (!x6_23) then ((g16 k ([] : List Nat)).bind fun x6_27 => if (!x6_27) then ((nthS y8_0 0).bind fun x6_32 => (g20 k x6_32).bind fun x6_33 => some (decide (x6_33 = 1))) else (some false)) else (some false)) else (some false)) else ((g14 k x5_10).bind fun x6_14 => (g18 k a2).bind fun x6_17 => if (x6_14 == x6_17) then ((catS ([65] : List Nat) y8_0).bind fun x6_22 => (g16 k x6_22).bind fun x6_23 => if (!x6_23) then ((g16 k ([] : List Nat)).bind fun x6_27 => if (!x6_27) then ((nthS y8_0 0).bind fun x6_32 => (g20 k x6_32).bind fun x6_33 => some (decide (x6_33 = 1))) else (some false)) else (some false)) else (some false))) else (some false)) else (some false))) := rfl
theorem g6_l8_ok (k : Nat)  (a0 : (List Int)) (a1 : Int) (a2 : Int)  : ∀ (n : Nat) (y8_0 : (List Nat)) (y8_1 : Int), Ok X6 g6p8 [(0, .vec (a0).length 1 ((a0).flatMap e3)), (1, .int .i64 a1), (2, .int .u8 a2), (7, .str g6c0), (8, .str y8_0), (9, .int .i64 y8_1)] (mkH []) (g6_l8 k a0 a1 a2 n y8_0 y8_1)
 | 0, _, _ => ok_none
 | n + 1, y8_0, y8_1 => by
  have ih := g6_l8_ok k a0 a1 a2 n
  rw [g6_l8_s]
  refine ok_ent (p' := nav [0] g6p8) (by kernel_rfl) ?_
  let E6 : Env := [(34, .bool (decide (y8_1 < (a0.length : Int)))), (33, .int .i64 (a0.length : Int)), (32, .vec (a0).length 1 ((a0).flatMap e3)), (31, .int .i64 y8_1), (0, .vec (a0).length 1 ((a0).flatMap e3)), (1, .int .i64 a1), (2, .int .u8 a2), (7, .str g6c0), (8, .str y8_0), (9, .int .i64 y8_1)]
  refine oR 8 (p' := g6p10) (eE := E6) (H' := (mkH [])) (by kernel_rfl) ?_
  refine oS 34 (b := decide (y8_1 < (a0.length : Int))) (by kernel_rfl) (fun hb => ?_) (fun hb => ?_)
  ·refine oR 8 (p' := (atN 2 (ctl1 g6p11))) (eE := ((38, .int .i64 y8_1) :: (37, .vec (a0).length 1 ((a0).flatMap e3)) :: (34, .bool true) :: E6)) (H' := (mkH [])) (by kernel_rfl) ?_
   refine oH (fun (x2_2 : Int) => (.vptr [.int .i64 x2_2], (mkH []))) (atN 3 (ctl1 g6p11)) (fun x2_2 => ((39, .vptr [.int .i64 x2_2]) :: (38, .int .i64 y8_1) :: (37, .vec (a0).length 1 ((a0).flatMap e3)) :: (34, .bool true) :: E6)) (vidxH (sz := 1) e3_len (by kernel_rfl)) (fun _ => by kernel_rfl) (fun x2_2 hx2_2 => ?_)
   let E7 : Env := ((10, .int .i64 (fW .i64 ((fW .u64 x2_2).tmod 38))) :: (46, .int .i64 (fW .i64 ((fW .u64 x2_2).tmod 38))) :: (45, .int .u64 ((fW .u64 x2_2).tmod 38)) :: (44, .int .u64 38) :: (43, .int .i64 38) :: (42, .str g6c0) :: (41, .int .u64 (fW .u64 x2_2)) :: (40, .int .i64 x2_2) :: (39, .vptr [.int .i64 x2_2]) :: (38, .int .i64 y8_1) :: (37, .vec (a0).length 1 ((a0).flatMap e3)) :: (34, .bool true) :: E6)
   refine oR 9 (p' := g6p13) (eE := E7) (H' := (mkH [])) (by kernel_rfl) ?_
   refine oK [0, 1, 2, 7, 8, 9, 10] (eE := [(0, .vec (a0).length 1 ((a0).flatMap e3)), (1, .int .i64 a1), (2, .int .u8 a2), (7, .str g6c0), (8, .str y8_0), (9, .int .i64 y8_1), (10, .int .i64 (fW .i64 ((fW .u64 x2_2).tmod 38)))]) (by kernel_rfl) ?_
   let E8 : Env := [(51, .int .i64 (fW .i64 (fW .i64 ((fW .u64 x2_2).tmod 38) + 1))), (50, .int .i64 (fW .i64 ((fW .u64 x2_2).tmod 38))), (49, .int .i64 (fW .i64 ((fW .u64 x2_2).tmod 38))), (48, .str g6c0), (47, .str y8_0), (0, .vec (a0).length 1 ((a0).flatMap e3)), (1, .int .i64 a1), (2, .int .u8 a2), (7, .str g6c0), (8, .str y8_0), (9, .int .i64 y8_1), (10, .int .i64 (fW .i64 ((fW .u64 x2_2).tmod 38)))]
   refine oR 6 (p' := (atN 5 (ctl1 g6p13))) (eE := E8) (H' := (mkH [])) (by kernel_rfl) ?_
   refine oH (fun (x3_5 : (List Nat)) => (.str x3_5, (mkH []))) (atN 6 (ctl1 g6p13)) (fun x3_5 => ((52, .str x3_5) :: E8)) (subH (some (fW .i64 ((fW .u64 x2_2).tmod 38))) (some (fW .i64 (fW .i64 ((fW .u64 x2_2).tmod 38) + 1))) (by kernel_rfl)) (fun _ => by kernel_rfl) (fun x3_5 hx3_5 => ?_)
   refine oH (fun (x3_6 : (List Nat)) => (.str x3_6, (mkH []))) (atN 7 (ctl1 g6p13)) (fun x3_6 => ((53, .str x3_6) :: (52, .str x3_5) :: E8)) (catH (by kernel_rfl)) (fun _ => by kernel_rfl) (fun x3_6 hx3_6 => ?_)
   refine oR 2 (p' := g6p15) (eE := ((8, .str x3_6) :: (53, .str x3_6) :: (52, .str x3_5) :: E8)) (H' := (mkH [])) (by kernel_rfl) ?_
   refine oK [0, 1, 2, 7, 8, 9] (eE := [(0, .vec (a0).length 1 ((a0).flatMap e3)), (1, .int .i64 a1), (2, .int .u8 a2), (7, .str g6c0), (8, .str x3_6), (9, .int .i64 y8_1)]) (by kernel_rfl) ?_
   let E9 : Env := [(9, .int .i64 (fW .i64 (y8_1 + 1))), (36, .int .i64 (fW .i64 (y8_1 + 1))), (35, .int .i64 y8_1), (0, .vec (a0).length 1 ((a0).flatMap e3)), (1, .int .i64 a1), (2, .int .u8 a2), (7, .str g6c0), (8, .str x3_6), (9, .int .i64 y8_1)]
   refine oR 5 (p' := g6p8) (eE := E9) (H' := (mkH [])) (by kernel_rfl) ?_
   refine oK [0, 1, 2, 7, 8, 9] (eE := [(0, .vec (a0).length 1 ((a0).flatMap e3)), (1, .int .i64 a1), (2, .int .u8 a2), (7, .str g6c0), (8, .str x3_6), (9, .int .i64 (fW .i64 (y8_1 + 1)))]) (by kernel_rfl) ?_
   exact ih x3_6 (fW .i64 (y8_1 + 1))
  ·let E10 : Env := ((58, .int .u64 (fW .u64 (y8_0.length : Int))) :: (57, .int .i64 (y8_0.length : Int)) :: (56, .str y8_0) :: (55, .int .u64 (fW .u64 a1)) :: (54, .int .i64 a1) :: (34, .bool false) :: E6)
   refine oR 9 (p' := (atN 5 (ctl1 g6p12))) (eE := E10) (H' := (mkH [])) (by kernel_rfl) ?_
   refine oH (fun (x4_5 : Int) => (.int .u64 x4_5, (mkH []))) (atN 6 (ctl1 g6p12)) (fun x4_5 => ((59, .int .u64 x4_5) :: E10)) (remH (by kernel_rfl)) (fun _ => by kernel_rfl) (fun x4_5 hx4_5 => ?_)
   refine oR 5 (p' := g6p14) (eE := ((11, .int .i64 (fW .i64 (1 + fW .i64 x4_5))) :: (61, .int .i64 (fW .i64 (1 + fW .i64 x4_5))) :: (60, .int .i64 (fW .i64 x4_5)) :: (59, .int .u64 x4_5) :: E10)) (H' := (mkH [])) (by kernel_rfl) ?_
   refine oK [2, 8, 11] (eE := [(2, .int .u8 a2), (8, .str y8_0), (11, .int .i64 (fW .i64 (1 + fW .i64 x4_5)))]) (by kernel_rfl) ?_
   refine ok_bind (fun x5_2 hx5_2 => ?_)
   refine ok_bind (fun x5_5 hx5_5 => ?_)
   refine ok_bind (fun x5_6 hx5_6 => ?_)
   refine ok_bind (fun x5_9 hx5_9 => ?_)
   refine ok_bind (fun x5_10 hx5_10 => ?_)
   let E11 : Env := [(63, .int .i64 (fW .i64 (1 + fW .i64 x4_5))), (62, .str y8_0), (2, .int .u8 a2), (8, .str y8_0), (11, .int .i64 (fW .i64 (1 + fW .i64 x4_5)))]
   let E12 : Env := ((68, .str x5_6) :: (67, .str x5_5) :: (66, .slice 0 1 0 1 1) :: (65, .int .u8 a2) :: (64, .str x5_2) :: E11)
   let E13 : Env := ((12, .str x5_10) :: (72, .str x5_10) :: (71, .str x5_9) :: (70, .int .i64 (fW .i64 (1 + fW .i64 x4_5))) :: (69, .str y8_0) :: E12)
   refine ok_draw (p' := nav [0] g6p14) (eE := E13) (H' := (mkH [⟨[.int .u8 a2], 0, false⟩])) (hs := [(mkH [⟨[.int .u8 a2], 0, false⟩])]) [(0, 0, 0), (0, 0, 0), (3, 0, 0), (0, 0, 0), (8, 0, 0), (24, 1, 1), (63, 0, 0), (0, 0, 0), (0, 0, 0), (384, 0, 0), (1023, 0, 0), (2047, 0, 0)] (by kernel_rfl) (by kernel_rfl) (by kernel_rfl) (opsD_run 2 (l' := (opsAt g6p14).toList.drop 2) (eE := E11) (H' := (mkH [])) (hs := []) (by kernel_rfl) (opsD_chk (l' := (opsAt g6p14).toList.drop 3) (eE := ((64, .str x5_2) :: E11)) (hs := []) (x := x5_2) (fun (x5_2 : (List Nat)) => (.str x5_2, (mkH []))) (subH none (some (fW .i64 (1 + fW .i64 x4_5))) (by kernel_rfl)) hx5_2 (by kernel_rfl) (opsD_run 2 (l' := (opsAt g6p14).toList.drop 5) (eE := ((66, .slice 0 1 0 1 1) :: (65, .int .u8 a2) :: (64, .str x5_2) :: E11)) (H' := (mkH [⟨[.int .u8 a2], 0, false⟩])) (hs := [(mkH [⟨[.int .u8 a2], 0, false⟩])]) (by kernel_rfl) (opsD_chk (l' := (opsAt g6p14).toList.drop 6) (eE := ((67, .str x5_5) :: (66, .slice 0 1 0 1 1) :: (65, .int .u8 a2) :: (64, .str x5_2) :: E11)) (hs := []) (x := x5_5) (fun (x5_5 : (List Nat)) => (.str x5_5, (mkH [⟨[.int .u8 a2], 0, false⟩]))) (toSE [a2] (by kernel_rfl)) hx5_5 (by kernel_rfl) (opsD_chk (l' := (opsAt g6p14).toList.drop 7) (eE := E12) (hs := []) (x := x5_6) (fun (x5_6 : (List Nat)) => (.str x5_6, (mkH [⟨[.int .u8 a2], 0, false⟩]))) (catH (by kernel_rfl)) hx5_6 (by kernel_rfl) (opsD_run 2 (l' := (opsAt g6p14).toList.drop 9) (eE := ((70, .int .i64 (fW .i64 (1 + fW .i64 x4_5))) :: (69, .str y8_0) :: E12)) (H' := (mkH [⟨[.int .u8 a2], 0, false⟩])) (hs := []) (by kernel_rfl) (opsD_chk (l' := (opsAt g6p14).toList.drop 10) (eE := ((71, .str x5_9) :: (70, .int .i64 (fW .i64 (1 + fW .i64 x4_5))) :: (69, .str y8_0) :: E12)) (hs := []) (x := x5_9) (fun (x5_9 : (List Nat)) => (.str x5_9, (mkH [⟨[.int .u8 a2], 0, false⟩]))) (subH (some (fW .i64 (1 + fW .i64 x4_5))) none (by kernel_rfl)) hx5_9 (by kernel_rfl) (opsD_chk (l' := (opsAt g6p14).toList.drop 11) (eE := ((72, .str x5_10) :: (71, .str x5_9) :: (70, .int .i64 (fW .i64 (1 + fW .i64 x4_5))) :: (69, .str y8_0) :: E12)) (hs := []) (x := x5_10) (fun (x5_10 : (List Nat)) => (.str x5_10, (mkH [⟨[.int .u8 a2], 0, false⟩]))) (catH (by kernel_rfl)) hx5_10 (by kernel_rfl) (opsD_run 1 (l' := (opsAt g6p14).toList.drop 12) (eE := E13) (H' := (mkH [⟨[.int .u8 a2], 0, false⟩])) (hs := []) (by kernel_rfl) (.nil)))))))))) (by kernel_rfl) (by kernel_rfl) (by kernel_rfl) ?_
   refine oR 2 (p' := (atN 0 (ctl1 g6p16))) (eE := E13) (H' := (mkH [⟨[.int .u8 a2], 0, false⟩])) (by kernel_rfl) ?_
   refine oC (fun (x6_0 : Bool) => .bool x6_0) (atN 1 (ctl1 g6p16)) (fun x6_0 => ((73, .bool x6_0) :: E13)) (fi := 13) (args := []) (by kernel_rfl) (by kernel_rfl) (fun _ => by kernel_rfl) (fun r h => g13_ok k  r h) (fun _ => by kernel_rfl) (fun x6_0 hx6_0 => ?_)
   refine oR 1 (p' := (atN 2 (ctl1 g6p16))) (eE := ((74, .bool x6_0) :: (73, .bool x6_0) :: E13)) (H' := (mkH [⟨[.int .u8 a2], 0, false⟩])) (by kernel_rfl) ?_
   refine oS 74 (b := x6_0) (by kernel_rfl) (fun hb => ?_) (fun hb => ?_)
   ·refine oR 1 (p' := (atN 3 (ctl1 g6p16))) (eE := ((75, .str y8_0) :: (74, .bool true) :: (74, .bool x6_0) :: (73, .bool x6_0) :: E13)) (H' := (mkH [⟨[.int .u8 a2], 0, false⟩])) (by kernel_rfl) ?_
    refine oC (fun (x6_3 : Bool) => .bool x6_3) (atN 4 (ctl1 g6p16)) (fun x6_3 => ((76, .bool x6_3) :: (75, .str y8_0) :: (74, .bool true) :: (74, .bool x6_0) :: (73, .bool x6_0) :: E13)) (fi := 16) (args := [.str y8_0]) (by kernel_rfl) (by kernel_rfl) (fun _ => by kernel_rfl) (fun r h => g16_ok k y8_0 r h) (fun _ => by kernel_rfl) (fun x6_3 hx6_3 => ?_)
    let E14 : Env := ((77, .str y8_0) :: (76, .bool x6_3) :: (75, .str y8_0) :: (74, .bool true) :: (74, .bool x6_0) :: (73, .bool x6_0) :: E13)
    refine oR 1 (p' := (atN 5 (ctl1 g6p16))) (eE := E14) (H' := (mkH [⟨[.int .u8 a2], 0, false⟩])) (by kernel_rfl) ?_
    refine oC (fun (x6_5 : Bool) => .bool x6_5) (atN 6 (ctl1 g6p16)) (fun x6_5 => ((78, .bool x6_5) :: E14)) (fi := 14) (args := [.str y8_0]) (by kernel_rfl) (by kernel_rfl) (fun _ => by kernel_rfl) (fun r h => g14_ok k y8_0 r h) (fun _ => by kernel_rfl) (fun x6_5 hx6_5 => ?_)
    let E15 : Env := ((82, .bool (x6_3 == (!x6_5))) :: (81, .bool (x6_3 == (!x6_5))) :: (80, .bool (x6_3 == (!x6_5))) :: (79, .bool (!x6_5)) :: (78, .bool x6_5) :: E14)
    refine oR 4 (p' := (atN 10 (ctl1 g6p16))) (eE := E15) (H' := (mkH [⟨[.int .u8 a2], 0, false⟩])) (by kernel_rfl) ?_
    refine oS 82 (b := (x6_3 == (!x6_5))) (by kernel_rfl) (fun hb => ?_) (fun hb => ?_)
    ·refine oR 1 (p' := (atN 11 (ctl1 g6p16))) (eE := ((83, .str x5_10) :: (82, .bool true) :: E15)) (H' := (mkH [⟨[.int .u8 a2], 0, false⟩])) (by kernel_rfl) ?_
     refine oC (fun (x6_11 : Bool) => .bool x6_11) (atN 12 (ctl1 g6p16)) (fun x6_11 => ((84, .bool x6_11) :: (83, .str x5_10) :: (82, .bool true) :: E15)) (fi := 16) (args := [.str x5_10]) (by kernel_rfl) (by kernel_rfl) (fun _ => by kernel_rfl) (fun r h => g16_ok k x5_10 r h) (fun _ => by kernel_rfl) (fun x6_11 hx6_11 => ?_)
     refine oR 1 (p' := (atN 13 (ctl1 g6p16))) (eE := ((85, .bool x6_11) :: (84, .bool x6_11) :: (83, .str x5_10) :: (82, .bool true) :: E15)) (H' := (mkH [⟨[.int .u8 a2], 0, false⟩])) (by kernel_rfl) ?_
     refine oS 85 (b := x6_11) (by kernel_rfl) (fun hb => ?_) (fun hb => ?_)
     ·let E16 : Env := ((89, .int .u8 a2) :: (88, .bool true) :: (87, .tuple []) :: (86, .tuple []) :: (85, .bool true) :: (85, .bool x6_11) :: (84, .bool x6_11) :: (83, .str x5_10) :: (82, .bool true) :: E15)
      refine oR 4 (p' := (atN 17 (ctl1 g6p16))) (eE := E16) (H' := (mkH [⟨[.int .u8 a2], 0, false⟩])) (by kernel_rfl) ?_
      refine oC (fun (x6_17 : Bool) => .bool x6_17) (atN 18 (ctl1 g6p16)) (fun x6_17 => ((90, .bool x6_17) :: E16)) (fi := 18) (args := [.int .u8 a2]) (by kernel_rfl) (by kernel_rfl) (fun _ => by kernel_rfl) (fun r h => g18_ok k a2 r h) (fun _ => by kernel_rfl) (fun x6_17 hx6_17 => ?_)
      refine oR 3 (p' := (atN 21 (ctl1 g6p16))) (eE := ((93, .bool (true == x6_17)) :: (92, .bool (true == x6_17)) :: (91, .bool (true == x6_17)) :: (90, .bool x6_17) :: E16)) (H' := (mkH [⟨[.int .u8 a2], 0, false⟩])) (by kernel_rfl) ?_
      refine oS 93 (b := (true == x6_17)) (by kernel_rfl) (fun hb => ?_) (fun hb => ?_)
      ·let E17 : Env := ((94, .str y8_0) :: (93, .bool true) :: (93, .bool (true == x6_17)) :: (92, .bool (true == x6_17)) :: (91, .bool (true == x6_17)) :: (90, .bool x6_17) :: E16)
       refine oR 1 (p' := (atN 22 (ctl1 g6p16))) (eE := E17) (H' := (mkH [⟨[.int .u8 a2], 0, false⟩])) (by kernel_rfl) ?_
       refine oH (fun (x6_22 : (List Nat)) => (.str x6_22, (mkH [⟨[.int .u8 a2], 0, false⟩]))) (atN 23 (ctl1 g6p16)) (fun x6_22 => ((95, .str x6_22) :: E17)) (catH (by kernel_rfl)) (fun _ => by kernel_rfl) (fun x6_22 hx6_22 => ?_)
       refine oC (fun (x6_23 : Bool) => .bool x6_23) (atN 24 (ctl1 g6p16)) (fun x6_23 => ((96, .bool x6_23) :: (95, .str x6_22) :: E17)) (fi := 16) (args := [.str x6_22]) (by kernel_rfl) (by kernel_rfl) (fun _ => by kernel_rfl) (fun r h => g16_ok k x6_22 r h) (fun _ => by kernel_rfl) (fun x6_23 hx6_23 => ?_)
       let E18 : Env := ((99, .bool (!x6_23)) :: (98, .bool (!x6_23)) :: (97, .bool (!x6_23)) :: (96, .bool x6_23) :: (95, .str x6_22) :: E17)
       refine oR 3 (p' := (atN 27 (ctl1 g6p16))) (eE := E18) (H' := (mkH [⟨[.int .u8 a2], 0, false⟩])) (by kernel_rfl) ?_
       refine oS 99 (b := !x6_23) (by kernel_rfl) (fun hb => ?_) (fun hb => ?_)
       ·refine oC (fun (x6_27 : Bool) => .bool x6_27) (atN 28 (ctl1 g6p16)) (fun x6_27 => ((100, .bool x6_27) :: (99, .bool true) :: E18)) (fi := 16) (args := [.str []]) (by kernel_rfl) (by kernel_rfl) (fun _ => by kernel_rfl) (fun r h => g16_ok k ([] : List Nat) r h) (fun _ => by kernel_rfl) (fun x6_27 hx6_27 => ?_)
        let E19 : Env := ((103, .bool (!x6_27)) :: (102, .bool (!x6_27)) :: (101, .bool (!x6_27)) :: (100, .bool x6_27) :: (99, .bool true) :: E18)
        refine oR 3 (p' := (atN 31 (ctl1 g6p16))) (eE := E19) (H' := (mkH [⟨[.int .u8 a2], 0, false⟩])) (by kernel_rfl) ?_
        refine oS 103 (b := !x6_27) (by kernel_rfl) (fun hb => ?_) (fun hb => ?_)
        ·refine oR 1 (p' := (atN 32 (ctl1 g6p16))) (eE := ((104, .str y8_0) :: (103, .bool true) :: E19)) (H' := (mkH [⟨[.int .u8 a2], 0, false⟩])) (by kernel_rfl) ?_
         refine oH (fun (x6_32 : Int) => (.int .u8 x6_32, (mkH [⟨[.int .u8 a2], 0, false⟩]))) (atN 33 (ctl1 g6p16)) (fun x6_32 => ((105, .int .u8 x6_32) :: (104, .str y8_0) :: (103, .bool true) :: E19)) (idxH (by kernel_rfl)) (fun _ => by kernel_rfl) (fun x6_32 hx6_32 => ?_)
         refine oC (fun (x6_33 : Int) => .int .i64 x6_33) (atN 34 (ctl1 g6p16)) (fun x6_33 => ((106, .int .i64 x6_33) :: (105, .int .u8 x6_32) :: (104, .str y8_0) :: (103, .bool true) :: E19)) (fi := 20) (args := [.int .u8 x6_32]) (by kernel_rfl) (by kernel_rfl) (fun _ => by kernel_rfl) (fun r h => g20_ok k x6_32 r h) (fun _ => by kernel_rfl) (fun x6_33 hx6_33 => ?_)
         let E20 : Env := ((6, .bool (decide (x6_33 = 1))) :: (108, .bool (decide (x6_33 = 1))) :: (107, .bool (decide (x6_33 = 1))) :: (106, .int .i64 x6_33) :: (105, .int .u8 x6_32) :: (104, .str y8_0) :: (103, .bool true) :: E19)
         refine oR 5 (p' := .fin) (eE := E20) (H' := (mkH [⟨[.int .u8 a2], 0, false⟩])) (by kernel_rfl) ?_
         exact oT (r := (decide (x6_33 = 1))) (xs := [.bool (decide (x6_33 = 1))]) (v := .bool (decide (x6_33 = 1))) (by kernel_rfl) (by kernel_rfl) (by kernel_rfl) (.pures (by kernel_rfl)) (by kernel_rfl)
        ·let E21 : Env := ((6, .bool false) :: (108, .bool false) :: (107, .tuple []) :: (106, .tuple []) :: (105, .tuple []) :: (104, .tuple []) :: (103, .bool false) :: E19)
         refine oR 8 (p' := .fin) (eE := E21) (H' := (mkH [⟨[.int .u8 a2], 0, false⟩])) (by kernel_rfl) ?_
         exact oT (r := false) (xs := [.bool false]) (v := .bool false) (by kernel_rfl) (by kernel_rfl) (by kernel_rfl) (.pures (by kernel_rfl)) (by kernel_rfl)
       ·let E22 : Env := ((6, .bool false) :: (108, .bool false) :: (107, .tuple []) :: (106, .tuple []) :: (105, .tuple []) :: (104, .tuple []) :: (103, .bool false) :: (102, .bool false) :: (101, .tuple []) :: (100, .tuple []) :: (99, .bool false) :: E18)
        refine oR 12 (p' := .fin) (eE := E22) (H' := (mkH [⟨[.int .u8 a2], 0, false⟩])) (by kernel_rfl) ?_
        exact oT (r := false) (xs := [.bool false]) (v := .bool false) (by kernel_rfl) (by kernel_rfl) (by kernel_rfl) (.pures (by kernel_rfl)) (by kernel_rfl)
      ·let E23 : Env := ((6, .bool false) :: (108, .bool false) :: (107, .tuple []) :: (106, .tuple []) :: (105, .tuple []) :: (104, .tuple []) :: (103, .bool false) :: (102, .bool false) :: (101, .tuple []) :: (100, .tuple []) :: (99, .bool false) :: (98, .bool false) :: (97, .tuple []) :: (96, .tuple []) :: (95, .tuple []) :: (94, .tuple []) :: (93, .bool false) :: (93, .bool (true == x6_17)) :: (92, .bool (true == x6_17)) :: (91, .bool (true == x6_17)) :: (90, .bool x6_17) :: E16)
       refine oR 18 (p' := .fin) (eE := E23) (H' := (mkH [⟨[.int .u8 a2], 0, false⟩])) (by kernel_rfl) ?_
       exact oT (r := false) (xs := [.bool false]) (v := .bool false) (by kernel_rfl) (by kernel_rfl) (by kernel_rfl) (.pures (by kernel_rfl)) (by kernel_rfl)
     ·let E24 : Env := ((86, .str x5_10) :: (85, .bool false) :: (85, .bool x6_11) :: (84, .bool x6_11) :: (83, .str x5_10) :: (82, .bool true) :: E15)
      refine oR 1 (p' := (atN 14 (ctl1 g6p16))) (eE := E24) (H' := (mkH [⟨[.int .u8 a2], 0, false⟩])) (by kernel_rfl) ?_
      refine oC (fun (x6_14 : Bool) => .bool x6_14) (atN 15 (ctl1 g6p16)) (fun x6_14 => ((87, .bool x6_14) :: E24)) (fi := 14) (args := [.str x5_10]) (by kernel_rfl) (by kernel_rfl) (fun _ => by kernel_rfl) (fun r h => g14_ok k x5_10 r h) (fun _ => by kernel_rfl) (fun x6_14 hx6_14 => ?_)
      refine oR 2 (p' := (atN 17 (ctl1 g6p16))) (eE := ((89, .int .u8 a2) :: (88, .bool x6_14) :: (87, .bool x6_14) :: E24)) (H' := (mkH [⟨[.int .u8 a2], 0, false⟩])) (by kernel_rfl) ?_
      refine oC (fun (x6_17 : Bool) => .bool x6_17) (atN 18 (ctl1 g6p16)) (fun x6_17 => ((90, .bool x6_17) :: (89, .int .u8 a2) :: (88, .bool x6_14) :: (87, .bool x6_14) :: E24)) (fi := 18) (args := [.int .u8 a2]) (by kernel_rfl) (by kernel_rfl) (fun _ => by kernel_rfl) (fun r h => g18_ok k a2 r h) (fun _ => by kernel_rfl) (fun x6_17 hx6_17 => ?_)
      let E25 : Env := ((93, .bool (x6_14 == x6_17)) :: (92, .bool (x6_14 == x6_17)) :: (91, .bool (x6_14 == x6_17)) :: (90, .bool x6_17) :: (89, .int .u8 a2) :: (88, .bool x6_14) :: (87, .bool x6_14) :: E24)
      refine oR 3 (p' := (atN 21 (ctl1 g6p16))) (eE := E25) (H' := (mkH [⟨[.int .u8 a2], 0, false⟩])) (by kernel_rfl) ?_
      refine oS 93 (b := (x6_14 == x6_17)) (by kernel_rfl) (fun hb => ?_) (fun hb => ?_)
      ·refine oR 1 (p' := (atN 22 (ctl1 g6p16))) (eE := ((94, .str y8_0) :: (93, .bool true) :: E25)) (H' := (mkH [⟨[.int .u8 a2], 0, false⟩])) (by kernel_rfl) ?_
       refine oH (fun (x6_22 : (List Nat)) => (.str x6_22, (mkH [⟨[.int .u8 a2], 0, false⟩]))) (atN 23 (ctl1 g6p16)) (fun x6_22 => ((95, .str x6_22) :: (94, .str y8_0) :: (93, .bool true) :: E25)) (catH (by kernel_rfl)) (fun _ => by kernel_rfl) (fun x6_22 hx6_22 => ?_)
       refine oC (fun (x6_23 : Bool) => .bool x6_23) (atN 24 (ctl1 g6p16)) (fun x6_23 => ((96, .bool x6_23) :: (95, .str x6_22) :: (94, .str y8_0) :: (93, .bool true) :: E25)) (fi := 16) (args := [.str x6_22]) (by kernel_rfl) (by kernel_rfl) (fun _ => by kernel_rfl) (fun r h => g16_ok k x6_22 r h) (fun _ => by kernel_rfl) (fun x6_23 hx6_23 => ?_)
       let E26 : Env := ((99, .bool (!x6_23)) :: (98, .bool (!x6_23)) :: (97, .bool (!x6_23)) :: (96, .bool x6_23) :: (95, .str x6_22) :: (94, .str y8_0) :: (93, .bool true) :: E25)
       refine oR 3 (p' := (atN 27 (ctl1 g6p16))) (eE := E26) (H' := (mkH [⟨[.int .u8 a2], 0, false⟩])) (by kernel_rfl) ?_
       refine oS 99 (b := !x6_23) (by kernel_rfl) (fun hb => ?_) (fun hb => ?_)
       ·refine oC (fun (x6_27 : Bool) => .bool x6_27) (atN 28 (ctl1 g6p16)) (fun x6_27 => ((100, .bool x6_27) :: (99, .bool true) :: E26)) (fi := 16) (args := [.str []]) (by kernel_rfl) (by kernel_rfl) (fun _ => by kernel_rfl) (fun r h => g16_ok k ([] : List Nat) r h) (fun _ => by kernel_rfl) (fun x6_27 hx6_27 => ?_)
        let E27 : Env := ((103, .bool (!x6_27)) :: (102, .bool (!x6_27)) :: (101, .bool (!x6_27)) :: (100, .bool x6_27) :: (99, .bool true) :: E26)
        refine oR 3 (p' := (atN 31 (ctl1 g6p16))) (eE := E27) (H' := (mkH [⟨[.int .u8 a2], 0, false⟩])) (by kernel_rfl) ?_
        refine oS 103 (b := !x6_27) (by kernel_rfl) (fun hb => ?_) (fun hb => ?_)
        ·refine oR 1 (p' := (atN 32 (ctl1 g6p16))) (eE := ((104, .str y8_0) :: (103, .bool true) :: E27)) (H' := (mkH [⟨[.int .u8 a2], 0, false⟩])) (by kernel_rfl) ?_
         refine oH (fun (x6_32 : Int) => (.int .u8 x6_32, (mkH [⟨[.int .u8 a2], 0, false⟩]))) (atN 33 (ctl1 g6p16)) (fun x6_32 => ((105, .int .u8 x6_32) :: (104, .str y8_0) :: (103, .bool true) :: E27)) (idxH (by kernel_rfl)) (fun _ => by kernel_rfl) (fun x6_32 hx6_32 => ?_)
         refine oC (fun (x6_33 : Int) => .int .i64 x6_33) (atN 34 (ctl1 g6p16)) (fun x6_33 => ((106, .int .i64 x6_33) :: (105, .int .u8 x6_32) :: (104, .str y8_0) :: (103, .bool true) :: E27)) (fi := 20) (args := [.int .u8 x6_32]) (by kernel_rfl) (by kernel_rfl) (fun _ => by kernel_rfl) (fun r h => g20_ok k x6_32 r h) (fun _ => by kernel_rfl) (fun x6_33 hx6_33 => ?_)
         let E28 : Env := ((6, .bool (decide (x6_33 = 1))) :: (108, .bool (decide (x6_33 = 1))) :: (107, .bool (decide (x6_33 = 1))) :: (106, .int .i64 x6_33) :: (105, .int .u8 x6_32) :: (104, .str y8_0) :: (103, .bool true) :: E27)
         refine oR 5 (p' := .fin) (eE := E28) (H' := (mkH [⟨[.int .u8 a2], 0, false⟩])) (by kernel_rfl) ?_
         exact oT (r := (decide (x6_33 = 1))) (xs := [.bool (decide (x6_33 = 1))]) (v := .bool (decide (x6_33 = 1))) (by kernel_rfl) (by kernel_rfl) (by kernel_rfl) (.pures (by kernel_rfl)) (by kernel_rfl)
        ·let E29 : Env := ((6, .bool false) :: (108, .bool false) :: (107, .tuple []) :: (106, .tuple []) :: (105, .tuple []) :: (104, .tuple []) :: (103, .bool false) :: E27)
         refine oR 8 (p' := .fin) (eE := E29) (H' := (mkH [⟨[.int .u8 a2], 0, false⟩])) (by kernel_rfl) ?_
         exact oT (r := false) (xs := [.bool false]) (v := .bool false) (by kernel_rfl) (by kernel_rfl) (by kernel_rfl) (.pures (by kernel_rfl)) (by kernel_rfl)
       ·let E30 : Env := ((6, .bool false) :: (108, .bool false) :: (107, .tuple []) :: (106, .tuple []) :: (105, .tuple []) :: (104, .tuple []) :: (103, .bool false) :: (102, .bool false) :: (101, .tuple []) :: (100, .tuple []) :: (99, .bool false) :: E26)
        refine oR 12 (p' := .fin) (eE := E30) (H' := (mkH [⟨[.int .u8 a2], 0, false⟩])) (by kernel_rfl) ?_
        exact oT (r := false) (xs := [.bool false]) (v := .bool false) (by kernel_rfl) (by kernel_rfl) (by kernel_rfl) (.pures (by kernel_rfl)) (by kernel_rfl)
      ·let E31 : Env := ((6, .bool false) :: (108, .bool false) :: (107, .tuple []) :: (106, .tuple []) :: (105, .tuple []) :: (104, .tuple []) :: (103, .bool false) :: (102, .bool false) :: (101, .tuple []) :: (100, .tuple []) :: (99, .bool false) :: (98, .bool false) :: (97, .tuple []) :: (96, .tuple []) :: (95, .tuple []) :: (94, .tuple []) :: (93, .bool false) :: E25)
       refine oR 18 (p' := .fin) (eE := E31) (H' := (mkH [⟨[.int .u8 a2], 0, false⟩])) (by kernel_rfl) ?_
       exact oT (r := false) (xs := [.bool false]) (v := .bool false) (by kernel_rfl) (by kernel_rfl) (by kernel_rfl) (.pures (by kernel_rfl)) (by kernel_rfl)
    ·let E32 : Env := ((6, .bool false) :: (108, .bool false) :: (107, .tuple []) :: (106, .tuple []) :: (105, .tuple []) :: (104, .tuple []) :: (103, .bool false) :: (102, .bool false) :: (101, .tuple []) :: (100, .tuple []) :: (99, .bool false) :: (98, .bool false) :: (97, .tuple []) :: (96, .tuple []) :: (95, .tuple []) :: (94, .tuple []) :: (93, .bool false) :: (92, .bool false) :: (91, .tuple []) :: (90, .tuple []) :: (89, .tuple []) :: (88, .tuple []) :: (87, .tuple []) :: (86, .tuple []) :: (85, .tuple []) :: (84, .tuple []) :: (83, .tuple []) :: (82, .bool false) :: E15)
     refine oR 29 (p' := .fin) (eE := E32) (H' := (mkH [⟨[.int .u8 a2], 0, false⟩])) (by kernel_rfl) ?_
     exact oT (r := false) (xs := [.bool false]) (v := .bool false) (by kernel_rfl) (by kernel_rfl) (by kernel_rfl) (.pures (by kernel_rfl)) (by kernel_rfl)
   ·let E33 : Env := ((6, .bool false) :: (108, .bool false) :: (107, .tuple []) :: (106, .tuple []) :: (105, .tuple []) :: (104, .tuple []) :: (103, .bool false) :: (102, .bool false) :: (101, .tuple []) :: (100, .tuple []) :: (99, .bool false) :: (98, .bool false) :: (97, .tuple []) :: (96, .tuple []) :: (95, .tuple []) :: (94, .tuple []) :: (93, .bool false) :: (92, .bool false) :: (91, .tuple []) :: (90, .tuple []) :: (89, .tuple []) :: (88, .tuple []) :: (87, .tuple []) :: (86, .tuple []) :: (85, .tuple []) :: (84, .tuple []) :: (83, .tuple []) :: (82, .bool false) :: (81, .bool false) :: (80, .tuple []) :: (79, .tuple []) :: (78, .tuple []) :: (77, .tuple []) :: (76, .tuple []) :: (75, .tuple []) :: (74, .bool false) :: (74, .bool x6_0) :: (73, .bool x6_0) :: E13)
    refine oR 37 (p' := .fin) (eE := E33) (H' := (mkH [⟨[.int .u8 a2], 0, false⟩])) (by kernel_rfl) ?_
    exact oT (r := false) (xs := [.bool false]) (v := .bool false) (by kernel_rfl) (by kernel_rfl) (by kernel_rfl) (.pures (by kernel_rfl)) (by kernel_rfl)
def g6 (k : Nat) (a0 : (List Int)) (a1 : Int) (a2 : Int) : Option Bool :=
 jn (fun (z7 : Bool) => if z7 then ((g13 k).bind fun x0_0 => some x0_0) else ((nthL a0 0).bind fun x1_1 => (toS ([fW .u8 (97 + fW .u8 ((fW .u64 x1_1).tmod 26))] : List Int)).bind fun x1_8 => g6_l8 k a0 a1 a2 k x1_8 1)) (fun j7 => if (decide ((a0.length : Int) < 1)) then (j7 true) else (j7 (decide (20 < (a0.length : Int)))))
theorem g6_ok (k : Nat) (a0 : (List Int)) (a1 : Int) (a2 : Int) (r : Bool) (h : g6 k a0 a1 a2 = some r) : PureOk Try.prog 6 [.vec (a0).length 1 ((a0).flatMap e3), .int .i64 a1, .int .u8 a2] (.bool r) := by
 refine pure_of X6 (fun _ => rfl) Try.func6 (by decide +kernel) (by kernel_rfl) (t := g6 k a0 a1 a2) ?_ h
 unfold g6
 refine oE (eE := [(0, .vec (a0).length 1 ((a0).flatMap e3)), (1, .int .i64 a1), (2, .int .u8 a2)]) (by kernel_rfl) ?_
 let E1 : Env := [(16, .bool (decide ((a0.length : Int) < 1))), (15, .bool (decide ((a0.length : Int) < 1))), (14, .int .i64 (a0.length : Int)), (13, .vec (a0).length 1 ((a0).flatMap e3)), (6, .bool false), (0, .vec (a0).length 1 ((a0).flatMap e3)), (1, .int .i64 a1), (2, .int .u8 a2)]
 refine oR 11 (p' := (atN 4 (ctl1 g6p1))) (eE := E1) (H' := (mkH [])) (by kernel_rfl) ?_
 refine oJ (f := fun (z7 : Bool) => if z7 then ((g13 k).bind fun x0_0 => some x0_0) else ((nthL a0 0).bind fun x1_1 => (toS ([fW .u8 (97 + fW .u8 ((fW .u64 x1_1).tmod 26))] : List Int)).bind fun x1_8 => g6_l8 k a0 a1 a2 k x1_8 1)) g6p2 (fun (z7 : Bool) => [(0, .vec (a0).length 1 ((a0).flatMap e3)), (1, .int .i64 a1), (2, .int .u8 a2), (20, .bool z7)]) (fun (z7 : Bool) => (mkH [])) (fun z7 => ?_) (fun j7 hj7 => ?_)
 ·refine oS 20 (b := z7) (by kernel_rfl) (fun hb => ?_) (fun hb => ?_)
  ·let E2 : Env := [(20, .bool true), (0, .vec (a0).length 1 ((a0).flatMap e3)), (1, .int .i64 a1), (2, .int .u8 a2), (20, .bool z7)]
   refine oR 3 (p' := (atN 0 (ctl1 g6p3))) (eE := E2) (H' := (mkH [])) (by kernel_rfl) ?_
   refine oC (fun (x0_0 : Bool) => .bool x0_0) (atN 1 (ctl1 g6p3)) (fun x0_0 => ((21, .bool x0_0) :: E2)) (fi := 13) (args := []) (by kernel_rfl) (by kernel_rfl) (fun _ => by kernel_rfl) (fun r h => g13_ok k  r h) (fun _ => by kernel_rfl) (fun x0_0 hx0_0 => ?_)
   refine oR 3 (p' := .fin) (eE := ((6, .bool x0_0) :: (21, .bool x0_0) :: E2)) (H' := (mkH [])) (by kernel_rfl) ?_
   exact oT (r := x0_0) (xs := [.bool x0_0]) (v := .bool x0_0) (by kernel_rfl) (by kernel_rfl) (by kernel_rfl) (.pures (by kernel_rfl)) (by kernel_rfl)
  ·let E3 : Env := [(22, .vec (a0).length 1 ((a0).flatMap e3)), (7, .str g6c0), (20, .bool false), (0, .vec (a0).length 1 ((a0).flatMap e3)), (1, .int .i64 a1), (2, .int .u8 a2), (20, .bool z7)]
   refine oR 9 (p' := (atN 1 (ctl1 g6p6))) (eE := E3) (H' := (mkH [])) (by kernel_rfl) ?_
   refine oH (fun (x1_1 : Int) => (.vptr [.int .i64 x1_1], (mkH []))) (atN 2 (ctl1 g6p6)) (fun x1_1 => ((23, .vptr [.int .i64 x1_1]) :: E3)) (vidxH (sz := 1) e3_len (by kernel_rfl)) (fun _ => by kernel_rfl) (fun x1_1 hx1_1 => ?_)
   let E4 : Env := ((29, .slice 0 1 0 1 1) :: (28, .int .u8 (fW .u8 (97 + fW .u8 ((fW .u64 x1_1).tmod 26)))) :: (27, .int .u8 (fW .u8 ((fW .u64 x1_1).tmod 26))) :: (26, .int .u64 ((fW .u64 x1_1).tmod 26)) :: (25, .int .u64 (fW .u64 x1_1)) :: (24, .int .i64 x1_1) :: (23, .vptr [.int .i64 x1_1]) :: E3)
   refine oR 6 (p' := (atN 8 (ctl1 g6p6))) (eE := E4) (H' := (mkH [⟨[.int .u8 (fW .u8 (97 + fW .u8 ((fW .u64 x1_1).tmod 26)))], 0, false⟩])) (by kernel_rfl) ?_
   refine oH (fun (x1_8 : (List Nat)) => (.str x1_8, (mkH [⟨[.int .u8 (fW .u8 (97 + fW .u8 ((fW .u64 x1_1).tmod 26)))], 0, false⟩]))) (atN 9 (ctl1 g6p6)) (fun x1_8 => ((30, .str x1_8) :: E4)) (toSE [fW .u8 (97 + fW .u8 ((fW .u64 x1_1).tmod 26))] (by kernel_rfl)) (fun _ => by kernel_rfl) (fun x1_8 hx1_8 => ?_)
   refine oR 4 (p' := g6p7) (eE := ((8, .str x1_8) :: (30, .str x1_8) :: E4)) (H' := (mkH [⟨[.int .u8 (fW .u8 (97 + fW .u8 ((fW .u64 x1_1).tmod 26)))], 0, false⟩])) (by kernel_rfl) ?_
   refine oK [0, 1, 2, 7, 8] (eE := [(0, .vec (a0).length 1 ((a0).flatMap e3)), (1, .int .i64 a1), (2, .int .u8 a2), (7, .str g6c0), (8, .str x1_8)]) (by kernel_rfl) ?_
   let E5 : Env := [(9, .int .i64 1), (0, .vec (a0).length 1 ((a0).flatMap e3)), (1, .int .i64 a1), (2, .int .u8 a2), (7, .str g6c0), (8, .str x1_8)]
   refine oR 5 (p' := g6p8) (eE := E5) (H' := (mkH [⟨[.int .u8 (fW .u8 (97 + fW .u8 ((fW .u64 x1_1).tmod 26)))], 0, false⟩])) (by kernel_rfl) ?_
   refine oK [0, 1, 2, 7, 8, 9] (eE := [(0, .vec (a0).length 1 ((a0).flatMap e3)), (1, .int .i64 a1), (2, .int .u8 a2), (7, .str g6c0), (8, .str x1_8), (9, .int .i64 1)]) (by kernel_rfl) ?_
   refine ok_cut [] [⟨[.int .u8 (fW .u8 (97 + fW .u8 ((fW .u64 x1_1).tmod 26)))], 0, false⟩] (by kernel_rfl) rfl (by kernel_rfl) trivial ?_
   exact (g6_l8_ok k a0 a1 a2 k) x1_8 1
 ·refine oS 16 (b := decide ((a0.length : Int) < 1)) (by kernel_rfl) (fun hb => ?_) (fun hb => ?_)
  ·let E34 : Env := ((20, .bool true) :: (19, .tuple []) :: (18, .tuple []) :: (17, .tuple []) :: (16, .bool true) :: E1)
   refine oR 5 (p' := g6p2) (eE := E34) (H' := (mkH [])) (by kernel_rfl) ?_
   refine oK [0, 1, 2, 20] (eE := [(0, .vec (a0).length 1 ((a0).flatMap e3)), (1, .int .i64 a1), (2, .int .u8 a2), (20, .bool true)]) (by kernel_rfl) ?_
   exact hj7 true
  ·let E35 : Env := ((20, .bool (decide (20 < (a0.length : Int)))) :: (19, .bool (decide (20 < (a0.length : Int)))) :: (18, .int .i64 (a0.length : Int)) :: (17, .vec (a0).length 1 ((a0).flatMap e3)) :: (16, .bool false) :: E1)
   refine oR 5 (p' := g6p2) (eE := E35) (H' := (mkH [])) (by kernel_rfl) ?_
   refine oK [0, 1, 2, 20] (eE := [(0, .vec (a0).length 1 ((a0).flatMap e3)), (1, .int .i64 a1), (2, .int .u8 a2), (20, .bool (decide (20 < (a0.length : Int))))]) (by kernel_rfl) ?_
   exact hj7 (decide (20 < (a0.length : Int)))
end
end Go.Proofs.Ytnikdnchoahngaa.Am
set_option maxRecDepth 100000
set_option linter.unusedVariables false
set_option linter.unusedSimpArgs false
namespace Go.Proofs.Ytnikdnchoahngaa.Am
open Go
def plN : List Nat → Bool
 | [] => false
 | c :: r => decide (begN c = 1) && !rsvN (c :: r) && (c :: r).all inrN
theorem plain_l (k : Nat) {s : List Nat} (hs : By s) (hl : s.length ≤ 1000) : ∀ (f i : Nat) (r : List Nat), s.drop i = r → r.length < f → g16_l3 k s f (i : Int) = some (r.all inrN)
 | 0, i, r, h, hf => by omega
 | f + 1, i, [], h, hf => by
  have := List.drop_eq_nil_iff.1 h
  rw [g16_l3_s]
  exact iF (dF (by omega)) rfl
 | f + 1, i, c :: r, h, hf => by
  have ln := drop_len h
  simp only [List.length_cons] at hf
  have ih := plain_l k hs hl f (i + 1) r (drop_step h) (by omega)
  rw [g16_l3_s]
  refine iT (dT (by omega)) ?_
  refine bS (by (try simp (disch := omega) only [fwI]); exact nthX rfl h) ?_
  refine bS (by (try simp (disch := omega) only [fwI]); exact inner_at18 k (hs c (drop_mem h))) ?_
  rw [List.all_cons, fw_s (by omega), ih]
  cases inrN c <;> rfl
theorem plain_at {k : Nat} {s : List Nat} (hs : By s) (hl : s.length ≤ 1000) (hk : s.length < k) : g16 k s = some (plN s) := by
 unfold g16
 cases s with
 | nil => exact (jS (v := true) (fun j => rfl)).trans rfl
 | cons c r =>
  refine (jS (v := !decide (begN c = 1) || rsvN (c :: r)) (fun j => ?_)).trans ?_
  ·refine iF rfl ?_
   refine bS (by (try simp (disch := omega) only [fwI]); exact nthX (i := 0) rfl (List.drop_zero (l := c :: r))) ?_
   refine bS (by (try simp (disch := omega) only [fwI]); exact begins_at20 k hs.head) ?_
   by_cases h1 : begN c = 1
   ·refine iF (by rw [dT (by omega)]; rfl) ?_
    refine bS (by (try simp (disch := omega) only [fwI]); exact reserved_at k (c :: r)) ?_
    rw [dT h1]; rfl
   ·refine iT (by rw [dF (by omega)]; rfl) ?_
    rw [dF h1]; rfl
  ·have pl := plain_l k hs hl k 0 (c :: r) rfl hk
   rw [show ((0 : Nat) : Int) = 0 from rfl] at pl
   rw [pl]
   simp only [plN]
   cases decide (begN c = 1) <;> cases rsvN (c :: r) <;> cases (c :: r).all inrN <;> rfl
theorem rsv_inr {s : List Nat} (h : rsvN s = true) : s.all inrN = true := by
 unfold rsvN at h
 obtain ⟨w, hw, e⟩ := List.any_eq_true.1 h
 rw [(eqL_iff _ _).1 e]
 have : rsvL.all (fun w => w.all inrN) = true := by decide
 exact List.all_eq_true.1 this w hw
theorem set_at (k : Nat) (h : k < 38) : ∃ b, subL g6c0 (some (k : Int)) (some ((k + 1 : Nat) : Int)) = some [b] ∧ inrN b = true ∧ b < 256 := by
 have w : (List.range 38).all (fun k => match subL g6c0 (some (k : Int)) (some ((k + 1 : Nat) : Int)) with | some [b] => inrN b && decide (b < 256) | _ => false) = true := by decide
 have w := List.all_eq_true.1 w k (List.mem_range.2 h)
 revert w
 cases subL g6c0 (some (k : Int)) (some ((k + 1 : Nat) : Int)) with
 | none => intro h; cases h
 | some l =>
  cases l with
  | nil => intro h; cases h
  | cons b r =>
   cases r with
   | nil => intro h; simp only [Bool.and_eq_true, decide_eq_true_eq] at h; exact ⟨b, rfl, h.1, h.2⟩
   | cons _ _ => intro h; cases h
theorem told3 (k : Nat) : g13 (k + 60) = some true := by kernel_rfl
structure Nm (s : List Nat) : Prop where
 b : By s
 h : ∃ c r, s = c :: r ∧ begN c = 1
 i : s.all inrN = true
theorem Nm.pl {s : List Nat} (h : Nm s) : plN s = !rsvN s := by
 obtain ⟨c, r, rfl, hc⟩ := h.h
 simp only [plN, h.i, dT hc, Bool.true_and, Bool.and_true]
theorem end_3 (k : Nat) {s : List Nat} (hn : Nm s) (hl : s.length ≤ 30) (a1 : Int) {a2 : Nat} (h2 : a2 < 256) (a0 : List Int) {i : Int} (hi : ¬ i < (a0.length : Int)) (f : Nat) : g6_l8 (k + 60) a0 a1 (a2 : Int) (f + 1) s i = some true := by
 obtain ⟨c, r, hs, hc⟩ := hn.h
 have hln : 0 < s.length := by rw [hs, List.length_cons]; omega
 obtain ⟨q, hq, hq2, -⟩ := rem_at a1 s.length hln (by omega)
 rw [g6_l8_s]
 refine iF (dF hi) ?_
 refine bS (by (try simp (disch := omega) only [fwI]); exact hq2) ?_
 have e1 : fW .i64 (1 + fW .i64 (q : Int)) = ((q + 1 : Nat) : Int) := by rw [fwI (n := (q : Int)) (by omega) (by omega), fwI (by omega) (by omega)]; omega
 rw [e1]
 refine bS (by (try simp (disch := omega) only [fwI]); exact subTo rfl (show q + 1 ≤ s.length by omega)) ?_
 have t1 : toS ([(a2 : Int)] : List Int) = some [a2] := by
  simp only [toS]; rw [if_pos (by omega), Int.toNat_natCast]
 refine bS (by (try simp (disch := omega) only [fwI]); exact t1) ?_
 have lt : (s.take (q + 1)).length = q + 1 := by rw [List.length_take]; omega
 have ld : (s.drop (q + 1)).length = s.length - (q + 1) := List.length_drop
 have c1 : catS (s.take (q + 1)) [a2] = some (s.take (q + 1) ++ [a2]) := by unfold catS; rw [if_pos (by rw [lt, List.length_singleton]; omega)]
 refine bS (by (try simp (disch := omega) only [fwI]); exact c1) ?_
 refine bS (by (try simp (disch := omega) only [fwI]); exact subFrom rfl (show q + 1 ≤ s.length by omega)) ?_
 have c2 : catS (s.take (q + 1) ++ [a2]) (s.drop (q + 1)) = some (s.take (q + 1) ++ [a2] ++ s.drop (q + 1)) := by unfold catS; rw [if_pos (by rw [List.length_append, lt, ld, List.length_singleton]; omega)]
 refine bS (by (try simp (disch := omega) only [fwI]); exact c2) ?_
 refine bS (by (try simp (disch := omega) only [fwI]); exact told3 k) ?_
 refine iT rfl ?_
 have bt : By (s.take (q + 1) ++ [a2] ++ s.drop (q + 1)) := ((hn.b.take _).app (fun b hb => by rw [List.mem_singleton.1 hb]; exact h2)).app (hn.b.drop _)
 have llt : (s.take (q + 1) ++ [a2] ++ s.drop (q + 1)).length = s.length + 1 := by rw [List.length_append, List.length_append, lt, ld, List.length_singleton]; omega
 have ht : ∃ r', s.take (q + 1) ++ [a2] ++ s.drop (q + 1) = c :: r' := by rw [hs]; exact ⟨_, rfl⟩
 have ai : (s.take (q + 1) ++ [a2] ++ s.drop (q + 1)).all inrN = inrN a2 := by
  have h := hn.i
  rw [← List.take_append_drop (q + 1) s, List.all_append, Bool.and_eq_true] at h
  rw [List.all_append, List.all_append, h.1, h.2]
  simp
 generalize s.take (q + 1) ++ [a2] ++ s.drop (q + 1) = t at *
 have pt : (if plN t = true then true else rsvN t) = inrN a2 := by
  obtain ⟨r', rfl⟩ := ht
  simp only [plN, ai, dT hc, Bool.true_and]
  cases hr : rsvN (c :: r') with
  | true => rw [← ai, rsv_inr hr]; rfl
  | false => cases inrN a2 <;> rfl
 refine bS (by (try simp (disch := omega) only [fwI]); exact plain_at (k := k + 60) hn.b (by omega) (by omega)) ?_
 refine bS (by (try simp (disch := omega) only [fwI]); exact reserved_at (k + 60) s) ?_
 refine iT (by rw [hn.pl]; simp) ?_
 refine bS (by (try simp (disch := omega) only [fwI]); exact plain_at (k := k + 60) bt (by omega) (by omega)) ?_
 have fin : (catS ([65] : List Nat) s).bind (fun x6_22 => (g16 (k + 60) x6_22).bind fun x6_23 => if (!x6_23) then ((g16 (k + 60) ([] : List Nat)).bind fun x6_27 => if (!x6_27) then ((nthS s 0).bind fun x6_32 => (g20 (k + 60) x6_32).bind fun x6_33 => some (decide (x6_33 = 1))) else (some false)) else (some false)) = some true := by
  have c3 : catS [65] s = some (65 :: s) := by unfold catS; rw [if_pos (by rw [List.length_singleton]; omega)]; rfl
  refine bS (by (try simp (disch := omega) only [fwI]); exact c3) ?_
  have bA : By (65 :: s) := fun b hb => by
   rcases List.mem_cons.1 hb with rfl | hb
   ·omega
   ·exact hn.b b hb
  refine bS (by (try simp (disch := omega) only [fwI]); exact plain_at (k := k + 60) bA (by rw [List.length_cons]; omega) (by rw [List.length_cons]; omega)) ?_
  refine iT (by simp only [plN]; rw [dF (by decide)]; rfl) ?_
  refine bS (by (try simp (disch := omega) only [fwI]); exact plain_at (k := k + 60) (s := []) (fun b hb => by cases hb) (by simp) (by simp)) ?_
  refine iT rfl ?_
  refine bS (by (try simp (disch := omega) only [fwI]); exact nthX (x := 0) (i := 0) rfl (by rw [List.drop_zero]; exact hs)) ?_
  refine bS (by (try simp (disch := omega) only [fwI]); exact begins_at20 (k + 60) (hn.b c (by rw [hs]; exact List.mem_cons_self))) ?_
  rw [hc]; rfl
 by_cases hp : plN t = true
 ·rw [if_pos hp] at pt
  refine iT hp ?_
  refine bS (by (try simp (disch := omega) only [fwI]); exact inner_at18 (k + 60) h2) ?_
  refine iT (by rw [← pt]; rfl) ?_
  exact fin
 ·rw [if_neg hp] at pt
  refine iF (Bool.eq_false_iff.2 hp) ?_
  refine bS (by (try simp (disch := omega) only [fwI]); exact reserved_at (k + 60) t) ?_
  refine bS (by (try simp (disch := omega) only [fwI]); exact inner_at18 (k + 60) h2) ?_
  refine iT (by rw [← pt]; simp) ?_
  exact fin
theorem names_l (k : Nat) (a0 : List Int) (hl : a0.length ≤ 20) (a1 : Int) {a2 : Nat} (h2 : a2 < 256) : ∀ (d f : Nat) (s : List Nat), Nm s → s.length + d = a0.length → d < f → g6_l8 (k + 60) a0 a1 (a2 : Int) f s (s.length : Int) = some true
 | d, 0, s, hn, h, hf => by omega
 | 0, f + 1, s, hn, h, hf => end_3 k hn (by omega) a1 h2 a0 (by omega) f
 | d + 1, f + 1, s, hn, h, hf => by
  obtain ⟨x, r, hx, -, -, -⟩ := dconsL (s := a0) (i := s.length) (by omega)
  obtain ⟨q, hq, hq2, -⟩ := tmod_at x 38 (by omega) (by omega)
  obtain ⟨b, hb, hb2, hb3⟩ := set_at q hq
  rw [g6_l8_s]
  refine iT (dT (by omega)) ?_
  refine bS (by (try simp (disch := omega) only [fwI]); exact nthL_at hx) ?_
  have hq2 : (fW .u64 x).tmod 38 = (q : Int) := hq2
  rw [hq2, fwI (n := (q : Int)) (by omega) (by omega), fw_s (by omega), fw_s (by omega)]
  refine bS (by (try simp (disch := omega) only [fwI]); exact hb) ?_
  have c1 : catS s [b] = some (s ++ [b]) := by unfold catS; rw [if_pos (by rw [List.length_singleton]; omega)]
  refine bS (by (try simp (disch := omega) only [fwI]); exact c1) ?_
  have ll : (s ++ [b]).length = s.length + 1 := by simp
  have nm : Nm (s ++ [b]) := ⟨hn.b.app (fun x hx => by rw [List.mem_singleton.1 hx]; exact hb3), by obtain ⟨c, r, e, hc⟩ := hn.h; exact ⟨c, r ++ [b], by rw [e]; rfl, hc⟩, by rw [List.all_append, hn.i]; simp [hb2]⟩
  have ih := names_l k a0 hl a1 h2 d f (s ++ [b]) nm (by omega) (by omega)
  rw [ll] at ih
  exact ih
theorem small_at (m : Nat) (h : m < 26) : ∃ c, toS ([fW .u8 (97 + fW .u8 (m : Int))] : List Int) = some [c] ∧ c < 256 ∧ begN c = 1 ∧ inrN c = true := by
 have w : (List.range 26).all (fun m => match toS ([fW .u8 (97 + fW .u8 (m : Int))] : List Int) with | some [c] => decide (c < 256) && (decide (begN c = 1) && inrN c) | _ => false) = true := by decide
 have w := List.all_eq_true.1 w m (List.mem_range.2 h)
 revert w
 cases toS ([fW .u8 (97 + fW .u8 (m : Int))] : List Int) with
 | none => intro h; cases h
 | some l =>
  cases l with
  | nil => intro h; cases h
  | cons b r =>
   cases r with
   | nil => intro h; simp only [Bool.and_eq_true, decide_eq_true_eq] at h; exact ⟨b, rfl, h.1, h.2.1, h.2.2⟩
   | cons _ _ => intro h; cases h
theorem wordNames_true (l : List Int) (a1 a2 : Int) (_ : ∀ n ∈ l, -9223372036854775808 ≤ n ∧ n ≤ 9223372036854775807) (_ : l.length ≤ 140737488351232) (h2 : 0 ≤ a2 ∧ a2 ≤ 255) : ∃ k, g6 k l a1 a2 = some true := by
 refine ⟨140 + 60, ?_⟩
 obtain ⟨a2, rfl⟩ : ∃ n : Nat, a2 = (n : Int) := ⟨a2.toNat, by omega⟩
 unfold g6
 by_cases h : l.length < 1 ∨ 20 < l.length
 ·refine (jS (v := true) (fun j => ?_)).trans ?_
  ·by_cases h1 : l.length < 1
   ·exact iT (dT (by omega)) rfl
   ·refine iF (dF (by omega)) ?_
    rw [dT (by omega)]
  ·refine iT rfl ?_
   refine bS (by (try simp (disch := omega) only [fwI]); exact told3 140) ?_
   rfl
 ·refine (jS (v := false) (fun j => ?_)).trans ?_
  ·refine iF (dF (by omega)) ?_
   rw [dF (by omega)]
  ·refine iF rfl ?_
   obtain ⟨x, r, hx, -, -, -⟩ := dconsL (s := l) (i := 0) (by omega)
   obtain ⟨m, hm, hm2, -⟩ := tmod_at x 26 (by omega) (by omega)
   obtain ⟨c, e1, e2, e3, e4⟩ := small_at m hm
   refine bS (by (try simp (disch := omega) only [fwI]); exact nthL_at (i := 0) hx) ?_
   have hm2 : (fW .u64 x).tmod 26 = (m : Int) := hm2
   rw [hm2]
   refine bS (by (try simp (disch := omega) only [fwI]); exact e1) ?_
   exact names_l 140 l (by omega) a1 (by omega) (l.length - 1) (140 + 60) [c] ⟨fun b hb => by rw [List.mem_singleton.1 hb]; exact e2, ⟨c, [], rfl, e3⟩, by simp [e4]⟩ (by simp only [List.length_singleton]; omega) (by omega)
end Go.Proofs.Ytnikdnchoahngaa.Am
set_option linter.unusedVariables false
namespace Go.Proofs.Ytnikdnchoahngaa.Am
open Go Go.ChangeShapes Go.WideShapes
def mpOf (fz : List (Nat × List AV)) : Mp := ⟨fun _ _ => none, fun i => fz[i]?⟩
theorem law_walk_fz {P : Program} {n : Nat} {xs : List AV} {args : Array Value} (h : PureOk P n xs (.bool true)) (w : World) (fz : List (Nat × List AV)) (hargs : VRs (mpOf fz) xs args.toList)
 (hfz : ∀ p ∈ fz, ∃ cs ty fr, w.heap[p.1]? = some (.cells cs ty fr) ∧ p.2.length ≤ cs.size ∧ VRs (mpOf fz) p.2 (cs.toList.take p.2.length)) :
 Calls P n args w fun e W' => e = .returned (.bool true) ∧ RowKit.Below w.heap.size w W' := by
 refine Calls.mono (h.1 (mpOf fz) w args (fun _ _ => rfl) hargs ?_) ?_
 ·refine ⟨?_, ?_, ?_, fun _ _ => rfl, ?_, ?_, ?_, ⟨fz.length, fun i hi => List.getElem?_eq_none hi⟩, Nat.le_refl _, by show 0 ≤ roots; unfold roots; omega⟩
  ·intro r b v B N hb hm; cases hm
  ·intro r v B N hm; cases hm
  ·intro r v B N r' v' N' hm; cases hm
  ·intro r v B N hm; cases hm
  ·intro i B cells hi
   exact hfz (B, cells) (List.mem_of_getElem? hi)
  ·intro i B cells r v N b _ hm; cases hm
 ·rintro e w' ⟨m', c, rfl, q1, q2, q3⟩
  simp only [VR] at q3
  exact ⟨by rw [q3], q2.below (Nat.le_refl _)⟩
theorem VRs_all {m : Mp} : ∀ {xs : List AV} {cs : List Value}, xs.length = cs.length → (∀ (i : Nat) x c, xs[i]? = some x → cs[i]? = some c → VR m x c) → VRs m xs cs
 | [], [], _, _ => by simp only [VRs]
 | [], _ :: _, h, _ => by cases h
 | _ :: _, [], h, _ => by cases h
 | x :: xs, c :: cs, h, k => by
  simp only [VRs]
  exact ⟨c, cs, rfl, k 0 x c rfl rfl, VRs_all (by simpa using h) (fun i x' c' hx hc => k (i + 1) x' c' (by simpa using hx) (by simpa using hc))⟩
def IsRow (k : IntKind) (w : World) (a : Option Addr) (len cap : Nat) (zs : List Int) : Prop :=
 (a = none ∧ len = 0 ∧ cap = 0 ∧ zs = []) ∨
 ∃ x, a = some x ∧ len ≤ cap ∧ zs.length = len ∧ (∀ i, i < zs.length → w.cell? (x.add i) = some (.int k (zs.getD i 0))) ∧ ∀ n ∈ zs, (Lit.int k n).wf = true
theorem cell_add {w : World} {x : Addr} {i : Nat} {v : Value} (h : w.cell? (x.add i) = some v) : ∃ cs ty fr, w.heap[x.block]? = some (.cells cs ty fr) ∧ cs[x.off + i]? = some v ∧ (i = 0 → x.spot = none) := by
 have hb : (x.add i).block = x.block := by unfold Addr.add; split <;> rfl
 have ho : (x.add i).off = x.off + i := by unfold Addr.add; split <;> simp_all
 have hs : i = 0 → (x.add i).spot = x.spot := by intro e; subst e; rfl
 unfold World.cell? at h
 rw [hb, ho] at h
 cases hw : w.heap[x.block]? with
 | none => rw [hw] at h; cases h
 | some o =>
  rw [hw] at h
  cases o with
  | cells cs ty fr =>
   simp only [] at h
   cases hsp : (x.add i).spot with
   | none => rw [hsp] at h; exact ⟨cs, ty, fr, rfl, by simpa using h, fun e => by rw [← hs e, hsp]⟩
   | some q => rw [hsp] at h; simp at h
  | _ => simp at h
def frozOf (k : IntKind) (a : Option Addr) (zs : List Int) : Nat × List AV := match a with
 | none => (0, [])
 | some x => (x.block, List.replicate x.off .top ++ zs.map (AV.int k))
theorem row_froz {k : IntKind} {w : World} {a : Option Addr} {len cap : Nat} {zs : List Int} (h : IsRow k w a len cap zs) (hne : zs ≠ []) (fz : List (Nat × List AV)) :
 ∃ cs ty fr, w.heap[(frozOf k a zs).1]? = some (.cells cs ty fr) ∧ (frozOf k a zs).2.length ≤ cs.size ∧ VRs (mpOf fz) (frozOf k a zs).2 (cs.toList.take (frozOf k a zs).2.length) := by
 rcases h with ⟨_, _, _, rfl⟩ | ⟨x, rfl, hl, hz, hc, hw⟩
 ·exact absurd rfl hne
 ·have hpos : 0 < zs.length := List.length_pos_iff.2 hne
  obtain ⟨cs, ty, fr, hb, h0, -⟩ := cell_add (hc (zs.length - 1) (by omega))
  have hsz : x.off + (zs.length - 1) < cs.size := by
   rcases Nat.lt_or_ge (x.off + (zs.length - 1)) cs.size with h | h
   ·exact h
   ·rw [Array.getElem?_eq_none h] at h0; cases h0
  refine ⟨cs, ty, fr, hb, by simp only [frozOf, List.length_append, List.length_replicate, List.length_map]; omega, ?_⟩
  refine VRs_all (by simp only [frozOf, List.length_append, List.length_replicate, List.length_map, List.length_take, Array.length_toList]; omega) ?_
  intro i v c hv hcv
  simp only [frozOf] at hv hcv
  by_cases hi : i < x.off
  ·rw [List.getElem?_append_left (by simpa using hi)] at hv
   rw [List.getElem?_replicate, if_pos hi] at hv
   cases hv
   simp only [VR]
  ·rw [List.getElem?_append_right (by simpa using Nat.le_of_not_lt hi), List.length_replicate, List.getElem?_map] at hv
   cases hz' : zs[i - x.off]? with
   | none => rw [hz'] at hv; cases hv
   | some n =>
    rw [hz'] at hv
    cases hv
    have hlt : i - x.off < zs.length := (List.getElem?_eq_some_iff.1 hz').1
    obtain ⟨cs', ty', fr', hb', h1, -⟩ := cell_add (hc (i - x.off) hlt)
    rw [hb] at hb'
    cases hb'
    rw [show x.off + (i - x.off) = i from by omega] at h1
    rw [List.getElem?_take_of_lt (by simp only [List.length_append, List.length_replicate, List.length_map]; omega), Array.getElem?_toList, h1] at hcv
    cases hcv
    simp only [VR]
    rw [List.getD_eq_getElem?_getD, hz']
    rfl
theorem row_VR {k : IntKind} {w : World} {a : Option Addr} {len cap : Nat} {zs : List Int} (h : IsRow k w a len cap zs) (fz : List (Nat × List AV)) (id : Nat) (hid : zs ≠ [] → fz[id]? = some (frozOf k a zs)) : VR (mpOf fz) (.vec zs.length 1 (zs.map (AV.int k))) (.slice a len cap) := by
 simp only [VR]
 refine ⟨by simp, a, cap, ?_, ?_, ?_, ?_⟩
 ·rcases h with ⟨_, rfl, _, rfl⟩ | ⟨x, _, _, hz, _, _⟩
  ·rfl
  ·rw [hz]
 ·rcases h with ⟨_, rfl, rfl, rfl⟩ | ⟨x, _, hl, hz, _, _⟩
  ·exact Nat.le_refl _
  ·omega
 ·intro ha
  rcases h with ⟨_, rfl, rfl, rfl⟩ | ⟨x, hx, _, _, _, _⟩
  ·exact ⟨rfl, rfl⟩
  ·rw [hx] at ha; cases ha
 ·intro hpos
  have hne : zs ≠ [] := List.length_pos_iff.1 hpos
  have hf := hid hne
  rcases h with ⟨_, _, _, rfl⟩ | ⟨x, rfl, hl, hz, hc, hw⟩
  ·exact absurd rfl hne
  ·obtain ⟨cs, ty, fr, hb, h0, hsp⟩ := cell_add (hc 0 hpos)
   have hspot := hsp rfl
   refine ⟨id, x.block, x.off, _, hf, ?_, ?_, ?_⟩
   ·cases x; simp only at hspot; rw [hspot]
   ·simp only [Nat.mul_one]
    rw [List.drop_append_of_le_length (by simp), List.drop_of_length_le (by simp), List.nil_append]
    exact List.take_of_length_le (by simp)
   ·simp
def fzOf (k : IntKind) (a : Option Addr) (zs : List Int) : List (Nat × List AV) := if zs = [] then [] else [frozOf k a zs]
theorem fzOf_mem {k : IntKind} {a : Option Addr} {zs : List Int} {p : Nat × List AV} (h : p ∈ fzOf k a zs) : zs ≠ [] ∧ p = frozOf k a zs := by
 unfold fzOf at h
 split at h
 ·cases h
 ·exact ⟨by assumption, List.mem_singleton.1 h⟩
theorem fzOf_get {k : IntKind} {a : Option Addr} {zs : List Int} (A B : List (Nat × List AV)) (h : zs ≠ []) : (A ++ (fzOf k a zs ++ B))[A.length]? = some (frozOf k a zs) := by
 unfold fzOf
 rw [if_neg h]
 simp
theorem flat1 (f : Int → AV) : ∀ l : List Int, l.flatMap (fun x => [f x]) = l.map f
 | [] => rfl
 | x :: l => by rw [List.flatMap_cons, flat1 f l]; rfl
theorem row_len {k : IntKind} {w : World} {a : Option Addr} {len cap : Nat} {zs : List Int} (h : IsRow k w a len cap zs) : zs.length = len := by
 rcases h with ⟨_, rfl, _, rfl⟩ | ⟨x, _, _, hz, _, _⟩
 ·rfl
 ·exact hz
theorem row_wf {k : IntKind} {w : World} {a : Option Addr} {len cap : Nat} {zs : List Int} (h : IsRow k w a len cap zs) : ∀ n ∈ zs, (Lit.int k n).wf = true := by
 rcases h with ⟨_, _, _, rfl⟩ | ⟨x, _, _, _, _, hw⟩
 ·intro n hn; cases hn
 ·exact hw
section
variable {H : Type} {enc : TypeId × Value → H} {P : Program} {w : World} {base : Nat} {held : Bool}
theorem row_open {t e : TypeId} {k : IntKind} {a : Option Addr} {len cap : Nat} {d : DataW H} {ps : List MemPlace} (ht : P.underlying t = some (.slice e)) (he : P.underlying e = some (.int k)) (hc : P.cellsOf e = 1)
 (h : DataW.Trod enc P w base (fun _ => true) held t (.slice a len cap) d ps) : ∃ zs, IsRow k w a len cap zs := by
 obtain ⟨fuel, hf⟩ := h
 rcases open_ints ht he hc hf with ⟨hcs, _⟩ | ⟨x, l, c, zs, hcs, _, hl, hm, hz, _, hcell, hwz⟩
 ·simp [Value.cells] at hcs
  obtain ⟨rfl, rfl, rfl⟩ := hcs
  exact ⟨[], .inl ⟨rfl, rfl, rfl, rfl⟩⟩
 ·simp [Value.cells] at hcs
  obtain ⟨rfl, rfl, rfl⟩ := hcs
  have hz' : zs.length = cap := by simpa using hz
  refine ⟨zs.take len, .inr ⟨_, rfl, hl, by rw [List.length_take]; omega, ?_, fun n hn => hwz n (List.mem_of_mem_take hn)⟩⟩
  intro i hi
  rw [List.length_take] at hi
  rw [hcell i (by omega), List.getD_eq_getElem?_getD, List.getD_eq_getElem?_getD, List.getElem?_take_of_lt (by omega)]
theorem row_sized {t e : TypeId} {k : IntKind} {a : Option Addr} {len cap : Nat} {d : DataW H} {ps : List MemPlace} {ts : List TypeId} {ds : List (DataW H)} {j : Nat}
 (hsz : (DataW.weightsEach P ts ds).all (· ≤ reachBytes) = true) (ht : ts[j]? = some t) (hd : ds[j]? = some d) (hu : P.underlying t = some (.slice e)) (he : P.underlying e = some (.int k)) (hc : P.cellsOf e = 1) {B : Nat} (hB : P.bytesOf e = B)
 (h : DataW.Trod enc P w base (fun _ => true) held t (.slice a len cap) d ps) : len * B ≤ 140737488351232 := by
 obtain ⟨fuel, hf⟩ := h
 rcases open_ints hu he hc hf with ⟨hcs, _⟩ | ⟨x, l, c, zs, hcs, _, hl, _, hz, hx, _, _⟩
 ·simp [Value.cells] at hcs
  obtain ⟨rfl, rfl, rfl⟩ := hcs
  omega
 ·simp [Value.cells] at hcs
  obtain ⟨rfl, rfl, rfl⟩ := hcs
  obtain ⟨hx, _⟩ := Prod.mk.inj hx
  subst hx
  have z := sized_slice hsz ht hd hu
  rw [hB] at z
  have hz' : zs.length = cap := by simpa using hz
  have e1 : (lits (H := H) k (zs.take len)).length + (lits (H := H) k (zs.drop len)).length = zs.length := by
   simp only [lits, List.length_map, List.length_take, List.length_drop]; omega
  rw [e1] at z
  exact Nat.le_trans (Nat.mul_le_mul_right _ (by omega)) z
end
end Go.Proofs.Ytnikdnchoahngaa.Am
set_option linter.unusedVariables false
set_option linter.unusedSimpArgs false
namespace Go.Proofs.Ytnikdnchoahngaa.Am
open Go
theorem wordNames_walk (v0 : Option Addr) (len0 cap0 : Nat) (z0 : List Int) (a1 : Int) (a2 : Int) (W : World) (w0 : IsRow .i64 W v0 len0 cap0 z0) (y0 : len0 * 8 ≤ 140737488351232) (w1 : (Lit.int .i64 a1).wf = true) (w2 : (Lit.int .u8 a2).wf = true) : Calls Try.prog 6 #[.slice v0 len0 cap0, .int .i64 a1, .int .u8 a2] W fun e W' => e = .returned (.bool true) ∧ RowKit.Below W.heap.size W W' := by
 obtain ⟨k, h⟩ := wordNames_true z0 a1 a2 (by intro n hn; have := row_wf w0 n hn; simpa [Lit.wf, IntKind.min, IntKind.max, IntKind.signed, IntKind.bits] using this) (by rw [row_len w0]; omega) (by simpa [Lit.wf, IntKind.min, IntKind.max, IntKind.signed, IntKind.bits] using w2)
 refine law_walk_fz (g6_ok k z0 a1 a2 true h) W (fzOf .i64 v0 z0 ++ []) (by simp only [VRs]; exact ⟨_, _, rfl, (by have e := row_VR w0 (fzOf .i64 v0 z0 ++ []) (([] : List (Nat × List AV))).length (fun h => fzOf_get ([] : List (Nat × List AV)) _ h); rw [← flat1 (AV.int .i64)] at e; exact e), ⟨_, _, rfl, (by simp only [VR]), ⟨_, _, rfl, (by simp only [VR]), rfl⟩⟩⟩) ?_
 intro p hp
 rcases List.mem_append.1 hp with hp | hp
 ·obtain ⟨hne, rfl⟩ := fzOf_mem hp
  exact row_froz w0 hne _
 ·cases hp
end Go.Proofs.Ytnikdnchoahngaa.Am
namespace Go.Proofs.Ytnikdnchoahngaa.wordNames
open Go.ChangeShapes Go.WideShapes Go.ChangeAt Go.RowKit
open Go.ChangeMaps (open_string shut_string)
set_option linter.unusedVariables false
theorem laidOut : laidOutB Try.prog = true := by kernel_rfl
theorem own : ownKnob Try.prog.godebug = none := by kernel_rfl
set_option maxRecDepth 100000 in
theorem lifted (os : Os) (started : os.Started) (H : Type) (enc : TypeId × Value → H) :
 ReturnsInHanded {} Try.checked os 6 .any (Rows.wordNamesSpec.pre6 enc Try.prog Try.f6 Rows.wordNamesRow.domain false) (Rows.wordNamesSpec.post enc Try.prog Try.f6 false true false false) := by
 refine returnsInHanded_of_change_sized (C := Try.checked) own started (by kernel_rfl) Try.func6
  (ChangeSpec.witness6 (enc := enc) (C := Try.checked) false ⟨#[], #[.slice none 0 0, .int .i64 0, .int .u8 0], []⟩ 8 (by kernel_rfl) (by kernel_rfl) (by kernel_rfl) (by kernel_rfl)) ?_
 intro W base args ds gs before hval0 hW hcnd hsz0 _
 have hsz : (DataW.weightsEach Try.prog (Try.f6.params.toList ++ Rows.wordNamesSpec.plain.varTypes Try.prog) (ds ++ gs)).all (· ≤ reachBytes) = true := hsz0
 have hval : ∀ (j : Nat) t v, Try.f6.params[j]? = some t → args[j]? = some v → Value.okWide Try.prog W .any base t v := hval0
 have hW' := hW
 obtain ⟨p, q, hA0, hV, rfl, hfz, hnd⟩ := hW
 have hA : DataW.TrodAll enc Try.prog W 0 (fun _ => true) true Try.f6.params.toList args.toList ds p := hA0
 rw [Try.params6] at hA hval hsz
 obtain ⟨v0, vs0, d0, ds0, p0, q0, hargs, rfl, rfl, h0, r0⟩ := trodAll_cons hA
 obtain ⟨v1, vs1, d1, ds1, p1, q1, rfl, rfl, rfl, h1, r1⟩ := trodAll_cons r0
 obtain ⟨v2, vs2, d2, ds2, p2, q2, rfl, rfl, rfl, h2, r2⟩ := trodAll_cons r1
 obtain ⟨rfl, rfl, rfl⟩ := trodAll_nil r2
 obtain rfl : args = #[v0, v1, v2] := by cases args; simp_all
 obtain ⟨rfl, rfl⟩ := trodVars_none hV
 obtain ⟨v0a, len0, cap0, rfl⟩ := okWide_slice Try.underlying32 (hval 0 32 v0 rfl rfl)
 have k0 := h0
 have lt0 : ∀ x ∈ p0, x.block < W.heap.size := by obtain ⟨m, hm⟩ := k0; exact DataW.trod_lt m _ _ _ hm
 obtain ⟨z0, w0⟩ := Am.row_open Try.underlying32 Try.underlying3 (by kernel_rfl) h0
 have y0 : len0 * 8 ≤ 140737488351232 := Am.row_sized hsz (j := 0) (t := 32) rfl rfl Try.underlying32 Try.underlying3 (by kernel_rfl) (by kernel_rfl) h0
 obtain ⟨a1, rfl, rfl, rfl, w1⟩ := open_int Try.underlying3 (hval 1 3 v1 rfl rfl) h1
 obtain ⟨a2, rfl, rfl, rfl, w2⟩ := open_int Try.underlying5 (hval 2 5 v2 rfl rfl) h2
 clear hA0 hval0 hsz0 hsz
 refine (Am.wordNames_walk v0a len0 cap0 z0 a1 a2 W w0 y0 w1 w2).mono fun e W' ⟨he, bel⟩ => ?_
 subst he
 exact ⟨_, rfl, _, _, _, [], _, [], hW', trodAll_mk1 (shut_bool Try.underlying4 _), (trodAll_cons_mk (Below.trod laidOut (by kernel_rfl) (of_decide_eq_true (by kernel_rfl)) k0 bel lt0) (trodAll_cons_mk (shut_int Try.underlying3 w1) (trodAll_cons_mk (shut_int Try.underlying5 w2) trodAll_mk0))), rfl, bel.frame _, fun h => by cases h⟩
theorem over : Rows.wordNamesRow.holds Try.pinned (OpenSpec.ofChange Rows.wordNamesSpec) :=
 OpenClaim.holds_of_wide 6 Try.f6 rfl rfl rfl rfl rfl rfl rfl ⟨rfl, rfl, rfl, rfl, rfl⟩ rfl rfl rfl rfl rfl (by kernel_rfl) Try.func6 (by kernel_rfl)
  (of_decide_eq_true (by kernel_rfl)) (by unfold Func.isWrapper; first | (rw [if_pos (by decide +kernel)]; kernel_rfl) | (rw [if_neg (by decide +kernel)]; exact ⟨rfl, rfl⟩))
  (fun os started H enc _ => lifted os started H enc)
theorem proved : Rows.WordNamesSaid := over
#print axioms proved
end Go.Proofs.Ytnikdnchoahngaa.wordNames
namespace Go.Proofs.Ytnikdnchoahngaa
theorem wordNames_holds : Rows.WordNamesSaid := wordNames.proved
end Go.Proofs.Ytnikdnchoahngaa
