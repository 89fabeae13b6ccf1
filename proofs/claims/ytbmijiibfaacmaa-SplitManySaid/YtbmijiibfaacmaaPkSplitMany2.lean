/- LawSplitMany, part 2: whatever the input, the law comes out true: our texts, joined by a tool, without what the claim does not name. -/
import Derived.Test.YtbmijiibfaacmaaPkSplitMany1
import Derived.KernelRfl
import Derived.Lib.OthersKept
import Derived.Laws.RangeString
import Derived.Test.YtbmijiibfaacmaaProg
set_option linter.unusedVariables false
set_option linter.unusedSimpArgs false
namespace Go.Proofs.Ytbmijiibfaacmaa.Am
open Go
mutual
def pur : AV → Bool
 | .ptr .. | .slice .. | .own .. => false
 | .agg xs => purs xs
 | .tuple xs => purs xs
 | .func _ a b => purs a && purs b
 | .iface _ v => pur v
 | _ => true
def purs : List AV → Bool
 | [] => true
 | x :: xs => pur x && purs xs
end
mutual
theorem pur_VR {m : Mp} : ∀ (x : AV) (c : Value), pur x = true → VR m x c → VR m.still x c
 | .top, _, _, _ => by simp only [VR]
 | .int .., _, _, e => by simpa only [VR] using e
 | .resid .., _, _, e => by simpa only [VR] using e
 | .bool _, _, _, e => by simpa only [VR] using e
 | .str _, _, _, e => by simpa only [VR] using e
 | .nilp, _, _, e => by simpa only [VR] using e
 | .nils, _, _, e => by simpa only [VR] using e
 | .nilf, _, _, e => by simpa only [VR] using e
 | .nili, _, _, e => by simpa only [VR] using e
 | .vec .., _, _, e => by simp only [VR] at e ⊢; exact e
 | .vptr .., _, _, e => by simp only [VR] at e ⊢; exact e
 | .ptr .., _, h, _ => by simp [pur] at h
 | .slice .., _, h, _ => by simp [pur] at h
 | .own .., _, h, _ => by simp [pur] at h
 | .agg xs, c, h, e => by
  simp only [VR] at e ⊢
  obtain ⟨ys, h1, h2⟩ := e
  exact ⟨ys, h1, purs_VR xs _ (by simpa only [pur] using h) h2⟩
 | .tuple xs, c, h, e => by
  simp only [VR] at e ⊢
  obtain ⟨ys, h1, h2⟩ := e
  exact ⟨ys, h1, purs_VR xs _ (by simpa only [pur] using h) h2⟩
 | .func f a b, c, h, e => by
  simp only [VR] at e ⊢
  simp only [pur, Bool.and_eq_true] at h
  obtain ⟨ys, zs, h1, h2, h3⟩ := e
  exact ⟨ys, zs, h1, purs_VR a _ h.1 h2, purs_VR b _ h.2 h3⟩
 | .iface t v, c, h, e => by
  simp only [VR] at e ⊢
  obtain ⟨d, h1, h2⟩ := e
  exact ⟨d, h1, pur_VR v _ (by simpa only [pur] using h) h2⟩
theorem purs_VR {m : Mp} : ∀ (xs : List AV) (cs : List Value), purs xs = true → VRs m xs cs → VRs m.still xs cs
 | [], _, _, e => by simpa only [VRs] using e
 | x :: xs, cs, h, e => by
  simp only [VRs] at e ⊢
  simp only [purs, Bool.and_eq_true] at h
  obtain ⟨y, ys, rfl, h1, h2⟩ := e
  exact ⟨y, ys, rfl, pur_VR x y h.1 h1, purs_VR xs ys h.2 h2⟩
end
theorem purs_append : ∀ {xs ys : List AV}, purs xs = true → purs ys = true → purs (xs ++ ys) = true
 | [], ys, _, h => h
 | x :: xs, ys, h, k => by
  simp only [List.cons_append, purs, Bool.and_eq_true] at h ⊢
  exact ⟨h.1, purs_append h.2 k⟩
theorem purs_flatMap {α : Type} {f : α → List AV} (h : ∀ x, purs (f x) = true) : ∀ l : List α, purs (l.flatMap f) = true
 | [] => rfl
 | x :: l => by rw [List.flatMap_cons]; exact purs_append (h x) (purs_flatMap h l)
theorem RW.still {m : Mp} {H : Hp} {w : World} {base : Nat} (h : RW m H w base) : RW m.still H0 w w.heap.size where
 blk := by intro r b v B N hb hm; cases hm
 dom := by intro r v B N hm; cases hm
 sep := by intro r v B N r' v' N' hm; cases hm
 fresh := by intro r _; rfl
 vle := by intro r v B N hm; cases hm
 frz := h.frz
 fsep := by intro i B cells r v N b _ hm; cases hm
 ffin := h.ffin
 base_le := Nat.le_refl _
 low := by show 0 ≤ roots; unfold roots; omega
def PureOk (P : Program) (f : Nat) (xs : List AV) (v : AV) : Prop :=
 (∀ (m0 : Mp) (w : World) (args : Array Value), (∀ r v, m0 r v = none) → VRs m0 xs args.toList → RW m0 H0 w w.heap.size → Calls P f args w fun x w' => ∃ m' c, x = .returned c ∧ RW m' H0 w' w.heap.size ∧ St m0 w w.heap.size m' w' ∧ VR m' v c) ∧
 (∃ fn, P.funcs[f]? = some fn ∧ (fn.name == "runtime.NumGoroutine") = false ∧ fn.body.isSome = true)
theorem pure_call {P : Program} {f : Nat} {xs : List AV} {v : AV} (h : PureOk P f xs v) (hx : purs xs = true) (hv : pur v = true) (H : Hp) : CallV P f xs H v H := by
 refine ⟨?_, h.2⟩
 intro m w base args hargs rw
 refine Calls.mono (h.1 m.still w args (fun _ _ => rfl) (purs_VR _ _ hx hargs) rw.still) ?_
 rintro x w' ⟨m', c, rfl, rw', st', hvc⟩
 have hnone : ∀ r v, m' r v = none := by
  intro r v
  cases e : m' r v with
  | none => rfl
  | some p =>
   obtain ⟨b, hb, _⟩ := rw'.dom r v p.1 p.2 e
   cases hb
 have hsame : ∀ B, B < w.heap.size → w'.heap[B]? = w.heap[B]? := fun B hB => st'.same B hB (fun _ _ _ hm => by cases hm)
 have hsub : Sub m ⟨m.map, m'.froz⟩ := ⟨fun _ _ _ h => h, st'.sub.2⟩
 refine ⟨⟨m.map, m'.froz⟩, c, rfl, ⟨?_, ?_, rw.sep, rw.fresh, rw.vle, rw'.frz, ?_, rw'.ffin, Nat.le_trans rw.base_le st'.size, rw.low⟩, ⟨hsub, fun r v B N e => .inl ⟨v, N, e⟩, ?_, st'.size, st'.os, st'.tape, st'.output, fun B hB _ => hsame B hB⟩, ?_⟩
 ·intro r b v B N hb hm h1 h2
  obtain ⟨cs, ty, fr, q1, q2, q3, q4, q5⟩ := rw.blk r b v B N hb hm h1 h2
  obtain ⟨_, _, _, hlt, _⟩ := rw.dom r v B N hm
  exact ⟨cs, ty, fr, by rw [hsame B hlt]; exact q1, q2, q3, q4, VRs.mono hsub _ _ q5⟩
 ·intro r v B N hm
  obtain ⟨b, q1, q2, q3, q4⟩ := rw.dom r v B N hm
  exact ⟨b, q1, q2, Nat.lt_of_lt_of_le q3 st'.size, q4⟩
 ·intro i B cells r v N b hi hm hb
  rcases st'.fext i B cells hi with hi' | hB
  ·exact rw.fsep i B cells r v N b hi' hm hb
  ·obtain ⟨_, _, _, hlt, _⟩ := rw.dom r v B N hm
   omega
 ·intro i B cells e
  rcases st'.fext i B cells e with hi' | hB
  ·exact .inl hi'
  ·exact .inr (Nat.le_trans rw.base_le hB)
 ·have h1 := pur_VR v c hv hvc
  exact VR.mono (m := m'.still) (m' := ⟨m.map, m'.froz⟩) ⟨fun _ _ _ h => (by cases h), fun _ _ h => h⟩ v c h1
inductive Fr where
 | seq (b : Code) | block (id : Nat) | loop (b : Code) | scope (b : Code)
inductive Pt where
 | code (c : Code) (K : List Fr)
 | ops (o : Array Oper) (n : Nat) (K : List Fr)
 | loop (b : Code) (K : List Fr)
 | fin
def FinK (P : Program) (Q : Exit → Act → World → Prop) : List Fr → Exit → Act → World → Prop
 | [] => Q
 | .seq b :: K => Exit.then (b.wp P (FinK P Q K)) (FinK P Q K)
 | .block id :: K => Exit.inBlock id (FinK P Q K)
 | .loop b :: K => Exit.then (LoopWp P b (FinK P Q K)) (FinK P Q K)
 | .scope b :: K => fun e a w => match e with | .goto l => ∃ rest, findLabel b l = some rest ∧ ScopeWp P b rest (FinK P Q K) a w | e => FinK P Q K e a w
def At (P : Program) (Q : Exit → Act → World → Prop) : Pt → Act → World → Prop
 | .code c K, a, w => c.wp P (FinK P Q K) a w
 | .ops o n K, a, w => wpOps P o (FinK P Q K) (List.range' n (o.size - n)) a w
 | .loop b K, a, w => LoopWp P b (FinK P Q K) a w
 | .fin, a, w => Q .normal a w ∧ Q .ret a w
def resume : List Fr → Pt
 | [] => .fin
 | .seq b :: K => .code b K
 | .block _ :: K => resume K
 | .loop b :: K => .loop b K
 | .scope _ :: K => resume K
theorem resume_ok {P : Program} {Q : Exit → Act → World → Prop} {a : Act} {w : World} : ∀ {K : List Fr}, At P Q (resume K) a w → FinK P Q K .normal a w
 | [], h => h.1
 | .seq b :: K, h => h
 | .block id :: K, h => by show Exit.inBlock id (FinK P Q K) .normal a w; exact resume_ok (K := K) h
 | .loop b :: K, h => h
 | .scope b :: K, h => resume_ok (K := K) h
def exitK (id : Nat) : List Fr → Option Pt
 | [] => none
 | .block j :: K => if id = j then some (resume K) else exitK id K
 | .seq _ :: K => exitK id K
 | .loop _ :: K => exitK id K
 | .scope _ :: K => exitK id K
theorem exitK_ok {P : Program} {Q : Exit → Act → World → Prop} {a : Act} {w : World} {id : Nat} {p : Pt} : ∀ {K : List Fr}, exitK id K = some p → At P Q p a w → FinK P Q K (.exit id) a w
 | [], h, _ => by cases h
 | .seq b :: K, h, k => exitK_ok (K := K) h k
 | .loop b :: K, h, k => exitK_ok (K := K) h k
 | .scope b :: K, h, k => exitK_ok (K := K) h k
 | .block j :: K, h, k => by
  simp only [exitK] at h
  show Exit.inBlock j (FinK P Q K) (.exit id) a w
  simp only [Exit.inBlock]
  split at h
  ·rename_i e
   cases h
   rw [if_pos e]
   exact resume_ok k
  ·rename_i e
   rw [if_neg e]
   exact exitK_ok h k
def gotoK (l : Nat) : List Fr → Option Pt
 | [] => none
 | .scope b :: K => match findLabel b l with | some rest => some (.code rest (.scope b :: K)) | none => none
 | .block _ :: K => gotoK l K
 | .seq _ :: K => gotoK l K
 | .loop _ :: K => gotoK l K
theorem scope_ok {P : Program} {Q : Exit → Act → World → Prop} {a : Act} {w : World} {b c : Code} {K : List Fr} (h : c.wp P (FinK P Q (.scope b :: K)) a w) : ScopeWp P b c (FinK P Q K) a w :=
 ScopeWp.of (wp_mono h fun e a1 w1 he => by cases e <;> exact he)
theorem gotoK_ok {P : Program} {Q : Exit → Act → World → Prop} {a : Act} {w : World} {l : Nat} {p : Pt} : ∀ {K : List Fr}, gotoK l K = some p → At P Q p a w → FinK P Q K (.goto l) a w
 | [], h, _ => by cases h
 | .seq b :: K, h, k => gotoK_ok (K := K) h k
 | .loop b :: K, h, k => gotoK_ok (K := K) h k
 | .block b :: K, h, k => gotoK_ok (K := K) h k
 | .scope b :: K, h, k => by
  simp only [gotoK] at h
  split at h
  ·rename_i rest hf
   cases h
   exact ⟨rest, hf, scope_ok k⟩
  ·cases h
theorem retK_ok {P : Program} {Q : Exit → Act → World → Prop} {a : Act} {w : World} (h : Q .ret a w) : ∀ (K : List Fr), FinK P Q K .ret a w
 | [] => h
 | .seq b :: K => retK_ok h K
 | .loop b :: K => retK_ok h K
 | .block b :: K => retK_ok h K
 | .scope b :: K => retK_ok h K
inductive FzG (H : Hp) : List AV → List AV → Prop where
 | pures {xs} : purs xs = true → FzG H xs xs
 | cons {x xs ys} : pur x = true → FzG H xs ys → FzG H (x :: xs) (x :: ys)
 | nil {sz xs ys} : FzG H xs ys → FzG H (.nils :: xs) (.vec 0 sz [] :: ys)
 | own {r len sz cells cells' minv xs ys} : H.t.get r = some ⟨cells, minv, false⟩ → cells.length = len * sz → minv ≤ len * sz → FzG H cells cells' → FzG H xs ys → FzG H (.own r len sz :: xs) (.vec len sz cells' :: ys)
 | slice {r len sz v cells cells' minv xs ys} : H.t.get r = some ⟨cells, minv, false⟩ → cells.length = len * sz → v = len * sz → minv ≤ len * sz → FzG H cells cells' → FzG H xs ys → FzG H (.slice r v 0 len sz :: xs) (.vec len sz cells' :: ys)
 | agg {xs ys zs us} : FzG H xs ys → FzG H zs us → FzG H (.agg xs :: zs) (.agg ys :: us)
 | tuple {xs ys zs us} : FzG H xs ys → FzG H zs us → FzG H (.tuple xs :: zs) (.tuple ys :: us)
structure FOk (F : Nat → Option (Nat × List AV)) (F0 : Nat → Option (Nat × List AV)) (w : World) (base : Nat) : Prop where
 ok : ∀ i B cells, F i = some (B, cells) → ∃ cs ty fr, w.heap[B]? = some (.cells cs ty fr) ∧ cells.length ≤ cs.size ∧ VRs ⟨fun _ _ => none, F⟩ cells (cs.toList.take cells.length)
 fin : ∃ n, ∀ i, n ≤ i → F i = none
 new : ∀ i B cells, F i = some (B, cells) → F0 i = some (B, cells) ∨ base ≤ B
 sub : ∀ i p, F0 i = some p → F i = some p
theorem FzG.length {H : Hp} {xs ys : List AV} (h : FzG H xs ys) : ys.length = xs.length := by
 induction h <;> simp_all
theorem fOk_add {F F0 : Nat → Option (Nat × List AV)} {w : World} {base B : Nat} {cells : List AV} {cs : Array Value} {ty : TypeId} {fr : Nat × Nat} (h : FOk F F0 w base) (hB : base ≤ B) (hw : w.heap[B]? = some (.cells cs ty fr)) (hl : cells.length ≤ cs.size) (hv : VRs ⟨fun _ _ => none, F⟩ cells (cs.toList.take cells.length)) :
 ∃ F' i, FOk F' F0 w base ∧ F' i = some (B, cells) ∧ (∀ i p, F i = some p → F' i = some p) := by
 obtain ⟨n, hn⟩ := h.fin
 have hsub : ∀ i p, F i = some p → (fun i => if i = n then some (B, cells) else F i) i = some p := by
  intro i p hi
  simp only
  rw [if_neg]
  ·exact hi
  ·rintro rfl; rw [hn _ (Nat.le_refl _)] at hi; cases hi
 have hS : Sub ⟨fun _ _ => none, F⟩ ⟨fun _ _ => none, fun i => if i = n then some (B, cells) else F i⟩ := ⟨fun _ _ _ e => (by cases e), hsub⟩
 refine ⟨fun i => if i = n then some (B, cells) else F i, n, ⟨?_, ⟨n + 1, fun i hi => ?_⟩, ?_, fun i p hi => hsub i p (h.sub i p hi)⟩, by simp, hsub⟩
 ·intro i B' cells' hi
  by_cases e : i = n
  ·simp only [e, if_true] at hi
   cases hi
   exact ⟨cs, ty, fr, hw, hl, VRs.mono hS _ _ hv⟩
  ·simp only [e, if_false] at hi
   obtain ⟨cs2, ty2, fr2, h1, h2, h3⟩ := h.ok i B' cells' hi
   exact ⟨cs2, ty2, fr2, h1, h2, VRs.mono hS _ _ h3⟩
 ·have hne : ¬ i = n := by omega
  show (if i = n then some (B, cells) else F i) = none
  rw [if_neg hne]
  exact hn i (by omega)
 ·intro i B' cells' hi
  by_cases e : i = n
  ·simp only [e, if_true] at hi
   cases hi
   exact .inr hB
  ·simp only [e, if_false] at hi
   exact h.new i B' cells' hi
theorem vec_nil (m : Mp) (sz : Nat) : VR m (.vec 0 sz []) (.slice none 0 0) := by
 simp only [VR]
 exact ⟨by simp, none, 0, rfl, Nat.le_refl _, by simp, by simp⟩
theorem fz_ok {m : Mp} {H : Hp} {w : World} {base : Nat} (rw : RW m H w base) {xs ys : List AV} (h : FzG H xs ys) : ∀ {cs : List Value} {F : Nat → Option (Nat × List AV)}, FOk F m.froz w base → VRs m xs cs → ∃ F', FOk F' m.froz w base ∧ (∀ i p, F i = some p → F' i = some p) ∧ VRs ⟨fun _ _ => none, F'⟩ ys cs := by
 have still : ∀ {F : Nat → Option (Nat × List AV)}, FOk F m.froz w base → Sub m.still ⟨fun _ _ => none, F⟩ := fun hF => ⟨fun _ _ _ e => (by cases e), hF.sub⟩
 have grow : ∀ {F F' : Nat → Option (Nat × List AV)}, (∀ i p, F i = some p → F' i = some p) → Sub ⟨fun _ _ => none, F⟩ ⟨fun _ _ => none, F'⟩ := fun h => ⟨fun _ _ _ e => (by cases e), h⟩
 have block : ∀ {r len sz minv cap B N : Nat} {cells cells' : List AV}, H.t.get r = some ⟨cells, minv, false⟩ → cells.length = len * sz → minv ≤ len * sz → cells'.length = cells.length →
  (∀ {cs : List Value} {F : Nat → Option (Nat × List AV)}, FOk F m.froz w base → VRs m cells cs → ∃ F', FOk F' m.froz w base ∧ (∀ i p, F i = some p → F' i = some p) ∧ VRs ⟨fun _ _ => none, F'⟩ cells' cs) →
  ∀ {F : Nat → Option (Nat × List AV)}, FOk F m.froz w base → m r (len * sz) = some (B, N) → len ≤ cap → ∃ F', FOk F' m.froz w base ∧ (∀ i p, F i = some p → F' i = some p) ∧ VR ⟨fun _ _ => none, F'⟩ (.vec len sz cells') (.slice (some ⟨B, 0, none⟩) len cap) := by
  intro r len sz minv cap B N cells cells' hb hl hmin hl' ih F hF hm hcap
  obtain ⟨cs, ty, fr, q1, q2, q3, q4, q5⟩ := rw.blk _ _ _ _ _ hb hm hmin (by rw [hl]; exact Nat.le_refl _)
  obtain ⟨b0, hb0, _, _, hbase⟩ := rw.dom _ _ _ _ hm
  rw [hb] at hb0
  cases hb0
  simp only at q5
  rw [List.take_of_length_le (by omega)] at q5
  obtain ⟨F1, h1, h2, h3⟩ := ih hF q5
  obtain ⟨F2, i, g1, g2, g3⟩ := fOk_add h1 (hbase rfl) q1 (cells := cells') (by omega) (by rw [hl', hl]; exact h3)
  refine ⟨F2, g1, fun i p hi => g3 i p (h2 i p hi), ?_⟩
  simp only [VR]
  refine ⟨by omega, _, cap, rfl, hcap, fun e => (by cases e), fun _ => ⟨i, B, 0, cells', g2, rfl, ?_, by omega⟩⟩
  rw [List.drop_zero, List.take_of_length_le (by omega)]
 induction h with
 | pures hp =>
  intro cs F hF hv
  exact ⟨F, hF, fun _ _ h => h, VRs.mono (still hF) _ _ (purs_VR _ _ hp hv)⟩
 | cons hp _ ih =>
  intro cs F hF hv
  simp only [VRs] at hv ⊢
  obtain ⟨y, ys, rfl, h1, h2⟩ := hv
  obtain ⟨F', g1, g2, g3⟩ := ih hF h2
  exact ⟨F', g1, g2, y, ys, rfl, VR.mono (still g1) _ _ (pur_VR _ _ hp h1), g3⟩
 | nil _ ih =>
  intro cs F hF hv
  simp only [VRs] at hv ⊢
  obtain ⟨y, ys, rfl, h1, h2⟩ := hv
  obtain ⟨F', g1, g2, g3⟩ := ih hF h2
  simp only [VR] at h1
  subst h1
  exact ⟨F', g1, g2, _, ys, rfl, vec_nil _ _, g3⟩
 | @own r len sz cells cells' minv xs ys hb hl hmin hc _ ih1 ih2 =>
  intro cs F hF hv
  simp only [VRs] at hv
  obtain ⟨c, cs', rfl, h1, h2⟩ := hv
  simp only [VR] at h1
  rcases h1 with ⟨h0, rfl⟩ | ⟨B, N, cap, hm, hcap, hN, rfl⟩
  ·obtain ⟨F', g1, g2, g3⟩ := ih2 hF h2
   refine ⟨F', g1, g2, ?_⟩
   subst h0
   obtain rfl : cells' = [] := List.length_eq_zero_iff.1 (by rw [hc.length]; omega)
   simp only [VRs]
   exact ⟨_, _, rfl, vec_nil _ _, g3⟩
  ·obtain ⟨F1, g1, g2, g3⟩ := block hb hl hmin hc.length ih1 hF hm hcap
   obtain ⟨F', e1, e2, e3⟩ := ih2 g1 h2
   refine ⟨F', e1, fun i p hi => e2 i p (g2 i p hi), ?_⟩
   simp only [VRs]
   exact ⟨_, _, rfl, VR.mono (grow e2) _ _ g3, e3⟩
 | @slice r len sz v cells cells' minv xs ys hb hl hv0 hmin hc _ ih1 ih2 =>
  intro cs F hF hv
  simp only [VRs] at hv
  obtain ⟨c, cs', rfl, h1, h2⟩ := hv
  simp only [VR] at h1
  obtain ⟨B, N, cap, hm, _, hcap, hN, rfl⟩ := h1
  subst hv0
  obtain ⟨F1, g1, g2, g3⟩ := block hb hl hmin hc.length ih1 hF hm hcap
  obtain ⟨F', e1, e2, e3⟩ := ih2 g1 h2
  refine ⟨F', e1, fun i p hi => e2 i p (g2 i p hi), ?_⟩
  simp only [VRs]
  exact ⟨_, _, rfl, VR.mono (grow e2) _ _ g3, e3⟩
 | agg _ _ ih1 ih2 =>
  intro cs F hF hv
  simp only [VRs, VR] at hv ⊢
  obtain ⟨c, cs', rfl, ⟨zs, rfl, h1⟩, h2⟩ := hv
  obtain ⟨F1, g1, g2, g3⟩ := ih1 hF h1
  obtain ⟨F', e1, e2, e3⟩ := ih2 g1 h2
  exact ⟨F', e1, fun i p hi => e2 i p (g2 i p hi), _, _, rfl, ⟨zs, rfl, VRs.mono (grow e2) _ _ g3⟩, e3⟩
 | tuple _ _ ih1 ih2 =>
  intro cs F hF hv
  simp only [VRs, VR] at hv ⊢
  obtain ⟨c, cs', rfl, ⟨zs, rfl, h1⟩, h2⟩ := hv
  obtain ⟨F1, g1, g2, g3⟩ := ih1 hF h1
  obtain ⟨F', e1, e2, e3⟩ := ih2 g1 h2
  exact ⟨F', e1, fun i p hi => e2 i p (g2 i p hi), _, _, rfl, ⟨zs, rfl, VRs.mono (grow e2) _ _ g3⟩, e3⟩
structure Fx (R : Type) where
 P : Program
 C : Cx
 fn : Func
 enc : R → AV
 n0 : Nat
 fin : R → Hp
 hti : ∀ t i, C.ti t = some i → mkTi P t = some i
 ord : P.follows .mixedOrders = true
section
variable {R : Type} (X : Fx R)
def Ret (r : R) (m0 : Mp) (w0 : World) (b0 : Nat) : Exit → Act → World → Prop :=
 bodyPost X.P X.fn fun x w' => ∃ m' c, x = .returned c ∧ RW m' (X.fin r) w' b0 ∧ St m0 w0 b0 m' w' ∧ VR m' (X.enc r) c
def Ok (p : Pt) (env : Env) (H : Hp) (t : Option R) : Prop := ∀ r, t = some r → ∀ (m0 : Mp) (w0 : World) (b0 : Nat) (m : Mp) (w : World) (a : Act), ((∀ r v p, m0 r v = some p → r < X.n0) ∧ b0 ≤ w0.heap.size) → FR m env a.tmps → X.fn.ntmps ≤ a.tmps.size → a.defers = [] → RW m H w b0 → St m0 w0 b0 m w → At X.P (Ret X r m0 w0 b0) p a w
end
section
variable {R : Type} {X : Fx R} {p p' : Pt} {env eE : Env} {H H' : Hp}
theorem ok_none : Ok X p env H none := by intro r h; cases h
theorem ok_bind {α : Type} {m : Option α} {f : α → Option R} (h : ∀ x, m = some x → Ok X p env H (f x)) : Ok X p env H (m.bind f) := by
 intro r hr
 cases hm : m with
 | none => rw [hm] at hr; cases hr
 | some x => rw [hm] at hr; exact h x hm r hr
theorem ok_less {t : Option R} (h : Less env eE) (k : Ok X p eE H t) : Ok X p env H t :=
 fun r hr m0 w0 b0 m w a h0 fr hn hd rw st => k r hr m0 w0 b0 m w a h0 (fr.less h) hn hd rw st
theorem oK {t : Option R} (ks : List Nat) (h : keepOnly env ks = eE) (k : Ok X p eE H t) : Ok X p env H t :=
 ok_less (h ▸ less_keepOnly ks env) k
theorem ok_heap {t : Option R} (h : H = H') (k : Ok X p env H' t) : Ok X p env H t := h ▸ k
theorem oE {t : Option R} (h : env = eE) (k : Ok X p eE H t) : Ok X p env H t := h ▸ k
theorem less_put {d : Nat} {v : AV} (h : look env d = v) : Less env (putE env d v) := by
 intro t
 rw [look_put]
 split
 ·rename_i e; subst e; exact .inr h.symm
 ·exact .inr rfl
theorem oS {t1 t2 : Option R} (d : Nat) {b : Bool} (h : look env d = .bool b) (k1 : b = true → Ok X p ((d, .bool true) :: env) H t1) (k2 : b = false → Ok X p ((d, .bool false) :: env) H t2) : Ok X p env H (if b then t1 else t2) := by
 cases b with
 | true => exact ok_less (less_put h) (k1 rfl)
 | false => exact ok_less (less_put h) (k2 rfl)
abbrev jn {α R : Type} (f : α → Option R) (b : (α → Option R) → Option R) : Option R := b f
theorem oJ {α : Type} {f : α → Option R} {b : (α → Option R) → Option R} (pj : Pt) (E : α → Env) (G : α → Hp) (k1 : ∀ x, Ok X pj (E x) (G x) (f x)) (k2 : ∀ j : α → Option R, (∀ x, Ok X pj (E x) (G x) (j x)) → Ok X p env H (b j)) : Ok X p env H (jn f b) := k2 f k1
theorem ok_stp {t : Option R} {ops : Array Oper} {n : Nat} {K : List Fr} {o : Oper} {v : AV} (ho : ops[n]? = some o) (hd : dstOk X.fn.ntmps o = true) (hw : wantedV o ops.toList env = some true) (hs : Stp X.P X.C env H o v H') (k : Ok X (.ops ops (n + 1) K) (putV env o.dst v) H' t) : Ok X (.ops ops n K) env H t := by
 intro r hr m0 w0 b0 m w a h0 fr hn hdf rw st
 show wpOps X.P ops _ (List.range' n (ops.size - n)) a w
 have hlt : n < ops.size := (Array.getElem?_eq_some_iff.1 ho).1
 rw [show ops.size - n = (ops.size - (n + 1)) + 1 by omega, List.range'_succ]
 simp only [wpOps, ho]
 rw [wanted_ok hw fr]
 simp only [if_true]
 refine .inl ?_
 refine stp_ok X.hti hs fr rw _ _ fun m' w' c q1 q2 q3 => ?_
 obtain ⟨f1, f2, f3⟩ := act_put_frame (fr.mono q2.sub) hn hdf o hd v c q3
 exact k r hr m0 w0 b0 m' w' _ h0 f1 f2 f3 q1 (st.trans h0.2 q2)
theorem ok_skp {t : Option R} {ops : Array Oper} {n : Nat} {K : List Fr} {o : Oper} (ho : ops[n]? = some o) (hd : dstOk X.fn.ntmps o = true) (hw : wantedV o ops.toList env = some false) (k : Ok X (.ops ops (n + 1) K) (putV env o.dst (.tuple [])) H t) : Ok X (.ops ops n K) env H t := by
 intro r hr m0 w0 b0 m w a h0 fr hn hdf rw st
 show wpOps X.P ops _ (List.range' n (ops.size - n)) a w
 have hlt : n < ops.size := (Array.getElem?_eq_some_iff.1 ho).1
 rw [show ops.size - n = (ops.size - (n + 1)) + 1 by omega, List.range'_succ]
 simp only [wpOps, ho]
 rw [wanted_ok hw fr]
 simp only [Bool.false_eq_true, if_false]
 obtain ⟨f1, f2, f3⟩ := act_put_frame fr hn hdf o hd (.tuple []) undef (VR_undef _)
 exact k r hr m0 w0 b0 m w _ h0 f1 f2 f3 rw st
theorem ok_go {t : Option R} (h : ∀ (Q : Exit → Act → World → Prop) (a : Act) (w : World), True → At X.P Q p' a w → At X.P Q p a w) (k : Ok X p' env H t) : Ok X p env H t :=
 fun r hr m0 w0 b0 m w a h0 fr hn hd rw st => h _ a w trivial (k r hr m0 w0 b0 m w a h0 fr hn hd rw st)
end
end Go.Proofs.Ytbmijiibfaacmaa.Am
set_option linter.unusedVariables false
set_option linter.unusedSimpArgs false
namespace Go.Proofs.Ytbmijiibfaacmaa.Am
open Go
section
variable {R : Type} {X : Fx R} {p p' : Pt} {env eE : Env} {H H' : Hp}
noncomputable def stepV (C : Cx) (n : Nat) (p : Pt) (env : Env) (H : Hp) : Option (Pt × Env × Hp) :=
 match p with
 | .ops ops k K => match nth ops.toList k with
  | some o => bif dstOk n o then (match wantedV o ops.toList env with
   | some true => (match opV C env H o with | some (v, H') => some (.ops ops (k + 1) K, putV env o.dst v, H') | none => none)
   | some false => some (.ops ops (k + 1) K, putV env o.dst (.tuple []), H)
   | none => none) else none
  | none => some (resume K, env, H)
 | .code c K => match c with
  | .seq a b => some (.code a (.seq b :: K), env, H)
  | .skip => some (resume K, env, H)
  | .label _ => some (resume K, env, H)
  | .block id b => some (.code b (.block id :: K), env, H)
  | .scope b => some (.code b (.scope b :: K), env, H)
  | .loop b => some (.loop b K, env, H)
  | .exit id => match exitK id K with | some q => some (q, env, H) | none => none
  | .goto l => match gotoK l K with | some q => some (q, env, H) | none => none
  | .ret => some (.fin, env, H)
  | .region id ops draw => bif draw then none else some (.ops ops 0 K, env, H)
  | .cond c x y => match opnd env c with | .bool b => some (.code (bif b then x else y) K, env, H) | _ => none
  | _ => none
 | _ => none
theorem fin_ops {t : Option R} {ops : Array Oper} {n : Nat} {K : List Fr} (h : ops[n]? = none) (k : Ok X (resume K) env H t) : Ok X (.ops ops n K) env H t := by
 intro r hr m0 w0 b0 m w a h0 fr hn hd rw st
 show wpOps X.P ops _ (List.range' n (ops.size - n)) a w
 have hle : ops.size ≤ n := by
  rcases Nat.lt_or_ge n ops.size with h1 | h1
  ·rw [Array.getElem?_eq_getElem h1] at h; cases h
  ·exact h1
 rw [show ops.size - n = 0 by omega]
 exact resume_ok (k r hr m0 w0 b0 m w a h0 fr hn hd rw st)
theorem stepV_ok {t : Option R} (h : stepV X.C X.fn.ntmps p env H = some (p', eE, H')) (k : Ok X p' eE H' t) : Ok X p env H t := by
 cases p with
 | ops ops n K =>
  simp only [stepV] at h
  rw [nth_eq, Array.getElem?_toList] at h
  cases ho : ops[n]? with
  | none => rw [ho] at h; cases h; exact fin_ops ho k
  | some o =>
   rw [ho] at h
   simp only at h
   cases hd : dstOk X.fn.ntmps o with
   | false => rw [hd] at h; cases h
   | true =>
    rw [hd] at h
    simp only [cond_true] at h
    split at h
    ·rename_i hw
     split at h
     ·rename_i v H1 hv
      cases h
      exact ok_stp ho hd hw (.inl hv) k
     ·cases h
    ·rename_i hw
     cases h
     exact ok_skp ho hd hw k
    ·cases h
 | code c K =>
  cases c <;> simp only [stepV] at h
  case seq x y => cases h; exact ok_go (p' := .code x (.seq y :: K)) (fun Q a w _ hh => wp_seq (wp_mono hh fun e a w he => by cases e <;> exact he)) k
  case skip => cases h; exact ok_go (fun Q a w _ hh => wp_skip (resume_ok hh)) k
  case label => cases h; exact ok_go (fun Q a w _ hh => wp_label (resume_ok hh)) k
  case block id b => cases h; exact ok_go (p' := .code b (.block id :: K)) (fun Q a w _ hh => wp_block hh) k
  case scope b => cases h; exact ok_go (p' := .code b (.scope b :: K)) (fun Q a w _ hh => (scope_ok hh).wp) k
  case loop b => cases h; exact ok_go (p' := .loop _ _) (fun Q a w _ hh => LoopWp.wp hh) k
  case exit id =>
   split at h
   ·rename_i q hq
    cases h
    exact ok_go (fun Q a w _ hh => wp_exit (exitK_ok hq hh)) k
   ·cases h
  case goto l =>
   split at h
   ·rename_i q hq
    cases h
    exact ok_go (fun Q a w _ hh => wp_goto (gotoK_ok hq hh)) k
   ·cases h
  case ret => cases h; exact ok_go (p' := .fin) (fun Q a w _ hh => wp_ret (retK_ok hh.2 K)) k
  case region id ops draw =>
   cases draw with
   | true => cases h
   | false =>
    cases h
    refine ok_go (fun Q a w _ hh => wp_region ?_) k
    have hh' : wpOps X.P ops (FinK X.P Q K) (List.range' 0 (ops.size - 0)) a w := hh
    rw [List.range_eq_range']
    exact hh'
  case cond c x y =>
   split at h
   ·rename_i b hb
    cases h
    intro r hr m0 w0 b0 m w a h0 fr hn hd rw st
    have hc := opnd_ok fr c
    rw [hb] at hc
    simp only [VR] at hc
    refine wp_cond hc ?_
    have := k r hr m0 w0 b0 m w a h0 fr hn hd rw st
    cases b <;> exact this
   ·cases h
  all_goals cases h
 | loop b K => cases h
 | fin => cases h
noncomputable def runV (C : Cx) (n : Nat) (k : Nat) : Pt → Env → Hp → Option (Pt × Env × Hp) :=
 Nat.rec (motive := fun _ => Pt → Env → Hp → Option (Pt × Env × Hp)) (fun p env H => some (p, env, H))
  (fun _ ih p env H => match stepV C n p env H with | some (p', eE, H') => ih p' eE H' | none => none) k
theorem oR {t : Option R} : ∀ (k : Nat) {p : Pt} {env : Env} {H : Hp}, runV X.C X.fn.ntmps k p env H = some (p', eE, H') → Ok X p' eE H' t → Ok X p env H t
 | 0, p, env, H, h, g => by
  have h' : some (p, env, H) = some (p', eE, H') := h
  cases h'
  exact g
 | k + 1, p, env, H, h, g => by
  have h' : (match stepV X.C X.fn.ntmps p env H with | some (p', eE, H') => runV X.C X.fn.ntmps k p' eE H' | none => none) = some (p', eE, H') := h
  split at h'
  ·rename_i p1 env1 H1 hs
   exact stepV_ok hs (oR k h' g)
  ·cases h'
def entL : Pt → Option Pt
 | .loop b K => some (.code b (.loop b :: K))
 | _ => none
theorem ok_ent {t : Option R} (h : entL p = some p') (k : Ok X p' env H t) : Ok X p env H t := by
 cases p <;> simp only [entL] at h <;> cases h
 exact ok_go (p' := .code _ (.loop _ :: _)) (fun Q a w _ hh => LoopWp.of (wp_mono hh fun e a w he => by cases e <;> exact he)) k
noncomputable def operAt (n : Nat) (p : Pt) (env : Env) : Option Oper :=
 match p with
 | .ops ops k K => match nth ops.toList k with
  | some o => bif dstOk n o then (match wantedV o ops.toList env with | some true => some o | _ => none) else none
  | none => none
 | _ => none
def adv : Pt → Pt
 | .ops ops k K => .ops ops (k + 1) K
 | q => q
noncomputable def evalAt (C : Cx) (n : Nat) (p : Pt) (env : Env) (H : Hp) : Option (AV × Hp) :=
 match operAt n p env with | some o => opV C env H o | none => none
noncomputable def advE (n : Nat) (p : Pt) (env : Env) (v : AV) : Option (Pt × Env) :=
 match operAt n p env with | some o => some (adv p, putV env o.dst v) | none => none
noncomputable def callAt (n : Nat) (p : Pt) (env : Env) : Option (Nat × List AV) :=
 match operAt n p env with
 | some o => match o.op with
  | .call c => match c.callee with
   | .value g => match opnd env g with
    | .func f first caps => some (f, first ++ opnds env c.args.toList ++ caps)
    | _ => none
   | _ => none
  | _ => none
 | none => none
theorem operAt_spec {n : Nat} {o : Oper} (h : operAt n p env = some o) : ∃ ops k K, p = .ops ops k K ∧ ops[k]? = some o ∧ dstOk n o = true ∧ wantedV o ops.toList env = some true := by
 cases p <;> simp only [operAt] at h <;> try (cases h; done)
 rename_i ops k K
 rw [nth_eq, Array.getElem?_toList] at h
 cases ho : ops[k]? with
 | none => rw [ho] at h; cases h
 | some o' =>
  rw [ho] at h
  simp only at h
  cases hd : dstOk n o' with
  | false => rw [hd] at h; cases h
  | true =>
   rw [hd] at h
   simp only [cond_true] at h
   split at h
   ·rename_i hw
    cases h
    exact ⟨ops, k, K, rfl, ho, hd, hw⟩
   ·cases h
theorem ok_val {t : Option R} {v : AV} (h : evalAt X.C X.fn.ntmps p env H = some (v, H')) (ha : advE X.fn.ntmps p env v = some (p', eE)) (k : Ok X p' eE H' t) : Ok X p env H t := by
 unfold evalAt at h
 unfold advE at ha
 cases ho : operAt X.fn.ntmps p env with
 | none => rw [ho] at h; cases h
 | some o =>
  rw [ho] at h ha
  simp only at h ha
  cases ha
  obtain ⟨ops, n, K, rfl, h1, h2, h3⟩ := operAt_spec ho
  exact ok_stp h1 h2 h3 (.inl h) k
theorem oH {α : Type} {m : Option α} {f : α → Option R} (g : α → AV × Hp) (p' : Pt) (E : α → Env) (h : evalAt X.C X.fn.ntmps p env H = m.map g) (ha : ∀ x, advE X.fn.ntmps p env (g x).1 = some (p', E x)) (k : ∀ x, m = some x → Ok X p' (E x) (g x).2 (f x)) : Ok X p env H (m.bind f) := by
 refine ok_bind fun x hx => ?_
 subst hx
 exact ok_val (v := (g x).1) (H' := (g x).2) h (ha x) (k x rfl)
theorem oC {α : Type} {m : Option α} {f : α → Option R} {fi : Nat} {args : List AV} (g : α → AV) (p' : Pt) (E : α → Env) (hc : callAt X.fn.ntmps p env = some (fi, args)) (hp : purs args = true) (hg : ∀ x, pur (g x) = true) (hf : ∀ x, m = some x → PureOk X.P fi args (g x)) (ha : ∀ x, advE X.fn.ntmps p env (g x) = some (p', E x)) (k : ∀ x, m = some x → Ok X p' (E x) H (f x)) : Ok X p env H (m.bind f) := by
 refine ok_bind fun x hx => ?_
 have hpo := pure_call (hf x hx) hp (hg x) H
 have hax := ha x
 unfold advE at hax
 unfold callAt at hc
 cases ho : operAt X.fn.ntmps p env with
 | none => rw [ho] at hax; cases hax
 | some o =>
  rw [ho] at hax hc
  simp only [Option.some.injEq, Prod.mk.injEq] at hax hc
  obtain ⟨e1, e2⟩ := hax
  obtain ⟨ops, n, K, rfl, h1, h2, h3⟩ := operAt_spec ho
  have kx := k x hx
  rw [← e1, ← e2] at kx
  split at hc
  ·rename_i c hoc
   split at hc
   ·rename_i q hq
    split at hc
    ·rename_i fi' first caps hfv
     cases hc
     exact ok_stp h1 h2 h3 (.inr ⟨c, q, fi, first, caps, hoc, hq, hfv, hpo⟩) kx
    ·cases hc
   ·cases hc
  ·cases hc
def drawAt : Pt → Option Pt
 | .code (.region _ _ true) K => some (resume K)
 | _ => none
def opsAt : Pt → Array Oper
 | .code (.region _ ops _) _ => ops
 | _ => #[]
noncomputable def rdOp (C : Cx) (env : Env) (hs : List Hp) (o : Oper) (j : Nat) : List (Option (AV × Hp) × Option (AV × Hp)) :=
 match nth hs j with
 | some H => [(opV C env H o, match o.dst with | some d => some (look env d, H) | none => opV C env H o)]
 | none => []
noncomputable def rdOps (C : Cx) (env : Env) (hs : List Hp) (o : Oper) : Nat → Nat → List (Option (AV × Hp) × Option (AV × Hp))
 | _, 0 => []
 | lo, n + 1 => rdOp C env hs o lo ++ rdOps C env hs o (lo + 1) n
noncomputable def rdL (C : Cx) (all : List Oper) (env : Env) (hs : List Hp) : Nat → List Oper → List (Nat × Nat × Nat) → List (Option (AV × Hp) × Option (AV × Hp))
 | c, o :: l, (_, lo, hi) :: pl => (bif Nat.beq (cls o) 1 && !(Nat.beq lo c && Nat.beq hi c) then (match wantedV o all env with | some true => rdOps C env hs o lo (hi + 1 - lo) | _ => []) else []) ++ rdL C all env hs (bif Nat.beq (cls o) 2 then c + 1 else c) l pl
 | _, _, _ => []
theorem rdOps_at {C : Cx} {env : Env} {hs : List Hp} {o : Oper} : ∀ (n lo j : Nat) (H : Hp), lo ≤ j → j < lo + n → hs[j]? = some H → (opV C env H o, match o.dst with | some d => some (look env d, H) | none => opV C env H o) ∈ rdOps C env hs o lo n
 | 0, lo, j, H, h1, h2, _ => by omega
 | n + 1, lo, j, H, h1, h2, h3 => by
  rw [rdOps, List.mem_append]
  by_cases e : lo = j
  ·subst e
   left
   unfold rdOp
   rw [nth_eq, h3]
   simp
  ·exact .inr (rdOps_at n (lo + 1) j H (by omega) (by omega) h3)
theorem rdL_at {C : Cx} {all : List Oper} {env : Env} {hs : List Hp} : ∀ (l : List Oper) (pl : List (Nat × Nat × Nat)) (c i : Nat) (o : Oper) (mk lo hi : Nat), l[i]? = some o → pl[i]? = some (mk, lo, hi) → cls o = 1 → wantedV o all env = some true → ¬ (lo = c + (l.take i).countP (fun p => Nat.beq (cls p) 2) ∧ hi = c + (l.take i).countP (fun p => Nat.beq (cls p) 2)) → ∀ j, lo ≤ j → j ≤ hi → ∀ H, hs[j]? = some H → (opV C env H o, match o.dst with | some d => some (look env d, H) | none => opV C env H o) ∈ rdL C all env hs c l pl
 | [], pl, c, i, o, mk, lo, hi, ho, _, _, _, _, j, _, _, H, _ => by simp at ho
 | p :: l, [], c, i, o, mk, lo, hi, ho, hp, _, _, _, j, _, _, H, _ => by simp at hp
 | p :: l, (mk0, lo0, hi0) :: pl, c, i, o, mk, lo, hi, ho, hp, hc, hw, hn, j, h1, h2, H, hj => by
  rw [rdL, List.mem_append]
  cases i with
  | zero =>
   simp at ho hp
   subst ho
   obtain ⟨rfl, rfl, rfl⟩ := hp
   left
   have e : Nat.beq (cls p) 1 = true := by rw [hc]; rfl
   have e2 : (Nat.beq lo0 c && Nat.beq hi0 c) = false := by
    cases h : (Nat.beq lo0 c && Nat.beq hi0 c) with
    | false => rfl
    | true =>
     simp only [Bool.and_eq_true] at h
     refine absurd (a := lo0 = c ∧ hi0 = c) ⟨Nat.eq_of_beq_eq_true h.1, Nat.eq_of_beq_eq_true h.2⟩ ?_
     simpa using hn
   rw [e, e2, hw]
   exact rdOps_at _ _ _ _ h1 (by omega) hj
  | succ i =>
   refine .inr (rdL_at l pl _ i o mk lo hi (by simpa using ho) (by simpa using hp) hc hw ?_ j h1 h2 H hj)
   rw [List.take_succ_cons, List.countP_cons] at hn
   cases hb : Nat.beq (cls p) 2 with
   | true => rw [hb] at hn; simp only [if_true] at hn; simp only [cond_true]; omega
   | false => rw [hb] at hn; simp only [Bool.false_eq_true, if_false] at hn; simp only [cond_false]; omega
theorem alike_of {C : Cx} {ops : Array Oper} {env : Env} {hs : List Hp} {pl : List (Nat × Nat × Nat)} (hsome : (rdL C ops.toList env hs 0 ops.toList pl).all (fun q => q.1.isSome) = true) (h : (rdL C ops.toList env hs 0 ops.toList pl).map (·.1) = (rdL C ops.toList env hs 0 ops.toList pl).map (·.2)) : AlikeP C ops env hs pl := by
 intro i o mk lo hi ho hp hc hw hn j h1 h2 H hj
 have hm := rdL_at (C := C) _ _ 0 i o mk lo hi ho hp hc hw (by simpa using hn) j h1 h2 H hj
 have e : opV C env H o = (match o.dst with | some d => some (look env d, H) | none => opV C env H o) := by
  have key : ∀ l : List (Option (AV × Hp) × Option (AV × Hp)), l.map (·.1) = l.map (·.2) → ∀ q ∈ l, q.1 = q.2 := by
   intro l
   induction l with
   | nil => intro _ q hq; cases hq
   | cons x l ih =>
    intro hl q hq
    simp only [List.map_cons, List.cons.injEq] at hl
    rcases List.mem_cons.1 hq with rfl | hq
    ·exact hl.1
    ·exact ih hl.2 q hq
  exact key _ h _ hm
 have hs1 := List.all_eq_true.1 hsome _ hm
 cases hd : o.dst with
 | none =>
  simp only at hs1
  obtain ⟨⟨v, H1⟩, hv⟩ := Option.isSome_iff_exists.1 hs1
  have := opV_reads hc hv
  subst this
  exact ⟨v, hv, fun d hd => by cases hd⟩
 | some d =>
  rw [hd] at e
  exact ⟨_, e, fun d' hd' => by cases hd'; rfl⟩
theorem ok_draw {t : Option R} (pl : List (Nat × Nat × Nat)) {hs : List Hp} (h : drawAt p = some p') (hp : planOk (opsAt p) pl = true) (hds : (opsAt p).toList.all (dstOk X.fn.ntmps) = true) (hD : OpsD X.P X.C (opsAt p).toList (opsAt p).toList env H eE hs) (hsome : (rdL X.C (opsAt p).toList eE (H :: hs) 0 (opsAt p).toList pl).all (fun q => q.1.isSome) = true) (hq : (rdL X.C (opsAt p).toList eE (H :: hs) 0 (opsAt p).toList pl).map (·.1) = (rdL X.C (opsAt p).toList eE (H :: hs) 0 (opsAt p).toList pl).map (·.2)) (hl : lastH H hs = H') (k : Ok X p' eE H' t) : Ok X p env H t := by
 subst hl
 unfold drawAt at h
 split at h
 ·rename_i id ops K
  cases h
  intro r hr m0 w0 b0 m w a h0 fr hn hd rw st
  have := drawS_ok (id := id) X.hti X.ord hds hp hD (alike_of hsome hq) fr hn hd rw
  show (Code.region id ops true).wp X.P _ a w
  refine wp_mono this ?_
  rintro e a' w' ⟨rfl, m', q1, q2, q3, q4, q5⟩
  exact resume_ok (k r hr m0 w0 b0 m' w' a' h0 q3 q4 q5 q1 (st.trans h0.2 q2))
 ·cases h
noncomputable def runD (C : Cx) (all : List Oper) (k : Nat) : List Oper → Env → Hp → Option (List Oper × Env × Hp × List Hp) :=
 Nat.rec (motive := fun _ => List Oper → Env → Hp → Option (List Oper × Env × Hp × List Hp)) (fun l env H => some (l, env, H, []))
  (fun _ ih l env H => match l with
   | [] => none
   | o :: l => match wantedV o all env with
    | none => none
    | some false => (match ih l (putV env o.dst (.tuple [])) H with
     | some (l', e, H', hs) => some (l', e, H', bif Nat.beq (cls o) 2 then H :: hs else hs)
     | none => none)
    | some true => (match opV C env H o with
     | some (v, H1) => (match ih l (putV env o.dst v) H1 with
      | some (l', e, H', hs) => some (l', e, H', bif Nat.beq (cls o) 2 then H1 :: hs else hs)
      | none => none)
     | none => none)) k
theorem opsD_run {P : Program} {C : Cx} {all : List Oper} {e : Env} {hs2 : List Hp} : ∀ (k : Nat) {l l' : List Oper} {env eE : Env} {H H' : Hp} {hs : List Hp}, runD C all k l env H = some (l', eE, H', hs) → OpsD P C all l' eE H' e hs2 → OpsD P C all l env H e (hs ++ hs2)
 | 0, l, l', env, eE, H, H', hs, h, g => by
  have h' : some (l, env, H, ([] : List Hp)) = some (l', eE, H', hs) := h
  cases h'
  exact g
 | k + 1, [], l', env, eE, H, H', hs, h, g => by cases h
 | k + 1, o :: l, l', env, eE, H, H', hs, h, g => by
  have h' : (match wantedV o all env with
   | none => none
   | some false => (match runD C all k l (putV env o.dst (.tuple [])) H with
    | some (l', e, H', hs) => some (l', e, H', bif Nat.beq (cls o) 2 then H :: hs else hs)
    | none => none)
   | some true => (match opV C env H o with
    | some (v, H1) => (match runD C all k l (putV env o.dst v) H1 with
     | some (l', e, H', hs) => some (l', e, H', bif Nat.beq (cls o) 2 then H1 :: hs else hs)
     | none => none)
    | none => none)) = some (l', eE, H', hs) := h
  split at h'
  ·cases h'
  ·rename_i hw
   split at h'
   ·rename_i hr
    cases h'
    have := OpsD.skip (P := P) hw (opsD_run k hr g)
    cases hc : Nat.beq (cls o) 2 <;> rw [hc] at this <;> exact this
   ·cases h'
  ·rename_i hw
   split at h'
   ·rename_i v H1 hv
    split at h'
    ·rename_i hr
     cases h'
     have := OpsD.val (P := P) hw (.inl hv) (opsD_run k hr g)
     cases hc : Nat.beq (cls o) 2 <;> rw [hc] at this <;> exact this
    ·cases h'
   ·cases h'
noncomputable def headO (all l : List Oper) (env : Env) : Option Oper := match l with | o :: _ => (match wantedV o all env with | some true => some o | _ => none) | [] => none
noncomputable def evalD (C : Cx) (all l : List Oper) (env : Env) (H : Hp) : Option (AV × Hp) := match headO all l env with | some o => opV C env H o | none => none
noncomputable def advD (all l : List Oper) (env : Env) (v : AV) (H : Hp) : Option (List Oper × Env × List Hp) := match headO all l env with | some o => some (l.tail, putV env o.dst v, bif Nat.beq (cls o) 2 then [H] else []) | none => none
noncomputable def callD (all l : List Oper) (env : Env) : Option (Nat × List AV) :=
 match headO all l env with
 | some o => match o.op with
  | .call c => match c.callee with
   | .value g => match opnd env g with
    | .func f first caps => some (f, first ++ opnds env c.args.toList ++ caps)
    | _ => none
   | _ => none
  | _ => none
 | none => none
theorem headO_spec {all l : List Oper} {o : Oper} (h : headO all l env = some o) : ∃ r, l = o :: r ∧ wantedV o all env = some true := by
 unfold headO at h
 split at h
 ·rename_i o' r
  split at h
  ·rename_i hw; cases h; exact ⟨r, rfl, hw⟩
  ·cases h
 ·cases h
theorem opsD_one {P : Program} {C : Cx} {all l l' : List Oper} {e : Env} {hs hs2 : List Hp} {o : Oper} {v : AV} (ho : headO all l env = some o) (hs0 : Stp P C env H o v H') (ha : advD all l env v H' = some (l', eE, hs)) (g : OpsD P C all l' eE H' e hs2) : OpsD P C all l env H e (hs ++ hs2) := by
 unfold advD at ha
 rw [ho] at ha
 cases ha
 obtain ⟨r, rfl, hw⟩ := headO_spec ho
 have := OpsD.val hw hs0 g
 cases hc : Nat.beq (cls o) 2 <;> rw [hc] at this <;> exact this
theorem opsD_chk {P : Program} {C : Cx} {all l l' : List Oper} {e : Env} {hs hs2 : List Hp} {α : Type} {m : Option α} {x : α} (g : α → AV × Hp) (h : evalD C all l env H = m.map g) (hx : m = some x) (ha : advD all l env (g x).1 (g x).2 = some (l', eE, hs)) (k : OpsD P C all l' eE (g x).2 e hs2) : OpsD P C all l env H e (hs ++ hs2) := by
 subst hx
 unfold evalD at h
 cases ho : headO all l env with
 | none => rw [ho] at h; cases h
 | some o =>
  rw [ho] at h
  exact opsD_one (v := (g x).1) ho (.inl h) ha k
theorem opsD_call {P : Program} {C : Cx} {all l l' : List Oper} {e : Env} {hs hs2 : List Hp} {fi : Nat} {args : List AV} {v : AV} (hc : callD all l env = some (fi, args)) (hp : purs args = true) (hv : pur v = true) (hf : PureOk P fi args v) (ha : advD all l env v H = some (l', eE, hs)) (k : OpsD P C all l' eE H e hs2) : OpsD P C all l env H e (hs ++ hs2) := by
 have hpo := pure_call hf hp hv H
 unfold callD at hc
 cases ho : headO all l env with
 | none => rw [ho] at hc; cases hc
 | some o =>
  rw [ho] at hc
  simp only at hc
  split at hc
  ·rename_i c hoc
   split at hc
   ·rename_i q hq
    split at hc
    ·rename_i fi' first caps hfv
     cases hc
     exact opsD_one (v := v) ho (.inr ⟨c, q, fi, first, caps, hoc, hq, hfv, hpo⟩) ha k
    ·cases hc
   ·cases hc
  ·cases hc
noncomputable def mkT (n : Nat) (l : List Blk) : Tr :=
 List.rec (motive := fun _ => Nat → Tr) (fun _ => .nil) (fun b _ ih n => PT.set depth (ih (n + 1)) n b) l n
theorem mkT_nil (n : Nat) : mkT n [] = .nil := rfl
theorem mkT_cons (n : Nat) (b : Blk) (l : List Blk) : mkT n (b :: l) = PT.set depth (mkT (n + 1) l) n b := rfl
noncomputable def mkH (l : List Blk) : Hp := ⟨l.length, mkT 0 l⟩
theorem mkT_get : ∀ (l : List Blk) (n i : Nat), n + l.length ≤ roots → (mkT n l).get i = if n ≤ i then l[i - n]? else none
 | [], n, i, _ => by
  rw [mkT_nil]
  simp only [List.getElem?_nil, ite_self]
  exact PT.get_nil i
 | b :: l, n, i, h => by
  simp only [List.length_cons] at h
  by_cases e : n = i
  ·subst e
   rw [mkT_cons, Tr.get_set_eq _ _ _ _ (by unfold roots at h; unfold depth; omega)]
   simp
  ·rw [mkT_cons, Tr.get_set_ne _ _ _ _ _ e, mkT_get l (n + 1) i (by omega)]
   by_cases h1 : n ≤ i
   ·rw [if_pos (by omega), if_pos h1, show i - n = (i - (n + 1)) + 1 by omega, List.getElem?_cons_succ]
   ·rw [if_neg (by omega), if_neg h1]
mutual
def below (n : Nat) : AV → Bool
 | .ptr r _ _ => Nat.blt r n
 | .slice r _ _ _ _ => Nat.blt r n
 | .own r _ _ => Nat.blt r n
 | .agg xs => belows n xs
 | .tuple xs => belows n xs
 | .func _ a b => belows n a && belows n b
 | .iface _ v => below n v
 | _ => true
def belows (n : Nat) : List AV → Bool
 | [] => true
 | x :: xs => below n x && belows n xs
end
def Mp.cut (m : Mp) (n : Nat) : Mp := ⟨fun r v => if r < n then m r v else none, m.froz⟩
mutual
theorem below_VR {m : Mp} {n : Nat} : ∀ (x : AV) (c : Value), below n x = true → VR m x c → VR (m.cut n) x c
 | .top, _, _, _ => by simp only [VR]
 | .int .., _, _, e => by simpa only [VR] using e
 | .resid .., _, _, e => by simpa only [VR] using e
 | .bool _, _, _, e => by simpa only [VR] using e
 | .str _, _, _, e => by simpa only [VR] using e
 | .nilp, _, _, e => by simpa only [VR] using e
 | .nils, _, _, e => by simpa only [VR] using e
 | .nilf, _, _, e => by simpa only [VR] using e
 | .nili, _, _, e => by simpa only [VR] using e
 | .vec .., _, _, e => by simp only [VR] at e ⊢; exact e
 | .vptr .., _, _, e => by simp only [VR] at e ⊢; exact e
 | .ptr r v off, _, h, e => by
  simp only [VR, below, Nat.blt_eq] at e h ⊢
  obtain ⟨B, N, h1, h2⟩ := e
  exact ⟨B, N, by show (if r < n then m r v else none) = _; rw [if_pos h]; exact h1, h2⟩
 | .slice r v off len sz, _, h, e => by
  simp only [VR, below, Nat.blt_eq] at e h ⊢
  obtain ⟨B, N, cap, h1, h2⟩ := e
  exact ⟨B, N, cap, by show (if r < n then m r v else none) = _; rw [if_pos h]; exact h1, h2⟩
 | .own r len sz, _, h, e => by
  simp only [VR, below, Nat.blt_eq] at e h ⊢
  rcases e with e | ⟨B, N, cap, h1, h2⟩
  ·exact .inl e
  ·exact .inr ⟨B, N, cap, by show (if r < n then m r (len * sz) else none) = _; rw [if_pos h]; exact h1, h2⟩
 | .agg xs, c, h, e => by
  simp only [VR] at e ⊢
  obtain ⟨ys, h1, h2⟩ := e
  exact ⟨ys, h1, belows_VR xs _ (by simpa only [below] using h) h2⟩
 | .tuple xs, c, h, e => by
  simp only [VR] at e ⊢
  obtain ⟨ys, h1, h2⟩ := e
  exact ⟨ys, h1, belows_VR xs _ (by simpa only [below] using h) h2⟩
 | .func f a b, c, h, e => by
  simp only [VR] at e ⊢
  simp only [below, Bool.and_eq_true] at h
  obtain ⟨ys, zs, h1, h2, h3⟩ := e
  exact ⟨ys, zs, h1, belows_VR a _ h.1 h2, belows_VR b _ h.2 h3⟩
 | .iface t v, c, h, e => by
  simp only [VR] at e ⊢
  obtain ⟨d, h1, h2⟩ := e
  exact ⟨d, h1, below_VR v _ (by simpa only [below] using h) h2⟩
theorem belows_VR {m : Mp} {n : Nat} : ∀ (xs : List AV) (cs : List Value), belows n xs = true → VRs m xs cs → VRs (m.cut n) xs cs
 | [], _, _, e => by simpa only [VRs] using e
 | x :: xs, cs, h, e => by
  simp only [VRs] at e ⊢
  simp only [belows, Bool.and_eq_true] at h
  obtain ⟨y, ys, rfl, h1, h2⟩ := e
  exact ⟨y, ys, rfl, below_VR x y h.1 h1, belows_VR xs ys h.2 h2⟩
end
mutual
theorem pur_below {n : Nat} : ∀ x : AV, pur x = true → below n x = true
 | .top, _ | .int .., _ | .resid .., _ | .bool _, _ | .str _, _ | .nilp, _ | .nils, _ | .nilf, _ | .nili, _ | .vec .., _ | .vptr .., _ => by simp [below]
 | .ptr .., h | .slice .., h | .own .., h => by simp [pur] at h
 | .agg xs, h => by simp only [pur, below] at h ⊢; exact purs_belows xs h
 | .tuple xs, h => by simp only [pur, below] at h ⊢; exact purs_belows xs h
 | .func _ a b, h => by simp only [pur, below, Bool.and_eq_true] at h ⊢; exact ⟨purs_belows a h.1, purs_belows b h.2⟩
 | .iface _ v, h => by simp only [pur, below] at h ⊢; exact pur_below v h
theorem purs_belows {n : Nat} : ∀ xs : List AV, purs xs = true → belows n xs = true
 | [], _ => rfl
 | x :: xs, h => by simp only [purs, belows, Bool.and_eq_true] at h ⊢; exact ⟨pur_below x h.1, purs_belows xs h.2⟩
end
def belowE (n : Nat) : Env → Bool
 | [] => true
 | p :: l => below n p.2 && belowE n l
theorem belowE_look {n : Nat} : ∀ {e : Env} (t : Nat), belowE n e = true → below n (look e t) = true
 | [], t, _ => rfl
 | p :: l, t, h => by
  simp only [belowE, Bool.and_eq_true] at h
  rw [look_cons]
  split
  ·exact h.1
  ·exact belowE_look t h.2
def BB (n : Nat) : List Blk → Prop
 | [] => True
 | b :: l => belows n b.cells = true ∧ BB n l
theorem BB_get {n : Nat} : ∀ {l : List Blk} {i : Nat} {b : Blk}, BB n l → l[i]? = some b → belows n b.cells = true
 | [], i, b, _, h => by simp at h
 | b0 :: l, i, b, hb, h => by
  cases i with
  | zero => simp at h; subst h; exact hb.1
  | succ i => exact BB_get hb.2 (by simpa using h)
theorem belows_take {n : Nat} : ∀ {xs : List AV} (k : Nat), belows n xs = true → belows n (xs.take k) = true
 | [], k, _ => by simp [belows]
 | x :: xs, 0, _ => by simp [belows]
 | x :: xs, k + 1, h => by
  simp only [belows, List.take_succ_cons, Bool.and_eq_true] at h ⊢
  exact ⟨h.1, belows_take k h.2⟩
theorem ok_cut {t : Option R} (l l2 : List Blk) (hn0 : Nat.ble X.n0 l.length = true) (hn : Nat.ble (l.length + l2.length) roots = true) (he : belowE l.length env = true) (hb : BB l.length l) (k : Ok X p env (mkH l) t) : Ok X p env (mkH (l ++ l2)) t := by
 intro r hr m0 w0 b0 m w a h0 fr hnt hd rw st
 have hn : l.length + l2.length ≤ roots := Nat.le_of_ble_eq_true hn
 have hget : ∀ i, i < l.length → (mkH (l ++ l2)).t.get i = (mkH l).t.get i := by
  intro i hi
  show (mkT 0 (l ++ l2)).get i = (mkT 0 l).get i
  rw [mkT_get _ _ _ (by simp; omega), mkT_get _ _ _ (by omega)]
  simp [List.getElem?_append_left hi]
 have hcut : ∀ {r v q}, (m.cut l.length) r v = some q → r < l.length ∧ m r v = some q := by
  intro r v q h
  have h : (if r < l.length then m r v else none) = some q := h
  by_cases e : r < l.length
  ·rw [if_pos e] at h; exact ⟨e, h⟩
  ·rw [if_neg e] at h; cases h
 have hnone : ∀ i, l.length ≤ i → (mkH l).t.get i = none := by
  intro i hi
  show (mkT 0 l).get i = none
  rw [mkT_get _ _ _ (by omega)]
  simp [hi]
 refine k r hr m0 w0 b0 (m.cut l.length) w a h0 ?_ hnt hd ⟨?_, ?_, ?_, hnone, ?_, rw.frz, ?_, rw.ffin, rw.base_le, ?_⟩ ⟨⟨fun r v q hq => (by
  have h1 := h0.1 r v q hq
  have h2 := Nat.le_of_ble_eq_true hn0
  show (if r < l.length then m r v else none) = some q
  rw [if_pos (by omega)]
  exact st.sub.1 r v q hq), st.sub.2⟩, ?_, st.fext, st.size, st.os, st.tape, st.output, st.same⟩
 ·intro t ht
  obtain ⟨c, h1, h2⟩ := fr t ht
  exact ⟨c, h1, below_VR _ _ (belowE_look t he) h2⟩
 ·intro r b v B N hb' hm h1 h2
  obtain ⟨hlt, hm⟩ := hcut hm
  obtain ⟨cs, ty, fr', q1, q2, q3, q4, q5⟩ := rw.blk r b v B N (by rw [hget r hlt]; exact hb') hm h1 h2
  have hbl : l[r]? = some b := by
   have hb' : (mkT 0 l).get r = some b := hb'
   rw [mkT_get _ _ _ (by omega)] at hb'
   simpa using hb'
  exact ⟨cs, ty, fr', q1, q2, q3, q4, belows_VR _ _ (belows_take v (BB_get hb hbl)) q5⟩
 ·intro r v B N hm
  obtain ⟨hlt, hm⟩ := hcut hm
  rw [← hget r hlt]
  exact rw.dom r v B N hm
 ·intro r v B N r' v' N' hm hm' hB
  exact rw.sep _ _ _ _ _ _ _ (hcut hm).2 (hcut hm').2 hB
 ·intro r v B N hm
  exact rw.vle _ _ _ _ (hcut hm).2
 ·intro i B cells r v N b hi hm hb'
  obtain ⟨hlt, hm⟩ := hcut hm
  exact rw.fsep i B cells r v N b hi hm (by rw [hget r hlt]; exact hb')
 ·show l.length ≤ roots
  omega
 ·intro r v B N hm
  exact st.ext r v B N (hcut hm).2
theorem ok_own {t : Option R} (l : List Blk) (d sz : Nat) (hn : Nat.blt l.length roots = true) (h : look env d = .nils) (k : Ok X p ((d, .own l.length 0 sz) :: env) (mkH (l ++ [⟨[], 0, false⟩])) t) : Ok X p env (mkH l) t := by
 intro r hr m0 w0 b0 m w a h0 fr hnt hd rw st
 have hn : l.length < roots := by simpa using hn
 have hg : RW m ⟨l.length + 1, Tr.set depth (mkH l).t l.length ⟨[], 0, false⟩⟩ w b0 := rw.ghost hn
 have hH : RW m (mkH (l ++ [⟨[], 0, false⟩])) w b0 := by
  have e : ∀ i, (mkH (l ++ [⟨[], 0, false⟩])).t.get i = (Tr.set depth (mkH l).t l.length ⟨[], 0, false⟩).get i := by
   intro i
   show (mkT 0 (l ++ [⟨[], 0, false⟩])).get i = (Tr.set depth (mkT 0 l) l.length ⟨[], 0, false⟩).get i
   rw [mkT_get _ _ _ (by simp; omega)]
   by_cases ei : l.length = i
   ·subst ei
    rw [Tr.get_set_eq _ _ _ _ (by unfold roots at hn; unfold depth; omega)]
    simp
   ·rw [Tr.get_set_ne _ _ _ _ _ ei, mkT_get _ _ _ (by omega)]
    by_cases h1 : i < l.length
    ·simp [List.getElem?_append_left h1]
    ·rw [List.getElem?_eq_none (by simp; omega), List.getElem?_eq_none (by omega)]
  have en : (mkH (l ++ [⟨[], 0, false⟩])).next = l.length + 1 := by simp [mkH]
  refine ⟨fun r b v B N hb => hg.blk r b v B N (by rw [← e]; exact hb), fun r v B N hm => by rw [e]; exact hg.dom r v B N hm, hg.sep, fun r hr => by rw [e]; exact hg.fresh r (by rw [en] at hr; exact hr), hg.vle, hg.frz, fun i B cells r v N b hi hm hb => hg.fsep i B cells r v N b hi hm (by rw [← e]; exact hb), hg.ffin, hg.base_le, by rw [en]; exact hn⟩
 refine k r hr m0 w0 b0 m w a h0 ?_ hnt hd hH st
 intro t ht
 by_cases e : d = t
 ·subst e
  obtain ⟨c, h1, h2⟩ := fr d (by rw [h]; intro e; cases e)
  rw [h] at h2
  simp only [VR] at h2
  refine ⟨c, h1, ?_⟩
  rw [look_cons, if_pos rfl]
  unfold VR
  exact .inl ⟨rfl, h2⟩
 ·have he : look ((d, AV.own l.length 0 sz) :: env) t = look env t := by rw [look_cons, if_neg e]
  rw [he] at ht ⊢
  exact fr t ht
theorem resV_ok {P : Program} {C : Cx} (hti : ∀ t i, C.ti t = some i → mkTi P t = some i) {m : Mp} {H : Hp} {w : World} {base : Nat} {env : Env} {a : Act} (fr : FR m env a.tmps) (rw : RW m H w base) (g : ResultVar → Sem Value) (hg1 : ∀ t, g (.tmp t) = pure (a.tmps.getD t undef)) (hg2 : ∀ p t, g (.cell p t) = do loadVar t (← asAddr (a.tmps.getD p undef))) : ∀ (l : List ResultVar) (xs : List AV), resV C env H l = some xs →
 ∃ vs : List Value, (l.mapM g).run P w = .ok vs w ∧ VRs m xs vs
 | [], xs, h => by simp only [resV] at h; cases h; exact ⟨[], by simp, by simp [VRs]⟩
 | .tmp t :: l, xs, h => by
  simp only [resV] at h
  cases hl : resV C env H l with
  | none => rw [hl] at h; cases h
  | some ys =>
   rw [hl] at h
   cases h
   obtain ⟨vs, h1, h2⟩ := resV_ok hti fr rw g hg1 hg2 l ys hl
   refine ⟨a.tmps.getD t undef :: vs, ?_, by simp only [VRs]; exact ⟨_, _, rfl, fr.getD t, h2⟩⟩
   simp only [List.mapM_cons, hg1, Sem.run_bind, Sem.run_pure, Result.andThen_ok, h1]
 | .cell p t :: l, xs, h => by
  simp only [resV] at h
  split at h
  ·rename_i i r v off ys ht hp hl
   split at h
   ·rename_i cs hcs
    split at h
    ·rename_i x hx
     cases h
     obtain ⟨vs, h1, h2⟩ := resV_ok hti fr rw g hg1 hg2 l ys hl
     have hv := fr.getD p
     rw [hp] at hv
     have hld : ∃ c, (loadVar t (match a.tmps.getD p undef with | .pointer (some b) => b | _ => default)).run P w = .ok c w ∧ VR m x c ∧ ∃ b, a.tmps.getD p undef = .pointer (some b) := by
      have hv' := hv
      simp only [VR] at hv'
      obtain ⟨B, N, hm, e⟩ := hv'
      obtain ⟨c, hc1, hc2⟩ := op_load_run (P := P) hti ht hv hcs hx rw
      rw [e] at hc1
      rw [e]
      exact ⟨c, hc1, hc2, _, rfl⟩
     obtain ⟨c, hc1, hc2, b, hb⟩ := hld
     rw [hb] at hc1
     refine ⟨c :: vs, ?_, by simp only [VRs]; exact ⟨_, _, rfl, hc2, h2⟩⟩
     simp only [List.mapM_cons, hg2, Sem.run_bind, hb, asAddr, Sem.run_pure, Result.andThen_ok, hc1, h1]
    ·cases h
   ·cases h
  ·cases h
theorem results_ok {P : Program} {C : Cx} (hti : ∀ t i, C.ti t = some i → mkTi P t = some i) {m : Mp} {H : Hp} {w : World} {base : Nat} {env : Env} {a : Act} {fn : Func} {xs : List AV} (fr : FR m env a.tmps) (rw : RW m H w base) (h : resV C env H fn.results.toList = some xs) :
 ∃ v, (results fn a.tmps).run P w = .ok v w ∧ VR m (oneRes xs) v := by
 have key : ∀ g : ResultVar → Sem Value, (∀ t, g (.tmp t) = pure (a.tmps.getD t undef)) → (∀ p t, g (.cell p t) = do loadVar t (← asAddr (a.tmps.getD p undef))) → ∃ vs : List Value, (fn.results.mapM g).run P w = .ok vs.toArray w ∧ VRs m xs vs := by
  intro g hg1 hg2
  obtain ⟨vs, h1, h2⟩ := resV_ok (P := P) hti fr rw g hg1 hg2 _ _ h
  exact ⟨vs, by rw [Array.mapM_eq_mapM_toList, Sem.run_map, h1]; rfl, h2⟩
 unfold results
 obtain ⟨vs, hm, h2⟩ := key (fun | .tmp t => pure (a.tmps.getD t undef) | .cell p t => do loadVar t (← asAddr (a.tmps.getD p undef))) (fun _ => rfl) (fun _ _ => rfl)
 have hlen := VRs.len h2
 refine ⟨if h : vs.toArray.size = 1 then vs.toArray[0] else .tuple vs.toArray, ?_, ?_⟩
 ·rw [Sem.run_bind]
  erw [hm]
  rfl
 ·unfold oneRes
  split
  ·simp only [VRs] at h2
   obtain ⟨y, ys, rfl, h3, rfl⟩ := h2
   simpa using h3
  ·rename_i hne
   have : ¬ vs.toArray.size = 1 := by
    intro e
    have e1 : xs.length = 1 := by simpa [hlen] using e
    obtain ⟨x, hx⟩ := List.length_eq_one_iff.1 e1
    exact hne x hx
   rw [dif_neg this]
   simp only [VR]
   exact ⟨_, rfl, by simpa using h2⟩
theorem oT {r : R} {xs : List AV} {v : AV} (hn0 : X.n0 = 0) (hfin : X.fin r = H0) (hr : resV X.C env H X.fn.results.toList = some xs) (hz : FzG H [oneRes xs] [v]) (hv : X.enc r = v) : Ok X .fin env H (some r) := by
 intro r' e m0 w0 b0 m w a h0 fr hnt hd rw st
 cases e
 have hnone : ∀ r v, m0 r v = none := by
  intro r v
  cases e : m0 r v with
  | none => rfl
  | some p => have := h0.1 r v p e; omega
 obtain ⟨c, h1, h2⟩ := results_ok (P := X.P) X.hti fr rw hr
 have hF : FOk m.froz m.froz w b0 := by
  refine ⟨fun i B cells hi => rw.frz i B cells hi, rw.ffin, fun i B cells h => .inl h, fun _ _ h => h⟩
 obtain ⟨F', g1, g2, g3⟩ := fz_ok rw hz hF (cs := [c]) (by simp only [VRs]; exact ⟨c, [], rfl, h2, rfl⟩)
 simp only [VRs] at g3
 obtain ⟨c', cs', e, g3, _⟩ := g3
 cases e
 have fin : ∃ m' c', Ending.returned c = .returned c' ∧ RW m' (X.fin r) w b0 ∧ St m0 w0 b0 m' w ∧ VR m' (X.enc r) c' := by
  rw [hfin]
  refine ⟨⟨fun _ _ => none, F'⟩, c, rfl, ⟨?_, ?_, ?_, fun _ _ => rfl, ?_, g1.ok, ?_, g1.fin, rw.base_le, by show 0 ≤ roots; unfold roots; omega⟩, ⟨⟨fun r v q hq => (by rw [hnone] at hq; cases hq), fun i p hp => g2 i p (st.sub.2 i p hp)⟩, ?_, ?_, st.size, st.os, st.tape, st.output, st.same⟩, by rw [hv]; exact g3⟩
  ·intro r b v B N hb hm; cases hm
  ·intro r v B N hm; cases hm
  ·intro r v B N r' v' N' hm; cases hm
  ·intro r v B N hm; cases hm
  ·intro i B cells r v N b _ hm; cases hm
  ·intro r v B N hm; cases hm
  ·intro i B cells hi
   rcases g1.new i B cells hi with h | h
   ·exact st.fext i B cells h
   ·exact .inr h
 exact ⟨⟨hd, c, h1, fin⟩, ⟨hd, c, h1, fin⟩⟩
theorem look_args0 : ∀ (xs : List AV) (i t : Nat), look (args0 i xs) t = if i ≤ t then (xs[t - i]?).getD .top else .top
 | [], i, t => by simp [args0, look_nil]
 | x :: xs, i, t => by
  rw [args0, look_put, look_args0 xs (i + 1) t]
  by_cases e : i = t
  ·subst e; simp
  ·rw [if_neg e]
   by_cases h : i ≤ t
   ·rw [if_pos (by omega), if_pos h, show t - i = (t - (i + 1)) + 1 by omega]; simp
   ·rw [if_neg (by omega), if_neg h]
theorem FR_args {m : Mp} {xs : List AV} {args rest : Array Value} (h : VRs m xs args.toList) : FR m (args0 0 xs) (args ++ rest) := by
 intro t ht
 rw [look_args0] at ht ⊢
 simp only [Nat.zero_le, if_true, Nat.sub_zero] at ht ⊢
 cases hx : xs[t]? with
 | none => rw [hx] at ht; exact absurd rfl ht
 | some x =>
  obtain ⟨c, hc, hv⟩ := VRs.get h t x hx
  rw [Array.getElem?_toList] at hc
  obtain ⟨hlt, _⟩ := Array.getElem?_eq_some_iff.1 hc
  exact ⟨c, by rw [Array.getElem?_append_left hlt]; exact hc, by simpa using hv⟩
def bodyAt (fn : Func) : Pt := match fn.body with | some c => .code c [] | none => .fin
theorem pure_of (X : Fx R) {f : Nat} (hfin : ∀ r, X.fin r = H0) (hf : X.P.funcs[f]? = some X.fn) (hn : (X.fn.name == "runtime.NumGoroutine") = false) (hb : X.fn.body.isSome = true) {xs : List AV} {t : Option R} (h : Ok X (bodyAt X.fn) (args0 0 xs) (mkH []) t) {r : R} (ht : t = some r) : PureOk X.P f xs (X.enc r) := by
 refine ⟨?_, X.fn, hf, hn, hb⟩
 intro m0 w args h0 hargs rw
 cases hc : X.fn.body with
 | none => rw [hc] at hb; cases hb
 | some c =>
  have e : bodyAt X.fn = .code c [] := by simp [bodyAt, hc]
  rw [e] at h
  have := h r ht m0 w w.heap.size m0 w { tmps := args ++ Array.replicate (X.fn.ntmps - args.size) undef, defers := [] } ⟨fun r v p e => (by rw [h0] at e; cases e), Nat.le_refl _⟩ (FR_args hargs) (by simp; omega) rfl rw (St.refl _ _ _)
  have e2 : Ret X r m0 w w.heap.size = bodyPost X.P X.fn fun x w' => ∃ m' c, x = .returned c ∧ RW m' H0 w' w.heap.size ∧ St m0 w w.heap.size m' w' ∧ VR m' (X.enc r) c := by unfold Ret; rw [hfin]
  rw [e2] at this
  exact calls_of_wp hf hc this
theorem callM_of (X : Fx R) {f : Nat} (hf : X.P.funcs[f]? = some X.fn) (hn : (X.fn.name == "runtime.NumGoroutine") = false) (hb : X.fn.body.isSome = true) {L : List Blk} (hn0 : X.n0 = L.length) {xs : List AV} {t : Option R} (h : Ok X (bodyAt X.fn) (args0 0 xs) (mkH L) t) {r : R} (ht : t = some r) : CallV X.P f xs (mkH L) (X.enc r) (X.fin r) := by
 refine ⟨?_, X.fn, hf, hn, hb⟩
 intro m w base args hargs rw
 cases hc : X.fn.body with
 | none => rw [hc] at hb; cases hb
 | some c =>
  have e : bodyAt X.fn = .code c [] := by simp [bodyAt, hc]
  rw [e] at h
  have := h r ht m w base m w { tmps := args ++ Array.replicate (X.fn.ntmps - args.size) undef, defers := [] } ⟨fun r v p e => (by
   obtain ⟨b, hb, _⟩ := rw.dom r v p.1 p.2 e
   rw [hn0]
   exact rw.lt hb), rw.base_le⟩ (FR_args hargs) (by simp; omega) rfl rw (St.refl _ _ _)
  exact calls_of_wp hf hc this
theorem ok_retM {r : R} {xs : List AV} (hr : resV X.C env H X.fn.results.toList = some xs) (hp : pur (oneRes xs) = true) (hv : X.enc r = oneRes xs) (hf : X.fin r = H) : Ok X .fin env H (some r) := by
 intro r' e m0 w0 b0 m w a h0 fr hnt hd rw st
 cases e
 obtain ⟨c, h1, h2⟩ := results_ok (P := X.P) X.hti fr rw hr
 exact ⟨⟨hd, c, h1, m, c, rfl, by rw [hf]; exact rw, st, by rw [hv]; exact h2⟩, ⟨hd, c, h1, m, c, rfl, by rw [hf]; exact rw, st, by rw [hv]; exact h2⟩⟩
end
end Go.Proofs.Ytbmijiibfaacmaa.Am
set_option linter.unusedVariables false
set_option linter.unusedSimpArgs false
namespace Go.Proofs.Ytbmijiibfaacmaa.Am
open Go
def nthS (s : List Nat) (k : Int) : Option Int := if 0 ≤ k then (match s[k.toNat]? with | some b => some (b : Int) | none => none) else none
theorem idxH {e : Option (AV × Hp)} {s : List Nat} {k : Int} {H : Hp} (h : e = (if 0 ≤ k then (match s[k.toNat]? with | some b => some (AV.int .u8 (b : Int), H) | none => none) else none)) : e = (nthS s k).map fun c => (AV.int .u8 c, H) := by
 rw [h]; unfold nthS
 split
 ·cases s[k.toNat]? <;> rfl
 ·rfl
def bnd (x : Option Int) (y d : Nat) : Option Nat := match x with | none => some d | some i => if 0 ≤ i ∧ i ≤ y then some i.toNat else none
def subL {α : Type} (l : List α) (lo hi : Option Int) : Option (List α) :=
 match bnd hi l.length l.length with
 | some h => (match bnd lo h 0 with | some b => some ((l.take h).drop b) | none => none)
 | none => none
theorem boundO_bnd (x : Option Int) (k : IntKind) (y d : Nat) : boundO (x.map (AV.int k)) y d = bnd x y d := by cases x <;> rfl
theorem subH {e : Option (AV × Hp)} {s : List Nat} (lo hi : Option Int) {H : Hp} (h : e = (match boundO (hi.map (AV.int .i64)) s.length s.length with | some h => (match boundO (lo.map (AV.int .i64)) h 0 with | some l => some (AV.str ((s.take h).drop l)) | none => none) | none => none).map fun v => (v, H)) : e = (subL s lo hi).map fun x => (AV.str x, H) := by
 rw [h, boundO_bnd]; unfold subL
 cases bnd hi s.length s.length with
 | none => rfl
 | some h =>
  simp only
  rw [boundO_bnd]
  cases bnd lo h 0 <;> rfl
def catS (a b : List Nat) : Option (List Nat) := if a.length + b.length < 2 ^ 40 then some (a ++ b) else none
theorem catH {e : Option (AV × Hp)} {a b : List Nat} {H : Hp} (h : e = (if a.length + b.length < 2 ^ 40 then some (AV.str (a ++ b)) else none).map fun v => (v, H)) : e = (catS a b).map fun x => (AV.str x, H) := by
 rw [h]; unfold catS; split <;> rfl
def nthL {α : Type} (l : List α) (k : Int) : Option α := if 0 ≤ k then l[k.toNat]? else none
theorem flatMap_len {α : Type} {enc : α → List AV} {sz : Nat} (h : ∀ x, (enc x).length = sz) : ∀ l : List α, (l.flatMap enc).length = l.length * sz
 | [] => by simp
 | x :: l => by rw [List.flatMap_cons, List.length_append, h, flatMap_len h l, List.length_cons, Nat.add_mul]; omega
theorem flatMap_at {α : Type} {enc : α → List AV} {sz : Nat} (h : ∀ x, (enc x).length = sz) : ∀ (l : List α) (k : Nat) (x : α), l[k]? = some x → ((l.flatMap enc).drop (k * sz)).take sz = enc x
 | [], k, x, e => by simp at e
 | y :: l, k, x, e => by
  rw [List.flatMap_cons]
  cases k with
  | zero =>
   simp at e
   subst e
   rw [Nat.zero_mul, List.drop_zero, List.take_append_of_le_length (by rw [h]; exact Nat.le_refl _), List.take_of_length_le (by rw [h]; exact Nat.le_refl _)]
  | succ k =>
   rw [List.drop_append, List.drop_of_length_le (by rw [h, Nat.add_mul]; omega), List.nil_append, h, show (k + 1) * sz - sz = k * sz by rw [Nat.add_mul]; omega]
   exact flatMap_at h l k x (by simpa using e)
theorem vidxH {α : Type} {enc : α → List AV} {sz : Nat} (hsz : ∀ x, (enc x).length = sz) {e : Option (AV × Hp)} {l : List α} {k : Int} {H : Hp} (h : e = (if sz = sz ∧ 0 ≤ k ∧ k < ((l.length : Nat) : Int) then some (AV.vptr (((l.flatMap enc).drop (k.toNat * sz)).take sz), H) else none)) : e = (nthL l k).map fun x => (AV.vptr (enc x), H) := by
 rw [h]; unfold nthL
 by_cases h0 : 0 ≤ k
 ·rw [if_pos h0]
  by_cases h1 : k < (l.length : Int)
  ·rw [if_pos ⟨rfl, h0, h1⟩]
   have hlt : k.toNat < l.length := by omega
   rw [List.getElem?_eq_getElem hlt, flatMap_at hsz l k.toNat _ (List.getElem?_eq_getElem hlt)]
   rfl
  ·rw [if_neg (fun hh => h1 hh.2.2), List.getElem?_eq_none (by omega)]
   rfl
 ·rw [if_neg (fun hh => h0 hh.2.1), if_neg h0]; rfl
def andI (k : IntKind) (x y : Int) : Int := fW k (BitVec.ofInt k.bits x &&& BitVec.ofInt k.bits y).toNat
def appS {α : Type} (bytes : Nat) (l x : List α) : Option (List α) := if (l.length + x.length) * bytes ≤ 2 ^ 40 ∧ l.length + x.length ≤ 2 ^ 40 then some (l ++ x) else none
theorem mkH_get {L : List Blk} {r : Nat} {b : Blk} (hl : Nat.ble L.length roots = true) (h : L[r]? = some b) : (mkH L).t.get r = some b := by
 show (mkT 0 L).get r = some b
 rw [mkT_get _ _ _ (by rw [Nat.zero_add]; exact Nat.le_of_ble_eq_true hl)]
 simpa using h
theorem PT.set_set {α : Type} : ∀ (k : Nat) (t : PT α) (n : Nat) (x y : α), PT.set k (PT.set k t n x) n y = PT.set k t n y
 | 0, _, _, _, _ => rfl
 | k + 1, t, n, x, y => by
  have ih := fun t n => PT.set_set k t n x y
  rw [PT.set_succ, PT.set_succ, PT.set_succ]
  by_cases h0 : n = 0
  ·simp only [h0, if_true]; rfl
  ·simp only [h0, if_false]
   by_cases h1 : n % 2 = 1
   ·simp only [h1, if_true]
    show PT.node (PT.set k (PT.set k t.left (n / 2) x) (n / 2) y) t.mid t.right = _
    rw [ih]
   ·simp only [h1, if_false]
    show PT.node t.left t.mid (PT.set k (PT.set k t.right (n / 2 - 1) x) (n / 2 - 1) y) = _
    rw [ih]
theorem PT.set_comm {α : Type} : ∀ (k : Nat) (t : PT α) (n m : Nat) (x y : α), n ≠ m → PT.set k (PT.set k t n x) m y = PT.set k (PT.set k t m y) n x
 | 0, _, _, _, _, _, _ => rfl
 | k + 1, t, n, m, x, y, h => by
  have ih := fun t n m h => PT.set_comm k t n m x y h
  rw [PT.set_succ, PT.set_succ, PT.set_succ, PT.set_succ]
  by_cases n0 : n = 0
  ·have m0 : m ≠ 0 := by omega
   simp only [n0, m0, if_true, if_false]
   by_cases m1 : m % 2 = 1 <;> simp only [m1, if_true, if_false] <;> rfl
  ·by_cases m0 : m = 0
   ·simp only [n0, m0, if_true, if_false]
    by_cases n1 : n % 2 = 1 <;> simp only [n1, if_true, if_false] <;> rfl
   ·simp only [n0, m0, if_false]
    by_cases n1 : n % 2 = 1
    ·by_cases m1 : m % 2 = 1
     ·simp only [n1, m1, if_true]
      show PT.node (PT.set k (PT.set k t.left (n / 2) x) (m / 2) y) t.mid t.right = PT.node (PT.set k (PT.set k t.left (m / 2) y) (n / 2) x) t.mid t.right
      rw [ih _ _ _ (by omega)]
     ·simp only [n1, m1, if_true, if_false]; rfl
    ·by_cases m1 : m % 2 = 1
     ·simp only [n1, m1, if_true, if_false]; rfl
     ·simp only [n1, m1, if_false]
      show PT.node t.left t.mid (PT.set k (PT.set k t.right (n / 2 - 1) x) (m / 2 - 1) y) = PT.node t.left t.mid (PT.set k (PT.set k t.right (m / 2 - 1) y) (n / 2 - 1) x)
      rw [ih _ _ _ (by omega)]
theorem mkT_set : ∀ (L : List Blk) (n r : Nat) (b : Blk), r < L.length → PT.set depth (mkT n L) (n + r) b = mkT n (L.set r b)
 | [], n, r, b, h => by simp at h
 | c :: L, n, 0, b, h => by
  rw [List.set_cons_zero, mkT_cons, mkT_cons]
  exact PT.set_set _ _ _ _ _
 | c :: L, n, r + 1, b, h => by
  rw [List.set_cons_succ, mkT_cons, mkT_cons, PT.set_comm _ _ _ _ _ _ (by omega), show n + (r + 1) = (n + 1) + r by omega, mkT_set L (n + 1) r b (by simpa using h)]
theorem mkH_set {L : List Blk} {r : Nat} {b : Blk} (h : r < L.length) : (⟨(mkH L).next, Tr.set depth (mkH L).t r b⟩ : Hp) = mkH (L.set r b) := by
 show (⟨L.length, PT.set depth (mkT 0 L) r b⟩ : Hp) = ⟨(L.set r b).length, mkT 0 (L.set r b)⟩
 have := mkT_set L 0 r b h
 rw [Nat.zero_add] at this
 rw [this, List.length_set]
theorem appH {α : Type} {enc : α → List AV} {sz : Nat} (hsz : ∀ x, (enc x).length = sz) (hpos : Nat.blt 0 sz = true) (hone : ∀ x, (enc x).all one1 = true) {e : Option (AV × Hp)} (L : List Blk) (r bytes : Nat) (l x : List α) (hl : Nat.ble L.length roots = true) (hr : L[r]? = some ⟨l.flatMap enc, 0, false⟩) (h : e = appW (mkH L) (.own r l.length sz) sz bytes x.length (x.flatMap enc)) : e = (appS bytes l x).map fun y => (AV.own r y.length sz, mkH (L.set r ⟨y.flatMap enc, 0, false⟩)) := by
 have hpos : 0 < sz := by simpa using hpos
 have hone' : (x.flatMap enc).all one1 = true := by
  rw [List.all_eq_true]
  intro a ha
  obtain ⟨y, _, hy⟩ := List.mem_flatMap.1 ha
  exact List.all_eq_true.1 (hone y) a hy
 have hlt : r < L.length := (List.getElem?_eq_some_iff.1 hr).1
 rw [h]
 unfold appW appV appS
 simp only [flatMap_len hsz, hpos, hone', true_and, and_true, if_true]
 by_cases hb : (l.length + x.length) * bytes ≤ 2 ^ 40 ∧ l.length + x.length ≤ 2 ^ 40
 ·rw [if_pos hb]
  by_cases hx : x.length = 0
  ·have : x = [] := List.length_eq_zero_iff.1 hx
   subst this
   simp only [List.length_nil, Nat.add_zero, List.append_nil, Option.map_some, if_true]
   rw [if_pos (by simpa using hb)]
   have : L.set r ⟨l.flatMap enc, 0, false⟩ = L := by
    apply List.ext_getElem?
    intro i
    rw [List.getElem?_set]
    split
    ·rename_i e; subst e; first | exact hr.symm | (rw [if_pos hlt]; exact hr.symm)
    ·rfl
   show some (AV.own r l.length sz, mkH L) = some (AV.own r l.length sz, mkH (L.set r ⟨l.flatMap enc, 0, false⟩))
   rw [this]
  ·simp only [hx, if_false]
   rw [mkH_get hl hr, if_pos hb]
   simp only [flatMap_len hsz, Nat.zero_le, true_and, and_self, if_true, Option.map_some]
   rw [mkH_set hlt, List.flatMap_append, List.length_append]
 ·rw [if_neg hb, if_neg hb]; rfl
theorem fz_own {α : Type} {enc : α → List AV} {sz : Nat} (hsz : ∀ x, (enc x).length = sz) (hpur : ∀ x, purs (enc x) = true) {L : List Blk} {r : Nat} {l : List α} {xs ys : List AV} (hl : Nat.ble L.length roots = true) (hr : L[r]? = some ⟨l.flatMap enc, 0, false⟩) (h : FzG (mkH L) xs ys) : FzG (mkH L) (.own r l.length sz :: xs) (.vec l.length sz (l.flatMap enc) :: ys) :=
 .own (mkH_get hl hr) (flatMap_len hsz l) (Nat.zero_le _) (.pures (purs_flatMap hpur l)) h
def ctl1 : Pt → Pt
 | .ops _ _ K => resume K
 | .loop b K => .code b (.loop b :: K)
 | .fin => .fin
 | .code c K => match c with
  | .seq a b => .code a (.seq b :: K)
  | .skip => resume K
  | .label _ => resume K
  | .block id b => .code b (.block id :: K)
  | .scope b => .code b (.scope b :: K)
  | .loop b => .loop b K
  | .exit id => match exitK id K with | some q => q | none => .fin
  | .goto l => match gotoK l K with | some q => q | none => .fin
  | .ret => .fin
  | .region id ops draw => bif draw then resume K else .ops ops 0 K
  | _ => .fin
def nav : List Nat → Pt → Pt
 | [], p => p
 | 0 :: l, p => nav l (ctl1 p)
 | 1 :: l, .code (.cond _ x _) K => nav l (.code x K)
 | _ :: l, .code (.cond _ _ y) K => nav l (.code y K)
 | _ :: _, p => p
def atN (n : Nat) : Pt → Pt
 | .ops ops _ K => .ops ops n K
 | p => p
mutual
def nref (n : Nat) : AV → Bool
 | .ptr r _ _ => !Nat.beq r n
 | .slice r _ _ _ _ => !Nat.beq r n
 | .own r _ _ => !Nat.beq r n
 | .agg xs => nrefs n xs
 | .tuple xs => nrefs n xs
 | .func _ a b => nrefs n a && nrefs n b
 | .iface _ v => nref n v
 | _ => true
def nrefs (n : Nat) : List AV → Bool
 | [] => true
 | x :: xs => nref n x && nrefs n xs
end
def Mp.out (m : Mp) (n : Nat) (F : Nat → Option (Nat × List AV)) : Mp := ⟨fun r v => if r = n then none else m r v, F⟩
theorem out_at {m : Mp} {n : Nat} {F : Nat → Option (Nat × List AV)} {r v : Nat} (h : (!Nat.beq r n) = true) : (m.out n F) r v = m r v := by
 show (if r = n then none else m r v) = m r v
 rw [if_neg]
 rintro rfl
 simp at h
mutual
theorem nref_VR {m : Mp} {n : Nat} {F : Nat → Option (Nat × List AV)} (hF : ∀ i p, m.froz i = some p → F i = some p) : ∀ (x : AV) (c : Value), nref n x = true → VR m x c → VR (m.out n F) x c
 | .top, _, _, _ => by simp only [VR]
 | .int .., _, _, e => by simpa only [VR] using e
 | .resid .., _, _, e => by simpa only [VR] using e
 | .bool _, _, _, e => by simpa only [VR] using e
 | .str _, _, _, e => by simpa only [VR] using e
 | .nilp, _, _, e => by simpa only [VR] using e
 | .nils, _, _, e => by simpa only [VR] using e
 | .nilf, _, _, e => by simpa only [VR] using e
 | .nili, _, _, e => by simpa only [VR] using e
 | .vec .., _, _, e => by
  simp only [VR] at e ⊢
  obtain ⟨h0, a, cap, h1, h2, h3, h4⟩ := e
  exact ⟨h0, a, cap, h1, h2, h3, fun hn => let ⟨i, B, off, all, q, r⟩ := h4 hn; ⟨i, B, off, all, hF _ _ q, r⟩⟩
 | .vptr .., _, _, e => by
  simp only [VR] at e ⊢
  obtain ⟨i, B, off, all, q, r⟩ := e
  exact ⟨i, B, off, all, hF _ _ q, r⟩
 | .ptr r v off, _, h, e => by
  simp only [VR] at e ⊢
  obtain ⟨B, N, h1, h2⟩ := e
  exact ⟨B, N, by rw [out_at (by simpa only [nref] using h)]; exact h1, h2⟩
 | .slice r v off len sz, _, h, e => by
  simp only [VR] at e ⊢
  obtain ⟨B, N, cap, h1, h2⟩ := e
  exact ⟨B, N, cap, by rw [out_at (by simpa only [nref] using h)]; exact h1, h2⟩
 | .own r len sz, _, h, e => by
  simp only [VR] at e ⊢
  rcases e with e | ⟨B, N, cap, h1, h2⟩
  ·exact .inl e
  ·exact .inr ⟨B, N, cap, by rw [out_at (by simpa only [nref] using h)]; exact h1, h2⟩
 | .agg xs, c, h, e => by
  simp only [VR] at e ⊢
  obtain ⟨ys, h1, h2⟩ := e
  exact ⟨ys, h1, nrefs_VR hF xs _ (by simpa only [nref] using h) h2⟩
 | .tuple xs, c, h, e => by
  simp only [VR] at e ⊢
  obtain ⟨ys, h1, h2⟩ := e
  exact ⟨ys, h1, nrefs_VR hF xs _ (by simpa only [nref] using h) h2⟩
 | .func f a b, c, h, e => by
  simp only [VR] at e ⊢
  simp only [nref, Bool.and_eq_true] at h
  obtain ⟨ys, zs, h1, h2, h3⟩ := e
  exact ⟨ys, zs, h1, nrefs_VR hF a _ h.1 h2, nrefs_VR hF b _ h.2 h3⟩
 | .iface t v, c, h, e => by
  simp only [VR] at e ⊢
  obtain ⟨d, h1, h2⟩ := e
  exact ⟨d, h1, nref_VR hF v _ (by simpa only [nref] using h) h2⟩
theorem nrefs_VR {m : Mp} {n : Nat} {F : Nat → Option (Nat × List AV)} (hF : ∀ i p, m.froz i = some p → F i = some p) : ∀ (xs : List AV) (cs : List Value), nrefs n xs = true → VRs m xs cs → VRs (m.out n F) xs cs
 | [], _, _, e => by simpa only [VRs] using e
 | x :: xs, cs, h, e => by
  simp only [VRs] at e ⊢
  simp only [nrefs, Bool.and_eq_true] at h
  obtain ⟨y, ys, rfl, h1, h2⟩ := e
  exact ⟨y, ys, rfl, nref_VR hF x y h.1 h1, nrefs_VR hF xs ys h.2 h2⟩
end
theorem nrefs_take {n : Nat} : ∀ {xs : List AV} (k : Nat), nrefs n xs = true → nrefs n (xs.take k) = true
 | [], k, _ => by simp [nrefs]
 | x :: xs, 0, _ => by simp [nrefs]
 | x :: xs, k + 1, h => by
  simp only [nrefs, List.take_succ_cons, Bool.and_eq_true] at h ⊢
  exact ⟨h.1, nrefs_take k h.2⟩
def nrefE (n : Nat) : Env → Bool
 | [] => true
 | p :: l => nref n p.2 && nrefE n l
theorem nrefE_look {n : Nat} : ∀ {e : Env} (t : Nat), nrefE n e = true → nref n (look e t) = true
 | [], t, _ => rfl
 | p :: l, t, h => by
  simp only [nrefE, Bool.and_eq_true] at h
  rw [look_cons]
  split
  ·exact h.1
  ·exact nrefE_look t h.2
def NB (n : Nat) : Nat → List Blk → Prop
 | _, [] => True
 | i, b :: l => (i = n ∨ nrefs n b.cells = true) ∧ NB n (i + 1) l
theorem NB_get {n : Nat} : ∀ {l : List Blk} {i j : Nat} {b : Blk}, NB n i l → l[j]? = some b → i + j ≠ n → nrefs n b.cells = true
 | [], i, j, b, _, h, _ => by simp at h
 | b0 :: l, i, j, b, hb, h, hne => by
  cases j with
  | zero => simp at h; subst h; exact hb.1.resolve_left (by omega)
  | succ j => exact NB_get hb.2 (by simpa using h) (by omega)
theorem ok_frz {R : Type} {X : Fx R} {p : Pt} {env env0 : Env} {t : Option R} (L : List Blk) (d r0 n sz minv : Nat) (cells : List AV) (ks : List Nat) (hn0 : Nat.ble X.n0 r0 = true) (hl : Nat.ble L.length roots = true) (hd0 : look env d = .slice r0 (n * sz) 0 n sz ∨ look env d = .own r0 n sz) (hr : L[r0]? = some ⟨cells, minv, false⟩) (hc : cells.length = n * sz) (hmin : minv ≤ n * sz) (hp : purs cells = true) (hk : keepOnly env ks = env0) (hne : nrefE r0 env0 = true) (hnb : NB r0 0 L) (k : Ok X p ((d, .vec n sz cells) :: env0) (mkH (L.set r0 ⟨[], 0, false⟩)) t) : Ok X p env (mkH L) t := by
 intro r hr' m0 w0 b0 m w a h0 fr0 hnt hd rw st
 have fr : FR m env0 a.tmps := fr0.less (hk ▸ less_keepOnly ks env)
 have hroot : (mkH L).t.get r0 = some ⟨cells, minv, false⟩ := mkH_get hl hr
 have hlt : r0 < L.length := (List.getElem?_eq_some_iff.1 hr).1
 obtain ⟨c, hc1, hc2⟩ := fr0 d (by rcases hd0 with h | h <;> (rw [h]; intro e; cases e))
 have hcase : c = .slice none 0 0 ∧ n = 0 ∨ ∃ B N cap, m r0 (n * sz) = some (B, N) ∧ n ≤ cap ∧ c = .slice (some ⟨B, 0, none⟩) n cap := by
  rcases hd0 with h | h <;> rw [h] at hc2 <;> simp only [VR] at hc2
  ·obtain ⟨B, N, cap, h1, h2, h3, h4, h5⟩ := hc2
   exact .inr ⟨B, N, cap, h1, h3, h5⟩
  ·rcases hc2 with ⟨h1, h2⟩ | ⟨B, N, cap, h1, h2, h3, h4⟩
   ·exact .inl ⟨h2, h1⟩
   ·exact .inr ⟨B, N, cap, h1, h2, h4⟩
 have hF0 : FOk m.froz m.froz w b0 := ⟨fun i B cells hi => rw.frz i B cells hi, rw.ffin, fun i B cells h => .inl h, fun _ _ h => h⟩
 have key : ∃ F, FOk F m.froz w b0 ∧ (∀ i B cs, F i = some (B, cs) → m.froz i = some (B, cs) ∨ ∃ v N, m r0 v = some (B, N)) ∧ VR ⟨fun _ _ => none, F⟩ (.vec n sz cells) c := by
  rcases hcase with ⟨rfl, rfl⟩ | ⟨B, N, cap, hm, hcap, rfl⟩
  ·have : cells = [] := List.length_eq_zero_iff.1 (by omega)
   subst this
   exact ⟨m.froz, hF0, fun i B cs h => .inl h, vec_nil _ _⟩
  ·obtain ⟨cs, ty, fr', q1, q2, q3, q4, q5⟩ := rw.blk _ _ _ _ _ hroot hm hmin (by show n * sz ≤ cells.length; omega)
   obtain ⟨b0, hb0, _, _, hbase⟩ := rw.dom _ _ _ _ hm
   rw [hroot] at hb0
   cases hb0
   simp only at q5
   rw [List.take_of_length_le (by omega)] at q5
   obtain ⟨nf, hnf⟩ := rw.ffin
   have q6 := purs_VR _ _ hp q5
   obtain ⟨F, i, g1, g2, g3⟩ := fOk_add hF0 (hbase rfl) q1 (cells := cells) (by omega) (by rw [hc]; exact q6)
   refine ⟨fun j => if j = nf then some (B, cells) else m.froz j, ?_, ?_, ?_⟩
   ·refine ⟨?_, ⟨nf + 1, fun j hj => by show (if j = nf then some (B, cells) else m.froz j) = none; rw [if_neg (by omega)]; exact hnf j (by omega)⟩, ?_, ?_⟩
    ·intro j B' cells' hj
     have hS : Sub m.still ⟨fun _ _ => none, fun j => if j = nf then some (B, cells) else m.froz j⟩ := ⟨fun _ _ _ e => (by cases e), fun j q hq => by
      show (if j = nf then some (B, cells) else m.froz j) = some q
      rw [if_neg]
      ·exact hq
      ·rintro rfl
       have hq : m.froz j = some q := hq
       rw [hnf _ (Nat.le_refl _)] at hq; cases hq⟩
     by_cases e : j = nf
     ·simp only [e, if_true] at hj
      cases hj
      exact ⟨cs, ty, fr', q1, by omega, by rw [hc]; exact VRs.mono hS _ _ q6⟩
     ·simp only [e, if_false] at hj
      obtain ⟨cs2, ty2, fr2, e1, e2, e3⟩ := rw.frz j B' cells' hj
      exact ⟨cs2, ty2, fr2, e1, e2, VRs.mono hS _ _ e3⟩
    ·intro j B' cells' hj
     by_cases e : j = nf
     ·simp only [e, if_true] at hj
      cases hj
      exact .inr (hbase rfl)
     ·simp only [e, if_false] at hj
      exact .inl hj
    ·intro j q hq
     show (if j = nf then some (B, cells) else m.froz j) = some q
     rw [if_neg]
     ·exact hq
     ·rintro rfl; rw [hnf _ (Nat.le_refl _)] at hq; cases hq
   ·intro j B' cells' hj
    by_cases e : j = nf
    ·simp only [e, if_true] at hj
     cases hj
     exact .inr ⟨_, _, hm⟩
    ·simp only [e, if_false] at hj
     exact .inl hj
   ·simp only [VR]
    refine ⟨hc, _, cap, rfl, hcap, fun e => (by cases e), fun _ => ⟨nf, B, 0, cells, by simp, rfl, ?_, by omega⟩⟩
    rw [List.drop_zero, List.take_of_length_le (by omega)]
 obtain ⟨F, hFok, hFnew, hvec⟩ := key
 have hget : ∀ i, i ≠ r0 → (mkH (L.set r0 ⟨[], 0, false⟩)).t.get i = (mkH L).t.get i := by
  intro i hi
  show (mkT 0 (L.set r0 ⟨[], 0, false⟩)).get i = (mkT 0 L).get i
  have hl' : L.length ≤ roots := Nat.le_of_ble_eq_true hl
  rw [mkT_get _ _ _ (by rw [List.length_set]; omega), mkT_get _ _ _ (by omega)]
  simp only [Nat.zero_le, if_true, Nat.sub_zero]
  rw [List.getElem?_set, if_neg (fun e => hi e.symm)]
 have hout : ∀ {r v q}, (m.out r0 F) r v = some q → r ≠ r0 ∧ m r v = some q := by
  intro r v q h
  have h : (if r = r0 then none else m r v) = some q := h
  by_cases e : r = r0
  ·rw [if_pos e] at h; cases h
  ·rw [if_neg e] at h; exact ⟨e, h⟩
 refine k r hr' m0 w0 b0 (m.out r0 F) w a h0 ?_ hnt hd ⟨?_, ?_, ?_, ?_, ?_, hFok.ok, ?_, hFok.fin, rw.base_le, ?_⟩ ⟨⟨fun r v q hq => (by
  have h1 := h0.1 r v q hq
  have h2 := Nat.le_of_ble_eq_true hn0
  show (if r = r0 then none else m r v) = some q
  rw [if_neg (by omega)]
  exact st.sub.1 r v q hq), fun i q hq => hFok.sub i q (st.sub.2 i q hq)⟩, ?_, ?_, st.size, st.os, st.tape, st.output, st.same⟩
 ·intro u hu
  by_cases e : d = u
  ·subst e
   refine ⟨c, hc1, ?_⟩
   rw [look_cons, if_pos rfl]
   exact VR.mono (m := ⟨fun _ _ => none, F⟩) (m' := m.out r0 F) ⟨fun _ _ _ h => (by cases h), fun _ _ h => h⟩ _ _ hvec
  ·have he : look ((d, AV.vec n sz cells) :: env0) u = look env0 u := by rw [look_cons, if_neg e]
   rw [he] at hu ⊢
   obtain ⟨c, h1, h2⟩ := fr u hu
   exact ⟨c, h1, nref_VR hFok.sub _ _ (nrefE_look u hne) h2⟩
 ·intro r b v B N hb hm h1 h2
  obtain ⟨hne', hm⟩ := hout hm
  rw [hget r hne'] at hb
  obtain ⟨cs, ty, fr', q1, q2, q3, q4, q5⟩ := rw.blk r b v B N hb hm h1 h2
  have hbl : L[r]? = some b := by
   have hb' : (mkT 0 L).get r = some b := hb
   rw [mkT_get _ _ _ (by rw [Nat.zero_add]; exact Nat.le_of_ble_eq_true hl)] at hb'
   simpa using hb'
  exact ⟨cs, ty, fr', q1, q2, q3, q4, nrefs_VR hFok.sub _ _ (nrefs_take v (NB_get hnb hbl (by omega))) q5⟩
 ·intro r v B N hm
  obtain ⟨hne', hm⟩ := hout hm
  rw [hget r hne']
  exact rw.dom r v B N hm
 ·intro r v B N r' v' N' hm hm' hB
  exact rw.sep _ _ _ _ _ _ _ (hout hm).2 (hout hm').2 hB
 ·intro r hr
  have hr : L.length ≤ r := by
   have : (mkH (L.set r0 ⟨[], 0, false⟩)).next = L.length := by simp [mkH]
   rw [this] at hr; exact hr
  rw [hget r (by omega)]
  exact rw.fresh r hr
 ·intro r v B N hm
  exact rw.vle _ _ _ _ (hout hm).2
 ·intro i B cs r v N b hi hm hb
  obtain ⟨hne', hm⟩ := hout hm
  rw [hget r hne'] at hb
  rcases hFnew i B cs hi with h | ⟨v', N', h⟩
  ·exact rw.fsep i B cs r v N b h hm hb
  ·obtain ⟨b0, hb0, _, _, hbase⟩ := rw.dom _ _ _ _ h
   rw [hroot] at hb0
   cases hb0
   exact absurd (rw.sep _ _ _ _ _ _ _ h hm (hbase rfl)).symm hne'
 ·show (L.set r0 ⟨[], 0, false⟩).length ≤ roots
  rw [List.length_set]; exact Nat.le_of_ble_eq_true hl
 ·intro r v B N hm
  exact st.ext r v B N (hout hm).2
 ·intro i B cs hi
  rcases hFok.new i B cs hi with h | h
  ·exact st.fext i B cs h
  ·exact .inr h
theorem ok_if {R : Type} {X : Fx R} {p : Pt} {env : Env} {H : Hp} {b : Bool} {t1 t2 : Option R} (k1 : b = true → Ok X p env H t1) (k2 : b = false → Ok X p env H t2) : Ok X p env H (if b then t1 else t2) := by
 cases b with
 | true => exact k1 rfl
 | false => exact k2 rfl
theorem opsD_env {P : Program} {C : Cx} {all l : List Oper} {env eE e : Env} {H : Hp} {hs : List Hp} (h : env = eE) (k : OpsD P C all l eE H e hs) : OpsD P C all l env H e hs := h ▸ k
theorem ok_minv {R : Type} {X : Fx R} {p : Pt} {env : Env} {t : Option R} (L : List Blk) (r0 : Nat) (cells : List AV) (minv minv' : Nat) (hl : Nat.ble L.length roots = true) (hr : L[r0]? = some ⟨cells, minv, false⟩) (hm : minv ≤ minv') (k : Ok X p env (mkH (L.set r0 ⟨cells, minv', false⟩)) t) : Ok X p env (mkH L) t := by
 intro r hr' m0 w0 b0 m w a h0 fr hnt hd rw st
 have hroot : (mkH L).t.get r0 = some ⟨cells, minv, false⟩ := mkH_get hl hr
 have hlt : r0 < L.length := (List.getElem?_eq_some_iff.1 hr).1
 have hl' : L.length ≤ roots := Nat.le_of_ble_eq_true hl
 have hget : ∀ i, i ≠ r0 → (mkH (L.set r0 ⟨cells, minv', false⟩)).t.get i = (mkH L).t.get i := by
  intro i hi
  show (mkT 0 (L.set r0 ⟨cells, minv', false⟩)).get i = (mkT 0 L).get i
  rw [mkT_get _ _ _ (by rw [List.length_set]; omega), mkT_get _ _ _ (by omega)]
  simp only [Nat.zero_le, if_true, Nat.sub_zero]
  rw [List.getElem?_set, if_neg (fun e => hi e.symm)]
 have hget0 : (mkH (L.set r0 ⟨cells, minv', false⟩)).t.get r0 = some ⟨cells, minv', false⟩ := mkH_get (by rw [List.length_set]; exact hl) (by rw [List.getElem?_set, if_pos rfl, if_pos hlt])
 refine k r hr' m0 w0 b0 m w a h0 fr hnt hd ⟨?_, ?_, rw.sep, ?_, rw.vle, rw.frz, ?_, rw.ffin, rw.base_le, ?_⟩ st
 ·intro r b v B N hb hm' h1 h2
  by_cases e : r = r0
  ·subst e
   rw [hget0] at hb
   cases hb
   exact rw.blk r ⟨cells, minv, false⟩ v B N hroot hm' (Nat.le_trans hm h1) h2
  ·rw [hget r e] at hb
   exact rw.blk r b v B N hb hm' h1 h2
 ·intro r v B N hm'
  obtain ⟨b, q1, q2, q3, q4⟩ := rw.dom r v B N hm'
  by_cases e : r = r0
  ·subst e
   rw [hroot] at q1
   cases q1
   exact ⟨_, hget0, q2, q3, q4⟩
  ·exact ⟨b, by rw [hget r e]; exact q1, q2, q3, q4⟩
 ·intro r hr
  have hr : L.length ≤ r := by
   have : (mkH (L.set r0 ⟨cells, minv', false⟩)).next = L.length := by simp [mkH]
   rw [this] at hr; exact hr
  rw [hget r (by omega)]
  exact rw.fresh r hr
 ·intro i B cs r v N b hi hm' hb
  by_cases e : r = r0
  ·subst e
   have := rw.fsep i B cs r v N _ hi hm' hroot
   cases this
  ·rw [hget r e] at hb
   exact rw.fsep i B cs r v N b hi hm' hb
 ·show (L.set r0 ⟨cells, minv', false⟩).length ≤ roots
  rw [List.length_set]; exact hl'
theorem ok_callM {R : Type} {X : Fx R} {p : Pt} {env : Env} {H : Hp} {α : Type} {m : Option α} {f : α → Option R} {fi : Nat} {args : List AV} (g : α → AV) (G : α → Hp) (p' : Pt) (E : α → Env) (hc : callAt X.fn.ntmps p env = some (fi, args)) (hf : ∀ x, m = some x → CallV X.P fi args H (g x) (G x)) (ha : ∀ x, advE X.fn.ntmps p env (g x) = some (p', E x)) (k : ∀ x, m = some x → Ok X p' (E x) (G x) (f x)) : Ok X p env H (m.bind f) := by
 refine ok_bind fun x hx => ?_
 have hpo := hf x hx
 have hax := ha x
 unfold advE at hax
 unfold callAt at hc
 cases ho : operAt X.fn.ntmps p env with
 | none => rw [ho] at hax; cases hax
 | some o =>
  rw [ho] at hax hc
  simp only [Option.some.injEq, Prod.mk.injEq] at hax hc
  obtain ⟨e1, e2⟩ := hax
  obtain ⟨ops, n, K, rfl, h1, h2, h3⟩ := operAt_spec ho
  have kx := k x hx
  rw [← e1, ← e2] at kx
  split at hc
  ·rename_i c hoc
   split at hc
   ·rename_i q hq
    split at hc
    ·rename_i fi' first caps hfv
     cases hc
     exact ok_stp h1 h2 h3 (.inr ⟨c, q, fi, first, caps, hoc, hq, hfv, hpo⟩) kx
    ·cases hc
   ·cases hc
  ·cases hc
theorem ok_ownc {R : Type} {X : Fx R} {p : Pt} {env : Env} {t : Option R} (L : List Blk) (r0 i sz minv : Nat) (cells : List AV) (hn : Nat.blt L.length roots = true) (hr : L[r0]? = some ⟨cells, minv, false⟩) (hi : cells[i]? = some .nils) (k : Ok X p env (mkH (L.set r0 ⟨cells.set i (.own L.length 0 sz), minv, false⟩ ++ [⟨[], 0, false⟩])) t) : Ok X p env (mkH L) t := by
 intro r hr' m0 w0 b0 m w a h0 fr hnt hd rw st
 have hn : L.length < roots := by simpa using hn
 have hlt : r0 < L.length := (List.getElem?_eq_some_iff.1 hr).1
 have hroot : (mkH L).t.get r0 = some ⟨cells, minv, false⟩ := mkH_get (by simp; omega) hr
 refine k r hr' m0 w0 b0 m w a h0 fr hnt hd ?_ st
 have hlow : ∀ r v q, m r v = some q → r < L.length := by
  intro r v q h
  obtain ⟨b, hb, _⟩ := rw.dom r v q.1 q.2 h
  exact rw.lt hb
 have hget : ∀ j, j ≠ r0 → j < L.length → (mkH (L.set r0 ⟨cells.set i (.own L.length 0 sz), minv, false⟩ ++ [⟨[], 0, false⟩])).t.get j = (mkH L).t.get j := by
  intro j hj hjl
  show (mkT 0 _).get j = (mkT 0 L).get j
  rw [mkT_get _ _ _ (by simp; omega), mkT_get _ _ _ (by omega)]
  simp only [Nat.zero_le, if_true, Nat.sub_zero]
  rw [List.getElem?_append_left (by simpa using hjl), List.getElem?_set, if_neg (fun e => hj e.symm)]
 have hget0 : (mkH (L.set r0 ⟨cells.set i (.own L.length 0 sz), minv, false⟩ ++ [⟨[], 0, false⟩])).t.get r0 = some ⟨cells.set i (.own L.length 0 sz), minv, false⟩ := by
  show (mkT 0 _).get r0 = _
  rw [mkT_get _ _ _ (by simp; omega)]
  simp only [Nat.zero_le, if_true, Nat.sub_zero]
  rw [List.getElem?_append_left (by simpa using hlt), List.getElem?_set, if_pos rfl, if_pos hlt]
 have hVR : ∀ (cs : List Value) (v : Nat), VRs m (cells.take v) cs → VRs m ((cells.set i (.own L.length 0 sz)).take v) cs := by
  intro cs v h
  rw [List.take_set]
  by_cases hiv : i < v
  ·have hx : (cells.take v)[i]? = some .nils := by rw [List.getElem?_take, if_pos hiv]; exact hi
   obtain ⟨c, hc, hv⟩ := VRs.get h i _ hx
   simp only [VR] at hv
   have hs := VRs.set i (.own L.length 0 sz) c h (by unfold VR; exact .inl ⟨rfl, hv⟩)
   have e : cs.set i c = cs := by
    apply List.ext_getElem?
    intro j
    rw [List.getElem?_set]
    split
    ·rename_i e
     subst e
     split
     ·exact hc.symm
     ·rename_i hge
      rw [List.getElem?_eq_none (by omega)]
    ·rfl
   rw [e] at hs
   exact hs
  ·rw [List.set_eq_of_length_le (by simp; omega)]; exact h
 have hnext : (mkH (L.set r0 ⟨cells.set i (.own L.length 0 sz), minv, false⟩ ++ [⟨[], 0, false⟩])).next = L.length + 1 := by simp [mkH]
 refine ⟨?_, ?_, rw.sep, ?_, rw.vle, rw.frz, ?_, rw.ffin, rw.base_le, by rw [hnext]; exact hn⟩
 ·intro r b v B N hb hm h1 h2
  by_cases e : r = r0
  ·subst e
   rw [hget0] at hb
   cases hb
   simp only [List.length_set] at h2
   obtain ⟨cs, ty, fr', q1, q2, q3, q4, q5⟩ := rw.blk r ⟨cells, minv, false⟩ v B N hroot hm h1 h2
   exact ⟨cs, ty, fr', q1, q2, q3, q4, hVR _ v q5⟩
  ·rw [hget r e (hlow _ _ _ hm)] at hb
   exact rw.blk r b v B N hb hm h1 h2
 ·intro r v B N hm
  obtain ⟨b, q1, q2, q3, q4⟩ := rw.dom r v B N hm
  by_cases e : r = r0
  ·subst e
   rw [hroot] at q1
   cases q1
   exact ⟨_, hget0, by simpa using q2, q3, q4⟩
  ·exact ⟨b, by rw [hget r e (hlow _ _ _ hm)]; exact q1, q2, q3, q4⟩
 ·intro r hr
  rw [hnext] at hr
  show (mkT 0 _).get r = none
  rw [mkT_get _ _ _ (by simp; omega)]
  simp only [Nat.zero_le, if_true, Nat.sub_zero]
  exact List.getElem?_eq_none (by simp; omega)
 ·intro j B cs r v N b hj hm hb
  by_cases e : r = r0
  ·subst e
   have := rw.fsep j B cs r v N _ hj hm hroot
   cases this
  ·rw [hget r e (hlow _ _ _ hm)] at hb
   exact rw.fsep j B cs r v N b hj hm hb
end Go.Proofs.Ytbmijiibfaacmaa.Am
set_option linter.unusedVariables false
namespace Go.Proofs.Ytbmijiibfaacmaa.Am
open Go
def PT.allB {α : Type} (p : Nat → α → Bool) : PT α → (Nat → Nat) → Bool
 | .nil, _ => true
 | .node l b r, g => (match b with | some x => p (g 0) x | none => true) && l.allB p (fun n => g (2 * n + 1)) && r.allB p (fun n => g (2 * n + 2))
theorem PT.allB_get {α : Type} {p : Nat → α → Bool} : ∀ (t : PT α) (g : Nat → Nat), t.allB p g = true → ∀ (n : Nat) (x : α), t.get n = some x → p (g n) x = true
 | .nil, g, _, n, x, h => by cases h
 | .node l b r, g, hh, n, x, h => by
  simp only [PT.allB, Bool.and_eq_true] at hh
  obtain ⟨⟨h1, h2⟩, h3⟩ := hh
  rw [PT.get_node] at h
  by_cases h0 : n = 0
  ·rw [if_pos h0] at h
   subst h0
   subst h
   exact h1
  ·rw [if_neg h0] at h
   by_cases hm : n % 2 = 1
   ·rw [if_pos hm] at h
    have := PT.allB_get l _ h2 _ _ h
    rwa [show 2 * (n / 2) + 1 = n by omega] at this
   ·rw [if_neg hm] at h
    have := PT.allB_get r _ h3 _ _ h
    rwa [show 2 * (n / 2 - 1) + 2 = n by omega] at this
def beqZ : AV → AV → Bool
 | .top, .top => true
 | .int k n, .int k' n' => decide (k = k') && decide (n = n')
 | .bool a, .bool b => a == b
 | .str a, .str b => eqL a b
 | .nilp, .nilp => true
 | .nils, .nils => true
 | .nilf, .nilf => true
 | .nili, .nili => true
 | _, _ => false
theorem beqZ_eq {x y : AV} (h : beqZ x y = true) : x = y := by
 cases x <;> cases y <;> simp [beqZ, eqL_iff] at h ⊢ <;> exact h
def beqZs : List AV → List AV → Bool
 | [], [] => true
 | a :: x, b :: y => beqZ a b && beqZs x y
 | _, _ => false
theorem beqZs_eq : ∀ (x y : List AV), beqZs x y = true → x = y
 | [], [], _ => rfl
 | [], _ :: _, h => by simp [beqZs] at h
 | _ :: _, [], h => by simp [beqZs] at h
 | a :: x, b :: y, h => by
  simp only [beqZs, Bool.and_eq_true] at h
  rw [beqZ_eq h.1, beqZs_eq x y h.2]
def beqTi (i j : Ti) : Bool :=
 Nat.beq i.size j.size && Nat.beq i.bytes j.bytes && (match i.zero, j.zero with | some a, some b => beqZs a b | none, none => true | _, _ => false) && decide (i.kind = j.kind) && decide (i.fields = j.fields) && Nat.beq i.elem j.elem && Nat.beq i.len j.len && decide (i.flat = j.flat)
theorem beqTi_eq {i j : Ti} (h : beqTi i j = true) : i = j := by
 obtain ⟨a1, a2, a3, a4, a5, a6, a7, a8⟩ := i
 obtain ⟨b1, b2, b3, b4, b5, b6, b7, b8⟩ := j
 simp only [beqTi, Bool.and_eq_true, decide_eq_true_eq] at h
 obtain ⟨⟨⟨⟨⟨⟨⟨h1, h2⟩, h3⟩, h4⟩, h5⟩, h6⟩, h7⟩, h8⟩ := h
 have h1 := Nat.eq_of_beq_eq_true h1
 have h2 := Nat.eq_of_beq_eq_true h2
 have h6 := Nat.eq_of_beq_eq_true h6
 have h7 := Nat.eq_of_beq_eq_true h7
 have h3' : a3 = b3 := by
  cases a3 <;> cases b3 <;> simp only at h3 <;> first | rfl | cases h3 | exact congrArg some (beqZs_eq _ _ h3)
 subst h1 h2 h3' h4 h5 h6 h7 h8
 rfl
def tiOk (P : Program) (t : Nat) (i : Ti) : Bool := match mkTi P t with | some j => beqTi i j | none => false
theorem tiOk_eq {P : Program} {t : Nat} {i : Ti} (h : tiOk P t i = true) : mkTi P t = some i := by
 unfold tiOk at h
 split at h
 ·rename_i j hj
  rw [hj, beqTi_eq h]
 ·cases h
end Go.Proofs.Ytbmijiibfaacmaa.Am
set_option linter.unusedVariables false
set_option linter.unusedSimpArgs false
namespace Go.Proofs.Ytbmijiibfaacmaa.Am
open Go
def It (d : Nat) (s : ByteArray) (pos base : Nat) (m : Mp) (w : World) (a : Act) : Prop :=
 ∃ B, a.tmps[d]? = some (.pointer (some ⟨B, 0, none⟩)) ∧ w.heap[B]? = some (.stringIter s pos) ∧ base ≤ B ∧ ∀ r v N, m r v ≠ some (B, N)
section
variable {R : Type} (X : Fx R)
end
section
variable {R : Type} {X : Fx R} {p p' : Pt} {env eE : Env} {H H' : Hp} {d pos : Nat} {s : ByteArray}
def dneq (o : Oper) (d : Nat) : Bool := match o.dst with | some e => !Nat.beq e d | none => true
theorem It.put {base : Nat} {m : Mp} {w : World} {a : Act} {o : Oper} (c : Value) (hd : dneq o d = true) (it : It d s pos base m w a) : It d s pos base m w (a.put o.dst c) := by
 obtain ⟨B, h1, h2, h3, h4⟩ := it
 refine ⟨B, ?_, h2, h3, h4⟩
 unfold dneq at hd
 cases ho : o.dst with
 | none => exact h1
 | some e =>
  rw [ho] at hd
  simp only [Act.put]
  rw [Array.getElem?_setIfInBounds_ne]
  ·exact h1
  ·rintro rfl; simp at hd
theorem It.step {base b0 : Nat} {m m' : Mp} {w w' : World} {a : Act} (st : St m w b0 m' w') (it : It d s pos base m w a) : It d s pos base m' w' a := by
 obtain ⟨B, h1, h2, h3, h4⟩ := it
 have hlt : B < w.heap.size := (Array.getElem?_eq_some_iff.1 h2).1
 refine ⟨B, h1, by rw [st.same B hlt (fun r v N e => absurd e (h4 r v N))]; exact h2, h3, ?_⟩
 intro r v N e
 rcases st.ext r v B N e with ⟨v0, N0, e0⟩ | hB
 ·exact h4 r v0 N0 e0
 ·omega
end
end Go.Proofs.Ytbmijiibfaacmaa.Am
set_option maxRecDepth 100000
namespace Go.Proofs.Ytbmijiibfaacmaa.Am
noncomputable section
open Go
def tyT : PT Ti := (.node (.node (.node (.node (.node (.node (.node .nil (some ⟨1, 8, (some [.nilf]), .other, [], 0, 0, none⟩) .nil) (some ⟨1, 8, (some [.nilf]), .other, [], 0, 0, none⟩) (.node .nil (some ⟨1, 4, (some [.int .i32 0]), .int .i32, [], 0, 0, none⟩) .nil)) (some ⟨1, 8, (some [.nilp]), .pointer, [], 84, 0, none⟩) (.node (.node .nil (some ⟨1, 8, (some [.nilf]), .other, [], 0, 0, none⟩) .nil) (some ⟨3, 32, (some [.int .i64 0, .str [], .int .i64 0]), .struct, [(0, 3), (1, 9), (2, 3)], 0, 0, (some [(.int .i64), .string, (.int .i64)])⟩) .nil)) (some ⟨4, 24, (some [.int .i64 0, .int .i64 0, .bool false, .int .u8 0]), .struct, [(0, 2), (1, 3), (2, 4), (3, 6)], 0, 0, (some [(.int .i64), (.int .i64), .bool, (.int .u8)])⟩) (.node (.node (.node .nil (some ⟨1, 0, (some [.top]), .other, [], 0, 0, none⟩) .nil) (some ⟨1, 0, (some [.top]), .other, [], 0, 0, none⟩) .nil) (some ⟨1, 24, (some [.nils]), .slice, [], 9, 0, none⟩) (.node (.node .nil (some ⟨0, 0, (some []), .struct, [(0, 85)], 0, 0, none⟩) .nil) (some ⟨1, 8, (some [.nilf]), .other, [], 0, 0, none⟩) .nil))) (some ⟨1, 8, (some [.int .i64 0]), .int .i64, [], 0, 0, none⟩) (.node (.node (.node (.node .nil (some ⟨1, 8, (some [.nilf]), .other, [], 0, 0, none⟩) .nil) (some ⟨1, 8, (some [.nilf]), .other, [], 0, 0, none⟩) .nil) (some ⟨1, 8, (some [.nilp]), .struct, [(0, 17)], 0, 0, none⟩) (.node (.node .nil (some ⟨4, 40, (some [.nilp, .nilp, .nilp, .str []]), .struct, [(0, 17), (1, 17), (2, 17), (3, 9)], 0, 0, none⟩) .nil) (some ⟨1, 8, (some [.nilf]), .other, [], 0, 0, none⟩) .nil)) (some ⟨1, 16, (some [.str []]), .string, [], 0, 0, none⟩) (.node (.node (.node .nil (some ⟨1, 8, (some [.nilf]), .other, [], 0, 0, none⟩) .nil) (some ⟨1, 8, (some [.nilf]), .other, [], 0, 0, none⟩) .nil) (some ⟨1, 8, (some [.nilf]), .other, [], 0, 0, none⟩) (.node (.node .nil (some ⟨1, 1, (some [.int .u8 0]), .int .u8, [], 0, 0, none⟩) .nil) (some ⟨1, 8, (some [.int .u64 0]), .int .u64, [], 0, 0, none⟩) .nil)))) (some ⟨1, 8, (some [.nilf]), .other, [], 0, 0, none⟩) (.node (.node (.node (.node (.node .nil (some ⟨1, 8, (some [.nilf]), .other, [], 0, 0, none⟩) .nil) (some ⟨1, 8, (some [.nilf]), .other, [], 0, 0, none⟩) (.node .nil (some ⟨11, 48, (some [.int .u64 0, .int .u64 0, .int .u32 0, .int .u8 0, .int .u8 0, .int .u8 0, .int .u8 0, .nilf, .nilp, .int .i32 0, .int .i32 0]), .struct, [(0, 12), (1, 12), (2, 89), (3, 90), (4, 5), (5, 5), (6, 91), (7, 92), (8, 93), (9, 94), (10, 95)], 0, 0, none⟩) .nil)) (some ⟨1, 8, (some [.nilp]), .pointer, [], 97, 0, none⟩) (.node (.node .nil (some ⟨1, 8, (some [.nilf]), .other, [], 0, 0, none⟩) .nil) (some ⟨1, 8, (some [.nilf]), .other, [], 0, 0, none⟩) .nil)) (some ⟨1, 16, (some [.str []]), .string, [], 0, 0, none⟩) (.node (.node (.node .nil (some ⟨1, 8, (some [.nilf]), .other, [], 0, 0, none⟩) .nil) (some ⟨1, 24, (some [.nils]), .slice, [], 37, 0, none⟩) .nil) (some ⟨7, 104, (some [.int .i64 0, .str [], .nils, .bool false, .bool false, .nils, .nils]), .struct, [(0, 3), (1, 9), (2, 22), (3, 4), (4, 4), (5, 23), (6, 23)], 0, 0, (some [(.int .i64), .string, .slice, .bool, .bool, .slice, .slice])⟩) (.node (.node .nil (some ⟨1, 4, (some [.int .u32 0]), .int .u32, [], 0, 0, none⟩) .nil) (some ⟨1, 8, (some [.nilf]), .other, [], 0, 0, none⟩) .nil))) (some ⟨1, 1, (some [.int .u8 0]), .int .u8, [], 0, 0, none⟩) (.node (.node (.node (.node .nil (some ⟨9, 216, (some [.nils, .nils, .nils, .nils, .nils, .nils, .nils, .nils, .nils]), .array, [], 23, 9, (some (List.replicate 9 .slice))⟩) .nil) (some ⟨4, 24, (some [.int .i64 0, .int .i64 0, .bool false, .bool false]), .struct, [(0, 3), (1, 3), (2, 4), (3, 4)], 0, 0, (some [(.int .i64), (.int .i64), .bool, .bool])⟩) .nil) (some ⟨1, 4, (some [.int .i32 0]), .int .i32, [], 0, 0, none⟩) (.node (.node .nil (some ⟨0, 0, (some []), .array, [], 16, 0, (some (List.replicate 0 .pointer))⟩) .nil) (some ⟨1, 8, (some [.nilf]), .other, [], 0, 0, none⟩) .nil)) (some ⟨2, 24, (some [.str [], .int .u64 0]), .struct, [(0, 9), (1, 12)], 0, 0, none⟩) (.node (.node (.node .nil (some ⟨1, 8, (some [.nilf]), .other, [], 0, 0, none⟩) .nil) (some ⟨1, 8, (some [.nilf]), .other, [], 0, 0, none⟩) .nil) (some ⟨1, 8, (some [.nilf]), .other, [], 0, 0, none⟩) (.node (.node .nil (some ⟨1, 8, (some [.nilp]), .pointer, [], 5, 0, none⟩) .nil) (some ⟨1, 24, (some [.nils]), .slice, [], 23, 0, none⟩) .nil))))) (some ⟨1, 0, (some [.top]), .other, [], 0, 0, none⟩) (.node (.node (.node (.node (.node (.node .nil (some ⟨1, 0, (some [.top]), .other, [], 0, 0, none⟩) .nil) (some ⟨1, 8, (some [.int .u64 0]), .int .u64, [], 0, 0, none⟩) (.node .nil (some ⟨11, 48, (some [.int .u64 0, .int .u64 0, .int .u32 0, .int .u8 0, .int .u8 0, .int .u8 0, .int .u8 0, .nilf, .nilp, .int .i32 0, .int .i32 0]), .struct, [(0, 12), (1, 12), (2, 89), (3, 90), (4, 5), (5, 5), (6, 91), (7, 92), (8, 93), (9, 94), (10, 95)], 0, 0, none⟩) .nil)) (some ⟨1, 8, (some [.nilp]), .pointer, [], 87, 0, none⟩) (.node (.node .nil (some ⟨1, 8, (some [.nilf]), .other, [], 0, 0, none⟩) .nil) (some ⟨1, 8, (some [.nilf]), .other, [], 0, 0, none⟩) .nil)) (some ⟨4, 24, (some [.int .i64 0, .int .i64 0, .bool false, .int .u8 0]), .struct, [(0, 2), (1, 3), (2, 4), (3, 6)], 0, 0, (some [(.int .i64), (.int .i64), .bool, (.int .u8)])⟩) (.node (.node (.node .nil (some ⟨1, 8, (some [.nilf]), .other, [], 0, 0, none⟩) .nil) (some ⟨1, 8, (some [.nilf]), .other, [], 0, 0, none⟩) .nil) (some ⟨7, 104, (some [.int .i64 0, .str [], .nils, .bool false, .bool false, .nils, .nils]), .struct, [(0, 3), (1, 9), (2, 22), (3, 4), (4, 4), (5, 23), (6, 23)], 0, 0, (some [(.int .i64), .string, .slice, .bool, .bool, .slice, .slice])⟩) (.node (.node .nil (some ⟨1, 8, (some [.nilf]), .other, [], 0, 0, none⟩) .nil) (some ⟨1, 8, (some [.nilf]), .other, [], 0, 0, none⟩) .nil))) (some ⟨1, 1, (some [.bool false]), .bool, [], 0, 0, none⟩) (.node (.node (.node (.node .nil (some ⟨1, 8, (some [.nilf]), .other, [], 0, 0, none⟩) .nil) (some ⟨4, 24, (some [.int .i64 0, .int .i64 0, .bool false, .bool false]), .struct, [(0, 3), (1, 3), (2, 4), (3, 4)], 0, 0, (some [(.int .i64), (.int .i64), .bool, .bool])⟩) .nil) (some ⟨1, 16, (some [.nili]), .iface, [], 0, 0, none⟩) (.node (.node .nil (some ⟨4, 40, (some [.nilp, .nilp, .nilp, .str []]), .struct, [(0, 17), (1, 17), (2, 17), (3, 9)], 0, 0, none⟩) .nil) (some ⟨1, 8, (some [.nilf]), .other, [], 0, 0, none⟩) .nil)) (some ⟨1, 8, (some [.int .u64 0]), .int .u64, [], 0, 0, none⟩) (.node (.node (.node .nil (some ⟨1, 8, (some [.nilf]), .other, [], 0, 0, none⟩) .nil) (some ⟨1, 8, (some [.nilf]), .other, [], 0, 0, none⟩) .nil) (some ⟨1, 8, (some [.nilf]), .other, [], 0, 0, none⟩) (.node (.node .nil (some ⟨1, 8, (some [.nilf]), .other, [], 0, 0, none⟩) .nil) (some ⟨1, 8, (some [.nilf]), .other, [], 0, 0, none⟩) .nil)))) (some ⟨1, 8, (some [.int .i64 0]), .int .i64, [], 0, 0, none⟩) (.node (.node (.node (.node (.node .nil (some ⟨1, 8, (some [.nilf]), .other, [], 0, 0, none⟩) .nil) (some ⟨1, 8, (some [.nilf]), .other, [], 0, 0, none⟩) (.node .nil (some ⟨1, 8, (some [.nilp]), .other, [], 0, 0, none⟩) .nil)) (some ⟨1, 8, (some [.nilp]), .struct, [(0, 17)], 0, 0, none⟩) (.node (.node .nil (some ⟨1, 8, (some [.nilf]), .other, [], 0, 0, none⟩) .nil) (some ⟨1, 24, (some [.nils]), .slice, [], 4, 0, none⟩) .nil)) (some ⟨1, 16, (some [.str []]), .string, [], 0, 0, none⟩) (.node (.node (.node .nil (some ⟨1, 8, (some [.nilf]), .other, [], 0, 0, none⟩) .nil) (some ⟨1, 8, (some [.nilf]), .other, [], 0, 0, none⟩) .nil) (some ⟨1, 8, (some [.nilf]), .other, [], 0, 0, none⟩) (.node (.node .nil (some ⟨1, 1, (some [.int .u8 0]), .int .u8, [], 0, 0, none⟩) .nil) (some ⟨1, 8, (some [.nilf]), .other, [], 0, 0, none⟩) .nil))) (some ⟨1, 1, (some [.int .u8 0]), .int .u8, [], 0, 0, none⟩) (.node (.node (.node (.node .nil (some ⟨1, 8, (some [.nilf]), .other, [], 0, 0, none⟩) .nil) (some ⟨1, 24, (some [.nils]), .slice, [], 47, 0, none⟩) .nil) (some ⟨1, 24, (some [.nils]), .slice, [], 25, 0, none⟩) (.node (.node .nil (some ⟨0, 0, (some []), .struct, [(0, 85)], 0, 0, none⟩) .nil) (some ⟨1, 8, (some [.nilf]), .other, [], 0, 0, none⟩) .nil)) (some ⟨2, 24, (some [.str [], .int .u64 0]), .struct, [(0, 9), (1, 12)], 0, 0, none⟩) (.node (.node (.node .nil (some ⟨1, 8, (some [.nilf]), .other, [], 0, 0, none⟩) .nil) (some ⟨3, 32, (some [.int .i64 0, .str [], .int .i64 0]), .struct, [(0, 3), (1, 9), (2, 3)], 0, 0, (some [(.int .i64), .string, (.int .i64)])⟩) .nil) (some ⟨1, 8, (some [.nilf]), .other, [], 0, 0, none⟩) (.node (.node .nil (some ⟨1, 4, (some [.int .i32 0]), .int .i32, [], 0, 0, none⟩) .nil) (some ⟨1, 24, (some [.nils]), .slice, [], 3, 0, none⟩) .nil))))))
theorem tyOk : tyT.allB (tiOk Try.prog) id = true := by decide +kernel
def cx : Cx := ⟨tyT.get⟩
theorem cxTi : ∀ t i, cx.ti t = some i → mkTi Try.prog t = some i := fun t i h => tiOk_eq (PT.allB_get tyT id tyOk t i h)
theorem cxOrd : Try.prog.follows .mixedOrders = true := by decide +kernel
end
end Go.Proofs.Ytbmijiibfaacmaa.Am
set_option linter.unusedVariables false
namespace Go.Proofs.Ytbmijiibfaacmaa.Am
open Go
structure S7 where
 f0 : Int
 f1 : Int
 f2 : Bool
 f3 : Int
structure S36 where
 f0 : Int
 f1 : Int
 f2 : Bool
 f3 : Bool
structure S46 where
 f0 : Int
 f1 : (List Nat)
 f2 : Int
def e2 (x : Int) : List AV := [.int .i64 x]
def v2 (x : Int) : AV := .int .i64 x
def e3 (x : Int) : List AV := [.int .i64 x]
theorem e3_len : ∀ x, (e3 x).length = 1 := fun _ => rfl
def e4 (x : Bool) : List AV := [.bool x]
theorem e4_len : ∀ x, (e4 x).length = 1 := fun _ => rfl
def e5 (x : Int) : List AV := [.int .u8 x]
def e6 (x : Int) : List AV := [.int .u8 x]
def e7 (x : S7) : List AV := [.int .i64 x.f0, .int .i64 x.f1, .bool x.f2, .int .u8 x.f3]
def e8 (x : S7) : List AV := [.int .i64 x.f0, .int .i64 x.f1, .bool x.f2, .int .u8 x.f3]
def e9 (x : (List Nat)) : List AV := [.str x]
theorem e9_len : ∀ x, (e9 x).length = 1 := fun _ => rfl
def e37 (x : S36) : List AV := [.int .i64 x.f0, .int .i64 x.f1, .bool x.f2, .bool x.f3]
theorem e37_len : ∀ x, (e37 x).length = 4 := fun _ => rfl
theorem e37_pur : ∀ x, purs (e37 x) = true := fun _ => rfl
theorem e37_one : ∀ x, (e37 x).all one1 = true := fun _ => rfl
def e47 (x : S46) : List AV := [.int .i64 x.f0, .str x.f1, .int .i64 x.f2]
theorem e47_len : ∀ x, (e47 x).length = 3 := fun _ => rfl
theorem e47_pur : ∀ x, purs (e47 x) = true := fun _ => rfl
theorem e47_one : ∀ x, (e47 x).all one1 = true := fun _ => rfl
end Go.Proofs.Ytbmijiibfaacmaa.Am
set_option linter.unusedVariables false
namespace Go.Proofs.Ytbmijiibfaacmaa.Am
open Go
theorem fw64 (n : Int) (h1 : -9223372036854775808 ≤ n) (h2 : n ≤ 9223372036854775807) : fW .i64 n = n := by
 have h1 : lo .i64 ≤ n := h1
 have h2 : n ≤ hi .i64 := h2
 unfold fW
 rw [if_pos (by simp [h1, h2])]
theorem andI64 (x : Int) (m : Nat) (hm : m ≤ 62) : andI .i64 x ((2 ^ m - 1 : Nat) : Int) = x % ((2 ^ m : Nat) : Int) := by
 have hp : 2 ^ m ≤ 2 ^ 62 := Nat.pow_le_pow_right (by decide) hm
 have h0 : 0 < 2 ^ m := Nat.two_pow_pos m
 have e1 : (BitVec.ofInt 64 x).toNat = (x % 18446744073709551616).toNat := by rw [BitVec.toNat_ofInt]; rfl
 have e2 : (BitVec.ofInt 64 ((2 ^ m - 1 : Nat) : Int)).toNat = 2 ^ m - 1 := by
  rw [BitVec.toNat_ofInt]
  omega
 have e3 : (((BitVec.ofInt 64 x &&& BitVec.ofInt 64 ((2 ^ m - 1 : Nat) : Int)).toNat : Nat) : Int) = x % ((2 ^ m : Nat) : Int) := by
  rw [BitVec.toNat_and, e1, e2, Nat.and_two_pow_sub_one_eq_mod]
  have h1 : 0 ≤ x % 18446744073709551616 := Int.emod_nonneg _ (by decide)
  have h2 : (((x % 18446744073709551616).toNat : Nat) : Int) = x % 18446744073709551616 := by omega
  rw [Int.natCast_emod, h2]
  refine Int.emod_emod_of_dvd x ?_
  have : (2 : Nat) ^ m ∣ 2 ^ 64 := Nat.pow_dvd_pow 2 (by omega)
  have := Int.natCast_dvd_natCast.2 this
  exact this
 unfold andI
 show fW .i64 (((BitVec.ofInt 64 x &&& BitVec.ofInt 64 ((2 ^ m - 1 : Nat) : Int)).toNat : Nat) : Int) = _
 rw [e3]
 have h3 : 0 ≤ x % ((2 ^ m : Nat) : Int) := Int.emod_nonneg _ (by omega)
 have h4 : x % ((2 ^ m : Nat) : Int) < ((2 ^ m : Nat) : Int) := Int.emod_lt_of_pos _ (by omega)
 exact fw64 _ (by omega) (by omega)
end Go.Proofs.Ytbmijiibfaacmaa.Am
set_option linter.unusedVariables false
set_option linter.unusedSimpArgs false
namespace Go.Proofs.Ytbmijiibfaacmaa.Am
open Go
theorem dT {p : Prop} [Decidable p] (h : p) : decide p = true := decide_eq_true h
theorem dF {p : Prop} [Decidable p] (h : ¬ p) : decide p = false := decide_eq_false h
theorem fwI {n : Int} (h1 : -9223372036854775808 ≤ n) (h2 : n ≤ 9223372036854775807) : fW .i64 n = n := fw64 n h1 h2
theorem sn {x y : Nat} (h : x = y) : some (x : Int) = some (y : Int) := by rw [h]
theorem bS {α β : Type} {x : Option α} {a : α} {f : α → Option β} {r : Option β} (h : x = some a) (k : f a = r) : x.bind f = r := by rw [h]; exact k
theorem jS {α β : Type} {f : α → Option β} {g : (α → Option β) → Option β} {v : α} (h : ∀ j : α → Option β, g j = j v) : jn f g = f v := h f
theorem jC {α β : Type} {f : α → Option β} {g : (α → Option β) → Option β} {r : Option β} (h : ∀ j : α → Option β, g j = r) : jn f g = r := h f
theorem iT {α : Type} {c : Bool} {A B r : α} (h : c = true) (k : A = r) : (if c then A else B) = r := by rw [h]; exact k
theorem iF {α : Type} {c : Bool} {A B r : α} (h : c = false) (k : B = r) : (if c then A else B) = r := by rw [h]; exact k
theorem fw_s {n : Nat} (h : n < 300000000000000) : fW .i64 ((n : Int) + 1) = ((n + 1 : Nat) : Int) := by rw [fwI (by omega) (by omega)]; omega
theorem fw_a {n m : Nat} (h : n < 300000000000000) (h2 : m < 300000000000000) : fW .i64 ((n : Int) + (m : Int)) = ((n + m : Nat) : Int) := by rw [fwI (by omega) (by omega)]; omega
theorem fw_d {n m : Nat} (h : m ≤ n) (h2 : n < 300000000000000) : fW .i64 ((n : Int) - (m : Int)) = ((n - m : Nat) : Int) := by rw [fwI (by omega) (by omega)]; omega
theorem fw_p {n : Nat} (h2 : n < 300000000000000) : fW .i64 (((n + 1 : Nat) : Int) - 1) = (n : Int) := by rw [fwI (by omega) (by omega)]; omega
theorem gsL : (∀ (p : Prop) [Decidable p], p → decide p = true) ∧ (∀ (p : Prop) [Decidable p], ¬ p → decide p = false) ∧ (∀ n : Int, -9223372036854775808 ≤ n → n ≤ 9223372036854775807 → fW .i64 n = n) ∧
 (∀ (α β : Type) (a : α) (f : α → Option β), (some a).bind f = f a) ∧ (∀ (α : Type) (a b : α), (if True then a else b) = a) ∧ (∀ (α : Type) (a b : α), (if False then a else b) = b) ∧ (∀ (α : Type) (a : α), (a = a) = True) ∧ ((false = true) = False) ∧ ((!true) = false) ∧ ((!false) = true) ∧ (decide True = true) ∧ (decide False = false) ∧
 (∀ b, (true && b) = b) ∧ (∀ b, (b && true) = b) ∧ (∀ b, (false && b) = false) ∧ (∀ b, (b && false) = false) ∧ (∀ b, (true || b) = true) ∧ (∀ b, (b || true) = true) ∧ (∀ b, (false || b) = b) ∧ (∀ b, (b || false) = b) ∧
 (∀ p : Prop, (p ∧ p) = p) ∧ (∀ p : Prop, (p ∧ True) = p) ∧ (∀ p : Prop, (True ∧ p) = p) ∧ (∀ p : Prop, (p ∧ False) = False) ∧ (∀ p : Prop, (False ∧ p) = False) := by
 refine ⟨fun p _ h => dT h, fun p _ h => dF h, fun n h1 h2 => fwI h1 h2, fun _ _ _ _ => rfl, ?_, ?_, ?_, ?_, rfl, rfl, rfl, rfl, ?_, ?_, ?_, ?_, ?_, ?_, ?_, ?_, ?_, ?_, ?_, ?_, ?_⟩ <;> simp
theorem byteAll {f : Nat → Bool} (h : ((List.range 256).all f) = true) {c : Nat} (hc : c < 256) : f c = true := List.all_eq_true.1 h c (List.mem_range.2 hc)
abbrev By (s : List Nat) : Prop := ∀ b ∈ s, b < 256
abbrev Sz (s : List Nat) : Prop := s.length ≤ 140737488351232
theorem By.drop {s : List Nat} (h : By s) (n : Nat) : By (s.drop n) := fun b hb => h b (List.mem_of_mem_drop hb)
theorem By.take {s : List Nat} (h : By s) (n : Nat) : By (s.take n) := fun b hb => h b (List.mem_of_mem_take hb)
theorem By.tail {c : Nat} {r : List Nat} (h : By (c :: r)) : By r := fun b hb => h b (List.mem_cons_of_mem _ hb)
theorem dcons {s : List Nat} {i : Nat} (h : i < s.length) : ∃ b r, s.drop i = b :: r ∧ s.drop (i + 1) = r ∧ b ∈ s ∧ r.length + i + 1 = s.length := by
 refine ⟨s[i], s.drop (i + 1), List.drop_eq_getElem_cons h, rfl, List.getElem_mem h, ?_⟩
 rw [List.length_drop]; omega
theorem dnil {s : List Nat} {i : Nat} (h : s.length ≤ i) : s.drop i = [] := List.drop_eq_nil_of_le h
theorem nthX {s : List Nat} {x : Int} {i b : Nat} {r : List Nat} (hx : x = (i : Int)) (h : s.drop i = b :: r) : nthS s x = some (b : Int) := by
 subst hx
 have e : s[i]? = some b := by
  have := List.getElem?_drop (xs := s) (i := i) (j := 0)
  rw [h] at this
  simpa using this.symm
 unfold nthS
 rw [if_pos (by omega)]
 simp [e]
theorem subTo {s : List Nat} {x : Int} {i : Nat} (hx : x = (i : Int)) (h : i ≤ s.length) : subL s none (some x) = some (s.take i) := by
 subst hx; unfold subL bnd; simp [h]
theorem subMid {s : List Nat} {x y : Int} {i j : Nat} (hx : x = (i : Int)) (hy : y = (j : Int)) (h1 : i ≤ j) (h2 : j ≤ s.length) : subL s (some x) (some y) = some ((s.take j).drop i) := by
 subst hx hy; unfold subL bnd; simp [h1, h2]
theorem drop_step {s : List Nat} {i c : Nat} {r : List Nat} (h : s.drop i = c :: r) : s.drop (i + 1) = r := by
 rw [← List.drop_drop, h]; rfl
theorem drop_len {s : List Nat} {i c : Nat} {r : List Nat} (h : s.drop i = c :: r) : r.length + i + 1 = s.length := by
 have := congrArg List.length h
 rw [List.length_drop, List.length_cons] at this; omega
theorem drop_mem {s : List Nat} {i c : Nat} {r : List Nat} (h : s.drop i = c :: r) : c ∈ s := List.mem_of_mem_drop (i := i) (by rw [h]; exact List.mem_cons_self)
end Go.Proofs.Ytbmijiibfaacmaa.Am
set_option maxRecDepth 100000
set_option linter.unusedVariables false
namespace Go.Proofs.Ytbmijiibfaacmaa.Am
noncomputable section
open Go
def X71 : Fx Bool := ⟨Try.prog, cx, Try.f71, fun r => .bool r, 0, fun _ => H0, cxTi, cxOrd⟩
def g71p0 : Pt := nav [0] (bodyAt Try.f71)
def g71p1 : Pt := nav [0, 0, 0] g71p0
def g71 (k : Nat) (a0 : Int) : Option Bool :=
 if (decide (48 ≤ a0)) then (some (decide (a0 ≤ 57))) else (some false)
theorem g71_ok (k : Nat) (a0 : Int) (r : Bool) (h : g71 k a0 = some r) : PureOk Try.prog 71 [.int .u8 a0] (.bool r) := by
 refine pure_of X71 (fun _ => rfl) Try.func71 (by decide +kernel) (by kernel_rfl) (t := g71 k a0) ?_ h
 unfold g71
 refine oE (eE := [(0, .int .u8 a0)]) (by kernel_rfl) ?_
 let E1 : Env := [(5, .bool (decide (48 ≤ a0))), (4, .bool (decide (48 ≤ a0))), (3, .int .u8 a0), (2, .bool false), (0, .int .u8 a0)]
 refine oR 9 (p' := (atN 3 (ctl1 g71p1))) (eE := E1) (H' := (mkH [])) (by kernel_rfl) ?_
 refine oS 5 (b := decide (48 ≤ a0)) (by kernel_rfl) (fun hb => ?_) (fun hb => ?_)
 ·let E2 : Env := ((2, .bool (decide (a0 ≤ 57))) :: (8, .bool (decide (a0 ≤ 57))) :: (7, .bool (decide (a0 ≤ 57))) :: (6, .int .u8 a0) :: (5, .bool true) :: E1)
  refine oR 6 (p' := .fin) (eE := E2) (H' := (mkH [])) (by kernel_rfl) ?_
  exact oT (r := (decide (a0 ≤ 57))) (xs := [.bool (decide (a0 ≤ 57))]) (v := .bool (decide (a0 ≤ 57))) (by kernel_rfl) (by kernel_rfl) (by kernel_rfl) (.pures (by kernel_rfl)) (by kernel_rfl)
 ·let E3 : Env := ((2, .bool false) :: (8, .bool false) :: (7, .tuple []) :: (6, .tuple []) :: (5, .bool false) :: E1)
  refine oR 6 (p' := .fin) (eE := E3) (H' := (mkH [])) (by kernel_rfl) ?_
  exact oT (r := false) (xs := [.bool false]) (v := .bool false) (by kernel_rfl) (by kernel_rfl) (by kernel_rfl) (.pures (by kernel_rfl)) (by kernel_rfl)
end
end Go.Proofs.Ytbmijiibfaacmaa.Am
set_option maxRecDepth 100000
set_option linter.unusedVariables false
namespace Go.Proofs.Ytbmijiibfaacmaa.Am
noncomputable section
open Go
def X58 : Fx Int := ⟨Try.prog, cx, Try.f58, fun r => .int .i64 r, 0, fun _ => H0, cxTi, cxOrd⟩
def g58p0 : Pt := nav [0] (bodyAt Try.f58)
def g58p1 : Pt := nav [0, 0, 0, 0, 0] g58p0
def g58p2 : Pt := nav [0, 0] g58p1
def g58p4 : Pt := nav [2, 0] g58p2
def g58p6 : Pt := nav [0, 0] g58p4
def g58p8 : Pt := nav [2, 0] g58p6
def g58p9 : Pt := nav [0, 0] g58p8
def g58 (k : Nat) (a0 : Int) : Option Int :=
 jn (fun (z1 : Bool) => if z1 then (some (1 : Int)) else (jn (fun (z2 : Bool) => if z2 then (some (2 : Int)) else ((g71 k a0).bind fun x0_1 => if x0_1 then (some (3 : Int)) else (some (0 : Int)))) (fun j2 => if (decide (65 ≤ a0)) then (if (decide (a0 ≤ 90)) then (j2 true) else (j2 (decide (a0 = 95)))) else (j2 (decide (a0 = 95)))))) (fun j1 => if (decide (97 ≤ a0)) then (j1 (decide (a0 ≤ 122))) else (j1 false))
theorem g58_ok (k : Nat) (a0 : Int) (r : Int) (h : g58 k a0 = some r) : PureOk Try.prog 58 [.int .u8 a0] (.int .i64 r) := by
 refine pure_of X58 (fun _ => rfl) Try.func58 (by decide +kernel) (by kernel_rfl) (t := g58 k a0) ?_ h
 unfold g58
 refine oE (eE := [(0, .int .u8 a0)]) (by kernel_rfl) ?_
 let E1 : Env := [(6, .bool (decide (97 ≤ a0))), (5, .bool (decide (97 ≤ a0))), (4, .int .u8 a0), (2, .int .i64 0), (0, .int .u8 a0)]
 refine oR 11 (p' := (atN 3 (ctl1 g58p1))) (eE := E1) (H' := (mkH [])) (by kernel_rfl) ?_
 refine oJ (f := fun (z1 : Bool) => if z1 then (some (1 : Int)) else (jn (fun (z2 : Bool) => if z2 then (some (2 : Int)) else ((g71 k a0).bind fun x0_1 => if x0_1 then (some (3 : Int)) else (some (0 : Int)))) (fun j2 => if (decide (65 ≤ a0)) then (if (decide (a0 ≤ 90)) then (j2 true) else (j2 (decide (a0 = 95)))) else (j2 (decide (a0 = 95)))))) g58p2 (fun (z1 : Bool) => [(0, .int .u8 a0), (3, .bool z1)]) (fun (z1 : Bool) => (mkH [])) (fun z1 => ?_) (fun j1 hj1 => ?_)
 ·refine oS 3 (b := z1) (by kernel_rfl) (fun hb => ?_) (fun hb => ?_)
  ·refine oR 6 (p' := .fin) (eE := [(2, .int .i64 1), (3, .bool true), (0, .int .u8 a0), (3, .bool z1)]) (H' := (mkH [])) (by kernel_rfl) ?_
   exact oT (r := (1 : Int)) (xs := [.int .i64 1]) (v := .int .i64 1) (by kernel_rfl) (by kernel_rfl) (by kernel_rfl) (.pures (by kernel_rfl)) (by kernel_rfl)
  ·let E2 : Env := [(13, .bool (decide (65 ≤ a0))), (12, .bool (decide (65 ≤ a0))), (11, .int .u8 a0), (3, .bool false), (0, .int .u8 a0), (3, .bool z1)]
   refine oR 6 (p' := (atN 3 (ctl1 g58p4))) (eE := E2) (H' := (mkH [])) (by kernel_rfl) ?_
   refine oJ (f := fun (z2 : Bool) => if z2 then (some (2 : Int)) else ((g71 k a0).bind fun x0_1 => if x0_1 then (some (3 : Int)) else (some (0 : Int)))) g58p6 (fun (z2 : Bool) => [(0, .int .u8 a0), (10, .bool z2)]) (fun (z2 : Bool) => (mkH [])) (fun z2 => ?_) (fun j2 hj2 => ?_)
   ·refine oS 10 (b := z2) (by kernel_rfl) (fun hb => ?_) (fun hb => ?_)
    ·refine oR 6 (p' := .fin) (eE := [(2, .int .i64 2), (10, .bool true), (0, .int .u8 a0), (10, .bool z2)]) (H' := (mkH [])) (by kernel_rfl) ?_
     exact oT (r := (2 : Int)) (xs := [.int .i64 2]) (v := .int .i64 2) (by kernel_rfl) (by kernel_rfl) (by kernel_rfl) (.pures (by kernel_rfl)) (by kernel_rfl)
    ·refine oR 4 (p' := (atN 1 (ctl1 g58p8))) (eE := [(22, .int .u8 a0), (10, .bool false), (0, .int .u8 a0), (10, .bool z2)]) (H' := (mkH [])) (by kernel_rfl) ?_
     refine oC (fun (x0_1 : Bool) => .bool x0_1) (atN 2 (ctl1 g58p8)) (fun x0_1 => [(23, .bool x0_1), (22, .int .u8 a0), (10, .bool false), (0, .int .u8 a0), (10, .bool z2)]) (fi := 71) (args := [.int .u8 a0]) (by kernel_rfl) (by kernel_rfl) (fun _ => by kernel_rfl) (fun r h => g71_ok k a0 r h) (fun _ => by kernel_rfl) (fun x0_1 hx0_1 => ?_)
     let E3 : Env := [(21, .bool x0_1), (23, .bool x0_1), (22, .int .u8 a0), (10, .bool false), (0, .int .u8 a0), (10, .bool z2)]
     refine oR 2 (p' := g58p9) (eE := E3) (H' := (mkH [])) (by kernel_rfl) ?_
     refine oS 21 (b := x0_1) (by kernel_rfl) (fun hb => ?_) (fun hb => ?_)
     ·refine oR 6 (p' := .fin) (eE := ((2, .int .i64 3) :: (21, .bool true) :: E3)) (H' := (mkH [])) (by kernel_rfl) ?_
      exact oT (r := (3 : Int)) (xs := [.int .i64 3]) (v := .int .i64 3) (by kernel_rfl) (by kernel_rfl) (by kernel_rfl) (.pures (by kernel_rfl)) (by kernel_rfl)
     ·refine oR 7 (p' := .fin) (eE := ((2, .int .i64 0) :: (21, .bool false) :: E3)) (H' := (mkH [])) (by kernel_rfl) ?_
      exact oT (r := (0 : Int)) (xs := [.int .i64 0]) (v := .int .i64 0) (by kernel_rfl) (by kernel_rfl) (by kernel_rfl) (.pures (by kernel_rfl)) (by kernel_rfl)
   ·refine oS 13 (b := decide (65 ≤ a0)) (by kernel_rfl) (fun hb => ?_) (fun hb => ?_)
    ·let E4 : Env := ((17, .bool (decide (a0 ≤ 90))) :: (16, .bool (decide (a0 ≤ 90))) :: (15, .bool (decide (a0 ≤ 90))) :: (14, .int .u8 a0) :: (13, .bool true) :: E2)
     refine oR 4 (p' := (atN 7 (ctl1 g58p4))) (eE := E4) (H' := (mkH [])) (by kernel_rfl) ?_
     refine oS 17 (b := decide (a0 ≤ 90)) (by kernel_rfl) (fun hb => ?_) (fun hb => ?_)
     ·let E5 : Env := ((10, .bool true) :: (20, .bool true) :: (19, .tuple []) :: (18, .tuple []) :: (17, .bool true) :: E4)
      refine oR 5 (p' := g58p6) (eE := E5) (H' := (mkH [])) (by kernel_rfl) ?_
      refine oK [0, 10] (eE := [(0, .int .u8 a0), (10, .bool true)]) (by kernel_rfl) ?_
      exact hj2 true
     ·let E6 : Env := ((10, .bool (decide (a0 = 95))) :: (20, .bool (decide (a0 = 95))) :: (19, .bool (decide (a0 = 95))) :: (18, .int .u8 a0) :: (17, .bool false) :: E4)
      refine oR 5 (p' := g58p6) (eE := E6) (H' := (mkH [])) (by kernel_rfl) ?_
      refine oK [0, 10] (eE := [(0, .int .u8 a0), (10, .bool (decide (a0 = 95)))]) (by kernel_rfl) ?_
      exact hj2 (decide (a0 = 95))
    ·let E7 : Env := ((10, .bool (decide (a0 = 95))) :: (20, .bool (decide (a0 = 95))) :: (19, .bool (decide (a0 = 95))) :: (18, .int .u8 a0) :: (17, .bool false) :: (16, .bool false) :: (15, .tuple []) :: (14, .tuple []) :: (13, .bool false) :: E2)
     refine oR 9 (p' := g58p6) (eE := E7) (H' := (mkH [])) (by kernel_rfl) ?_
     refine oK [0, 10] (eE := [(0, .int .u8 a0), (10, .bool (decide (a0 = 95)))]) (by kernel_rfl) ?_
     exact hj2 (decide (a0 = 95))
 ·refine oS 6 (b := decide (97 ≤ a0)) (by kernel_rfl) (fun hb => ?_) (fun hb => ?_)
  ·let E8 : Env := ((3, .bool (decide (a0 ≤ 122))) :: (9, .bool (decide (a0 ≤ 122))) :: (8, .bool (decide (a0 ≤ 122))) :: (7, .int .u8 a0) :: (6, .bool true) :: E1)
   refine oR 5 (p' := g58p2) (eE := E8) (H' := (mkH [])) (by kernel_rfl) ?_
   refine oK [0, 3] (eE := [(0, .int .u8 a0), (3, .bool (decide (a0 ≤ 122)))]) (by kernel_rfl) ?_
   exact hj1 (decide (a0 ≤ 122))
  ·let E9 : Env := ((3, .bool false) :: (9, .bool false) :: (8, .tuple []) :: (7, .tuple []) :: (6, .bool false) :: E1)
   refine oR 5 (p' := g58p2) (eE := E9) (H' := (mkH [])) (by kernel_rfl) ?_
   refine oK [0, 3] (eE := [(0, .int .u8 a0), (3, .bool false)]) (by kernel_rfl) ?_
   exact hj1 false
end
end Go.Proofs.Ytbmijiibfaacmaa.Am
set_option maxRecDepth 100000
set_option linter.unusedVariables false
namespace Go.Proofs.Ytbmijiibfaacmaa.Am
noncomputable section
open Go
def X64 : Fx Bool := ⟨Try.prog, cx, Try.f64, fun r => .bool r, 0, fun _ => H0, cxTi, cxOrd⟩
def g64p0 : Pt := nav [0] (bodyAt Try.f64)
def g64p1 : Pt := nav [0, 0, 0] g64p0
def g64 (k : Nat) (a0 : Int) : Option Bool :=
 if (decide (97 ≤ a0)) then (if (decide (a0 ≤ 122)) then (some true) else (if (decide (65 ≤ a0)) then (some (decide (a0 ≤ 90))) else (some false))) else (if (decide (65 ≤ a0)) then (some (decide (a0 ≤ 90))) else (some false))
theorem g64_ok (k : Nat) (a0 : Int) (r : Bool) (h : g64 k a0 = some r) : PureOk Try.prog 64 [.int .u8 a0] (.bool r) := by
 refine pure_of X64 (fun _ => rfl) Try.func64 (by decide +kernel) (by kernel_rfl) (t := g64 k a0) ?_ h
 unfold g64
 refine oE (eE := [(0, .int .u8 a0)]) (by kernel_rfl) ?_
 let E1 : Env := [(5, .bool (decide (97 ≤ a0))), (4, .bool (decide (97 ≤ a0))), (3, .int .u8 a0), (2, .bool false), (0, .int .u8 a0)]
 refine oR 9 (p' := (atN 3 (ctl1 g64p1))) (eE := E1) (H' := (mkH [])) (by kernel_rfl) ?_
 refine oS 5 (b := decide (97 ≤ a0)) (by kernel_rfl) (fun hb => ?_) (fun hb => ?_)
 ·let E2 : Env := ((9, .bool (decide (a0 ≤ 122))) :: (8, .bool (decide (a0 ≤ 122))) :: (7, .bool (decide (a0 ≤ 122))) :: (6, .int .u8 a0) :: (5, .bool true) :: E1)
  refine oR 4 (p' := (atN 7 (ctl1 g64p1))) (eE := E2) (H' := (mkH [])) (by kernel_rfl) ?_
  refine oS 9 (b := decide (a0 ≤ 122)) (by kernel_rfl) (fun hb => ?_) (fun hb => ?_)
  ·let E3 : Env := ((2, .bool true) :: (16, .bool true) :: (15, .tuple []) :: (14, .tuple []) :: (13, .tuple []) :: (12, .tuple []) :: (11, .tuple []) :: (10, .tuple []) :: (9, .bool true) :: E2)
   refine oR 10 (p' := .fin) (eE := E3) (H' := (mkH [])) (by kernel_rfl) ?_
   exact oT (r := true) (xs := [.bool true]) (v := .bool true) (by kernel_rfl) (by kernel_rfl) (by kernel_rfl) (.pures (by kernel_rfl)) (by kernel_rfl)
  ·refine oR 3 (p' := (atN 10 (ctl1 g64p1))) (eE := ((12, .bool (decide (65 ≤ a0))) :: (11, .bool (decide (65 ≤ a0))) :: (10, .int .u8 a0) :: (9, .bool false) :: E2)) (H' := (mkH [])) (by kernel_rfl) ?_
   refine oS 12 (b := decide (65 ≤ a0)) (by kernel_rfl) (fun hb => ?_) (fun hb => ?_)
   ·let E4 : Env := ((2, .bool (decide (a0 ≤ 90))) :: (16, .bool (decide (a0 ≤ 90))) :: (15, .bool (decide (a0 ≤ 90))) :: (14, .bool (decide (a0 ≤ 90))) :: (13, .int .u8 a0) :: (12, .bool true) :: (12, .bool (decide (65 ≤ a0))) :: (11, .bool (decide (65 ≤ a0))) :: (10, .int .u8 a0) :: (9, .bool false) :: E2)
    refine oR 7 (p' := .fin) (eE := E4) (H' := (mkH [])) (by kernel_rfl) ?_
    exact oT (r := (decide (a0 ≤ 90))) (xs := [.bool (decide (a0 ≤ 90))]) (v := .bool (decide (a0 ≤ 90))) (by kernel_rfl) (by kernel_rfl) (by kernel_rfl) (.pures (by kernel_rfl)) (by kernel_rfl)
   ·let E5 : Env := ((2, .bool false) :: (16, .bool false) :: (15, .bool false) :: (14, .tuple []) :: (13, .tuple []) :: (12, .bool false) :: (12, .bool (decide (65 ≤ a0))) :: (11, .bool (decide (65 ≤ a0))) :: (10, .int .u8 a0) :: (9, .bool false) :: E2)
    refine oR 7 (p' := .fin) (eE := E5) (H' := (mkH [])) (by kernel_rfl) ?_
    exact oT (r := false) (xs := [.bool false]) (v := .bool false) (by kernel_rfl) (by kernel_rfl) (by kernel_rfl) (.pures (by kernel_rfl)) (by kernel_rfl)
 ·let E6 : Env := ((12, .bool (decide (65 ≤ a0))) :: (11, .bool (decide (65 ≤ a0))) :: (10, .int .u8 a0) :: (9, .bool false) :: (8, .bool false) :: (7, .tuple []) :: (6, .tuple []) :: (5, .bool false) :: E1)
  refine oR 7 (p' := (atN 10 (ctl1 g64p1))) (eE := E6) (H' := (mkH [])) (by kernel_rfl) ?_
  refine oS 12 (b := decide (65 ≤ a0)) (by kernel_rfl) (fun hb => ?_) (fun hb => ?_)
  ·let E7 : Env := ((2, .bool (decide (a0 ≤ 90))) :: (16, .bool (decide (a0 ≤ 90))) :: (15, .bool (decide (a0 ≤ 90))) :: (14, .bool (decide (a0 ≤ 90))) :: (13, .int .u8 a0) :: (12, .bool true) :: E6)
   refine oR 7 (p' := .fin) (eE := E7) (H' := (mkH [])) (by kernel_rfl) ?_
   exact oT (r := (decide (a0 ≤ 90))) (xs := [.bool (decide (a0 ≤ 90))]) (v := .bool (decide (a0 ≤ 90))) (by kernel_rfl) (by kernel_rfl) (by kernel_rfl) (.pures (by kernel_rfl)) (by kernel_rfl)
  ·let E8 : Env := ((2, .bool false) :: (16, .bool false) :: (15, .bool false) :: (14, .tuple []) :: (13, .tuple []) :: (12, .bool false) :: E6)
   refine oR 7 (p' := .fin) (eE := E8) (H' := (mkH [])) (by kernel_rfl) ?_
   exact oT (r := false) (xs := [.bool false]) (v := .bool false) (by kernel_rfl) (by kernel_rfl) (by kernel_rfl) (.pures (by kernel_rfl)) (by kernel_rfl)
end
end Go.Proofs.Ytbmijiibfaacmaa.Am
set_option maxRecDepth 100000
set_option linter.unusedVariables false
namespace Go.Proofs.Ytbmijiibfaacmaa.Am
noncomputable section
open Go
def X74 : Fx Bool := ⟨Try.prog, cx, Try.f74, fun r => .bool r, 0, fun _ => H0, cxTi, cxOrd⟩
def g74p0 : Pt := nav [0] (bodyAt Try.f74)
def g74p1 : Pt := nav [0, 0, 0] g74p0
def g74 (k : Nat) (a0 : Int) : Option Bool :=
 (g64 k a0).bind fun x0_1 => if x0_1 then (some true) else ((g71 k a0).bind fun x0_4 => if x0_4 then (some true) else (if (decide (a0 = 95)) then (some true) else (some (decide (a0 = 64)))))
theorem g74_ok (k : Nat) (a0 : Int) (r : Bool) (h : g74 k a0 = some r) : PureOk Try.prog 74 [.int .u8 a0] (.bool r) := by
 refine pure_of X74 (fun _ => rfl) Try.func74 (by decide +kernel) (by kernel_rfl) (t := g74 k a0) ?_ h
 unfold g74
 refine oE (eE := [(0, .int .u8 a0)]) (by kernel_rfl) ?_
 refine oR 7 (p' := (atN 1 (ctl1 g74p1))) (eE := [(3, .int .u8 a0), (2, .bool false), (0, .int .u8 a0)]) (H' := (mkH [])) (by kernel_rfl) ?_
 refine oC (fun (x0_1 : Bool) => .bool x0_1) (atN 2 (ctl1 g74p1)) (fun x0_1 => [(4, .bool x0_1), (3, .int .u8 a0), (2, .bool false), (0, .int .u8 a0)]) (fi := 64) (args := [.int .u8 a0]) (by kernel_rfl) (by kernel_rfl) (fun _ => by kernel_rfl) (fun r h => g64_ok k a0 r h) (fun _ => by kernel_rfl) (fun x0_1 hx0_1 => ?_)
 let E1 : Env := [(5, .bool x0_1), (4, .bool x0_1), (3, .int .u8 a0), (2, .bool false), (0, .int .u8 a0)]
 refine oR 1 (p' := (atN 3 (ctl1 g74p1))) (eE := E1) (H' := (mkH [])) (by kernel_rfl) ?_
 refine oS 5 (b := x0_1) (by kernel_rfl) (fun hb => ?_) (fun hb => ?_)
 ·let E2 : Env := ((2, .bool true) :: (16, .bool true) :: (15, .tuple []) :: (14, .tuple []) :: (13, .bool true) :: (12, .bool true) :: (11, .tuple []) :: (10, .tuple []) :: (9, .bool true) :: (8, .bool true) :: (7, .tuple []) :: (6, .tuple []) :: (5, .bool true) :: E1)
  refine oR 14 (p' := .fin) (eE := E2) (H' := (mkH [])) (by kernel_rfl) ?_
  exact oT (r := true) (xs := [.bool true]) (v := .bool true) (by kernel_rfl) (by kernel_rfl) (by kernel_rfl) (.pures (by kernel_rfl)) (by kernel_rfl)
 ·refine oR 1 (p' := (atN 4 (ctl1 g74p1))) (eE := ((6, .int .u8 a0) :: (5, .bool false) :: E1)) (H' := (mkH [])) (by kernel_rfl) ?_
  refine oC (fun (x0_4 : Bool) => .bool x0_4) (atN 5 (ctl1 g74p1)) (fun x0_4 => ((7, .bool x0_4) :: (6, .int .u8 a0) :: (5, .bool false) :: E1)) (fi := 71) (args := [.int .u8 a0]) (by kernel_rfl) (by kernel_rfl) (fun _ => by kernel_rfl) (fun r h => g71_ok k a0 r h) (fun _ => by kernel_rfl) (fun x0_4 hx0_4 => ?_)
  let E3 : Env := ((9, .bool x0_4) :: (8, .bool x0_4) :: (7, .bool x0_4) :: (6, .int .u8 a0) :: (5, .bool false) :: E1)
  refine oR 2 (p' := (atN 7 (ctl1 g74p1))) (eE := E3) (H' := (mkH [])) (by kernel_rfl) ?_
  refine oS 9 (b := x0_4) (by kernel_rfl) (fun hb => ?_) (fun hb => ?_)
  ·let E4 : Env := ((2, .bool true) :: (16, .bool true) :: (15, .tuple []) :: (14, .tuple []) :: (13, .bool true) :: (12, .bool true) :: (11, .tuple []) :: (10, .tuple []) :: (9, .bool true) :: E3)
   refine oR 10 (p' := .fin) (eE := E4) (H' := (mkH [])) (by kernel_rfl) ?_
   exact oT (r := true) (xs := [.bool true]) (v := .bool true) (by kernel_rfl) (by kernel_rfl) (by kernel_rfl) (.pures (by kernel_rfl)) (by kernel_rfl)
  ·let E5 : Env := ((13, .bool (decide (a0 = 95))) :: (12, .bool (decide (a0 = 95))) :: (11, .bool (decide (a0 = 95))) :: (10, .int .u8 a0) :: (9, .bool false) :: E3)
   refine oR 4 (p' := (atN 11 (ctl1 g74p1))) (eE := E5) (H' := (mkH [])) (by kernel_rfl) ?_
   refine oS 13 (b := decide (a0 = 95)) (by kernel_rfl) (fun hb => ?_) (fun hb => ?_)
   ·let E6 : Env := ((2, .bool true) :: (16, .bool true) :: (15, .tuple []) :: (14, .tuple []) :: (13, .bool true) :: E5)
    refine oR 6 (p' := .fin) (eE := E6) (H' := (mkH [])) (by kernel_rfl) ?_
    exact oT (r := true) (xs := [.bool true]) (v := .bool true) (by kernel_rfl) (by kernel_rfl) (by kernel_rfl) (.pures (by kernel_rfl)) (by kernel_rfl)
   ·let E7 : Env := ((2, .bool (decide (a0 = 64))) :: (16, .bool (decide (a0 = 64))) :: (15, .bool (decide (a0 = 64))) :: (14, .int .u8 a0) :: (13, .bool false) :: E5)
    refine oR 6 (p' := .fin) (eE := E7) (H' := (mkH [])) (by kernel_rfl) ?_
    exact oT (r := (decide (a0 = 64))) (xs := [.bool (decide (a0 = 64))]) (v := .bool (decide (a0 = 64))) (by kernel_rfl) (by kernel_rfl) (by kernel_rfl) (.pures (by kernel_rfl)) (by kernel_rfl)
end
end Go.Proofs.Ytbmijiibfaacmaa.Am
set_option maxRecDepth 100000
set_option linter.unusedVariables false
namespace Go.Proofs.Ytbmijiibfaacmaa.Am
noncomputable section
open Go
def X61 : Fx Bool := ⟨Try.prog, cx, Try.f61, fun r => .bool r, 0, fun _ => H0, cxTi, cxOrd⟩
def g61c0 : List Nat := [97, 102, 116, 101, 114]
def g61c1 : List Nat := [97, 110, 100, 97, 108, 115, 111]
def g61c2 : List Nat := [98, 101, 103, 105, 110]
def g61c3 : List Nat := [111, 114, 101, 108, 115, 101]
def g61c4 : List Nat := [114, 101, 99, 101, 105, 118, 101]
def g61c5 : List (List Nat) := [g61c0, ([97, 110, 100] : List Nat), g61c1, ([98, 97, 110, 100] : List Nat), g61c2, ([98, 110, 111, 116] : List Nat), ([98, 111, 114] : List Nat), ([98, 115, 108] : List Nat), ([98, 115, 114] : List Nat), ([98, 120, 111, 114] : List Nat), ([99, 97, 115, 101] : List Nat), ([99, 97, 116, 99, 104] : List Nat), ([100, 105, 118] : List Nat), ([101, 110, 100] : List Nat), ([102, 117, 110] : List Nat), ([105, 102] : List Nat), ([110, 111, 116] : List Nat), ([111, 102] : List Nat), ([111, 114] : List Nat), g61c3, g61c4, ([114, 101, 109] : List Nat), ([119, 104, 101, 110] : List Nat), ([120, 111, 114] : List Nat)]
def g61p0 : Pt := nav [0] (bodyAt Try.f61)
def g61p1 : Pt := nav [0, 0, 0] g61p0
def g61p2 : Pt := nav [0, 0, 0, 0] g61p1
def g61p3 : Pt := nav [0, 0, 0, 0] g61p2
def g61p4 : Pt := nav [0, 0, 0] g61p3
def g61p5 : Pt := nav [0, 0] g61p4
def g61p6 : Pt := nav [1, 0, 0, 0, 0] g61p5
def g61p8 : Pt := nav [0, 0] g61p6
def g61_l1 (k : Nat)  (a0 : (List Nat)) (n : Nat) : Int → Option Bool :=
 Nat.rec (motive := fun _ => Int → Option Bool) (fun _ => none) (fun _ ih => fun (y1_0 : Int) => if (decide (y1_0 < (g61c5.length : Int))) then ((nthL g61c5 y1_0).bind fun x0_2 => if (eqL x0_2 a0) then (some true) else (ih (fW .i64 (y1_0 + 1)))) else (some false)) n
theorem g61_l1_s (k : Nat)  (a0 : (List Nat)) (n : Nat) (y1_0 : Int) : g61_l1 k a0 (n + 1) y1_0 = (if (decide (y1_0 < (g61c5.length : Int))) then ((nthL g61c5 y1_0).bind fun x0_2 => if (eqL x0_2 a0) then (some true) else ((g61_l1 k a0 n) (fW .i64 (y1_0 + 1)))) else (some false)) := rfl
theorem g61_l1_ok (k : Nat)  (a0 : (List Nat))  : ∀ (n : Nat) (y1_0 : Int), Ok X61 g61p3 [(0, .str a0), (3, .vec (g61c5).length 1 ((g61c5).flatMap e9)), (4, .int .i64 y1_0)] (mkH []) (g61_l1 k a0 n y1_0)
 | 0, _ => ok_none
 | n + 1, y1_0 => by
  have ih := g61_l1_ok k a0 n
  rw [g61_l1_s]
  refine ok_ent (p' := nav [0] g61p3) (by kernel_rfl) ?_
  let E2 : Env := [(9, .bool (decide (y1_0 < (g61c5.length : Int)))), (8, .int .i64 (g61c5.length : Int)), (7, .vec (g61c5).length 1 ((g61c5).flatMap e9)), (6, .int .i64 y1_0), (0, .str a0), (3, .vec (g61c5).length 1 ((g61c5).flatMap e9)), (4, .int .i64 y1_0)]
  refine oR 8 (p' := g61p5) (eE := E2) (H' := (mkH [])) (by kernel_rfl) ?_
  refine oS 9 (b := decide (y1_0 < (g61c5.length : Int))) (by kernel_rfl) (fun hb => ?_) (fun hb => ?_)
  ·refine oR 8 (p' := (atN 2 (ctl1 g61p6))) (eE := ((13, .int .i64 y1_0) :: (12, .vec (g61c5).length 1 ((g61c5).flatMap e9)) :: (9, .bool true) :: E2)) (H' := (mkH [])) (by kernel_rfl) ?_
   refine oH (fun (x0_2 : (List Nat)) => (.vptr [.str x0_2], (mkH []))) (atN 3 (ctl1 g61p6)) (fun x0_2 => ((14, .vptr [.str x0_2]) :: (13, .int .i64 y1_0) :: (12, .vec (g61c5).length 1 ((g61c5).flatMap e9)) :: (9, .bool true) :: E2)) (vidxH (sz := 1) e9_len (by kernel_rfl)) (fun _ => by kernel_rfl) (fun x0_2 hx0_2 => ?_)
   let E3 : Env := ((17, .bool (eqL x0_2 a0)) :: (16, .str a0) :: (15, .str x0_2) :: (14, .vptr [.str x0_2]) :: (13, .int .i64 y1_0) :: (12, .vec (g61c5).length 1 ((g61c5).flatMap e9)) :: (9, .bool true) :: E2)
   refine oR 4 (p' := g61p8) (eE := E3) (H' := (mkH [])) (by kernel_rfl) ?_
   refine oK [0, 3, 4, 17] (eE := [(0, .str a0), (3, .vec (g61c5).length 1 ((g61c5).flatMap e9)), (4, .int .i64 y1_0), (17, .bool (eqL x0_2 a0))]) (by kernel_rfl) ?_
   refine oS 17 (b := eqL x0_2 a0) (by kernel_rfl) (fun hb => ?_) (fun hb => ?_)
   ·let E4 : Env := [(2, .bool true), (17, .bool true), (0, .str a0), (3, .vec (g61c5).length 1 ((g61c5).flatMap e9)), (4, .int .i64 y1_0), (17, .bool (eqL x0_2 a0))]
    refine oR 6 (p' := .fin) (eE := E4) (H' := (mkH [])) (by kernel_rfl) ?_
    exact oT (r := true) (xs := [.bool true]) (v := .bool true) (by kernel_rfl) (by kernel_rfl) (by kernel_rfl) (.pures (by kernel_rfl)) (by kernel_rfl)
   ·let E5 : Env := [(4, .int .i64 (fW .i64 (y1_0 + 1))), (11, .int .i64 (fW .i64 (y1_0 + 1))), (10, .int .i64 y1_0), (17, .bool false), (0, .str a0), (3, .vec (g61c5).length 1 ((g61c5).flatMap e9)), (4, .int .i64 y1_0), (17, .bool (eqL x0_2 a0))]
    refine oR 7 (p' := g61p3) (eE := E5) (H' := (mkH [])) (by kernel_rfl) ?_
    refine oK [0, 3, 4] (eE := [(0, .str a0), (3, .vec (g61c5).length 1 ((g61c5).flatMap e9)), (4, .int .i64 (fW .i64 (y1_0 + 1)))]) (by kernel_rfl) ?_
    exact ih (fW .i64 (y1_0 + 1))
  ·refine oR 7 (p' := .fin) (eE := ((2, .bool false) :: (9, .bool false) :: E2)) (H' := (mkH [])) (by kernel_rfl) ?_
   exact oT (r := false) (xs := [.bool false]) (v := .bool false) (by kernel_rfl) (by kernel_rfl) (by kernel_rfl) (.pures (by kernel_rfl)) (by kernel_rfl)
def g61 (k : Nat) (a0 : (List Nat)) : Option Bool :=
 g61_l1 k a0 k 0
theorem g61_ok (k : Nat) (a0 : (List Nat)) (r : Bool) (h : g61 k a0 = some r) : PureOk Try.prog 61 [.str a0] (.bool r) := by
 refine pure_of X61 (fun _ => rfl) Try.func61 (by decide +kernel) (by kernel_rfl) (t := g61 k a0) ?_ h
 unfold g61
 refine oE (eE := [(0, .str a0)]) (by kernel_rfl) ?_
 refine oR 7 (p' := (atN 1 (ctl1 g61p1))) (eE := [(5, .slice 0 24 0 24 1), (2, .bool false), (0, .str a0)]) (H' := (mkH [⟨[.str g61c0, .str [97, 110, 100], .str g61c1, .str [98, 97, 110, 100], .str g61c2, .str [98, 110, 111, 116], .str [98, 111, 114], .str [98, 115, 108], .str [98, 115, 114], .str [98, 120, 111, 114], .str [99, 97, 115, 101], .str [99, 97, 116, 99, 104], .str [100, 105, 118], .str [101, 110, 100], .str [102, 117, 110], .str [105, 102], .str [110, 111, 116], .str [111, 102], .str [111, 114], .str g61c3, .str g61c4, .str [114, 101, 109], .str [119, 104, 101, 110], .str [120, 111, 114]], 0, false⟩])) (by kernel_rfl) ?_
 refine ok_frz [⟨[.str g61c0, .str [97, 110, 100], .str g61c1, .str [98, 97, 110, 100], .str g61c2, .str [98, 110, 111, 116], .str [98, 111, 114], .str [98, 115, 108], .str [98, 115, 114], .str [98, 120, 111, 114], .str [99, 97, 115, 101], .str [99, 97, 116, 99, 104], .str [100, 105, 118], .str [101, 110, 100], .str [102, 117, 110], .str [105, 102], .str [110, 111, 116], .str [111, 102], .str [111, 114], .str g61c3, .str g61c4, .str [114, 101, 109], .str [119, 104, 101, 110], .str [120, 111, 114]], 0, false⟩] 5 0 24 1 0 [.str g61c0, .str [97, 110, 100], .str g61c1, .str [98, 97, 110, 100], .str g61c2, .str [98, 110, 111, 116], .str [98, 111, 114], .str [98, 115, 108], .str [98, 115, 114], .str [98, 120, 111, 114], .str [99, 97, 115, 101], .str [99, 97, 116, 99, 104], .str [100, 105, 118], .str [101, 110, 100], .str [102, 117, 110], .str [105, 102], .str [110, 111, 116], .str [111, 102], .str [111, 114], .str g61c3, .str g61c4, .str [114, 101, 109], .str [119, 104, 101, 110], .str [120, 111, 114]] [0, 2] (env0 := [(0, .str a0), (2, .bool false)]) (by kernel_rfl) rfl (.inl (by kernel_rfl)) rfl rfl (by decide) (by kernel_rfl) (by kernel_rfl) (by kernel_rfl) ⟨.inl rfl, trivial⟩ ?_
 refine oE (eE := [(5, .vec (g61c5).length 1 ((g61c5).flatMap e9)), (0, .str a0), (2, .bool false)]) (by kernel_rfl) ?_
 refine ok_heap (H' := (mkH [⟨[], 0, false⟩])) (by kernel_rfl) ?_
 let E1 : Env := [(4, .int .i64 0), (3, .vec (g61c5).length 1 ((g61c5).flatMap e9)), (5, .vec (g61c5).length 1 ((g61c5).flatMap e9)), (0, .str a0), (2, .bool false)]
 refine oR 9 (p' := g61p3) (eE := E1) (H' := (mkH [⟨[], 0, false⟩])) (by kernel_rfl) ?_
 refine oK [0, 3, 4] (eE := [(0, .str a0), (3, .vec (g61c5).length 1 ((g61c5).flatMap e9)), (4, .int .i64 0)]) (by kernel_rfl) ?_
 refine ok_cut [] [⟨[], 0, false⟩] (by kernel_rfl) rfl (by kernel_rfl) trivial ?_
 exact (g61_l1_ok k a0 k) 0
end
end Go.Proofs.Ytbmijiibfaacmaa.Am
set_option maxRecDepth 100000
set_option linter.unusedVariables false
namespace Go.Proofs.Ytbmijiibfaacmaa.Am
noncomputable section
open Go
def X65 : Fx Int := ⟨Try.prog, cx, Try.f65, fun r => .int .i64 r, 0, fun _ => H0, cxTi, cxOrd⟩
def g65c0 : List (List Nat) := [([61, 58, 61] : List Nat), ([61, 47, 61] : List Nat), ([60, 60] : List Nat), ([62, 62] : List Nat), ([45, 62] : List Nat), ([60, 45] : List Nat), ([60, 61] : List Nat), ([61, 62] : List Nat), ([58, 61] : List Nat), ([58, 58] : List Nat), ([61, 61] : List Nat), ([47, 61] : List Nat), ([61, 60] : List Nat), ([62, 61] : List Nat), ([124, 124] : List Nat), ([43, 43] : List Nat), ([45, 45] : List Nat), ([40] : List Nat), ([41] : List Nat), ([123] : List Nat), ([125] : List Nat), ([91] : List Nat), ([93] : List Nat), ([44] : List Nat), ([59] : List Nat), ([58] : List Nat), ([61] : List Nat), ([124] : List Nat), ([33] : List Nat), ([35] : List Nat), ([43] : List Nat), ([45] : List Nat), ([42] : List Nat), ([47] : List Nat), ([60] : List Nat), ([62] : List Nat), ([46] : List Nat)]
def g65p0 : Pt := nav [0] (bodyAt Try.f65)
def g65p1 : Pt := nav [0, 0, 0] g65p0
def g65p2 : Pt := nav [0, 0, 0, 0] g65p1
def g65p3 : Pt := nav [0, 0] g65p2
def g65p5 : Pt := nav [2, 0, 0, 0] g65p3
def g65p7 : Pt := nav [0, 0, 0, 0] g65p5
def g65p8 : Pt := nav [0, 0, 0] g65p7
def g65p9 : Pt := nav [0, 0] g65p8
def g65p10 : Pt := nav [1, 0, 0, 0, 0] g65p9
def g65p12 : Pt := nav [0, 0, 0] g65p10
def g65p13 : Pt := nav [0] g65p12
def g65_l3 (k : Nat)  (a0 : (List Nat)) (a1 : Int) (n : Nat) : Int → Option Int :=
 Nat.rec (motive := fun _ => Int → Option Int) (fun _ => none) (fun _ ih => fun (y3_0 : Int) => if (decide (y3_0 < (g65c0.length : Int))) then ((nthL g65c0 y3_0).bind fun x0_2 => jn (fun (z4 : Bool × Int) => if z4.1 then (some (x0_2.length : Int)) else (ih (fW .i64 (z4.2 + 1)))) (fun j4 => if (decide ((x0_2.length : Int) ≤ fW .i64 ((a0.length : Int) - a1))) then ((subL a0 (some a1) (some (fW .i64 (a1 + (x0_2.length : Int))))).bind fun x1_12 => (nthL g65c0 y3_0).bind fun x1_15 => j4 (eqL x1_12 x1_15, y3_0)) else (j4 (false, y3_0)))) else (some (0 : Int))) n
theorem g65_l3_s (k : Nat)  (a0 : (List Nat)) (a1 : Int) (n : Nat) (y3_0 : Int) : g65_l3 k a0 a1 (n + 1) y3_0 = (if (decide (y3_0 < (g65c0.length : Int))) then ((nthL g65c0 y3_0).bind fun x0_2 => jn (fun (z4 : Bool × Int) => if z4.1 then (some (x0_2.length : Int)) else ((g65_l3 k a0 a1 n) (fW .i64 (z4.2 + 1)))) (fun j4 => if (decide ((x0_2.length : Int) ≤ fW .i64 ((a0.length : Int) - a1))) then ((subL a0 (some a1) (some (fW .i64 (a1 + (x0_2.length : Int))))).bind fun x1_12 => (nthL g65c0 y3_0).bind fun x1_15 => j4 (eqL x1_12 x1_15, y3_0)) else (j4 (false, y3_0)))) else (some (0 : Int))) := rfl
theorem g65_l3_ok (k : Nat)  (a0 : (List Nat)) (a1 : Int)  : ∀ (n : Nat) (y3_0 : Int), Ok X65 g65p7 [(0, .str a0), (1, .int .i64 a1), (5, .vec (g65c0).length 1 ((g65c0).flatMap e9)), (6, .int .i64 y3_0)] (mkH []) (g65_l3 k a0 a1 n y3_0)
 | 0, _ => ok_none
 | n + 1, y3_0 => by
  have ih := g65_l3_ok k a0 a1 n
  rw [g65_l3_s]
  refine ok_ent (p' := nav [0] g65p7) (by kernel_rfl) ?_
  let E4 : Env := [(20, .bool (decide (y3_0 < (g65c0.length : Int)))), (19, .int .i64 (g65c0.length : Int)), (18, .vec (g65c0).length 1 ((g65c0).flatMap e9)), (17, .int .i64 y3_0), (0, .str a0), (1, .int .i64 a1), (5, .vec (g65c0).length 1 ((g65c0).flatMap e9)), (6, .int .i64 y3_0)]
  refine oR 8 (p' := g65p9) (eE := E4) (H' := (mkH [])) (by kernel_rfl) ?_
  refine oS 20 (b := decide (y3_0 < (g65c0.length : Int))) (by kernel_rfl) (fun hb => ?_) (fun hb => ?_)
  ·refine oR 8 (p' := (atN 2 (ctl1 g65p10))) (eE := ((24, .int .i64 y3_0) :: (23, .vec (g65c0).length 1 ((g65c0).flatMap e9)) :: (20, .bool true) :: E4)) (H' := (mkH [])) (by kernel_rfl) ?_
   refine oH (fun (x0_2 : (List Nat)) => (.vptr [.str x0_2], (mkH []))) (atN 3 (ctl1 g65p10)) (fun x0_2 => ((25, .vptr [.str x0_2]) :: (24, .int .i64 y3_0) :: (23, .vec (g65c0).length 1 ((g65c0).flatMap e9)) :: (20, .bool true) :: E4)) (vidxH (sz := 1) e9_len (by kernel_rfl)) (fun _ => by kernel_rfl) (fun x0_2 hx0_2 => ?_)
   let E5 : Env := ((7, .int .i64 (x0_2.length : Int)) :: (27, .int .i64 (x0_2.length : Int)) :: (26, .str x0_2) :: (25, .vptr [.str x0_2]) :: (24, .int .i64 y3_0) :: (23, .vec (g65c0).length 1 ((g65c0).flatMap e9)) :: (20, .bool true) :: E4)
   refine oR 5 (p' := g65p12) (eE := E5) (H' := (mkH [])) (by kernel_rfl) ?_
   refine oK [0, 1, 5, 6, 7] (eE := [(0, .str a0), (1, .int .i64 a1), (5, .vec (g65c0).length 1 ((g65c0).flatMap e9)), (6, .int .i64 y3_0), (7, .int .i64 (x0_2.length : Int))]) (by kernel_rfl) ?_
   refine oJ (f := fun (z4 : Bool × Int) => if z4.1 then (some (x0_2.length : Int)) else ((g65_l3 k a0 a1 n) (fW .i64 (z4.2 + 1)))) g65p13 (fun (z4 : Bool × Int) => [(0, .str a0), (1, .int .i64 a1), (5, .vec (g65c0).length 1 ((g65c0).flatMap e9)), (6, .int .i64 z4.2), (7, .int .i64 (x0_2.length : Int)), (46, .bool z4.1)]) (fun (z4 : Bool × Int) => (mkH [])) (fun z4 => ?_) (fun j4 hj4 => ?_)
   ·refine oS 46 (b := z4.1) (by kernel_rfl) (fun hb => ?_) (fun hb => ?_)
    ·let E6 : Env := [(4, .int .i64 (x0_2.length : Int)), (47, .int .i64 (x0_2.length : Int)), (46, .bool true), (0, .str a0), (1, .int .i64 a1), (5, .vec (g65c0).length 1 ((g65c0).flatMap e9)), (6, .int .i64 z4.2), (7, .int .i64 (x0_2.length : Int)), (46, .bool z4.1)]
     refine oR 7 (p' := .fin) (eE := E6) (H' := (mkH [])) (by kernel_rfl) ?_
     exact oT (r := (x0_2.length : Int)) (xs := [.int .i64 (x0_2.length : Int)]) (v := .int .i64 (x0_2.length : Int)) (by kernel_rfl) (by kernel_rfl) (by kernel_rfl) (.pures (by kernel_rfl)) (by kernel_rfl)
    ·let E7 : Env := [(6, .int .i64 (fW .i64 (z4.2 + 1))), (22, .int .i64 (fW .i64 (z4.2 + 1))), (21, .int .i64 z4.2), (46, .bool false), (0, .str a0), (1, .int .i64 a1), (5, .vec (g65c0).length 1 ((g65c0).flatMap e9)), (6, .int .i64 z4.2), (7, .int .i64 (x0_2.length : Int)), (46, .bool z4.1)]
     refine oR 7 (p' := g65p7) (eE := E7) (H' := (mkH [])) (by kernel_rfl) ?_
     refine oK [0, 1, 5, 6] (eE := [(0, .str a0), (1, .int .i64 a1), (5, .vec (g65c0).length 1 ((g65c0).flatMap e9)), (6, .int .i64 (fW .i64 (z4.2 + 1)))]) (by kernel_rfl) ?_
     exact ih (fW .i64 (z4.2 + 1))
   ·refine ok_if (fun hb6 => ?_) (fun hb6 => ?_)
    ·refine ok_bind (fun x1_12 hx1_12 => ?_)
     refine ok_bind (fun x1_15 hx1_15 => ?_)
     let E8 : Env := [(34, .bool (decide ((x0_2.length : Int) ≤ fW .i64 ((a0.length : Int) - a1)))), (33, .bool (decide ((x0_2.length : Int) ≤ fW .i64 ((a0.length : Int) - a1)))), (32, .int .i64 (x0_2.length : Int)), (31, .int .i64 (fW .i64 ((a0.length : Int) - a1))), (30, .int .i64 a1), (29, .int .i64 (a0.length : Int)), (28, .str a0), (0, .str a0), (1, .int .i64 a1), (5, .vec (g65c0).length 1 ((g65c0).flatMap e9)), (6, .int .i64 y3_0), (7, .int .i64 (x0_2.length : Int))]
     let E9 : Env := [(39, .int .i64 (fW .i64 (a1 + (x0_2.length : Int)))), (38, .int .i64 (x0_2.length : Int)), (37, .int .i64 a1), (36, .int .i64 a1), (35, .str a0), (34, .bool true), (33, .bool true), (32, .int .i64 (x0_2.length : Int)), (31, .int .i64 (fW .i64 ((a0.length : Int) - a1))), (30, .int .i64 a1), (29, .int .i64 (a0.length : Int)), (28, .str a0), (0, .str a0), (1, .int .i64 a1), (5, .vec (g65c0).length 1 ((g65c0).flatMap e9)), (6, .int .i64 y3_0), (7, .int .i64 (x0_2.length : Int))]
     let E10 : Env := ((46, .bool (eqL x1_12 x1_15)) :: (45, .bool (eqL x1_12 x1_15)) :: (44, .str x1_15) :: (43, .vptr [.str x1_15]) :: (42, .int .i64 y3_0) :: (41, .vec (g65c0).length 1 ((g65c0).flatMap e9)) :: (40, .str x1_12) :: E9)
     refine ok_draw (p' := nav [0] g65p12) (eE := E10) (H' := (mkH [])) (hs := []) [(0, 0, 0), (1, 0, 0), (0, 0, 0), (7, 0, 0), (0, 0, 0), (31, 0, 0), (63, 0, 0), (127, 0, 0), (127, 0, 0), (127, 0, 0), (127, 0, 0), (1663, 0, 0), (4095, 0, 0), (127, 0, 0), (127, 0, 0), (24703, 0, 0), (57471, 0, 0), (131071, 0, 0), (262143, 0, 0)] (by kernel_rfl) (by kernel_rfl) (by kernel_rfl) (opsD_run 7 (l' := (opsAt g65p12).toList.drop 7) (eE := E8) (H' := (mkH [])) (hs := []) (by kernel_rfl) (opsD_env (eE := [(34, .bool true), (33, .bool true), (32, .int .i64 (x0_2.length : Int)), (31, .int .i64 (fW .i64 ((a0.length : Int) - a1))), (30, .int .i64 a1), (29, .int .i64 (a0.length : Int)), (28, .str a0), (0, .str a0), (1, .int .i64 a1), (5, .vec (g65c0).length 1 ((g65c0).flatMap e9)), (6, .int .i64 y3_0), (7, .int .i64 (x0_2.length : Int))]) (congrArg (fun z : Bool => ([(34, .bool z), (33, .bool z), (32, .int .i64 (x0_2.length : Int)), (31, .int .i64 (fW .i64 ((a0.length : Int) - a1))), (30, .int .i64 a1), (29, .int .i64 (a0.length : Int)), (28, .str a0), (0, .str a0), (1, .int .i64 a1), (5, .vec (g65c0).length 1 ((g65c0).flatMap e9)), (6, .int .i64 y3_0), (7, .int .i64 (x0_2.length : Int))] : Env)) hb6) (opsD_run 5 (l' := (opsAt g65p12).toList.drop 12) (eE := E9) (H' := (mkH [])) (hs := []) (by kernel_rfl) (opsD_chk (l' := (opsAt g65p12).toList.drop 13) (eE := ((40, .str x1_12) :: E9)) (hs := []) (x := x1_12) (fun (x1_12 : (List Nat)) => (.str x1_12, (mkH []))) (subH (some a1) (some (fW .i64 (a1 + (x0_2.length : Int)))) (by kernel_rfl)) hx1_12 (by kernel_rfl) (opsD_run 2 (l' := (opsAt g65p12).toList.drop 15) (eE := ((42, .int .i64 y3_0) :: (41, .vec (g65c0).length 1 ((g65c0).flatMap e9)) :: (40, .str x1_12) :: E9)) (H' := (mkH [])) (hs := []) (by kernel_rfl) (opsD_chk (l' := (opsAt g65p12).toList.drop 16) (eE := ((43, .vptr [.str x1_15]) :: (42, .int .i64 y3_0) :: (41, .vec (g65c0).length 1 ((g65c0).flatMap e9)) :: (40, .str x1_12) :: E9)) (hs := []) (x := x1_15) (fun (x1_15 : (List Nat)) => (.vptr [.str x1_15], (mkH []))) (vidxH (sz := 1) e9_len (by kernel_rfl)) hx1_15 (by kernel_rfl) (opsD_run 3 (l' := (opsAt g65p12).toList.drop 19) (eE := E10) (H' := (mkH [])) (hs := []) (by kernel_rfl) (.nil)))))))) (by kernel_rfl) (by kernel_rfl) (by kernel_rfl) ?_
     refine oK [0, 1, 5, 6, 7, 46] (eE := [(0, .str a0), (1, .int .i64 a1), (5, .vec (g65c0).length 1 ((g65c0).flatMap e9)), (6, .int .i64 y3_0), (7, .int .i64 (x0_2.length : Int)), (46, .bool (eqL x1_12 x1_15))]) (by kernel_rfl) ?_
     exact hj4 (eqL x1_12 x1_15, y3_0)
    ·let E8 : Env := [(34, .bool (decide ((x0_2.length : Int) ≤ fW .i64 ((a0.length : Int) - a1)))), (33, .bool (decide ((x0_2.length : Int) ≤ fW .i64 ((a0.length : Int) - a1)))), (32, .int .i64 (x0_2.length : Int)), (31, .int .i64 (fW .i64 ((a0.length : Int) - a1))), (30, .int .i64 a1), (29, .int .i64 (a0.length : Int)), (28, .str a0), (0, .str a0), (1, .int .i64 a1), (5, .vec (g65c0).length 1 ((g65c0).flatMap e9)), (6, .int .i64 y3_0), (7, .int .i64 (x0_2.length : Int))]
     let E11 : Env := [(46, .bool false), (45, .tuple []), (44, .tuple []), (43, .tuple []), (42, .tuple []), (41, .tuple []), (40, .tuple []), (39, .tuple []), (38, .tuple []), (37, .tuple []), (36, .tuple []), (35, .tuple []), (34, .bool false), (33, .bool false), (32, .int .i64 (x0_2.length : Int)), (31, .int .i64 (fW .i64 ((a0.length : Int) - a1))), (30, .int .i64 a1), (29, .int .i64 (a0.length : Int)), (28, .str a0), (0, .str a0), (1, .int .i64 a1), (5, .vec (g65c0).length 1 ((g65c0).flatMap e9)), (6, .int .i64 y3_0), (7, .int .i64 (x0_2.length : Int))]
     refine ok_draw (p' := nav [0] g65p12) (eE := E11) (H' := (mkH [])) (hs := []) [(0, 0, 0), (1, 0, 0), (0, 0, 0), (7, 0, 0), (0, 0, 0), (31, 0, 0), (63, 0, 0), (127, 0, 0), (127, 0, 0), (127, 0, 0), (127, 0, 0), (1663, 0, 0), (4095, 0, 0), (127, 0, 0), (127, 0, 0), (24703, 0, 0), (57471, 0, 0), (131071, 0, 0), (262143, 0, 0)] (by kernel_rfl) (by kernel_rfl) (by kernel_rfl) (opsD_run 7 (l' := (opsAt g65p12).toList.drop 7) (eE := E8) (H' := (mkH [])) (hs := []) (by kernel_rfl) (opsD_env (eE := [(34, .bool false), (33, .bool false), (32, .int .i64 (x0_2.length : Int)), (31, .int .i64 (fW .i64 ((a0.length : Int) - a1))), (30, .int .i64 a1), (29, .int .i64 (a0.length : Int)), (28, .str a0), (0, .str a0), (1, .int .i64 a1), (5, .vec (g65c0).length 1 ((g65c0).flatMap e9)), (6, .int .i64 y3_0), (7, .int .i64 (x0_2.length : Int))]) (congrArg (fun z : Bool => ([(34, .bool z), (33, .bool z), (32, .int .i64 (x0_2.length : Int)), (31, .int .i64 (fW .i64 ((a0.length : Int) - a1))), (30, .int .i64 a1), (29, .int .i64 (a0.length : Int)), (28, .str a0), (0, .str a0), (1, .int .i64 a1), (5, .vec (g65c0).length 1 ((g65c0).flatMap e9)), (6, .int .i64 y3_0), (7, .int .i64 (x0_2.length : Int))] : Env)) hb6) (opsD_run 12 (l' := (opsAt g65p12).toList.drop 19) (eE := E11) (H' := (mkH [])) (hs := []) (by kernel_rfl) (.nil)))) (by kernel_rfl) (by kernel_rfl) (by kernel_rfl) ?_
     refine oK [0, 1, 5, 6, 7, 46] (eE := [(0, .str a0), (1, .int .i64 a1), (5, .vec (g65c0).length 1 ((g65c0).flatMap e9)), (6, .int .i64 y3_0), (7, .int .i64 (x0_2.length : Int)), (46, .bool false)]) (by kernel_rfl) ?_
     exact hj4 (false, y3_0)
  ·refine oR 7 (p' := .fin) (eE := ((4, .int .i64 0) :: (20, .bool false) :: E4)) (H' := (mkH [])) (by kernel_rfl) ?_
   exact oT (r := (0 : Int)) (xs := [.int .i64 0]) (v := .int .i64 0) (by kernel_rfl) (by kernel_rfl) (by kernel_rfl) (.pures (by kernel_rfl)) (by kernel_rfl)
def g65 (k : Nat) (a0 : (List Nat)) (a1 : Int) : Option Int :=
 jn (fun (z2 : Bool) => if z2 then (some (0 : Int)) else (g65_l3 k a0 a1 k 0)) (fun j2 => if (decide (a1 < 0)) then (j2 true) else (j2 (decide ((a0.length : Int) < a1))))
theorem g65_ok (k : Nat) (a0 : (List Nat)) (a1 : Int) (r : Int) (h : g65 k a0 a1 = some r) : PureOk Try.prog 65 [.str a0, .int .i64 a1] (.int .i64 r) := by
 refine pure_of X65 (fun _ => rfl) Try.func65 (by decide +kernel) (by kernel_rfl) (t := g65 k a0 a1) ?_ h
 unfold g65
 refine oE (eE := [(0, .str a0), (1, .int .i64 a1)]) (by kernel_rfl) ?_
 refine oR 7 (p' := (atN 1 (ctl1 g65p1))) (eE := [(8, .slice 0 37 0 37 1), (4, .int .i64 0), (0, .str a0), (1, .int .i64 a1)]) (H' := (mkH [⟨[.str [61, 58, 61], .str [61, 47, 61], .str [60, 60], .str [62, 62], .str [45, 62], .str [60, 45], .str [60, 61], .str [61, 62], .str [58, 61], .str [58, 58], .str [61, 61], .str [47, 61], .str [61, 60], .str [62, 61], .str [124, 124], .str [43, 43], .str [45, 45], .str [40], .str [41], .str [123], .str [125], .str [91], .str [93], .str [44], .str [59], .str [58], .str [61], .str [124], .str [33], .str [35], .str [43], .str [45], .str [42], .str [47], .str [60], .str [62], .str [46]], 0, false⟩])) (by kernel_rfl) ?_
 refine ok_frz [⟨[.str [61, 58, 61], .str [61, 47, 61], .str [60, 60], .str [62, 62], .str [45, 62], .str [60, 45], .str [60, 61], .str [61, 62], .str [58, 61], .str [58, 58], .str [61, 61], .str [47, 61], .str [61, 60], .str [62, 61], .str [124, 124], .str [43, 43], .str [45, 45], .str [40], .str [41], .str [123], .str [125], .str [91], .str [93], .str [44], .str [59], .str [58], .str [61], .str [124], .str [33], .str [35], .str [43], .str [45], .str [42], .str [47], .str [60], .str [62], .str [46]], 0, false⟩] 8 0 37 1 0 [.str [61, 58, 61], .str [61, 47, 61], .str [60, 60], .str [62, 62], .str [45, 62], .str [60, 45], .str [60, 61], .str [61, 62], .str [58, 61], .str [58, 58], .str [61, 61], .str [47, 61], .str [61, 60], .str [62, 61], .str [124, 124], .str [43, 43], .str [45, 45], .str [40], .str [41], .str [123], .str [125], .str [91], .str [93], .str [44], .str [59], .str [58], .str [61], .str [124], .str [33], .str [35], .str [43], .str [45], .str [42], .str [47], .str [60], .str [62], .str [46]] [0, 1, 4] (env0 := [(0, .str a0), (1, .int .i64 a1), (4, .int .i64 0)]) (by kernel_rfl) rfl (.inl (by kernel_rfl)) rfl rfl (by decide) (by kernel_rfl) (by kernel_rfl) (by kernel_rfl) ⟨.inl rfl, trivial⟩ ?_
 refine oE (eE := [(8, .vec (g65c0).length 1 ((g65c0).flatMap e9)), (0, .str a0), (1, .int .i64 a1), (4, .int .i64 0)]) (by kernel_rfl) ?_
 refine ok_heap (H' := (mkH [⟨[], 0, false⟩])) (by kernel_rfl) ?_
 let E1 : Env := [(11, .bool (decide (a1 < 0))), (10, .bool (decide (a1 < 0))), (9, .int .i64 a1), (5, .vec (g65c0).length 1 ((g65c0).flatMap e9)), (8, .vec (g65c0).length 1 ((g65c0).flatMap e9)), (0, .str a0), (1, .int .i64 a1), (4, .int .i64 0)]
 refine oR 8 (p' := (atN 3 (ctl1 g65p2))) (eE := E1) (H' := (mkH [⟨[], 0, false⟩])) (by kernel_rfl) ?_
 refine oJ (f := fun (z2 : Bool) => if z2 then (some (0 : Int)) else (g65_l3 k a0 a1 k 0)) g65p3 (fun (z2 : Bool) => [(0, .str a0), (1, .int .i64 a1), (5, .vec (g65c0).length 1 ((g65c0).flatMap e9)), (16, .bool z2)]) (fun (z2 : Bool) => (mkH [])) (fun z2 => ?_) (fun j2 hj2 => ?_)
 ·refine oS 16 (b := z2) (by kernel_rfl) (fun hb => ?_) (fun hb => ?_)
  ·let E2 : Env := [(4, .int .i64 0), (16, .bool true), (0, .str a0), (1, .int .i64 a1), (5, .vec (g65c0).length 1 ((g65c0).flatMap e9)), (16, .bool z2)]
   refine oR 6 (p' := .fin) (eE := E2) (H' := (mkH [])) (by kernel_rfl) ?_
   exact oT (r := (0 : Int)) (xs := [.int .i64 0]) (v := .int .i64 0) (by kernel_rfl) (by kernel_rfl) (by kernel_rfl) (.pures (by kernel_rfl)) (by kernel_rfl)
  ·let E3 : Env := [(6, .int .i64 0), (16, .bool false), (0, .str a0), (1, .int .i64 a1), (5, .vec (g65c0).length 1 ((g65c0).flatMap e9)), (16, .bool z2)]
   refine oR 9 (p' := g65p7) (eE := E3) (H' := (mkH [])) (by kernel_rfl) ?_
   refine oK [0, 1, 5, 6] (eE := [(0, .str a0), (1, .int .i64 a1), (5, .vec (g65c0).length 1 ((g65c0).flatMap e9)), (6, .int .i64 0)]) (by kernel_rfl) ?_
   exact (g65_l3_ok k a0 a1 k) 0
 ·refine oS 11 (b := decide (a1 < 0)) (by kernel_rfl) (fun hb => ?_) (fun hb => ?_)
  ·let E12 : Env := ((16, .bool true) :: (15, .tuple []) :: (14, .tuple []) :: (13, .tuple []) :: (12, .tuple []) :: (11, .bool true) :: E1)
   refine oR 6 (p' := g65p3) (eE := E12) (H' := (mkH [⟨[], 0, false⟩])) (by kernel_rfl) ?_
   refine oK [0, 1, 5, 16] (eE := [(0, .str a0), (1, .int .i64 a1), (5, .vec (g65c0).length 1 ((g65c0).flatMap e9)), (16, .bool true)]) (by kernel_rfl) ?_
   refine ok_cut [] [⟨[], 0, false⟩] (by kernel_rfl) rfl (by kernel_rfl) trivial ?_
   exact hj2 true
  ·let E13 : Env := ((16, .bool (decide ((a0.length : Int) < a1))) :: (15, .bool (decide ((a0.length : Int) < a1))) :: (14, .int .i64 (a0.length : Int)) :: (13, .str a0) :: (12, .int .i64 a1) :: (11, .bool false) :: E1)
   refine oR 6 (p' := g65p3) (eE := E13) (H' := (mkH [⟨[], 0, false⟩])) (by kernel_rfl) ?_
   refine oK [0, 1, 5, 16] (eE := [(0, .str a0), (1, .int .i64 a1), (5, .vec (g65c0).length 1 ((g65c0).flatMap e9)), (16, .bool (decide ((a0.length : Int) < a1)))]) (by kernel_rfl) ?_
   refine ok_cut [] [⟨[], 0, false⟩] (by kernel_rfl) rfl (by kernel_rfl) trivial ?_
   exact hj2 (decide ((a0.length : Int) < a1))
end
end Go.Proofs.Ytbmijiibfaacmaa.Am
set_option maxRecDepth 100000
set_option linter.unusedVariables false
set_option linter.unusedSimpArgs false
namespace Go.Proofs.Ytbmijiibfaacmaa.Am
open Go
def blkN (c : Nat) : Bool := decide (c = 32) || decide (c = 9) || decide (c = 10) || decide (c = 13)
def letN (c : Nat) : Bool := decide (97 ≤ c) && decide (c ≤ 122) || decide (65 ≤ c) && decide (c ≤ 90)
def begN (c : Nat) : Nat := if 97 ≤ c ∧ c ≤ 122 then 1 else if 65 ≤ c ∧ c ≤ 90 ∨ c = 95 then 2 else if 48 ≤ c ∧ c ≤ 57 then 3 else 0
def inrN (c : Nat) : Bool := decide (begN c ≠ 0) || decide (c = 64)
def rsvL : List (List Nat) := [[97, 102, 116, 101, 114], [97, 110, 100], [97, 110, 100, 97, 108, 115, 111], [98, 97, 110, 100], [98, 101, 103, 105, 110], [98, 110, 111, 116], [98, 111, 114], [98, 115, 108], [98, 115, 114], [98, 120, 111, 114], [99, 97, 115, 101], [99, 97, 116, 99, 104], [100, 105, 118], [101, 110, 100], [102, 117, 110], [105, 102], [110, 111, 116], [111, 102], [111, 114], [111, 114, 101, 108, 115, 101], [114, 101, 99, 101, 105, 118, 101], [114, 101, 109], [119, 104, 101, 110], [120, 111, 114]]
def rsvN (s : List Nat) : Bool := rsvL.any fun w => eqL s w
theorem eqL_comm (a b : List Nat) : eqL a b = eqL b a := by
 rw [Bool.eq_iff_iff, eqL_iff, eqL_iff]; exact eq_comm
theorem begins_at58 (k : Nat) {c : Nat} (h : c < 256) : g58 k (c : Int) = some ((begN c : Nat) : Int) := by
 have w := byteAll (f := fun c => decide (g58 0 (c : Int) = some ((begN c : Nat) : Int))) (by decide +kernel) h
 exact of_decide_eq_true w
theorem inner_at74 (k : Nat) {c : Nat} (h : c < 256) : g74 k (c : Int) = some (inrN c) := by
 have w := byteAll (f := fun c => decide (g74 0 (c : Int) = some (inrN c))) (by decide +kernel) h
 exact of_decide_eq_true w
theorem letter_at (k : Nat) {c : Nat} (h : c < 256) : g64 k (c : Int) = some (letN c) := by
 have w := byteAll (f := fun c => decide (g64 0 (c : Int) = some (letN c))) (by decide +kernel) h
 exact of_decide_eq_true w
theorem nthL_at {α : Type} {L : List α} {i : Nat} {x : α} {r : List α} (h : L.drop i = x :: r) : nthL L (i : Int) = some x := by
 unfold nthL
 rw [if_pos (by omega), Int.toNat_natCast]
 have := List.getElem?_drop (xs := L) (i := i) (j := 0)
 rw [h] at this
 simpa using this.symm
theorem dconsL {α : Type} {s : List α} {i : Nat} (h : i < s.length) : ∃ b r, s.drop i = b :: r ∧ s.drop (i + 1) = r ∧ b ∈ s ∧ r.length + i + 1 = s.length := by
 refine ⟨s[i], s.drop (i + 1), List.drop_eq_getElem_cons h, rfl, List.getElem_mem h, ?_⟩
 rw [List.length_drop]; omega
theorem rreserved_l (k : Nat) (s : List Nat) : ∀ (f i : Nat), 24 < i + f → i ≤ 24 → g61_l1 k s f (i : Int) = some ((rsvL.drop i).any fun w => eqL s w)
 | 0, i, h, h2 => by omega
 | f + 1, i, h, h2 => by
  rw [g61_l1_s]
  have e : g61c5 = rsvL := rfl
  rw [e]
  have el : rsvL.length = 24 := rfl
  rcases Nat.lt_or_ge i 24 with hi | hi
  ·obtain ⟨x, r, hx, hr, -, -⟩ := dconsL (s := rsvL) (i := i) (by rw [el]; exact hi)
   have ih := rreserved_l k s f (i + 1) (by omega) (by omega)
   rw [el]
   refine iT (by first | (simp (disch := omega) only [↓reduceIte, ↓jn, gsL]; done) | rfl) ?_
   refine bS (by (try simp (disch := omega) only [fwI]); exact nthL_at hx) ?_
   rw [fw_s (by omega), ih, hr, hx, List.any_cons, eqL_comm x s]
   cases eqL s x <;> rfl
  ·rw [el]
   refine iF (by first | (simp (disch := omega) only [↓reduceIte, ↓jn, gsL]; done) | rfl) ?_
   rw [List.drop_eq_nil_of_le (by rw [el]; exact hi)]
   rfl
theorem rreserved_at {k : Nat} (hk : 25 ≤ k) (s : List Nat) : g61 k s = some (rsvN s) := rreserved_l k s k 0 (by omega) (by omega)
def signL : List (List Nat) := [[61, 58, 61], [61, 47, 61], [60, 60], [62, 62], [45, 62], [60, 45], [60, 61], [61, 62], [58, 61], [58, 58], [61, 61], [47, 61], [61, 60], [62, 61], [124, 124], [43, 43], [45, 45], [40], [41], [123], [125], [91], [93], [44], [59], [58], [61], [124], [33], [35], [43], [45], [42], [47], [60], [62], [46]]
def preN : List Nat → List Nat → Bool
 | [], _ => true
 | x :: l, y :: s => decide (y = x) && preN l s
 | _ :: _, [] => false
def fstN : List (List Nat) → List Nat → Nat
 | [], _ => 0
 | l :: L, s => if preN l s then l.length else fstN L s
def lngN (s : List Nat) : Nat := fstN signL s
theorem preN_take : ∀ (l s : List Nat), preN l s = (decide (l.length ≤ s.length) && eqL (s.take l.length) l)
 | [], s => by simp [preN, eqL]
 | x :: l, [] => by simp [preN]
 | x :: l, y :: s => by
  simp only [preN, preN_take l s, List.length_cons, List.take_succ_cons, eqL]
  by_cases h : l.length ≤ s.length
  ·have : l.length + 1 ≤ s.length + 1 := by omega
   simp [h, this]
   rw [Bool.eq_iff_iff]; simp [Nat.beq_eq]
  ·have : ¬ l.length + 1 ≤ s.length + 1 := by omega
   simp [h, this]
theorem preN_len {l s : List Nat} (h : preN l s = true) : l.length ≤ s.length := by
 rw [preN_take, Bool.and_eq_true, decide_eq_true_eq] at h; exact h.1
theorem fstN_le : ∀ (L : List (List Nat)) (s : List Nat), fstN L s ≤ s.length
 | [], s => Nat.zero_le _
 | l :: L, s => by
  simp only [fstN]
  split
  ·rename_i h; exact preN_len h
  ·exact fstN_le L s
theorem rlongest_l (k : Nat) {s : List Nat} (hl : Sz s) {a : Nat} (ha : a ≤ s.length) : ∀ (f i : Nat), 37 < i + f → i ≤ 37 → g65_l3 k s (a : Int) f (i : Int) = some ((fstN (signL.drop i) (s.drop a) : Nat) : Int)
 | 0, i, h, h2 => by omega
 | f + 1, i, h, h2 => by
  have hl' := hl
  unfold Sz at hl
  rw [g65_l3_s]
  have e : g65c0 = signL := rfl
  rw [e]
  have el : signL.length = 37 := rfl
  rcases Nat.lt_or_ge i 37 with hi | hi
  ·obtain ⟨x, r, hx, hr, hm, -⟩ := dconsL (s := signL) (i := i) (by rw [el]; exact hi)
   have ih := rlongest_l k hl' ha f (i + 1) (by omega) (by omega)
   have hx3 : x.length ≤ 3 := by
    have : ∀ l ∈ signL, l.length ≤ 3 := by decide
    exact this x hm
   rw [el]
   refine iT (by first | (simp (disch := omega) only [↓reduceIte, ↓jn, gsL]; done) | rfl) ?_
   refine bS (by (try simp (disch := omega) only [fwI]); exact nthL_at hx) ?_
   rw [hr] at ih
   rw [hx]
   simp only [fstN, preN_take, List.length_drop]
   refine (jS (v := (decide (x.length ≤ s.length - a) && eqL ((s.drop a).take x.length) x, (i : Int))) (fun j => ?_)).trans ?_
   ·by_cases hc : x.length ≤ s.length - a
    ·have sb : subL s (some (a : Int)) (some ((a : Int) + (x.length : Int))) = some ((s.drop a).take x.length) := by
      rw [subMid (i := a) (j := a + x.length) rfl (by push_cast; rfl) (by omega) (by omega), List.drop_take, Nat.add_sub_cancel_left]
     refine iT (by first | (simp (disch := omega) only [↓reduceIte, ↓jn, gsL]; done) | rfl) ?_
     refine bS (by (try simp (disch := omega) only [fwI]); exact sb) ?_
     refine bS (by (try simp (disch := omega) only [fwI]); exact nthL_at hx) ?_
     simp (disch := omega) only [↓reduceIte, ↓jn, gsL, hc]
    ·simp (disch := omega) only [↓reduceIte, ↓jn, gsL, hc]
   ·cases hp : (decide (x.length ≤ s.length - a) && eqL ((s.drop a).take x.length) x) with
    | true => rfl
    | false =>
     simp only [Bool.false_eq_true, if_false]
     rw [fw_s (by omega)]
     exact ih
  ·rw [el]
   refine iF (by first | (simp (disch := omega) only [↓reduceIte, ↓jn, gsL]; done) | rfl) ?_
   rw [List.drop_eq_nil_of_le (by rw [el]; exact hi)]
   rfl
theorem rlongest_at {k : Nat} (hk : 38 ≤ k) {s : List Nat} (hl : Sz s) {a : Nat} (ha : a ≤ s.length) : g65 k s (a : Int) = some ((lngN (s.drop a) : Nat) : Int) := by
 have hl' := hl
 unfold Sz at hl
 unfold g65
 refine (jS (v := false) (fun j => by simp (disch := omega) only [↓reduceIte, ↓jn, gsL])).trans ?_
 exact rlongest_l k hl' ha k 0 (by omega) (by omega)
end Go.Proofs.Ytbmijiibfaacmaa.Am
set_option maxRecDepth 100000
set_option linter.unusedVariables false
namespace Go.Proofs.Ytbmijiibfaacmaa.Am
noncomputable section
open Go
def X78 : Fx Int := ⟨Try.prog, cx, Try.f78, fun r => .int .i64 r, 0, fun _ => H0, cxTi, cxOrd⟩
def g78p0 : Pt := nav [0] (bodyAt Try.f78)
def g78p1 : Pt := nav [0, 0, 0] g78p0
def g78p2 : Pt := nav [0, 0, 0, 0, 0] g78p1
def g78p3 : Pt := nav [0, 0] g78p2
def g78p4 : Pt := nav [1] g78p3
def g78p5 : Pt := nav [2, 0] g78p3
def g78p6 : Pt := nav [0, 0, 0, 0] g78p4
def g78p7 : Pt := nav [0, 0] g78p5
def g78p8 : Pt := nav [0, 0] g78p6
def g78p10 : Pt := nav [2, 0] g78p7
def g78p13 : Pt := nav [0, 0] g78p10
def g78 (k : Nat) (a0 : Int) (a1 : Int) : Option Int :=
 (g71 k a0).bind fun x0_1 => jn (fun (z1 : Int) => if (decide (a1 ≤ z1)) then (some ((-1) : Int)) else (some z1)) (fun j1 => if x0_1 then (j1 (fW .i64 (fW .u8 (a0 - 48)))) else (jn (fun (z2 : Bool) => if z2 then (j1 (fW .i64 (fW .i64 (fW .u8 (a0 - 97)) + 10))) else (jn (fun (z3 : Bool) => if z3 then (j1 (fW .i64 (fW .i64 (fW .u8 (a0 - 65)) + 10))) else (j1 (-1))) (fun j3 => if (decide (65 ≤ a0)) then (j3 (decide (a0 ≤ 90))) else (j3 false)))) (fun j2 => if (decide (97 ≤ a0)) then (j2 (decide (a0 ≤ 122))) else (j2 false))))
theorem g78_ok (k : Nat) (a0 : Int) (a1 : Int) (r : Int) (h : g78 k a0 a1 = some r) : PureOk Try.prog 78 [.int .u8 a0, .int .i64 a1] (.int .i64 r) := by
 refine pure_of X78 (fun _ => rfl) Try.func78 (by decide +kernel) (by kernel_rfl) (t := g78 k a0 a1) ?_ h
 unfold g78
 refine oE (eE := [(0, .int .u8 a0), (1, .int .i64 a1)]) (by kernel_rfl) ?_
 let E1 : Env := [(7, .int .u8 a0), (5, .int .i64 (-1)), (4, .int .i64 0), (0, .int .u8 a0), (1, .int .i64 a1)]
 refine oR 13 (p' := (atN 1 (ctl1 g78p2))) (eE := E1) (H' := (mkH [])) (by kernel_rfl) ?_
 refine oC (fun (x0_1 : Bool) => .bool x0_1) (atN 2 (ctl1 g78p2)) (fun x0_1 => ((8, .bool x0_1) :: E1)) (fi := 71) (args := [.int .u8 a0]) (by kernel_rfl) (by kernel_rfl) (fun _ => by kernel_rfl) (fun r h => g71_ok k a0 r h) (fun _ => by kernel_rfl) (fun x0_1 hx0_1 => ?_)
 refine oR 2 (p' := g78p3) (eE := ((6, .bool x0_1) :: (8, .bool x0_1) :: E1)) (H' := (mkH [])) (by kernel_rfl) ?_
 refine oJ (f := fun (z1 : Int) => if (decide (a1 ≤ z1)) then (some ((-1) : Int)) else (some z1)) g78p6 (fun (z1 : Int) => [(1, .int .i64 a1), (5, .int .i64 z1)]) (fun (z1 : Int) => (mkH [])) (fun z1 => ?_) (fun j1 hj1 => ?_)
 ·let E2 : Env := [(36, .bool (decide (a1 ≤ z1))), (35, .int .i64 a1), (34, .int .i64 z1), (1, .int .i64 a1), (5, .int .i64 z1)]
  refine oR 5 (p' := g78p8) (eE := E2) (H' := (mkH [])) (by kernel_rfl) ?_
  refine oS 36 (b := decide (a1 ≤ z1)) (by kernel_rfl) (fun hb => ?_) (fun hb => ?_)
  ·refine oR 6 (p' := .fin) (eE := ((4, .int .i64 (-1)) :: (36, .bool true) :: E2)) (H' := (mkH [])) (by kernel_rfl) ?_
   exact oT (r := ((-1) : Int)) (xs := [.int .i64 (-1)]) (v := .int .i64 (-1)) (by kernel_rfl) (by kernel_rfl) (by kernel_rfl) (.pures (by kernel_rfl)) (by kernel_rfl)
  ·refine oR 8 (p' := .fin) (eE := ((4, .int .i64 z1) :: (37, .int .i64 z1) :: (36, .bool false) :: E2)) (H' := (mkH [])) (by kernel_rfl) ?_
   exact oT (r := z1) (xs := [.int .i64 z1]) (v := .int .i64 z1) (by kernel_rfl) (by kernel_rfl) (by kernel_rfl) (.pures (by kernel_rfl)) (by kernel_rfl)
 ·refine oS 6 (b := x0_1) (by kernel_rfl) (fun hb => ?_) (fun hb => ?_)
  ·let E3 : Env := ((5, .int .i64 (fW .i64 (fW .u8 (a0 - 48)))) :: (11, .int .i64 (fW .i64 (fW .u8 (a0 - 48)))) :: (10, .int .u8 (fW .u8 (a0 - 48))) :: (9, .int .u8 a0) :: (6, .bool true) :: (6, .bool x0_1) :: (8, .bool x0_1) :: E1)
   refine oR 9 (p' := g78p6) (eE := E3) (H' := (mkH [])) (by kernel_rfl) ?_
   refine oK [1, 5] (eE := [(1, .int .i64 a1), (5, .int .i64 (fW .i64 (fW .u8 (a0 - 48))))]) (by kernel_rfl) ?_
   exact hj1 (fW .i64 (fW .u8 (a0 - 48)))
  ·let E4 : Env := ((15, .bool (decide (97 ≤ a0))) :: (14, .bool (decide (97 ≤ a0))) :: (13, .int .u8 a0) :: (6, .bool false) :: (6, .bool x0_1) :: (8, .bool x0_1) :: E1)
   refine oR 6 (p' := (atN 3 (ctl1 g78p5))) (eE := E4) (H' := (mkH [])) (by kernel_rfl) ?_
   refine oJ (f := fun (z2 : Bool) => if z2 then (j1 (fW .i64 (fW .i64 (fW .u8 (a0 - 97)) + 10))) else (jn (fun (z3 : Bool) => if z3 then (j1 (fW .i64 (fW .i64 (fW .u8 (a0 - 65)) + 10))) else (j1 (-1))) (fun j3 => if (decide (65 ≤ a0)) then (j3 (decide (a0 ≤ 90))) else (j3 false)))) g78p7 (fun (z2 : Bool) => [(0, .int .u8 a0), (1, .int .i64 a1), (5, .int .i64 (-1)), (12, .bool z2)]) (fun (z2 : Bool) => (mkH [])) (fun z2 => ?_) (fun j2 hj2 => ?_)
   ·refine oS 12 (b := z2) (by kernel_rfl) (fun hb => ?_) (fun hb => ?_)
    ·let E5 : Env := [(5, .int .i64 (fW .i64 (fW .i64 (fW .u8 (a0 - 97)) + 10))), (22, .int .i64 (fW .i64 (fW .i64 (fW .u8 (a0 - 97)) + 10))), (21, .int .i64 (fW .i64 (fW .u8 (a0 - 97)))), (20, .int .u8 (fW .u8 (a0 - 97))), (19, .int .u8 a0), (12, .bool true), (0, .int .u8 a0), (1, .int .i64 a1), (5, .int .i64 (-1)), (12, .bool z2)]
     refine oR 10 (p' := g78p6) (eE := E5) (H' := (mkH [])) (by kernel_rfl) ?_
     refine oK [1, 5] (eE := [(1, .int .i64 a1), (5, .int .i64 (fW .i64 (fW .i64 (fW .u8 (a0 - 97)) + 10)))]) (by kernel_rfl) ?_
     exact hj1 (fW .i64 (fW .i64 (fW .u8 (a0 - 97)) + 10))
    ·let E6 : Env := [(26, .bool (decide (65 ≤ a0))), (25, .bool (decide (65 ≤ a0))), (24, .int .u8 a0), (12, .bool false), (0, .int .u8 a0), (1, .int .i64 a1), (5, .int .i64 (-1)), (12, .bool z2)]
     refine oR 6 (p' := (atN 3 (ctl1 g78p10))) (eE := E6) (H' := (mkH [])) (by kernel_rfl) ?_
     refine oJ (f := fun (z3 : Bool) => if z3 then (j1 (fW .i64 (fW .i64 (fW .u8 (a0 - 65)) + 10))) else (j1 (-1))) g78p13 (fun (z3 : Bool) => [(0, .int .u8 a0), (1, .int .i64 a1), (5, .int .i64 (-1)), (23, .bool z3)]) (fun (z3 : Bool) => (mkH [])) (fun z3 => ?_) (fun j3 hj3 => ?_)
     ·refine oS 23 (b := z3) (by kernel_rfl) (fun hb => ?_) (fun hb => ?_)
      ·let E7 : Env := [(5, .int .i64 (fW .i64 (fW .i64 (fW .u8 (a0 - 65)) + 10))), (33, .int .i64 (fW .i64 (fW .i64 (fW .u8 (a0 - 65)) + 10))), (32, .int .i64 (fW .i64 (fW .u8 (a0 - 65)))), (31, .int .u8 (fW .u8 (a0 - 65))), (30, .int .u8 a0), (23, .bool true), (0, .int .u8 a0), (1, .int .i64 a1), (5, .int .i64 (-1)), (23, .bool z3)]
       refine oR 10 (p' := g78p6) (eE := E7) (H' := (mkH [])) (by kernel_rfl) ?_
       refine oK [1, 5] (eE := [(1, .int .i64 a1), (5, .int .i64 (fW .i64 (fW .i64 (fW .u8 (a0 - 65)) + 10)))]) (by kernel_rfl) ?_
       exact hj1 (fW .i64 (fW .i64 (fW .u8 (a0 - 65)) + 10))
      ·let E8 : Env := [(23, .bool false), (0, .int .u8 a0), (1, .int .i64 a1), (5, .int .i64 (-1)), (23, .bool z3)]
       refine oR 4 (p' := g78p6) (eE := E8) (H' := (mkH [])) (by kernel_rfl) ?_
       refine oK [1, 5] (eE := [(1, .int .i64 a1), (5, .int .i64 (-1))]) (by kernel_rfl) ?_
       exact hj1 (-1)
     ·refine oS 26 (b := decide (65 ≤ a0)) (by kernel_rfl) (fun hb => ?_) (fun hb => ?_)
      ·let E9 : Env := ((23, .bool (decide (a0 ≤ 90))) :: (29, .bool (decide (a0 ≤ 90))) :: (28, .bool (decide (a0 ≤ 90))) :: (27, .int .u8 a0) :: (26, .bool true) :: E6)
       refine oR 5 (p' := g78p13) (eE := E9) (H' := (mkH [])) (by kernel_rfl) ?_
       refine oK [0, 1, 5, 23] (eE := [(0, .int .u8 a0), (1, .int .i64 a1), (5, .int .i64 (-1)), (23, .bool (decide (a0 ≤ 90)))]) (by kernel_rfl) ?_
       exact hj3 (decide (a0 ≤ 90))
      ·let E10 : Env := ((23, .bool false) :: (29, .bool false) :: (28, .tuple []) :: (27, .tuple []) :: (26, .bool false) :: E6)
       refine oR 5 (p' := g78p13) (eE := E10) (H' := (mkH [])) (by kernel_rfl) ?_
       refine oK [0, 1, 5, 23] (eE := [(0, .int .u8 a0), (1, .int .i64 a1), (5, .int .i64 (-1)), (23, .bool false)]) (by kernel_rfl) ?_
       exact hj3 false
   ·refine oS 15 (b := decide (97 ≤ a0)) (by kernel_rfl) (fun hb => ?_) (fun hb => ?_)
    ·let E11 : Env := ((12, .bool (decide (a0 ≤ 122))) :: (18, .bool (decide (a0 ≤ 122))) :: (17, .bool (decide (a0 ≤ 122))) :: (16, .int .u8 a0) :: (15, .bool true) :: E4)
     refine oR 5 (p' := g78p7) (eE := E11) (H' := (mkH [])) (by kernel_rfl) ?_
     refine oK [0, 1, 5, 12] (eE := [(0, .int .u8 a0), (1, .int .i64 a1), (5, .int .i64 (-1)), (12, .bool (decide (a0 ≤ 122)))]) (by kernel_rfl) ?_
     exact hj2 (decide (a0 ≤ 122))
    ·let E12 : Env := ((12, .bool false) :: (18, .bool false) :: (17, .tuple []) :: (16, .tuple []) :: (15, .bool false) :: E4)
     refine oR 5 (p' := g78p7) (eE := E12) (H' := (mkH [])) (by kernel_rfl) ?_
     refine oK [0, 1, 5, 12] (eE := [(0, .int .u8 a0), (1, .int .i64 a1), (5, .int .i64 (-1)), (12, .bool false)]) (by kernel_rfl) ?_
     exact hj2 false
end
end Go.Proofs.Ytbmijiibfaacmaa.Am
set_option maxRecDepth 100000
set_option linter.unusedVariables false
namespace Go.Proofs.Ytbmijiibfaacmaa.Am
noncomputable section
open Go
def X76 : Fx Int := ⟨Try.prog, cx, Try.f76, fun r => .int .i64 r, 0, fun _ => H0, cxTi, cxOrd⟩
def g76p0 : Pt := nav [0] (bodyAt Try.f76)
def g76p1 : Pt := nav [0, 0, 0] g76p0
def g76p2 : Pt := nav [0, 0, 0, 0, 0] g76p1
def g76p3 : Pt := nav [0, 0, 0] g76p2
def g76p4 : Pt := nav [0, 0] g76p3
def g76p5 : Pt := nav [1, 0, 0, 0, 0] g76p4
def g76p6 : Pt := nav [2, 0, 0] g76p4
def g76p7 : Pt := nav [0, 0] g76p5
def g76_l1 (k : Nat)  (a0 : (List Nat)) (a1 : Int) (a2 : Int) (a3 : Bool) (n : Nat) : Int → Option Int :=
 Nat.rec (motive := fun _ => Int → Option Int) (fun _ => none) (fun _ ih => fun (y1_0 : Int) => jn (fun (z3 : Int) => some (fW .i64 (z3 - a1))) (fun j3 => if (decide (y1_0 < (a0.length : Int))) then ((nthS a0 y1_0).bind fun x0_2 => (g78 k x0_2 a2).bind fun x0_4 => jn (fun (z2 : Bool × Int) => if z2.1 then (j3 z2.2) else (ih (fW .i64 (z2.2 + 1)))) (fun j2 => if (decide (x0_4 < 0)) then (if a3 then ((nthS a0 y1_0).bind fun x0_11 => if (decide (x0_11 = 95)) then (if (decide (a1 < y1_0)) then ((nthS a0 (fW .i64 (y1_0 - 1))).bind fun x0_23 => if (!decide (x0_23 = 95)) then (if (decide (fW .i64 (y1_0 + 1) < (a0.length : Int))) then ((nthS a0 (fW .i64 (y1_0 + 1))).bind fun x0_37 => (g78 k x0_37 a2).bind fun x0_39 => j2 (!(decide (0 ≤ x0_39)), y1_0)) else (j2 (true, y1_0))) else (j2 (true, y1_0))) else (j2 (true, y1_0))) else (j2 (true, y1_0))) else (j2 (true, y1_0))) else (j2 (false, y1_0)))) else (j3 y1_0))) n
theorem g76_l1_s (k : Nat)  (a0 : (List Nat)) (a1 : Int) (a2 : Int) (a3 : Bool) (n : Nat) (y1_0 : Int) : g76_l1 k a0 a1 a2 a3 (n + 1) y1_0 = (jn (fun (z3 : Int) => some (fW .i64 (z3 - a1))) (fun j3 => if (decide (y1_0 < (a0.length : Int))) then ((nthS a0 y1_0).bind fun x0_2 => (g78 k x0_2 a2).bind fun x0_4 => jn (fun (z2 : Bool × Int) => if z2.1 then (j3 z2.2) else ((g76_l1 k a0 a1 a2 a3 n) (fW .i64 (z2.2 + 1)))) (fun j2 => if (decide (x0_4 < 0)) then (if a3 then ((nthS a0 y1_0).bind fun x0_11 => if (decide (x0_11 = 95)) then (if (decide (a1 < y1_0)) then ((nthS a0 (fW .i64 (y1_0 - 1))).bind fun x0_23 => if (!decide (x0_23 = 95)) then (if (decide (fW .i64 (y1_0 + 1) < (a0.length : Int))) then ((nthS a0 (fW .i64 (y1_0 + 1))).bind fun x0_37 => (g78 k x0_37 a2).bind fun x0_39 => j2 (!(decide (0 ≤ x0_39)), y1_0)) else (j2 (true, y1_0))) else (j2 (true, y1_0))) else (j2 (true, y1_0))) else (j2 (true, y1_0))) else (j2 (true, y1_0))) else (j2 (false, y1_0)))) else (j3 y1_0))) := rfl
theorem g76_l1_ok (k : Nat)  (a0 : (List Nat)) (a1 : Int) (a2 : Int) (a3 : Bool)  : ∀ (n : Nat) (y1_0 : Int), Ok X76 g76p2 [(0, .str a0), (1, .int .i64 a1), (2, .int .i64 a2), (3, .bool a3), (9, .int .i64 y1_0)] (mkH []) (g76_l1 k a0 a1 a2 a3 n y1_0)
 | 0, _ => ok_none
 | n + 1, y1_0 => by
  have ih := g76_l1_ok k a0 a1 a2 a3 n
  rw [g76_l1_s]
  refine ok_ent (p' := nav [0] g76p2) (by kernel_rfl) ?_
  let E2 : Env := [(14, .bool (decide (y1_0 < (a0.length : Int)))), (13, .int .i64 (a0.length : Int)), (12, .str a0), (11, .int .i64 y1_0), (0, .str a0), (1, .int .i64 a1), (2, .int .i64 a2), (3, .bool a3), (9, .int .i64 y1_0)]
  refine oR 8 (p' := g76p4) (eE := E2) (H' := (mkH [])) (by kernel_rfl) ?_
  refine oJ (f := fun (z3 : Int) => some (fW .i64 (z3 - a1))) g76p6 (fun (z3 : Int) => [(1, .int .i64 a1), (9, .int .i64 z3)]) (fun (z3 : Int) => (mkH [])) (fun z3 => ?_) (fun j3 hj3 => ?_)
  ·let E3 : Env := [(8, .int .i64 (fW .i64 (z3 - a1))), (63, .int .i64 (fW .i64 (z3 - a1))), (62, .int .i64 a1), (61, .int .i64 z3), (1, .int .i64 a1), (9, .int .i64 z3)]
   refine oR 7 (p' := .fin) (eE := E3) (H' := (mkH [])) (by kernel_rfl) ?_
   exact oT (r := (fW .i64 (z3 - a1))) (xs := [.int .i64 (fW .i64 (z3 - a1))]) (v := .int .i64 (fW .i64 (z3 - a1))) (by kernel_rfl) (by kernel_rfl) (by kernel_rfl) (.pures (by kernel_rfl)) (by kernel_rfl)
  ·refine oS 14 (b := decide (y1_0 < (a0.length : Int))) (by kernel_rfl) (fun hb => ?_) (fun hb => ?_)
   ·refine oR 8 (p' := (atN 2 (ctl1 g76p5))) (eE := ((16, .int .i64 y1_0) :: (15, .str a0) :: (14, .bool true) :: E2)) (H' := (mkH [])) (by kernel_rfl) ?_
    refine oH (fun (x0_2 : Int) => (.int .u8 x0_2, (mkH []))) (atN 3 (ctl1 g76p5)) (fun x0_2 => ((17, .int .u8 x0_2) :: (16, .int .i64 y1_0) :: (15, .str a0) :: (14, .bool true) :: E2)) (idxH (by kernel_rfl)) (fun _ => by kernel_rfl) (fun x0_2 hx0_2 => ?_)
    let E4 : Env := ((18, .int .i64 a2) :: (17, .int .u8 x0_2) :: (16, .int .i64 y1_0) :: (15, .str a0) :: (14, .bool true) :: E2)
    refine oR 1 (p' := (atN 4 (ctl1 g76p5))) (eE := E4) (H' := (mkH [])) (by kernel_rfl) ?_
    refine oC (fun (x0_4 : Int) => .int .i64 x0_4) (atN 5 (ctl1 g76p5)) (fun x0_4 => ((19, .int .i64 x0_4) :: E4)) (fi := 78) (args := [.int .u8 x0_2, .int .i64 a2]) (by kernel_rfl) (by kernel_rfl) (fun _ => by kernel_rfl) (fun r h => g78_ok k x0_2 a2 r h) (fun _ => by kernel_rfl) (fun x0_4 hx0_4 => ?_)
    refine oR 2 (p' := (atN 7 (ctl1 g76p5))) (eE := ((21, .bool (decide (x0_4 < 0))) :: (20, .bool (decide (x0_4 < 0))) :: (19, .int .i64 x0_4) :: E4)) (H' := (mkH [])) (by kernel_rfl) ?_
    refine oJ (f := fun (z2 : Bool × Int) => if z2.1 then (j3 z2.2) else ((g76_l1 k a0 a1 a2 a3 n) (fW .i64 (z2.2 + 1)))) g76p7 (fun (z2 : Bool × Int) => [(0, .str a0), (1, .int .i64 a1), (2, .int .i64 a2), (3, .bool a3), (9, .int .i64 z2.2), (58, .bool z2.1)]) (fun (z2 : Bool × Int) => (mkH [])) (fun z2 => ?_) (fun j2 hj2 => ?_)
    ·refine oS 58 (b := z2.1) (by kernel_rfl) (fun hb => ?_) (fun hb => ?_)
     ·let E5 : Env := [(58, .bool true), (0, .str a0), (1, .int .i64 a1), (2, .int .i64 a2), (3, .bool a3), (9, .int .i64 z2.2), (58, .bool z2.1)]
      refine oR 3 (p' := g76p6) (eE := E5) (H' := (mkH [])) (by kernel_rfl) ?_
      refine oK [1, 9] (eE := [(1, .int .i64 a1), (9, .int .i64 z2.2)]) (by kernel_rfl) ?_
      exact hj3 z2.2
     ·let E6 : Env := [(9, .int .i64 (fW .i64 (z2.2 + 1))), (60, .int .i64 (fW .i64 (z2.2 + 1))), (59, .int .i64 z2.2), (58, .bool false), (0, .str a0), (1, .int .i64 a1), (2, .int .i64 a2), (3, .bool a3), (9, .int .i64 z2.2), (58, .bool z2.1)]
      refine oR 7 (p' := g76p2) (eE := E6) (H' := (mkH [])) (by kernel_rfl) ?_
      refine oK [0, 1, 2, 3, 9] (eE := [(0, .str a0), (1, .int .i64 a1), (2, .int .i64 a2), (3, .bool a3), (9, .int .i64 (fW .i64 (z2.2 + 1)))]) (by kernel_rfl) ?_
      exact ih (fW .i64 (z2.2 + 1))
    ·refine oS 21 (b := decide (x0_4 < 0)) (by kernel_rfl) (fun hb => ?_) (fun hb => ?_)
     ·let E7 : Env := ((23, .bool a3) :: (22, .bool a3) :: (21, .bool true) :: (21, .bool (decide (x0_4 < 0))) :: (20, .bool (decide (x0_4 < 0))) :: (19, .int .i64 x0_4) :: E4)
      refine oR 2 (p' := (atN 9 (ctl1 g76p5))) (eE := E7) (H' := (mkH [])) (by kernel_rfl) ?_
      refine oS 23 (b := a3) (by kernel_rfl) (fun hb => ?_) (fun hb => ?_)
      ·refine oR 2 (p' := (atN 11 (ctl1 g76p5))) (eE := ((25, .int .i64 y1_0) :: (24, .str a0) :: (23, .bool true) :: E7)) (H' := (mkH [])) (by kernel_rfl) ?_
       refine oH (fun (x0_11 : Int) => (.int .u8 x0_11, (mkH []))) (atN 12 (ctl1 g76p5)) (fun x0_11 => ((26, .int .u8 x0_11) :: (25, .int .i64 y1_0) :: (24, .str a0) :: (23, .bool true) :: E7)) (idxH (by kernel_rfl)) (fun _ => by kernel_rfl) (fun x0_11 hx0_11 => ?_)
       let E8 : Env := ((29, .bool (decide (x0_11 = 95))) :: (28, .bool (decide (x0_11 = 95))) :: (27, .bool (decide (x0_11 = 95))) :: (26, .int .u8 x0_11) :: (25, .int .i64 y1_0) :: (24, .str a0) :: (23, .bool true) :: E7)
       refine oR 3 (p' := (atN 15 (ctl1 g76p5))) (eE := E8) (H' := (mkH [])) (by kernel_rfl) ?_
       refine oS 29 (b := decide (x0_11 = 95)) (by kernel_rfl) (fun hb => ?_) (fun hb => ?_)
       ·let E9 : Env := ((34, .bool (decide (a1 < y1_0))) :: (33, .bool (decide (a1 < y1_0))) :: (32, .bool (decide (a1 < y1_0))) :: (31, .int .i64 a1) :: (30, .int .i64 y1_0) :: (29, .bool true) :: E8)
        refine oR 5 (p' := (atN 20 (ctl1 g76p5))) (eE := E9) (H' := (mkH [])) (by kernel_rfl) ?_
        refine oS 34 (b := decide (a1 < y1_0)) (by kernel_rfl) (fun hb => ?_) (fun hb => ?_)
        ·refine oR 3 (p' := (atN 23 (ctl1 g76p5))) (eE := ((37, .int .i64 (fW .i64 (y1_0 - 1))) :: (36, .int .i64 y1_0) :: (35, .str a0) :: (34, .bool true) :: E9)) (H' := (mkH [])) (by kernel_rfl) ?_
         refine oH (fun (x0_23 : Int) => (.int .u8 x0_23, (mkH []))) (atN 24 (ctl1 g76p5)) (fun x0_23 => ((38, .int .u8 x0_23) :: (37, .int .i64 (fW .i64 (y1_0 - 1))) :: (36, .int .i64 y1_0) :: (35, .str a0) :: (34, .bool true) :: E9)) (idxH (by kernel_rfl)) (fun _ => by kernel_rfl) (fun x0_23 hx0_23 => ?_)
         let E10 : Env := ((41, .bool (!decide (x0_23 = 95))) :: (40, .bool (!decide (x0_23 = 95))) :: (39, .bool (!decide (x0_23 = 95))) :: (38, .int .u8 x0_23) :: (37, .int .i64 (fW .i64 (y1_0 - 1))) :: (36, .int .i64 y1_0) :: (35, .str a0) :: (34, .bool true) :: E9)
         refine oR 3 (p' := (atN 27 (ctl1 g76p5))) (eE := E10) (H' := (mkH [])) (by kernel_rfl) ?_
         refine oS 41 (b := !decide (x0_23 = 95)) (by kernel_rfl) (fun hb => ?_) (fun hb => ?_)
         ·let E11 : Env := ((48, .bool (decide (fW .i64 (y1_0 + 1) < (a0.length : Int)))) :: (47, .bool (decide (fW .i64 (y1_0 + 1) < (a0.length : Int)))) :: (46, .bool (decide (fW .i64 (y1_0 + 1) < (a0.length : Int)))) :: (45, .int .i64 (a0.length : Int)) :: (44, .str a0) :: (43, .int .i64 (fW .i64 (y1_0 + 1))) :: (42, .int .i64 y1_0) :: (41, .bool true) :: E10)
          refine oR 7 (p' := (atN 34 (ctl1 g76p5))) (eE := E11) (H' := (mkH [])) (by kernel_rfl) ?_
          refine oS 48 (b := decide (fW .i64 (y1_0 + 1) < (a0.length : Int))) (by kernel_rfl) (fun hb => ?_) (fun hb => ?_)
          ·refine oR 3 (p' := (atN 37 (ctl1 g76p5))) (eE := ((51, .int .i64 (fW .i64 (y1_0 + 1))) :: (50, .int .i64 y1_0) :: (49, .str a0) :: (48, .bool true) :: E11)) (H' := (mkH [])) (by kernel_rfl) ?_
           refine oH (fun (x0_37 : Int) => (.int .u8 x0_37, (mkH []))) (atN 38 (ctl1 g76p5)) (fun x0_37 => ((52, .int .u8 x0_37) :: (51, .int .i64 (fW .i64 (y1_0 + 1))) :: (50, .int .i64 y1_0) :: (49, .str a0) :: (48, .bool true) :: E11)) (idxH (by kernel_rfl)) (fun _ => by kernel_rfl) (fun x0_37 hx0_37 => ?_)
           let E12 : Env := ((53, .int .i64 a2) :: (52, .int .u8 x0_37) :: (51, .int .i64 (fW .i64 (y1_0 + 1))) :: (50, .int .i64 y1_0) :: (49, .str a0) :: (48, .bool true) :: E11)
           refine oR 1 (p' := (atN 39 (ctl1 g76p5))) (eE := E12) (H' := (mkH [])) (by kernel_rfl) ?_
           refine oC (fun (x0_39 : Int) => .int .i64 x0_39) (atN 40 (ctl1 g76p5)) (fun x0_39 => ((54, .int .i64 x0_39) :: E12)) (fi := 78) (args := [.int .u8 x0_37, .int .i64 a2]) (by kernel_rfl) (by kernel_rfl) (fun _ => by kernel_rfl) (fun r h => g78_ok k x0_37 a2 r h) (fun _ => by kernel_rfl) (fun x0_39 hx0_39 => ?_)
           let E13 : Env := ((58, .bool (!(decide (0 ≤ x0_39)))) :: (57, .bool (!(decide (0 ≤ x0_39)))) :: (56, .bool (decide (0 ≤ x0_39))) :: (55, .bool (decide (0 ≤ x0_39))) :: (54, .int .i64 x0_39) :: E12)
           refine oR 5 (p' := g76p7) (eE := E13) (H' := (mkH [])) (by kernel_rfl) ?_
           refine oK [0, 1, 2, 3, 9, 58] (eE := [(0, .str a0), (1, .int .i64 a1), (2, .int .i64 a2), (3, .bool a3), (9, .int .i64 y1_0), (58, .bool (!(decide (0 ≤ x0_39))))]) (by kernel_rfl) ?_
           exact hj2 (!(decide (0 ≤ x0_39)), y1_0)
          ·let E14 : Env := ((58, .bool true) :: (57, .bool true) :: (56, .bool false) :: (55, .tuple []) :: (54, .tuple []) :: (53, .tuple []) :: (52, .tuple []) :: (51, .tuple []) :: (50, .tuple []) :: (49, .tuple []) :: (48, .bool false) :: E11)
           refine oR 11 (p' := g76p7) (eE := E14) (H' := (mkH [])) (by kernel_rfl) ?_
           refine oK [0, 1, 2, 3, 9, 58] (eE := [(0, .str a0), (1, .int .i64 a1), (2, .int .i64 a2), (3, .bool a3), (9, .int .i64 y1_0), (58, .bool true)]) (by kernel_rfl) ?_
           exact hj2 (true, y1_0)
         ·let E15 : Env := ((58, .bool true) :: (57, .bool true) :: (56, .bool false) :: (55, .tuple []) :: (54, .tuple []) :: (53, .tuple []) :: (52, .tuple []) :: (51, .tuple []) :: (50, .tuple []) :: (49, .tuple []) :: (48, .bool false) :: (47, .bool false) :: (46, .tuple []) :: (45, .tuple []) :: (44, .tuple []) :: (43, .tuple []) :: (42, .tuple []) :: (41, .bool false) :: E10)
          refine oR 18 (p' := g76p7) (eE := E15) (H' := (mkH [])) (by kernel_rfl) ?_
          refine oK [0, 1, 2, 3, 9, 58] (eE := [(0, .str a0), (1, .int .i64 a1), (2, .int .i64 a2), (3, .bool a3), (9, .int .i64 y1_0), (58, .bool true)]) (by kernel_rfl) ?_
          exact hj2 (true, y1_0)
        ·let E16 : Env := ((58, .bool true) :: (57, .bool true) :: (56, .bool false) :: (55, .tuple []) :: (54, .tuple []) :: (53, .tuple []) :: (52, .tuple []) :: (51, .tuple []) :: (50, .tuple []) :: (49, .tuple []) :: (48, .bool false) :: (47, .bool false) :: (46, .tuple []) :: (45, .tuple []) :: (44, .tuple []) :: (43, .tuple []) :: (42, .tuple []) :: (41, .bool false) :: (40, .bool false) :: (39, .tuple []) :: (38, .tuple []) :: (37, .tuple []) :: (36, .tuple []) :: (35, .tuple []) :: (34, .bool false) :: E9)
         refine oR 25 (p' := g76p7) (eE := E16) (H' := (mkH [])) (by kernel_rfl) ?_
         refine oK [0, 1, 2, 3, 9, 58] (eE := [(0, .str a0), (1, .int .i64 a1), (2, .int .i64 a2), (3, .bool a3), (9, .int .i64 y1_0), (58, .bool true)]) (by kernel_rfl) ?_
         exact hj2 (true, y1_0)
       ·let E17 : Env := ((58, .bool true) :: (57, .bool true) :: (56, .bool false) :: (55, .tuple []) :: (54, .tuple []) :: (53, .tuple []) :: (52, .tuple []) :: (51, .tuple []) :: (50, .tuple []) :: (49, .tuple []) :: (48, .bool false) :: (47, .bool false) :: (46, .tuple []) :: (45, .tuple []) :: (44, .tuple []) :: (43, .tuple []) :: (42, .tuple []) :: (41, .bool false) :: (40, .bool false) :: (39, .tuple []) :: (38, .tuple []) :: (37, .tuple []) :: (36, .tuple []) :: (35, .tuple []) :: (34, .bool false) :: (33, .bool false) :: (32, .tuple []) :: (31, .tuple []) :: (30, .tuple []) :: (29, .bool false) :: E8)
        refine oR 30 (p' := g76p7) (eE := E17) (H' := (mkH [])) (by kernel_rfl) ?_
        refine oK [0, 1, 2, 3, 9, 58] (eE := [(0, .str a0), (1, .int .i64 a1), (2, .int .i64 a2), (3, .bool a3), (9, .int .i64 y1_0), (58, .bool true)]) (by kernel_rfl) ?_
        exact hj2 (true, y1_0)
      ·let E18 : Env := ((58, .bool true) :: (57, .bool true) :: (56, .bool false) :: (55, .tuple []) :: (54, .tuple []) :: (53, .tuple []) :: (52, .tuple []) :: (51, .tuple []) :: (50, .tuple []) :: (49, .tuple []) :: (48, .bool false) :: (47, .bool false) :: (46, .tuple []) :: (45, .tuple []) :: (44, .tuple []) :: (43, .tuple []) :: (42, .tuple []) :: (41, .bool false) :: (40, .bool false) :: (39, .tuple []) :: (38, .tuple []) :: (37, .tuple []) :: (36, .tuple []) :: (35, .tuple []) :: (34, .bool false) :: (33, .bool false) :: (32, .tuple []) :: (31, .tuple []) :: (30, .tuple []) :: (29, .bool false) :: (28, .bool false) :: (27, .tuple []) :: (26, .tuple []) :: (25, .tuple []) :: (24, .tuple []) :: (23, .bool false) :: E7)
       refine oR 36 (p' := g76p7) (eE := E18) (H' := (mkH [])) (by kernel_rfl) ?_
       refine oK [0, 1, 2, 3, 9, 58] (eE := [(0, .str a0), (1, .int .i64 a1), (2, .int .i64 a2), (3, .bool a3), (9, .int .i64 y1_0), (58, .bool true)]) (by kernel_rfl) ?_
       exact hj2 (true, y1_0)
     ·let E19 : Env := ((58, .bool false) :: (57, .tuple []) :: (56, .tuple []) :: (55, .tuple []) :: (54, .tuple []) :: (53, .tuple []) :: (52, .tuple []) :: (51, .tuple []) :: (50, .tuple []) :: (49, .tuple []) :: (48, .tuple []) :: (47, .tuple []) :: (46, .tuple []) :: (45, .tuple []) :: (44, .tuple []) :: (43, .tuple []) :: (42, .tuple []) :: (41, .tuple []) :: (40, .tuple []) :: (39, .tuple []) :: (38, .tuple []) :: (37, .tuple []) :: (36, .tuple []) :: (35, .tuple []) :: (34, .tuple []) :: (33, .tuple []) :: (32, .tuple []) :: (31, .tuple []) :: (30, .tuple []) :: (29, .tuple []) :: (28, .tuple []) :: (27, .tuple []) :: (26, .tuple []) :: (25, .tuple []) :: (24, .tuple []) :: (23, .tuple []) :: (22, .tuple []) :: (21, .bool false) :: (21, .bool (decide (x0_4 < 0))) :: (20, .bool (decide (x0_4 < 0))) :: (19, .int .i64 x0_4) :: E4)
      refine oR 38 (p' := g76p7) (eE := E19) (H' := (mkH [])) (by kernel_rfl) ?_
      refine oK [0, 1, 2, 3, 9, 58] (eE := [(0, .str a0), (1, .int .i64 a1), (2, .int .i64 a2), (3, .bool a3), (9, .int .i64 y1_0), (58, .bool false)]) (by kernel_rfl) ?_
      exact hj2 (false, y1_0)
   ·refine oR 3 (p' := g76p6) (eE := ((14, .bool false) :: E2)) (H' := (mkH [])) (by kernel_rfl) ?_
    refine oK [1, 9] (eE := [(1, .int .i64 a1), (9, .int .i64 y1_0)]) (by kernel_rfl) ?_
    exact hj3 y1_0
def g76 (k : Nat) (a0 : (List Nat)) (a1 : Int) (a2 : Int) (a3 : Bool) : Option Int :=
 g76_l1 k a0 a1 a2 a3 k a1
theorem g76_ok (k : Nat) (a0 : (List Nat)) (a1 : Int) (a2 : Int) (a3 : Bool) (r : Int) (h : g76 k a0 a1 a2 a3 = some r) : PureOk Try.prog 76 [.str a0, .int .i64 a1, .int .i64 a2, .bool a3] (.int .i64 r) := by
 refine pure_of X76 (fun _ => rfl) Try.func76 (by decide +kernel) (by kernel_rfl) (t := g76 k a0 a1 a2 a3) ?_ h
 unfold g76
 refine oE (eE := [(0, .str a0), (1, .int .i64 a1), (2, .int .i64 a2), (3, .bool a3)]) (by kernel_rfl) ?_
 let E1 : Env := [(9, .int .i64 a1), (10, .int .i64 a1), (8, .int .i64 0), (0, .str a0), (1, .int .i64 a1), (2, .int .i64 a2), (3, .bool a3)]
 refine oR 12 (p' := g76p2) (eE := E1) (H' := (mkH [])) (by kernel_rfl) ?_
 refine oK [0, 1, 2, 3, 9] (eE := [(0, .str a0), (1, .int .i64 a1), (2, .int .i64 a2), (3, .bool a3), (9, .int .i64 a1)]) (by kernel_rfl) ?_
 exact (g76_l1_ok k a0 a1 a2 a3 k) a1
end
end Go.Proofs.Ytbmijiibfaacmaa.Am
set_option maxRecDepth 100000
set_option linter.unusedVariables false
set_option linter.unusedSimpArgs false
namespace Go.Proofs.Ytbmijiibfaacmaa.Am
open Go
def dgN (c : Nat) : Nat := if 48 ≤ c ∧ c ≤ 57 then c - 48 else if 97 ≤ c ∧ c ≤ 122 then c - 87 else if 65 ≤ c ∧ c ≤ 90 then c - 55 else 99
def isD (b : Nat) (s : List Nat) : Bool := match s with | d :: _ => decide (dgN d < b) | [] => false
theorem isD_nil (b : Nat) : isD b [] = false := rfl
theorem isD_cons (b d : Nat) (r : List Nat) : isD b (d :: r) = decide (dgN d < b) := rfl
def runN (b : Nat) : Bool → List Nat → Nat
 | _, [] => 0
 | p, c :: r => if dgN c < b then runN b true r + 1 else if p && decide (c = 95) && isD b r then runN b false r + 1 else 0
theorem runN_cons (b : Nat) (p : Bool) (c : Nat) (r : List Nat) : runN b p (c :: r) = if dgN c < b then runN b true r + 1 else if p && decide (c = 95) && isD b r then runN b false r + 1 else 0 := rfl
def barN (b : Nat) : List Nat → Nat
 | [] => 0
 | c :: r => if dgN c < b then barN b r + 1 else 0
theorem dg_le (c : Nat) : dgN c ≤ 99 := by
 unfold dgN; repeat' split
 all_goals omega
theorem runN_le (b : Nat) : ∀ (p : Bool) (s : List Nat), runN b p s ≤ s.length
 | _, [] => Nat.le_refl _
 | p, c :: r => by
  have h1 := runN_le b true r
  have h2 := runN_le b false r
  simp only [runN, List.length_cons]
  repeat' split
  all_goals omega
theorem barN_le (b : Nat) : ∀ (s : List Nat), barN b s ≤ s.length
 | [] => Nat.le_refl _
 | c :: r => by
  have h1 := barN_le b r
  simp only [barN, List.length_cons]
  split <;> omega
theorem dg_95 : dgN 95 = 99 := by decide
theorem value_at (k : Nat) {c b : Nat} (h : c < 256) (hb : b ≤ 99) : g78 k (c : Int) (b : Int) = some (if dgN c < b then ((dgN c : Nat) : Int) else -1) := by
 have w := byteAll (f := fun c => decide (g78 0 (c : Int) 99 = some (if dgN c < 99 then ((dgN c : Nat) : Int) else -1))) (by decide +kernel) h
 have w : g78 k (c : Int) 99 = some (if dgN c < 99 then ((dgN c : Nat) : Int) else -1) := of_decide_eq_true w
 have hd := dg_le c
 unfold g78 at w ⊢
 revert w
 generalize g71 k (c : Int) = D
 generalize fW .i64 (fW .u8 ((c : Int) - 48)) = A
 generalize fW .i64 (fW .i64 (fW .u8 ((c : Int) - 97)) + 10) = B
 generalize fW .i64 (fW .i64 (fW .u8 ((c : Int) - 65)) + 10) = C
 have key : ∀ x : Int, (if decide ((99 : Int) ≤ x) then some (-1 : Int) else some x) = some (if dgN c < 99 then ((dgN c : Nat) : Int) else -1) → (if decide ((b : Int) ≤ x) then some (-1 : Int) else some x) = some (if dgN c < b then ((dgN c : Nat) : Int) else -1) := by
  intro x hx
  by_cases h1 : (99 : Int) ≤ x
  ·rw [decide_eq_true h1, if_pos rfl] at hx
   have := Option.some.inj hx
   rw [decide_eq_true (by omega : (b : Int) ≤ x), if_pos rfl]
   split at this
   ·omega
   ·rw [if_neg (by omega)]
  ·rw [decide_eq_false h1, if_neg (by decide)] at hx
   have := Option.some.inj hx
   by_cases h2 : (b : Int) ≤ x
   ·rw [decide_eq_true h2, if_pos rfl]
    split at this
    ·rw [if_neg (by omega)]
    ·omega
   ·rw [decide_eq_false h2, if_neg (by decide), this]
    split at this
    ·rw [if_pos (by omega), if_pos (by omega)]
    ·rw [if_neg (by omega), if_neg (by omega)]
 cases D with
 | none => intro w; cases w
 | some d =>
  have m1 := key (-1)
  have m2 := key A
  have m3 := key B
  have m4 := key C
  simp only [Option.bind_some, jn]
  generalize decide (65 ≤ (c : Int)) = p1
  generalize decide ((c : Int) ≤ 90) = p2
  generalize decide (97 ≤ (c : Int)) = p3
  generalize decide ((c : Int) ≤ 122) = p4
  cases d <;> cases p1 <;> cases p2 <;> cases p3 <;> cases p4 <;> first | exact m1 | exact m2 | exact m3 | exact m4
theorem rrun_l (k : Nat) {s : List Nat} (hs : By s) (hl : Sz s) {b : Nat} (hb : b ≤ 99) (a : Nat) : ∀ (f i : Nat), s.length < i + f → i ≤ s.length → a ≤ i → ∀ p : Bool, (p = true ↔ a < i ∧ ∃ c r, s.drop (i - 1) = c :: r ∧ c ≠ 95) →
 g76_l1 k s (a : Int) (b : Int) true f (i : Int) = some ((i - a + runN b p (s.drop i) : Nat) : Int)
 | 0, i, h, h2, h3, p, hp => by omega
 | f + 1, i, h, h2, h3, p, hp => by
  unfold Sz at hl
  rw [g76_l1_s]
  rcases Nat.lt_or_ge i s.length with hi | hi
  ·obtain ⟨c, r, hc, hr, hm, hrl⟩ := dcons hi
   have ih := rrun_l k hs hl hb a f (i + 1) (by omega) (by omega) (by omega)
   rw [hr] at ih
   have e : ((i : Int) + 1) = ((i + 1 : Nat) : Int) := by push_cast; rfl
   by_cases hd : dgN c < b
   ·have c95 : c ≠ 95 := by intro h; rw [h, dg_95] at hd; omega
    have := ih true ⟨fun _ => ⟨by omega, c, r, by simpa using hc, c95⟩, fun _ => rfl⟩
    simp (disch := omega) only [↓reduceIte, ↓jn, gsL, nthX rfl hc, value_at k (hs c hm) hb, hc, runN_cons, hd, e, this]
    exact sn (by omega)
   ·have out : ∀ x : Nat, x = 0 → some ((i : Int) - (a : Int)) = some (((i - a + x : Nat)) : Int) := by
     intro x hx; subst hx; congr 1; omega
    by_cases h95 : c = 95
    ·subst h95
     cases p with
     | true =>
      obtain ⟨ha, c', r', hc', hne⟩ := hp.1 rfl
      have hx : (i : Int) - 1 = ((i - 1 : Nat) : Int) := by omega
      have hne' : ¬ ((c' : Int) = 95) := by omega
      cases r with
      | nil =>
       simp only [List.length_nil] at hrl
       simp (disch := omega) only [↓reduceIte, ↓jn, gsL, nthX rfl hc, value_at k (hs _ hm) hb, hc, runN_cons, hd, nthX hx hc', hne', isD_nil]
       exact out _ rfl
      | cons d r =>
       simp only [List.length_cons] at hrl
       have d256 : d < 256 := by
        have := hs.drop i; rw [hc] at this; exact this d (by simp)
       by_cases hdd : dgN d < b
       ·have hq : false = true ↔ a < i + 1 ∧ ∃ c r, s.drop (i + 1 - 1) = c :: r ∧ c ≠ 95 := by
         constructor
         ·intro h; cases h
         ·rintro ⟨-, c, r, h1, h2⟩
          rw [Nat.add_sub_cancel, hc] at h1
          exact absurd (List.cons.inj h1).1.symm h2
        have := ih false hq
        simp (disch := omega) only [↓reduceIte, ↓jn, gsL, nthX rfl hc, value_at k (hs _ hm) hb, value_at k d256 hb, hc, runN_cons, hd, nthX hx hc', nthX e hr, nthX rfl hr, hne', isD_cons, hdd, e, this]
        exact sn (by omega)
       ·simp (disch := omega) only [↓reduceIte, ↓jn, gsL, nthX rfl hc, value_at k (hs _ hm) hb, value_at k d256 hb, hc, runN_cons, hd, nthX hx hc', nthX e hr, nthX rfl hr, hne', isD_cons, hdd]
        exact out _ rfl
     | false =>
      by_cases ha : a < i
      ·obtain ⟨c', r', hc', hr', hm', -⟩ := dcons (s := s) (i := i - 1) (by omega)
       have hx : (i : Int) - 1 = ((i - 1 : Nat) : Int) := by omega
       have h95' : c' = 95 := by
        rcases Nat.lt_or_ge c' 95 with h | h
        ·exact absurd (hp.2 ⟨ha, c', r', hc', by omega⟩) (by decide)
        ·rcases Nat.lt_or_ge 95 c' with h | h
         ·exact absurd (hp.2 ⟨ha, c', r', hc', by omega⟩) (by decide)
         ·omega
       subst h95'
       simp (disch := omega) only [↓reduceIte, ↓jn, gsL, nthX rfl hc, value_at k (hs _ hm) hb, hc, runN_cons, hd, nthX hx hc']
       exact out _ rfl
      ·simp (disch := omega) only [↓reduceIte, ↓jn, gsL, nthX rfl hc, value_at k (hs _ hm) hb, hc, runN_cons, hd]
       exact out _ rfl
    ·simp (disch := omega) only [↓reduceIte, ↓jn, gsL, nthX rfl hc, value_at k (hs _ hm) hb, hc, runN_cons, hd]
     exact out _ rfl
  ·simp (disch := omega) only [↓reduceIte, ↓jn, gsL, dnil hi, runN]
   congr 1; omega
theorem rrun_at {k : Nat} {s : List Nat} (hk : s.length < k) (hs : By s) (hl : Sz s) {b : Nat} (hb : b ≤ 99) {a : Nat} (ha : a ≤ s.length) : g76 k s (a : Int) (b : Int) true = some ((runN b false (s.drop a) : Nat) : Int) := by
 have := rrun_l k hs hl hb a k a (by omega) ha (Nat.le_refl _) false ⟨fun h => (by cases h), fun ⟨h, _⟩ => absurd h (Nat.lt_irrefl _)⟩
 rw [Nat.sub_self, Nat.zero_add] at this
 exact this
theorem rbar_l (k : Nat) {s : List Nat} (hs : By s) (hl : Sz s) (a : Nat) : ∀ (f i : Nat), s.length < i + f → i ≤ s.length → a ≤ i →
 g76_l1 k s (a : Int) 10 false f (i : Int) = some ((i - a + barN 10 (s.drop i) : Nat) : Int)
 | 0, i, h, h2, h3 => by omega
 | f + 1, i, h, h2, h3 => by
  unfold Sz at hl
  rw [g76_l1_s]
  rcases Nat.lt_or_ge i s.length with hi | hi
  ·obtain ⟨c, r, hc, hr, hm, hrl⟩ := dcons hi
   have ih := rbar_l k hs hl a f (i + 1) (by omega) (by omega) (by omega)
   rw [hr] at ih
   have e : ((i : Int) + 1) = ((i + 1 : Nat) : Int) := by push_cast; rfl
   have v := value_at k (b := 10) (hs c hm) (by decide)
   have v : g78 k (c : Int) 10 = some (if dgN c < 10 then ((dgN c : Nat) : Int) else -1) := v
   by_cases hd : dgN c < 10
   ·simp (disch := omega) only [↓reduceIte, ↓jn, gsL, nthX rfl hc, v, hc, barN, hd, e, ih]
    exact sn (by omega)
   ·simp (disch := omega) only [↓reduceIte, ↓jn, gsL, nthX rfl hc, v, hc, barN, hd]
    congr 1; omega
  ·simp (disch := omega) only [↓reduceIte, ↓jn, gsL, dnil hi, barN]
   congr 1; omega
theorem rbar_at {k : Nat} {s : List Nat} (hk : s.length < k) (hs : By s) (hl : Sz s) {a : Nat} (ha : a ≤ s.length) : g76 k s (a : Int) 10 false = some ((barN 10 (s.drop a) : Nat) : Int) := by
 have := rbar_l k hs hl a k a (by omega) ha (Nat.le_refl _)
 rw [Nat.sub_self, Nat.zero_add] at this
 exact this
end Go.Proofs.Ytbmijiibfaacmaa.Am
set_option maxRecDepth 100000
set_option linter.unusedVariables false
namespace Go.Proofs.Ytbmijiibfaacmaa.Am
noncomputable section
open Go
def X73 : Fx Int := ⟨Try.prog, cx, Try.f73, fun r => .int .i64 r, 0, fun _ => H0, cxTi, cxOrd⟩
def g73p0 : Pt := nav [0] (bodyAt Try.f73)
def g73p1 : Pt := nav [0, 0, 0] g73p0
def g73p2 : Pt := nav [0, 0, 0] g73p1
def g73p3 : Pt := nav [0, 0, 0, 0] g73p2
def g73p4 : Pt := nav [0, 0] g73p3
def g73p5 : Pt := nav [1, 0] g73p4
def g73p6 : Pt := nav [2, 0, 0] g73p4
def g73p7 : Pt := nav [0, 0, 0, 0] g73p5
def g73p9 : Pt := nav [0, 0, 0, 0] g73p7
def g73p10 : Pt := nav [0, 0, 0] g73p9
def g73p11 : Pt := nav [0, 0] g73p10
def g73p12 : Pt := nav [1, 0, 0, 0] g73p11
def g73p13 : Pt := nav [2, 0, 0] g73p11
def g73p14 : Pt := nav [0, 0] g73p12
def g73p15 : Pt := nav [0, 0, 0] g73p13
def g73p16 : Pt := nav [0, 0] g73p15
def g73_l6 (k : Nat) (c8 : Unit → Option Int) (a0 : (List Nat)) (a1 : Int) (x0_2 : Int) (x1_2 : Int) (n : Nat) : Int → Int → Option Int :=
 Nat.rec (motive := fun _ => Int → Int → Option Int) (fun _ _ => none) (fun _ ih => fun (y6_0 : Int) (y6_1 : Int) => if (decide (y6_1 < fW .i64 (a1 + x1_2))) then ((nthS a0 y6_1).bind fun x3_4 => ih (fW .i64 (fW .i64 (y6_0 * 10) + fW .i64 (fW .u8 (x3_4 - 48)))) (fW .i64 (y6_1 + 1))) else ((g76 k a0 (fW .i64 (fW .i64 (a1 + x1_2) + 1)) y6_0 true).bind fun x4_6 => jn (fun (z7 : Bool) => if z7 then (some (fW .i64 (fW .i64 (x1_2 + 1) + x4_6))) else (c8 ())) (fun j7 => if (decide (2 ≤ y6_0)) then (if (decide (y6_0 ≤ 36)) then (j7 (decide (0 < x4_6))) else (j7 false)) else (j7 false)))) n
theorem g73_l6_s (k : Nat) (c8 : Unit → Option Int) (a0 : (List Nat)) (a1 : Int) (x0_2 : Int) (x1_2 : Int) (n : Nat) (y6_0 : Int) (y6_1 : Int) : g73_l6 k c8 a0 a1 x0_2 x1_2 (n + 1) y6_0 y6_1 = (if (decide (y6_1 < fW .i64 (a1 + x1_2))) then ((nthS a0 y6_1).bind fun x3_4 => (g73_l6 k c8 a0 a1 x0_2 x1_2 n) (fW .i64 (fW .i64 (y6_0 * 10) + fW .i64 (fW .u8 (x3_4 - 48)))) (fW .i64 (y6_1 + 1))) else ((g76 k a0 (fW .i64 (fW .i64 (a1 + x1_2) + 1)) y6_0 true).bind fun x4_6 => jn (fun (z7 : Bool) => if z7 then (some (fW .i64 (fW .i64 (x1_2 + 1) + x4_6))) else (c8 ())) (fun j7 => if (decide (2 ≤ y6_0)) then (if (decide (y6_0 ≤ 36)) then (j7 (decide (0 < x4_6))) else (j7 false)) else (j7 false)))) := rfl
theorem g73_l6_ok (k : Nat) (c8 : Unit → Option Int) (a0 : (List Nat)) (a1 : Int) (x0_2 : Int) (x1_2 : Int) (hc8 : ∀ z8 : Unit, Ok X73 g73p6 ((fun (z8 : Unit) => [(5, .int .i64 x0_2)]) z8) ((fun (z8 : Unit) => (mkH [])) z8) (c8 z8)) : ∀ (n : Nat) (y6_0 : Int) (y6_1 : Int), Ok X73 g73p9 [(0, .str a0), (1, .int .i64 a1), (5, .int .i64 x0_2), (6, .int .i64 x1_2), (7, .int .i64 y6_0), (8, .int .i64 y6_1)] (mkH []) (g73_l6 k c8 a0 a1 x0_2 x1_2 n y6_0 y6_1)
 | 0, _, _ => ok_none
 | n + 1, y6_0, y6_1 => by
  have ih := g73_l6_ok k c8 a0 a1 x0_2 x1_2 hc8 n
  rw [g73_l6_s]
  refine ok_ent (p' := nav [0] g73p9) (by kernel_rfl) ?_
  let E5 : Env := [(43, .bool (decide (y6_1 < fW .i64 (a1 + x1_2)))), (42, .int .i64 (fW .i64 (a1 + x1_2))), (41, .int .i64 x1_2), (40, .int .i64 a1), (39, .int .i64 y6_1), (0, .str a0), (1, .int .i64 a1), (5, .int .i64 x0_2), (6, .int .i64 x1_2), (7, .int .i64 y6_0), (8, .int .i64 y6_1)]
  refine oR 9 (p' := g73p11) (eE := E5) (H' := (mkH [])) (by kernel_rfl) ?_
  refine oS 43 (b := decide (y6_1 < fW .i64 (a1 + x1_2))) (by kernel_rfl) (fun hb => ?_) (fun hb => ?_)
  ·let E6 : Env := ((49, .int .i64 y6_1) :: (48, .str a0) :: (47, .int .i64 (fW .i64 (y6_0 * 10))) :: (46, .int .i64 y6_0) :: (43, .bool true) :: E5)
   refine oR 9 (p' := (atN 4 (ctl1 g73p12))) (eE := E6) (H' := (mkH [])) (by kernel_rfl) ?_
   refine oH (fun (x3_4 : Int) => (.int .u8 x3_4, (mkH []))) (atN 5 (ctl1 g73p12)) (fun x3_4 => ((50, .int .u8 x3_4) :: E6)) (idxH (by kernel_rfl)) (fun _ => by kernel_rfl) (fun x3_4 hx3_4 => ?_)
   let E7 : Env := ((7, .int .i64 (fW .i64 (fW .i64 (y6_0 * 10) + fW .i64 (fW .u8 (x3_4 - 48))))) :: (53, .int .i64 (fW .i64 (fW .i64 (y6_0 * 10) + fW .i64 (fW .u8 (x3_4 - 48))))) :: (52, .int .i64 (fW .i64 (fW .u8 (x3_4 - 48)))) :: (51, .int .u8 (fW .u8 (x3_4 - 48))) :: (50, .int .u8 x3_4) :: E6)
   refine oR 5 (p' := g73p14) (eE := E7) (H' := (mkH [])) (by kernel_rfl) ?_
   refine oK [0, 1, 5, 6, 7, 8] (eE := [(0, .str a0), (1, .int .i64 a1), (5, .int .i64 x0_2), (6, .int .i64 x1_2), (7, .int .i64 (fW .i64 (fW .i64 (y6_0 * 10) + fW .i64 (fW .u8 (x3_4 - 48))))), (8, .int .i64 y6_1)]) (by kernel_rfl) ?_
   let E8 : Env := [(8, .int .i64 (fW .i64 (y6_1 + 1))), (45, .int .i64 (fW .i64 (y6_1 + 1))), (44, .int .i64 y6_1), (0, .str a0), (1, .int .i64 a1), (5, .int .i64 x0_2), (6, .int .i64 x1_2), (7, .int .i64 (fW .i64 (fW .i64 (y6_0 * 10) + fW .i64 (fW .u8 (x3_4 - 48))))), (8, .int .i64 y6_1)]
   refine oR 5 (p' := g73p9) (eE := E8) (H' := (mkH [])) (by kernel_rfl) ?_
   refine oK [0, 1, 5, 6, 7, 8] (eE := [(0, .str a0), (1, .int .i64 a1), (5, .int .i64 x0_2), (6, .int .i64 x1_2), (7, .int .i64 (fW .i64 (fW .i64 (y6_0 * 10) + fW .i64 (fW .u8 (x3_4 - 48))))), (8, .int .i64 (fW .i64 (y6_1 + 1)))]) (by kernel_rfl) ?_
   exact ih (fW .i64 (fW .i64 (y6_0 * 10) + fW .i64 (fW .u8 (x3_4 - 48)))) (fW .i64 (y6_1 + 1))
  ·let E9 : Env := ((59, .int .i64 y6_0) :: (58, .int .i64 (fW .i64 (fW .i64 (a1 + x1_2) + 1))) :: (57, .int .i64 (fW .i64 (a1 + x1_2))) :: (56, .int .i64 x1_2) :: (55, .int .i64 a1) :: (54, .str a0) :: (43, .bool false) :: E5)
   refine oR 10 (p' := (atN 6 (ctl1 g73p13))) (eE := E9) (H' := (mkH [])) (by kernel_rfl) ?_
   refine oC (fun (x4_6 : Int) => .int .i64 x4_6) (atN 7 (ctl1 g73p13)) (fun x4_6 => ((60, .int .i64 x4_6) :: E9)) (fi := 76) (args := [.str a0, .int .i64 (fW .i64 (fW .i64 (a1 + x1_2) + 1)), .int .i64 y6_0, .bool true]) (by kernel_rfl) (by kernel_rfl) (fun _ => by kernel_rfl) (fun r h => g76_ok k a0 (fW .i64 (fW .i64 (a1 + x1_2) + 1)) y6_0 true r h) (fun _ => by kernel_rfl) (fun x4_6 hx4_6 => ?_)
   refine oR 3 (p' := g73p15) (eE := ((9, .int .i64 x4_6) :: (60, .int .i64 x4_6) :: E9)) (H' := (mkH [])) (by kernel_rfl) ?_
   refine oK [5, 6, 7, 9] (eE := [(5, .int .i64 x0_2), (6, .int .i64 x1_2), (7, .int .i64 y6_0), (9, .int .i64 x4_6)]) (by kernel_rfl) ?_
   let E10 : Env := [(63, .bool (decide (2 ≤ y6_0))), (62, .bool (decide (2 ≤ y6_0))), (61, .int .i64 y6_0), (5, .int .i64 x0_2), (6, .int .i64 x1_2), (7, .int .i64 y6_0), (9, .int .i64 x4_6)]
   refine oR 4 (p' := (atN 3 (ctl1 g73p15))) (eE := E10) (H' := (mkH [])) (by kernel_rfl) ?_
   refine oJ (f := fun (z7 : Bool) => if z7 then (some (fW .i64 (fW .i64 (x1_2 + 1) + x4_6))) else (c8 ())) g73p16 (fun (z7 : Bool) => [(5, .int .i64 x0_2), (6, .int .i64 x1_2), (9, .int .i64 x4_6), (70, .bool z7)]) (fun (z7 : Bool) => (mkH [])) (fun z7 => ?_) (fun j7 hj7 => ?_)
   ·refine oS 70 (b := z7) (by kernel_rfl) (fun hb => ?_) (fun hb => ?_)
    ·let E11 : Env := [(4, .int .i64 (fW .i64 (fW .i64 (x1_2 + 1) + x4_6))), (74, .int .i64 (fW .i64 (fW .i64 (x1_2 + 1) + x4_6))), (73, .int .i64 x4_6), (72, .int .i64 (fW .i64 (x1_2 + 1))), (71, .int .i64 x1_2), (70, .bool true), (5, .int .i64 x0_2), (6, .int .i64 x1_2), (9, .int .i64 x4_6), (70, .bool z7)]
     refine oR 10 (p' := .fin) (eE := E11) (H' := (mkH [])) (by kernel_rfl) ?_
     exact oT (r := (fW .i64 (fW .i64 (x1_2 + 1) + x4_6))) (xs := [.int .i64 (fW .i64 (fW .i64 (x1_2 + 1) + x4_6))]) (v := .int .i64 (fW .i64 (fW .i64 (x1_2 + 1) + x4_6))) (by kernel_rfl) (by kernel_rfl) (by kernel_rfl) (.pures (by kernel_rfl)) (by kernel_rfl)
    ·let E12 : Env := [(70, .bool false), (5, .int .i64 x0_2), (6, .int .i64 x1_2), (9, .int .i64 x4_6), (70, .bool z7)]
     refine oR 3 (p' := g73p6) (eE := E12) (H' := (mkH [])) (by kernel_rfl) ?_
     refine oK [5] (eE := [(5, .int .i64 x0_2)]) (by kernel_rfl) ?_
     exact hc8 ()
   ·refine oS 63 (b := decide (2 ≤ y6_0)) (by kernel_rfl) (fun hb => ?_) (fun hb => ?_)
    ·let E13 : Env := ((67, .bool (decide (y6_0 ≤ 36))) :: (66, .bool (decide (y6_0 ≤ 36))) :: (65, .bool (decide (y6_0 ≤ 36))) :: (64, .int .i64 y6_0) :: (63, .bool true) :: E10)
     refine oR 4 (p' := (atN 7 (ctl1 g73p15))) (eE := E13) (H' := (mkH [])) (by kernel_rfl) ?_
     refine oS 67 (b := decide (y6_0 ≤ 36)) (by kernel_rfl) (fun hb => ?_) (fun hb => ?_)
     ·refine oR 4 (p' := g73p16) (eE := ((70, .bool (decide (0 < x4_6))) :: (69, .bool (decide (0 < x4_6))) :: (68, .int .i64 x4_6) :: (67, .bool true) :: E13)) (H' := (mkH [])) (by kernel_rfl) ?_
      refine oK [5, 6, 9, 70] (eE := [(5, .int .i64 x0_2), (6, .int .i64 x1_2), (9, .int .i64 x4_6), (70, .bool (decide (0 < x4_6)))]) (by kernel_rfl) ?_
      exact hj7 (decide (0 < x4_6))
     ·refine oR 4 (p' := g73p16) (eE := ((70, .bool false) :: (69, .tuple []) :: (68, .tuple []) :: (67, .bool false) :: E13)) (H' := (mkH [])) (by kernel_rfl) ?_
      refine oK [5, 6, 9, 70] (eE := [(5, .int .i64 x0_2), (6, .int .i64 x1_2), (9, .int .i64 x4_6), (70, .bool false)]) (by kernel_rfl) ?_
      exact hj7 false
    ·let E14 : Env := ((70, .bool false) :: (69, .tuple []) :: (68, .tuple []) :: (67, .bool false) :: (66, .bool false) :: (65, .tuple []) :: (64, .tuple []) :: (63, .bool false) :: E10)
     refine oR 8 (p' := g73p16) (eE := E14) (H' := (mkH [])) (by kernel_rfl) ?_
     refine oK [5, 6, 9, 70] (eE := [(5, .int .i64 x0_2), (6, .int .i64 x1_2), (9, .int .i64 x4_6), (70, .bool false)]) (by kernel_rfl) ?_
     exact hj7 false
def g73 (k : Nat) (a0 : (List Nat)) (a1 : Int) : Option Int :=
 (g76 k a0 a1 (10 : Int) true).bind fun x0_2 => (g76 k a0 a1 (10 : Int) false).bind fun x1_2 => jn (fun (z5 : Bool) => jn (fun (z8 : Unit) => some x0_2) (fun j8 => if z5 then (g73_l6 k j8 a0 a1 x0_2 x1_2 k 0 a1) else (j8 ()))) (fun j5 => if (decide (0 < x1_2)) then (if (decide (x1_2 < 3)) then (if (decide (fW .i64 (a1 + x1_2) < (a0.length : Int))) then ((nthS a0 (fW .i64 (a1 + x1_2))).bind fun x2_19 => j5 (decide (x2_19 = 35))) else (j5 false)) else (j5 false)) else (j5 false))
theorem g73_ok (k : Nat) (a0 : (List Nat)) (a1 : Int) (r : Int) (h : g73 k a0 a1 = some r) : PureOk Try.prog 73 [.str a0, .int .i64 a1] (.int .i64 r) := by
 refine pure_of X73 (fun _ => rfl) Try.func73 (by decide +kernel) (by kernel_rfl) (t := g73 k a0 a1) ?_ h
 unfold g73
 refine oE (eE := [(0, .str a0), (1, .int .i64 a1)]) (by kernel_rfl) ?_
 let E1 : Env := [(11, .int .i64 a1), (10, .str a0), (4, .int .i64 0), (0, .str a0), (1, .int .i64 a1)]
 refine oR 8 (p' := (atN 2 (ctl1 g73p1))) (eE := E1) (H' := (mkH [])) (by kernel_rfl) ?_
 refine oC (fun (x0_2 : Int) => .int .i64 x0_2) (atN 3 (ctl1 g73p1)) (fun x0_2 => ((12, .int .i64 x0_2) :: E1)) (fi := 76) (args := [.str a0, .int .i64 a1, .int .i64 10, .bool true]) (by kernel_rfl) (by kernel_rfl) (fun _ => by kernel_rfl) (fun r h => g76_ok k a0 a1 (10 : Int) true r h) (fun _ => by kernel_rfl) (fun x0_2 hx0_2 => ?_)
 refine oR 6 (p' := (atN 2 (ctl1 g73p2))) (eE := ((14, .int .i64 a1) :: (13, .str a0) :: (5, .int .i64 x0_2) :: (12, .int .i64 x0_2) :: E1)) (H' := (mkH [])) (by kernel_rfl) ?_
 refine oC (fun (x1_2 : Int) => .int .i64 x1_2) (atN 3 (ctl1 g73p2)) (fun x1_2 => ((15, .int .i64 x1_2) :: (14, .int .i64 a1) :: (13, .str a0) :: (5, .int .i64 x0_2) :: (12, .int .i64 x0_2) :: E1)) (fi := 76) (args := [.str a0, .int .i64 a1, .int .i64 10, .bool false]) (by kernel_rfl) (by kernel_rfl) (fun _ => by kernel_rfl) (fun r h => g76_ok k a0 a1 (10 : Int) false r h) (fun _ => by kernel_rfl) (fun x1_2 hx1_2 => ?_)
 let E2 : Env := ((6, .int .i64 x1_2) :: (15, .int .i64 x1_2) :: (14, .int .i64 a1) :: (13, .str a0) :: (5, .int .i64 x0_2) :: (12, .int .i64 x0_2) :: E1)
 refine oR 4 (p' := g73p3) (eE := E2) (H' := (mkH [])) (by kernel_rfl) ?_
 refine oK [0, 1, 5, 6] (eE := [(0, .str a0), (1, .int .i64 a1), (5, .int .i64 x0_2), (6, .int .i64 x1_2)]) (by kernel_rfl) ?_
 let E3 : Env := [(18, .bool (decide (0 < x1_2))), (17, .bool (decide (0 < x1_2))), (16, .int .i64 x1_2), (0, .str a0), (1, .int .i64 a1), (5, .int .i64 x0_2), (6, .int .i64 x1_2)]
 refine oR 4 (p' := (atN 3 (ctl1 g73p3))) (eE := E3) (H' := (mkH [])) (by kernel_rfl) ?_
 refine oJ (f := fun (z5 : Bool) => jn (fun (z8 : Unit) => some x0_2) (fun j8 => if z5 then (g73_l6 k j8 a0 a1 x0_2 x1_2 k 0 a1) else (j8 ()))) g73p4 (fun (z5 : Bool) => [(0, .str a0), (1, .int .i64 a1), (5, .int .i64 x0_2), (6, .int .i64 x1_2), (37, .bool z5)]) (fun (z5 : Bool) => (mkH [])) (fun z5 => ?_) (fun j5 hj5 => ?_)
 ·refine oJ (f := fun (z8 : Unit) => some x0_2) g73p6 (fun (z8 : Unit) => [(5, .int .i64 x0_2)]) (fun (z8 : Unit) => (mkH [])) (fun z8 => ?_) (fun j8 hj8 => ?_)
  ·refine oR 5 (p' := .fin) (eE := [(4, .int .i64 x0_2), (75, .int .i64 x0_2), (5, .int .i64 x0_2)]) (H' := (mkH [])) (by kernel_rfl) ?_
   exact oT (r := x0_2) (xs := [.int .i64 x0_2]) (v := .int .i64 x0_2) (by kernel_rfl) (by kernel_rfl) (by kernel_rfl) (.pures (by kernel_rfl)) (by kernel_rfl)
  ·refine oS 37 (b := z5) (by kernel_rfl) (fun hb => ?_) (fun hb => ?_)
   ·let E4 : Env := [(8, .int .i64 a1), (38, .int .i64 a1), (7, .int .i64 0), (37, .bool true), (0, .str a0), (1, .int .i64 a1), (5, .int .i64 x0_2), (6, .int .i64 x1_2), (37, .bool z5)]
    refine oR 13 (p' := g73p9) (eE := E4) (H' := (mkH [])) (by kernel_rfl) ?_
    refine oK [0, 1, 5, 6, 7, 8] (eE := [(0, .str a0), (1, .int .i64 a1), (5, .int .i64 x0_2), (6, .int .i64 x1_2), (7, .int .i64 0), (8, .int .i64 a1)]) (by kernel_rfl) ?_
    exact (g73_l6_ok k j8 a0 a1 x0_2 x1_2 hj8 k) 0 a1
   ·let E15 : Env := [(37, .bool false), (0, .str a0), (1, .int .i64 a1), (5, .int .i64 x0_2), (6, .int .i64 x1_2), (37, .bool z5)]
    refine oR 3 (p' := g73p6) (eE := E15) (H' := (mkH [])) (by kernel_rfl) ?_
    refine oK [5] (eE := [(5, .int .i64 x0_2)]) (by kernel_rfl) ?_
    exact hj8 ()
 ·refine oS 18 (b := decide (0 < x1_2)) (by kernel_rfl) (fun hb => ?_) (fun hb => ?_)
  ·let E16 : Env := ((22, .bool (decide (x1_2 < 3))) :: (21, .bool (decide (x1_2 < 3))) :: (20, .bool (decide (x1_2 < 3))) :: (19, .int .i64 x1_2) :: (18, .bool true) :: E3)
   refine oR 4 (p' := (atN 7 (ctl1 g73p3))) (eE := E16) (H' := (mkH [])) (by kernel_rfl) ?_
   refine oS 22 (b := decide (x1_2 < 3)) (by kernel_rfl) (fun hb => ?_) (fun hb => ?_)
   ·let E17 : Env := ((30, .bool (decide (fW .i64 (a1 + x1_2) < (a0.length : Int)))) :: (29, .bool (decide (fW .i64 (a1 + x1_2) < (a0.length : Int)))) :: (28, .bool (decide (fW .i64 (a1 + x1_2) < (a0.length : Int)))) :: (27, .int .i64 (a0.length : Int)) :: (26, .str a0) :: (25, .int .i64 (fW .i64 (a1 + x1_2))) :: (24, .int .i64 x1_2) :: (23, .int .i64 a1) :: (22, .bool true) :: E16)
    refine oR 8 (p' := (atN 15 (ctl1 g73p3))) (eE := E17) (H' := (mkH [])) (by kernel_rfl) ?_
    refine oS 30 (b := decide (fW .i64 (a1 + x1_2) < (a0.length : Int))) (by kernel_rfl) (fun hb => ?_) (fun hb => ?_)
    ·let E18 : Env := ((34, .int .i64 (fW .i64 (a1 + x1_2))) :: (33, .int .i64 x1_2) :: (32, .int .i64 a1) :: (31, .str a0) :: (30, .bool true) :: E17)
     refine oR 4 (p' := (atN 19 (ctl1 g73p3))) (eE := E18) (H' := (mkH [])) (by kernel_rfl) ?_
     refine oH (fun (x2_19 : Int) => (.int .u8 x2_19, (mkH []))) (atN 20 (ctl1 g73p3)) (fun x2_19 => ((35, .int .u8 x2_19) :: E18)) (idxH (by kernel_rfl)) (fun _ => by kernel_rfl) (fun x2_19 hx2_19 => ?_)
     refine oR 3 (p' := g73p4) (eE := ((37, .bool (decide (x2_19 = 35))) :: (36, .bool (decide (x2_19 = 35))) :: (35, .int .u8 x2_19) :: E18)) (H' := (mkH [])) (by kernel_rfl) ?_
     refine oK [0, 1, 5, 6, 37] (eE := [(0, .str a0), (1, .int .i64 a1), (5, .int .i64 x0_2), (6, .int .i64 x1_2), (37, .bool (decide (x2_19 = 35)))]) (by kernel_rfl) ?_
     exact hj5 (decide (x2_19 = 35))
    ·let E19 : Env := ((37, .bool false) :: (36, .tuple []) :: (35, .tuple []) :: (34, .tuple []) :: (33, .tuple []) :: (32, .tuple []) :: (31, .tuple []) :: (30, .bool false) :: E17)
     refine oR 8 (p' := g73p4) (eE := E19) (H' := (mkH [])) (by kernel_rfl) ?_
     refine oK [0, 1, 5, 6, 37] (eE := [(0, .str a0), (1, .int .i64 a1), (5, .int .i64 x0_2), (6, .int .i64 x1_2), (37, .bool false)]) (by kernel_rfl) ?_
     exact hj5 false
   ·let E20 : Env := ((37, .bool false) :: (36, .tuple []) :: (35, .tuple []) :: (34, .tuple []) :: (33, .tuple []) :: (32, .tuple []) :: (31, .tuple []) :: (30, .bool false) :: (29, .bool false) :: (28, .tuple []) :: (27, .tuple []) :: (26, .tuple []) :: (25, .tuple []) :: (24, .tuple []) :: (23, .tuple []) :: (22, .bool false) :: E16)
    refine oR 16 (p' := g73p4) (eE := E20) (H' := (mkH [])) (by kernel_rfl) ?_
    refine oK [0, 1, 5, 6, 37] (eE := [(0, .str a0), (1, .int .i64 a1), (5, .int .i64 x0_2), (6, .int .i64 x1_2), (37, .bool false)]) (by kernel_rfl) ?_
    exact hj5 false
  ·let E21 : Env := ((37, .bool false) :: (36, .tuple []) :: (35, .tuple []) :: (34, .tuple []) :: (33, .tuple []) :: (32, .tuple []) :: (31, .tuple []) :: (30, .bool false) :: (29, .bool false) :: (28, .tuple []) :: (27, .tuple []) :: (26, .tuple []) :: (25, .tuple []) :: (24, .tuple []) :: (23, .tuple []) :: (22, .bool false) :: (21, .bool false) :: (20, .tuple []) :: (19, .tuple []) :: (18, .bool false) :: E3)
   refine oR 20 (p' := g73p4) (eE := E21) (H' := (mkH [])) (by kernel_rfl) ?_
   refine oK [0, 1, 5, 6, 37] (eE := [(0, .str a0), (1, .int .i64 a1), (5, .int .i64 x0_2), (6, .int .i64 x1_2), (37, .bool false)]) (by kernel_rfl) ?_
   exact hj5 false
end
end Go.Proofs.Ytbmijiibfaacmaa.Am
set_option maxRecDepth 100000
set_option linter.unusedVariables false
namespace Go.Proofs.Ytbmijiibfaacmaa.Am
noncomputable section
open Go
def X72 : Fx Int := ⟨Try.prog, cx, Try.f72, fun r => .int .i64 r, 0, fun _ => H0, cxTi, cxOrd⟩
def g72p0 : Pt := nav [0] (bodyAt Try.f72)
def g72p1 : Pt := nav [0, 0, 0] g72p0
def g72p2 : Pt := nav [0, 0, 0, 0] g72p1
def g72p3 : Pt := nav [0, 0] g72p2
def g72p5 : Pt := nav [2, 0, 0] g72p3
def g72p7 : Pt := nav [0, 0, 0, 0] g72p5
def g72p8 : Pt := nav [0, 0] g72p7
def g72p10 : Pt := nav [2, 0, 0] g72p8
def g72p11 : Pt := nav [0, 0, 0, 0] g72p10
def g72p12 : Pt := nav [0, 0] g72p11
def g72p13 : Pt := nav [1, 0] g72p12
def g72p14 : Pt := nav [2, 0, 0] g72p12
def g72p15 : Pt := nav [0, 0, 0, 0] g72p13
def g72p16 : Pt := nav [0, 0] g72p15
def g72p18 : Pt := nav [2, 0, 0] g72p16
def g72p19 : Pt := nav [0, 0, 0] g72p18
def g72p20 : Pt := nav [0, 0] g72p19
def g72 (k : Nat) (a0 : (List Nat)) (a1 : Int) : Option Int :=
 (g76 k a0 a1 (10 : Int) true).bind fun x0_3 => jn (fun (z6 : Bool) => if z6 then (some (0 : Int)) else ((g76 k a0 (fW .i64 (fW .i64 (a1 + x0_3) + 1)) (10 : Int) true).bind fun x2_3 => if (decide (x2_3 = 0)) then (some (0 : Int)) else (jn (fun (z7 : Bool) => jn (fun (z9 : Int) => some (fW .i64 (z9 - a1))) (fun j9 => if z7 then (jn (fun (z8 : Bool) => jn (fun (z10 : Int) => (g76 k a0 z10 (10 : Int) true).bind fun x5_2 => if (decide (0 < x5_2)) then (j9 (fW .i64 (z10 + x5_2))) else (j9 (fW .i64 (fW .i64 (fW .i64 (a1 + x0_3) + 1) + x2_3)))) (fun j10 => if z8 then (j10 (fW .i64 (fW .i64 (fW .i64 (fW .i64 (fW .i64 (a1 + x0_3) + 1) + x2_3) + 1) + 1))) else (j10 (fW .i64 (fW .i64 (fW .i64 (fW .i64 (a1 + x0_3) + 1) + x2_3) + 1))))) (fun j8 => if (decide (fW .i64 (fW .i64 (fW .i64 (fW .i64 (a1 + x0_3) + 1) + x2_3) + 1) < (a0.length : Int))) then ((nthS a0 (fW .i64 (fW .i64 (fW .i64 (fW .i64 (a1 + x0_3) + 1) + x2_3) + 1))).bind fun x4_7 => if (decide (x4_7 = 43)) then (j8 true) else ((nthS a0 (fW .i64 (fW .i64 (fW .i64 (fW .i64 (a1 + x0_3) + 1) + x2_3) + 1))).bind fun x4_12 => j8 (decide (x4_12 = 45)))) else (j8 false))) else (j9 (fW .i64 (fW .i64 (fW .i64 (a1 + x0_3) + 1) + x2_3))))) (fun j7 => if (decide (fW .i64 (fW .i64 (fW .i64 (a1 + x0_3) + 1) + x2_3) < (a0.length : Int))) then ((nthS a0 (fW .i64 (fW .i64 (fW .i64 (a1 + x0_3) + 1) + x2_3))).bind fun x3_7 => if (decide (x3_7 = 101)) then (j7 true) else ((nthS a0 (fW .i64 (fW .i64 (fW .i64 (a1 + x0_3) + 1) + x2_3))).bind fun x3_12 => j7 (decide (x3_12 = 69)))) else (j7 false))))) (fun j6 => if (decide (fW .i64 (a1 + x0_3) = a1)) then (j6 true) else (if (decide ((a0.length : Int) ≤ fW .i64 (a1 + x0_3))) then (j6 true) else ((nthS a0 (fW .i64 (a1 + x0_3))).bind fun x1_12 => j6 (!decide (x1_12 = 46)))))
theorem g72_ok (k : Nat) (a0 : (List Nat)) (a1 : Int) (r : Int) (h : g72 k a0 a1 = some r) : PureOk Try.prog 72 [.str a0, .int .i64 a1] (.int .i64 r) := by
 refine pure_of X72 (fun _ => rfl) Try.func72 (by decide +kernel) (by kernel_rfl) (t := g72 k a0 a1) ?_ h
 unfold g72
 refine oE (eE := [(0, .str a0), (1, .int .i64 a1)]) (by kernel_rfl) ?_
 let E1 : Env := [(11, .int .i64 a1), (10, .str a0), (9, .int .i64 a1), (4, .int .i64 0), (0, .str a0), (1, .int .i64 a1)]
 refine oR 9 (p' := (atN 3 (ctl1 g72p1))) (eE := E1) (H' := (mkH [])) (by kernel_rfl) ?_
 refine oC (fun (x0_3 : Int) => .int .i64 x0_3) (atN 4 (ctl1 g72p1)) (fun x0_3 => ((12, .int .i64 x0_3) :: E1)) (fi := 76) (args := [.str a0, .int .i64 a1, .int .i64 10, .bool true]) (by kernel_rfl) (by kernel_rfl) (fun _ => by kernel_rfl) (fun r h => g76_ok k a0 a1 (10 : Int) true r h) (fun _ => by kernel_rfl) (fun x0_3 hx0_3 => ?_)
 let E2 : Env := ((17, .bool (decide (fW .i64 (a1 + x0_3) = a1))) :: (16, .bool (decide (fW .i64 (a1 + x0_3) = a1))) :: (15, .int .i64 a1) :: (14, .int .i64 (fW .i64 (a1 + x0_3))) :: (5, .int .i64 (fW .i64 (a1 + x0_3))) :: (13, .int .i64 (fW .i64 (a1 + x0_3))) :: (12, .int .i64 x0_3) :: E1)
 refine oR 10 (p' := (atN 4 (ctl1 g72p2))) (eE := E2) (H' := (mkH [])) (by kernel_rfl) ?_
 refine oJ (f := fun (z6 : Bool) => if z6 then (some (0 : Int)) else ((g76 k a0 (fW .i64 (fW .i64 (a1 + x0_3) + 1)) (10 : Int) true).bind fun x2_3 => if (decide (x2_3 = 0)) then (some (0 : Int)) else (jn (fun (z7 : Bool) => jn (fun (z9 : Int) => some (fW .i64 (z9 - a1))) (fun j9 => if z7 then (jn (fun (z8 : Bool) => jn (fun (z10 : Int) => (g76 k a0 z10 (10 : Int) true).bind fun x5_2 => if (decide (0 < x5_2)) then (j9 (fW .i64 (z10 + x5_2))) else (j9 (fW .i64 (fW .i64 (fW .i64 (a1 + x0_3) + 1) + x2_3)))) (fun j10 => if z8 then (j10 (fW .i64 (fW .i64 (fW .i64 (fW .i64 (fW .i64 (a1 + x0_3) + 1) + x2_3) + 1) + 1))) else (j10 (fW .i64 (fW .i64 (fW .i64 (fW .i64 (a1 + x0_3) + 1) + x2_3) + 1))))) (fun j8 => if (decide (fW .i64 (fW .i64 (fW .i64 (fW .i64 (a1 + x0_3) + 1) + x2_3) + 1) < (a0.length : Int))) then ((nthS a0 (fW .i64 (fW .i64 (fW .i64 (fW .i64 (a1 + x0_3) + 1) + x2_3) + 1))).bind fun x4_7 => if (decide (x4_7 = 43)) then (j8 true) else ((nthS a0 (fW .i64 (fW .i64 (fW .i64 (fW .i64 (a1 + x0_3) + 1) + x2_3) + 1))).bind fun x4_12 => j8 (decide (x4_12 = 45)))) else (j8 false))) else (j9 (fW .i64 (fW .i64 (fW .i64 (a1 + x0_3) + 1) + x2_3))))) (fun j7 => if (decide (fW .i64 (fW .i64 (fW .i64 (a1 + x0_3) + 1) + x2_3) < (a0.length : Int))) then ((nthS a0 (fW .i64 (fW .i64 (fW .i64 (a1 + x0_3) + 1) + x2_3))).bind fun x3_7 => if (decide (x3_7 = 101)) then (j7 true) else ((nthS a0 (fW .i64 (fW .i64 (fW .i64 (a1 + x0_3) + 1) + x2_3))).bind fun x3_12 => j7 (decide (x3_12 = 69)))) else (j7 false))))) g72p3 (fun (z6 : Bool) => [(0, .str a0), (1, .int .i64 a1), (5, .int .i64 (fW .i64 (a1 + x0_3))), (28, .bool z6)]) (fun (z6 : Bool) => (mkH [])) (fun z6 => ?_) (fun j6 hj6 => ?_)
 ·refine oS 28 (b := z6) (by kernel_rfl) (fun hb => ?_) (fun hb => ?_)
  ·let E3 : Env := [(4, .int .i64 0), (28, .bool true), (0, .str a0), (1, .int .i64 a1), (5, .int .i64 (fW .i64 (a1 + x0_3))), (28, .bool z6)]
   refine oR 6 (p' := .fin) (eE := E3) (H' := (mkH [])) (by kernel_rfl) ?_
   exact oT (r := (0 : Int)) (xs := [.int .i64 0]) (v := .int .i64 0) (by kernel_rfl) (by kernel_rfl) (by kernel_rfl) (.pures (by kernel_rfl)) (by kernel_rfl)
  ·let E4 : Env := [(31, .int .i64 (fW .i64 (fW .i64 (a1 + x0_3) + 1))), (30, .int .i64 (fW .i64 (a1 + x0_3))), (29, .str a0), (28, .bool false), (0, .str a0), (1, .int .i64 a1), (5, .int .i64 (fW .i64 (a1 + x0_3))), (28, .bool z6)]
   refine oR 7 (p' := (atN 3 (ctl1 g72p5))) (eE := E4) (H' := (mkH [])) (by kernel_rfl) ?_
   refine oC (fun (x2_3 : Int) => .int .i64 x2_3) (atN 4 (ctl1 g72p5)) (fun x2_3 => ((32, .int .i64 x2_3) :: E4)) (fi := 76) (args := [.str a0, .int .i64 (fW .i64 (fW .i64 (a1 + x0_3) + 1)), .int .i64 10, .bool true]) (by kernel_rfl) (by kernel_rfl) (fun _ => by kernel_rfl) (fun r h => g76_ok k a0 (fW .i64 (fW .i64 (a1 + x0_3) + 1)) (10 : Int) true r h) (fun _ => by kernel_rfl) (fun x2_3 hx2_3 => ?_)
   refine oR 8 (p' := g72p8) (eE := ((34, .bool (decide (x2_3 = 0))) :: (33, .int .i64 x2_3) :: (6, .int .i64 x2_3) :: (32, .int .i64 x2_3) :: E4)) (H' := (mkH [])) (by kernel_rfl) ?_
   refine oK [0, 1, 5, 6, 34] (eE := [(0, .str a0), (1, .int .i64 a1), (5, .int .i64 (fW .i64 (a1 + x0_3))), (6, .int .i64 x2_3), (34, .bool (decide (x2_3 = 0)))]) (by kernel_rfl) ?_
   refine oS 34 (b := decide (x2_3 = 0)) (by kernel_rfl) (fun hb => ?_) (fun hb => ?_)
   ·let E5 : Env := [(4, .int .i64 0), (34, .bool true), (0, .str a0), (1, .int .i64 a1), (5, .int .i64 (fW .i64 (a1 + x0_3))), (6, .int .i64 x2_3), (34, .bool (decide (x2_3 = 0)))]
    refine oR 6 (p' := .fin) (eE := E5) (H' := (mkH [])) (by kernel_rfl) ?_
    exact oT (r := (0 : Int)) (xs := [.int .i64 0]) (v := .int .i64 0) (by kernel_rfl) (by kernel_rfl) (by kernel_rfl) (.pures (by kernel_rfl)) (by kernel_rfl)
   ·let E6 : Env := [(5, .int .i64 (fW .i64 (fW .i64 (fW .i64 (a1 + x0_3) + 1) + x2_3))), (38, .int .i64 (fW .i64 (fW .i64 (fW .i64 (a1 + x0_3) + 1) + x2_3))), (37, .int .i64 x2_3), (36, .int .i64 (fW .i64 (fW .i64 (a1 + x0_3) + 1))), (35, .int .i64 (fW .i64 (a1 + x0_3))), (34, .bool false), (0, .str a0), (1, .int .i64 a1), (5, .int .i64 (fW .i64 (a1 + x0_3))), (6, .int .i64 x2_3), (34, .bool (decide (x2_3 = 0)))]
    refine oR 12 (p' := g72p11) (eE := E6) (H' := (mkH [])) (by kernel_rfl) ?_
    refine oK [0, 1, 5] (eE := [(0, .str a0), (1, .int .i64 a1), (5, .int .i64 (fW .i64 (fW .i64 (fW .i64 (a1 + x0_3) + 1) + x2_3)))]) (by kernel_rfl) ?_
    let E7 : Env := [(43, .bool (decide (fW .i64 (fW .i64 (fW .i64 (a1 + x0_3) + 1) + x2_3) < (a0.length : Int)))), (42, .bool (decide (fW .i64 (fW .i64 (fW .i64 (a1 + x0_3) + 1) + x2_3) < (a0.length : Int)))), (41, .int .i64 (a0.length : Int)), (40, .str a0), (39, .int .i64 (fW .i64 (fW .i64 (fW .i64 (a1 + x0_3) + 1) + x2_3))), (0, .str a0), (1, .int .i64 a1), (5, .int .i64 (fW .i64 (fW .i64 (fW .i64 (a1 + x0_3) + 1) + x2_3)))]
    refine oR 6 (p' := (atN 5 (ctl1 g72p11))) (eE := E7) (H' := (mkH [])) (by kernel_rfl) ?_
    refine oJ (f := fun (z7 : Bool) => jn (fun (z9 : Int) => some (fW .i64 (z9 - a1))) (fun j9 => if z7 then (jn (fun (z8 : Bool) => jn (fun (z10 : Int) => (g76 k a0 z10 (10 : Int) true).bind fun x5_2 => if (decide (0 < x5_2)) then (j9 (fW .i64 (z10 + x5_2))) else (j9 (fW .i64 (fW .i64 (fW .i64 (a1 + x0_3) + 1) + x2_3)))) (fun j10 => if z8 then (j10 (fW .i64 (fW .i64 (fW .i64 (fW .i64 (fW .i64 (a1 + x0_3) + 1) + x2_3) + 1) + 1))) else (j10 (fW .i64 (fW .i64 (fW .i64 (fW .i64 (a1 + x0_3) + 1) + x2_3) + 1))))) (fun j8 => if (decide (fW .i64 (fW .i64 (fW .i64 (fW .i64 (a1 + x0_3) + 1) + x2_3) + 1) < (a0.length : Int))) then ((nthS a0 (fW .i64 (fW .i64 (fW .i64 (fW .i64 (a1 + x0_3) + 1) + x2_3) + 1))).bind fun x4_7 => if (decide (x4_7 = 43)) then (j8 true) else ((nthS a0 (fW .i64 (fW .i64 (fW .i64 (fW .i64 (a1 + x0_3) + 1) + x2_3) + 1))).bind fun x4_12 => j8 (decide (x4_12 = 45)))) else (j8 false))) else (j9 (fW .i64 (fW .i64 (fW .i64 (a1 + x0_3) + 1) + x2_3))))) g72p12 (fun (z7 : Bool) => [(0, .str a0), (1, .int .i64 a1), (5, .int .i64 (fW .i64 (fW .i64 (fW .i64 (a1 + x0_3) + 1) + x2_3))), (54, .bool z7)]) (fun (z7 : Bool) => (mkH [])) (fun z7 => ?_) (fun j7 hj7 => ?_)
    ·refine oJ (f := fun (z9 : Int) => some (fW .i64 (z9 - a1))) g72p14 (fun (z9 : Int) => [(1, .int .i64 a1), (5, .int .i64 z9)]) (fun (z9 : Int) => (mkH [])) (fun z9 => ?_) (fun j9 hj9 => ?_)
     ·let E8 : Env := [(4, .int .i64 (fW .i64 (z9 - a1))), (85, .int .i64 (fW .i64 (z9 - a1))), (84, .int .i64 a1), (83, .int .i64 z9), (1, .int .i64 a1), (5, .int .i64 z9)]
      refine oR 7 (p' := .fin) (eE := E8) (H' := (mkH [])) (by kernel_rfl) ?_
      exact oT (r := (fW .i64 (z9 - a1))) (xs := [.int .i64 (fW .i64 (z9 - a1))]) (v := .int .i64 (fW .i64 (z9 - a1))) (by kernel_rfl) (by kernel_rfl) (by kernel_rfl) (.pures (by kernel_rfl)) (by kernel_rfl)
     ·refine oS 54 (b := z7) (by kernel_rfl) (fun hb => ?_) (fun hb => ?_)
      ·let E9 : Env := [(61, .bool (decide (fW .i64 (fW .i64 (fW .i64 (fW .i64 (a1 + x0_3) + 1) + x2_3) + 1) < (a0.length : Int)))), (60, .bool (decide (fW .i64 (fW .i64 (fW .i64 (fW .i64 (a1 + x0_3) + 1) + x2_3) + 1) < (a0.length : Int)))), (59, .int .i64 (a0.length : Int)), (58, .str a0), (57, .int .i64 (fW .i64 (fW .i64 (fW .i64 (fW .i64 (a1 + x0_3) + 1) + x2_3) + 1))), (7, .int .i64 (fW .i64 (fW .i64 (fW .i64 (fW .i64 (a1 + x0_3) + 1) + x2_3) + 1))), (56, .int .i64 (fW .i64 (fW .i64 (fW .i64 (fW .i64 (a1 + x0_3) + 1) + x2_3) + 1))), (55, .int .i64 (fW .i64 (fW .i64 (fW .i64 (a1 + x0_3) + 1) + x2_3))), (54, .bool true), (0, .str a0), (1, .int .i64 a1), (5, .int .i64 (fW .i64 (fW .i64 (fW .i64 (a1 + x0_3) + 1) + x2_3))), (54, .bool z7)]
       refine oR 15 (p' := (atN 5 (ctl1 g72p15))) (eE := E9) (H' := (mkH [])) (by kernel_rfl) ?_
       refine oJ (f := fun (z8 : Bool) => jn (fun (z10 : Int) => (g76 k a0 z10 (10 : Int) true).bind fun x5_2 => if (decide (0 < x5_2)) then (j9 (fW .i64 (z10 + x5_2))) else (j9 (fW .i64 (fW .i64 (fW .i64 (a1 + x0_3) + 1) + x2_3)))) (fun j10 => if z8 then (j10 (fW .i64 (fW .i64 (fW .i64 (fW .i64 (fW .i64 (a1 + x0_3) + 1) + x2_3) + 1) + 1))) else (j10 (fW .i64 (fW .i64 (fW .i64 (fW .i64 (a1 + x0_3) + 1) + x2_3) + 1))))) g72p16 (fun (z8 : Bool) => [(0, .str a0), (1, .int .i64 a1), (5, .int .i64 (fW .i64 (fW .i64 (fW .i64 (a1 + x0_3) + 1) + x2_3))), (7, .int .i64 (fW .i64 (fW .i64 (fW .i64 (fW .i64 (a1 + x0_3) + 1) + x2_3) + 1))), (72, .bool z8)]) (fun (z8 : Bool) => (mkH [])) (fun z8 => ?_) (fun j8 hj8 => ?_)
       ·refine oJ (f := fun (z10 : Int) => (g76 k a0 z10 (10 : Int) true).bind fun x5_2 => if (decide (0 < x5_2)) then (j9 (fW .i64 (z10 + x5_2))) else (j9 (fW .i64 (fW .i64 (fW .i64 (a1 + x0_3) + 1) + x2_3)))) g72p18 (fun (z10 : Int) => [(0, .str a0), (1, .int .i64 a1), (5, .int .i64 (fW .i64 (fW .i64 (fW .i64 (a1 + x0_3) + 1) + x2_3))), (7, .int .i64 z10)]) (fun (z10 : Int) => (mkH [])) (fun z10 => ?_) (fun j10 hj10 => ?_)
        ·let E10 : Env := [(76, .int .i64 z10), (75, .str a0), (0, .str a0), (1, .int .i64 a1), (5, .int .i64 (fW .i64 (fW .i64 (fW .i64 (a1 + x0_3) + 1) + x2_3))), (7, .int .i64 z10)]
         refine oR 3 (p' := (atN 2 (ctl1 g72p18))) (eE := E10) (H' := (mkH [])) (by kernel_rfl) ?_
         refine oC (fun (x5_2 : Int) => .int .i64 x5_2) (atN 3 (ctl1 g72p18)) (fun x5_2 => ((77, .int .i64 x5_2) :: E10)) (fi := 76) (args := [.str a0, .int .i64 z10, .int .i64 10, .bool true]) (by kernel_rfl) (by kernel_rfl) (fun _ => by kernel_rfl) (fun r h => g76_ok k a0 z10 (10 : Int) true r h) (fun _ => by kernel_rfl) (fun x5_2 hx5_2 => ?_)
         refine oR 7 (p' := g72p20) (eE := ((79, .bool (decide (0 < x5_2))) :: (78, .int .i64 x5_2) :: (8, .int .i64 x5_2) :: (77, .int .i64 x5_2) :: E10)) (H' := (mkH [])) (by kernel_rfl) ?_
         refine oS 79 (b := decide (0 < x5_2)) (by kernel_rfl) (fun hb => ?_) (fun hb => ?_)
         ·let E11 : Env := ((5, .int .i64 (fW .i64 (z10 + x5_2))) :: (82, .int .i64 (fW .i64 (z10 + x5_2))) :: (81, .int .i64 x5_2) :: (80, .int .i64 z10) :: (79, .bool true) :: (79, .bool (decide (0 < x5_2))) :: (78, .int .i64 x5_2) :: (8, .int .i64 x5_2) :: (77, .int .i64 x5_2) :: E10)
          refine oR 8 (p' := g72p14) (eE := E11) (H' := (mkH [])) (by kernel_rfl) ?_
          refine oK [1, 5] (eE := [(1, .int .i64 a1), (5, .int .i64 (fW .i64 (z10 + x5_2)))]) (by kernel_rfl) ?_
          exact hj9 (fW .i64 (z10 + x5_2))
         ·let E12 : Env := ((79, .bool false) :: (79, .bool (decide (0 < x5_2))) :: (78, .int .i64 x5_2) :: (8, .int .i64 x5_2) :: (77, .int .i64 x5_2) :: E10)
          refine oR 3 (p' := g72p14) (eE := E12) (H' := (mkH [])) (by kernel_rfl) ?_
          refine oK [1, 5] (eE := [(1, .int .i64 a1), (5, .int .i64 (fW .i64 (fW .i64 (fW .i64 (a1 + x0_3) + 1) + x2_3)))]) (by kernel_rfl) ?_
          exact hj9 (fW .i64 (fW .i64 (fW .i64 (a1 + x0_3) + 1) + x2_3))
        ·refine oS 72 (b := z8) (by kernel_rfl) (fun hb => ?_) (fun hb => ?_)
         ·let E13 : Env := [(7, .int .i64 (fW .i64 (fW .i64 (fW .i64 (fW .i64 (fW .i64 (a1 + x0_3) + 1) + x2_3) + 1) + 1))), (74, .int .i64 (fW .i64 (fW .i64 (fW .i64 (fW .i64 (fW .i64 (a1 + x0_3) + 1) + x2_3) + 1) + 1))), (73, .int .i64 (fW .i64 (fW .i64 (fW .i64 (fW .i64 (a1 + x0_3) + 1) + x2_3) + 1))), (72, .bool true), (0, .str a0), (1, .int .i64 a1), (5, .int .i64 (fW .i64 (fW .i64 (fW .i64 (a1 + x0_3) + 1) + x2_3))), (7, .int .i64 (fW .i64 (fW .i64 (fW .i64 (fW .i64 (a1 + x0_3) + 1) + x2_3) + 1))), (72, .bool z8)]
          refine oR 7 (p' := g72p18) (eE := E13) (H' := (mkH [])) (by kernel_rfl) ?_
          refine oK [0, 1, 5, 7] (eE := [(0, .str a0), (1, .int .i64 a1), (5, .int .i64 (fW .i64 (fW .i64 (fW .i64 (a1 + x0_3) + 1) + x2_3))), (7, .int .i64 (fW .i64 (fW .i64 (fW .i64 (fW .i64 (fW .i64 (a1 + x0_3) + 1) + x2_3) + 1) + 1)))]) (by kernel_rfl) ?_
          exact hj10 (fW .i64 (fW .i64 (fW .i64 (fW .i64 (fW .i64 (a1 + x0_3) + 1) + x2_3) + 1) + 1))
         ·let E14 : Env := [(72, .bool false), (0, .str a0), (1, .int .i64 a1), (5, .int .i64 (fW .i64 (fW .i64 (fW .i64 (a1 + x0_3) + 1) + x2_3))), (7, .int .i64 (fW .i64 (fW .i64 (fW .i64 (fW .i64 (a1 + x0_3) + 1) + x2_3) + 1))), (72, .bool z8)]
          refine oR 3 (p' := g72p18) (eE := E14) (H' := (mkH [])) (by kernel_rfl) ?_
          refine oK [0, 1, 5, 7] (eE := [(0, .str a0), (1, .int .i64 a1), (5, .int .i64 (fW .i64 (fW .i64 (fW .i64 (a1 + x0_3) + 1) + x2_3))), (7, .int .i64 (fW .i64 (fW .i64 (fW .i64 (fW .i64 (a1 + x0_3) + 1) + x2_3) + 1)))]) (by kernel_rfl) ?_
          exact hj10 (fW .i64 (fW .i64 (fW .i64 (fW .i64 (a1 + x0_3) + 1) + x2_3) + 1))
       ·refine oS 61 (b := decide (fW .i64 (fW .i64 (fW .i64 (fW .i64 (a1 + x0_3) + 1) + x2_3) + 1) < (a0.length : Int))) (by kernel_rfl) (fun hb => ?_) (fun hb => ?_)
        ·refine oR 2 (p' := (atN 7 (ctl1 g72p15))) (eE := ((63, .int .i64 (fW .i64 (fW .i64 (fW .i64 (fW .i64 (a1 + x0_3) + 1) + x2_3) + 1))) :: (62, .str a0) :: (61, .bool true) :: E9)) (H' := (mkH [])) (by kernel_rfl) ?_
         refine oH (fun (x4_7 : Int) => (.int .u8 x4_7, (mkH []))) (atN 8 (ctl1 g72p15)) (fun x4_7 => ((64, .int .u8 x4_7) :: (63, .int .i64 (fW .i64 (fW .i64 (fW .i64 (fW .i64 (a1 + x0_3) + 1) + x2_3) + 1))) :: (62, .str a0) :: (61, .bool true) :: E9)) (idxH (by kernel_rfl)) (fun _ => by kernel_rfl) (fun x4_7 hx4_7 => ?_)
         let E15 : Env := ((66, .bool (decide (x4_7 = 43))) :: (65, .bool (decide (x4_7 = 43))) :: (64, .int .u8 x4_7) :: (63, .int .i64 (fW .i64 (fW .i64 (fW .i64 (fW .i64 (a1 + x0_3) + 1) + x2_3) + 1))) :: (62, .str a0) :: (61, .bool true) :: E9)
         refine oR 2 (p' := (atN 10 (ctl1 g72p15))) (eE := E15) (H' := (mkH [])) (by kernel_rfl) ?_
         refine oS 66 (b := decide (x4_7 = 43)) (by kernel_rfl) (fun hb => ?_) (fun hb => ?_)
         ·let E16 : Env := ((72, .bool true) :: (71, .bool true) :: (70, .tuple []) :: (69, .tuple []) :: (68, .tuple []) :: (67, .tuple []) :: (66, .bool true) :: E15)
          refine oR 7 (p' := g72p16) (eE := E16) (H' := (mkH [])) (by kernel_rfl) ?_
          refine oK [0, 1, 5, 7, 72] (eE := [(0, .str a0), (1, .int .i64 a1), (5, .int .i64 (fW .i64 (fW .i64 (fW .i64 (a1 + x0_3) + 1) + x2_3))), (7, .int .i64 (fW .i64 (fW .i64 (fW .i64 (fW .i64 (a1 + x0_3) + 1) + x2_3) + 1))), (72, .bool true)]) (by kernel_rfl) ?_
          exact hj8 true
         ·refine oR 2 (p' := (atN 12 (ctl1 g72p15))) (eE := ((68, .int .i64 (fW .i64 (fW .i64 (fW .i64 (fW .i64 (a1 + x0_3) + 1) + x2_3) + 1))) :: (67, .str a0) :: (66, .bool false) :: E15)) (H' := (mkH [])) (by kernel_rfl) ?_
          refine oH (fun (x4_12 : Int) => (.int .u8 x4_12, (mkH []))) (atN 13 (ctl1 g72p15)) (fun x4_12 => ((69, .int .u8 x4_12) :: (68, .int .i64 (fW .i64 (fW .i64 (fW .i64 (fW .i64 (a1 + x0_3) + 1) + x2_3) + 1))) :: (67, .str a0) :: (66, .bool false) :: E15)) (idxH (by kernel_rfl)) (fun _ => by kernel_rfl) (fun x4_12 hx4_12 => ?_)
          let E17 : Env := ((72, .bool (decide (x4_12 = 45))) :: (71, .bool (decide (x4_12 = 45))) :: (70, .bool (decide (x4_12 = 45))) :: (69, .int .u8 x4_12) :: (68, .int .i64 (fW .i64 (fW .i64 (fW .i64 (fW .i64 (a1 + x0_3) + 1) + x2_3) + 1))) :: (67, .str a0) :: (66, .bool false) :: E15)
          refine oR 4 (p' := g72p16) (eE := E17) (H' := (mkH [])) (by kernel_rfl) ?_
          refine oK [0, 1, 5, 7, 72] (eE := [(0, .str a0), (1, .int .i64 a1), (5, .int .i64 (fW .i64 (fW .i64 (fW .i64 (a1 + x0_3) + 1) + x2_3))), (7, .int .i64 (fW .i64 (fW .i64 (fW .i64 (fW .i64 (a1 + x0_3) + 1) + x2_3) + 1))), (72, .bool (decide (x4_12 = 45)))]) (by kernel_rfl) ?_
          exact hj8 (decide (x4_12 = 45))
        ·let E18 : Env := ((72, .bool false) :: (71, .tuple []) :: (70, .tuple []) :: (69, .tuple []) :: (68, .tuple []) :: (67, .tuple []) :: (66, .tuple []) :: (65, .tuple []) :: (64, .tuple []) :: (63, .tuple []) :: (62, .tuple []) :: (61, .bool false) :: E9)
         refine oR 12 (p' := g72p16) (eE := E18) (H' := (mkH [])) (by kernel_rfl) ?_
         refine oK [0, 1, 5, 7, 72] (eE := [(0, .str a0), (1, .int .i64 a1), (5, .int .i64 (fW .i64 (fW .i64 (fW .i64 (a1 + x0_3) + 1) + x2_3))), (7, .int .i64 (fW .i64 (fW .i64 (fW .i64 (fW .i64 (a1 + x0_3) + 1) + x2_3) + 1))), (72, .bool false)]) (by kernel_rfl) ?_
         exact hj8 false
      ·let E19 : Env := [(54, .bool false), (0, .str a0), (1, .int .i64 a1), (5, .int .i64 (fW .i64 (fW .i64 (fW .i64 (a1 + x0_3) + 1) + x2_3))), (54, .bool z7)]
       refine oR 3 (p' := g72p14) (eE := E19) (H' := (mkH [])) (by kernel_rfl) ?_
       refine oK [1, 5] (eE := [(1, .int .i64 a1), (5, .int .i64 (fW .i64 (fW .i64 (fW .i64 (a1 + x0_3) + 1) + x2_3)))]) (by kernel_rfl) ?_
       exact hj9 (fW .i64 (fW .i64 (fW .i64 (a1 + x0_3) + 1) + x2_3))
    ·refine oS 43 (b := decide (fW .i64 (fW .i64 (fW .i64 (a1 + x0_3) + 1) + x2_3) < (a0.length : Int))) (by kernel_rfl) (fun hb => ?_) (fun hb => ?_)
     ·refine oR 2 (p' := (atN 7 (ctl1 g72p11))) (eE := ((45, .int .i64 (fW .i64 (fW .i64 (fW .i64 (a1 + x0_3) + 1) + x2_3))) :: (44, .str a0) :: (43, .bool true) :: E7)) (H' := (mkH [])) (by kernel_rfl) ?_
      refine oH (fun (x3_7 : Int) => (.int .u8 x3_7, (mkH []))) (atN 8 (ctl1 g72p11)) (fun x3_7 => ((46, .int .u8 x3_7) :: (45, .int .i64 (fW .i64 (fW .i64 (fW .i64 (a1 + x0_3) + 1) + x2_3))) :: (44, .str a0) :: (43, .bool true) :: E7)) (idxH (by kernel_rfl)) (fun _ => by kernel_rfl) (fun x3_7 hx3_7 => ?_)
      let E20 : Env := ((48, .bool (decide (x3_7 = 101))) :: (47, .bool (decide (x3_7 = 101))) :: (46, .int .u8 x3_7) :: (45, .int .i64 (fW .i64 (fW .i64 (fW .i64 (a1 + x0_3) + 1) + x2_3))) :: (44, .str a0) :: (43, .bool true) :: E7)
      refine oR 2 (p' := (atN 10 (ctl1 g72p11))) (eE := E20) (H' := (mkH [])) (by kernel_rfl) ?_
      refine oS 48 (b := decide (x3_7 = 101)) (by kernel_rfl) (fun hb => ?_) (fun hb => ?_)
      ·let E21 : Env := ((54, .bool true) :: (53, .bool true) :: (52, .tuple []) :: (51, .tuple []) :: (50, .tuple []) :: (49, .tuple []) :: (48, .bool true) :: E20)
       refine oR 7 (p' := g72p12) (eE := E21) (H' := (mkH [])) (by kernel_rfl) ?_
       refine oK [0, 1, 5, 54] (eE := [(0, .str a0), (1, .int .i64 a1), (5, .int .i64 (fW .i64 (fW .i64 (fW .i64 (a1 + x0_3) + 1) + x2_3))), (54, .bool true)]) (by kernel_rfl) ?_
       exact hj7 true
      ·refine oR 2 (p' := (atN 12 (ctl1 g72p11))) (eE := ((50, .int .i64 (fW .i64 (fW .i64 (fW .i64 (a1 + x0_3) + 1) + x2_3))) :: (49, .str a0) :: (48, .bool false) :: E20)) (H' := (mkH [])) (by kernel_rfl) ?_
       refine oH (fun (x3_12 : Int) => (.int .u8 x3_12, (mkH []))) (atN 13 (ctl1 g72p11)) (fun x3_12 => ((51, .int .u8 x3_12) :: (50, .int .i64 (fW .i64 (fW .i64 (fW .i64 (a1 + x0_3) + 1) + x2_3))) :: (49, .str a0) :: (48, .bool false) :: E20)) (idxH (by kernel_rfl)) (fun _ => by kernel_rfl) (fun x3_12 hx3_12 => ?_)
       let E22 : Env := ((54, .bool (decide (x3_12 = 69))) :: (53, .bool (decide (x3_12 = 69))) :: (52, .bool (decide (x3_12 = 69))) :: (51, .int .u8 x3_12) :: (50, .int .i64 (fW .i64 (fW .i64 (fW .i64 (a1 + x0_3) + 1) + x2_3))) :: (49, .str a0) :: (48, .bool false) :: E20)
       refine oR 4 (p' := g72p12) (eE := E22) (H' := (mkH [])) (by kernel_rfl) ?_
       refine oK [0, 1, 5, 54] (eE := [(0, .str a0), (1, .int .i64 a1), (5, .int .i64 (fW .i64 (fW .i64 (fW .i64 (a1 + x0_3) + 1) + x2_3))), (54, .bool (decide (x3_12 = 69)))]) (by kernel_rfl) ?_
       exact hj7 (decide (x3_12 = 69))
     ·let E23 : Env := ((54, .bool false) :: (53, .tuple []) :: (52, .tuple []) :: (51, .tuple []) :: (50, .tuple []) :: (49, .tuple []) :: (48, .tuple []) :: (47, .tuple []) :: (46, .tuple []) :: (45, .tuple []) :: (44, .tuple []) :: (43, .bool false) :: E7)
      refine oR 12 (p' := g72p12) (eE := E23) (H' := (mkH [])) (by kernel_rfl) ?_
      refine oK [0, 1, 5, 54] (eE := [(0, .str a0), (1, .int .i64 a1), (5, .int .i64 (fW .i64 (fW .i64 (fW .i64 (a1 + x0_3) + 1) + x2_3))), (54, .bool false)]) (by kernel_rfl) ?_
      exact hj7 false
 ·refine oS 17 (b := decide (fW .i64 (a1 + x0_3) = a1)) (by kernel_rfl) (fun hb => ?_) (fun hb => ?_)
  ·let E24 : Env := ((28, .bool true) :: (27, .tuple []) :: (26, .tuple []) :: (25, .tuple []) :: (24, .tuple []) :: (23, .bool true) :: (22, .bool true) :: (21, .tuple []) :: (20, .tuple []) :: (19, .tuple []) :: (18, .tuple []) :: (17, .bool true) :: E2)
   refine oR 12 (p' := g72p3) (eE := E24) (H' := (mkH [])) (by kernel_rfl) ?_
   refine oK [0, 1, 5, 28] (eE := [(0, .str a0), (1, .int .i64 a1), (5, .int .i64 (fW .i64 (a1 + x0_3))), (28, .bool true)]) (by kernel_rfl) ?_
   exact hj6 true
  ·let E25 : Env := ((23, .bool (decide ((a0.length : Int) ≤ fW .i64 (a1 + x0_3)))) :: (22, .bool (decide ((a0.length : Int) ≤ fW .i64 (a1 + x0_3)))) :: (21, .bool (decide ((a0.length : Int) ≤ fW .i64 (a1 + x0_3)))) :: (20, .int .i64 (a0.length : Int)) :: (19, .str a0) :: (18, .int .i64 (fW .i64 (a1 + x0_3))) :: (17, .bool false) :: E2)
   refine oR 6 (p' := (atN 10 (ctl1 g72p2))) (eE := E25) (H' := (mkH [])) (by kernel_rfl) ?_
   refine oS 23 (b := decide ((a0.length : Int) ≤ fW .i64 (a1 + x0_3))) (by kernel_rfl) (fun hb => ?_) (fun hb => ?_)
   ·let E26 : Env := ((28, .bool true) :: (27, .tuple []) :: (26, .tuple []) :: (25, .tuple []) :: (24, .tuple []) :: (23, .bool true) :: E25)
    refine oR 6 (p' := g72p3) (eE := E26) (H' := (mkH [])) (by kernel_rfl) ?_
    refine oK [0, 1, 5, 28] (eE := [(0, .str a0), (1, .int .i64 a1), (5, .int .i64 (fW .i64 (a1 + x0_3))), (28, .bool true)]) (by kernel_rfl) ?_
    exact hj6 true
   ·refine oR 2 (p' := (atN 12 (ctl1 g72p2))) (eE := ((25, .int .i64 (fW .i64 (a1 + x0_3))) :: (24, .str a0) :: (23, .bool false) :: E25)) (H' := (mkH [])) (by kernel_rfl) ?_
    refine oH (fun (x1_12 : Int) => (.int .u8 x1_12, (mkH []))) (atN 13 (ctl1 g72p2)) (fun x1_12 => ((26, .int .u8 x1_12) :: (25, .int .i64 (fW .i64 (a1 + x0_3))) :: (24, .str a0) :: (23, .bool false) :: E25)) (idxH (by kernel_rfl)) (fun _ => by kernel_rfl) (fun x1_12 hx1_12 => ?_)
    let E27 : Env := ((28, .bool (!decide (x1_12 = 46))) :: (27, .bool (!decide (x1_12 = 46))) :: (26, .int .u8 x1_12) :: (25, .int .i64 (fW .i64 (a1 + x0_3))) :: (24, .str a0) :: (23, .bool false) :: E25)
    refine oR 3 (p' := g72p3) (eE := E27) (H' := (mkH [])) (by kernel_rfl) ?_
    refine oK [0, 1, 5, 28] (eE := [(0, .str a0), (1, .int .i64 a1), (5, .int .i64 (fW .i64 (a1 + x0_3))), (28, .bool (!decide (x1_12 = 46)))]) (by kernel_rfl) ?_
    exact hj6 (!decide (x1_12 = 46))
end
end Go.Proofs.Ytbmijiibfaacmaa.Am
set_option maxRecDepth 100000
set_option linter.unusedVariables false
set_option linter.unusedSimpArgs false
namespace Go.Proofs.Ytbmijiibfaacmaa.Am
open Go
def frontN : List Nat → Nat × Nat
 | a :: b :: r => if dgN a < 10 then (if b = 35 then (if 2 ≤ dgN a then (2, dgN a) else (0, 10)) else if dgN b < 10 then (match r with | c :: _ => if c = 35 ∧ 2 ≤ 10 * dgN a + dgN b ∧ 10 * dgN a + dgN b ≤ 36 then (3, 10 * dgN a + dgN b) else (0, 10) | [] => (0, 10)) else (0, 10)) else (0, 10)
 | _ => (0, 10)
def wholeN (s : List Nat) : Nat := if 0 < (frontN s).1 ∧ 0 < runN (frontN s).2 false (s.drop (frontN s).1) then (frontN s).1 + runN (frontN s).2 false (s.drop (frontN s).1) else runN 10 false s
def sgn (s : List Nat) : Nat := match s with | c :: _ => if c = 43 ∨ c = 45 then 1 else 0 | [] => 0
def expN (s : List Nat) : Nat := match s with | e :: q => if e = 101 ∨ e = 69 then (if 0 < runN 10 false (q.drop (sgn q)) then 1 + sgn q + runN 10 false (q.drop (sgn q)) else 0) else 0 | [] => 0
def fracN (n : Nat) (s : List Nat) : Nat := match s with | c :: r => if c = 46 then (if runN 10 false r = 0 then 0 else n + 1 + runN 10 false r + expN (r.drop (runN 10 false r))) else 0 | [] => 0
def partN (s : List Nat) : Nat := if runN 10 false s = 0 then 0 else fracN (runN 10 false s) (s.drop (runN 10 false s))
theorem dg_35 : ¬ dgN 35 < 10 := by decide
theorem frontN_le (s : List Nat) : (frontN s).1 ≤ s.length ∧ (frontN s).2 ≤ 36 := by
 unfold frontN
 repeat' split
 all_goals simp only [List.length_cons]
 all_goals omega
theorem sgn_le (q : List Nat) : sgn q ≤ q.length := by
 unfold sgn; split
 ·split <;> simp
 ·simp
end Go.Proofs.Ytbmijiibfaacmaa.Am
set_option maxRecDepth 100000
set_option linter.unusedVariables false
namespace Go.Proofs.Ytbmijiibfaacmaa.Am
noncomputable section
open Go
def X70 : Fx Bool := ⟨Try.prog, cx, Try.f70, fun r => .bool r, 0, fun _ => H0, cxTi, cxOrd⟩
def g70p0 : Pt := nav [0] (bodyAt Try.f70)
def g70p1 : Pt := nav [0, 0, 0] g70p0
def g70 (k : Nat) (a0 : Int) : Option Bool :=
 if (decide (0 ≤ a0)) then (if (decide (a0 ≤ 1114111)) then (if (decide (a0 < 55296)) then (some true) else (some (decide (57343 < a0)))) else (some false)) else (some false)
theorem g70_ok (k : Nat) (a0 : Int) (r : Bool) (h : g70 k a0 = some r) : PureOk Try.prog 70 [.int .i64 a0] (.bool r) := by
 refine pure_of X70 (fun _ => rfl) Try.func70 (by decide +kernel) (by kernel_rfl) (t := g70 k a0) ?_ h
 unfold g70
 refine oE (eE := [(0, .int .i64 a0)]) (by kernel_rfl) ?_
 let E1 : Env := [(5, .bool (decide (0 ≤ a0))), (4, .bool (decide (0 ≤ a0))), (3, .int .i64 a0), (2, .bool false), (0, .int .i64 a0)]
 refine oR 9 (p' := (atN 3 (ctl1 g70p1))) (eE := E1) (H' := (mkH [])) (by kernel_rfl) ?_
 refine oS 5 (b := decide (0 ≤ a0)) (by kernel_rfl) (fun hb => ?_) (fun hb => ?_)
 ·let E2 : Env := ((9, .bool (decide (a0 ≤ 1114111))) :: (8, .bool (decide (a0 ≤ 1114111))) :: (7, .bool (decide (a0 ≤ 1114111))) :: (6, .int .i64 a0) :: (5, .bool true) :: E1)
  refine oR 4 (p' := (atN 7 (ctl1 g70p1))) (eE := E2) (H' := (mkH [])) (by kernel_rfl) ?_
  refine oS 9 (b := decide (a0 ≤ 1114111)) (by kernel_rfl) (fun hb => ?_) (fun hb => ?_)
  ·refine oR 3 (p' := (atN 10 (ctl1 g70p1))) (eE := ((12, .bool (decide (a0 < 55296))) :: (11, .bool (decide (a0 < 55296))) :: (10, .int .i64 a0) :: (9, .bool true) :: E2)) (H' := (mkH [])) (by kernel_rfl) ?_
   refine oS 12 (b := decide (a0 < 55296)) (by kernel_rfl) (fun hb => ?_) (fun hb => ?_)
   ·let E3 : Env := ((2, .bool true) :: (16, .bool true) :: (15, .bool true) :: (14, .tuple []) :: (13, .tuple []) :: (12, .bool true) :: (12, .bool (decide (a0 < 55296))) :: (11, .bool (decide (a0 < 55296))) :: (10, .int .i64 a0) :: (9, .bool true) :: E2)
    refine oR 7 (p' := .fin) (eE := E3) (H' := (mkH [])) (by kernel_rfl) ?_
    exact oT (r := true) (xs := [.bool true]) (v := .bool true) (by kernel_rfl) (by kernel_rfl) (by kernel_rfl) (.pures (by kernel_rfl)) (by kernel_rfl)
   ·let E4 : Env := ((2, .bool (decide (57343 < a0))) :: (16, .bool (decide (57343 < a0))) :: (15, .bool (decide (57343 < a0))) :: (14, .bool (decide (57343 < a0))) :: (13, .int .i64 a0) :: (12, .bool false) :: (12, .bool (decide (a0 < 55296))) :: (11, .bool (decide (a0 < 55296))) :: (10, .int .i64 a0) :: (9, .bool true) :: E2)
    refine oR 7 (p' := .fin) (eE := E4) (H' := (mkH [])) (by kernel_rfl) ?_
    exact oT (r := (decide (57343 < a0))) (xs := [.bool (decide (57343 < a0))]) (v := .bool (decide (57343 < a0))) (by kernel_rfl) (by kernel_rfl) (by kernel_rfl) (.pures (by kernel_rfl)) (by kernel_rfl)
  ·let E5 : Env := ((2, .bool false) :: (16, .bool false) :: (15, .tuple []) :: (14, .tuple []) :: (13, .tuple []) :: (12, .tuple []) :: (11, .tuple []) :: (10, .tuple []) :: (9, .bool false) :: E2)
   refine oR 10 (p' := .fin) (eE := E5) (H' := (mkH [])) (by kernel_rfl) ?_
   exact oT (r := false) (xs := [.bool false]) (v := .bool false) (by kernel_rfl) (by kernel_rfl) (by kernel_rfl) (.pures (by kernel_rfl)) (by kernel_rfl)
 ·let E6 : Env := ((2, .bool false) :: (16, .bool false) :: (15, .tuple []) :: (14, .tuple []) :: (13, .tuple []) :: (12, .tuple []) :: (11, .tuple []) :: (10, .tuple []) :: (9, .bool false) :: (8, .bool false) :: (7, .tuple []) :: (6, .tuple []) :: (5, .bool false) :: E1)
  refine oR 14 (p' := .fin) (eE := E6) (H' := (mkH [])) (by kernel_rfl) ?_
  exact oT (r := false) (xs := [.bool false]) (v := .bool false) (by kernel_rfl) (by kernel_rfl) (by kernel_rfl) (.pures (by kernel_rfl)) (by kernel_rfl)
end
end Go.Proofs.Ytbmijiibfaacmaa.Am
set_option maxRecDepth 100000
set_option linter.unusedVariables false
namespace Go.Proofs.Ytbmijiibfaacmaa.Am
noncomputable section
open Go
def X56 : Fx (Int × Int) := ⟨Try.prog, cx, Try.f56, fun r => .tuple [.int .i64 r.1, .int .i64 r.2], 0, fun _ => H0, cxTi, cxOrd⟩
def g56p0 : Pt := nav [0] (bodyAt Try.f56)
def g56p1 : Pt := nav [0, 0, 0, 0] g56p0
def g56p2 : Pt := nav [0, 0] g56p1
def g56p4 : Pt := nav [2, 0, 0] g56p2
def g56p6 : Pt := nav [0, 0, 0] g56p4
def g56p7 : Pt := nav [0, 0, 0, 0, 0] g56p6
def g56p8 : Pt := nav [0, 0] g56p7
def g56p10 : Pt := nav [2, 0] g56p8
def g56p11 : Pt := nav [0, 0] g56p10
def g56p12 : Pt := nav [1] g56p11
def g56p13 : Pt := nav [2, 0] g56p11
def g56p14 : Pt := nav [0, 0, 0, 0] g56p12
def g56p15 : Pt := nav [0, 0] g56p13
def g56p16 : Pt := nav [0, 0] g56p14
def g56p18 : Pt := nav [2, 0] g56p15
def g56p20 : Pt := nav [2, 0, 0, 0] g56p16
def g56p21 : Pt := nav [0, 0] g56p18
def g56p22 : Pt := nav [0, 0, 0, 0] g56p20
def g56p25 : Pt := nav [0, 0, 0] g56p22
def g56p26 : Pt := nav [0, 0] g56p25
def g56p27 : Pt := nav [1, 0, 0, 0, 0, 0] g56p26
def g56p28 : Pt := nav [2, 0, 0, 0] g56p26
def g56p29 : Pt := nav [0, 0] g56p27
def g56p30 : Pt := nav [0, 0] g56p28
def g56p32 : Pt := nav [2, 0] g56p29
def g56p35 : Pt := nav [0, 0] g56p32
def g56_l9 (k : Nat)  (a0 : (List Nat)) (a1 : Int) (z6 : Int × Int × Int) (n : Nat) : Int → Int → Option (Int × Int) :=
 Nat.rec (motive := fun _ => Int → Int → Option (Int × Int)) (fun _ _ => none) (fun _ ih => fun (y9_0 : Int) (y9_1 : Int) => if (decide (y9_1 < z6.2.1)) then ((nthS a0 (fW .i64 (a1 + y9_1))).bind fun x1_4 => if (!decide (andI .u8 x1_4 192 = 128)) then (some (((-1) : Int), (1 : Int))) else ((nthS a0 (fW .i64 (a1 + y9_1))).bind fun x2_6 => ih (fW .i64 (fW .i64 (y9_0 * 64) + fW .i64 (andI .u8 x2_6 63))) (fW .i64 (y9_1 + 1)))) else (jn (fun (z10 : Bool × Int) => if z10.1 then (some (((-1) : Int), (1 : Int))) else (some (z10.2, z6.2.1))) (fun j10 => if (decide (y9_0 < z6.2.2)) then (j10 (true, y9_0)) else ((g70 k y9_0).bind fun x3_5 => j10 (!x3_5, y9_0))))) n
theorem g56_l9_s (k : Nat)  (a0 : (List Nat)) (a1 : Int) (z6 : Int × Int × Int) (n : Nat) (y9_0 : Int) (y9_1 : Int) : g56_l9 k a0 a1 z6 (n + 1) y9_0 y9_1 = (if (decide (y9_1 < z6.2.1)) then ((nthS a0 (fW .i64 (a1 + y9_1))).bind fun x1_4 => if (!decide (andI .u8 x1_4 192 = 128)) then (some (((-1) : Int), (1 : Int))) else ((nthS a0 (fW .i64 (a1 + y9_1))).bind fun x2_6 => (g56_l9 k a0 a1 z6 n) (fW .i64 (fW .i64 (y9_0 * 64) + fW .i64 (andI .u8 x2_6 63))) (fW .i64 (y9_1 + 1)))) else (jn (fun (z10 : Bool × Int) => if z10.1 then (some (((-1) : Int), (1 : Int))) else (some (z10.2, z6.2.1))) (fun j10 => if (decide (y9_0 < z6.2.2)) then (j10 (true, y9_0)) else ((g70 k y9_0).bind fun x3_5 => j10 (!x3_5, y9_0))))) := rfl
theorem g56_l9_ok (k : Nat)  (a0 : (List Nat)) (a1 : Int) (z6 : Int × Int × Int)  : ∀ (n : Nat) (y9_0 : Int) (y9_1 : Int), Ok X56 g56p22 [(0, .str a0), (1, .int .i64 a1), (6, .int .i64 y9_0), (7, .int .i64 z6.2.1), (8, .int .i64 z6.2.2), (9, .int .i64 y9_1)] (mkH []) (g56_l9 k a0 a1 z6 n y9_0 y9_1)
 | 0, _, _ => ok_none
 | n + 1, y9_0, y9_1 => by
  have ih := g56_l9_ok k a0 a1 z6 n
  rw [g56_l9_s]
  refine ok_ent (p' := nav [0] g56p22) (by kernel_rfl) ?_
  let E7 : Env := [(61, .bool (decide (y9_1 < z6.2.1))), (60, .int .i64 z6.2.1), (59, .int .i64 y9_1), (0, .str a0), (1, .int .i64 a1), (6, .int .i64 y9_0), (7, .int .i64 z6.2.1), (8, .int .i64 z6.2.2), (9, .int .i64 y9_1)]
  refine oR 7 (p' := g56p26) (eE := E7) (H' := (mkH [])) (by kernel_rfl) ?_
  refine oS 61 (b := decide (y9_1 < z6.2.1)) (by kernel_rfl) (fun hb => ?_) (fun hb => ?_)
  ·let E8 : Env := ((67, .int .i64 (fW .i64 (a1 + y9_1))) :: (66, .int .i64 y9_1) :: (65, .int .i64 a1) :: (64, .str a0) :: (61, .bool true) :: E7)
   refine oR 11 (p' := (atN 4 (ctl1 g56p27))) (eE := E8) (H' := (mkH [])) (by kernel_rfl) ?_
   refine oH (fun (x1_4 : Int) => (.int .u8 x1_4, (mkH []))) (atN 5 (ctl1 g56p27)) (fun x1_4 => ((68, .int .u8 x1_4) :: E8)) (idxH (by kernel_rfl)) (fun _ => by kernel_rfl) (fun x1_4 hx1_4 => ?_)
   refine oR 3 (p' := g56p29) (eE := ((70, .bool (!decide (andI .u8 x1_4 192 = 128))) :: (69, .int .u8 (andI .u8 x1_4 192)) :: (68, .int .u8 x1_4) :: E8)) (H' := (mkH [])) (by kernel_rfl) ?_
   refine oK [0, 1, 6, 7, 8, 9, 70] (eE := [(0, .str a0), (1, .int .i64 a1), (6, .int .i64 y9_0), (7, .int .i64 z6.2.1), (8, .int .i64 z6.2.2), (9, .int .i64 y9_1), (70, .bool (!decide (andI .u8 x1_4 192 = 128)))]) (by kernel_rfl) ?_
   refine oS 70 (b := !decide (andI .u8 x1_4 192 = 128)) (by kernel_rfl) (fun hb => ?_) (fun hb => ?_)
   ·let E9 : Env := [(5, .int .i64 1), (4, .int .i64 (-1)), (70, .bool true), (0, .str a0), (1, .int .i64 a1), (6, .int .i64 y9_0), (7, .int .i64 z6.2.1), (8, .int .i64 z6.2.2), (9, .int .i64 y9_1), (70, .bool (!decide (andI .u8 x1_4 192 = 128)))]
    refine oR 7 (p' := .fin) (eE := E9) (H' := (mkH [])) (by kernel_rfl) ?_
    exact oT (r := (((-1) : Int), (1 : Int))) (xs := [.int .i64 (-1), .int .i64 1]) (v := .tuple [.int .i64 (-1), .int .i64 1]) (by kernel_rfl) (by kernel_rfl) (by kernel_rfl) (.pures (by kernel_rfl)) (by kernel_rfl)
   ·let E10 : Env := [(76, .int .i64 (fW .i64 (a1 + y9_1))), (75, .int .i64 y9_1), (74, .int .i64 a1), (73, .str a0), (72, .int .i64 (fW .i64 (y9_0 * 64))), (71, .int .i64 y9_0), (70, .bool false), (0, .str a0), (1, .int .i64 a1), (6, .int .i64 y9_0), (7, .int .i64 z6.2.1), (8, .int .i64 z6.2.2), (9, .int .i64 y9_1), (70, .bool (!decide (andI .u8 x1_4 192 = 128)))]
    refine oR 9 (p' := (atN 6 (ctl1 g56p32))) (eE := E10) (H' := (mkH [])) (by kernel_rfl) ?_
    refine oH (fun (x2_6 : Int) => (.int .u8 x2_6, (mkH []))) (atN 7 (ctl1 g56p32)) (fun x2_6 => ((77, .int .u8 x2_6) :: E10)) (idxH (by kernel_rfl)) (fun _ => by kernel_rfl) (fun x2_6 hx2_6 => ?_)
    let E11 : Env := ((6, .int .i64 (fW .i64 (fW .i64 (y9_0 * 64) + fW .i64 (andI .u8 x2_6 63)))) :: (80, .int .i64 (fW .i64 (fW .i64 (y9_0 * 64) + fW .i64 (andI .u8 x2_6 63)))) :: (79, .int .i64 (fW .i64 (andI .u8 x2_6 63))) :: (78, .int .u8 (andI .u8 x2_6 63)) :: (77, .int .u8 x2_6) :: E10)
    refine oR 5 (p' := g56p35) (eE := E11) (H' := (mkH [])) (by kernel_rfl) ?_
    refine oK [0, 1, 6, 7, 8, 9] (eE := [(0, .str a0), (1, .int .i64 a1), (6, .int .i64 (fW .i64 (fW .i64 (y9_0 * 64) + fW .i64 (andI .u8 x2_6 63)))), (7, .int .i64 z6.2.1), (8, .int .i64 z6.2.2), (9, .int .i64 y9_1)]) (by kernel_rfl) ?_
    let E12 : Env := [(9, .int .i64 (fW .i64 (y9_1 + 1))), (63, .int .i64 (fW .i64 (y9_1 + 1))), (62, .int .i64 y9_1), (0, .str a0), (1, .int .i64 a1), (6, .int .i64 (fW .i64 (fW .i64 (y9_0 * 64) + fW .i64 (andI .u8 x2_6 63)))), (7, .int .i64 z6.2.1), (8, .int .i64 z6.2.2), (9, .int .i64 y9_1)]
    refine oR 5 (p' := g56p22) (eE := E12) (H' := (mkH [])) (by kernel_rfl) ?_
    refine oK [0, 1, 6, 7, 8, 9] (eE := [(0, .str a0), (1, .int .i64 a1), (6, .int .i64 (fW .i64 (fW .i64 (y9_0 * 64) + fW .i64 (andI .u8 x2_6 63)))), (7, .int .i64 z6.2.1), (8, .int .i64 z6.2.2), (9, .int .i64 (fW .i64 (y9_1 + 1)))]) (by kernel_rfl) ?_
    exact ih (fW .i64 (fW .i64 (y9_0 * 64) + fW .i64 (andI .u8 x2_6 63))) (fW .i64 (y9_1 + 1))
  ·let E13 : Env := ((84, .bool (decide (y9_0 < z6.2.2))) :: (83, .bool (decide (y9_0 < z6.2.2))) :: (82, .int .i64 z6.2.2) :: (81, .int .i64 y9_0) :: (61, .bool false) :: E7)
   refine oR 9 (p' := (atN 4 (ctl1 g56p28))) (eE := E13) (H' := (mkH [])) (by kernel_rfl) ?_
   refine oJ (f := fun (z10 : Bool × Int) => if z10.1 then (some (((-1) : Int), (1 : Int))) else (some (z10.2, z6.2.1))) g56p30 (fun (z10 : Bool × Int) => [(6, .int .i64 z10.2), (7, .int .i64 z6.2.1), (88, .bool z10.1)]) (fun (z10 : Bool × Int) => (mkH [])) (fun z10 => ?_) (fun j10 hj10 => ?_)
   ·refine oS 88 (b := z10.1) (by kernel_rfl) (fun hb => ?_) (fun hb => ?_)
    ·let E14 : Env := [(5, .int .i64 1), (4, .int .i64 (-1)), (88, .bool true), (6, .int .i64 z10.2), (7, .int .i64 z6.2.1), (88, .bool z10.1)]
     refine oR 7 (p' := .fin) (eE := E14) (H' := (mkH [])) (by kernel_rfl) ?_
     exact oT (r := (((-1) : Int), (1 : Int))) (xs := [.int .i64 (-1), .int .i64 1]) (v := .tuple [.int .i64 (-1), .int .i64 1]) (by kernel_rfl) (by kernel_rfl) (by kernel_rfl) (.pures (by kernel_rfl)) (by kernel_rfl)
    ·let E15 : Env := [(5, .int .i64 z6.2.1), (4, .int .i64 z10.2), (90, .int .i64 z6.2.1), (89, .int .i64 z10.2), (88, .bool false), (6, .int .i64 z10.2), (7, .int .i64 z6.2.1), (88, .bool z10.1)]
     refine oR 10 (p' := .fin) (eE := E15) (H' := (mkH [])) (by kernel_rfl) ?_
     exact oT (r := (z10.2, z6.2.1)) (xs := [.int .i64 z10.2, .int .i64 z6.2.1]) (v := .tuple [.int .i64 z10.2, .int .i64 z6.2.1]) (by kernel_rfl) (by kernel_rfl) (by kernel_rfl) (.pures (by kernel_rfl)) (by kernel_rfl)
   ·refine oS 84 (b := decide (y9_0 < z6.2.2)) (by kernel_rfl) (fun hb => ?_) (fun hb => ?_)
    ·let E16 : Env := ((88, .bool true) :: (87, .tuple []) :: (86, .tuple []) :: (85, .tuple []) :: (84, .bool true) :: E13)
     refine oR 5 (p' := g56p30) (eE := E16) (H' := (mkH [])) (by kernel_rfl) ?_
     refine oK [6, 7, 88] (eE := [(6, .int .i64 y9_0), (7, .int .i64 z6.2.1), (88, .bool true)]) (by kernel_rfl) ?_
     exact hj10 (true, y9_0)
    ·refine oR 1 (p' := (atN 5 (ctl1 g56p28))) (eE := ((85, .int .i64 y9_0) :: (84, .bool false) :: E13)) (H' := (mkH [])) (by kernel_rfl) ?_
     refine oC (fun (x3_5 : Bool) => .bool x3_5) (atN 6 (ctl1 g56p28)) (fun x3_5 => ((86, .bool x3_5) :: (85, .int .i64 y9_0) :: (84, .bool false) :: E13)) (fi := 70) (args := [.int .i64 y9_0]) (by kernel_rfl) (by kernel_rfl) (fun _ => by kernel_rfl) (fun r h => g70_ok k y9_0 r h) (fun _ => by kernel_rfl) (fun x3_5 hx3_5 => ?_)
     let E17 : Env := ((88, .bool (!x3_5)) :: (87, .bool (!x3_5)) :: (86, .bool x3_5) :: (85, .int .i64 y9_0) :: (84, .bool false) :: E13)
     refine oR 3 (p' := g56p30) (eE := E17) (H' := (mkH [])) (by kernel_rfl) ?_
     refine oK [6, 7, 88] (eE := [(6, .int .i64 y9_0), (7, .int .i64 z6.2.1), (88, .bool (!x3_5))]) (by kernel_rfl) ?_
     exact hj10 (!x3_5, y9_0)
def g56 (k : Nat) (a0 : (List Nat)) (a1 : Int) : Option (Int × Int) :=
 jn (fun (z4 : Bool) => if z4 then (some ((0 : Int), (0 : Int))) else ((nthS a0 a1).bind fun x0_2 => if (decide (fW .i64 x0_2 < 128)) then (some (fW .i64 x0_2, (1 : Int))) else (jn (fun (z5 : Bool) => jn (fun (z6 : Int × Int × Int) => if (decide (fW .i64 ((a0.length : Int) - a1) < z6.2.1)) then (some (((-1) : Int), (1 : Int))) else (g56_l9 k a0 a1 z6 k z6.1 1)) (fun j6 => if z5 then (j6 (andI .i64 (fW .i64 x0_2) 31, 2, 128)) else (jn (fun (z7 : Bool) => if z7 then (j6 (andI .i64 (fW .i64 x0_2) 15, 3, 2048)) else (jn (fun (z8 : Bool) => if z8 then (j6 (andI .i64 (fW .i64 x0_2) 7, 4, 65536)) else (some (((-1) : Int), (1 : Int)))) (fun j8 => if (decide (240 ≤ fW .i64 x0_2)) then (j8 (decide (fW .i64 x0_2 < 248))) else (j8 false)))) (fun j7 => if (decide (224 ≤ fW .i64 x0_2)) then (j7 (decide (fW .i64 x0_2 < 240))) else (j7 false))))) (fun j5 => if (decide (192 ≤ fW .i64 x0_2)) then (j5 (decide (fW .i64 x0_2 < 224))) else (j5 false))))) (fun j4 => if (decide (a1 < 0)) then (j4 true) else (j4 (decide ((a0.length : Int) ≤ a1))))
theorem g56_ok (k : Nat) (a0 : (List Nat)) (a1 : Int) (r : (Int × Int)) (h : g56 k a0 a1 = some r) : PureOk Try.prog 56 [.str a0, .int .i64 a1] (.tuple [.int .i64 r.1, .int .i64 r.2]) := by
 refine pure_of X56 (fun _ => rfl) Try.func56 (by decide +kernel) (by kernel_rfl) (t := g56 k a0 a1) ?_ h
 unfold g56
 refine oE (eE := [(0, .str a0), (1, .int .i64 a1)]) (by kernel_rfl) ?_
 let E1 : Env := [(12, .bool (decide (a1 < 0))), (11, .bool (decide (a1 < 0))), (10, .int .i64 a1), (5, .int .i64 0), (4, .int .i64 0), (0, .str a0), (1, .int .i64 a1)]
 refine oR 11 (p' := (atN 3 (ctl1 g56p1))) (eE := E1) (H' := (mkH [])) (by kernel_rfl) ?_
 refine oJ (f := fun (z4 : Bool) => if z4 then (some ((0 : Int), (0 : Int))) else ((nthS a0 a1).bind fun x0_2 => if (decide (fW .i64 x0_2 < 128)) then (some (fW .i64 x0_2, (1 : Int))) else (jn (fun (z5 : Bool) => jn (fun (z6 : Int × Int × Int) => if (decide (fW .i64 ((a0.length : Int) - a1) < z6.2.1)) then (some (((-1) : Int), (1 : Int))) else (g56_l9 k a0 a1 z6 k z6.1 1)) (fun j6 => if z5 then (j6 (andI .i64 (fW .i64 x0_2) 31, 2, 128)) else (jn (fun (z7 : Bool) => if z7 then (j6 (andI .i64 (fW .i64 x0_2) 15, 3, 2048)) else (jn (fun (z8 : Bool) => if z8 then (j6 (andI .i64 (fW .i64 x0_2) 7, 4, 65536)) else (some (((-1) : Int), (1 : Int)))) (fun j8 => if (decide (240 ≤ fW .i64 x0_2)) then (j8 (decide (fW .i64 x0_2 < 248))) else (j8 false)))) (fun j7 => if (decide (224 ≤ fW .i64 x0_2)) then (j7 (decide (fW .i64 x0_2 < 240))) else (j7 false))))) (fun j5 => if (decide (192 ≤ fW .i64 x0_2)) then (j5 (decide (fW .i64 x0_2 < 224))) else (j5 false))))) g56p2 (fun (z4 : Bool) => [(0, .str a0), (1, .int .i64 a1), (17, .bool z4)]) (fun (z4 : Bool) => (mkH [])) (fun z4 => ?_) (fun j4 hj4 => ?_)
 ·refine oS 17 (b := z4) (by kernel_rfl) (fun hb => ?_) (fun hb => ?_)
  ·let E2 : Env := [(5, .int .i64 0), (4, .int .i64 0), (17, .bool true), (0, .str a0), (1, .int .i64 a1), (17, .bool z4)]
   refine oR 7 (p' := .fin) (eE := E2) (H' := (mkH [])) (by kernel_rfl) ?_
   exact oT (r := ((0 : Int), (0 : Int))) (xs := [.int .i64 0, .int .i64 0]) (v := .tuple [.int .i64 0, .int .i64 0]) (by kernel_rfl) (by kernel_rfl) (by kernel_rfl) (.pures (by kernel_rfl)) (by kernel_rfl)
  ·let E3 : Env := [(19, .int .i64 a1), (18, .str a0), (17, .bool false), (0, .str a0), (1, .int .i64 a1), (17, .bool z4)]
   refine oR 6 (p' := (atN 2 (ctl1 g56p4))) (eE := E3) (H' := (mkH [])) (by kernel_rfl) ?_
   refine oH (fun (x0_2 : Int) => (.int .u8 x0_2, (mkH []))) (atN 3 (ctl1 g56p4)) (fun x0_2 => ((20, .int .u8 x0_2) :: E3)) (idxH (by kernel_rfl)) (fun _ => by kernel_rfl) (fun x0_2 hx0_2 => ?_)
   let E4 : Env := ((8, .int .i64 0) :: (7, .int .i64 1) :: (6, .int .i64 (fW .i64 x0_2)) :: (21, .int .i64 (fW .i64 x0_2)) :: (20, .int .u8 x0_2) :: E3)
   refine oR 11 (p' := g56p7) (eE := E4) (H' := (mkH [])) (by kernel_rfl) ?_
   refine oK [0, 1, 6] (eE := [(0, .str a0), (1, .int .i64 a1), (6, .int .i64 (fW .i64 x0_2))]) (by kernel_rfl) ?_
   let E5 : Env := [(22, .bool (decide (fW .i64 x0_2 < 128))), (24, .bool (decide (fW .i64 x0_2 < 128))), (23, .int .i64 (fW .i64 x0_2)), (0, .str a0), (1, .int .i64 a1), (6, .int .i64 (fW .i64 x0_2))]
   refine oR 5 (p' := g56p8) (eE := E5) (H' := (mkH [])) (by kernel_rfl) ?_
   refine oS 22 (b := decide (fW .i64 x0_2 < 128)) (by kernel_rfl) (fun hb => ?_) (fun hb => ?_)
   ·refine oR 8 (p' := .fin) (eE := ((5, .int .i64 1) :: (4, .int .i64 (fW .i64 x0_2)) :: (25, .int .i64 (fW .i64 x0_2)) :: (22, .bool true) :: E5)) (H' := (mkH [])) (by kernel_rfl) ?_
    exact oT (r := (fW .i64 x0_2, (1 : Int))) (xs := [.int .i64 (fW .i64 x0_2), .int .i64 1]) (v := .tuple [.int .i64 (fW .i64 x0_2), .int .i64 1]) (by kernel_rfl) (by kernel_rfl) (by kernel_rfl) (.pures (by kernel_rfl)) (by kernel_rfl)
   ·refine oR 6 (p' := (atN 3 (ctl1 g56p10))) (eE := ((29, .bool (decide (192 ≤ fW .i64 x0_2))) :: (28, .bool (decide (192 ≤ fW .i64 x0_2))) :: (27, .int .i64 (fW .i64 x0_2)) :: (22, .bool false) :: E5)) (H' := (mkH [])) (by kernel_rfl) ?_
    refine oJ (f := fun (z5 : Bool) => jn (fun (z6 : Int × Int × Int) => if (decide (fW .i64 ((a0.length : Int) - a1) < z6.2.1)) then (some (((-1) : Int), (1 : Int))) else (g56_l9 k a0 a1 z6 k z6.1 1)) (fun j6 => if z5 then (j6 (andI .i64 (fW .i64 x0_2) 31, 2, 128)) else (jn (fun (z7 : Bool) => if z7 then (j6 (andI .i64 (fW .i64 x0_2) 15, 3, 2048)) else (jn (fun (z8 : Bool) => if z8 then (j6 (andI .i64 (fW .i64 x0_2) 7, 4, 65536)) else (some (((-1) : Int), (1 : Int)))) (fun j8 => if (decide (240 ≤ fW .i64 x0_2)) then (j8 (decide (fW .i64 x0_2 < 248))) else (j8 false)))) (fun j7 => if (decide (224 ≤ fW .i64 x0_2)) then (j7 (decide (fW .i64 x0_2 < 240))) else (j7 false))))) g56p11 (fun (z5 : Bool) => [(0, .str a0), (1, .int .i64 a1), (6, .int .i64 (fW .i64 x0_2)), (26, .bool z5)]) (fun (z5 : Bool) => (mkH [])) (fun z5 => ?_) (fun j5 hj5 => ?_)
    ·refine oJ (f := fun (z6 : Int × Int × Int) => if (decide (fW .i64 ((a0.length : Int) - a1) < z6.2.1)) then (some (((-1) : Int), (1 : Int))) else (g56_l9 k a0 a1 z6 k z6.1 1)) g56p14 (fun (z6 : Int × Int × Int) => [(0, .str a0), (1, .int .i64 a1), (6, .int .i64 z6.1), (7, .int .i64 z6.2.1), (8, .int .i64 z6.2.2)]) (fun (z6 : Int × Int × Int) => (mkH [])) (fun z6 => ?_) (fun j6 hj6 => ?_)
     ·let E6 : Env := [(58, .bool (decide (fW .i64 ((a0.length : Int) - a1) < z6.2.1))), (57, .int .i64 z6.2.1), (56, .int .i64 (fW .i64 ((a0.length : Int) - a1))), (55, .int .i64 a1), (54, .int .i64 (a0.length : Int)), (53, .str a0), (0, .str a0), (1, .int .i64 a1), (6, .int .i64 z6.1), (7, .int .i64 z6.2.1), (8, .int .i64 z6.2.2)]
      refine oR 8 (p' := g56p16) (eE := E6) (H' := (mkH [])) (by kernel_rfl) ?_
      refine oS 58 (b := decide (fW .i64 ((a0.length : Int) - a1) < z6.2.1)) (by kernel_rfl) (fun hb => ?_) (fun hb => ?_)
      ·refine oR 7 (p' := .fin) (eE := ((5, .int .i64 1) :: (4, .int .i64 (-1)) :: (58, .bool true) :: E6)) (H' := (mkH [])) (by kernel_rfl) ?_
       exact oT (r := (((-1) : Int), (1 : Int))) (xs := [.int .i64 (-1), .int .i64 1]) (v := .tuple [.int .i64 (-1), .int .i64 1]) (by kernel_rfl) (by kernel_rfl) (by kernel_rfl) (.pures (by kernel_rfl)) (by kernel_rfl)
      ·refine oR 9 (p' := g56p22) (eE := ((9, .int .i64 1) :: (58, .bool false) :: E6)) (H' := (mkH [])) (by kernel_rfl) ?_
       refine oK [0, 1, 6, 7, 8, 9] (eE := [(0, .str a0), (1, .int .i64 a1), (6, .int .i64 z6.1), (7, .int .i64 z6.2.1), (8, .int .i64 z6.2.2), (9, .int .i64 1)]) (by kernel_rfl) ?_
       exact (g56_l9_ok k a0 a1 z6 k) z6.1 1
     ·refine oS 26 (b := z5) (by kernel_rfl) (fun hb => ?_) (fun hb => ?_)
      ·let E18 : Env := [(6, .int .i64 (andI .i64 (fW .i64 x0_2) 31)), (8, .int .i64 128), (7, .int .i64 2), (34, .int .i64 (andI .i64 (fW .i64 x0_2) 31)), (33, .int .i64 (fW .i64 x0_2)), (26, .bool true), (0, .str a0), (1, .int .i64 a1), (6, .int .i64 (fW .i64 x0_2)), (26, .bool z5)]
       refine oR 10 (p' := g56p14) (eE := E18) (H' := (mkH [])) (by kernel_rfl) ?_
       refine oK [0, 1, 6, 7, 8] (eE := [(0, .str a0), (1, .int .i64 a1), (6, .int .i64 (andI .i64 (fW .i64 x0_2) 31)), (7, .int .i64 2), (8, .int .i64 128)]) (by kernel_rfl) ?_
       exact hj6 (andI .i64 (fW .i64 x0_2) 31, 2, 128)
      ·let E19 : Env := [(38, .bool (decide (224 ≤ fW .i64 x0_2))), (37, .bool (decide (224 ≤ fW .i64 x0_2))), (36, .int .i64 (fW .i64 x0_2)), (26, .bool false), (0, .str a0), (1, .int .i64 a1), (6, .int .i64 (fW .i64 x0_2)), (26, .bool z5)]
       refine oR 6 (p' := (atN 3 (ctl1 g56p13))) (eE := E19) (H' := (mkH [])) (by kernel_rfl) ?_
       refine oJ (f := fun (z7 : Bool) => if z7 then (j6 (andI .i64 (fW .i64 x0_2) 15, 3, 2048)) else (jn (fun (z8 : Bool) => if z8 then (j6 (andI .i64 (fW .i64 x0_2) 7, 4, 65536)) else (some (((-1) : Int), (1 : Int)))) (fun j8 => if (decide (240 ≤ fW .i64 x0_2)) then (j8 (decide (fW .i64 x0_2 < 248))) else (j8 false)))) g56p15 (fun (z7 : Bool) => [(0, .str a0), (1, .int .i64 a1), (6, .int .i64 (fW .i64 x0_2)), (35, .bool z7)]) (fun (z7 : Bool) => (mkH [])) (fun z7 => ?_) (fun j7 hj7 => ?_)
       ·refine oS 35 (b := z7) (by kernel_rfl) (fun hb => ?_) (fun hb => ?_)
        ·let E20 : Env := [(6, .int .i64 (andI .i64 (fW .i64 x0_2) 15)), (8, .int .i64 2048), (7, .int .i64 3), (43, .int .i64 (andI .i64 (fW .i64 x0_2) 15)), (42, .int .i64 (fW .i64 x0_2)), (35, .bool true), (0, .str a0), (1, .int .i64 a1), (6, .int .i64 (fW .i64 x0_2)), (35, .bool z7)]
         refine oR 10 (p' := g56p14) (eE := E20) (H' := (mkH [])) (by kernel_rfl) ?_
         refine oK [0, 1, 6, 7, 8] (eE := [(0, .str a0), (1, .int .i64 a1), (6, .int .i64 (andI .i64 (fW .i64 x0_2) 15)), (7, .int .i64 3), (8, .int .i64 2048)]) (by kernel_rfl) ?_
         exact hj6 (andI .i64 (fW .i64 x0_2) 15, 3, 2048)
        ·let E21 : Env := [(47, .bool (decide (240 ≤ fW .i64 x0_2))), (46, .bool (decide (240 ≤ fW .i64 x0_2))), (45, .int .i64 (fW .i64 x0_2)), (35, .bool false), (0, .str a0), (1, .int .i64 a1), (6, .int .i64 (fW .i64 x0_2)), (35, .bool z7)]
         refine oR 6 (p' := (atN 3 (ctl1 g56p18))) (eE := E21) (H' := (mkH [])) (by kernel_rfl) ?_
         refine oJ (f := fun (z8 : Bool) => if z8 then (j6 (andI .i64 (fW .i64 x0_2) 7, 4, 65536)) else (some (((-1) : Int), (1 : Int)))) g56p21 (fun (z8 : Bool) => [(0, .str a0), (1, .int .i64 a1), (6, .int .i64 (fW .i64 x0_2)), (44, .bool z8)]) (fun (z8 : Bool) => (mkH [])) (fun z8 => ?_) (fun j8 hj8 => ?_)
         ·refine oS 44 (b := z8) (by kernel_rfl) (fun hb => ?_) (fun hb => ?_)
          ·let E22 : Env := [(6, .int .i64 (andI .i64 (fW .i64 x0_2) 7)), (8, .int .i64 65536), (7, .int .i64 4), (52, .int .i64 (andI .i64 (fW .i64 x0_2) 7)), (51, .int .i64 (fW .i64 x0_2)), (44, .bool true), (0, .str a0), (1, .int .i64 a1), (6, .int .i64 (fW .i64 x0_2)), (44, .bool z8)]
           refine oR 10 (p' := g56p14) (eE := E22) (H' := (mkH [])) (by kernel_rfl) ?_
           refine oK [0, 1, 6, 7, 8] (eE := [(0, .str a0), (1, .int .i64 a1), (6, .int .i64 (andI .i64 (fW .i64 x0_2) 7)), (7, .int .i64 4), (8, .int .i64 65536)]) (by kernel_rfl) ?_
           exact hj6 (andI .i64 (fW .i64 x0_2) 7, 4, 65536)
          ·let E23 : Env := [(5, .int .i64 1), (4, .int .i64 (-1)), (44, .bool false), (0, .str a0), (1, .int .i64 a1), (6, .int .i64 (fW .i64 x0_2)), (44, .bool z8)]
           refine oR 7 (p' := .fin) (eE := E23) (H' := (mkH [])) (by kernel_rfl) ?_
           exact oT (r := (((-1) : Int), (1 : Int))) (xs := [.int .i64 (-1), .int .i64 1]) (v := .tuple [.int .i64 (-1), .int .i64 1]) (by kernel_rfl) (by kernel_rfl) (by kernel_rfl) (.pures (by kernel_rfl)) (by kernel_rfl)
         ·refine oS 47 (b := decide (240 ≤ fW .i64 x0_2)) (by kernel_rfl) (fun hb => ?_) (fun hb => ?_)
          ·let E24 : Env := ((44, .bool (decide (fW .i64 x0_2 < 248))) :: (50, .bool (decide (fW .i64 x0_2 < 248))) :: (49, .bool (decide (fW .i64 x0_2 < 248))) :: (48, .int .i64 (fW .i64 x0_2)) :: (47, .bool true) :: E21)
           refine oR 5 (p' := g56p21) (eE := E24) (H' := (mkH [])) (by kernel_rfl) ?_
           refine oK [0, 1, 6, 44] (eE := [(0, .str a0), (1, .int .i64 a1), (6, .int .i64 (fW .i64 x0_2)), (44, .bool (decide (fW .i64 x0_2 < 248)))]) (by kernel_rfl) ?_
           exact hj8 (decide (fW .i64 x0_2 < 248))
          ·let E25 : Env := ((44, .bool false) :: (50, .bool false) :: (49, .tuple []) :: (48, .tuple []) :: (47, .bool false) :: E21)
           refine oR 5 (p' := g56p21) (eE := E25) (H' := (mkH [])) (by kernel_rfl) ?_
           refine oK [0, 1, 6, 44] (eE := [(0, .str a0), (1, .int .i64 a1), (6, .int .i64 (fW .i64 x0_2)), (44, .bool false)]) (by kernel_rfl) ?_
           exact hj8 false
       ·refine oS 38 (b := decide (224 ≤ fW .i64 x0_2)) (by kernel_rfl) (fun hb => ?_) (fun hb => ?_)
        ·let E26 : Env := ((35, .bool (decide (fW .i64 x0_2 < 240))) :: (41, .bool (decide (fW .i64 x0_2 < 240))) :: (40, .bool (decide (fW .i64 x0_2 < 240))) :: (39, .int .i64 (fW .i64 x0_2)) :: (38, .bool true) :: E19)
         refine oR 5 (p' := g56p15) (eE := E26) (H' := (mkH [])) (by kernel_rfl) ?_
         refine oK [0, 1, 6, 35] (eE := [(0, .str a0), (1, .int .i64 a1), (6, .int .i64 (fW .i64 x0_2)), (35, .bool (decide (fW .i64 x0_2 < 240)))]) (by kernel_rfl) ?_
         exact hj7 (decide (fW .i64 x0_2 < 240))
        ·let E27 : Env := ((35, .bool false) :: (41, .bool false) :: (40, .tuple []) :: (39, .tuple []) :: (38, .bool false) :: E19)
         refine oR 5 (p' := g56p15) (eE := E27) (H' := (mkH [])) (by kernel_rfl) ?_
         refine oK [0, 1, 6, 35] (eE := [(0, .str a0), (1, .int .i64 a1), (6, .int .i64 (fW .i64 x0_2)), (35, .bool false)]) (by kernel_rfl) ?_
         exact hj7 false
    ·refine oS 29 (b := decide (192 ≤ fW .i64 x0_2)) (by kernel_rfl) (fun hb => ?_) (fun hb => ?_)
     ·let E28 : Env := ((26, .bool (decide (fW .i64 x0_2 < 224))) :: (32, .bool (decide (fW .i64 x0_2 < 224))) :: (31, .bool (decide (fW .i64 x0_2 < 224))) :: (30, .int .i64 (fW .i64 x0_2)) :: (29, .bool true) :: (29, .bool (decide (192 ≤ fW .i64 x0_2))) :: (28, .bool (decide (192 ≤ fW .i64 x0_2))) :: (27, .int .i64 (fW .i64 x0_2)) :: (22, .bool false) :: E5)
      refine oR 5 (p' := g56p11) (eE := E28) (H' := (mkH [])) (by kernel_rfl) ?_
      refine oK [0, 1, 6, 26] (eE := [(0, .str a0), (1, .int .i64 a1), (6, .int .i64 (fW .i64 x0_2)), (26, .bool (decide (fW .i64 x0_2 < 224)))]) (by kernel_rfl) ?_
      exact hj5 (decide (fW .i64 x0_2 < 224))
     ·let E29 : Env := ((26, .bool false) :: (32, .bool false) :: (31, .tuple []) :: (30, .tuple []) :: (29, .bool false) :: (29, .bool (decide (192 ≤ fW .i64 x0_2))) :: (28, .bool (decide (192 ≤ fW .i64 x0_2))) :: (27, .int .i64 (fW .i64 x0_2)) :: (22, .bool false) :: E5)
      refine oR 5 (p' := g56p11) (eE := E29) (H' := (mkH [])) (by kernel_rfl) ?_
      refine oK [0, 1, 6, 26] (eE := [(0, .str a0), (1, .int .i64 a1), (6, .int .i64 (fW .i64 x0_2)), (26, .bool false)]) (by kernel_rfl) ?_
      exact hj5 false
 ·refine oS 12 (b := decide (a1 < 0)) (by kernel_rfl) (fun hb => ?_) (fun hb => ?_)
  ·let E30 : Env := ((17, .bool true) :: (16, .tuple []) :: (15, .tuple []) :: (14, .tuple []) :: (13, .tuple []) :: (12, .bool true) :: E1)
   refine oR 6 (p' := g56p2) (eE := E30) (H' := (mkH [])) (by kernel_rfl) ?_
   refine oK [0, 1, 17] (eE := [(0, .str a0), (1, .int .i64 a1), (17, .bool true)]) (by kernel_rfl) ?_
   exact hj4 true
  ·let E31 : Env := ((17, .bool (decide ((a0.length : Int) ≤ a1))) :: (16, .bool (decide ((a0.length : Int) ≤ a1))) :: (15, .int .i64 (a0.length : Int)) :: (14, .str a0) :: (13, .int .i64 a1) :: (12, .bool false) :: E1)
   refine oR 6 (p' := g56p2) (eE := E31) (H' := (mkH [])) (by kernel_rfl) ?_
   refine oK [0, 1, 17] (eE := [(0, .str a0), (1, .int .i64 a1), (17, .bool (decide ((a0.length : Int) ≤ a1)))]) (by kernel_rfl) ?_
   exact hj4 (decide ((a0.length : Int) ≤ a1))
end
end Go.Proofs.Ytbmijiibfaacmaa.Am
set_option maxRecDepth 100000
set_option linter.unusedVariables false
namespace Go.Proofs.Ytbmijiibfaacmaa.Am
open Go
theorem nthS_at {s : List Nat} {i b : Nat} {r : List Nat} (h : s.drop i = b :: r) : nthS s (i : Int) = some (b : Int) := by
 have e : s[i]? = some b := by
  have := List.getElem?_drop (xs := s) (i := i) (j := 0)
  rw [h] at this
  simpa using this.symm
 unfold nthS
 rw [if_pos (by omega)]
 simp [e]
theorem drop_cons {s : List Nat} {i : Nat} (h : i < s.length) : ∃ b r, s.drop i = b :: r ∧ s.drop (i + 1) = r ∧ b ∈ s := by
 refine ⟨s[i], s.drop (i + 1), ?_, rfl, List.getElem_mem h⟩
 exact List.drop_eq_getElem_cons h
def byteOk (b : Nat) : Bool := decide (andI .u8 (b : Int) 63 = ((b % 64 : Nat) : Int)) && decide (andI .u8 (b : Int) 31 = ((b % 32 : Nat) : Int)) && decide (andI .u8 (b : Int) 15 = ((b % 16 : Nat) : Int)) && decide (andI .u8 (b : Int) 7 = ((b % 8 : Nat) : Int)) && (decide (andI .u8 (b : Int) 192 = 128) == decide (b / 64 = 2))
theorem byteOk_all : ((List.range 256).all byteOk) = true := by decide +kernel
theorem byte_ok {b : Nat} (h : b < 256) : andI .u8 (b : Int) 63 = ((b % 64 : Nat) : Int) ∧ andI .u8 (b : Int) 31 = ((b % 32 : Nat) : Int) ∧ andI .u8 (b : Int) 15 = ((b % 16 : Nat) : Int) ∧ andI .u8 (b : Int) 7 = ((b % 8 : Nat) : Int) ∧ (andI .u8 (b : Int) 192 = 128 ↔ b / 64 = 2) := by
 have w := List.all_eq_true.1 byteOk_all b (List.mem_range.2 h)
 simp only [byteOk, Bool.and_eq_true, decide_eq_true_eq, beq_iff_eq] at w
 obtain ⟨⟨⟨⟨w1, w2⟩, w3⟩, w4⟩, w5⟩ := w
 refine ⟨w1, w2, w3, w4, ?_⟩
 constructor
 ·intro h
  rw [decide_eq_true h] at w5
  exact of_decide_eq_true w5.symm
 ·intro h
  rw [decide_eq_true h] at w5
  exact of_decide_eq_true w5
theorem fwn (x : Nat) (h : x ≤ 9223372036854775807) : fW .i64 (x : Int) = x := fw64 _ (by omega) (by omega)
def leadN (c : Nat) : Nat × Nat := if c < 128 then (1, c) else if c / 32 = 6 then (2, c % 32) else if c / 16 = 14 then (3, c % 16) else if c / 8 = 30 then (4, c % 8) else (0, 0)
def moreN : Nat → Nat → List Nat → Option Nat
 | 0, c, _ => some c
 | _ + 1, _, [] => none
 | n + 1, c, b :: r => if b / 64 = 2 then moreN n (c * 64 + b % 64) r else none
def leastN (n : Nat) : Nat := if n = 2 then 128 else if n = 3 then 2048 else if n = 4 then 65536 else 0
def cpN (c : Nat) : Bool := decide (c ≤ 1114111) && !(decide (55296 ≤ c) && decide (c ≤ 57343))
def fitN (n : Nat) : Option Nat → Int × Int
 | none => (-1, 1)
 | some y => if leastN n ≤ y ∧ cpN y = true then ((y : Int), (n : Int)) else (-1, 1)
def dec : List Nat → Int × Int
 | [] => (0, 0)
 | c :: r => if (leadN c).1 = 0 then (-1, 1) else fitN (leadN c).1 (moreN ((leadN c).1 - 1) (leadN c).2 r)
theorem moreN_none : ∀ (n c : Nat) (r : List Nat), r.length < n → moreN n c r = none
 | 0, c, r, h => by omega
 | n + 1, c, [], h => rfl
 | n + 1, c, b :: r, h => by
  unfold moreN
  split
  ·exact moreN_none n _ r (by simp at h; omega)
  ·rfl
theorem point_at {k c : Nat} : g70 k (c : Int) = some (cpN c) := by
 unfold g70 cpN
 by_cases h1 : c ≤ 1114111
 ·by_cases h2 : c < 55296
  ·have : ¬ 55296 ≤ c := by omega
   have e2 : decide ((c : Int) ≤ 1114111) = true := by simp; omega
   have e3 : decide ((c : Int) < 55296) = true := by simp; omega
   simp [e2, e3, h1, this]
  ·have : 55296 ≤ c := by omega
   have e2 : decide ((c : Int) ≤ 1114111) = true := by simp; omega
   have e3 : decide ((c : Int) < 55296) = false := by simp; omega
   simp [e2, e3, h1, this]
   rw [Bool.eq_iff_iff]; simp; omega
 ·have e2 : decide ((c : Int) ≤ 1114111) = false := by simp; omega
  simp [e2, h1]
end Go.Proofs.Ytbmijiibfaacmaa.Am
set_option maxRecDepth 100000
set_option linter.unusedVariables false
set_option linter.unusedSimpArgs false
namespace Go.Proofs.Ytbmijiibfaacmaa.Am
open Go
theorem pow64_le {i : Nat} (h : i ≤ 3) : 64 ^ i ≤ 262144 := by
 have : i = 0 ∨ i = 1 ∨ i = 2 ∨ i = 3 := by omega
 obtain rfl | rfl | rfl | rfl := this <;> decide
theorem pow64_step {y i b : Nat} (h : y < 64 ^ i) : y * 64 + b % 64 < 64 ^ (i + 1) := by
 rw [Nat.pow_succ]
 have := Nat.mod_lt b (by decide : 0 < 64)
 generalize 64 ^ i = P at h ⊢
 omega
theorem rnext_l (k : Nat) (s : List Nat) (hs : ∀ b ∈ s, b < 256) (hl : s.length ≤ 140737488351232) (at' n q : Nat) (hn : n ≤ 4) (hat : at' + n ≤ s.length) : ∀ (d m i y : Nat), i + d = n → 1 ≤ i → y < 64 ^ i →
 g56_l9 k s (at' : Int) ((q : Int), (n : Int), ((leastN n : Nat) : Int)) (d + 1 + m) (y : Int) (i : Int) = some (fitN n (moreN d y (s.drop (at' + i))))
 | 0, m, i, y, hi, h1, hy => by
  rw [show 0 + 1 + m = m + 1 from by omega, g56_l9_s]
  have e1 : decide ((i : Int) < (n : Int)) = false := by simp; omega
  simp only [e1, point_at, moreN, fitN, Option.bind_some, jn]
  by_cases h : leastN n ≤ y
  ·have e2 : decide ((y : Int) < ((leastN n : Nat) : Int)) = false := by simp; omega
   cases hc : cpN y <;> simp [e2, h, hc]
  ·have e2 : decide ((y : Int) < ((leastN n : Nat) : Int)) = true := by simp; omega
   simp [e2, h]
 | d + 1, m, i, y, hi, h1, hy => by
  rw [show d + 1 + 1 + m = (d + 1 + m) + 1 from by omega, g56_l9_s]
  have e1 : decide ((i : Int) < (n : Int)) = true := by simp; omega
  obtain ⟨b, r, hb, hr, hm⟩ := drop_cons (s := s) (i := at' + i) (by omega)
  have e2 : fW .i64 ((at' : Int) + (i : Int)) = ((at' + i : Nat) : Int) := by
   have : (at' : Int) + (i : Int) = ((at' + i : Nat) : Int) := by push_cast; rfl
   rw [this, fwn _ (by omega)]
  obtain ⟨b63, -, -, -, b192⟩ := byte_ok (hs b hm)
  have hi4 : i ≤ 3 := by omega
  have a1 : i + 1 + d = n := by rw [← hi]; exact Nat.add_right_comm i 1 d
  have a2 : 1 ≤ i + 1 := Nat.le_add_left 1 i
  have a3 : y * 64 + b % 64 < 64 ^ (i + 1) := pow64_step hy
  have hp : 64 ^ i ≤ 262144 := pow64_le hi4
  have e3 : fW .i64 ((i : Int) + 1) = ((i + 1 : Nat) : Int) := by
   have : (i : Int) + 1 = ((i + 1 : Nat) : Int) := by push_cast; rfl
   rw [this, fwn _ (by omega)]
  have e5 : fW .i64 (fW .i64 ((y : Int) * 64) + ((b % 64 : Nat) : Int)) = ((y * 64 + b % 64 : Nat) : Int) := by
   have : (y : Int) * 64 = ((y * 64 : Nat) : Int) := by push_cast; rfl
   rw [this, fwn _ (by omega)]
   have : ((y * 64 : Nat) : Int) + ((b % 64 : Nat) : Int) = ((y * 64 + b % 64 : Nat) : Int) := by push_cast; rfl
   rw [this, fwn _ (by omega)]
  simp only [e1, e2, nthS_at hb, Option.bind_some, b63, if_true]
  by_cases h : b / 64 = 2
  ·have e4 : decide (andI .u8 (b : Int) 192 = 128) = true := decide_eq_true (b192.2 h)
   have ih := rnext_l k s hs hl at' n q hn hat d m (i + 1) (y * 64 + b % 64) a1 a2 a3
   rw [e4, fwn _ (by omega : b % 64 ≤ 9223372036854775807), e5, e3, ih, hb, show at' + (i + 1) = at' + i + 1 from by omega, hr]
   simp [moreN, h]
  ·have e4 : decide (andI .u8 (b : Int) 192 = 128) = false := decide_eq_false (fun w => h (b192.1 w))
   rw [e4, hb]
   simp [moreN, h, fitN]
end Go.Proofs.Ytbmijiibfaacmaa.Am
set_option maxRecDepth 100000
set_option linter.unusedVariables false
namespace Go.Proofs.Ytbmijiibfaacmaa.Am
noncomputable section
open Go
def X44 : Fx Bool := ⟨Try.prog, cx, Try.f44, fun r => .bool r, 0, fun _ => H0, cxTi, cxOrd⟩
def g44p0 : Pt := nav [0] (bodyAt Try.f44)
def g44p1 : Pt := nav [0, 0, 0, 0] g44p0
def g44p2 : Pt := nav [0, 0, 0, 0] g44p1
def g44p3 : Pt := nav [0, 0, 0] g44p2
def g44p4 : Pt := nav [0, 0] g44p3
def g44p5 : Pt := nav [1, 0, 0, 0] g44p4
def g44p7 : Pt := nav [0, 0, 0, 0] g44p5
def g44p9 : Pt := nav [0, 0] g44p7
def g44_l1 (k : Nat)  (a0 : (List Nat)) (n : Nat) : Int → Option Bool :=
 Nat.rec (motive := fun _ => Int → Option Bool) (fun _ => none) (fun _ ih => fun (y1_0 : Int) => if (decide (y1_0 < (a0.length : Int))) then ((g56 k a0 y1_0).bind fun x0_2 => if (decide (x0_2.1 < 0)) then (some false) else (ih (fW .i64 (y1_0 + x0_2.2)))) else (some true)) n
theorem g44_l1_s (k : Nat)  (a0 : (List Nat)) (n : Nat) (y1_0 : Int) : g44_l1 k a0 (n + 1) y1_0 = (if (decide (y1_0 < (a0.length : Int))) then ((g56 k a0 y1_0).bind fun x0_2 => if (decide (x0_2.1 < 0)) then (some false) else ((g44_l1 k a0 n) (fW .i64 (y1_0 + x0_2.2)))) else (some true)) := rfl
theorem g44_l1_ok (k : Nat)  (a0 : (List Nat))  : ∀ (n : Nat) (y1_0 : Int), Ok X44 g44p2 [(0, .str a0), (3, .int .i64 y1_0)] (mkH []) (g44_l1 k a0 n y1_0)
 | 0, _ => ok_none
 | n + 1, y1_0 => by
  have ih := g44_l1_ok k a0 n
  rw [g44_l1_s]
  refine ok_ent (p' := nav [0] g44p2) (by kernel_rfl) ?_
  let E1 : Env := [(9, .bool (decide (y1_0 < (a0.length : Int)))), (8, .int .i64 (a0.length : Int)), (7, .str a0), (6, .int .i64 y1_0), (0, .str a0), (3, .int .i64 y1_0)]
  refine oR 8 (p' := g44p4) (eE := E1) (H' := (mkH [])) (by kernel_rfl) ?_
  refine oS 9 (b := decide (y1_0 < (a0.length : Int))) (by kernel_rfl) (fun hb => ?_) (fun hb => ?_)
  ·refine oR 7 (p' := (atN 2 (ctl1 g44p5))) (eE := ((12, .int .i64 y1_0) :: (11, .str a0) :: (9, .bool true) :: E1)) (H' := (mkH [])) (by kernel_rfl) ?_
   refine oC (fun (x0_2 : (Int × Int)) => .tuple [.int .i64 x0_2.1, .int .i64 x0_2.2]) (atN 3 (ctl1 g44p5)) (fun x0_2 => ((13, .tuple [.int .i64 x0_2.1, .int .i64 x0_2.2]) :: (12, .int .i64 y1_0) :: (11, .str a0) :: (9, .bool true) :: E1)) (fi := 56) (args := [.str a0, .int .i64 y1_0]) (by kernel_rfl) (by kernel_rfl) (fun _ => by kernel_rfl) (fun r h => g56_ok k a0 y1_0 r h) (fun _ => by kernel_rfl) (fun x0_2 hx0_2 => ?_)
   let E2 : Env := ((5, .int .i64 x0_2.2) :: (4, .int .i64 x0_2.1) :: (15, .int .i64 x0_2.2) :: (14, .int .i64 x0_2.1) :: (10, .tuple [.int .i64 x0_2.1, .int .i64 x0_2.2]) :: (13, .tuple [.int .i64 x0_2.1, .int .i64 x0_2.2]) :: (12, .int .i64 y1_0) :: (11, .str a0) :: (9, .bool true) :: E1)
   refine oR 8 (p' := g44p7) (eE := E2) (H' := (mkH [])) (by kernel_rfl) ?_
   refine oK [0, 3, 4, 5] (eE := [(0, .str a0), (3, .int .i64 y1_0), (4, .int .i64 x0_2.1), (5, .int .i64 x0_2.2)]) (by kernel_rfl) ?_
   let E3 : Env := [(17, .bool (decide (x0_2.1 < 0))), (16, .int .i64 x0_2.1), (0, .str a0), (3, .int .i64 y1_0), (4, .int .i64 x0_2.1), (5, .int .i64 x0_2.2)]
   refine oR 4 (p' := g44p9) (eE := E3) (H' := (mkH [])) (by kernel_rfl) ?_
   refine oS 17 (b := decide (x0_2.1 < 0)) (by kernel_rfl) (fun hb => ?_) (fun hb => ?_)
   ·refine oR 6 (p' := .fin) (eE := ((2, .bool false) :: (17, .bool true) :: E3)) (H' := (mkH [])) (by kernel_rfl) ?_
    exact oT (r := false) (xs := [.bool false]) (v := .bool false) (by kernel_rfl) (by kernel_rfl) (by kernel_rfl) (.pures (by kernel_rfl)) (by kernel_rfl)
   ·let E4 : Env := ((3, .int .i64 (fW .i64 (y1_0 + x0_2.2))) :: (20, .int .i64 (fW .i64 (y1_0 + x0_2.2))) :: (19, .int .i64 x0_2.2) :: (18, .int .i64 y1_0) :: (17, .bool false) :: E3)
    refine oR 8 (p' := g44p2) (eE := E4) (H' := (mkH [])) (by kernel_rfl) ?_
    refine oK [0, 3] (eE := [(0, .str a0), (3, .int .i64 (fW .i64 (y1_0 + x0_2.2)))]) (by kernel_rfl) ?_
    exact ih (fW .i64 (y1_0 + x0_2.2))
  ·refine oR 7 (p' := .fin) (eE := ((2, .bool true) :: (9, .bool false) :: E1)) (H' := (mkH [])) (by kernel_rfl) ?_
   exact oT (r := true) (xs := [.bool true]) (v := .bool true) (by kernel_rfl) (by kernel_rfl) (by kernel_rfl) (.pures (by kernel_rfl)) (by kernel_rfl)
def g44 (k : Nat) (a0 : (List Nat)) : Option Bool :=
 g44_l1 k a0 k 0
theorem g44_ok (k : Nat) (a0 : (List Nat)) (r : Bool) (h : g44 k a0 = some r) : PureOk Try.prog 44 [.str a0] (.bool r) := by
 refine pure_of X44 (fun _ => rfl) Try.func44 (by decide +kernel) (by kernel_rfl) (t := g44 k a0) ?_ h
 unfold g44
 refine oE (eE := [(0, .str a0)]) (by kernel_rfl) ?_
 refine oR 11 (p' := g44p2) (eE := [(3, .int .i64 0), (2, .bool false), (0, .str a0)]) (H' := (mkH [])) (by kernel_rfl) ?_
 refine oK [0, 3] (eE := [(0, .str a0), (3, .int .i64 0)]) (by kernel_rfl) ?_
 exact (g44_l1_ok k a0 k) 0
end
end Go.Proofs.Ytbmijiibfaacmaa.Am
set_option maxRecDepth 100000
set_option linter.unusedVariables false
set_option linter.unusedSimpArgs false
namespace Go.Proofs.Ytbmijiibfaacmaa.Am
open Go
theorem lead_le (c : Nat) : (leadN c).1 ≤ 4 := by
 unfold leadN; repeat' split
 all_goals simp
theorem rnext_at {k : Nat} (hk : 6 ≤ k) {s : List Nat} (hs : ∀ b ∈ s, b < 256) (hl : s.length ≤ 140737488351232) (i : Nat) : g56 k s (i : Int) = some (dec (s.drop i)) := by
 unfold g56
 have e0 : decide ((i : Int) < 0) = false := decide_eq_false (by omega)
 by_cases hi : i < s.length
 ·have e1 : decide ((s.length : Int) ≤ (i : Int)) = false := by simp; omega
  obtain ⟨c, r, hc, hr, hm⟩ := drop_cons hi
  have hc' := hs c hm
  have hrl : r.length + i + 1 = s.length := by rw [← hr, List.length_drop]; omega
  have e2 : fW .i64 ((s.length : Int) - (i : Int)) = ((r.length + 1 : Nat) : Int) := by
   have : (s.length : Int) - (i : Int) = ((r.length + 1 : Nat) : Int) := by omega
   rw [this, fwn _ (by omega)]
  have a31 : andI .i64 (c : Int) 31 = ((c % 32 : Nat) : Int) := by have := andI64 (c : Int) 5 (by decide); exact this
  have a15 : andI .i64 (c : Int) 15 = ((c % 16 : Nat) : Int) := by have := andI64 (c : Int) 4 (by decide); exact this
  have a7 : andI .i64 (c : Int) 7 = ((c % 8 : Nat) : Int) := by have := andI64 (c : Int) 3 (by decide); exact this
  simp only [e0, e1, nthS_at hc, Option.bind_some, jn, e2, hc, dec, fwn c (by omega), a31, a15, a7]
  have step : ∀ (n q : Nat), 2 ≤ n → n ≤ 4 → q < 64 ^ 1 → leadN c = (n, q) →
   (if decide (((r.length + 1 : Nat) : Int) < (n : Int)) then some ((-1 : Int), (1 : Int)) else g56_l9 k s (i : Int) ((q : Int), (n : Int), ((leastN n : Nat) : Int)) k (q : Int) 1) = some (fitN n (moreN (n - 1) q r)) := by
   intro n q hn hn4 hq hlead
   by_cases h1 : r.length + 1 < n
   ·rw [if_pos (by simp only [decide_eq_true_eq]; omega), moreN_none _ _ _ (by omega)]
    rfl
   ·rw [if_neg (by simp only [decide_eq_true_eq]; omega)]
    have w := rnext_l k s hs hl i n q hn4 (by omega) (n - 1) (k - n) 1 q (by omega) (by decide) hq
    rw [show n - 1 + 1 + (k - n) = k from by omega, hr] at w
    exact w
  by_cases c1 : c < 128
  ·have : leadN c = (1, c) := by unfold leadN; rw [if_pos c1]
   have hcp : cpN c = true := by unfold cpN; simp; omega
   rw [this, decide_eq_true (show (c : Int) < 128 by omega)]
   simp [moreN, fitN, leastN, hcp]
  ·rw [decide_eq_false (show ¬ (c : Int) < 128 by omega)]
   simp only [Bool.false_eq_true, if_false]
   by_cases c2 : 192 ≤ c ∧ c < 224
   ·have hL : leadN c = (2, c % 32) := by unfold leadN; rw [if_neg c1, if_pos (by omega)]
    rw [decide_eq_true (show (192 : Int) ≤ (c : Int) by omega), decide_eq_true (show (c : Int) < 224 by omega), hL]
    exact step 2 (c % 32) (by decide) (by decide) (by omega) hL
   ·have n1 : ¬ c / 32 = 6 := by omega
    by_cases c3 : 224 ≤ c ∧ c < 240
    ·have hL : leadN c = (3, c % 16) := by unfold leadN; rw [if_neg c1, if_neg n1, if_pos (by omega)]
     rw [decide_eq_true (show (192 : Int) ≤ (c : Int) by omega), decide_eq_false (show ¬ (c : Int) < 224 by omega), decide_eq_true (show (224 : Int) ≤ (c : Int) by omega), decide_eq_true (show (c : Int) < 240 by omega), hL]
     exact step 3 (c % 16) (by decide) (by decide) (by omega) hL
    ·have n2 : ¬ c / 16 = 14 := by omega
     by_cases c4 : 240 ≤ c ∧ c < 248
     ·have hL : leadN c = (4, c % 8) := by unfold leadN; rw [if_neg c1, if_neg n1, if_neg n2, if_pos (by omega)]
      rw [decide_eq_true (show (192 : Int) ≤ (c : Int) by omega), decide_eq_false (show ¬ (c : Int) < 224 by omega), decide_eq_true (show (224 : Int) ≤ (c : Int) by omega), decide_eq_false (show ¬ (c : Int) < 240 by omega), decide_eq_true (show (240 : Int) ≤ (c : Int) by omega), decide_eq_true (show (c : Int) < 248 by omega), hL]
      exact step 4 (c % 8) (by decide) (by decide) (by omega) hL
     ·have n3 : ¬ c / 8 = 30 := by omega
      have hL : leadN c = (0, 0) := by unfold leadN; rw [if_neg c1, if_neg n1, if_neg n2, if_neg n3]
      rw [hL]
      by_cases d1 : 192 ≤ c
      ·rw [decide_eq_true (show (192 : Int) ≤ (c : Int) by omega), decide_eq_false (show ¬ (c : Int) < 224 by omega), decide_eq_true (show (224 : Int) ≤ (c : Int) by omega), decide_eq_false (show ¬ (c : Int) < 240 by omega), decide_eq_true (show (240 : Int) ≤ (c : Int) by omega), decide_eq_false (show ¬ (c : Int) < 248 by omega)]
       rfl
      ·rw [decide_eq_false (show ¬ (192 : Int) ≤ (c : Int) by omega), decide_eq_false (show ¬ (224 : Int) ≤ (c : Int) by omega), decide_eq_false (show ¬ (240 : Int) ≤ (c : Int) by omega)]
       rfl
 ·have e1 : decide ((s.length : Int) ≤ (i : Int)) = true := by simp; omega
  rw [e0, e1, List.drop_eq_nil_of_le (by omega)]
  rfl
theorem dec_size {s : List Nat} (h : s ≠ []) : ∃ n : Nat, (dec s).2 = (n : Int) ∧ 1 ≤ n ∧ n ≤ 4 ∧ n ≤ s.length ∧ ((dec s).1 < 0 → n = 1) := by
 cases s with
 | nil => exact absurd rfl h
 | cons c r =>
  have hd : dec (c :: r) = if (leadN c).1 = 0 then (-1, 1) else fitN (leadN c).1 (moreN ((leadN c).1 - 1) (leadN c).2 r) := rfl
  rw [hd]
  by_cases h0 : (leadN c).1 = 0
  ·rw [if_pos h0]
   exact ⟨1, rfl, by decide, by decide, by simp, fun _ => rfl⟩
  ·rw [if_neg h0]
   cases hm : moreN ((leadN c).1 - 1) (leadN c).2 r with
   | none => exact ⟨1, rfl, by decide, by decide, by simp, fun _ => rfl⟩
   | some y =>
    unfold fitN
    simp only []
    split
    ·have := lead_le c
     refine ⟨(leadN c).1, rfl, by omega, this, ?_, ?_⟩
     ·rcases Nat.lt_or_ge r.length ((leadN c).1 - 1) with hlt | hge
      ·rw [moreN_none _ _ _ hlt] at hm; cases hm
      ·simp; omega
     ·intro hneg
      simp at hneg
      omega
    ·exact ⟨1, rfl, by decide, by decide, by simp, fun _ => rfl⟩
def vld : Nat → List Nat → Bool
 | _, [] => true
 | 0, _ => false
 | n + 1, s => if (dec s).1 < 0 then false else vld n (s.drop (dec s).2.toNat)
theorem drop_lt {s : List Nat} {i : Nat} (h : i < s.length) : s.drop i ≠ [] := by
 intro e
 have := congrArg List.length e
 simp at this
 omega
end Go.Proofs.Ytbmijiibfaacmaa.Am
