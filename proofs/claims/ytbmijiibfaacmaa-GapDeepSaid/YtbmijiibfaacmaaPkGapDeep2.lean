/- LawGapDeep, part 2: whatever the input, the law comes out true: our texts, joined by a tool, without what the claim does not name. -/
import Derived.Test.YtbmijiibfaacmaaPkGapDeep1
import Derived.KernelRfl
import Derived.Lib.OthersKept
import Derived.Laws.RangeString
import Derived.Test.YtbmijiibfaacmaaProg
set_option linter.unusedVariables false
set_option linter.unusedSimpArgs false
namespace Go.Proofs.Ytbmijiibfaacmaa.Am
open Go
mutual
def pur : AV → Bool
 | .ptr .. | .slice .. | .own .. => false
 | .agg xs => purs xs
 | .tuple xs => purs xs
 | .func _ a b => purs a && purs b
 | .iface _ v => pur v
 | _ => true
def purs : List AV → Bool
 | [] => true
 | x :: xs => pur x && purs xs
end
mutual
theorem pur_VR {m : Mp} : ∀ (x : AV) (c : Value), pur x = true → VR m x c → VR m.still x c
 | .top, _, _, _ => by simp only [VR]
 | .int .., _, _, e => by simpa only [VR] using e
 | .resid .., _, _, e => by simpa only [VR] using e
 | .bool _, _, _, e => by simpa only [VR] using e
 | .str _, _, _, e => by simpa only [VR] using e
 | .nilp, _, _, e => by simpa only [VR] using e
 | .nils, _, _, e => by simpa only [VR] using e
 | .nilf, _, _, e => by simpa only [VR] using e
 | .nili, _, _, e => by simpa only [VR] using e
 | .vec .., _, _, e => by simp only [VR] at e ⊢; exact e
 | .vptr .., _, _, e => by simp only [VR] at e ⊢; exact e
 | .ptr .., _, h, _ => by simp [pur] at h
 | .slice .., _, h, _ => by simp [pur] at h
 | .own .., _, h, _ => by simp [pur] at h
 | .agg xs, c, h, e => by
  simp only [VR] at e ⊢
  obtain ⟨ys, h1, h2⟩ := e
  exact ⟨ys, h1, purs_VR xs _ (by simpa only [pur] using h) h2⟩
 | .tuple xs, c, h, e => by
  simp only [VR] at e ⊢
  obtain ⟨ys, h1, h2⟩ := e
  exact ⟨ys, h1, purs_VR xs _ (by simpa only [pur] using h) h2⟩
 | .func f a b, c, h, e => by
  simp only [VR] at e ⊢
  simp only [pur, Bool.and_eq_true] at h
  obtain ⟨ys, zs, h1, h2, h3⟩ := e
  exact ⟨ys, zs, h1, purs_VR a _ h.1 h2, purs_VR b _ h.2 h3⟩
 | .iface t v, c, h, e => by
  simp only [VR] at e ⊢
  obtain ⟨d, h1, h2⟩ := e
  exact ⟨d, h1, pur_VR v _ (by simpa only [pur] using h) h2⟩
theorem purs_VR {m : Mp} : ∀ (xs : List AV) (cs : List Value), purs xs = true → VRs m xs cs → VRs m.still xs cs
 | [], _, _, e => by simpa only [VRs] using e
 | x :: xs, cs, h, e => by
  simp only [VRs] at e ⊢
  simp only [purs, Bool.and_eq_true] at h
  obtain ⟨y, ys, rfl, h1, h2⟩ := e
  exact ⟨y, ys, rfl, pur_VR x y h.1 h1, purs_VR xs ys h.2 h2⟩
end
theorem purs_append : ∀ {xs ys : List AV}, purs xs = true → purs ys = true → purs (xs ++ ys) = true
 | [], ys, _, h => h
 | x :: xs, ys, h, k => by
  simp only [List.cons_append, purs, Bool.and_eq_true] at h ⊢
  exact ⟨h.1, purs_append h.2 k⟩
theorem purs_flatMap {α : Type} {f : α → List AV} (h : ∀ x, purs (f x) = true) : ∀ l : List α, purs (l.flatMap f) = true
 | [] => rfl
 | x :: l => by rw [List.flatMap_cons]; exact purs_append (h x) (purs_flatMap h l)
theorem RW.still {m : Mp} {H : Hp} {w : World} {base : Nat} (h : RW m H w base) : RW m.still H0 w w.heap.size where
 blk := by intro r b v B N hb hm; cases hm
 dom := by intro r v B N hm; cases hm
 sep := by intro r v B N r' v' N' hm; cases hm
 fresh := by intro r _; rfl
 vle := by intro r v B N hm; cases hm
 frz := h.frz
 fsep := by intro i B cells r v N b _ hm; cases hm
 ffin := h.ffin
 base_le := Nat.le_refl _
 low := by show 0 ≤ roots; unfold roots; omega
def PureOk (P : Program) (f : Nat) (xs : List AV) (v : AV) : Prop :=
 (∀ (m0 : Mp) (w : World) (args : Array Value), (∀ r v, m0 r v = none) → VRs m0 xs args.toList → RW m0 H0 w w.heap.size → Calls P f args w fun x w' => ∃ m' c, x = .returned c ∧ RW m' H0 w' w.heap.size ∧ St m0 w w.heap.size m' w' ∧ VR m' v c) ∧
 (∃ fn, P.funcs[f]? = some fn ∧ (fn.name == "runtime.NumGoroutine") = false ∧ fn.body.isSome = true)
theorem pure_call {P : Program} {f : Nat} {xs : List AV} {v : AV} (h : PureOk P f xs v) (hx : purs xs = true) (hv : pur v = true) (H : Hp) : CallV P f xs H v H := by
 refine ⟨?_, h.2⟩
 intro m w base args hargs rw
 refine Calls.mono (h.1 m.still w args (fun _ _ => rfl) (purs_VR _ _ hx hargs) rw.still) ?_
 rintro x w' ⟨m', c, rfl, rw', st', hvc⟩
 have hnone : ∀ r v, m' r v = none := by
  intro r v
  cases e : m' r v with
  | none => rfl
  | some p =>
   obtain ⟨b, hb, _⟩ := rw'.dom r v p.1 p.2 e
   cases hb
 have hsame : ∀ B, B < w.heap.size → w'.heap[B]? = w.heap[B]? := fun B hB => st'.same B hB (fun _ _ _ hm => by cases hm)
 have hsub : Sub m ⟨m.map, m'.froz⟩ := ⟨fun _ _ _ h => h, st'.sub.2⟩
 refine ⟨⟨m.map, m'.froz⟩, c, rfl, ⟨?_, ?_, rw.sep, rw.fresh, rw.vle, rw'.frz, ?_, rw'.ffin, Nat.le_trans rw.base_le st'.size, rw.low⟩, ⟨hsub, fun r v B N e => .inl ⟨v, N, e⟩, ?_, st'.size, st'.os, st'.tape, st'.output, fun B hB _ => hsame B hB⟩, ?_⟩
 ·intro r b v B N hb hm h1 h2
  obtain ⟨cs, ty, fr, q1, q2, q3, q4, q5⟩ := rw.blk r b v B N hb hm h1 h2
  obtain ⟨_, _, _, hlt, _⟩ := rw.dom r v B N hm
  exact ⟨cs, ty, fr, by rw [hsame B hlt]; exact q1, q2, q3, q4, VRs.mono hsub _ _ q5⟩
 ·intro r v B N hm
  obtain ⟨b, q1, q2, q3, q4⟩ := rw.dom r v B N hm
  exact ⟨b, q1, q2, Nat.lt_of_lt_of_le q3 st'.size, q4⟩
 ·intro i B cells r v N b hi hm hb
  rcases st'.fext i B cells hi with hi' | hB
  ·exact rw.fsep i B cells r v N b hi' hm hb
  ·obtain ⟨_, _, _, hlt, _⟩ := rw.dom r v B N hm
   omega
 ·intro i B cells e
  rcases st'.fext i B cells e with hi' | hB
  ·exact .inl hi'
  ·exact .inr (Nat.le_trans rw.base_le hB)
 ·have h1 := pur_VR v c hv hvc
  exact VR.mono (m := m'.still) (m' := ⟨m.map, m'.froz⟩) ⟨fun _ _ _ h => (by cases h), fun _ _ h => h⟩ v c h1
inductive Fr where
 | seq (b : Code) | block (id : Nat) | loop (b : Code) | scope (b : Code)
inductive Pt where
 | code (c : Code) (K : List Fr)
 | ops (o : Array Oper) (n : Nat) (K : List Fr)
 | loop (b : Code) (K : List Fr)
 | fin
def FinK (P : Program) (Q : Exit → Act → World → Prop) : List Fr → Exit → Act → World → Prop
 | [] => Q
 | .seq b :: K => Exit.then (b.wp P (FinK P Q K)) (FinK P Q K)
 | .block id :: K => Exit.inBlock id (FinK P Q K)
 | .loop b :: K => Exit.then (LoopWp P b (FinK P Q K)) (FinK P Q K)
 | .scope b :: K => fun e a w => match e with | .goto l => ∃ rest, findLabel b l = some rest ∧ ScopeWp P b rest (FinK P Q K) a w | e => FinK P Q K e a w
def At (P : Program) (Q : Exit → Act → World → Prop) : Pt → Act → World → Prop
 | .code c K, a, w => c.wp P (FinK P Q K) a w
 | .ops o n K, a, w => wpOps P o (FinK P Q K) (List.range' n (o.size - n)) a w
 | .loop b K, a, w => LoopWp P b (FinK P Q K) a w
 | .fin, a, w => Q .normal a w ∧ Q .ret a w
def resume : List Fr → Pt
 | [] => .fin
 | .seq b :: K => .code b K
 | .block _ :: K => resume K
 | .loop b :: K => .loop b K
 | .scope _ :: K => resume K
theorem resume_ok {P : Program} {Q : Exit → Act → World → Prop} {a : Act} {w : World} : ∀ {K : List Fr}, At P Q (resume K) a w → FinK P Q K .normal a w
 | [], h => h.1
 | .seq b :: K, h => h
 | .block id :: K, h => by show Exit.inBlock id (FinK P Q K) .normal a w; exact resume_ok (K := K) h
 | .loop b :: K, h => h
 | .scope b :: K, h => resume_ok (K := K) h
def exitK (id : Nat) : List Fr → Option Pt
 | [] => none
 | .block j :: K => if id = j then some (resume K) else exitK id K
 | .seq _ :: K => exitK id K
 | .loop _ :: K => exitK id K
 | .scope _ :: K => exitK id K
theorem exitK_ok {P : Program} {Q : Exit → Act → World → Prop} {a : Act} {w : World} {id : Nat} {p : Pt} : ∀ {K : List Fr}, exitK id K = some p → At P Q p a w → FinK P Q K (.exit id) a w
 | [], h, _ => by cases h
 | .seq b :: K, h, k => exitK_ok (K := K) h k
 | .loop b :: K, h, k => exitK_ok (K := K) h k
 | .scope b :: K, h, k => exitK_ok (K := K) h k
 | .block j :: K, h, k => by
  simp only [exitK] at h
  show Exit.inBlock j (FinK P Q K) (.exit id) a w
  simp only [Exit.inBlock]
  split at h
  ·rename_i e
   cases h
   rw [if_pos e]
   exact resume_ok k
  ·rename_i e
   rw [if_neg e]
   exact exitK_ok h k
def gotoK (l : Nat) : List Fr → Option Pt
 | [] => none
 | .scope b :: K => match findLabel b l with | some rest => some (.code rest (.scope b :: K)) | none => none
 | .block _ :: K => gotoK l K
 | .seq _ :: K => gotoK l K
 | .loop _ :: K => gotoK l K
theorem scope_ok {P : Program} {Q : Exit → Act → World → Prop} {a : Act} {w : World} {b c : Code} {K : List Fr} (h : c.wp P (FinK P Q (.scope b :: K)) a w) : ScopeWp P b c (FinK P Q K) a w :=
 ScopeWp.of (wp_mono h fun e a1 w1 he => by cases e <;> exact he)
theorem gotoK_ok {P : Program} {Q : Exit → Act → World → Prop} {a : Act} {w : World} {l : Nat} {p : Pt} : ∀ {K : List Fr}, gotoK l K = some p → At P Q p a w → FinK P Q K (.goto l) a w
 | [], h, _ => by cases h
 | .seq b :: K, h, k => gotoK_ok (K := K) h k
 | .loop b :: K, h, k => gotoK_ok (K := K) h k
 | .block b :: K, h, k => gotoK_ok (K := K) h k
 | .scope b :: K, h, k => by
  simp only [gotoK] at h
  split at h
  ·rename_i rest hf
   cases h
   exact ⟨rest, hf, scope_ok k⟩
  ·cases h
theorem retK_ok {P : Program} {Q : Exit → Act → World → Prop} {a : Act} {w : World} (h : Q .ret a w) : ∀ (K : List Fr), FinK P Q K .ret a w
 | [] => h
 | .seq b :: K => retK_ok h K
 | .loop b :: K => retK_ok h K
 | .block b :: K => retK_ok h K
 | .scope b :: K => retK_ok h K
inductive FzG (H : Hp) : List AV → List AV → Prop where
 | pures {xs} : purs xs = true → FzG H xs xs
 | cons {x xs ys} : pur x = true → FzG H xs ys → FzG H (x :: xs) (x :: ys)
 | nil {sz xs ys} : FzG H xs ys → FzG H (.nils :: xs) (.vec 0 sz [] :: ys)
 | own {r len sz cells cells' minv xs ys} : H.t.get r = some ⟨cells, minv, false⟩ → cells.length = len * sz → minv ≤ len * sz → FzG H cells cells' → FzG H xs ys → FzG H (.own r len sz :: xs) (.vec len sz cells' :: ys)
 | slice {r len sz v cells cells' minv xs ys} : H.t.get r = some ⟨cells, minv, false⟩ → cells.length = len * sz → v = len * sz → minv ≤ len * sz → FzG H cells cells' → FzG H xs ys → FzG H (.slice r v 0 len sz :: xs) (.vec len sz cells' :: ys)
 | agg {xs ys zs us} : FzG H xs ys → FzG H zs us → FzG H (.agg xs :: zs) (.agg ys :: us)
 | tuple {xs ys zs us} : FzG H xs ys → FzG H zs us → FzG H (.tuple xs :: zs) (.tuple ys :: us)
structure FOk (F : Nat → Option (Nat × List AV)) (F0 : Nat → Option (Nat × List AV)) (w : World) (base : Nat) : Prop where
 ok : ∀ i B cells, F i = some (B, cells) → ∃ cs ty fr, w.heap[B]? = some (.cells cs ty fr) ∧ cells.length ≤ cs.size ∧ VRs ⟨fun _ _ => none, F⟩ cells (cs.toList.take cells.length)
 fin : ∃ n, ∀ i, n ≤ i → F i = none
 new : ∀ i B cells, F i = some (B, cells) → F0 i = some (B, cells) ∨ base ≤ B
 sub : ∀ i p, F0 i = some p → F i = some p
theorem FzG.length {H : Hp} {xs ys : List AV} (h : FzG H xs ys) : ys.length = xs.length := by
 induction h <;> simp_all
theorem fOk_add {F F0 : Nat → Option (Nat × List AV)} {w : World} {base B : Nat} {cells : List AV} {cs : Array Value} {ty : TypeId} {fr : Nat × Nat} (h : FOk F F0 w base) (hB : base ≤ B) (hw : w.heap[B]? = some (.cells cs ty fr)) (hl : cells.length ≤ cs.size) (hv : VRs ⟨fun _ _ => none, F⟩ cells (cs.toList.take cells.length)) :
 ∃ F' i, FOk F' F0 w base ∧ F' i = some (B, cells) ∧ (∀ i p, F i = some p → F' i = some p) := by
 obtain ⟨n, hn⟩ := h.fin
 have hsub : ∀ i p, F i = some p → (fun i => if i = n then some (B, cells) else F i) i = some p := by
  intro i p hi
  simp only
  rw [if_neg]
  ·exact hi
  ·rintro rfl; rw [hn _ (Nat.le_refl _)] at hi; cases hi
 have hS : Sub ⟨fun _ _ => none, F⟩ ⟨fun _ _ => none, fun i => if i = n then some (B, cells) else F i⟩ := ⟨fun _ _ _ e => (by cases e), hsub⟩
 refine ⟨fun i => if i = n then some (B, cells) else F i, n, ⟨?_, ⟨n + 1, fun i hi => ?_⟩, ?_, fun i p hi => hsub i p (h.sub i p hi)⟩, by simp, hsub⟩
 ·intro i B' cells' hi
  by_cases e : i = n
  ·simp only [e, if_true] at hi
   cases hi
   exact ⟨cs, ty, fr, hw, hl, VRs.mono hS _ _ hv⟩
  ·simp only [e, if_false] at hi
   obtain ⟨cs2, ty2, fr2, h1, h2, h3⟩ := h.ok i B' cells' hi
   exact ⟨cs2, ty2, fr2, h1, h2, VRs.mono hS _ _ h3⟩
 ·have hne : ¬ i = n := by omega
  show (if i = n then some (B, cells) else F i) = none
  rw [if_neg hne]
  exact hn i (by omega)
 ·intro i B' cells' hi
  by_cases e : i = n
  ·simp only [e, if_true] at hi
   cases hi
   exact .inr hB
  ·simp only [e, if_false] at hi
   exact h.new i B' cells' hi
theorem vec_nil (m : Mp) (sz : Nat) : VR m (.vec 0 sz []) (.slice none 0 0) := by
 simp only [VR]
 exact ⟨by simp, none, 0, rfl, Nat.le_refl _, by simp, by simp⟩
theorem fz_ok {m : Mp} {H : Hp} {w : World} {base : Nat} (rw : RW m H w base) {xs ys : List AV} (h : FzG H xs ys) : ∀ {cs : List Value} {F : Nat → Option (Nat × List AV)}, FOk F m.froz w base → VRs m xs cs → ∃ F', FOk F' m.froz w base ∧ (∀ i p, F i = some p → F' i = some p) ∧ VRs ⟨fun _ _ => none, F'⟩ ys cs := by
 have still : ∀ {F : Nat → Option (Nat × List AV)}, FOk F m.froz w base → Sub m.still ⟨fun _ _ => none, F⟩ := fun hF => ⟨fun _ _ _ e => (by cases e), hF.sub⟩
 have grow : ∀ {F F' : Nat → Option (Nat × List AV)}, (∀ i p, F i = some p → F' i = some p) → Sub ⟨fun _ _ => none, F⟩ ⟨fun _ _ => none, F'⟩ := fun h => ⟨fun _ _ _ e => (by cases e), h⟩
 have block : ∀ {r len sz minv cap B N : Nat} {cells cells' : List AV}, H.t.get r = some ⟨cells, minv, false⟩ → cells.length = len * sz → minv ≤ len * sz → cells'.length = cells.length →
  (∀ {cs : List Value} {F : Nat → Option (Nat × List AV)}, FOk F m.froz w base → VRs m cells cs → ∃ F', FOk F' m.froz w base ∧ (∀ i p, F i = some p → F' i = some p) ∧ VRs ⟨fun _ _ => none, F'⟩ cells' cs) →
  ∀ {F : Nat → Option (Nat × List AV)}, FOk F m.froz w base → m r (len * sz) = some (B, N) → len ≤ cap → ∃ F', FOk F' m.froz w base ∧ (∀ i p, F i = some p → F' i = some p) ∧ VR ⟨fun _ _ => none, F'⟩ (.vec len sz cells') (.slice (some ⟨B, 0, none⟩) len cap) := by
  intro r len sz minv cap B N cells cells' hb hl hmin hl' ih F hF hm hcap
  obtain ⟨cs, ty, fr, q1, q2, q3, q4, q5⟩ := rw.blk _ _ _ _ _ hb hm hmin (by rw [hl]; exact Nat.le_refl _)
  obtain ⟨b0, hb0, _, _, hbase⟩ := rw.dom _ _ _ _ hm
  rw [hb] at hb0
  cases hb0
  simp only at q5
  rw [List.take_of_length_le (by omega)] at q5
  obtain ⟨F1, h1, h2, h3⟩ := ih hF q5
  obtain ⟨F2, i, g1, g2, g3⟩ := fOk_add h1 (hbase rfl) q1 (cells := cells') (by omega) (by rw [hl', hl]; exact h3)
  refine ⟨F2, g1, fun i p hi => g3 i p (h2 i p hi), ?_⟩
  simp only [VR]
  refine ⟨by omega, _, cap, rfl, hcap, fun e => (by cases e), fun _ => ⟨i, B, 0, cells', g2, rfl, ?_, by omega⟩⟩
  rw [List.drop_zero, List.take_of_length_le (by omega)]
 induction h with
 | pures hp =>
  intro cs F hF hv
  exact ⟨F, hF, fun _ _ h => h, VRs.mono (still hF) _ _ (purs_VR _ _ hp hv)⟩
 | cons hp _ ih =>
  intro cs F hF hv
  simp only [VRs] at hv ⊢
  obtain ⟨y, ys, rfl, h1, h2⟩ := hv
  obtain ⟨F', g1, g2, g3⟩ := ih hF h2
  exact ⟨F', g1, g2, y, ys, rfl, VR.mono (still g1) _ _ (pur_VR _ _ hp h1), g3⟩
 | nil _ ih =>
  intro cs F hF hv
  simp only [VRs] at hv ⊢
  obtain ⟨y, ys, rfl, h1, h2⟩ := hv
  obtain ⟨F', g1, g2, g3⟩ := ih hF h2
  simp only [VR] at h1
  subst h1
  exact ⟨F', g1, g2, _, ys, rfl, vec_nil _ _, g3⟩
 | @own r len sz cells cells' minv xs ys hb hl hmin hc _ ih1 ih2 =>
  intro cs F hF hv
  simp only [VRs] at hv
  obtain ⟨c, cs', rfl, h1, h2⟩ := hv
  simp only [VR] at h1
  rcases h1 with ⟨h0, rfl⟩ | ⟨B, N, cap, hm, hcap, hN, rfl⟩
  ·obtain ⟨F', g1, g2, g3⟩ := ih2 hF h2
   refine ⟨F', g1, g2, ?_⟩
   subst h0
   obtain rfl : cells' = [] := List.length_eq_zero_iff.1 (by rw [hc.length]; omega)
   simp only [VRs]
   exact ⟨_, _, rfl, vec_nil _ _, g3⟩
  ·obtain ⟨F1, g1, g2, g3⟩ := block hb hl hmin hc.length ih1 hF hm hcap
   obtain ⟨F', e1, e2, e3⟩ := ih2 g1 h2
   refine ⟨F', e1, fun i p hi => e2 i p (g2 i p hi), ?_⟩
   simp only [VRs]
   exact ⟨_, _, rfl, VR.mono (grow e2) _ _ g3, e3⟩
 | @slice r len sz v cells cells' minv xs ys hb hl hv0 hmin hc _ ih1 ih2 =>
  intro cs F hF hv
  simp only [VRs] at hv
  obtain ⟨c, cs', rfl, h1, h2⟩ := hv
  simp only [VR] at h1
  obtain ⟨B, N, cap, hm, _, hcap, hN, rfl⟩ := h1
  subst hv0
  obtain ⟨F1, g1, g2, g3⟩ := block hb hl hmin hc.length ih1 hF hm hcap
  obtain ⟨F', e1, e2, e3⟩ := ih2 g1 h2
  refine ⟨F', e1, fun i p hi => e2 i p (g2 i p hi), ?_⟩
  simp only [VRs]
  exact ⟨_, _, rfl, VR.mono (grow e2) _ _ g3, e3⟩
 | agg _ _ ih1 ih2 =>
  intro cs F hF hv
  simp only [VRs, VR] at hv ⊢
  obtain ⟨c, cs', rfl, ⟨zs, rfl, h1⟩, h2⟩ := hv
  obtain ⟨F1, g1, g2, g3⟩ := ih1 hF h1
  obtain ⟨F', e1, e2, e3⟩ := ih2 g1 h2
  exact ⟨F', e1, fun i p hi => e2 i p (g2 i p hi), _, _, rfl, ⟨zs, rfl, VRs.mono (grow e2) _ _ g3⟩, e3⟩
 | tuple _ _ ih1 ih2 =>
  intro cs F hF hv
  simp only [VRs, VR] at hv ⊢
  obtain ⟨c, cs', rfl, ⟨zs, rfl, h1⟩, h2⟩ := hv
  obtain ⟨F1, g1, g2, g3⟩ := ih1 hF h1
  obtain ⟨F', e1, e2, e3⟩ := ih2 g1 h2
  exact ⟨F', e1, fun i p hi => e2 i p (g2 i p hi), _, _, rfl, ⟨zs, rfl, VRs.mono (grow e2) _ _ g3⟩, e3⟩
structure Fx (R : Type) where
 P : Program
 C : Cx
 fn : Func
 enc : R → AV
 n0 : Nat
 fin : R → Hp
 hti : ∀ t i, C.ti t = some i → mkTi P t = some i
 ord : P.follows .mixedOrders = true
section
variable {R : Type} (X : Fx R)
def Ret (r : R) (m0 : Mp) (w0 : World) (b0 : Nat) : Exit → Act → World → Prop :=
 bodyPost X.P X.fn fun x w' => ∃ m' c, x = .returned c ∧ RW m' (X.fin r) w' b0 ∧ St m0 w0 b0 m' w' ∧ VR m' (X.enc r) c
def Ok (p : Pt) (env : Env) (H : Hp) (t : Option R) : Prop := ∀ r, t = some r → ∀ (m0 : Mp) (w0 : World) (b0 : Nat) (m : Mp) (w : World) (a : Act), ((∀ r v p, m0 r v = some p → r < X.n0) ∧ b0 ≤ w0.heap.size) → FR m env a.tmps → X.fn.ntmps ≤ a.tmps.size → a.defers = [] → RW m H w b0 → St m0 w0 b0 m w → At X.P (Ret X r m0 w0 b0) p a w
end
section
variable {R : Type} {X : Fx R} {p p' : Pt} {env eE : Env} {H H' : Hp}
theorem ok_none : Ok X p env H none := by intro r h; cases h
theorem ok_bind {α : Type} {m : Option α} {f : α → Option R} (h : ∀ x, m = some x → Ok X p env H (f x)) : Ok X p env H (m.bind f) := by
 intro r hr
 cases hm : m with
 | none => rw [hm] at hr; cases hr
 | some x => rw [hm] at hr; exact h x hm r hr
theorem ok_less {t : Option R} (h : Less env eE) (k : Ok X p eE H t) : Ok X p env H t :=
 fun r hr m0 w0 b0 m w a h0 fr hn hd rw st => k r hr m0 w0 b0 m w a h0 (fr.less h) hn hd rw st
theorem oK {t : Option R} (ks : List Nat) (h : keepOnly env ks = eE) (k : Ok X p eE H t) : Ok X p env H t :=
 ok_less (h ▸ less_keepOnly ks env) k
theorem ok_heap {t : Option R} (h : H = H') (k : Ok X p env H' t) : Ok X p env H t := h ▸ k
theorem oE {t : Option R} (h : env = eE) (k : Ok X p eE H t) : Ok X p env H t := h ▸ k
theorem less_put {d : Nat} {v : AV} (h : look env d = v) : Less env (putE env d v) := by
 intro t
 rw [look_put]
 split
 ·rename_i e; subst e; exact .inr h.symm
 ·exact .inr rfl
theorem oS {t1 t2 : Option R} (d : Nat) {b : Bool} (h : look env d = .bool b) (k1 : b = true → Ok X p ((d, .bool true) :: env) H t1) (k2 : b = false → Ok X p ((d, .bool false) :: env) H t2) : Ok X p env H (if b then t1 else t2) := by
 cases b with
 | true => exact ok_less (less_put h) (k1 rfl)
 | false => exact ok_less (less_put h) (k2 rfl)
abbrev jn {α R : Type} (f : α → Option R) (b : (α → Option R) → Option R) : Option R := b f
theorem oJ {α : Type} {f : α → Option R} {b : (α → Option R) → Option R} (pj : Pt) (E : α → Env) (G : α → Hp) (k1 : ∀ x, Ok X pj (E x) (G x) (f x)) (k2 : ∀ j : α → Option R, (∀ x, Ok X pj (E x) (G x) (j x)) → Ok X p env H (b j)) : Ok X p env H (jn f b) := k2 f k1
theorem ok_stp {t : Option R} {ops : Array Oper} {n : Nat} {K : List Fr} {o : Oper} {v : AV} (ho : ops[n]? = some o) (hd : dstOk X.fn.ntmps o = true) (hw : wantedV o ops.toList env = some true) (hs : Stp X.P X.C env H o v H') (k : Ok X (.ops ops (n + 1) K) (putV env o.dst v) H' t) : Ok X (.ops ops n K) env H t := by
 intro r hr m0 w0 b0 m w a h0 fr hn hdf rw st
 show wpOps X.P ops _ (List.range' n (ops.size - n)) a w
 have hlt : n < ops.size := (Array.getElem?_eq_some_iff.1 ho).1
 rw [show ops.size - n = (ops.size - (n + 1)) + 1 by omega, List.range'_succ]
 simp only [wpOps, ho]
 rw [wanted_ok hw fr]
 simp only [if_true]
 refine .inl ?_
 refine stp_ok X.hti hs fr rw _ _ fun m' w' c q1 q2 q3 => ?_
 obtain ⟨f1, f2, f3⟩ := act_put_frame (fr.mono q2.sub) hn hdf o hd v c q3
 exact k r hr m0 w0 b0 m' w' _ h0 f1 f2 f3 q1 (st.trans h0.2 q2)
theorem ok_skp {t : Option R} {ops : Array Oper} {n : Nat} {K : List Fr} {o : Oper} (ho : ops[n]? = some o) (hd : dstOk X.fn.ntmps o = true) (hw : wantedV o ops.toList env = some false) (k : Ok X (.ops ops (n + 1) K) (putV env o.dst (.tuple [])) H t) : Ok X (.ops ops n K) env H t := by
 intro r hr m0 w0 b0 m w a h0 fr hn hdf rw st
 show wpOps X.P ops _ (List.range' n (ops.size - n)) a w
 have hlt : n < ops.size := (Array.getElem?_eq_some_iff.1 ho).1
 rw [show ops.size - n = (ops.size - (n + 1)) + 1 by omega, List.range'_succ]
 simp only [wpOps, ho]
 rw [wanted_ok hw fr]
 simp only [Bool.false_eq_true, if_false]
 obtain ⟨f1, f2, f3⟩ := act_put_frame fr hn hdf o hd (.tuple []) undef (VR_undef _)
 exact k r hr m0 w0 b0 m w _ h0 f1 f2 f3 rw st
theorem ok_go {t : Option R} (h : ∀ (Q : Exit → Act → World → Prop) (a : Act) (w : World), True → At X.P Q p' a w → At X.P Q p a w) (k : Ok X p' env H t) : Ok X p env H t :=
 fun r hr m0 w0 b0 m w a h0 fr hn hd rw st => h _ a w trivial (k r hr m0 w0 b0 m w a h0 fr hn hd rw st)
end
end Go.Proofs.Ytbmijiibfaacmaa.Am
set_option linter.unusedVariables false
set_option linter.unusedSimpArgs false
namespace Go.Proofs.Ytbmijiibfaacmaa.Am
open Go
section
variable {R : Type} {X : Fx R} {p p' : Pt} {env eE : Env} {H H' : Hp}
noncomputable def stepV (C : Cx) (n : Nat) (p : Pt) (env : Env) (H : Hp) : Option (Pt × Env × Hp) :=
 match p with
 | .ops ops k K => match nth ops.toList k with
  | some o => bif dstOk n o then (match wantedV o ops.toList env with
   | some true => (match opV C env H o with | some (v, H') => some (.ops ops (k + 1) K, putV env o.dst v, H') | none => none)
   | some false => some (.ops ops (k + 1) K, putV env o.dst (.tuple []), H)
   | none => none) else none
  | none => some (resume K, env, H)
 | .code c K => match c with
  | .seq a b => some (.code a (.seq b :: K), env, H)
  | .skip => some (resume K, env, H)
  | .label _ => some (resume K, env, H)
  | .block id b => some (.code b (.block id :: K), env, H)
  | .scope b => some (.code b (.scope b :: K), env, H)
  | .loop b => some (.loop b K, env, H)
  | .exit id => match exitK id K with | some q => some (q, env, H) | none => none
  | .goto l => match gotoK l K with | some q => some (q, env, H) | none => none
  | .ret => some (.fin, env, H)
  | .region id ops draw => bif draw then none else some (.ops ops 0 K, env, H)
  | .cond c x y => match opnd env c with | .bool b => some (.code (bif b then x else y) K, env, H) | _ => none
  | _ => none
 | _ => none
theorem fin_ops {t : Option R} {ops : Array Oper} {n : Nat} {K : List Fr} (h : ops[n]? = none) (k : Ok X (resume K) env H t) : Ok X (.ops ops n K) env H t := by
 intro r hr m0 w0 b0 m w a h0 fr hn hd rw st
 show wpOps X.P ops _ (List.range' n (ops.size - n)) a w
 have hle : ops.size ≤ n := by
  rcases Nat.lt_or_ge n ops.size with h1 | h1
  ·rw [Array.getElem?_eq_getElem h1] at h; cases h
  ·exact h1
 rw [show ops.size - n = 0 by omega]
 exact resume_ok (k r hr m0 w0 b0 m w a h0 fr hn hd rw st)
theorem stepV_ok {t : Option R} (h : stepV X.C X.fn.ntmps p env H = some (p', eE, H')) (k : Ok X p' eE H' t) : Ok X p env H t := by
 cases p with
 | ops ops n K =>
  simp only [stepV] at h
  rw [nth_eq, Array.getElem?_toList] at h
  cases ho : ops[n]? with
  | none => rw [ho] at h; cases h; exact fin_ops ho k
  | some o =>
   rw [ho] at h
   simp only at h
   cases hd : dstOk X.fn.ntmps o with
   | false => rw [hd] at h; cases h
   | true =>
    rw [hd] at h
    simp only [cond_true] at h
    split at h
    ·rename_i hw
     split at h
     ·rename_i v H1 hv
      cases h
      exact ok_stp ho hd hw (.inl hv) k
     ·cases h
    ·rename_i hw
     cases h
     exact ok_skp ho hd hw k
    ·cases h
 | code c K =>
  cases c <;> simp only [stepV] at h
  case seq x y => cases h; exact ok_go (p' := .code x (.seq y :: K)) (fun Q a w _ hh => wp_seq (wp_mono hh fun e a w he => by cases e <;> exact he)) k
  case skip => cases h; exact ok_go (fun Q a w _ hh => wp_skip (resume_ok hh)) k
  case label => cases h; exact ok_go (fun Q a w _ hh => wp_label (resume_ok hh)) k
  case block id b => cases h; exact ok_go (p' := .code b (.block id :: K)) (fun Q a w _ hh => wp_block hh) k
  case scope b => cases h; exact ok_go (p' := .code b (.scope b :: K)) (fun Q a w _ hh => (scope_ok hh).wp) k
  case loop b => cases h; exact ok_go (p' := .loop _ _) (fun Q a w _ hh => LoopWp.wp hh) k
  case exit id =>
   split at h
   ·rename_i q hq
    cases h
    exact ok_go (fun Q a w _ hh => wp_exit (exitK_ok hq hh)) k
   ·cases h
  case goto l =>
   split at h
   ·rename_i q hq
    cases h
    exact ok_go (fun Q a w _ hh => wp_goto (gotoK_ok hq hh)) k
   ·cases h
  case ret => cases h; exact ok_go (p' := .fin) (fun Q a w _ hh => wp_ret (retK_ok hh.2 K)) k
  case region id ops draw =>
   cases draw with
   | true => cases h
   | false =>
    cases h
    refine ok_go (fun Q a w _ hh => wp_region ?_) k
    have hh' : wpOps X.P ops (FinK X.P Q K) (List.range' 0 (ops.size - 0)) a w := hh
    rw [List.range_eq_range']
    exact hh'
  case cond c x y =>
   split at h
   ·rename_i b hb
    cases h
    intro r hr m0 w0 b0 m w a h0 fr hn hd rw st
    have hc := opnd_ok fr c
    rw [hb] at hc
    simp only [VR] at hc
    refine wp_cond hc ?_
    have := k r hr m0 w0 b0 m w a h0 fr hn hd rw st
    cases b <;> exact this
   ·cases h
  all_goals cases h
 | loop b K => cases h
 | fin => cases h
noncomputable def runV (C : Cx) (n : Nat) (k : Nat) : Pt → Env → Hp → Option (Pt × Env × Hp) :=
 Nat.rec (motive := fun _ => Pt → Env → Hp → Option (Pt × Env × Hp)) (fun p env H => some (p, env, H))
  (fun _ ih p env H => match stepV C n p env H with | some (p', eE, H') => ih p' eE H' | none => none) k
theorem oR {t : Option R} : ∀ (k : Nat) {p : Pt} {env : Env} {H : Hp}, runV X.C X.fn.ntmps k p env H = some (p', eE, H') → Ok X p' eE H' t → Ok X p env H t
 | 0, p, env, H, h, g => by
  have h' : some (p, env, H) = some (p', eE, H') := h
  cases h'
  exact g
 | k + 1, p, env, H, h, g => by
  have h' : (match stepV X.C X.fn.ntmps p env H with | some (p', eE, H') => runV X.C X.fn.ntmps k p' eE H' | none => none) = some (p', eE, H') := h
  split at h'
  ·rename_i p1 env1 H1 hs
   exact stepV_ok hs (oR k h' g)
  ·cases h'
def entL : Pt → Option Pt
 | .loop b K => some (.code b (.loop b :: K))
 | _ => none
theorem ok_ent {t : Option R} (h : entL p = some p') (k : Ok X p' env H t) : Ok X p env H t := by
 cases p <;> simp only [entL] at h <;> cases h
 exact ok_go (p' := .code _ (.loop _ :: _)) (fun Q a w _ hh => LoopWp.of (wp_mono hh fun e a w he => by cases e <;> exact he)) k
noncomputable def operAt (n : Nat) (p : Pt) (env : Env) : Option Oper :=
 match p with
 | .ops ops k K => match nth ops.toList k with
  | some o => bif dstOk n o then (match wantedV o ops.toList env with | some true => some o | _ => none) else none
  | none => none
 | _ => none
def adv : Pt → Pt
 | .ops ops k K => .ops ops (k + 1) K
 | q => q
noncomputable def evalAt (C : Cx) (n : Nat) (p : Pt) (env : Env) (H : Hp) : Option (AV × Hp) :=
 match operAt n p env with | some o => opV C env H o | none => none
noncomputable def advE (n : Nat) (p : Pt) (env : Env) (v : AV) : Option (Pt × Env) :=
 match operAt n p env with | some o => some (adv p, putV env o.dst v) | none => none
noncomputable def callAt (n : Nat) (p : Pt) (env : Env) : Option (Nat × List AV) :=
 match operAt n p env with
 | some o => match o.op with
  | .call c => match c.callee with
   | .value g => match opnd env g with
    | .func f first caps => some (f, first ++ opnds env c.args.toList ++ caps)
    | _ => none
   | _ => none
  | _ => none
 | none => none
theorem operAt_spec {n : Nat} {o : Oper} (h : operAt n p env = some o) : ∃ ops k K, p = .ops ops k K ∧ ops[k]? = some o ∧ dstOk n o = true ∧ wantedV o ops.toList env = some true := by
 cases p <;> simp only [operAt] at h <;> try (cases h; done)
 rename_i ops k K
 rw [nth_eq, Array.getElem?_toList] at h
 cases ho : ops[k]? with
 | none => rw [ho] at h; cases h
 | some o' =>
  rw [ho] at h
  simp only at h
  cases hd : dstOk n o' with
  | false => rw [hd] at h; cases h
  | true =>
   rw [hd] at h
   simp only [cond_true] at h
   split at h
   ·rename_i hw
    cases h
    exact ⟨ops, k, K, rfl, ho, hd, hw⟩
   ·cases h
theorem ok_val {t : Option R} {v : AV} (h : evalAt X.C X.fn.ntmps p env H = some (v, H')) (ha : advE X.fn.ntmps p env v = some (p', eE)) (k : Ok X p' eE H' t) : Ok X p env H t := by
 unfold evalAt at h
 unfold advE at ha
 cases ho : operAt X.fn.ntmps p env with
 | none => rw [ho] at h; cases h
 | some o =>
  rw [ho] at h ha
  simp only at h ha
  cases ha
  obtain ⟨ops, n, K, rfl, h1, h2, h3⟩ := operAt_spec ho
  exact ok_stp h1 h2 h3 (.inl h) k
theorem oH {α : Type} {m : Option α} {f : α → Option R} (g : α → AV × Hp) (p' : Pt) (E : α → Env) (h : evalAt X.C X.fn.ntmps p env H = m.map g) (ha : ∀ x, advE X.fn.ntmps p env (g x).1 = some (p', E x)) (k : ∀ x, m = some x → Ok X p' (E x) (g x).2 (f x)) : Ok X p env H (m.bind f) := by
 refine ok_bind fun x hx => ?_
 subst hx
 exact ok_val (v := (g x).1) (H' := (g x).2) h (ha x) (k x rfl)
theorem oC {α : Type} {m : Option α} {f : α → Option R} {fi : Nat} {args : List AV} (g : α → AV) (p' : Pt) (E : α → Env) (hc : callAt X.fn.ntmps p env = some (fi, args)) (hp : purs args = true) (hg : ∀ x, pur (g x) = true) (hf : ∀ x, m = some x → PureOk X.P fi args (g x)) (ha : ∀ x, advE X.fn.ntmps p env (g x) = some (p', E x)) (k : ∀ x, m = some x → Ok X p' (E x) H (f x)) : Ok X p env H (m.bind f) := by
 refine ok_bind fun x hx => ?_
 have hpo := pure_call (hf x hx) hp (hg x) H
 have hax := ha x
 unfold advE at hax
 unfold callAt at hc
 cases ho : operAt X.fn.ntmps p env with
 | none => rw [ho] at hax; cases hax
 | some o =>
  rw [ho] at hax hc
  simp only [Option.some.injEq, Prod.mk.injEq] at hax hc
  obtain ⟨e1, e2⟩ := hax
  obtain ⟨ops, n, K, rfl, h1, h2, h3⟩ := operAt_spec ho
  have kx := k x hx
  rw [← e1, ← e2] at kx
  split at hc
  ·rename_i c hoc
   split at hc
   ·rename_i q hq
    split at hc
    ·rename_i fi' first caps hfv
     cases hc
     exact ok_stp h1 h2 h3 (.inr ⟨c, q, fi, first, caps, hoc, hq, hfv, hpo⟩) kx
    ·cases hc
   ·cases hc
  ·cases hc
def drawAt : Pt → Option Pt
 | .code (.region _ _ true) K => some (resume K)
 | _ => none
def opsAt : Pt → Array Oper
 | .code (.region _ ops _) _ => ops
 | _ => #[]
noncomputable def rdOp (C : Cx) (env : Env) (hs : List Hp) (o : Oper) (j : Nat) : List (Option (AV × Hp) × Option (AV × Hp)) :=
 match nth hs j with
 | some H => [(opV C env H o, match o.dst with | some d => some (look env d, H) | none => opV C env H o)]
 | none => []
noncomputable def rdOps (C : Cx) (env : Env) (hs : List Hp) (o : Oper) : Nat → Nat → List (Option (AV × Hp) × Option (AV × Hp))
 | _, 0 => []
 | lo, n + 1 => rdOp C env hs o lo ++ rdOps C env hs o (lo + 1) n
noncomputable def rdL (C : Cx) (all : List Oper) (env : Env) (hs : List Hp) : Nat → List Oper → List (Nat × Nat × Nat) → List (Option (AV × Hp) × Option (AV × Hp))
 | c, o :: l, (_, lo, hi) :: pl => (bif Nat.beq (cls o) 1 && !(Nat.beq lo c && Nat.beq hi c) then (match wantedV o all env with | some true => rdOps C env hs o lo (hi + 1 - lo) | _ => []) else []) ++ rdL C all env hs (bif Nat.beq (cls o) 2 then c + 1 else c) l pl
 | _, _, _ => []
theorem rdOps_at {C : Cx} {env : Env} {hs : List Hp} {o : Oper} : ∀ (n lo j : Nat) (H : Hp), lo ≤ j → j < lo + n → hs[j]? = some H → (opV C env H o, match o.dst with | some d => some (look env d, H) | none => opV C env H o) ∈ rdOps C env hs o lo n
 | 0, lo, j, H, h1, h2, _ => by omega
 | n + 1, lo, j, H, h1, h2, h3 => by
  rw [rdOps, List.mem_append]
  by_cases e : lo = j
  ·subst e
   left
   unfold rdOp
   rw [nth_eq, h3]
   simp
  ·exact .inr (rdOps_at n (lo + 1) j H (by omega) (by omega) h3)
theorem rdL_at {C : Cx} {all : List Oper} {env : Env} {hs : List Hp} : ∀ (l : List Oper) (pl : List (Nat × Nat × Nat)) (c i : Nat) (o : Oper) (mk lo hi : Nat), l[i]? = some o → pl[i]? = some (mk, lo, hi) → cls o = 1 → wantedV o all env = some true → ¬ (lo = c + (l.take i).countP (fun p => Nat.beq (cls p) 2) ∧ hi = c + (l.take i).countP (fun p => Nat.beq (cls p) 2)) → ∀ j, lo ≤ j → j ≤ hi → ∀ H, hs[j]? = some H → (opV C env H o, match o.dst with | some d => some (look env d, H) | none => opV C env H o) ∈ rdL C all env hs c l pl
 | [], pl, c, i, o, mk, lo, hi, ho, _, _, _, _, j, _, _, H, _ => by simp at ho
 | p :: l, [], c, i, o, mk, lo, hi, ho, hp, _, _, _, j, _, _, H, _ => by simp at hp
 | p :: l, (mk0, lo0, hi0) :: pl, c, i, o, mk, lo, hi, ho, hp, hc, hw, hn, j, h1, h2, H, hj => by
  rw [rdL, List.mem_append]
  cases i with
  | zero =>
   simp at ho hp
   subst ho
   obtain ⟨rfl, rfl, rfl⟩ := hp
   left
   have e : Nat.beq (cls p) 1 = true := by rw [hc]; rfl
   have e2 : (Nat.beq lo0 c && Nat.beq hi0 c) = false := by
    cases h : (Nat.beq lo0 c && Nat.beq hi0 c) with
    | false => rfl
    | true =>
     simp only [Bool.and_eq_true] at h
     refine absurd (a := lo0 = c ∧ hi0 = c) ⟨Nat.eq_of_beq_eq_true h.1, Nat.eq_of_beq_eq_true h.2⟩ ?_
     simpa using hn
   rw [e, e2, hw]
   exact rdOps_at _ _ _ _ h1 (by omega) hj
  | succ i =>
   refine .inr (rdL_at l pl _ i o mk lo hi (by simpa using ho) (by simpa using hp) hc hw ?_ j h1 h2 H hj)
   rw [List.take_succ_cons, List.countP_cons] at hn
   cases hb : Nat.beq (cls p) 2 with
   | true => rw [hb] at hn; simp only [if_true] at hn; simp only [cond_true]; omega
   | false => rw [hb] at hn; simp only [Bool.false_eq_true, if_false] at hn; simp only [cond_false]; omega
theorem alike_of {C : Cx} {ops : Array Oper} {env : Env} {hs : List Hp} {pl : List (Nat × Nat × Nat)} (hsome : (rdL C ops.toList env hs 0 ops.toList pl).all (fun q => q.1.isSome) = true) (h : (rdL C ops.toList env hs 0 ops.toList pl).map (·.1) = (rdL C ops.toList env hs 0 ops.toList pl).map (·.2)) : AlikeP C ops env hs pl := by
 intro i o mk lo hi ho hp hc hw hn j h1 h2 H hj
 have hm := rdL_at (C := C) _ _ 0 i o mk lo hi ho hp hc hw (by simpa using hn) j h1 h2 H hj
 have e : opV C env H o = (match o.dst with | some d => some (look env d, H) | none => opV C env H o) := by
  have key : ∀ l : List (Option (AV × Hp) × Option (AV × Hp)), l.map (·.1) = l.map (·.2) → ∀ q ∈ l, q.1 = q.2 := by
   intro l
   induction l with
   | nil => intro _ q hq; cases hq
   | cons x l ih =>
    intro hl q hq
    simp only [List.map_cons, List.cons.injEq] at hl
    rcases List.mem_cons.1 hq with rfl | hq
    ·exact hl.1
    ·exact ih hl.2 q hq
  exact key _ h _ hm
 have hs1 := List.all_eq_true.1 hsome _ hm
 cases hd : o.dst with
 | none =>
  simp only at hs1
  obtain ⟨⟨v, H1⟩, hv⟩ := Option.isSome_iff_exists.1 hs1
  have := opV_reads hc hv
  subst this
  exact ⟨v, hv, fun d hd => by cases hd⟩
 | some d =>
  rw [hd] at e
  exact ⟨_, e, fun d' hd' => by cases hd'; rfl⟩
theorem ok_draw {t : Option R} (pl : List (Nat × Nat × Nat)) {hs : List Hp} (h : drawAt p = some p') (hp : planOk (opsAt p) pl = true) (hds : (opsAt p).toList.all (dstOk X.fn.ntmps) = true) (hD : OpsD X.P X.C (opsAt p).toList (opsAt p).toList env H eE hs) (hsome : (rdL X.C (opsAt p).toList eE (H :: hs) 0 (opsAt p).toList pl).all (fun q => q.1.isSome) = true) (hq : (rdL X.C (opsAt p).toList eE (H :: hs) 0 (opsAt p).toList pl).map (·.1) = (rdL X.C (opsAt p).toList eE (H :: hs) 0 (opsAt p).toList pl).map (·.2)) (hl : lastH H hs = H') (k : Ok X p' eE H' t) : Ok X p env H t := by
 subst hl
 unfold drawAt at h
 split at h
 ·rename_i id ops K
  cases h
  intro r hr m0 w0 b0 m w a h0 fr hn hd rw st
  have := drawS_ok (id := id) X.hti X.ord hds hp hD (alike_of hsome hq) fr hn hd rw
  show (Code.region id ops true).wp X.P _ a w
  refine wp_mono this ?_
  rintro e a' w' ⟨rfl, m', q1, q2, q3, q4, q5⟩
  exact resume_ok (k r hr m0 w0 b0 m' w' a' h0 q3 q4 q5 q1 (st.trans h0.2 q2))
 ·cases h
noncomputable def runD (C : Cx) (all : List Oper) (k : Nat) : List Oper → Env → Hp → Option (List Oper × Env × Hp × List Hp) :=
 Nat.rec (motive := fun _ => List Oper → Env → Hp → Option (List Oper × Env × Hp × List Hp)) (fun l env H => some (l, env, H, []))
  (fun _ ih l env H => match l with
   | [] => none
   | o :: l => match wantedV o all env with
    | none => none
    | some false => (match ih l (putV env o.dst (.tuple [])) H with
     | some (l', e, H', hs) => some (l', e, H', bif Nat.beq (cls o) 2 then H :: hs else hs)
     | none => none)
    | some true => (match opV C env H o with
     | some (v, H1) => (match ih l (putV env o.dst v) H1 with
      | some (l', e, H', hs) => some (l', e, H', bif Nat.beq (cls o) 2 then H1 :: hs else hs)
      | none => none)
     | none => none)) k
theorem opsD_run {P : Program} {C : Cx} {all : List Oper} {e : Env} {hs2 : List Hp} : ∀ (k : Nat) {l l' : List Oper} {env eE : Env} {H H' : Hp} {hs : List Hp}, runD C all k l env H = some (l', eE, H', hs) → OpsD P C all l' eE H' e hs2 → OpsD P C all l env H e (hs ++ hs2)
 | 0, l, l', env, eE, H, H', hs, h, g => by
  have h' : some (l, env, H, ([] : List Hp)) = some (l', eE, H', hs) := h
  cases h'
  exact g
 | k + 1, [], l', env, eE, H, H', hs, h, g => by cases h
 | k + 1, o :: l, l', env, eE, H, H', hs, h, g => by
  have h' : (match wantedV o all env with
   | none => none
   | some false => (match runD C all k l (putV env o.dst (.tuple [])) H with
    | some (l', e, H', hs) => some (l', e, H', bif Nat.beq (cls o) 2 then H :: hs else hs)
    | none => none)
   | some true => (match opV C env H o with
    | some (v, H1) => (match runD C all k l (putV env o.dst v) H1 with
     | some (l', e, H', hs) => some (l', e, H', bif Nat.beq (cls o) 2 then H1 :: hs else hs)
     | none => none)
    | none => none)) = some (l', eE, H', hs) := h
  split at h'
  ·cases h'
  ·rename_i hw
   split at h'
   ·rename_i hr
    cases h'
    have := OpsD.skip (P := P) hw (opsD_run k hr g)
    cases hc : Nat.beq (cls o) 2 <;> rw [hc] at this <;> exact this
   ·cases h'
  ·rename_i hw
   split at h'
   ·rename_i v H1 hv
    split at h'
    ·rename_i hr
     cases h'
     have := OpsD.val (P := P) hw (.inl hv) (opsD_run k hr g)
     cases hc : Nat.beq (cls o) 2 <;> rw [hc] at this <;> exact this
    ·cases h'
   ·cases h'
noncomputable def headO (all l : List Oper) (env : Env) : Option Oper := match l with | o :: _ => (match wantedV o all env with | some true => some o | _ => none) | [] => none
noncomputable def evalD (C : Cx) (all l : List Oper) (env : Env) (H : Hp) : Option (AV × Hp) := match headO all l env with | some o => opV C env H o | none => none
noncomputable def advD (all l : List Oper) (env : Env) (v : AV) (H : Hp) : Option (List Oper × Env × List Hp) := match headO all l env with | some o => some (l.tail, putV env o.dst v, bif Nat.beq (cls o) 2 then [H] else []) | none => none
noncomputable def callD (all l : List Oper) (env : Env) : Option (Nat × List AV) :=
 match headO all l env with
 | some o => match o.op with
  | .call c => match c.callee with
   | .value g => match opnd env g with
    | .func f first caps => some (f, first ++ opnds env c.args.toList ++ caps)
    | _ => none
   | _ => none
  | _ => none
 | none => none
theorem headO_spec {all l : List Oper} {o : Oper} (h : headO all l env = some o) : ∃ r, l = o :: r ∧ wantedV o all env = some true := by
 unfold headO at h
 split at h
 ·rename_i o' r
  split at h
  ·rename_i hw; cases h; exact ⟨r, rfl, hw⟩
  ·cases h
 ·cases h
theorem opsD_one {P : Program} {C : Cx} {all l l' : List Oper} {e : Env} {hs hs2 : List Hp} {o : Oper} {v : AV} (ho : headO all l env = some o) (hs0 : Stp P C env H o v H') (ha : advD all l env v H' = some (l', eE, hs)) (g : OpsD P C all l' eE H' e hs2) : OpsD P C all l env H e (hs ++ hs2) := by
 unfold advD at ha
 rw [ho] at ha
 cases ha
 obtain ⟨r, rfl, hw⟩ := headO_spec ho
 have := OpsD.val hw hs0 g
 cases hc : Nat.beq (cls o) 2 <;> rw [hc] at this <;> exact this
theorem opsD_chk {P : Program} {C : Cx} {all l l' : List Oper} {e : Env} {hs hs2 : List Hp} {α : Type} {m : Option α} {x : α} (g : α → AV × Hp) (h : evalD C all l env H = m.map g) (hx : m = some x) (ha : advD all l env (g x).1 (g x).2 = some (l', eE, hs)) (k : OpsD P C all l' eE (g x).2 e hs2) : OpsD P C all l env H e (hs ++ hs2) := by
 subst hx
 unfold evalD at h
 cases ho : headO all l env with
 | none => rw [ho] at h; cases h
 | some o =>
  rw [ho] at h
  exact opsD_one (v := (g x).1) ho (.inl h) ha k
theorem opsD_call {P : Program} {C : Cx} {all l l' : List Oper} {e : Env} {hs hs2 : List Hp} {fi : Nat} {args : List AV} {v : AV} (hc : callD all l env = some (fi, args)) (hp : purs args = true) (hv : pur v = true) (hf : PureOk P fi args v) (ha : advD all l env v H = some (l', eE, hs)) (k : OpsD P C all l' eE H e hs2) : OpsD P C all l env H e (hs ++ hs2) := by
 have hpo := pure_call hf hp hv H
 unfold callD at hc
 cases ho : headO all l env with
 | none => rw [ho] at hc; cases hc
 | some o =>
  rw [ho] at hc
  simp only at hc
  split at hc
  ·rename_i c hoc
   split at hc
   ·rename_i q hq
    split at hc
    ·rename_i fi' first caps hfv
     cases hc
     exact opsD_one (v := v) ho (.inr ⟨c, q, fi, first, caps, hoc, hq, hfv, hpo⟩) ha k
    ·cases hc
   ·cases hc
  ·cases hc
noncomputable def mkT (n : Nat) (l : List Blk) : Tr :=
 List.rec (motive := fun _ => Nat → Tr) (fun _ => .nil) (fun b _ ih n => PT.set depth (ih (n + 1)) n b) l n
theorem mkT_nil (n : Nat) : mkT n [] = .nil := rfl
theorem mkT_cons (n : Nat) (b : Blk) (l : List Blk) : mkT n (b :: l) = PT.set depth (mkT (n + 1) l) n b := rfl
noncomputable def mkH (l : List Blk) : Hp := ⟨l.length, mkT 0 l⟩
theorem mkT_get : ∀ (l : List Blk) (n i : Nat), n + l.length ≤ roots → (mkT n l).get i = if n ≤ i then l[i - n]? else none
 | [], n, i, _ => by
  rw [mkT_nil]
  simp only [List.getElem?_nil, ite_self]
  exact PT.get_nil i
 | b :: l, n, i, h => by
  simp only [List.length_cons] at h
  by_cases e : n = i
  ·subst e
   rw [mkT_cons, Tr.get_set_eq _ _ _ _ (by unfold roots at h; unfold depth; omega)]
   simp
  ·rw [mkT_cons, Tr.get_set_ne _ _ _ _ _ e, mkT_get l (n + 1) i (by omega)]
   by_cases h1 : n ≤ i
   ·rw [if_pos (by omega), if_pos h1, show i - n = (i - (n + 1)) + 1 by omega, List.getElem?_cons_succ]
   ·rw [if_neg (by omega), if_neg h1]
mutual
def below (n : Nat) : AV → Bool
 | .ptr r _ _ => Nat.blt r n
 | .slice r _ _ _ _ => Nat.blt r n
 | .own r _ _ => Nat.blt r n
 | .agg xs => belows n xs
 | .tuple xs => belows n xs
 | .func _ a b => belows n a && belows n b
 | .iface _ v => below n v
 | _ => true
def belows (n : Nat) : List AV → Bool
 | [] => true
 | x :: xs => below n x && belows n xs
end
def Mp.cut (m : Mp) (n : Nat) : Mp := ⟨fun r v => if r < n then m r v else none, m.froz⟩
mutual
theorem below_VR {m : Mp} {n : Nat} : ∀ (x : AV) (c : Value), below n x = true → VR m x c → VR (m.cut n) x c
 | .top, _, _, _ => by simp only [VR]
 | .int .., _, _, e => by simpa only [VR] using e
 | .resid .., _, _, e => by simpa only [VR] using e
 | .bool _, _, _, e => by simpa only [VR] using e
 | .str _, _, _, e => by simpa only [VR] using e
 | .nilp, _, _, e => by simpa only [VR] using e
 | .nils, _, _, e => by simpa only [VR] using e
 | .nilf, _, _, e => by simpa only [VR] using e
 | .nili, _, _, e => by simpa only [VR] using e
 | .vec .., _, _, e => by simp only [VR] at e ⊢; exact e
 | .vptr .., _, _, e => by simp only [VR] at e ⊢; exact e
 | .ptr r v off, _, h, e => by
  simp only [VR, below, Nat.blt_eq] at e h ⊢
  obtain ⟨B, N, h1, h2⟩ := e
  exact ⟨B, N, by show (if r < n then m r v else none) = _; rw [if_pos h]; exact h1, h2⟩
 | .slice r v off len sz, _, h, e => by
  simp only [VR, below, Nat.blt_eq] at e h ⊢
  obtain ⟨B, N, cap, h1, h2⟩ := e
  exact ⟨B, N, cap, by show (if r < n then m r v else none) = _; rw [if_pos h]; exact h1, h2⟩
 | .own r len sz, _, h, e => by
  simp only [VR, below, Nat.blt_eq] at e h ⊢
  rcases e with e | ⟨B, N, cap, h1, h2⟩
  ·exact .inl e
  ·exact .inr ⟨B, N, cap, by show (if r < n then m r (len * sz) else none) = _; rw [if_pos h]; exact h1, h2⟩
 | .agg xs, c, h, e => by
  simp only [VR] at e ⊢
  obtain ⟨ys, h1, h2⟩ := e
  exact ⟨ys, h1, belows_VR xs _ (by simpa only [below] using h) h2⟩
 | .tuple xs, c, h, e => by
  simp only [VR] at e ⊢
  obtain ⟨ys, h1, h2⟩ := e
  exact ⟨ys, h1, belows_VR xs _ (by simpa only [below] using h) h2⟩
 | .func f a b, c, h, e => by
  simp only [VR] at e ⊢
  simp only [below, Bool.and_eq_true] at h
  obtain ⟨ys, zs, h1, h2, h3⟩ := e
  exact ⟨ys, zs, h1, belows_VR a _ h.1 h2, belows_VR b _ h.2 h3⟩
 | .iface t v, c, h, e => by
  simp only [VR] at e ⊢
  obtain ⟨d, h1, h2⟩ := e
  exact ⟨d, h1, below_VR v _ (by simpa only [below] using h) h2⟩
theorem belows_VR {m : Mp} {n : Nat} : ∀ (xs : List AV) (cs : List Value), belows n xs = true → VRs m xs cs → VRs (m.cut n) xs cs
 | [], _, _, e => by simpa only [VRs] using e
 | x :: xs, cs, h, e => by
  simp only [VRs] at e ⊢
  simp only [belows, Bool.and_eq_true] at h
  obtain ⟨y, ys, rfl, h1, h2⟩ := e
  exact ⟨y, ys, rfl, below_VR x y h.1 h1, belows_VR xs ys h.2 h2⟩
end
mutual
theorem pur_below {n : Nat} : ∀ x : AV, pur x = true → below n x = true
 | .top, _ | .int .., _ | .resid .., _ | .bool _, _ | .str _, _ | .nilp, _ | .nils, _ | .nilf, _ | .nili, _ | .vec .., _ | .vptr .., _ => by simp [below]
 | .ptr .., h | .slice .., h | .own .., h => by simp [pur] at h
 | .agg xs, h => by simp only [pur, below] at h ⊢; exact purs_belows xs h
 | .tuple xs, h => by simp only [pur, below] at h ⊢; exact purs_belows xs h
 | .func _ a b, h => by simp only [pur, below, Bool.and_eq_true] at h ⊢; exact ⟨purs_belows a h.1, purs_belows b h.2⟩
 | .iface _ v, h => by simp only [pur, below] at h ⊢; exact pur_below v h
theorem purs_belows {n : Nat} : ∀ xs : List AV, purs xs = true → belows n xs = true
 | [], _ => rfl
 | x :: xs, h => by simp only [purs, belows, Bool.and_eq_true] at h ⊢; exact ⟨pur_below x h.1, purs_belows xs h.2⟩
end
def belowE (n : Nat) : Env → Bool
 | [] => true
 | p :: l => below n p.2 && belowE n l
theorem belowE_look {n : Nat} : ∀ {e : Env} (t : Nat), belowE n e = true → below n (look e t) = true
 | [], t, _ => rfl
 | p :: l, t, h => by
  simp only [belowE, Bool.and_eq_true] at h
  rw [look_cons]
  split
  ·exact h.1
  ·exact belowE_look t h.2
def BB (n : Nat) : List Blk → Prop
 | [] => True
 | b :: l => belows n b.cells = true ∧ BB n l
theorem BB_get {n : Nat} : ∀ {l : List Blk} {i : Nat} {b : Blk}, BB n l → l[i]? = some b → belows n b.cells = true
 | [], i, b, _, h => by simp at h
 | b0 :: l, i, b, hb, h => by
  cases i with
  | zero => simp at h; subst h; exact hb.1
  | succ i => exact BB_get hb.2 (by simpa using h)
theorem belows_take {n : Nat} : ∀ {xs : List AV} (k : Nat), belows n xs = true → belows n (xs.take k) = true
 | [], k, _ => by simp [belows]
 | x :: xs, 0, _ => by simp [belows]
 | x :: xs, k + 1, h => by
  simp only [belows, List.take_succ_cons, Bool.and_eq_true] at h ⊢
  exact ⟨h.1, belows_take k h.2⟩
theorem ok_cut {t : Option R} (l l2 : List Blk) (hn0 : Nat.ble X.n0 l.length = true) (hn : Nat.ble (l.length + l2.length) roots = true) (he : belowE l.length env = true) (hb : BB l.length l) (k : Ok X p env (mkH l) t) : Ok X p env (mkH (l ++ l2)) t := by
 intro r hr m0 w0 b0 m w a h0 fr hnt hd rw st
 have hn : l.length + l2.length ≤ roots := Nat.le_of_ble_eq_true hn
 have hget : ∀ i, i < l.length → (mkH (l ++ l2)).t.get i = (mkH l).t.get i := by
  intro i hi
  show (mkT 0 (l ++ l2)).get i = (mkT 0 l).get i
  rw [mkT_get _ _ _ (by simp; omega), mkT_get _ _ _ (by omega)]
  simp [List.getElem?_append_left hi]
 have hcut : ∀ {r v q}, (m.cut l.length) r v = some q → r < l.length ∧ m r v = some q := by
  intro r v q h
  have h : (if r < l.length then m r v else none) = some q := h
  by_cases e : r < l.length
  ·rw [if_pos e] at h; exact ⟨e, h⟩
  ·rw [if_neg e] at h; cases h
 have hnone : ∀ i, l.length ≤ i → (mkH l).t.get i = none := by
  intro i hi
  show (mkT 0 l).get i = none
  rw [mkT_get _ _ _ (by omega)]
  simp [hi]
 refine k r hr m0 w0 b0 (m.cut l.length) w a h0 ?_ hnt hd ⟨?_, ?_, ?_, hnone, ?_, rw.frz, ?_, rw.ffin, rw.base_le, ?_⟩ ⟨⟨fun r v q hq => (by
  have h1 := h0.1 r v q hq
  have h2 := Nat.le_of_ble_eq_true hn0
  show (if r < l.length then m r v else none) = some q
  rw [if_pos (by omega)]
  exact st.sub.1 r v q hq), st.sub.2⟩, ?_, st.fext, st.size, st.os, st.tape, st.output, st.same⟩
 ·intro t ht
  obtain ⟨c, h1, h2⟩ := fr t ht
  exact ⟨c, h1, below_VR _ _ (belowE_look t he) h2⟩
 ·intro r b v B N hb' hm h1 h2
  obtain ⟨hlt, hm⟩ := hcut hm
  obtain ⟨cs, ty, fr', q1, q2, q3, q4, q5⟩ := rw.blk r b v B N (by rw [hget r hlt]; exact hb') hm h1 h2
  have hbl : l[r]? = some b := by
   have hb' : (mkT 0 l).get r = some b := hb'
   rw [mkT_get _ _ _ (by omega)] at hb'
   simpa using hb'
  exact ⟨cs, ty, fr', q1, q2, q3, q4, belows_VR _ _ (belows_take v (BB_get hb hbl)) q5⟩
 ·intro r v B N hm
  obtain ⟨hlt, hm⟩ := hcut hm
  rw [← hget r hlt]
  exact rw.dom r v B N hm
 ·intro r v B N r' v' N' hm hm' hB
  exact rw.sep _ _ _ _ _ _ _ (hcut hm).2 (hcut hm').2 hB
 ·intro r v B N hm
  exact rw.vle _ _ _ _ (hcut hm).2
 ·intro i B cells r v N b hi hm hb'
  obtain ⟨hlt, hm⟩ := hcut hm
  exact rw.fsep i B cells r v N b hi hm (by rw [hget r hlt]; exact hb')
 ·show l.length ≤ roots
  omega
 ·intro r v B N hm
  exact st.ext r v B N (hcut hm).2
theorem ok_own {t : Option R} (l : List Blk) (d sz : Nat) (hn : Nat.blt l.length roots = true) (h : look env d = .nils) (k : Ok X p ((d, .own l.length 0 sz) :: env) (mkH (l ++ [⟨[], 0, false⟩])) t) : Ok X p env (mkH l) t := by
 intro r hr m0 w0 b0 m w a h0 fr hnt hd rw st
 have hn : l.length < roots := by simpa using hn
 have hg : RW m ⟨l.length + 1, Tr.set depth (mkH l).t l.length ⟨[], 0, false⟩⟩ w b0 := rw.ghost hn
 have hH : RW m (mkH (l ++ [⟨[], 0, false⟩])) w b0 := by
  have e : ∀ i, (mkH (l ++ [⟨[], 0, false⟩])).t.get i = (Tr.set depth (mkH l).t l.length ⟨[], 0, false⟩).get i := by
   intro i
   show (mkT 0 (l ++ [⟨[], 0, false⟩])).get i = (Tr.set depth (mkT 0 l) l.length ⟨[], 0, false⟩).get i
   rw [mkT_get _ _ _ (by simp; omega)]
   by_cases ei : l.length = i
   ·subst ei
    rw [Tr.get_set_eq _ _ _ _ (by unfold roots at hn; unfold depth; omega)]
    simp
   ·rw [Tr.get_set_ne _ _ _ _ _ ei, mkT_get _ _ _ (by omega)]
    by_cases h1 : i < l.length
    ·simp [List.getElem?_append_left h1]
    ·rw [List.getElem?_eq_none (by simp; omega), List.getElem?_eq_none (by omega)]
  have en : (mkH (l ++ [⟨[], 0, false⟩])).next = l.length + 1 := by simp [mkH]
  refine ⟨fun r b v B N hb => hg.blk r b v B N (by rw [← e]; exact hb), fun r v B N hm => by rw [e]; exact hg.dom r v B N hm, hg.sep, fun r hr => by rw [e]; exact hg.fresh r (by rw [en] at hr; exact hr), hg.vle, hg.frz, fun i B cells r v N b hi hm hb => hg.fsep i B cells r v N b hi hm (by rw [← e]; exact hb), hg.ffin, hg.base_le, by rw [en]; exact hn⟩
 refine k r hr m0 w0 b0 m w a h0 ?_ hnt hd hH st
 intro t ht
 by_cases e : d = t
 ·subst e
  obtain ⟨c, h1, h2⟩ := fr d (by rw [h]; intro e; cases e)
  rw [h] at h2
  simp only [VR] at h2
  refine ⟨c, h1, ?_⟩
  rw [look_cons, if_pos rfl]
  unfold VR
  exact .inl ⟨rfl, h2⟩
 ·have he : look ((d, AV.own l.length 0 sz) :: env) t = look env t := by rw [look_cons, if_neg e]
  rw [he] at ht ⊢
  exact fr t ht
theorem resV_ok {P : Program} {C : Cx} (hti : ∀ t i, C.ti t = some i → mkTi P t = some i) {m : Mp} {H : Hp} {w : World} {base : Nat} {env : Env} {a : Act} (fr : FR m env a.tmps) (rw : RW m H w base) (g : ResultVar → Sem Value) (hg1 : ∀ t, g (.tmp t) = pure (a.tmps.getD t undef)) (hg2 : ∀ p t, g (.cell p t) = do loadVar t (← asAddr (a.tmps.getD p undef))) : ∀ (l : List ResultVar) (xs : List AV), resV C env H l = some xs →
 ∃ vs : List Value, (l.mapM g).run P w = .ok vs w ∧ VRs m xs vs
 | [], xs, h => by simp only [resV] at h; cases h; exact ⟨[], by simp, by simp [VRs]⟩
 | .tmp t :: l, xs, h => by
  simp only [resV] at h
  cases hl : resV C env H l with
  | none => rw [hl] at h; cases h
  | some ys =>
   rw [hl] at h
   cases h
   obtain ⟨vs, h1, h2⟩ := resV_ok hti fr rw g hg1 hg2 l ys hl
   refine ⟨a.tmps.getD t undef :: vs, ?_, by simp only [VRs]; exact ⟨_, _, rfl, fr.getD t, h2⟩⟩
   simp only [List.mapM_cons, hg1, Sem.run_bind, Sem.run_pure, Result.andThen_ok, h1]
 | .cell p t :: l, xs, h => by
  simp only [resV] at h
  split at h
  ·rename_i i r v off ys ht hp hl
   split at h
   ·rename_i cs hcs
    split at h
    ·rename_i x hx
     cases h
     obtain ⟨vs, h1, h2⟩ := resV_ok hti fr rw g hg1 hg2 l ys hl
     have hv := fr.getD p
     rw [hp] at hv
     have hld : ∃ c, (loadVar t (match a.tmps.getD p undef with | .pointer (some b) => b | _ => default)).run P w = .ok c w ∧ VR m x c ∧ ∃ b, a.tmps.getD p undef = .pointer (some b) := by
      have hv' := hv
      simp only [VR] at hv'
      obtain ⟨B, N, hm, e⟩ := hv'
      obtain ⟨c, hc1, hc2⟩ := op_load_run (P := P) hti ht hv hcs hx rw
      rw [e] at hc1
      rw [e]
      exact ⟨c, hc1, hc2, _, rfl⟩
     obtain ⟨c, hc1, hc2, b, hb⟩ := hld
     rw [hb] at hc1
     refine ⟨c :: vs, ?_, by simp only [VRs]; exact ⟨_, _, rfl, hc2, h2⟩⟩
     simp only [List.mapM_cons, hg2, Sem.run_bind, hb, asAddr, Sem.run_pure, Result.andThen_ok, hc1, h1]
    ·cases h
   ·cases h
  ·cases h
theorem results_ok {P : Program} {C : Cx} (hti : ∀ t i, C.ti t = some i → mkTi P t = some i) {m : Mp} {H : Hp} {w : World} {base : Nat} {env : Env} {a : Act} {fn : Func} {xs : List AV} (fr : FR m env a.tmps) (rw : RW m H w base) (h : resV C env H fn.results.toList = some xs) :
 ∃ v, (results fn a.tmps).run P w = .ok v w ∧ VR m (oneRes xs) v := by
 have key : ∀ g : ResultVar → Sem Value, (∀ t, g (.tmp t) = pure (a.tmps.getD t undef)) → (∀ p t, g (.cell p t) = do loadVar t (← asAddr (a.tmps.getD p undef))) → ∃ vs : List Value, (fn.results.mapM g).run P w = .ok vs.toArray w ∧ VRs m xs vs := by
  intro g hg1 hg2
  obtain ⟨vs, h1, h2⟩ := resV_ok (P := P) hti fr rw g hg1 hg2 _ _ h
  exact ⟨vs, by rw [Array.mapM_eq_mapM_toList, Sem.run_map, h1]; rfl, h2⟩
 unfold results
 obtain ⟨vs, hm, h2⟩ := key (fun | .tmp t => pure (a.tmps.getD t undef) | .cell p t => do loadVar t (← asAddr (a.tmps.getD p undef))) (fun _ => rfl) (fun _ _ => rfl)
 have hlen := VRs.len h2
 refine ⟨if h : vs.toArray.size = 1 then vs.toArray[0] else .tuple vs.toArray, ?_, ?_⟩
 ·rw [Sem.run_bind]
  erw [hm]
  rfl
 ·unfold oneRes
  split
  ·simp only [VRs] at h2
   obtain ⟨y, ys, rfl, h3, rfl⟩ := h2
   simpa using h3
  ·rename_i hne
   have : ¬ vs.toArray.size = 1 := by
    intro e
    have e1 : xs.length = 1 := by simpa [hlen] using e
    obtain ⟨x, hx⟩ := List.length_eq_one_iff.1 e1
    exact hne x hx
   rw [dif_neg this]
   simp only [VR]
   exact ⟨_, rfl, by simpa using h2⟩
theorem oT {r : R} {xs : List AV} {v : AV} (hn0 : X.n0 = 0) (hfin : X.fin r = H0) (hr : resV X.C env H X.fn.results.toList = some xs) (hz : FzG H [oneRes xs] [v]) (hv : X.enc r = v) : Ok X .fin env H (some r) := by
 intro r' e m0 w0 b0 m w a h0 fr hnt hd rw st
 cases e
 have hnone : ∀ r v, m0 r v = none := by
  intro r v
  cases e : m0 r v with
  | none => rfl
  | some p => have := h0.1 r v p e; omega
 obtain ⟨c, h1, h2⟩ := results_ok (P := X.P) X.hti fr rw hr
 have hF : FOk m.froz m.froz w b0 := by
  refine ⟨fun i B cells hi => rw.frz i B cells hi, rw.ffin, fun i B cells h => .inl h, fun _ _ h => h⟩
 obtain ⟨F', g1, g2, g3⟩ := fz_ok rw hz hF (cs := [c]) (by simp only [VRs]; exact ⟨c, [], rfl, h2, rfl⟩)
 simp only [VRs] at g3
 obtain ⟨c', cs', e, g3, _⟩ := g3
 cases e
 have fin : ∃ m' c', Ending.returned c = .returned c' ∧ RW m' (X.fin r) w b0 ∧ St m0 w0 b0 m' w ∧ VR m' (X.enc r) c' := by
  rw [hfin]
  refine ⟨⟨fun _ _ => none, F'⟩, c, rfl, ⟨?_, ?_, ?_, fun _ _ => rfl, ?_, g1.ok, ?_, g1.fin, rw.base_le, by show 0 ≤ roots; unfold roots; omega⟩, ⟨⟨fun r v q hq => (by rw [hnone] at hq; cases hq), fun i p hp => g2 i p (st.sub.2 i p hp)⟩, ?_, ?_, st.size, st.os, st.tape, st.output, st.same⟩, by rw [hv]; exact g3⟩
  ·intro r b v B N hb hm; cases hm
  ·intro r v B N hm; cases hm
  ·intro r v B N r' v' N' hm; cases hm
  ·intro r v B N hm; cases hm
  ·intro i B cells r v N b _ hm; cases hm
  ·intro r v B N hm; cases hm
  ·intro i B cells hi
   rcases g1.new i B cells hi with h | h
   ·exact st.fext i B cells h
   ·exact .inr h
 exact ⟨⟨hd, c, h1, fin⟩, ⟨hd, c, h1, fin⟩⟩
theorem look_args0 : ∀ (xs : List AV) (i t : Nat), look (args0 i xs) t = if i ≤ t then (xs[t - i]?).getD .top else .top
 | [], i, t => by simp [args0, look_nil]
 | x :: xs, i, t => by
  rw [args0, look_put, look_args0 xs (i + 1) t]
  by_cases e : i = t
  ·subst e; simp
  ·rw [if_neg e]
   by_cases h : i ≤ t
   ·rw [if_pos (by omega), if_pos h, show t - i = (t - (i + 1)) + 1 by omega]; simp
   ·rw [if_neg (by omega), if_neg h]
theorem FR_args {m : Mp} {xs : List AV} {args rest : Array Value} (h : VRs m xs args.toList) : FR m (args0 0 xs) (args ++ rest) := by
 intro t ht
 rw [look_args0] at ht ⊢
 simp only [Nat.zero_le, if_true, Nat.sub_zero] at ht ⊢
 cases hx : xs[t]? with
 | none => rw [hx] at ht; exact absurd rfl ht
 | some x =>
  obtain ⟨c, hc, hv⟩ := VRs.get h t x hx
  rw [Array.getElem?_toList] at hc
  obtain ⟨hlt, _⟩ := Array.getElem?_eq_some_iff.1 hc
  exact ⟨c, by rw [Array.getElem?_append_left hlt]; exact hc, by simpa using hv⟩
def bodyAt (fn : Func) : Pt := match fn.body with | some c => .code c [] | none => .fin
theorem pure_of (X : Fx R) {f : Nat} (hfin : ∀ r, X.fin r = H0) (hf : X.P.funcs[f]? = some X.fn) (hn : (X.fn.name == "runtime.NumGoroutine") = false) (hb : X.fn.body.isSome = true) {xs : List AV} {t : Option R} (h : Ok X (bodyAt X.fn) (args0 0 xs) (mkH []) t) {r : R} (ht : t = some r) : PureOk X.P f xs (X.enc r) := by
 refine ⟨?_, X.fn, hf, hn, hb⟩
 intro m0 w args h0 hargs rw
 cases hc : X.fn.body with
 | none => rw [hc] at hb; cases hb
 | some c =>
  have e : bodyAt X.fn = .code c [] := by simp [bodyAt, hc]
  rw [e] at h
  have := h r ht m0 w w.heap.size m0 w { tmps := args ++ Array.replicate (X.fn.ntmps - args.size) undef, defers := [] } ⟨fun r v p e => (by rw [h0] at e; cases e), Nat.le_refl _⟩ (FR_args hargs) (by simp; omega) rfl rw (St.refl _ _ _)
  have e2 : Ret X r m0 w w.heap.size = bodyPost X.P X.fn fun x w' => ∃ m' c, x = .returned c ∧ RW m' H0 w' w.heap.size ∧ St m0 w w.heap.size m' w' ∧ VR m' (X.enc r) c := by unfold Ret; rw [hfin]
  rw [e2] at this
  exact calls_of_wp hf hc this
theorem callM_of (X : Fx R) {f : Nat} (hf : X.P.funcs[f]? = some X.fn) (hn : (X.fn.name == "runtime.NumGoroutine") = false) (hb : X.fn.body.isSome = true) {L : List Blk} (hn0 : X.n0 = L.length) {xs : List AV} {t : Option R} (h : Ok X (bodyAt X.fn) (args0 0 xs) (mkH L) t) {r : R} (ht : t = some r) : CallV X.P f xs (mkH L) (X.enc r) (X.fin r) := by
 refine ⟨?_, X.fn, hf, hn, hb⟩
 intro m w base args hargs rw
 cases hc : X.fn.body with
 | none => rw [hc] at hb; cases hb
 | some c =>
  have e : bodyAt X.fn = .code c [] := by simp [bodyAt, hc]
  rw [e] at h
  have := h r ht m w base m w { tmps := args ++ Array.replicate (X.fn.ntmps - args.size) undef, defers := [] } ⟨fun r v p e => (by
   obtain ⟨b, hb, _⟩ := rw.dom r v p.1 p.2 e
   rw [hn0]
   exact rw.lt hb), rw.base_le⟩ (FR_args hargs) (by simp; omega) rfl rw (St.refl _ _ _)
  exact calls_of_wp hf hc this
theorem ok_retM {r : R} {xs : List AV} (hr : resV X.C env H X.fn.results.toList = some xs) (hp : pur (oneRes xs) = true) (hv : X.enc r = oneRes xs) (hf : X.fin r = H) : Ok X .fin env H (some r) := by
 intro r' e m0 w0 b0 m w a h0 fr hnt hd rw st
 cases e
 obtain ⟨c, h1, h2⟩ := results_ok (P := X.P) X.hti fr rw hr
 exact ⟨⟨hd, c, h1, m, c, rfl, by rw [hf]; exact rw, st, by rw [hv]; exact h2⟩, ⟨hd, c, h1, m, c, rfl, by rw [hf]; exact rw, st, by rw [hv]; exact h2⟩⟩
end
end Go.Proofs.Ytbmijiibfaacmaa.Am
set_option linter.unusedVariables false
set_option linter.unusedSimpArgs false
namespace Go.Proofs.Ytbmijiibfaacmaa.Am
open Go
def nthS (s : List Nat) (k : Int) : Option Int := if 0 ≤ k then (match s[k.toNat]? with | some b => some (b : Int) | none => none) else none
theorem idxH {e : Option (AV × Hp)} {s : List Nat} {k : Int} {H : Hp} (h : e = (if 0 ≤ k then (match s[k.toNat]? with | some b => some (AV.int .u8 (b : Int), H) | none => none) else none)) : e = (nthS s k).map fun c => (AV.int .u8 c, H) := by
 rw [h]; unfold nthS
 split
 ·cases s[k.toNat]? <;> rfl
 ·rfl
def bnd (x : Option Int) (y d : Nat) : Option Nat := match x with | none => some d | some i => if 0 ≤ i ∧ i ≤ y then some i.toNat else none
def subL {α : Type} (l : List α) (lo hi : Option Int) : Option (List α) :=
 match bnd hi l.length l.length with
 | some h => (match bnd lo h 0 with | some b => some ((l.take h).drop b) | none => none)
 | none => none
theorem boundO_bnd (x : Option Int) (k : IntKind) (y d : Nat) : boundO (x.map (AV.int k)) y d = bnd x y d := by cases x <;> rfl
theorem subH {e : Option (AV × Hp)} {s : List Nat} (lo hi : Option Int) {H : Hp} (h : e = (match boundO (hi.map (AV.int .i64)) s.length s.length with | some h => (match boundO (lo.map (AV.int .i64)) h 0 with | some l => some (AV.str ((s.take h).drop l)) | none => none) | none => none).map fun v => (v, H)) : e = (subL s lo hi).map fun x => (AV.str x, H) := by
 rw [h, boundO_bnd]; unfold subL
 cases bnd hi s.length s.length with
 | none => rfl
 | some h =>
  simp only
  rw [boundO_bnd]
  cases bnd lo h 0 <;> rfl
def nthL {α : Type} (l : List α) (k : Int) : Option α := if 0 ≤ k then l[k.toNat]? else none
theorem flatMap_len {α : Type} {enc : α → List AV} {sz : Nat} (h : ∀ x, (enc x).length = sz) : ∀ l : List α, (l.flatMap enc).length = l.length * sz
 | [] => by simp
 | x :: l => by rw [List.flatMap_cons, List.length_append, h, flatMap_len h l, List.length_cons, Nat.add_mul]; omega
theorem flatMap_at {α : Type} {enc : α → List AV} {sz : Nat} (h : ∀ x, (enc x).length = sz) : ∀ (l : List α) (k : Nat) (x : α), l[k]? = some x → ((l.flatMap enc).drop (k * sz)).take sz = enc x
 | [], k, x, e => by simp at e
 | y :: l, k, x, e => by
  rw [List.flatMap_cons]
  cases k with
  | zero =>
   simp at e
   subst e
   rw [Nat.zero_mul, List.drop_zero, List.take_append_of_le_length (by rw [h]; exact Nat.le_refl _), List.take_of_length_le (by rw [h]; exact Nat.le_refl _)]
  | succ k =>
   rw [List.drop_append, List.drop_of_length_le (by rw [h, Nat.add_mul]; omega), List.nil_append, h, show (k + 1) * sz - sz = k * sz by rw [Nat.add_mul]; omega]
   exact flatMap_at h l k x (by simpa using e)
theorem vidxH {α : Type} {enc : α → List AV} {sz : Nat} (hsz : ∀ x, (enc x).length = sz) {e : Option (AV × Hp)} {l : List α} {k : Int} {H : Hp} (h : e = (if sz = sz ∧ 0 ≤ k ∧ k < ((l.length : Nat) : Int) then some (AV.vptr (((l.flatMap enc).drop (k.toNat * sz)).take sz), H) else none)) : e = (nthL l k).map fun x => (AV.vptr (enc x), H) := by
 rw [h]; unfold nthL
 by_cases h0 : 0 ≤ k
 ·rw [if_pos h0]
  by_cases h1 : k < (l.length : Int)
  ·rw [if_pos ⟨rfl, h0, h1⟩]
   have hlt : k.toNat < l.length := by omega
   rw [List.getElem?_eq_getElem hlt, flatMap_at hsz l k.toNat _ (List.getElem?_eq_getElem hlt)]
   rfl
  ·rw [if_neg (fun hh => h1 hh.2.2), List.getElem?_eq_none (by omega)]
   rfl
 ·rw [if_neg (fun hh => h0 hh.2.1), if_neg h0]; rfl
def andI (k : IntKind) (x y : Int) : Int := fW k (BitVec.ofInt k.bits x &&& BitVec.ofInt k.bits y).toNat
def maxI (x y : Int) : Int := if x < y then y else x
def appS {α : Type} (bytes : Nat) (l x : List α) : Option (List α) := if (l.length + x.length) * bytes ≤ 2 ^ 40 ∧ l.length + x.length ≤ 2 ^ 40 then some (l ++ x) else none
theorem mkH_get {L : List Blk} {r : Nat} {b : Blk} (hl : Nat.ble L.length roots = true) (h : L[r]? = some b) : (mkH L).t.get r = some b := by
 show (mkT 0 L).get r = some b
 rw [mkT_get _ _ _ (by rw [Nat.zero_add]; exact Nat.le_of_ble_eq_true hl)]
 simpa using h
theorem PT.set_set {α : Type} : ∀ (k : Nat) (t : PT α) (n : Nat) (x y : α), PT.set k (PT.set k t n x) n y = PT.set k t n y
 | 0, _, _, _, _ => rfl
 | k + 1, t, n, x, y => by
  have ih := fun t n => PT.set_set k t n x y
  rw [PT.set_succ, PT.set_succ, PT.set_succ]
  by_cases h0 : n = 0
  ·simp only [h0, if_true]; rfl
  ·simp only [h0, if_false]
   by_cases h1 : n % 2 = 1
   ·simp only [h1, if_true]
    show PT.node (PT.set k (PT.set k t.left (n / 2) x) (n / 2) y) t.mid t.right = _
    rw [ih]
   ·simp only [h1, if_false]
    show PT.node t.left t.mid (PT.set k (PT.set k t.right (n / 2 - 1) x) (n / 2 - 1) y) = _
    rw [ih]
theorem PT.set_comm {α : Type} : ∀ (k : Nat) (t : PT α) (n m : Nat) (x y : α), n ≠ m → PT.set k (PT.set k t n x) m y = PT.set k (PT.set k t m y) n x
 | 0, _, _, _, _, _, _ => rfl
 | k + 1, t, n, m, x, y, h => by
  have ih := fun t n m h => PT.set_comm k t n m x y h
  rw [PT.set_succ, PT.set_succ, PT.set_succ, PT.set_succ]
  by_cases n0 : n = 0
  ·have m0 : m ≠ 0 := by omega
   simp only [n0, m0, if_true, if_false]
   by_cases m1 : m % 2 = 1 <;> simp only [m1, if_true, if_false] <;> rfl
  ·by_cases m0 : m = 0
   ·simp only [n0, m0, if_true, if_false]
    by_cases n1 : n % 2 = 1 <;> simp only [n1, if_true, if_false] <;> rfl
   ·simp only [n0, m0, if_false]
    by_cases n1 : n % 2 = 1
    ·by_cases m1 : m % 2 = 1
     ·simp only [n1, m1, if_true]
      show PT.node (PT.set k (PT.set k t.left (n / 2) x) (m / 2) y) t.mid t.right = PT.node (PT.set k (PT.set k t.left (m / 2) y) (n / 2) x) t.mid t.right
      rw [ih _ _ _ (by omega)]
     ·simp only [n1, m1, if_true, if_false]; rfl
    ·by_cases m1 : m % 2 = 1
     ·simp only [n1, m1, if_true, if_false]; rfl
     ·simp only [n1, m1, if_false]
      show PT.node t.left t.mid (PT.set k (PT.set k t.right (n / 2 - 1) x) (m / 2 - 1) y) = PT.node t.left t.mid (PT.set k (PT.set k t.right (m / 2 - 1) y) (n / 2 - 1) x)
      rw [ih _ _ _ (by omega)]
theorem mkT_set : ∀ (L : List Blk) (n r : Nat) (b : Blk), r < L.length → PT.set depth (mkT n L) (n + r) b = mkT n (L.set r b)
 | [], n, r, b, h => by simp at h
 | c :: L, n, 0, b, h => by
  rw [List.set_cons_zero, mkT_cons, mkT_cons]
  exact PT.set_set _ _ _ _ _
 | c :: L, n, r + 1, b, h => by
  rw [List.set_cons_succ, mkT_cons, mkT_cons, PT.set_comm _ _ _ _ _ _ (by omega), show n + (r + 1) = (n + 1) + r by omega, mkT_set L (n + 1) r b (by simpa using h)]
theorem mkH_set {L : List Blk} {r : Nat} {b : Blk} (h : r < L.length) : (⟨(mkH L).next, Tr.set depth (mkH L).t r b⟩ : Hp) = mkH (L.set r b) := by
 show (⟨L.length, PT.set depth (mkT 0 L) r b⟩ : Hp) = ⟨(L.set r b).length, mkT 0 (L.set r b)⟩
 have := mkT_set L 0 r b h
 rw [Nat.zero_add] at this
 rw [this, List.length_set]
theorem appH {α : Type} {enc : α → List AV} {sz : Nat} (hsz : ∀ x, (enc x).length = sz) (hpos : Nat.blt 0 sz = true) (hone : ∀ x, (enc x).all one1 = true) {e : Option (AV × Hp)} (L : List Blk) (r bytes : Nat) (l x : List α) (hl : Nat.ble L.length roots = true) (hr : L[r]? = some ⟨l.flatMap enc, 0, false⟩) (h : e = appW (mkH L) (.own r l.length sz) sz bytes x.length (x.flatMap enc)) : e = (appS bytes l x).map fun y => (AV.own r y.length sz, mkH (L.set r ⟨y.flatMap enc, 0, false⟩)) := by
 have hpos : 0 < sz := by simpa using hpos
 have hone' : (x.flatMap enc).all one1 = true := by
  rw [List.all_eq_true]
  intro a ha
  obtain ⟨y, _, hy⟩ := List.mem_flatMap.1 ha
  exact List.all_eq_true.1 (hone y) a hy
 have hlt : r < L.length := (List.getElem?_eq_some_iff.1 hr).1
 rw [h]
 unfold appW appV appS
 simp only [flatMap_len hsz, hpos, hone', true_and, and_true, if_true]
 by_cases hb : (l.length + x.length) * bytes ≤ 2 ^ 40 ∧ l.length + x.length ≤ 2 ^ 40
 ·rw [if_pos hb]
  by_cases hx : x.length = 0
  ·have : x = [] := List.length_eq_zero_iff.1 hx
   subst this
   simp only [List.length_nil, Nat.add_zero, List.append_nil, Option.map_some, if_true]
   rw [if_pos (by simpa using hb)]
   have : L.set r ⟨l.flatMap enc, 0, false⟩ = L := by
    apply List.ext_getElem?
    intro i
    rw [List.getElem?_set]
    split
    ·rename_i e; subst e; first | exact hr.symm | (rw [if_pos hlt]; exact hr.symm)
    ·rfl
   show some (AV.own r l.length sz, mkH L) = some (AV.own r l.length sz, mkH (L.set r ⟨l.flatMap enc, 0, false⟩))
   rw [this]
  ·simp only [hx, if_false]
   rw [mkH_get hl hr, if_pos hb]
   simp only [flatMap_len hsz, Nat.zero_le, true_and, and_self, if_true, Option.map_some]
   rw [mkH_set hlt, List.flatMap_append, List.length_append]
 ·rw [if_neg hb, if_neg hb]; rfl
theorem fz_own {α : Type} {enc : α → List AV} {sz : Nat} (hsz : ∀ x, (enc x).length = sz) (hpur : ∀ x, purs (enc x) = true) {L : List Blk} {r : Nat} {l : List α} {xs ys : List AV} (hl : Nat.ble L.length roots = true) (hr : L[r]? = some ⟨l.flatMap enc, 0, false⟩) (h : FzG (mkH L) xs ys) : FzG (mkH L) (.own r l.length sz :: xs) (.vec l.length sz (l.flatMap enc) :: ys) :=
 .own (mkH_get hl hr) (flatMap_len hsz l) (Nat.zero_le _) (.pures (purs_flatMap hpur l)) h
def ctl1 : Pt → Pt
 | .ops _ _ K => resume K
 | .loop b K => .code b (.loop b :: K)
 | .fin => .fin
 | .code c K => match c with
  | .seq a b => .code a (.seq b :: K)
  | .skip => resume K
  | .label _ => resume K
  | .block id b => .code b (.block id :: K)
  | .scope b => .code b (.scope b :: K)
  | .loop b => .loop b K
  | .exit id => match exitK id K with | some q => q | none => .fin
  | .goto l => match gotoK l K with | some q => q | none => .fin
  | .ret => .fin
  | .region id ops draw => bif draw then resume K else .ops ops 0 K
  | _ => .fin
def nav : List Nat → Pt → Pt
 | [], p => p
 | 0 :: l, p => nav l (ctl1 p)
 | 1 :: l, .code (.cond _ x _) K => nav l (.code x K)
 | _ :: l, .code (.cond _ _ y) K => nav l (.code y K)
 | _ :: _, p => p
def atN (n : Nat) : Pt → Pt
 | .ops ops _ K => .ops ops n K
 | p => p
mutual
def nref (n : Nat) : AV → Bool
 | .ptr r _ _ => !Nat.beq r n
 | .slice r _ _ _ _ => !Nat.beq r n
 | .own r _ _ => !Nat.beq r n
 | .agg xs => nrefs n xs
 | .tuple xs => nrefs n xs
 | .func _ a b => nrefs n a && nrefs n b
 | .iface _ v => nref n v
 | _ => true
def nrefs (n : Nat) : List AV → Bool
 | [] => true
 | x :: xs => nref n x && nrefs n xs
end
def Mp.out (m : Mp) (n : Nat) (F : Nat → Option (Nat × List AV)) : Mp := ⟨fun r v => if r = n then none else m r v, F⟩
theorem out_at {m : Mp} {n : Nat} {F : Nat → Option (Nat × List AV)} {r v : Nat} (h : (!Nat.beq r n) = true) : (m.out n F) r v = m r v := by
 show (if r = n then none else m r v) = m r v
 rw [if_neg]
 rintro rfl
 simp at h
mutual
theorem nref_VR {m : Mp} {n : Nat} {F : Nat → Option (Nat × List AV)} (hF : ∀ i p, m.froz i = some p → F i = some p) : ∀ (x : AV) (c : Value), nref n x = true → VR m x c → VR (m.out n F) x c
 | .top, _, _, _ => by simp only [VR]
 | .int .., _, _, e => by simpa only [VR] using e
 | .resid .., _, _, e => by simpa only [VR] using e
 | .bool _, _, _, e => by simpa only [VR] using e
 | .str _, _, _, e => by simpa only [VR] using e
 | .nilp, _, _, e => by simpa only [VR] using e
 | .nils, _, _, e => by simpa only [VR] using e
 | .nilf, _, _, e => by simpa only [VR] using e
 | .nili, _, _, e => by simpa only [VR] using e
 | .vec .., _, _, e => by
  simp only [VR] at e ⊢
  obtain ⟨h0, a, cap, h1, h2, h3, h4⟩ := e
  exact ⟨h0, a, cap, h1, h2, h3, fun hn => let ⟨i, B, off, all, q, r⟩ := h4 hn; ⟨i, B, off, all, hF _ _ q, r⟩⟩
 | .vptr .., _, _, e => by
  simp only [VR] at e ⊢
  obtain ⟨i, B, off, all, q, r⟩ := e
  exact ⟨i, B, off, all, hF _ _ q, r⟩
 | .ptr r v off, _, h, e => by
  simp only [VR] at e ⊢
  obtain ⟨B, N, h1, h2⟩ := e
  exact ⟨B, N, by rw [out_at (by simpa only [nref] using h)]; exact h1, h2⟩
 | .slice r v off len sz, _, h, e => by
  simp only [VR] at e ⊢
  obtain ⟨B, N, cap, h1, h2⟩ := e
  exact ⟨B, N, cap, by rw [out_at (by simpa only [nref] using h)]; exact h1, h2⟩
 | .own r len sz, _, h, e => by
  simp only [VR] at e ⊢
  rcases e with e | ⟨B, N, cap, h1, h2⟩
  ·exact .inl e
  ·exact .inr ⟨B, N, cap, by rw [out_at (by simpa only [nref] using h)]; exact h1, h2⟩
 | .agg xs, c, h, e => by
  simp only [VR] at e ⊢
  obtain ⟨ys, h1, h2⟩ := e
  exact ⟨ys, h1, nrefs_VR hF xs _ (by simpa only [nref] using h) h2⟩
 | .tuple xs, c, h, e => by
  simp only [VR] at e ⊢
  obtain ⟨ys, h1, h2⟩ := e
  exact ⟨ys, h1, nrefs_VR hF xs _ (by simpa only [nref] using h) h2⟩
 | .func f a b, c, h, e => by
  simp only [VR] at e ⊢
  simp only [nref, Bool.and_eq_true] at h
  obtain ⟨ys, zs, h1, h2, h3⟩ := e
  exact ⟨ys, zs, h1, nrefs_VR hF a _ h.1 h2, nrefs_VR hF b _ h.2 h3⟩
 | .iface t v, c, h, e => by
  simp only [VR] at e ⊢
  obtain ⟨d, h1, h2⟩ := e
  exact ⟨d, h1, nref_VR hF v _ (by simpa only [nref] using h) h2⟩
theorem nrefs_VR {m : Mp} {n : Nat} {F : Nat → Option (Nat × List AV)} (hF : ∀ i p, m.froz i = some p → F i = some p) : ∀ (xs : List AV) (cs : List Value), nrefs n xs = true → VRs m xs cs → VRs (m.out n F) xs cs
 | [], _, _, e => by simpa only [VRs] using e
 | x :: xs, cs, h, e => by
  simp only [VRs] at e ⊢
  simp only [nrefs, Bool.and_eq_true] at h
  obtain ⟨y, ys, rfl, h1, h2⟩ := e
  exact ⟨y, ys, rfl, nref_VR hF x y h.1 h1, nrefs_VR hF xs ys h.2 h2⟩
end
theorem nrefs_take {n : Nat} : ∀ {xs : List AV} (k : Nat), nrefs n xs = true → nrefs n (xs.take k) = true
 | [], k, _ => by simp [nrefs]
 | x :: xs, 0, _ => by simp [nrefs]
 | x :: xs, k + 1, h => by
  simp only [nrefs, List.take_succ_cons, Bool.and_eq_true] at h ⊢
  exact ⟨h.1, nrefs_take k h.2⟩
def nrefE (n : Nat) : Env → Bool
 | [] => true
 | p :: l => nref n p.2 && nrefE n l
theorem nrefE_look {n : Nat} : ∀ {e : Env} (t : Nat), nrefE n e = true → nref n (look e t) = true
 | [], t, _ => rfl
 | p :: l, t, h => by
  simp only [nrefE, Bool.and_eq_true] at h
  rw [look_cons]
  split
  ·exact h.1
  ·exact nrefE_look t h.2
def NB (n : Nat) : Nat → List Blk → Prop
 | _, [] => True
 | i, b :: l => (i = n ∨ nrefs n b.cells = true) ∧ NB n (i + 1) l
theorem NB_get {n : Nat} : ∀ {l : List Blk} {i j : Nat} {b : Blk}, NB n i l → l[j]? = some b → i + j ≠ n → nrefs n b.cells = true
 | [], i, j, b, _, h, _ => by simp at h
 | b0 :: l, i, j, b, hb, h, hne => by
  cases j with
  | zero => simp at h; subst h; exact hb.1.resolve_left (by omega)
  | succ j => exact NB_get hb.2 (by simpa using h) (by omega)
theorem ok_frz {R : Type} {X : Fx R} {p : Pt} {env env0 : Env} {t : Option R} (L : List Blk) (d r0 n sz minv : Nat) (cells : List AV) (ks : List Nat) (hn0 : Nat.ble X.n0 r0 = true) (hl : Nat.ble L.length roots = true) (hd0 : look env d = .slice r0 (n * sz) 0 n sz ∨ look env d = .own r0 n sz) (hr : L[r0]? = some ⟨cells, minv, false⟩) (hc : cells.length = n * sz) (hmin : minv ≤ n * sz) (hp : purs cells = true) (hk : keepOnly env ks = env0) (hne : nrefE r0 env0 = true) (hnb : NB r0 0 L) (k : Ok X p ((d, .vec n sz cells) :: env0) (mkH (L.set r0 ⟨[], 0, false⟩)) t) : Ok X p env (mkH L) t := by
 intro r hr' m0 w0 b0 m w a h0 fr0 hnt hd rw st
 have fr : FR m env0 a.tmps := fr0.less (hk ▸ less_keepOnly ks env)
 have hroot : (mkH L).t.get r0 = some ⟨cells, minv, false⟩ := mkH_get hl hr
 have hlt : r0 < L.length := (List.getElem?_eq_some_iff.1 hr).1
 obtain ⟨c, hc1, hc2⟩ := fr0 d (by rcases hd0 with h | h <;> (rw [h]; intro e; cases e))
 have hcase : c = .slice none 0 0 ∧ n = 0 ∨ ∃ B N cap, m r0 (n * sz) = some (B, N) ∧ n ≤ cap ∧ c = .slice (some ⟨B, 0, none⟩) n cap := by
  rcases hd0 with h | h <;> rw [h] at hc2 <;> simp only [VR] at hc2
  ·obtain ⟨B, N, cap, h1, h2, h3, h4, h5⟩ := hc2
   exact .inr ⟨B, N, cap, h1, h3, h5⟩
  ·rcases hc2 with ⟨h1, h2⟩ | ⟨B, N, cap, h1, h2, h3, h4⟩
   ·exact .inl ⟨h2, h1⟩
   ·exact .inr ⟨B, N, cap, h1, h2, h4⟩
 have hF0 : FOk m.froz m.froz w b0 := ⟨fun i B cells hi => rw.frz i B cells hi, rw.ffin, fun i B cells h => .inl h, fun _ _ h => h⟩
 have key : ∃ F, FOk F m.froz w b0 ∧ (∀ i B cs, F i = some (B, cs) → m.froz i = some (B, cs) ∨ ∃ v N, m r0 v = some (B, N)) ∧ VR ⟨fun _ _ => none, F⟩ (.vec n sz cells) c := by
  rcases hcase with ⟨rfl, rfl⟩ | ⟨B, N, cap, hm, hcap, rfl⟩
  ·have : cells = [] := List.length_eq_zero_iff.1 (by omega)
   subst this
   exact ⟨m.froz, hF0, fun i B cs h => .inl h, vec_nil _ _⟩
  ·obtain ⟨cs, ty, fr', q1, q2, q3, q4, q5⟩ := rw.blk _ _ _ _ _ hroot hm hmin (by show n * sz ≤ cells.length; omega)
   obtain ⟨b0, hb0, _, _, hbase⟩ := rw.dom _ _ _ _ hm
   rw [hroot] at hb0
   cases hb0
   simp only at q5
   rw [List.take_of_length_le (by omega)] at q5
   obtain ⟨nf, hnf⟩ := rw.ffin
   have q6 := purs_VR _ _ hp q5
   obtain ⟨F, i, g1, g2, g3⟩ := fOk_add hF0 (hbase rfl) q1 (cells := cells) (by omega) (by rw [hc]; exact q6)
   refine ⟨fun j => if j = nf then some (B, cells) else m.froz j, ?_, ?_, ?_⟩
   ·refine ⟨?_, ⟨nf + 1, fun j hj => by show (if j = nf then some (B, cells) else m.froz j) = none; rw [if_neg (by omega)]; exact hnf j (by omega)⟩, ?_, ?_⟩
    ·intro j B' cells' hj
     have hS : Sub m.still ⟨fun _ _ => none, fun j => if j = nf then some (B, cells) else m.froz j⟩ := ⟨fun _ _ _ e => (by cases e), fun j q hq => by
      show (if j = nf then some (B, cells) else m.froz j) = some q
      rw [if_neg]
      ·exact hq
      ·rintro rfl
       have hq : m.froz j = some q := hq
       rw [hnf _ (Nat.le_refl _)] at hq; cases hq⟩
     by_cases e : j = nf
     ·simp only [e, if_true] at hj
      cases hj
      exact ⟨cs, ty, fr', q1, by omega, by rw [hc]; exact VRs.mono hS _ _ q6⟩
     ·simp only [e, if_false] at hj
      obtain ⟨cs2, ty2, fr2, e1, e2, e3⟩ := rw.frz j B' cells' hj
      exact ⟨cs2, ty2, fr2, e1, e2, VRs.mono hS _ _ e3⟩
    ·intro j B' cells' hj
     by_cases e : j = nf
     ·simp only [e, if_true] at hj
      cases hj
      exact .inr (hbase rfl)
     ·simp only [e, if_false] at hj
      exact .inl hj
    ·intro j q hq
     show (if j = nf then some (B, cells) else m.froz j) = some q
     rw [if_neg]
     ·exact hq
     ·rintro rfl; rw [hnf _ (Nat.le_refl _)] at hq; cases hq
   ·intro j B' cells' hj
    by_cases e : j = nf
    ·simp only [e, if_true] at hj
     cases hj
     exact .inr ⟨_, _, hm⟩
    ·simp only [e, if_false] at hj
     exact .inl hj
   ·simp only [VR]
    refine ⟨hc, _, cap, rfl, hcap, fun e => (by cases e), fun _ => ⟨nf, B, 0, cells, by simp, rfl, ?_, by omega⟩⟩
    rw [List.drop_zero, List.take_of_length_le (by omega)]
 obtain ⟨F, hFok, hFnew, hvec⟩ := key
 have hget : ∀ i, i ≠ r0 → (mkH (L.set r0 ⟨[], 0, false⟩)).t.get i = (mkH L).t.get i := by
  intro i hi
  show (mkT 0 (L.set r0 ⟨[], 0, false⟩)).get i = (mkT 0 L).get i
  have hl' : L.length ≤ roots := Nat.le_of_ble_eq_true hl
  rw [mkT_get _ _ _ (by rw [List.length_set]; omega), mkT_get _ _ _ (by omega)]
  simp only [Nat.zero_le, if_true, Nat.sub_zero]
  rw [List.getElem?_set, if_neg (fun e => hi e.symm)]
 have hout : ∀ {r v q}, (m.out r0 F) r v = some q → r ≠ r0 ∧ m r v = some q := by
  intro r v q h
  have h : (if r = r0 then none else m r v) = some q := h
  by_cases e : r = r0
  ·rw [if_pos e] at h; cases h
  ·rw [if_neg e] at h; exact ⟨e, h⟩
 refine k r hr' m0 w0 b0 (m.out r0 F) w a h0 ?_ hnt hd ⟨?_, ?_, ?_, ?_, ?_, hFok.ok, ?_, hFok.fin, rw.base_le, ?_⟩ ⟨⟨fun r v q hq => (by
  have h1 := h0.1 r v q hq
  have h2 := Nat.le_of_ble_eq_true hn0
  show (if r = r0 then none else m r v) = some q
  rw [if_neg (by omega)]
  exact st.sub.1 r v q hq), fun i q hq => hFok.sub i q (st.sub.2 i q hq)⟩, ?_, ?_, st.size, st.os, st.tape, st.output, st.same⟩
 ·intro u hu
  by_cases e : d = u
  ·subst e
   refine ⟨c, hc1, ?_⟩
   rw [look_cons, if_pos rfl]
   exact VR.mono (m := ⟨fun _ _ => none, F⟩) (m' := m.out r0 F) ⟨fun _ _ _ h => (by cases h), fun _ _ h => h⟩ _ _ hvec
  ·have he : look ((d, AV.vec n sz cells) :: env0) u = look env0 u := by rw [look_cons, if_neg e]
   rw [he] at hu ⊢
   obtain ⟨c, h1, h2⟩ := fr u hu
   exact ⟨c, h1, nref_VR hFok.sub _ _ (nrefE_look u hne) h2⟩
 ·intro r b v B N hb hm h1 h2
  obtain ⟨hne', hm⟩ := hout hm
  rw [hget r hne'] at hb
  obtain ⟨cs, ty, fr', q1, q2, q3, q4, q5⟩ := rw.blk r b v B N hb hm h1 h2
  have hbl : L[r]? = some b := by
   have hb' : (mkT 0 L).get r = some b := hb
   rw [mkT_get _ _ _ (by rw [Nat.zero_add]; exact Nat.le_of_ble_eq_true hl)] at hb'
   simpa using hb'
  exact ⟨cs, ty, fr', q1, q2, q3, q4, nrefs_VR hFok.sub _ _ (nrefs_take v (NB_get hnb hbl (by omega))) q5⟩
 ·intro r v B N hm
  obtain ⟨hne', hm⟩ := hout hm
  rw [hget r hne']
  exact rw.dom r v B N hm
 ·intro r v B N r' v' N' hm hm' hB
  exact rw.sep _ _ _ _ _ _ _ (hout hm).2 (hout hm').2 hB
 ·intro r hr
  have hr : L.length ≤ r := by
   have : (mkH (L.set r0 ⟨[], 0, false⟩)).next = L.length := by simp [mkH]
   rw [this] at hr; exact hr
  rw [hget r (by omega)]
  exact rw.fresh r hr
 ·intro r v B N hm
  exact rw.vle _ _ _ _ (hout hm).2
 ·intro i B cs r v N b hi hm hb
  obtain ⟨hne', hm⟩ := hout hm
  rw [hget r hne'] at hb
  rcases hFnew i B cs hi with h | ⟨v', N', h⟩
  ·exact rw.fsep i B cs r v N b h hm hb
  ·obtain ⟨b0, hb0, _, _, hbase⟩ := rw.dom _ _ _ _ h
   rw [hroot] at hb0
   cases hb0
   exact absurd (rw.sep _ _ _ _ _ _ _ h hm (hbase rfl)).symm hne'
 ·show (L.set r0 ⟨[], 0, false⟩).length ≤ roots
  rw [List.length_set]; exact Nat.le_of_ble_eq_true hl
 ·intro r v B N hm
  exact st.ext r v B N (hout hm).2
 ·intro i B cs hi
  rcases hFok.new i B cs hi with h | h
  ·exact st.fext i B cs h
  ·exact .inr h
theorem ok_if {R : Type} {X : Fx R} {p : Pt} {env : Env} {H : Hp} {b : Bool} {t1 t2 : Option R} (k1 : b = true → Ok X p env H t1) (k2 : b = false → Ok X p env H t2) : Ok X p env H (if b then t1 else t2) := by
 cases b with
 | true => exact k1 rfl
 | false => exact k2 rfl
theorem opsD_env {P : Program} {C : Cx} {all l : List Oper} {env eE e : Env} {H : Hp} {hs : List Hp} (h : env = eE) (k : OpsD P C all l eE H e hs) : OpsD P C all l env H e hs := h ▸ k
theorem ok_callM {R : Type} {X : Fx R} {p : Pt} {env : Env} {H : Hp} {α : Type} {m : Option α} {f : α → Option R} {fi : Nat} {args : List AV} (g : α → AV) (G : α → Hp) (p' : Pt) (E : α → Env) (hc : callAt X.fn.ntmps p env = some (fi, args)) (hf : ∀ x, m = some x → CallV X.P fi args H (g x) (G x)) (ha : ∀ x, advE X.fn.ntmps p env (g x) = some (p', E x)) (k : ∀ x, m = some x → Ok X p' (E x) (G x) (f x)) : Ok X p env H (m.bind f) := by
 refine ok_bind fun x hx => ?_
 have hpo := hf x hx
 have hax := ha x
 unfold advE at hax
 unfold callAt at hc
 cases ho : operAt X.fn.ntmps p env with
 | none => rw [ho] at hax; cases hax
 | some o =>
  rw [ho] at hax hc
  simp only [Option.some.injEq, Prod.mk.injEq] at hax hc
  obtain ⟨e1, e2⟩ := hax
  obtain ⟨ops, n, K, rfl, h1, h2, h3⟩ := operAt_spec ho
  have kx := k x hx
  rw [← e1, ← e2] at kx
  split at hc
  ·rename_i c hoc
   split at hc
   ·rename_i q hq
    split at hc
    ·rename_i fi' first caps hfv
     cases hc
     exact ok_stp h1 h2 h3 (.inr ⟨c, q, fi, first, caps, hoc, hq, hfv, hpo⟩) kx
    ·cases hc
   ·cases hc
  ·cases hc
end Go.Proofs.Ytbmijiibfaacmaa.Am
set_option linter.unusedVariables false
namespace Go.Proofs.Ytbmijiibfaacmaa.Am
open Go
def PT.allB {α : Type} (p : Nat → α → Bool) : PT α → (Nat → Nat) → Bool
 | .nil, _ => true
 | .node l b r, g => (match b with | some x => p (g 0) x | none => true) && l.allB p (fun n => g (2 * n + 1)) && r.allB p (fun n => g (2 * n + 2))
theorem PT.allB_get {α : Type} {p : Nat → α → Bool} : ∀ (t : PT α) (g : Nat → Nat), t.allB p g = true → ∀ (n : Nat) (x : α), t.get n = some x → p (g n) x = true
 | .nil, g, _, n, x, h => by cases h
 | .node l b r, g, hh, n, x, h => by
  simp only [PT.allB, Bool.and_eq_true] at hh
  obtain ⟨⟨h1, h2⟩, h3⟩ := hh
  rw [PT.get_node] at h
  by_cases h0 : n = 0
  ·rw [if_pos h0] at h
   subst h0
   subst h
   exact h1
  ·rw [if_neg h0] at h
   by_cases hm : n % 2 = 1
   ·rw [if_pos hm] at h
    have := PT.allB_get l _ h2 _ _ h
    rwa [show 2 * (n / 2) + 1 = n by omega] at this
   ·rw [if_neg hm] at h
    have := PT.allB_get r _ h3 _ _ h
    rwa [show 2 * (n / 2 - 1) + 2 = n by omega] at this
def beqZ : AV → AV → Bool
 | .top, .top => true
 | .int k n, .int k' n' => decide (k = k') && decide (n = n')
 | .bool a, .bool b => a == b
 | .str a, .str b => eqL a b
 | .nilp, .nilp => true
 | .nils, .nils => true
 | .nilf, .nilf => true
 | .nili, .nili => true
 | _, _ => false
theorem beqZ_eq {x y : AV} (h : beqZ x y = true) : x = y := by
 cases x <;> cases y <;> simp [beqZ, eqL_iff] at h ⊢ <;> exact h
def beqZs : List AV → List AV → Bool
 | [], [] => true
 | a :: x, b :: y => beqZ a b && beqZs x y
 | _, _ => false
theorem beqZs_eq : ∀ (x y : List AV), beqZs x y = true → x = y
 | [], [], _ => rfl
 | [], _ :: _, h => by simp [beqZs] at h
 | _ :: _, [], h => by simp [beqZs] at h
 | a :: x, b :: y, h => by
  simp only [beqZs, Bool.and_eq_true] at h
  rw [beqZ_eq h.1, beqZs_eq x y h.2]
def beqTi (i j : Ti) : Bool :=
 Nat.beq i.size j.size && Nat.beq i.bytes j.bytes && (match i.zero, j.zero with | some a, some b => beqZs a b | none, none => true | _, _ => false) && decide (i.kind = j.kind) && decide (i.fields = j.fields) && Nat.beq i.elem j.elem && Nat.beq i.len j.len && decide (i.flat = j.flat)
theorem beqTi_eq {i j : Ti} (h : beqTi i j = true) : i = j := by
 obtain ⟨a1, a2, a3, a4, a5, a6, a7, a8⟩ := i
 obtain ⟨b1, b2, b3, b4, b5, b6, b7, b8⟩ := j
 simp only [beqTi, Bool.and_eq_true, decide_eq_true_eq] at h
 obtain ⟨⟨⟨⟨⟨⟨⟨h1, h2⟩, h3⟩, h4⟩, h5⟩, h6⟩, h7⟩, h8⟩ := h
 have h1 := Nat.eq_of_beq_eq_true h1
 have h2 := Nat.eq_of_beq_eq_true h2
 have h6 := Nat.eq_of_beq_eq_true h6
 have h7 := Nat.eq_of_beq_eq_true h7
 have h3' : a3 = b3 := by
  cases a3 <;> cases b3 <;> simp only at h3 <;> first | rfl | cases h3 | exact congrArg some (beqZs_eq _ _ h3)
 subst h1 h2 h3' h4 h5 h6 h7 h8
 rfl
def tiOk (P : Program) (t : Nat) (i : Ti) : Bool := match mkTi P t with | some j => beqTi i j | none => false
theorem tiOk_eq {P : Program} {t : Nat} {i : Ti} (h : tiOk P t i = true) : mkTi P t = some i := by
 unfold tiOk at h
 split at h
 ·rename_i j hj
  rw [hj, beqTi_eq h]
 ·cases h
end Go.Proofs.Ytbmijiibfaacmaa.Am
set_option linter.unusedVariables false
set_option linter.unusedSimpArgs false
namespace Go.Proofs.Ytbmijiibfaacmaa.Am
open Go
def It (d : Nat) (s : ByteArray) (pos base : Nat) (m : Mp) (w : World) (a : Act) : Prop :=
 ∃ B, a.tmps[d]? = some (.pointer (some ⟨B, 0, none⟩)) ∧ w.heap[B]? = some (.stringIter s pos) ∧ base ≤ B ∧ ∀ r v N, m r v ≠ some (B, N)
section
variable {R : Type} (X : Fx R)
end
section
variable {R : Type} {X : Fx R} {p p' : Pt} {env eE : Env} {H H' : Hp} {d pos : Nat} {s : ByteArray}
def dneq (o : Oper) (d : Nat) : Bool := match o.dst with | some e => !Nat.beq e d | none => true
theorem It.put {base : Nat} {m : Mp} {w : World} {a : Act} {o : Oper} (c : Value) (hd : dneq o d = true) (it : It d s pos base m w a) : It d s pos base m w (a.put o.dst c) := by
 obtain ⟨B, h1, h2, h3, h4⟩ := it
 refine ⟨B, ?_, h2, h3, h4⟩
 unfold dneq at hd
 cases ho : o.dst with
 | none => exact h1
 | some e =>
  rw [ho] at hd
  simp only [Act.put]
  rw [Array.getElem?_setIfInBounds_ne]
  ·exact h1
  ·rintro rfl; simp at hd
theorem It.step {base b0 : Nat} {m m' : Mp} {w w' : World} {a : Act} (st : St m w b0 m' w') (it : It d s pos base m w a) : It d s pos base m' w' a := by
 obtain ⟨B, h1, h2, h3, h4⟩ := it
 have hlt : B < w.heap.size := (Array.getElem?_eq_some_iff.1 h2).1
 refine ⟨B, h1, by rw [st.same B hlt (fun r v N e => absurd e (h4 r v N))]; exact h2, h3, ?_⟩
 intro r v N e
 rcases st.ext r v B N e with ⟨v0, N0, e0⟩ | hB
 ·exact h4 r v0 N0 e0
 ·omega
end
end Go.Proofs.Ytbmijiibfaacmaa.Am
set_option maxRecDepth 100000
namespace Go.Proofs.Ytbmijiibfaacmaa.Am
noncomputable section
open Go
def tyT : PT Ti := (.node (.node (.node (.node (.node (.node (.node .nil (some ⟨1, 8, (some [.nilf]), .other, [], 0, 0, none⟩) .nil) (some ⟨1, 8, (some [.nilf]), .other, [], 0, 0, none⟩) (.node .nil (some ⟨1, 4, (some [.int .i32 0]), .int .i32, [], 0, 0, none⟩) .nil)) (some ⟨1, 8, (some [.nilp]), .pointer, [], 84, 0, none⟩) (.node (.node .nil (some ⟨1, 8, (some [.nilf]), .other, [], 0, 0, none⟩) .nil) (some ⟨3, 32, (some [.int .i64 0, .str [], .int .i64 0]), .struct, [(0, 3), (1, 9), (2, 3)], 0, 0, (some [(.int .i64), .string, (.int .i64)])⟩) .nil)) (some ⟨4, 24, (some [.int .i64 0, .int .i64 0, .bool false, .int .u8 0]), .struct, [(0, 2), (1, 3), (2, 4), (3, 6)], 0, 0, (some [(.int .i64), (.int .i64), .bool, (.int .u8)])⟩) (.node (.node (.node .nil (some ⟨1, 0, (some [.top]), .other, [], 0, 0, none⟩) .nil) (some ⟨1, 0, (some [.top]), .other, [], 0, 0, none⟩) .nil) (some ⟨1, 24, (some [.nils]), .slice, [], 9, 0, none⟩) (.node (.node .nil (some ⟨0, 0, (some []), .struct, [(0, 85)], 0, 0, none⟩) .nil) (some ⟨1, 8, (some [.nilf]), .other, [], 0, 0, none⟩) .nil))) (some ⟨1, 8, (some [.int .i64 0]), .int .i64, [], 0, 0, none⟩) (.node (.node (.node (.node .nil (some ⟨1, 8, (some [.nilf]), .other, [], 0, 0, none⟩) .nil) (some ⟨1, 8, (some [.nilf]), .other, [], 0, 0, none⟩) .nil) (some ⟨1, 8, (some [.nilp]), .struct, [(0, 17)], 0, 0, none⟩) (.node (.node .nil (some ⟨4, 40, (some [.nilp, .nilp, .nilp, .str []]), .struct, [(0, 17), (1, 17), (2, 17), (3, 9)], 0, 0, none⟩) .nil) (some ⟨1, 8, (some [.nilf]), .other, [], 0, 0, none⟩) .nil)) (some ⟨1, 16, (some [.str []]), .string, [], 0, 0, none⟩) (.node (.node (.node .nil (some ⟨1, 8, (some [.nilf]), .other, [], 0, 0, none⟩) .nil) (some ⟨1, 8, (some [.nilf]), .other, [], 0, 0, none⟩) .nil) (some ⟨1, 8, (some [.nilf]), .other, [], 0, 0, none⟩) (.node (.node .nil (some ⟨1, 1, (some [.int .u8 0]), .int .u8, [], 0, 0, none⟩) .nil) (some ⟨1, 8, (some [.int .u64 0]), .int .u64, [], 0, 0, none⟩) .nil)))) (some ⟨1, 8, (some [.nilf]), .other, [], 0, 0, none⟩) (.node (.node (.node (.node (.node .nil (some ⟨1, 8, (some [.nilf]), .other, [], 0, 0, none⟩) .nil) (some ⟨1, 8, (some [.nilf]), .other, [], 0, 0, none⟩) (.node .nil (some ⟨11, 48, (some [.int .u64 0, .int .u64 0, .int .u32 0, .int .u8 0, .int .u8 0, .int .u8 0, .int .u8 0, .nilf, .nilp, .int .i32 0, .int .i32 0]), .struct, [(0, 12), (1, 12), (2, 89), (3, 90), (4, 5), (5, 5), (6, 91), (7, 92), (8, 93), (9, 94), (10, 95)], 0, 0, none⟩) .nil)) (some ⟨1, 8, (some [.nilp]), .pointer, [], 97, 0, none⟩) (.node (.node .nil (some ⟨1, 8, (some [.nilf]), .other, [], 0, 0, none⟩) .nil) (some ⟨1, 8, (some [.nilf]), .other, [], 0, 0, none⟩) .nil)) (some ⟨1, 16, (some [.str []]), .string, [], 0, 0, none⟩) (.node (.node (.node .nil (some ⟨1, 8, (some [.nilf]), .other, [], 0, 0, none⟩) .nil) (some ⟨1, 24, (some [.nils]), .slice, [], 37, 0, none⟩) .nil) (some ⟨7, 104, (some [.int .i64 0, .str [], .nils, .bool false, .bool false, .nils, .nils]), .struct, [(0, 3), (1, 9), (2, 22), (3, 4), (4, 4), (5, 23), (6, 23)], 0, 0, (some [(.int .i64), .string, .slice, .bool, .bool, .slice, .slice])⟩) (.node (.node .nil (some ⟨1, 4, (some [.int .u32 0]), .int .u32, [], 0, 0, none⟩) .nil) (some ⟨1, 8, (some [.nilf]), .other, [], 0, 0, none⟩) .nil))) (some ⟨1, 1, (some [.int .u8 0]), .int .u8, [], 0, 0, none⟩) (.node (.node (.node (.node .nil (some ⟨9, 216, (some [.nils, .nils, .nils, .nils, .nils, .nils, .nils, .nils, .nils]), .array, [], 23, 9, (some (List.replicate 9 .slice))⟩) .nil) (some ⟨4, 24, (some [.int .i64 0, .int .i64 0, .bool false, .bool false]), .struct, [(0, 3), (1, 3), (2, 4), (3, 4)], 0, 0, (some [(.int .i64), (.int .i64), .bool, .bool])⟩) .nil) (some ⟨1, 4, (some [.int .i32 0]), .int .i32, [], 0, 0, none⟩) (.node (.node .nil (some ⟨0, 0, (some []), .array, [], 16, 0, (some (List.replicate 0 .pointer))⟩) .nil) (some ⟨1, 8, (some [.nilf]), .other, [], 0, 0, none⟩) .nil)) (some ⟨2, 24, (some [.str [], .int .u64 0]), .struct, [(0, 9), (1, 12)], 0, 0, none⟩) (.node (.node (.node .nil (some ⟨1, 8, (some [.nilf]), .other, [], 0, 0, none⟩) .nil) (some ⟨1, 8, (some [.nilf]), .other, [], 0, 0, none⟩) .nil) (some ⟨1, 8, (some [.nilf]), .other, [], 0, 0, none⟩) (.node (.node .nil (some ⟨1, 8, (some [.nilp]), .pointer, [], 5, 0, none⟩) .nil) (some ⟨1, 24, (some [.nils]), .slice, [], 23, 0, none⟩) .nil))))) (some ⟨1, 0, (some [.top]), .other, [], 0, 0, none⟩) (.node (.node (.node (.node (.node (.node .nil (some ⟨1, 0, (some [.top]), .other, [], 0, 0, none⟩) .nil) (some ⟨1, 8, (some [.int .u64 0]), .int .u64, [], 0, 0, none⟩) (.node .nil (some ⟨11, 48, (some [.int .u64 0, .int .u64 0, .int .u32 0, .int .u8 0, .int .u8 0, .int .u8 0, .int .u8 0, .nilf, .nilp, .int .i32 0, .int .i32 0]), .struct, [(0, 12), (1, 12), (2, 89), (3, 90), (4, 5), (5, 5), (6, 91), (7, 92), (8, 93), (9, 94), (10, 95)], 0, 0, none⟩) .nil)) (some ⟨1, 8, (some [.nilp]), .pointer, [], 87, 0, none⟩) (.node (.node .nil (some ⟨1, 8, (some [.nilf]), .other, [], 0, 0, none⟩) .nil) (some ⟨1, 8, (some [.nilf]), .other, [], 0, 0, none⟩) .nil)) (some ⟨4, 24, (some [.int .i64 0, .int .i64 0, .bool false, .int .u8 0]), .struct, [(0, 2), (1, 3), (2, 4), (3, 6)], 0, 0, (some [(.int .i64), (.int .i64), .bool, (.int .u8)])⟩) (.node (.node (.node .nil (some ⟨1, 8, (some [.nilf]), .other, [], 0, 0, none⟩) .nil) (some ⟨1, 8, (some [.nilf]), .other, [], 0, 0, none⟩) .nil) (some ⟨7, 104, (some [.int .i64 0, .str [], .nils, .bool false, .bool false, .nils, .nils]), .struct, [(0, 3), (1, 9), (2, 22), (3, 4), (4, 4), (5, 23), (6, 23)], 0, 0, (some [(.int .i64), .string, .slice, .bool, .bool, .slice, .slice])⟩) (.node (.node .nil (some ⟨1, 8, (some [.nilf]), .other, [], 0, 0, none⟩) .nil) (some ⟨1, 8, (some [.nilf]), .other, [], 0, 0, none⟩) .nil))) (some ⟨1, 1, (some [.bool false]), .bool, [], 0, 0, none⟩) (.node (.node (.node (.node .nil (some ⟨1, 8, (some [.nilf]), .other, [], 0, 0, none⟩) .nil) (some ⟨4, 24, (some [.int .i64 0, .int .i64 0, .bool false, .bool false]), .struct, [(0, 3), (1, 3), (2, 4), (3, 4)], 0, 0, (some [(.int .i64), (.int .i64), .bool, .bool])⟩) .nil) (some ⟨1, 16, (some [.nili]), .iface, [], 0, 0, none⟩) (.node (.node .nil (some ⟨4, 40, (some [.nilp, .nilp, .nilp, .str []]), .struct, [(0, 17), (1, 17), (2, 17), (3, 9)], 0, 0, none⟩) .nil) (some ⟨1, 8, (some [.nilf]), .other, [], 0, 0, none⟩) .nil)) (some ⟨1, 8, (some [.int .u64 0]), .int .u64, [], 0, 0, none⟩) (.node (.node (.node .nil (some ⟨1, 8, (some [.nilf]), .other, [], 0, 0, none⟩) .nil) (some ⟨1, 8, (some [.nilf]), .other, [], 0, 0, none⟩) .nil) (some ⟨1, 8, (some [.nilf]), .other, [], 0, 0, none⟩) (.node (.node .nil (some ⟨1, 8, (some [.nilf]), .other, [], 0, 0, none⟩) .nil) (some ⟨1, 8, (some [.nilf]), .other, [], 0, 0, none⟩) .nil)))) (some ⟨1, 8, (some [.int .i64 0]), .int .i64, [], 0, 0, none⟩) (.node (.node (.node (.node (.node .nil (some ⟨1, 8, (some [.nilf]), .other, [], 0, 0, none⟩) .nil) (some ⟨1, 8, (some [.nilf]), .other, [], 0, 0, none⟩) (.node .nil (some ⟨1, 8, (some [.nilp]), .other, [], 0, 0, none⟩) .nil)) (some ⟨1, 8, (some [.nilp]), .struct, [(0, 17)], 0, 0, none⟩) (.node (.node .nil (some ⟨1, 8, (some [.nilf]), .other, [], 0, 0, none⟩) .nil) (some ⟨1, 24, (some [.nils]), .slice, [], 4, 0, none⟩) .nil)) (some ⟨1, 16, (some [.str []]), .string, [], 0, 0, none⟩) (.node (.node (.node .nil (some ⟨1, 8, (some [.nilf]), .other, [], 0, 0, none⟩) .nil) (some ⟨1, 8, (some [.nilf]), .other, [], 0, 0, none⟩) .nil) (some ⟨1, 8, (some [.nilf]), .other, [], 0, 0, none⟩) (.node (.node .nil (some ⟨1, 1, (some [.int .u8 0]), .int .u8, [], 0, 0, none⟩) .nil) (some ⟨1, 8, (some [.nilf]), .other, [], 0, 0, none⟩) .nil))) (some ⟨1, 1, (some [.int .u8 0]), .int .u8, [], 0, 0, none⟩) (.node (.node (.node (.node .nil (some ⟨1, 8, (some [.nilf]), .other, [], 0, 0, none⟩) .nil) (some ⟨1, 24, (some [.nils]), .slice, [], 47, 0, none⟩) .nil) (some ⟨1, 24, (some [.nils]), .slice, [], 25, 0, none⟩) (.node (.node .nil (some ⟨0, 0, (some []), .struct, [(0, 85)], 0, 0, none⟩) .nil) (some ⟨1, 8, (some [.nilf]), .other, [], 0, 0, none⟩) .nil)) (some ⟨2, 24, (some [.str [], .int .u64 0]), .struct, [(0, 9), (1, 12)], 0, 0, none⟩) (.node (.node (.node .nil (some ⟨1, 8, (some [.nilf]), .other, [], 0, 0, none⟩) .nil) (some ⟨3, 32, (some [.int .i64 0, .str [], .int .i64 0]), .struct, [(0, 3), (1, 9), (2, 3)], 0, 0, (some [(.int .i64), .string, (.int .i64)])⟩) .nil) (some ⟨1, 8, (some [.nilf]), .other, [], 0, 0, none⟩) (.node (.node .nil (some ⟨1, 4, (some [.int .i32 0]), .int .i32, [], 0, 0, none⟩) .nil) (some ⟨1, 24, (some [.nils]), .slice, [], 3, 0, none⟩) .nil))))))
theorem tyOk : tyT.allB (tiOk Try.prog) id = true := by decide +kernel
def cx : Cx := ⟨tyT.get⟩
theorem cxTi : ∀ t i, cx.ti t = some i → mkTi Try.prog t = some i := fun t i h => tiOk_eq (PT.allB_get tyT id tyOk t i h)
theorem cxOrd : Try.prog.follows .mixedOrders = true := by decide +kernel
end
end Go.Proofs.Ytbmijiibfaacmaa.Am
set_option linter.unusedVariables false
namespace Go.Proofs.Ytbmijiibfaacmaa.Am
open Go
structure S46 where
 f0 : Int
 f1 : (List Nat)
 f2 : Int
def e2 (x : Int) : List AV := [.int .i64 x]
def v2 (x : Int) : AV := .int .i64 x
def e3 (x : Int) : List AV := [.int .i64 x]
theorem e3_len : ∀ x, (e3 x).length = 1 := fun _ => rfl
def e4 (x : Bool) : List AV := [.bool x]
def e5 (x : Int) : List AV := [.int .u8 x]
def e9 (x : (List Nat)) : List AV := [.str x]
theorem e9_len : ∀ x, (e9 x).length = 1 := fun _ => rfl
def e47 (x : S46) : List AV := [.int .i64 x.f0, .str x.f1, .int .i64 x.f2]
theorem e47_len : ∀ x, (e47 x).length = 3 := fun _ => rfl
theorem e47_pur : ∀ x, purs (e47 x) = true := fun _ => rfl
theorem e47_one : ∀ x, (e47 x).all one1 = true := fun _ => rfl
end Go.Proofs.Ytbmijiibfaacmaa.Am
set_option linter.unusedVariables false
namespace Go.Proofs.Ytbmijiibfaacmaa.Am
open Go
theorem bytes_lt (a : ByteArray) : ∀ b ∈ a.data.toList.map (·.toNat), b < 256 := by
 intro b hb
 obtain ⟨c, _, rfl⟩ := List.mem_map.1 hb
 exact UInt8.toNat_lt c
theorem fw64 (n : Int) (h1 : -9223372036854775808 ≤ n) (h2 : n ≤ 9223372036854775807) : fW .i64 n = n := by
 have h1 : lo .i64 ≤ n := h1
 have h2 : n ≤ hi .i64 := h2
 unfold fW
 rw [if_pos (by simp [h1, h2])]
end Go.Proofs.Ytbmijiibfaacmaa.Am
set_option linter.unusedVariables false
set_option linter.unusedSimpArgs false
namespace Go.Proofs.Ytbmijiibfaacmaa.Am
open Go
theorem dT {p : Prop} [Decidable p] (h : p) : decide p = true := decide_eq_true h
theorem dF {p : Prop} [Decidable p] (h : ¬ p) : decide p = false := decide_eq_false h
theorem fwI {n : Int} (h1 : -9223372036854775808 ≤ n) (h2 : n ≤ 9223372036854775807) : fW .i64 n = n := fw64 n h1 h2
theorem bS {α β : Type} {x : Option α} {a : α} {f : α → Option β} {r : Option β} (h : x = some a) (k : f a = r) : x.bind f = r := by rw [h]; exact k
theorem jS {α β : Type} {f : α → Option β} {g : (α → Option β) → Option β} {v : α} (h : ∀ j : α → Option β, g j = j v) : jn f g = f v := h f
theorem iT {α : Type} {c : Bool} {A B r : α} (h : c = true) (k : A = r) : (if c then A else B) = r := by rw [h]; exact k
theorem iF {α : Type} {c : Bool} {A B r : α} (h : c = false) (k : B = r) : (if c then A else B) = r := by rw [h]; exact k
theorem fw_s {n : Nat} (h : n < 300000000000000) : fW .i64 ((n : Int) + 1) = ((n + 1 : Nat) : Int) := by rw [fwI (by omega) (by omega)]; omega
abbrev By (s : List Nat) : Prop := ∀ b ∈ s, b < 256
theorem By.drop {s : List Nat} (h : By s) (n : Nat) : By (s.drop n) := fun b hb => h b (List.mem_of_mem_drop hb)
theorem By.take {s : List Nat} (h : By s) (n : Nat) : By (s.take n) := fun b hb => h b (List.mem_of_mem_take hb)
theorem By.tail {c : Nat} {r : List Nat} (h : By (c :: r)) : By r := fun b hb => h b (List.mem_cons_of_mem _ hb)
end Go.Proofs.Ytbmijiibfaacmaa.Am
set_option maxRecDepth 100000
set_option linter.unusedVariables false
namespace Go.Proofs.Ytbmijiibfaacmaa.Am
noncomputable section
open Go
def X71 : Fx Bool := ⟨Try.prog, cx, Try.f71, fun r => .bool r, 0, fun _ => H0, cxTi, cxOrd⟩
def g71p0 : Pt := nav [0] (bodyAt Try.f71)
def g71p1 : Pt := nav [0, 0, 0] g71p0
def g71 (k : Nat) (a0 : Int) : Option Bool :=
 if (decide (48 ≤ a0)) then (some (decide (a0 ≤ 57))) else (some false)
theorem g71_ok (k : Nat) (a0 : Int) (r : Bool) (h : g71 k a0 = some r) : PureOk Try.prog 71 [.int .u8 a0] (.bool r) := by
 refine pure_of X71 (fun _ => rfl) Try.func71 (by decide +kernel) (by kernel_rfl) (t := g71 k a0) ?_ h
 unfold g71
 refine oE (eE := [(0, .int .u8 a0)]) (by kernel_rfl) ?_
 let E1 : Env := [(5, .bool (decide (48 ≤ a0))), (4, .bool (decide (48 ≤ a0))), (3, .int .u8 a0), (2, .bool false), (0, .int .u8 a0)]
 refine oR 9 (p' := (atN 3 (ctl1 g71p1))) (eE := E1) (H' := (mkH [])) (by kernel_rfl) ?_
 refine oS 5 (b := decide (48 ≤ a0)) (by kernel_rfl) (fun hb => ?_) (fun hb => ?_)
 ·let E2 : Env := ((2, .bool (decide (a0 ≤ 57))) :: (8, .bool (decide (a0 ≤ 57))) :: (7, .bool (decide (a0 ≤ 57))) :: (6, .int .u8 a0) :: (5, .bool true) :: E1)
  refine oR 6 (p' := .fin) (eE := E2) (H' := (mkH [])) (by kernel_rfl) ?_
  exact oT (r := (decide (a0 ≤ 57))) (xs := [.bool (decide (a0 ≤ 57))]) (v := .bool (decide (a0 ≤ 57))) (by kernel_rfl) (by kernel_rfl) (by kernel_rfl) (.pures (by kernel_rfl)) (by kernel_rfl)
 ·let E3 : Env := ((2, .bool false) :: (8, .bool false) :: (7, .tuple []) :: (6, .tuple []) :: (5, .bool false) :: E1)
  refine oR 6 (p' := .fin) (eE := E3) (H' := (mkH [])) (by kernel_rfl) ?_
  exact oT (r := false) (xs := [.bool false]) (v := .bool false) (by kernel_rfl) (by kernel_rfl) (by kernel_rfl) (.pures (by kernel_rfl)) (by kernel_rfl)
end
end Go.Proofs.Ytbmijiibfaacmaa.Am
set_option maxRecDepth 100000
set_option linter.unusedVariables false
namespace Go.Proofs.Ytbmijiibfaacmaa.Am
noncomputable section
open Go
def X58 : Fx Int := ⟨Try.prog, cx, Try.f58, fun r => .int .i64 r, 0, fun _ => H0, cxTi, cxOrd⟩
def g58p0 : Pt := nav [0] (bodyAt Try.f58)
def g58p1 : Pt := nav [0, 0, 0, 0, 0] g58p0
def g58p2 : Pt := nav [0, 0] g58p1
def g58p4 : Pt := nav [2, 0] g58p2
def g58p6 : Pt := nav [0, 0] g58p4
def g58p8 : Pt := nav [2, 0] g58p6
def g58p9 : Pt := nav [0, 0] g58p8
def g58 (k : Nat) (a0 : Int) : Option Int :=
 jn (fun (z1 : Bool) => if z1 then (some (1 : Int)) else (jn (fun (z2 : Bool) => if z2 then (some (2 : Int)) else ((g71 k a0).bind fun x0_1 => if x0_1 then (some (3 : Int)) else (some (0 : Int)))) (fun j2 => if (decide (65 ≤ a0)) then (if (decide (a0 ≤ 90)) then (j2 true) else (j2 (decide (a0 = 95)))) else (j2 (decide (a0 = 95)))))) (fun j1 => if (decide (97 ≤ a0)) then (j1 (decide (a0 ≤ 122))) else (j1 false))
theorem g58_ok (k : Nat) (a0 : Int) (r : Int) (h : g58 k a0 = some r) : PureOk Try.prog 58 [.int .u8 a0] (.int .i64 r) := by
 refine pure_of X58 (fun _ => rfl) Try.func58 (by decide +kernel) (by kernel_rfl) (t := g58 k a0) ?_ h
 unfold g58
 refine oE (eE := [(0, .int .u8 a0)]) (by kernel_rfl) ?_
 let E1 : Env := [(6, .bool (decide (97 ≤ a0))), (5, .bool (decide (97 ≤ a0))), (4, .int .u8 a0), (2, .int .i64 0), (0, .int .u8 a0)]
 refine oR 11 (p' := (atN 3 (ctl1 g58p1))) (eE := E1) (H' := (mkH [])) (by kernel_rfl) ?_
 refine oJ (f := fun (z1 : Bool) => if z1 then (some (1 : Int)) else (jn (fun (z2 : Bool) => if z2 then (some (2 : Int)) else ((g71 k a0).bind fun x0_1 => if x0_1 then (some (3 : Int)) else (some (0 : Int)))) (fun j2 => if (decide (65 ≤ a0)) then (if (decide (a0 ≤ 90)) then (j2 true) else (j2 (decide (a0 = 95)))) else (j2 (decide (a0 = 95)))))) g58p2 (fun (z1 : Bool) => [(0, .int .u8 a0), (3, .bool z1)]) (fun (z1 : Bool) => (mkH [])) (fun z1 => ?_) (fun j1 hj1 => ?_)
 ·refine oS 3 (b := z1) (by kernel_rfl) (fun hb => ?_) (fun hb => ?_)
  ·refine oR 6 (p' := .fin) (eE := [(2, .int .i64 1), (3, .bool true), (0, .int .u8 a0), (3, .bool z1)]) (H' := (mkH [])) (by kernel_rfl) ?_
   exact oT (r := (1 : Int)) (xs := [.int .i64 1]) (v := .int .i64 1) (by kernel_rfl) (by kernel_rfl) (by kernel_rfl) (.pures (by kernel_rfl)) (by kernel_rfl)
  ·let E2 : Env := [(13, .bool (decide (65 ≤ a0))), (12, .bool (decide (65 ≤ a0))), (11, .int .u8 a0), (3, .bool false), (0, .int .u8 a0), (3, .bool z1)]
   refine oR 6 (p' := (atN 3 (ctl1 g58p4))) (eE := E2) (H' := (mkH [])) (by kernel_rfl) ?_
   refine oJ (f := fun (z2 : Bool) => if z2 then (some (2 : Int)) else ((g71 k a0).bind fun x0_1 => if x0_1 then (some (3 : Int)) else (some (0 : Int)))) g58p6 (fun (z2 : Bool) => [(0, .int .u8 a0), (10, .bool z2)]) (fun (z2 : Bool) => (mkH [])) (fun z2 => ?_) (fun j2 hj2 => ?_)
   ·refine oS 10 (b := z2) (by kernel_rfl) (fun hb => ?_) (fun hb => ?_)
    ·refine oR 6 (p' := .fin) (eE := [(2, .int .i64 2), (10, .bool true), (0, .int .u8 a0), (10, .bool z2)]) (H' := (mkH [])) (by kernel_rfl) ?_
     exact oT (r := (2 : Int)) (xs := [.int .i64 2]) (v := .int .i64 2) (by kernel_rfl) (by kernel_rfl) (by kernel_rfl) (.pures (by kernel_rfl)) (by kernel_rfl)
    ·refine oR 4 (p' := (atN 1 (ctl1 g58p8))) (eE := [(22, .int .u8 a0), (10, .bool false), (0, .int .u8 a0), (10, .bool z2)]) (H' := (mkH [])) (by kernel_rfl) ?_
     refine oC (fun (x0_1 : Bool) => .bool x0_1) (atN 2 (ctl1 g58p8)) (fun x0_1 => [(23, .bool x0_1), (22, .int .u8 a0), (10, .bool false), (0, .int .u8 a0), (10, .bool z2)]) (fi := 71) (args := [.int .u8 a0]) (by kernel_rfl) (by kernel_rfl) (fun _ => by kernel_rfl) (fun r h => g71_ok k a0 r h) (fun _ => by kernel_rfl) (fun x0_1 hx0_1 => ?_)
     let E3 : Env := [(21, .bool x0_1), (23, .bool x0_1), (22, .int .u8 a0), (10, .bool false), (0, .int .u8 a0), (10, .bool z2)]
     refine oR 2 (p' := g58p9) (eE := E3) (H' := (mkH [])) (by kernel_rfl) ?_
     refine oS 21 (b := x0_1) (by kernel_rfl) (fun hb => ?_) (fun hb => ?_)
     ·refine oR 6 (p' := .fin) (eE := ((2, .int .i64 3) :: (21, .bool true) :: E3)) (H' := (mkH [])) (by kernel_rfl) ?_
      exact oT (r := (3 : Int)) (xs := [.int .i64 3]) (v := .int .i64 3) (by kernel_rfl) (by kernel_rfl) (by kernel_rfl) (.pures (by kernel_rfl)) (by kernel_rfl)
     ·refine oR 7 (p' := .fin) (eE := ((2, .int .i64 0) :: (21, .bool false) :: E3)) (H' := (mkH [])) (by kernel_rfl) ?_
      exact oT (r := (0 : Int)) (xs := [.int .i64 0]) (v := .int .i64 0) (by kernel_rfl) (by kernel_rfl) (by kernel_rfl) (.pures (by kernel_rfl)) (by kernel_rfl)
   ·refine oS 13 (b := decide (65 ≤ a0)) (by kernel_rfl) (fun hb => ?_) (fun hb => ?_)
    ·let E4 : Env := ((17, .bool (decide (a0 ≤ 90))) :: (16, .bool (decide (a0 ≤ 90))) :: (15, .bool (decide (a0 ≤ 90))) :: (14, .int .u8 a0) :: (13, .bool true) :: E2)
     refine oR 4 (p' := (atN 7 (ctl1 g58p4))) (eE := E4) (H' := (mkH [])) (by kernel_rfl) ?_
     refine oS 17 (b := decide (a0 ≤ 90)) (by kernel_rfl) (fun hb => ?_) (fun hb => ?_)
     ·let E5 : Env := ((10, .bool true) :: (20, .bool true) :: (19, .tuple []) :: (18, .tuple []) :: (17, .bool true) :: E4)
      refine oR 5 (p' := g58p6) (eE := E5) (H' := (mkH [])) (by kernel_rfl) ?_
      refine oK [0, 10] (eE := [(0, .int .u8 a0), (10, .bool true)]) (by kernel_rfl) ?_
      exact hj2 true
     ·let E6 : Env := ((10, .bool (decide (a0 = 95))) :: (20, .bool (decide (a0 = 95))) :: (19, .bool (decide (a0 = 95))) :: (18, .int .u8 a0) :: (17, .bool false) :: E4)
      refine oR 5 (p' := g58p6) (eE := E6) (H' := (mkH [])) (by kernel_rfl) ?_
      refine oK [0, 10] (eE := [(0, .int .u8 a0), (10, .bool (decide (a0 = 95)))]) (by kernel_rfl) ?_
      exact hj2 (decide (a0 = 95))
    ·let E7 : Env := ((10, .bool (decide (a0 = 95))) :: (20, .bool (decide (a0 = 95))) :: (19, .bool (decide (a0 = 95))) :: (18, .int .u8 a0) :: (17, .bool false) :: (16, .bool false) :: (15, .tuple []) :: (14, .tuple []) :: (13, .bool false) :: E2)
     refine oR 9 (p' := g58p6) (eE := E7) (H' := (mkH [])) (by kernel_rfl) ?_
     refine oK [0, 10] (eE := [(0, .int .u8 a0), (10, .bool (decide (a0 = 95)))]) (by kernel_rfl) ?_
     exact hj2 (decide (a0 = 95))
 ·refine oS 6 (b := decide (97 ≤ a0)) (by kernel_rfl) (fun hb => ?_) (fun hb => ?_)
  ·let E8 : Env := ((3, .bool (decide (a0 ≤ 122))) :: (9, .bool (decide (a0 ≤ 122))) :: (8, .bool (decide (a0 ≤ 122))) :: (7, .int .u8 a0) :: (6, .bool true) :: E1)
   refine oR 5 (p' := g58p2) (eE := E8) (H' := (mkH [])) (by kernel_rfl) ?_
   refine oK [0, 3] (eE := [(0, .int .u8 a0), (3, .bool (decide (a0 ≤ 122)))]) (by kernel_rfl) ?_
   exact hj1 (decide (a0 ≤ 122))
  ·let E9 : Env := ((3, .bool false) :: (9, .bool false) :: (8, .tuple []) :: (7, .tuple []) :: (6, .bool false) :: E1)
   refine oR 5 (p' := g58p2) (eE := E9) (H' := (mkH [])) (by kernel_rfl) ?_
   refine oK [0, 3] (eE := [(0, .int .u8 a0), (3, .bool false)]) (by kernel_rfl) ?_
   exact hj1 false
end
end Go.Proofs.Ytbmijiibfaacmaa.Am
set_option maxRecDepth 100000
set_option linter.unusedVariables false
namespace Go.Proofs.Ytbmijiibfaacmaa.Am
noncomputable section
open Go
def X64 : Fx Bool := ⟨Try.prog, cx, Try.f64, fun r => .bool r, 0, fun _ => H0, cxTi, cxOrd⟩
def g64p0 : Pt := nav [0] (bodyAt Try.f64)
def g64p1 : Pt := nav [0, 0, 0] g64p0
def g64 (k : Nat) (a0 : Int) : Option Bool :=
 if (decide (97 ≤ a0)) then (if (decide (a0 ≤ 122)) then (some true) else (if (decide (65 ≤ a0)) then (some (decide (a0 ≤ 90))) else (some false))) else (if (decide (65 ≤ a0)) then (some (decide (a0 ≤ 90))) else (some false))
theorem g64_ok (k : Nat) (a0 : Int) (r : Bool) (h : g64 k a0 = some r) : PureOk Try.prog 64 [.int .u8 a0] (.bool r) := by
 refine pure_of X64 (fun _ => rfl) Try.func64 (by decide +kernel) (by kernel_rfl) (t := g64 k a0) ?_ h
 unfold g64
 refine oE (eE := [(0, .int .u8 a0)]) (by kernel_rfl) ?_
 let E1 : Env := [(5, .bool (decide (97 ≤ a0))), (4, .bool (decide (97 ≤ a0))), (3, .int .u8 a0), (2, .bool false), (0, .int .u8 a0)]
 refine oR 9 (p' := (atN 3 (ctl1 g64p1))) (eE := E1) (H' := (mkH [])) (by kernel_rfl) ?_
 refine oS 5 (b := decide (97 ≤ a0)) (by kernel_rfl) (fun hb => ?_) (fun hb => ?_)
 ·let E2 : Env := ((9, .bool (decide (a0 ≤ 122))) :: (8, .bool (decide (a0 ≤ 122))) :: (7, .bool (decide (a0 ≤ 122))) :: (6, .int .u8 a0) :: (5, .bool true) :: E1)
  refine oR 4 (p' := (atN 7 (ctl1 g64p1))) (eE := E2) (H' := (mkH [])) (by kernel_rfl) ?_
  refine oS 9 (b := decide (a0 ≤ 122)) (by kernel_rfl) (fun hb => ?_) (fun hb => ?_)
  ·let E3 : Env := ((2, .bool true) :: (16, .bool true) :: (15, .tuple []) :: (14, .tuple []) :: (13, .tuple []) :: (12, .tuple []) :: (11, .tuple []) :: (10, .tuple []) :: (9, .bool true) :: E2)
   refine oR 10 (p' := .fin) (eE := E3) (H' := (mkH [])) (by kernel_rfl) ?_
   exact oT (r := true) (xs := [.bool true]) (v := .bool true) (by kernel_rfl) (by kernel_rfl) (by kernel_rfl) (.pures (by kernel_rfl)) (by kernel_rfl)
  ·refine oR 3 (p' := (atN 10 (ctl1 g64p1))) (eE := ((12, .bool (decide (65 ≤ a0))) :: (11, .bool (decide (65 ≤ a0))) :: (10, .int .u8 a0) :: (9, .bool false) :: E2)) (H' := (mkH [])) (by kernel_rfl) ?_
   refine oS 12 (b := decide (65 ≤ a0)) (by kernel_rfl) (fun hb => ?_) (fun hb => ?_)
   ·let E4 : Env := ((2, .bool (decide (a0 ≤ 90))) :: (16, .bool (decide (a0 ≤ 90))) :: (15, .bool (decide (a0 ≤ 90))) :: (14, .bool (decide (a0 ≤ 90))) :: (13, .int .u8 a0) :: (12, .bool true) :: (12, .bool (decide (65 ≤ a0))) :: (11, .bool (decide (65 ≤ a0))) :: (10, .int .u8 a0) :: (9, .bool false) :: E2)
    refine oR 7 (p' := .fin) (eE := E4) (H' := (mkH [])) (by kernel_rfl) ?_
    exact oT (r := (decide (a0 ≤ 90))) (xs := [.bool (decide (a0 ≤ 90))]) (v := .bool (decide (a0 ≤ 90))) (by kernel_rfl) (by kernel_rfl) (by kernel_rfl) (.pures (by kernel_rfl)) (by kernel_rfl)
   ·let E5 : Env := ((2, .bool false) :: (16, .bool false) :: (15, .bool false) :: (14, .tuple []) :: (13, .tuple []) :: (12, .bool false) :: (12, .bool (decide (65 ≤ a0))) :: (11, .bool (decide (65 ≤ a0))) :: (10, .int .u8 a0) :: (9, .bool false) :: E2)
    refine oR 7 (p' := .fin) (eE := E5) (H' := (mkH [])) (by kernel_rfl) ?_
    exact oT (r := false) (xs := [.bool false]) (v := .bool false) (by kernel_rfl) (by kernel_rfl) (by kernel_rfl) (.pures (by kernel_rfl)) (by kernel_rfl)
 ·let E6 : Env := ((12, .bool (decide (65 ≤ a0))) :: (11, .bool (decide (65 ≤ a0))) :: (10, .int .u8 a0) :: (9, .bool false) :: (8, .bool false) :: (7, .tuple []) :: (6, .tuple []) :: (5, .bool false) :: E1)
  refine oR 7 (p' := (atN 10 (ctl1 g64p1))) (eE := E6) (H' := (mkH [])) (by kernel_rfl) ?_
  refine oS 12 (b := decide (65 ≤ a0)) (by kernel_rfl) (fun hb => ?_) (fun hb => ?_)
  ·let E7 : Env := ((2, .bool (decide (a0 ≤ 90))) :: (16, .bool (decide (a0 ≤ 90))) :: (15, .bool (decide (a0 ≤ 90))) :: (14, .bool (decide (a0 ≤ 90))) :: (13, .int .u8 a0) :: (12, .bool true) :: E6)
   refine oR 7 (p' := .fin) (eE := E7) (H' := (mkH [])) (by kernel_rfl) ?_
   exact oT (r := (decide (a0 ≤ 90))) (xs := [.bool (decide (a0 ≤ 90))]) (v := .bool (decide (a0 ≤ 90))) (by kernel_rfl) (by kernel_rfl) (by kernel_rfl) (.pures (by kernel_rfl)) (by kernel_rfl)
  ·let E8 : Env := ((2, .bool false) :: (16, .bool false) :: (15, .bool false) :: (14, .tuple []) :: (13, .tuple []) :: (12, .bool false) :: E6)
   refine oR 7 (p' := .fin) (eE := E8) (H' := (mkH [])) (by kernel_rfl) ?_
   exact oT (r := false) (xs := [.bool false]) (v := .bool false) (by kernel_rfl) (by kernel_rfl) (by kernel_rfl) (.pures (by kernel_rfl)) (by kernel_rfl)
end
end Go.Proofs.Ytbmijiibfaacmaa.Am
set_option maxRecDepth 100000
set_option linter.unusedVariables false
namespace Go.Proofs.Ytbmijiibfaacmaa.Am
noncomputable section
open Go
def X74 : Fx Bool := ⟨Try.prog, cx, Try.f74, fun r => .bool r, 0, fun _ => H0, cxTi, cxOrd⟩
def g74p0 : Pt := nav [0] (bodyAt Try.f74)
def g74p1 : Pt := nav [0, 0, 0] g74p0
def g74 (k : Nat) (a0 : Int) : Option Bool :=
 (g64 k a0).bind fun x0_1 => if x0_1 then (some true) else ((g71 k a0).bind fun x0_4 => if x0_4 then (some true) else (if (decide (a0 = 95)) then (some true) else (some (decide (a0 = 64)))))
theorem g74_ok (k : Nat) (a0 : Int) (r : Bool) (h : g74 k a0 = some r) : PureOk Try.prog 74 [.int .u8 a0] (.bool r) := by
 refine pure_of X74 (fun _ => rfl) Try.func74 (by decide +kernel) (by kernel_rfl) (t := g74 k a0) ?_ h
 unfold g74
 refine oE (eE := [(0, .int .u8 a0)]) (by kernel_rfl) ?_
 refine oR 7 (p' := (atN 1 (ctl1 g74p1))) (eE := [(3, .int .u8 a0), (2, .bool false), (0, .int .u8 a0)]) (H' := (mkH [])) (by kernel_rfl) ?_
 refine oC (fun (x0_1 : Bool) => .bool x0_1) (atN 2 (ctl1 g74p1)) (fun x0_1 => [(4, .bool x0_1), (3, .int .u8 a0), (2, .bool false), (0, .int .u8 a0)]) (fi := 64) (args := [.int .u8 a0]) (by kernel_rfl) (by kernel_rfl) (fun _ => by kernel_rfl) (fun r h => g64_ok k a0 r h) (fun _ => by kernel_rfl) (fun x0_1 hx0_1 => ?_)
 let E1 : Env := [(5, .bool x0_1), (4, .bool x0_1), (3, .int .u8 a0), (2, .bool false), (0, .int .u8 a0)]
 refine oR 1 (p' := (atN 3 (ctl1 g74p1))) (eE := E1) (H' := (mkH [])) (by kernel_rfl) ?_
 refine oS 5 (b := x0_1) (by kernel_rfl) (fun hb => ?_) (fun hb => ?_)
 ·let E2 : Env := ((2, .bool true) :: (16, .bool true) :: (15, .tuple []) :: (14, .tuple []) :: (13, .bool true) :: (12, .bool true) :: (11, .tuple []) :: (10, .tuple []) :: (9, .bool true) :: (8, .bool true) :: (7, .tuple []) :: (6, .tuple []) :: (5, .bool true) :: E1)
  refine oR 14 (p' := .fin) (eE := E2) (H' := (mkH [])) (by kernel_rfl) ?_
  exact oT (r := true) (xs := [.bool true]) (v := .bool true) (by kernel_rfl) (by kernel_rfl) (by kernel_rfl) (.pures (by kernel_rfl)) (by kernel_rfl)
 ·refine oR 1 (p' := (atN 4 (ctl1 g74p1))) (eE := ((6, .int .u8 a0) :: (5, .bool false) :: E1)) (H' := (mkH [])) (by kernel_rfl) ?_
  refine oC (fun (x0_4 : Bool) => .bool x0_4) (atN 5 (ctl1 g74p1)) (fun x0_4 => ((7, .bool x0_4) :: (6, .int .u8 a0) :: (5, .bool false) :: E1)) (fi := 71) (args := [.int .u8 a0]) (by kernel_rfl) (by kernel_rfl) (fun _ => by kernel_rfl) (fun r h => g71_ok k a0 r h) (fun _ => by kernel_rfl) (fun x0_4 hx0_4 => ?_)
  let E3 : Env := ((9, .bool x0_4) :: (8, .bool x0_4) :: (7, .bool x0_4) :: (6, .int .u8 a0) :: (5, .bool false) :: E1)
  refine oR 2 (p' := (atN 7 (ctl1 g74p1))) (eE := E3) (H' := (mkH [])) (by kernel_rfl) ?_
  refine oS 9 (b := x0_4) (by kernel_rfl) (fun hb => ?_) (fun hb => ?_)
  ·let E4 : Env := ((2, .bool true) :: (16, .bool true) :: (15, .tuple []) :: (14, .tuple []) :: (13, .bool true) :: (12, .bool true) :: (11, .tuple []) :: (10, .tuple []) :: (9, .bool true) :: E3)
   refine oR 10 (p' := .fin) (eE := E4) (H' := (mkH [])) (by kernel_rfl) ?_
   exact oT (r := true) (xs := [.bool true]) (v := .bool true) (by kernel_rfl) (by kernel_rfl) (by kernel_rfl) (.pures (by kernel_rfl)) (by kernel_rfl)
  ·let E5 : Env := ((13, .bool (decide (a0 = 95))) :: (12, .bool (decide (a0 = 95))) :: (11, .bool (decide (a0 = 95))) :: (10, .int .u8 a0) :: (9, .bool false) :: E3)
   refine oR 4 (p' := (atN 11 (ctl1 g74p1))) (eE := E5) (H' := (mkH [])) (by kernel_rfl) ?_
   refine oS 13 (b := decide (a0 = 95)) (by kernel_rfl) (fun hb => ?_) (fun hb => ?_)
   ·let E6 : Env := ((2, .bool true) :: (16, .bool true) :: (15, .tuple []) :: (14, .tuple []) :: (13, .bool true) :: E5)
    refine oR 6 (p' := .fin) (eE := E6) (H' := (mkH [])) (by kernel_rfl) ?_
    exact oT (r := true) (xs := [.bool true]) (v := .bool true) (by kernel_rfl) (by kernel_rfl) (by kernel_rfl) (.pures (by kernel_rfl)) (by kernel_rfl)
   ·let E7 : Env := ((2, .bool (decide (a0 = 64))) :: (16, .bool (decide (a0 = 64))) :: (15, .bool (decide (a0 = 64))) :: (14, .int .u8 a0) :: (13, .bool false) :: E5)
    refine oR 6 (p' := .fin) (eE := E7) (H' := (mkH [])) (by kernel_rfl) ?_
    exact oT (r := (decide (a0 = 64))) (xs := [.bool (decide (a0 = 64))]) (v := .bool (decide (a0 = 64))) (by kernel_rfl) (by kernel_rfl) (by kernel_rfl) (.pures (by kernel_rfl)) (by kernel_rfl)
end
end Go.Proofs.Ytbmijiibfaacmaa.Am
set_option maxRecDepth 100000
set_option linter.unusedVariables false
namespace Go.Proofs.Ytbmijiibfaacmaa.Am
noncomputable section
open Go
def X61 : Fx Bool := ⟨Try.prog, cx, Try.f61, fun r => .bool r, 0, fun _ => H0, cxTi, cxOrd⟩
def g61c0 : List Nat := [97, 102, 116, 101, 114]
def g61c1 : List Nat := [97, 110, 100, 97, 108, 115, 111]
def g61c2 : List Nat := [98, 101, 103, 105, 110]
def g61c3 : List Nat := [111, 114, 101, 108, 115, 101]
def g61c4 : List Nat := [114, 101, 99, 101, 105, 118, 101]
def g61c5 : List (List Nat) := [g61c0, ([97, 110, 100] : List Nat), g61c1, ([98, 97, 110, 100] : List Nat), g61c2, ([98, 110, 111, 116] : List Nat), ([98, 111, 114] : List Nat), ([98, 115, 108] : List Nat), ([98, 115, 114] : List Nat), ([98, 120, 111, 114] : List Nat), ([99, 97, 115, 101] : List Nat), ([99, 97, 116, 99, 104] : List Nat), ([100, 105, 118] : List Nat), ([101, 110, 100] : List Nat), ([102, 117, 110] : List Nat), ([105, 102] : List Nat), ([110, 111, 116] : List Nat), ([111, 102] : List Nat), ([111, 114] : List Nat), g61c3, g61c4, ([114, 101, 109] : List Nat), ([119, 104, 101, 110] : List Nat), ([120, 111, 114] : List Nat)]
def g61p0 : Pt := nav [0] (bodyAt Try.f61)
def g61p1 : Pt := nav [0, 0, 0] g61p0
def g61p2 : Pt := nav [0, 0, 0, 0] g61p1
def g61p3 : Pt := nav [0, 0, 0, 0] g61p2
def g61p4 : Pt := nav [0, 0, 0] g61p3
def g61p5 : Pt := nav [0, 0] g61p4
def g61p6 : Pt := nav [1, 0, 0, 0, 0] g61p5
def g61p8 : Pt := nav [0, 0] g61p6
def g61_l1 (k : Nat)  (a0 : (List Nat)) (n : Nat) : Int → Option Bool :=
 Nat.rec (motive := fun _ => Int → Option Bool) (fun _ => none) (fun _ ih => fun (y1_0 : Int) => if (decide (y1_0 < (g61c5.length : Int))) then ((nthL g61c5 y1_0).bind fun x0_2 => if (eqL x0_2 a0) then (some true) else (ih (fW .i64 (y1_0 + 1)))) else (some false)) n
theorem g61_l1_s (k : Nat)  (a0 : (List Nat)) (n : Nat) (y1_0 : Int) : g61_l1 k a0 (n + 1) y1_0 = (if (decide (y1_0 < (g61c5.length : Int))) then ((nthL g61c5 y1_0).bind fun x0_2 => if (eqL x0_2 a0) then (some true) else ((g61_l1 k a0 n) (fW .i64 (y1_0 + 1)))) else (some false)) := rfl
theorem g61_l1_ok (k : Nat)  (a0 : (List Nat))  : ∀ (n : Nat) (y1_0 : Int), Ok X61 g61p3 [(0, .str a0), (3, .vec (g61c5).length 1 ((g61c5).flatMap e9)), (4, .int .i64 y1_0)] (mkH []) (g61_l1 k a0 n y1_0)
 | 0, _ => ok_none
 | n + 1, y1_0 => by
  have ih := g61_l1_ok k a0 n
  rw [g61_l1_s]
  refine ok_ent (p' := nav [0] g61p3) (by kernel_rfl) ?_
  let E2 : Env := [(9, .bool (decide (y1_0 < (g61c5.length : Int)))), (8, .int .i64 (g61c5.length : Int)), (7, .vec (g61c5).length 1 ((g61c5).flatMap e9)), (6, .int .i64 y1_0), (0, .str a0), (3, .vec (g61c5).length 1 ((g61c5).flatMap e9)), (4, .int .i64 y1_0)]
  refine oR 8 (p' := g61p5) (eE := E2) (H' := (mkH [])) (by kernel_rfl) ?_
  refine oS 9 (b := decide (y1_0 < (g61c5.length : Int))) (by kernel_rfl) (fun hb => ?_) (fun hb => ?_)
  ·refine oR 8 (p' := (atN 2 (ctl1 g61p6))) (eE := ((13, .int .i64 y1_0) :: (12, .vec (g61c5).length 1 ((g61c5).flatMap e9)) :: (9, .bool true) :: E2)) (H' := (mkH [])) (by kernel_rfl) ?_
   refine oH (fun (x0_2 : (List Nat)) => (.vptr [.str x0_2], (mkH []))) (atN 3 (ctl1 g61p6)) (fun x0_2 => ((14, .vptr [.str x0_2]) :: (13, .int .i64 y1_0) :: (12, .vec (g61c5).length 1 ((g61c5).flatMap e9)) :: (9, .bool true) :: E2)) (vidxH (sz := 1) e9_len (by kernel_rfl)) (fun _ => by kernel_rfl) (fun x0_2 hx0_2 => ?_)
   let E3 : Env := ((17, .bool (eqL x0_2 a0)) :: (16, .str a0) :: (15, .str x0_2) :: (14, .vptr [.str x0_2]) :: (13, .int .i64 y1_0) :: (12, .vec (g61c5).length 1 ((g61c5).flatMap e9)) :: (9, .bool true) :: E2)
   refine oR 4 (p' := g61p8) (eE := E3) (H' := (mkH [])) (by kernel_rfl) ?_
   refine oK [0, 3, 4, 17] (eE := [(0, .str a0), (3, .vec (g61c5).length 1 ((g61c5).flatMap e9)), (4, .int .i64 y1_0), (17, .bool (eqL x0_2 a0))]) (by kernel_rfl) ?_
   refine oS 17 (b := eqL x0_2 a0) (by kernel_rfl) (fun hb => ?_) (fun hb => ?_)
   ·let E4 : Env := [(2, .bool true), (17, .bool true), (0, .str a0), (3, .vec (g61c5).length 1 ((g61c5).flatMap e9)), (4, .int .i64 y1_0), (17, .bool (eqL x0_2 a0))]
    refine oR 6 (p' := .fin) (eE := E4) (H' := (mkH [])) (by kernel_rfl) ?_
    exact oT (r := true) (xs := [.bool true]) (v := .bool true) (by kernel_rfl) (by kernel_rfl) (by kernel_rfl) (.pures (by kernel_rfl)) (by kernel_rfl)
   ·let E5 : Env := [(4, .int .i64 (fW .i64 (y1_0 + 1))), (11, .int .i64 (fW .i64 (y1_0 + 1))), (10, .int .i64 y1_0), (17, .bool false), (0, .str a0), (3, .vec (g61c5).length 1 ((g61c5).flatMap e9)), (4, .int .i64 y1_0), (17, .bool (eqL x0_2 a0))]
    refine oR 7 (p' := g61p3) (eE := E5) (H' := (mkH [])) (by kernel_rfl) ?_
    refine oK [0, 3, 4] (eE := [(0, .str a0), (3, .vec (g61c5).length 1 ((g61c5).flatMap e9)), (4, .int .i64 (fW .i64 (y1_0 + 1)))]) (by kernel_rfl) ?_
    exact ih (fW .i64 (y1_0 + 1))
  ·refine oR 7 (p' := .fin) (eE := ((2, .bool false) :: (9, .bool false) :: E2)) (H' := (mkH [])) (by kernel_rfl) ?_
   exact oT (r := false) (xs := [.bool false]) (v := .bool false) (by kernel_rfl) (by kernel_rfl) (by kernel_rfl) (.pures (by kernel_rfl)) (by kernel_rfl)
def g61 (k : Nat) (a0 : (List Nat)) : Option Bool :=
 g61_l1 k a0 k 0
theorem g61_ok (k : Nat) (a0 : (List Nat)) (r : Bool) (h : g61 k a0 = some r) : PureOk Try.prog 61 [.str a0] (.bool r) := by
 refine pure_of X61 (fun _ => rfl) Try.func61 (by decide +kernel) (by kernel_rfl) (t := g61 k a0) ?_ h
 unfold g61
 refine oE (eE := [(0, .str a0)]) (by kernel_rfl) ?_
 refine oR 7 (p' := (atN 1 (ctl1 g61p1))) (eE := [(5, .slice 0 24 0 24 1), (2, .bool false), (0, .str a0)]) (H' := (mkH [⟨[.str g61c0, .str [97, 110, 100], .str g61c1, .str [98, 97, 110, 100], .str g61c2, .str [98, 110, 111, 116], .str [98, 111, 114], .str [98, 115, 108], .str [98, 115, 114], .str [98, 120, 111, 114], .str [99, 97, 115, 101], .str [99, 97, 116, 99, 104], .str [100, 105, 118], .str [101, 110, 100], .str [102, 117, 110], .str [105, 102], .str [110, 111, 116], .str [111, 102], .str [111, 114], .str g61c3, .str g61c4, .str [114, 101, 109], .str [119, 104, 101, 110], .str [120, 111, 114]], 0, false⟩])) (by kernel_rfl) ?_
 refine ok_frz [⟨[.str g61c0, .str [97, 110, 100], .str g61c1, .str [98, 97, 110, 100], .str g61c2, .str [98, 110, 111, 116], .str [98, 111, 114], .str [98, 115, 108], .str [98, 115, 114], .str [98, 120, 111, 114], .str [99, 97, 115, 101], .str [99, 97, 116, 99, 104], .str [100, 105, 118], .str [101, 110, 100], .str [102, 117, 110], .str [105, 102], .str [110, 111, 116], .str [111, 102], .str [111, 114], .str g61c3, .str g61c4, .str [114, 101, 109], .str [119, 104, 101, 110], .str [120, 111, 114]], 0, false⟩] 5 0 24 1 0 [.str g61c0, .str [97, 110, 100], .str g61c1, .str [98, 97, 110, 100], .str g61c2, .str [98, 110, 111, 116], .str [98, 111, 114], .str [98, 115, 108], .str [98, 115, 114], .str [98, 120, 111, 114], .str [99, 97, 115, 101], .str [99, 97, 116, 99, 104], .str [100, 105, 118], .str [101, 110, 100], .str [102, 117, 110], .str [105, 102], .str [110, 111, 116], .str [111, 102], .str [111, 114], .str g61c3, .str g61c4, .str [114, 101, 109], .str [119, 104, 101, 110], .str [120, 111, 114]] [0, 2] (env0 := [(0, .str a0), (2, .bool false)]) (by kernel_rfl) rfl (.inl (by kernel_rfl)) rfl rfl (by decide) (by kernel_rfl) (by kernel_rfl) (by kernel_rfl) ⟨.inl rfl, trivial⟩ ?_
 refine oE (eE := [(5, .vec (g61c5).length 1 ((g61c5).flatMap e9)), (0, .str a0), (2, .bool false)]) (by kernel_rfl) ?_
 refine ok_heap (H' := (mkH [⟨[], 0, false⟩])) (by kernel_rfl) ?_
 let E1 : Env := [(4, .int .i64 0), (3, .vec (g61c5).length 1 ((g61c5).flatMap e9)), (5, .vec (g61c5).length 1 ((g61c5).flatMap e9)), (0, .str a0), (2, .bool false)]
 refine oR 9 (p' := g61p3) (eE := E1) (H' := (mkH [⟨[], 0, false⟩])) (by kernel_rfl) ?_
 refine oK [0, 3, 4] (eE := [(0, .str a0), (3, .vec (g61c5).length 1 ((g61c5).flatMap e9)), (4, .int .i64 0)]) (by kernel_rfl) ?_
 refine ok_cut [] [⟨[], 0, false⟩] (by kernel_rfl) rfl (by kernel_rfl) trivial ?_
 exact (g61_l1_ok k a0 k) 0
end
end Go.Proofs.Ytbmijiibfaacmaa.Am
set_option maxRecDepth 100000
set_option linter.unusedVariables false
namespace Go.Proofs.Ytbmijiibfaacmaa.Am
noncomputable section
open Go
def X65 : Fx Int := ⟨Try.prog, cx, Try.f65, fun r => .int .i64 r, 0, fun _ => H0, cxTi, cxOrd⟩
def g65c0 : List (List Nat) := [([61, 58, 61] : List Nat), ([61, 47, 61] : List Nat), ([60, 60] : List Nat), ([62, 62] : List Nat), ([45, 62] : List Nat), ([60, 45] : List Nat), ([60, 61] : List Nat), ([61, 62] : List Nat), ([58, 61] : List Nat), ([58, 58] : List Nat), ([61, 61] : List Nat), ([47, 61] : List Nat), ([61, 60] : List Nat), ([62, 61] : List Nat), ([124, 124] : List Nat), ([43, 43] : List Nat), ([45, 45] : List Nat), ([40] : List Nat), ([41] : List Nat), ([123] : List Nat), ([125] : List Nat), ([91] : List Nat), ([93] : List Nat), ([44] : List Nat), ([59] : List Nat), ([58] : List Nat), ([61] : List Nat), ([124] : List Nat), ([33] : List Nat), ([35] : List Nat), ([43] : List Nat), ([45] : List Nat), ([42] : List Nat), ([47] : List Nat), ([60] : List Nat), ([62] : List Nat), ([46] : List Nat)]
def g65p0 : Pt := nav [0] (bodyAt Try.f65)
def g65p1 : Pt := nav [0, 0, 0] g65p0
def g65p2 : Pt := nav [0, 0, 0, 0] g65p1
def g65p3 : Pt := nav [0, 0] g65p2
def g65p5 : Pt := nav [2, 0, 0, 0] g65p3
def g65p7 : Pt := nav [0, 0, 0, 0] g65p5
def g65p8 : Pt := nav [0, 0, 0] g65p7
def g65p9 : Pt := nav [0, 0] g65p8
def g65p10 : Pt := nav [1, 0, 0, 0, 0] g65p9
def g65p12 : Pt := nav [0, 0, 0] g65p10
def g65p13 : Pt := nav [0] g65p12
def g65_l3 (k : Nat)  (a0 : (List Nat)) (a1 : Int) (n : Nat) : Int → Option Int :=
 Nat.rec (motive := fun _ => Int → Option Int) (fun _ => none) (fun _ ih => fun (y3_0 : Int) => if (decide (y3_0 < (g65c0.length : Int))) then ((nthL g65c0 y3_0).bind fun x0_2 => jn (fun (z4 : Bool × Int) => if z4.1 then (some (x0_2.length : Int)) else (ih (fW .i64 (z4.2 + 1)))) (fun j4 => if (decide ((x0_2.length : Int) ≤ fW .i64 ((a0.length : Int) - a1))) then ((subL a0 (some a1) (some (fW .i64 (a1 + (x0_2.length : Int))))).bind fun x1_12 => (nthL g65c0 y3_0).bind fun x1_15 => j4 (eqL x1_12 x1_15, y3_0)) else (j4 (false, y3_0)))) else (some (0 : Int))) n
theorem g65_l3_s (k : Nat)  (a0 : (List Nat)) (a1 : Int) (n : Nat) (y3_0 : Int) : g65_l3 k a0 a1 (n + 1) y3_0 = (if (decide (y3_0 < (g65c0.length : Int))) then ((nthL g65c0 y3_0).bind fun x0_2 => jn (fun (z4 : Bool × Int) => if z4.1 then (some (x0_2.length : Int)) else ((g65_l3 k a0 a1 n) (fW .i64 (z4.2 + 1)))) (fun j4 => if (decide ((x0_2.length : Int) ≤ fW .i64 ((a0.length : Int) - a1))) then ((subL a0 (some a1) (some (fW .i64 (a1 + (x0_2.length : Int))))).bind fun x1_12 => (nthL g65c0 y3_0).bind fun x1_15 => j4 (eqL x1_12 x1_15, y3_0)) else (j4 (false, y3_0)))) else (some (0 : Int))) := rfl
theorem g65_l3_ok (k : Nat)  (a0 : (List Nat)) (a1 : Int)  : ∀ (n : Nat) (y3_0 : Int), Ok X65 g65p7 [(0, .str a0), (1, .int .i64 a1), (5, .vec (g65c0).length 1 ((g65c0).flatMap e9)), (6, .int .i64 y3_0)] (mkH []) (g65_l3 k a0 a1 n y3_0)
 | 0, _ => ok_none
 | n + 1, y3_0 => by
  have ih := g65_l3_ok k a0 a1 n
  rw [g65_l3_s]
  refine ok_ent (p' := nav [0] g65p7) (by kernel_rfl) ?_
  let E4 : Env := [(20, .bool (decide (y3_0 < (g65c0.length : Int)))), (19, .int .i64 (g65c0.length : Int)), (18, .vec (g65c0).length 1 ((g65c0).flatMap e9)), (17, .int .i64 y3_0), (0, .str a0), (1, .int .i64 a1), (5, .vec (g65c0).length 1 ((g65c0).flatMap e9)), (6, .int .i64 y3_0)]
  refine oR 8 (p' := g65p9) (eE := E4) (H' := (mkH [])) (by kernel_rfl) ?_
  refine oS 20 (b := decide (y3_0 < (g65c0.length : Int))) (by kernel_rfl) (fun hb => ?_) (fun hb => ?_)
  ·refine oR 8 (p' := (atN 2 (ctl1 g65p10))) (eE := ((24, .int .i64 y3_0) :: (23, .vec (g65c0).length 1 ((g65c0).flatMap e9)) :: (20, .bool true) :: E4)) (H' := (mkH [])) (by kernel_rfl) ?_
   refine oH (fun (x0_2 : (List Nat)) => (.vptr [.str x0_2], (mkH []))) (atN 3 (ctl1 g65p10)) (fun x0_2 => ((25, .vptr [.str x0_2]) :: (24, .int .i64 y3_0) :: (23, .vec (g65c0).length 1 ((g65c0).flatMap e9)) :: (20, .bool true) :: E4)) (vidxH (sz := 1) e9_len (by kernel_rfl)) (fun _ => by kernel_rfl) (fun x0_2 hx0_2 => ?_)
   let E5 : Env := ((7, .int .i64 (x0_2.length : Int)) :: (27, .int .i64 (x0_2.length : Int)) :: (26, .str x0_2) :: (25, .vptr [.str x0_2]) :: (24, .int .i64 y3_0) :: (23, .vec (g65c0).length 1 ((g65c0).flatMap e9)) :: (20, .bool true) :: E4)
   refine oR 5 (p' := g65p12) (eE := E5) (H' := (mkH [])) (by kernel_rfl) ?_
   refine oK [0, 1, 5, 6, 7] (eE := [(0, .str a0), (1, .int .i64 a1), (5, .vec (g65c0).length 1 ((g65c0).flatMap e9)), (6, .int .i64 y3_0), (7, .int .i64 (x0_2.length : Int))]) (by kernel_rfl) ?_
   refine oJ (f := fun (z4 : Bool × Int) => if z4.1 then (some (x0_2.length : Int)) else ((g65_l3 k a0 a1 n) (fW .i64 (z4.2 + 1)))) g65p13 (fun (z4 : Bool × Int) => [(0, .str a0), (1, .int .i64 a1), (5, .vec (g65c0).length 1 ((g65c0).flatMap e9)), (6, .int .i64 z4.2), (7, .int .i64 (x0_2.length : Int)), (46, .bool z4.1)]) (fun (z4 : Bool × Int) => (mkH [])) (fun z4 => ?_) (fun j4 hj4 => ?_)
   ·refine oS 46 (b := z4.1) (by kernel_rfl) (fun hb => ?_) (fun hb => ?_)
    ·let E6 : Env := [(4, .int .i64 (x0_2.length : Int)), (47, .int .i64 (x0_2.length : Int)), (46, .bool true), (0, .str a0), (1, .int .i64 a1), (5, .vec (g65c0).length 1 ((g65c0).flatMap e9)), (6, .int .i64 z4.2), (7, .int .i64 (x0_2.length : Int)), (46, .bool z4.1)]
     refine oR 7 (p' := .fin) (eE := E6) (H' := (mkH [])) (by kernel_rfl) ?_
     exact oT (r := (x0_2.length : Int)) (xs := [.int .i64 (x0_2.length : Int)]) (v := .int .i64 (x0_2.length : Int)) (by kernel_rfl) (by kernel_rfl) (by kernel_rfl) (.pures (by kernel_rfl)) (by kernel_rfl)
    ·let E7 : Env := [(6, .int .i64 (fW .i64 (z4.2 + 1))), (22, .int .i64 (fW .i64 (z4.2 + 1))), (21, .int .i64 z4.2), (46, .bool false), (0, .str a0), (1, .int .i64 a1), (5, .vec (g65c0).length 1 ((g65c0).flatMap e9)), (6, .int .i64 z4.2), (7, .int .i64 (x0_2.length : Int)), (46, .bool z4.1)]
     refine oR 7 (p' := g65p7) (eE := E7) (H' := (mkH [])) (by kernel_rfl) ?_
     refine oK [0, 1, 5, 6] (eE := [(0, .str a0), (1, .int .i64 a1), (5, .vec (g65c0).length 1 ((g65c0).flatMap e9)), (6, .int .i64 (fW .i64 (z4.2 + 1)))]) (by kernel_rfl) ?_
     exact ih (fW .i64 (z4.2 + 1))
   ·refine ok_if (fun hb6 => ?_) (fun hb6 => ?_)
    ·refine ok_bind (fun x1_12 hx1_12 => ?_)
     refine ok_bind (fun x1_15 hx1_15 => ?_)
     let E8 : Env := [(34, .bool (decide ((x0_2.length : Int) ≤ fW .i64 ((a0.length : Int) - a1)))), (33, .bool (decide ((x0_2.length : Int) ≤ fW .i64 ((a0.length : Int) - a1)))), (32, .int .i64 (x0_2.length : Int)), (31, .int .i64 (fW .i64 ((a0.length : Int) - a1))), (30, .int .i64 a1), (29, .int .i64 (a0.length : Int)), (28, .str a0), (0, .str a0), (1, .int .i64 a1), (5, .vec (g65c0).length 1 ((g65c0).flatMap e9)), (6, .int .i64 y3_0), (7, .int .i64 (x0_2.length : Int))]
     let E9 : Env := [(39, .int .i64 (fW .i64 (a1 + (x0_2.length : Int)))), (38, .int .i64 (x0_2.length : Int)), (37, .int .i64 a1), (36, .int .i64 a1), (35, .str a0), (34, .bool true), (33, .bool true), (32, .int .i64 (x0_2.length : Int)), (31, .int .i64 (fW .i64 ((a0.length : Int) - a1))), (30, .int .i64 a1), (29, .int .i64 (a0.length : Int)), (28, .str a0), (0, .str a0), (1, .int .i64 a1), (5, .vec (g65c0).length 1 ((g65c0).flatMap e9)), (6, .int .i64 y3_0), (7, .int .i64 (x0_2.length : Int))]
     let E10 : Env := ((46, .bool (eqL x1_12 x1_15)) :: (45, .bool (eqL x1_12 x1_15)) :: (44, .str x1_15) :: (43, .vptr [.str x1_15]) :: (42, .int .i64 y3_0) :: (41, .vec (g65c0).length 1 ((g65c0).flatMap e9)) :: (40, .str x1_12) :: E9)
     refine ok_draw (p' := nav [0] g65p12) (eE := E10) (H' := (mkH [])) (hs := []) [(0, 0, 0), (1, 0, 0), (0, 0, 0), (7, 0, 0), (0, 0, 0), (31, 0, 0), (63, 0, 0), (127, 0, 0), (127, 0, 0), (127, 0, 0), (127, 0, 0), (1663, 0, 0), (4095, 0, 0), (127, 0, 0), (127, 0, 0), (24703, 0, 0), (57471, 0, 0), (131071, 0, 0), (262143, 0, 0)] (by kernel_rfl) (by kernel_rfl) (by kernel_rfl) (opsD_run 7 (l' := (opsAt g65p12).toList.drop 7) (eE := E8) (H' := (mkH [])) (hs := []) (by kernel_rfl) (opsD_env (eE := [(34, .bool true), (33, .bool true), (32, .int .i64 (x0_2.length : Int)), (31, .int .i64 (fW .i64 ((a0.length : Int) - a1))), (30, .int .i64 a1), (29, .int .i64 (a0.length : Int)), (28, .str a0), (0, .str a0), (1, .int .i64 a1), (5, .vec (g65c0).length 1 ((g65c0).flatMap e9)), (6, .int .i64 y3_0), (7, .int .i64 (x0_2.length : Int))]) (congrArg (fun z : Bool => ([(34, .bool z), (33, .bool z), (32, .int .i64 (x0_2.length : Int)), (31, .int .i64 (fW .i64 ((a0.length : Int) - a1))), (30, .int .i64 a1), (29, .int .i64 (a0.length : Int)), (28, .str a0), (0, .str a0), (1, .int .i64 a1), (5, .vec (g65c0).length 1 ((g65c0).flatMap e9)), (6, .int .i64 y3_0), (7, .int .i64 (x0_2.length : Int))] : Env)) hb6) (opsD_run 5 (l' := (opsAt g65p12).toList.drop 12) (eE := E9) (H' := (mkH [])) (hs := []) (by kernel_rfl) (opsD_chk (l' := (opsAt g65p12).toList.drop 13) (eE := ((40, .str x1_12) :: E9)) (hs := []) (x := x1_12) (fun (x1_12 : (List Nat)) => (.str x1_12, (mkH []))) (subH (some a1) (some (fW .i64 (a1 + (x0_2.length : Int)))) (by kernel_rfl)) hx1_12 (by kernel_rfl) (opsD_run 2 (l' := (opsAt g65p12).toList.drop 15) (eE := ((42, .int .i64 y3_0) :: (41, .vec (g65c0).length 1 ((g65c0).flatMap e9)) :: (40, .str x1_12) :: E9)) (H' := (mkH [])) (hs := []) (by kernel_rfl) (opsD_chk (l' := (opsAt g65p12).toList.drop 16) (eE := ((43, .vptr [.str x1_15]) :: (42, .int .i64 y3_0) :: (41, .vec (g65c0).length 1 ((g65c0).flatMap e9)) :: (40, .str x1_12) :: E9)) (hs := []) (x := x1_15) (fun (x1_15 : (List Nat)) => (.vptr [.str x1_15], (mkH []))) (vidxH (sz := 1) e9_len (by kernel_rfl)) hx1_15 (by kernel_rfl) (opsD_run 3 (l' := (opsAt g65p12).toList.drop 19) (eE := E10) (H' := (mkH [])) (hs := []) (by kernel_rfl) (.nil)))))))) (by kernel_rfl) (by kernel_rfl) (by kernel_rfl) ?_
     refine oK [0, 1, 5, 6, 7, 46] (eE := [(0, .str a0), (1, .int .i64 a1), (5, .vec (g65c0).length 1 ((g65c0).flatMap e9)), (6, .int .i64 y3_0), (7, .int .i64 (x0_2.length : Int)), (46, .bool (eqL x1_12 x1_15))]) (by kernel_rfl) ?_
     exact hj4 (eqL x1_12 x1_15, y3_0)
    ·let E8 : Env := [(34, .bool (decide ((x0_2.length : Int) ≤ fW .i64 ((a0.length : Int) - a1)))), (33, .bool (decide ((x0_2.length : Int) ≤ fW .i64 ((a0.length : Int) - a1)))), (32, .int .i64 (x0_2.length : Int)), (31, .int .i64 (fW .i64 ((a0.length : Int) - a1))), (30, .int .i64 a1), (29, .int .i64 (a0.length : Int)), (28, .str a0), (0, .str a0), (1, .int .i64 a1), (5, .vec (g65c0).length 1 ((g65c0).flatMap e9)), (6, .int .i64 y3_0), (7, .int .i64 (x0_2.length : Int))]
     let E11 : Env := [(46, .bool false), (45, .tuple []), (44, .tuple []), (43, .tuple []), (42, .tuple []), (41, .tuple []), (40, .tuple []), (39, .tuple []), (38, .tuple []), (37, .tuple []), (36, .tuple []), (35, .tuple []), (34, .bool false), (33, .bool false), (32, .int .i64 (x0_2.length : Int)), (31, .int .i64 (fW .i64 ((a0.length : Int) - a1))), (30, .int .i64 a1), (29, .int .i64 (a0.length : Int)), (28, .str a0), (0, .str a0), (1, .int .i64 a1), (5, .vec (g65c0).length 1 ((g65c0).flatMap e9)), (6, .int .i64 y3_0), (7, .int .i64 (x0_2.length : Int))]
     refine ok_draw (p' := nav [0] g65p12) (eE := E11) (H' := (mkH [])) (hs := []) [(0, 0, 0), (1, 0, 0), (0, 0, 0), (7, 0, 0), (0, 0, 0), (31, 0, 0), (63, 0, 0), (127, 0, 0), (127, 0, 0), (127, 0, 0), (127, 0, 0), (1663, 0, 0), (4095, 0, 0), (127, 0, 0), (127, 0, 0), (24703, 0, 0), (57471, 0, 0), (131071, 0, 0), (262143, 0, 0)] (by kernel_rfl) (by kernel_rfl) (by kernel_rfl) (opsD_run 7 (l' := (opsAt g65p12).toList.drop 7) (eE := E8) (H' := (mkH [])) (hs := []) (by kernel_rfl) (opsD_env (eE := [(34, .bool false), (33, .bool false), (32, .int .i64 (x0_2.length : Int)), (31, .int .i64 (fW .i64 ((a0.length : Int) - a1))), (30, .int .i64 a1), (29, .int .i64 (a0.length : Int)), (28, .str a0), (0, .str a0), (1, .int .i64 a1), (5, .vec (g65c0).length 1 ((g65c0).flatMap e9)), (6, .int .i64 y3_0), (7, .int .i64 (x0_2.length : Int))]) (congrArg (fun z : Bool => ([(34, .bool z), (33, .bool z), (32, .int .i64 (x0_2.length : Int)), (31, .int .i64 (fW .i64 ((a0.length : Int) - a1))), (30, .int .i64 a1), (29, .int .i64 (a0.length : Int)), (28, .str a0), (0, .str a0), (1, .int .i64 a1), (5, .vec (g65c0).length 1 ((g65c0).flatMap e9)), (6, .int .i64 y3_0), (7, .int .i64 (x0_2.length : Int))] : Env)) hb6) (opsD_run 12 (l' := (opsAt g65p12).toList.drop 19) (eE := E11) (H' := (mkH [])) (hs := []) (by kernel_rfl) (.nil)))) (by kernel_rfl) (by kernel_rfl) (by kernel_rfl) ?_
     refine oK [0, 1, 5, 6, 7, 46] (eE := [(0, .str a0), (1, .int .i64 a1), (5, .vec (g65c0).length 1 ((g65c0).flatMap e9)), (6, .int .i64 y3_0), (7, .int .i64 (x0_2.length : Int)), (46, .bool false)]) (by kernel_rfl) ?_
     exact hj4 (false, y3_0)
  ·refine oR 7 (p' := .fin) (eE := ((4, .int .i64 0) :: (20, .bool false) :: E4)) (H' := (mkH [])) (by kernel_rfl) ?_
   exact oT (r := (0 : Int)) (xs := [.int .i64 0]) (v := .int .i64 0) (by kernel_rfl) (by kernel_rfl) (by kernel_rfl) (.pures (by kernel_rfl)) (by kernel_rfl)
def g65 (k : Nat) (a0 : (List Nat)) (a1 : Int) : Option Int :=
 jn (fun (z2 : Bool) => if z2 then (some (0 : Int)) else (g65_l3 k a0 a1 k 0)) (fun j2 => if (decide (a1 < 0)) then (j2 true) else (j2 (decide ((a0.length : Int) < a1))))
theorem g65_ok (k : Nat) (a0 : (List Nat)) (a1 : Int) (r : Int) (h : g65 k a0 a1 = some r) : PureOk Try.prog 65 [.str a0, .int .i64 a1] (.int .i64 r) := by
 refine pure_of X65 (fun _ => rfl) Try.func65 (by decide +kernel) (by kernel_rfl) (t := g65 k a0 a1) ?_ h
 unfold g65
 refine oE (eE := [(0, .str a0), (1, .int .i64 a1)]) (by kernel_rfl) ?_
 refine oR 7 (p' := (atN 1 (ctl1 g65p1))) (eE := [(8, .slice 0 37 0 37 1), (4, .int .i64 0), (0, .str a0), (1, .int .i64 a1)]) (H' := (mkH [⟨[.str [61, 58, 61], .str [61, 47, 61], .str [60, 60], .str [62, 62], .str [45, 62], .str [60, 45], .str [60, 61], .str [61, 62], .str [58, 61], .str [58, 58], .str [61, 61], .str [47, 61], .str [61, 60], .str [62, 61], .str [124, 124], .str [43, 43], .str [45, 45], .str [40], .str [41], .str [123], .str [125], .str [91], .str [93], .str [44], .str [59], .str [58], .str [61], .str [124], .str [33], .str [35], .str [43], .str [45], .str [42], .str [47], .str [60], .str [62], .str [46]], 0, false⟩])) (by kernel_rfl) ?_
 refine ok_frz [⟨[.str [61, 58, 61], .str [61, 47, 61], .str [60, 60], .str [62, 62], .str [45, 62], .str [60, 45], .str [60, 61], .str [61, 62], .str [58, 61], .str [58, 58], .str [61, 61], .str [47, 61], .str [61, 60], .str [62, 61], .str [124, 124], .str [43, 43], .str [45, 45], .str [40], .str [41], .str [123], .str [125], .str [91], .str [93], .str [44], .str [59], .str [58], .str [61], .str [124], .str [33], .str [35], .str [43], .str [45], .str [42], .str [47], .str [60], .str [62], .str [46]], 0, false⟩] 8 0 37 1 0 [.str [61, 58, 61], .str [61, 47, 61], .str [60, 60], .str [62, 62], .str [45, 62], .str [60, 45], .str [60, 61], .str [61, 62], .str [58, 61], .str [58, 58], .str [61, 61], .str [47, 61], .str [61, 60], .str [62, 61], .str [124, 124], .str [43, 43], .str [45, 45], .str [40], .str [41], .str [123], .str [125], .str [91], .str [93], .str [44], .str [59], .str [58], .str [61], .str [124], .str [33], .str [35], .str [43], .str [45], .str [42], .str [47], .str [60], .str [62], .str [46]] [0, 1, 4] (env0 := [(0, .str a0), (1, .int .i64 a1), (4, .int .i64 0)]) (by kernel_rfl) rfl (.inl (by kernel_rfl)) rfl rfl (by decide) (by kernel_rfl) (by kernel_rfl) (by kernel_rfl) ⟨.inl rfl, trivial⟩ ?_
 refine oE (eE := [(8, .vec (g65c0).length 1 ((g65c0).flatMap e9)), (0, .str a0), (1, .int .i64 a1), (4, .int .i64 0)]) (by kernel_rfl) ?_
 refine ok_heap (H' := (mkH [⟨[], 0, false⟩])) (by kernel_rfl) ?_
 let E1 : Env := [(11, .bool (decide (a1 < 0))), (10, .bool (decide (a1 < 0))), (9, .int .i64 a1), (5, .vec (g65c0).length 1 ((g65c0).flatMap e9)), (8, .vec (g65c0).length 1 ((g65c0).flatMap e9)), (0, .str a0), (1, .int .i64 a1), (4, .int .i64 0)]
 refine oR 8 (p' := (atN 3 (ctl1 g65p2))) (eE := E1) (H' := (mkH [⟨[], 0, false⟩])) (by kernel_rfl) ?_
 refine oJ (f := fun (z2 : Bool) => if z2 then (some (0 : Int)) else (g65_l3 k a0 a1 k 0)) g65p3 (fun (z2 : Bool) => [(0, .str a0), (1, .int .i64 a1), (5, .vec (g65c0).length 1 ((g65c0).flatMap e9)), (16, .bool z2)]) (fun (z2 : Bool) => (mkH [])) (fun z2 => ?_) (fun j2 hj2 => ?_)
 ·refine oS 16 (b := z2) (by kernel_rfl) (fun hb => ?_) (fun hb => ?_)
  ·let E2 : Env := [(4, .int .i64 0), (16, .bool true), (0, .str a0), (1, .int .i64 a1), (5, .vec (g65c0).length 1 ((g65c0).flatMap e9)), (16, .bool z2)]
   refine oR 6 (p' := .fin) (eE := E2) (H' := (mkH [])) (by kernel_rfl) ?_
   exact oT (r := (0 : Int)) (xs := [.int .i64 0]) (v := .int .i64 0) (by kernel_rfl) (by kernel_rfl) (by kernel_rfl) (.pures (by kernel_rfl)) (by kernel_rfl)
  ·let E3 : Env := [(6, .int .i64 0), (16, .bool false), (0, .str a0), (1, .int .i64 a1), (5, .vec (g65c0).length 1 ((g65c0).flatMap e9)), (16, .bool z2)]
   refine oR 9 (p' := g65p7) (eE := E3) (H' := (mkH [])) (by kernel_rfl) ?_
   refine oK [0, 1, 5, 6] (eE := [(0, .str a0), (1, .int .i64 a1), (5, .vec (g65c0).length 1 ((g65c0).flatMap e9)), (6, .int .i64 0)]) (by kernel_rfl) ?_
   exact (g65_l3_ok k a0 a1 k) 0
 ·refine oS 11 (b := decide (a1 < 0)) (by kernel_rfl) (fun hb => ?_) (fun hb => ?_)
  ·let E12 : Env := ((16, .bool true) :: (15, .tuple []) :: (14, .tuple []) :: (13, .tuple []) :: (12, .tuple []) :: (11, .bool true) :: E1)
   refine oR 6 (p' := g65p3) (eE := E12) (H' := (mkH [⟨[], 0, false⟩])) (by kernel_rfl) ?_
   refine oK [0, 1, 5, 16] (eE := [(0, .str a0), (1, .int .i64 a1), (5, .vec (g65c0).length 1 ((g65c0).flatMap e9)), (16, .bool true)]) (by kernel_rfl) ?_
   refine ok_cut [] [⟨[], 0, false⟩] (by kernel_rfl) rfl (by kernel_rfl) trivial ?_
   exact hj2 true
  ·let E13 : Env := ((16, .bool (decide ((a0.length : Int) < a1))) :: (15, .bool (decide ((a0.length : Int) < a1))) :: (14, .int .i64 (a0.length : Int)) :: (13, .str a0) :: (12, .int .i64 a1) :: (11, .bool false) :: E1)
   refine oR 6 (p' := g65p3) (eE := E13) (H' := (mkH [⟨[], 0, false⟩])) (by kernel_rfl) ?_
   refine oK [0, 1, 5, 16] (eE := [(0, .str a0), (1, .int .i64 a1), (5, .vec (g65c0).length 1 ((g65c0).flatMap e9)), (16, .bool (decide ((a0.length : Int) < a1)))]) (by kernel_rfl) ?_
   refine ok_cut [] [⟨[], 0, false⟩] (by kernel_rfl) rfl (by kernel_rfl) trivial ?_
   exact hj2 (decide ((a0.length : Int) < a1))
end
end Go.Proofs.Ytbmijiibfaacmaa.Am
set_option maxRecDepth 100000
set_option linter.unusedVariables false
set_option linter.unusedSimpArgs false
namespace Go.Proofs.Ytbmijiibfaacmaa.Am
open Go
theorem eqL_comm (a b : List Nat) : eqL a b = eqL b a := by
 rw [Bool.eq_iff_iff, eqL_iff, eqL_iff]; exact eq_comm
theorem nthL_at {α : Type} {L : List α} {i : Nat} {x : α} {r : List α} (h : L.drop i = x :: r) : nthL L (i : Int) = some x := by
 unfold nthL
 rw [if_pos (by omega), Int.toNat_natCast]
 have := List.getElem?_drop (xs := L) (i := i) (j := 0)
 rw [h] at this
 simpa using this.symm
theorem dconsL {α : Type} {s : List α} {i : Nat} (h : i < s.length) : ∃ b r, s.drop i = b :: r ∧ s.drop (i + 1) = r ∧ b ∈ s ∧ r.length + i + 1 = s.length := by
 refine ⟨s[i], s.drop (i + 1), List.drop_eq_getElem_cons h, rfl, List.getElem_mem h, ?_⟩
 rw [List.length_drop]; omega
end Go.Proofs.Ytbmijiibfaacmaa.Am
set_option maxRecDepth 100000
set_option linter.unusedVariables false
namespace Go.Proofs.Ytbmijiibfaacmaa.Am
noncomputable section
open Go
def X68 : Fx (List Nat) := ⟨Try.prog, cx, Try.f68, fun r => .str r, 0, fun _ => H0, cxTi, cxOrd⟩
def g68p0 : Pt := nav [0] (bodyAt Try.f68)
def g68p1 : Pt := nav [0, 0, 0, 0] g68p0
def g68p2 : Pt := nav [0, 0, 0, 0] g68p1
def g68p3 : Pt := nav [0, 0] g68p2
def g68p5 : Pt := nav [2, 0] g68p3
def g68p7 : Pt := nav [0, 0] g68p5
def g68p9 : Pt := nav [2, 0] g68p7
def g68p10 : Pt := nav [0, 0] g68p9
def g68p12 : Pt := nav [2, 0] g68p10
def g68p13 : Pt := nav [0, 0] g68p12
def g68 (k : Nat) (a0 : (List Nat)) : Option (List Nat) :=
 if (eqL a0 [40]) then (some ([41] : List Nat)) else (if (eqL a0 [123]) then (some ([125] : List Nat)) else (if (eqL a0 [91]) then (some ([93] : List Nat)) else (if (eqL a0 [60, 60]) then (some ([62, 62] : List Nat)) else (some ([] : List Nat)))))
theorem g68_ok (k : Nat) (a0 : (List Nat)) (r : (List Nat)) (h : g68 k a0 = some r) : PureOk Try.prog 68 [.str a0] (.str r) := by
 refine pure_of X68 (fun _ => rfl) Try.func68 (by decide +kernel) (by kernel_rfl) (t := g68 k a0) ?_ h
 unfold g68
 refine oE (eE := [(0, .str a0)]) (by kernel_rfl) ?_
 let E1 : Env := [(4, .bool (eqL a0 [40])), (5, .bool (eqL a0 [40])), (3, .str a0), (2, .str []), (0, .str a0)]
 refine oR 15 (p' := g68p3) (eE := E1) (H' := (mkH [])) (by kernel_rfl) ?_
 refine oS 4 (b := eqL a0 [40]) (by kernel_rfl) (fun hb => ?_) (fun hb => ?_)
 ·refine oR 6 (p' := .fin) (eE := ((2, .str [41]) :: (4, .bool true) :: E1)) (H' := (mkH [])) (by kernel_rfl) ?_
  exact oT (r := ([41] : List Nat)) (xs := [.str [41]]) (v := .str [41]) (by kernel_rfl) (by kernel_rfl) (by kernel_rfl) (.pures (by kernel_rfl)) (by kernel_rfl)
 ·refine oR 6 (p' := g68p7) (eE := ((6, .bool (eqL a0 [123])) :: (7, .bool (eqL a0 [123])) :: (4, .bool false) :: E1)) (H' := (mkH [])) (by kernel_rfl) ?_
  refine oS 6 (b := eqL a0 [123]) (by kernel_rfl) (fun hb => ?_) (fun hb => ?_)
  ·let E2 : Env := ((2, .str [125]) :: (6, .bool true) :: (6, .bool (eqL a0 [123])) :: (7, .bool (eqL a0 [123])) :: (4, .bool false) :: E1)
   refine oR 6 (p' := .fin) (eE := E2) (H' := (mkH [])) (by kernel_rfl) ?_
   exact oT (r := ([125] : List Nat)) (xs := [.str [125]]) (v := .str [125]) (by kernel_rfl) (by kernel_rfl) (by kernel_rfl) (.pures (by kernel_rfl)) (by kernel_rfl)
  ·let E3 : Env := ((8, .bool (eqL a0 [91])) :: (9, .bool (eqL a0 [91])) :: (6, .bool false) :: (6, .bool (eqL a0 [123])) :: (7, .bool (eqL a0 [123])) :: (4, .bool false) :: E1)
   refine oR 6 (p' := g68p10) (eE := E3) (H' := (mkH [])) (by kernel_rfl) ?_
   refine oK [3, 8] (eE := [(3, .str a0), (8, .bool (eqL a0 [91]))]) (by kernel_rfl) ?_
   refine oS 8 (b := eqL a0 [91]) (by kernel_rfl) (fun hb => ?_) (fun hb => ?_)
   ·refine oR 6 (p' := .fin) (eE := [(2, .str [93]), (8, .bool true), (3, .str a0), (8, .bool (eqL a0 [91]))]) (H' := (mkH [])) (by kernel_rfl) ?_
    exact oT (r := ([93] : List Nat)) (xs := [.str [93]]) (v := .str [93]) (by kernel_rfl) (by kernel_rfl) (by kernel_rfl) (.pures (by kernel_rfl)) (by kernel_rfl)
   ·let E4 : Env := [(10, .bool (eqL a0 [60, 60])), (11, .bool (eqL a0 [60, 60])), (8, .bool false), (3, .str a0), (8, .bool (eqL a0 [91]))]
    refine oR 6 (p' := g68p13) (eE := E4) (H' := (mkH [])) (by kernel_rfl) ?_
    refine oS 10 (b := eqL a0 [60, 60]) (by kernel_rfl) (fun hb => ?_) (fun hb => ?_)
    ·refine oR 6 (p' := .fin) (eE := ((2, .str [62, 62]) :: (10, .bool true) :: E4)) (H' := (mkH [])) (by kernel_rfl) ?_
     exact oT (r := ([62, 62] : List Nat)) (xs := [.str [62, 62]]) (v := .str [62, 62]) (by kernel_rfl) (by kernel_rfl) (by kernel_rfl) (.pures (by kernel_rfl)) (by kernel_rfl)
    ·refine oR 7 (p' := .fin) (eE := ((2, .str []) :: (10, .bool false) :: E4)) (H' := (mkH [])) (by kernel_rfl) ?_
     exact oT (r := ([] : List Nat)) (xs := [.str []]) (v := .str []) (by kernel_rfl) (by kernel_rfl) (by kernel_rfl) (.pures (by kernel_rfl)) (by kernel_rfl)
end
end Go.Proofs.Ytbmijiibfaacmaa.Am
set_option maxRecDepth 100000
set_option linter.unusedVariables false
namespace Go.Proofs.Ytbmijiibfaacmaa.Am
noncomputable section
open Go
def X51 : Fx Bool := ⟨Try.prog, cx, Try.f51, fun r => .bool r, 0, fun _ => H0, cxTi, cxOrd⟩
def g51c0 : List Nat := [98, 101, 103, 105, 110]
def g51c1 : List Nat := [114, 101, 99, 101, 105, 118, 101]
def g51p0 : Pt := nav [0] (bodyAt Try.f51)
def g51p1 : Pt := nav [0, 0, 0, 0, 0] g51p0
def g51p2 : Pt := nav [0, 0] g51p1
def g51p3 : Pt := nav [1, 0] g51p2
def g51p4 : Pt := nav [2, 0] g51p2
def g51p6 : Pt := nav [0, 0] g51p4
def g51p7 : Pt := nav [1, 0] g51p6
def g51 (k : Nat) (a0 : S46) : Option Bool :=
 if (decide (a0.f0 = 9)) then ((g68 k a0.f1).bind fun x0_2 => some (!(eqL x0_2 []))) else (if (decide (a0.f0 = 8)) then (if (eqL a0.f1 g51c0) then (some true) else (if (eqL a0.f1 [99, 97, 115, 101]) then (some true) else (if (eqL a0.f1 [105, 102]) then (some true) else (some (eqL a0.f1 g51c1))))) else (some false))
theorem g51_ok (k : Nat) (a0 : S46) (r : Bool) (h : g51 k a0 = some r) : PureOk Try.prog 51 [.agg [.int .i64 a0.f0, .str a0.f1, .int .i64 a0.f2]] (.bool r) := by
 refine pure_of X51 (fun _ => rfl) Try.func51 (by decide +kernel) (by kernel_rfl) (t := g51 k a0) ?_ h
 unfold g51
 refine oE (eE := [(0, .agg [.int .i64 a0.f0, .str a0.f1, .int .i64 a0.f2])]) (by kernel_rfl) ?_
 let E1 : Env := [(3, .bool (decide (a0.f0 = 9))), (6, .bool (decide (a0.f0 = 9))), (5, .int .i64 a0.f0), (4, .ptr 0 3 0), (2, .bool false), (1, .ptr 0 3 0), (0, .agg [.int .i64 a0.f0, .str a0.f1, .int .i64 a0.f2])]
 refine oR 14 (p' := g51p2) (eE := E1) (H' := (mkH [⟨[.int .i64 a0.f0, .str a0.f1, .int .i64 a0.f2], 0, false⟩])) (by kernel_rfl) ?_
 refine oS 3 (b := decide (a0.f0 = 9)) (by kernel_rfl) (fun hb => ?_) (fun hb => ?_)
 ·refine oR 5 (p' := (atN 2 (ctl1 g51p3))) (eE := ((8, .str a0.f1) :: (7, .ptr 0 3 1) :: (3, .bool true) :: E1)) (H' := (mkH [⟨[.int .i64 a0.f0, .str a0.f1, .int .i64 a0.f2], 0, false⟩])) (by kernel_rfl) ?_
  refine oC (fun (x0_2 : (List Nat)) => .str x0_2) (atN 3 (ctl1 g51p3)) (fun x0_2 => ((9, .str x0_2) :: (8, .str a0.f1) :: (7, .ptr 0 3 1) :: (3, .bool true) :: E1)) (fi := 68) (args := [.str a0.f1]) (by kernel_rfl) (by kernel_rfl) (fun _ => by kernel_rfl) (fun r h => g68_ok k a0.f1 r h) (fun _ => by kernel_rfl) (fun x0_2 hx0_2 => ?_)
  let E2 : Env := ((2, .bool (!(eqL x0_2 []))) :: (10, .bool (!(eqL x0_2 []))) :: (9, .str x0_2) :: (8, .str a0.f1) :: (7, .ptr 0 3 1) :: (3, .bool true) :: E1)
  refine oR 4 (p' := .fin) (eE := E2) (H' := (mkH [⟨[.int .i64 a0.f0, .str a0.f1, .int .i64 a0.f2], 0, false⟩])) (by kernel_rfl) ?_
  exact oT (r := (!(eqL x0_2 []))) (xs := [.bool (!(eqL x0_2 []))]) (v := .bool (!(eqL x0_2 []))) (by kernel_rfl) (by kernel_rfl) (by kernel_rfl) (.pures (by kernel_rfl)) (by kernel_rfl)
 ·let E3 : Env := ((11, .bool (decide (a0.f0 = 8))) :: (14, .bool (decide (a0.f0 = 8))) :: (13, .int .i64 a0.f0) :: (12, .ptr 0 3 0) :: (3, .bool false) :: E1)
  refine oR 8 (p' := g51p6) (eE := E3) (H' := (mkH [⟨[.int .i64 a0.f0, .str a0.f1, .int .i64 a0.f2], 0, false⟩])) (by kernel_rfl) ?_
  refine oK [1, 11] (eE := [(1, .ptr 0 3 0), (11, .bool (decide (a0.f0 = 8)))]) (by kernel_rfl) ?_
  refine oS 11 (b := decide (a0.f0 = 8)) (by kernel_rfl) (fun hb => ?_) (fun hb => ?_)
  ·let E4 : Env := [(18, .bool (eqL a0.f1 g51c0)), (17, .bool (eqL a0.f1 g51c0)), (16, .str a0.f1), (15, .ptr 0 3 1), (11, .bool true), (1, .ptr 0 3 0), (11, .bool (decide (a0.f0 = 8)))]
   refine oR 7 (p' := (atN 4 (ctl1 g51p7))) (eE := E4) (H' := (mkH [⟨[.int .i64 a0.f0, .str a0.f1, .int .i64 a0.f2], 0, false⟩])) (by kernel_rfl) ?_
   refine oS 18 (b := eqL a0.f1 g51c0) (by kernel_rfl) (fun hb => ?_) (fun hb => ?_)
   ·let E5 : Env := ((2, .bool true) :: (32, .bool true) :: (31, .tuple []) :: (30, .tuple []) :: (29, .tuple []) :: (28, .bool true) :: (27, .bool true) :: (26, .tuple []) :: (25, .tuple []) :: (24, .tuple []) :: (23, .bool true) :: (22, .bool true) :: (21, .tuple []) :: (20, .tuple []) :: (19, .tuple []) :: (18, .bool true) :: E4)
    refine oR 17 (p' := .fin) (eE := E5) (H' := (mkH [⟨[.int .i64 a0.f0, .str a0.f1, .int .i64 a0.f2], 0, false⟩])) (by kernel_rfl) ?_
    exact oT (r := true) (xs := [.bool true]) (v := .bool true) (by kernel_rfl) (by kernel_rfl) (by kernel_rfl) (.pures (by kernel_rfl)) (by kernel_rfl)
   ·let E6 : Env := ((23, .bool (eqL a0.f1 [99, 97, 115, 101])) :: (22, .bool (eqL a0.f1 [99, 97, 115, 101])) :: (21, .bool (eqL a0.f1 [99, 97, 115, 101])) :: (20, .str a0.f1) :: (19, .ptr 0 3 1) :: (18, .bool false) :: E4)
    refine oR 5 (p' := (atN 9 (ctl1 g51p7))) (eE := E6) (H' := (mkH [⟨[.int .i64 a0.f0, .str a0.f1, .int .i64 a0.f2], 0, false⟩])) (by kernel_rfl) ?_
    refine oS 23 (b := eqL a0.f1 [99, 97, 115, 101]) (by kernel_rfl) (fun hb => ?_) (fun hb => ?_)
    ·let E7 : Env := ((2, .bool true) :: (32, .bool true) :: (31, .tuple []) :: (30, .tuple []) :: (29, .tuple []) :: (28, .bool true) :: (27, .bool true) :: (26, .tuple []) :: (25, .tuple []) :: (24, .tuple []) :: (23, .bool true) :: E6)
     refine oR 12 (p' := .fin) (eE := E7) (H' := (mkH [⟨[.int .i64 a0.f0, .str a0.f1, .int .i64 a0.f2], 0, false⟩])) (by kernel_rfl) ?_
     exact oT (r := true) (xs := [.bool true]) (v := .bool true) (by kernel_rfl) (by kernel_rfl) (by kernel_rfl) (.pures (by kernel_rfl)) (by kernel_rfl)
    ·let E8 : Env := ((28, .bool (eqL a0.f1 [105, 102])) :: (27, .bool (eqL a0.f1 [105, 102])) :: (26, .bool (eqL a0.f1 [105, 102])) :: (25, .str a0.f1) :: (24, .ptr 0 3 1) :: (23, .bool false) :: E6)
     refine oR 5 (p' := (atN 14 (ctl1 g51p7))) (eE := E8) (H' := (mkH [⟨[.int .i64 a0.f0, .str a0.f1, .int .i64 a0.f2], 0, false⟩])) (by kernel_rfl) ?_
     refine oS 28 (b := eqL a0.f1 [105, 102]) (by kernel_rfl) (fun hb => ?_) (fun hb => ?_)
     ·let E9 : Env := ((2, .bool true) :: (32, .bool true) :: (31, .tuple []) :: (30, .tuple []) :: (29, .tuple []) :: (28, .bool true) :: E8)
      refine oR 7 (p' := .fin) (eE := E9) (H' := (mkH [⟨[.int .i64 a0.f0, .str a0.f1, .int .i64 a0.f2], 0, false⟩])) (by kernel_rfl) ?_
      exact oT (r := true) (xs := [.bool true]) (v := .bool true) (by kernel_rfl) (by kernel_rfl) (by kernel_rfl) (.pures (by kernel_rfl)) (by kernel_rfl)
     ·let E10 : Env := ((2, .bool (eqL a0.f1 g51c1)) :: (32, .bool (eqL a0.f1 g51c1)) :: (31, .bool (eqL a0.f1 g51c1)) :: (30, .str a0.f1) :: (29, .ptr 0 3 1) :: (28, .bool false) :: E8)
      refine oR 7 (p' := .fin) (eE := E10) (H' := (mkH [⟨[.int .i64 a0.f0, .str a0.f1, .int .i64 a0.f2], 0, false⟩])) (by kernel_rfl) ?_
      exact oT (r := (eqL a0.f1 g51c1)) (xs := [.bool (eqL a0.f1 g51c1)]) (v := .bool (eqL a0.f1 g51c1)) (by kernel_rfl) (by kernel_rfl) (by kernel_rfl) (.pures (by kernel_rfl)) (by kernel_rfl)
  ·refine oR 7 (p' := .fin) (eE := [(2, .bool false), (11, .bool false), (1, .ptr 0 3 0), (11, .bool (decide (a0.f0 = 8)))]) (H' := (mkH [⟨[.int .i64 a0.f0, .str a0.f1, .int .i64 a0.f2], 0, false⟩])) (by kernel_rfl) ?_
   exact oT (r := false) (xs := [.bool false]) (v := .bool false) (by kernel_rfl) (by kernel_rfl) (by kernel_rfl) (.pures (by kernel_rfl)) (by kernel_rfl)
end
end Go.Proofs.Ytbmijiibfaacmaa.Am
set_option maxRecDepth 100000
set_option linter.unusedVariables false
namespace Go.Proofs.Ytbmijiibfaacmaa.Am
noncomputable section
open Go
def X52 : Fx Bool := ⟨Try.prog, cx, Try.f52, fun r => .bool r, 0, fun _ => H0, cxTi, cxOrd⟩
def g52p0 : Pt := nav [0] (bodyAt Try.f52)
def g52p1 : Pt := nav [0, 0, 0, 0] g52p0
def g52p2 : Pt := nav [0, 0] g52p1
def g52p3 : Pt := nav [1, 0] g52p2
def g52p4 : Pt := nav [2, 0, 0] g52p2
def g52 (k : Nat) (a0 : S46) : Option Bool :=
 if (decide (a0.f0 = 9)) then (if (eqL a0.f1 [41]) then (some true) else (if (eqL a0.f1 [125]) then (some true) else (if (eqL a0.f1 [93]) then (some true) else (some (eqL a0.f1 [62, 62]))))) else (if (decide (a0.f0 = 8)) then (some (eqL a0.f1 [101, 110, 100])) else (some false))
theorem g52_ok (k : Nat) (a0 : S46) (r : Bool) (h : g52 k a0 = some r) : PureOk Try.prog 52 [.agg [.int .i64 a0.f0, .str a0.f1, .int .i64 a0.f2]] (.bool r) := by
 refine pure_of X52 (fun _ => rfl) Try.func52 (by decide +kernel) (by kernel_rfl) (t := g52 k a0) ?_ h
 unfold g52
 refine oE (eE := [(0, .agg [.int .i64 a0.f0, .str a0.f1, .int .i64 a0.f2])]) (by kernel_rfl) ?_
 let E1 : Env := [(5, .bool (decide (a0.f0 = 9))), (4, .int .i64 a0.f0), (3, .ptr 0 3 0), (2, .bool false), (1, .ptr 0 3 0), (0, .agg [.int .i64 a0.f0, .str a0.f1, .int .i64 a0.f2])]
 refine oR 12 (p' := g52p2) (eE := E1) (H' := (mkH [⟨[.int .i64 a0.f0, .str a0.f1, .int .i64 a0.f2], 0, false⟩])) (by kernel_rfl) ?_
 refine oS 5 (b := decide (a0.f0 = 9)) (by kernel_rfl) (fun hb => ?_) (fun hb => ?_)
 ·let E2 : Env := ((9, .bool (eqL a0.f1 [41])) :: (8, .bool (eqL a0.f1 [41])) :: (7, .str a0.f1) :: (6, .ptr 0 3 1) :: (5, .bool true) :: E1)
  refine oR 7 (p' := (atN 4 (ctl1 g52p3))) (eE := E2) (H' := (mkH [⟨[.int .i64 a0.f0, .str a0.f1, .int .i64 a0.f2], 0, false⟩])) (by kernel_rfl) ?_
  refine oS 9 (b := eqL a0.f1 [41]) (by kernel_rfl) (fun hb => ?_) (fun hb => ?_)
  ·let E3 : Env := ((2, .bool true) :: (23, .bool true) :: (22, .tuple []) :: (21, .tuple []) :: (20, .tuple []) :: (19, .bool true) :: (18, .bool true) :: (17, .tuple []) :: (16, .tuple []) :: (15, .tuple []) :: (14, .bool true) :: (13, .bool true) :: (12, .tuple []) :: (11, .tuple []) :: (10, .tuple []) :: (9, .bool true) :: E2)
   refine oR 17 (p' := .fin) (eE := E3) (H' := (mkH [⟨[.int .i64 a0.f0, .str a0.f1, .int .i64 a0.f2], 0, false⟩])) (by kernel_rfl) ?_
   exact oT (r := true) (xs := [.bool true]) (v := .bool true) (by kernel_rfl) (by kernel_rfl) (by kernel_rfl) (.pures (by kernel_rfl)) (by kernel_rfl)
  ·let E4 : Env := ((14, .bool (eqL a0.f1 [125])) :: (13, .bool (eqL a0.f1 [125])) :: (12, .bool (eqL a0.f1 [125])) :: (11, .str a0.f1) :: (10, .ptr 0 3 1) :: (9, .bool false) :: E2)
   refine oR 5 (p' := (atN 9 (ctl1 g52p3))) (eE := E4) (H' := (mkH [⟨[.int .i64 a0.f0, .str a0.f1, .int .i64 a0.f2], 0, false⟩])) (by kernel_rfl) ?_
   refine oS 14 (b := eqL a0.f1 [125]) (by kernel_rfl) (fun hb => ?_) (fun hb => ?_)
   ·let E5 : Env := ((2, .bool true) :: (23, .bool true) :: (22, .tuple []) :: (21, .tuple []) :: (20, .tuple []) :: (19, .bool true) :: (18, .bool true) :: (17, .tuple []) :: (16, .tuple []) :: (15, .tuple []) :: (14, .bool true) :: E4)
    refine oR 12 (p' := .fin) (eE := E5) (H' := (mkH [⟨[.int .i64 a0.f0, .str a0.f1, .int .i64 a0.f2], 0, false⟩])) (by kernel_rfl) ?_
    exact oT (r := true) (xs := [.bool true]) (v := .bool true) (by kernel_rfl) (by kernel_rfl) (by kernel_rfl) (.pures (by kernel_rfl)) (by kernel_rfl)
   ·let E6 : Env := ((19, .bool (eqL a0.f1 [93])) :: (18, .bool (eqL a0.f1 [93])) :: (17, .bool (eqL a0.f1 [93])) :: (16, .str a0.f1) :: (15, .ptr 0 3 1) :: (14, .bool false) :: E4)
    refine oR 5 (p' := (atN 14 (ctl1 g52p3))) (eE := E6) (H' := (mkH [⟨[.int .i64 a0.f0, .str a0.f1, .int .i64 a0.f2], 0, false⟩])) (by kernel_rfl) ?_
    refine oS 19 (b := eqL a0.f1 [93]) (by kernel_rfl) (fun hb => ?_) (fun hb => ?_)
    ·let E7 : Env := ((2, .bool true) :: (23, .bool true) :: (22, .tuple []) :: (21, .tuple []) :: (20, .tuple []) :: (19, .bool true) :: E6)
     refine oR 7 (p' := .fin) (eE := E7) (H' := (mkH [⟨[.int .i64 a0.f0, .str a0.f1, .int .i64 a0.f2], 0, false⟩])) (by kernel_rfl) ?_
     exact oT (r := true) (xs := [.bool true]) (v := .bool true) (by kernel_rfl) (by kernel_rfl) (by kernel_rfl) (.pures (by kernel_rfl)) (by kernel_rfl)
    ·let E8 : Env := ((2, .bool (eqL a0.f1 [62, 62])) :: (23, .bool (eqL a0.f1 [62, 62])) :: (22, .bool (eqL a0.f1 [62, 62])) :: (21, .str a0.f1) :: (20, .ptr 0 3 1) :: (19, .bool false) :: E6)
     refine oR 7 (p' := .fin) (eE := E8) (H' := (mkH [⟨[.int .i64 a0.f0, .str a0.f1, .int .i64 a0.f2], 0, false⟩])) (by kernel_rfl) ?_
     exact oT (r := (eqL a0.f1 [62, 62])) (xs := [.bool (eqL a0.f1 [62, 62])]) (v := .bool (eqL a0.f1 [62, 62])) (by kernel_rfl) (by kernel_rfl) (by kernel_rfl) (.pures (by kernel_rfl)) (by kernel_rfl)
 ·let E9 : Env := ((27, .bool (decide (a0.f0 = 8))) :: (26, .bool (decide (a0.f0 = 8))) :: (25, .int .i64 a0.f0) :: (24, .ptr 0 3 0) :: (5, .bool false) :: E1)
  refine oR 8 (p' := (atN 4 (ctl1 g52p4))) (eE := E9) (H' := (mkH [⟨[.int .i64 a0.f0, .str a0.f1, .int .i64 a0.f2], 0, false⟩])) (by kernel_rfl) ?_
  refine oS 27 (b := decide (a0.f0 = 8)) (by kernel_rfl) (fun hb => ?_) (fun hb => ?_)
  ·let E10 : Env := ((2, .bool (eqL a0.f1 [101, 110, 100])) :: (31, .bool (eqL a0.f1 [101, 110, 100])) :: (30, .bool (eqL a0.f1 [101, 110, 100])) :: (29, .str a0.f1) :: (28, .ptr 0 3 1) :: (27, .bool true) :: E9)
   refine oR 7 (p' := .fin) (eE := E10) (H' := (mkH [⟨[.int .i64 a0.f0, .str a0.f1, .int .i64 a0.f2], 0, false⟩])) (by kernel_rfl) ?_
   exact oT (r := (eqL a0.f1 [101, 110, 100])) (xs := [.bool (eqL a0.f1 [101, 110, 100])]) (v := .bool (eqL a0.f1 [101, 110, 100])) (by kernel_rfl) (by kernel_rfl) (by kernel_rfl) (.pures (by kernel_rfl)) (by kernel_rfl)
  ·let E11 : Env := ((2, .bool false) :: (31, .bool false) :: (30, .tuple []) :: (29, .tuple []) :: (28, .tuple []) :: (27, .bool false) :: E9)
   refine oR 7 (p' := .fin) (eE := E11) (H' := (mkH [⟨[.int .i64 a0.f0, .str a0.f1, .int .i64 a0.f2], 0, false⟩])) (by kernel_rfl) ?_
   exact oT (r := false) (xs := [.bool false]) (v := .bool false) (by kernel_rfl) (by kernel_rfl) (by kernel_rfl) (.pures (by kernel_rfl)) (by kernel_rfl)
end
end Go.Proofs.Ytbmijiibfaacmaa.Am
set_option maxRecDepth 100000
set_option linter.unusedVariables false
namespace Go.Proofs.Ytbmijiibfaacmaa.Am
noncomputable section
open Go
def X69 : Fx Bool := ⟨Try.prog, cx, Try.f69, fun r => .bool r, 0, fun _ => H0, cxTi, cxOrd⟩
def g69p0 : Pt := nav [0] (bodyAt Try.f69)
def g69p1 : Pt := nav [0, 0, 0, 0] g69p0
def g69p2 : Pt := nav [0, 0, 0, 0] g69p1
def g69p3 : Pt := nav [0, 0, 0] g69p2
def g69p4 : Pt := nav [0, 0] g69p3
def g69p5 : Pt := nav [1, 0, 0, 0, 0] g69p4
def g69p7 : Pt := nav [0, 0] g69p5
def g69_l1 (k : Nat)  (a0 : (List (List Nat))) (a1 : (List Nat)) (n : Nat) : Int → Option Bool :=
 Nat.rec (motive := fun _ => Int → Option Bool) (fun _ => none) (fun _ ih => fun (y1_0 : Int) => if (decide (y1_0 < (a0.length : Int))) then ((nthL a0 y1_0).bind fun x0_2 => if (eqL x0_2 a1) then (some true) else (ih (fW .i64 (y1_0 + 1)))) else (some false)) n
theorem g69_l1_s (k : Nat)  (a0 : (List (List Nat))) (a1 : (List Nat)) (n : Nat) (y1_0 : Int) : g69_l1 k a0 a1 (n + 1) y1_0 = (if (decide (y1_0 < (a0.length : Int))) then ((nthL a0 y1_0).bind fun x0_2 => if (eqL x0_2 a1) then (some true) else ((g69_l1 k a0 a1 n) (fW .i64 (y1_0 + 1)))) else (some false)) := rfl
theorem g69_l1_ok (k : Nat)  (a0 : (List (List Nat))) (a1 : (List Nat))  : ∀ (n : Nat) (y1_0 : Int), Ok X69 g69p2 [(0, .vec (a0).length 1 ((a0).flatMap e9)), (1, .str a1), (5, .int .i64 y1_0)] (mkH []) (g69_l1 k a0 a1 n y1_0)
 | 0, _ => ok_none
 | n + 1, y1_0 => by
  have ih := g69_l1_ok k a0 a1 n
  rw [g69_l1_s]
  refine ok_ent (p' := nav [0] g69p2) (by kernel_rfl) ?_
  let E1 : Env := [(9, .bool (decide (y1_0 < (a0.length : Int)))), (8, .int .i64 (a0.length : Int)), (7, .vec (a0).length 1 ((a0).flatMap e9)), (6, .int .i64 y1_0), (0, .vec (a0).length 1 ((a0).flatMap e9)), (1, .str a1), (5, .int .i64 y1_0)]
  refine oR 8 (p' := g69p4) (eE := E1) (H' := (mkH [])) (by kernel_rfl) ?_
  refine oS 9 (b := decide (y1_0 < (a0.length : Int))) (by kernel_rfl) (fun hb => ?_) (fun hb => ?_)
  ·refine oR 8 (p' := (atN 2 (ctl1 g69p5))) (eE := ((13, .int .i64 y1_0) :: (12, .vec (a0).length 1 ((a0).flatMap e9)) :: (9, .bool true) :: E1)) (H' := (mkH [])) (by kernel_rfl) ?_
   refine oH (fun (x0_2 : (List Nat)) => (.vptr [.str x0_2], (mkH []))) (atN 3 (ctl1 g69p5)) (fun x0_2 => ((14, .vptr [.str x0_2]) :: (13, .int .i64 y1_0) :: (12, .vec (a0).length 1 ((a0).flatMap e9)) :: (9, .bool true) :: E1)) (vidxH (sz := 1) e9_len (by kernel_rfl)) (fun _ => by kernel_rfl) (fun x0_2 hx0_2 => ?_)
   let E2 : Env := ((17, .bool (eqL x0_2 a1)) :: (16, .str a1) :: (15, .str x0_2) :: (14, .vptr [.str x0_2]) :: (13, .int .i64 y1_0) :: (12, .vec (a0).length 1 ((a0).flatMap e9)) :: (9, .bool true) :: E1)
   refine oR 4 (p' := g69p7) (eE := E2) (H' := (mkH [])) (by kernel_rfl) ?_
   refine oK [0, 1, 5, 17] (eE := [(0, .vec (a0).length 1 ((a0).flatMap e9)), (1, .str a1), (5, .int .i64 y1_0), (17, .bool (eqL x0_2 a1))]) (by kernel_rfl) ?_
   refine oS 17 (b := eqL x0_2 a1) (by kernel_rfl) (fun hb => ?_) (fun hb => ?_)
   ·let E3 : Env := [(4, .bool true), (17, .bool true), (0, .vec (a0).length 1 ((a0).flatMap e9)), (1, .str a1), (5, .int .i64 y1_0), (17, .bool (eqL x0_2 a1))]
    refine oR 6 (p' := .fin) (eE := E3) (H' := (mkH [])) (by kernel_rfl) ?_
    exact oT (r := true) (xs := [.bool true]) (v := .bool true) (by kernel_rfl) (by kernel_rfl) (by kernel_rfl) (.pures (by kernel_rfl)) (by kernel_rfl)
   ·let E4 : Env := [(5, .int .i64 (fW .i64 (y1_0 + 1))), (11, .int .i64 (fW .i64 (y1_0 + 1))), (10, .int .i64 y1_0), (17, .bool false), (0, .vec (a0).length 1 ((a0).flatMap e9)), (1, .str a1), (5, .int .i64 y1_0), (17, .bool (eqL x0_2 a1))]
    refine oR 7 (p' := g69p2) (eE := E4) (H' := (mkH [])) (by kernel_rfl) ?_
    refine oK [0, 1, 5] (eE := [(0, .vec (a0).length 1 ((a0).flatMap e9)), (1, .str a1), (5, .int .i64 (fW .i64 (y1_0 + 1)))]) (by kernel_rfl) ?_
    exact ih (fW .i64 (y1_0 + 1))
  ·refine oR 7 (p' := .fin) (eE := ((4, .bool false) :: (9, .bool false) :: E1)) (H' := (mkH [])) (by kernel_rfl) ?_
   exact oT (r := false) (xs := [.bool false]) (v := .bool false) (by kernel_rfl) (by kernel_rfl) (by kernel_rfl) (.pures (by kernel_rfl)) (by kernel_rfl)
def g69 (k : Nat) (a0 : (List (List Nat))) (a1 : (List Nat)) : Option Bool :=
 g69_l1 k a0 a1 k 0
theorem g69_ok (k : Nat) (a0 : (List (List Nat))) (a1 : (List Nat)) (r : Bool) (h : g69 k a0 a1 = some r) : PureOk Try.prog 69 [.vec (a0).length 1 ((a0).flatMap e9), .str a1] (.bool r) := by
 refine pure_of X69 (fun _ => rfl) Try.func69 (by decide +kernel) (by kernel_rfl) (t := g69 k a0 a1) ?_ h
 unfold g69
 refine oE (eE := [(0, .vec (a0).length 1 ((a0).flatMap e9)), (1, .str a1)]) (by kernel_rfl) ?_
 refine oR 11 (p' := g69p2) (eE := [(5, .int .i64 0), (4, .bool false), (0, .vec (a0).length 1 ((a0).flatMap e9)), (1, .str a1)]) (H' := (mkH [])) (by kernel_rfl) ?_
 refine oK [0, 1, 5] (eE := [(0, .vec (a0).length 1 ((a0).flatMap e9)), (1, .str a1), (5, .int .i64 0)]) (by kernel_rfl) ?_
 exact (g69_l1_ok k a0 a1 k) 0
end
end Go.Proofs.Ytbmijiibfaacmaa.Am
set_option maxRecDepth 100000
set_option linter.unusedVariables false
namespace Go.Proofs.Ytbmijiibfaacmaa.Am
noncomputable section
open Go
def X53 : Fx Bool := ⟨Try.prog, cx, Try.f53, fun r => .bool r, 0, fun _ => H0, cxTi, cxOrd⟩
def g53c0 : List (List Nat) := [([40] : List Nat), ([123] : List Nat), ([91] : List Nat), ([60, 60] : List Nat)]
def g53c1 : List Nat := [98, 101, 103, 105, 110]
def g53c2 : List Nat := [114, 101, 99, 101, 105, 118, 101]
def g53c3 : List (List Nat) := [g53c1, ([99, 97, 115, 101] : List Nat), ([105, 102] : List Nat), g53c2]
def g53p0 : Pt := nav [0] (bodyAt Try.f53)
def g53p1 : Pt := nav [0, 0, 0] g53p0
def g53 (k : Nat) (a0 : S46) : Option Bool :=
 if (decide (a0.f0 = 9)) then ((g69 k g53c0 a0.f1).bind fun x0_7 => if x0_7 then (some true) else (if (decide (a0.f0 = 8)) then ((g69 k g53c3 a0.f1).bind fun x0_17 => some x0_17) else (some false))) else (if (decide (a0.f0 = 8)) then ((g69 k g53c3 a0.f1).bind fun x0_17 => some x0_17) else (some false))
theorem g53_ok (k : Nat) (a0 : S46) (r : Bool) (h : g53 k a0 = some r) : PureOk Try.prog 53 [.agg [.int .i64 a0.f0, .str a0.f1, .int .i64 a0.f2]] (.bool r) := by
 refine pure_of X53 (fun _ => rfl) Try.func53 (by decide +kernel) (by kernel_rfl) (t := g53 k a0) ?_ h
 unfold g53
 refine oE (eE := [(0, .agg [.int .i64 a0.f0, .str a0.f1, .int .i64 a0.f2])]) (by kernel_rfl) ?_
 let E1 : Env := [(6, .bool (decide (a0.f0 = 9))), (5, .bool (decide (a0.f0 = 9))), (4, .int .i64 a0.f0), (3, .ptr 0 3 0), (2, .bool false), (1, .ptr 0 3 0), (0, .agg [.int .i64 a0.f0, .str a0.f1, .int .i64 a0.f2])]
 refine oR 11 (p' := (atN 4 (ctl1 g53p1))) (eE := E1) (H' := (mkH [⟨[.int .i64 a0.f0, .str a0.f1, .int .i64 a0.f2], 0, false⟩])) (by kernel_rfl) ?_
 refine oS 6 (b := decide (a0.f0 = 9)) (by kernel_rfl) (fun hb => ?_) (fun hb => ?_)
 ·refine oR 1 (p' := (atN 5 (ctl1 g53p1))) (eE := ((7, .slice 1 4 0 4 1) :: (6, .bool true) :: E1)) (H' := (mkH [⟨[.int .i64 a0.f0, .str a0.f1, .int .i64 a0.f2], 0, false⟩, ⟨[.str [40], .str [123], .str [91], .str [60, 60]], 0, false⟩])) (by kernel_rfl) ?_
  refine ok_frz [⟨[.int .i64 a0.f0, .str a0.f1, .int .i64 a0.f2], 0, false⟩, ⟨[.str [40], .str [123], .str [91], .str [60, 60]], 0, false⟩] 7 1 4 1 0 [.str [40], .str [123], .str [91], .str [60, 60]] [0, 1, 2, 3, 4, 5, 6] (env0 := [(0, .agg [.int .i64 a0.f0, .str a0.f1, .int .i64 a0.f2]), (1, .ptr 0 3 0), (2, .bool false), (3, .ptr 0 3 0), (4, .int .i64 a0.f0), (5, .bool (decide (a0.f0 = 9))), (6, .bool true)]) (by kernel_rfl) rfl (.inl (by kernel_rfl)) rfl rfl (by decide) (by kernel_rfl) (by kernel_rfl) (by kernel_rfl) ⟨.inr (by kernel_rfl), ⟨.inl rfl, trivial⟩⟩ ?_
  refine oE (eE := [(7, .vec (g53c0).length 1 ((g53c0).flatMap e9)), (0, .agg [.int .i64 a0.f0, .str a0.f1, .int .i64 a0.f2]), (1, .ptr 0 3 0), (2, .bool false), (3, .ptr 0 3 0), (4, .int .i64 a0.f0), (5, .bool (decide (a0.f0 = 9))), (6, .bool true)]) (by kernel_rfl) ?_
  refine ok_heap (H' := (mkH [⟨[.int .i64 a0.f0, .str a0.f1, .int .i64 a0.f2], 0, false⟩, ⟨[], 0, false⟩])) (by kernel_rfl) ?_
  let E2 : Env := [(9, .str a0.f1), (8, .ptr 0 3 1), (7, .vec (g53c0).length 1 ((g53c0).flatMap e9)), (0, .agg [.int .i64 a0.f0, .str a0.f1, .int .i64 a0.f2]), (1, .ptr 0 3 0), (2, .bool false), (3, .ptr 0 3 0), (4, .int .i64 a0.f0), (5, .bool (decide (a0.f0 = 9))), (6, .bool true)]
  refine oR 2 (p' := (atN 7 (ctl1 g53p1))) (eE := E2) (H' := (mkH [⟨[.int .i64 a0.f0, .str a0.f1, .int .i64 a0.f2], 0, false⟩, ⟨[], 0, false⟩])) (by kernel_rfl) ?_
  refine oC (fun (x0_7 : Bool) => .bool x0_7) (atN 8 (ctl1 g53p1)) (fun x0_7 => ((10, .bool x0_7) :: E2)) (fi := 69) (args := [.vec (g53c0).length 1 ((g53c0).flatMap e9), .str a0.f1]) (by kernel_rfl) (by kernel_rfl) (fun _ => by kernel_rfl) (fun r h => g69_ok k g53c0 a0.f1 r h) (fun _ => by kernel_rfl) (fun x0_7 hx0_7 => ?_)
  refine oR 2 (p' := (atN 10 (ctl1 g53p1))) (eE := ((12, .bool x0_7) :: (11, .bool x0_7) :: (10, .bool x0_7) :: E2)) (H' := (mkH [⟨[.int .i64 a0.f0, .str a0.f1, .int .i64 a0.f2], 0, false⟩, ⟨[], 0, false⟩])) (by kernel_rfl) ?_
  refine oS 12 (b := x0_7) (by kernel_rfl) (fun hb => ?_) (fun hb => ?_)
  ·let E3 : Env := ((2, .bool true) :: (22, .bool true) :: (21, .tuple []) :: (20, .tuple []) :: (19, .tuple []) :: (18, .tuple []) :: (17, .tuple []) :: (16, .tuple []) :: (15, .tuple []) :: (14, .tuple []) :: (13, .tuple []) :: (12, .bool true) :: (12, .bool x0_7) :: (11, .bool x0_7) :: (10, .bool x0_7) :: E2)
   refine oR 13 (p' := .fin) (eE := E3) (H' := (mkH [⟨[.int .i64 a0.f0, .str a0.f1, .int .i64 a0.f2], 0, false⟩, ⟨[], 0, false⟩])) (by kernel_rfl) ?_
   exact oT (r := true) (xs := [.bool true]) (v := .bool true) (by kernel_rfl) (by kernel_rfl) (by kernel_rfl) (.pures (by kernel_rfl)) (by kernel_rfl)
  ·let E4 : Env := ((16, .bool (decide (a0.f0 = 8))) :: (15, .bool (decide (a0.f0 = 8))) :: (14, .int .i64 a0.f0) :: (13, .ptr 0 3 0) :: (12, .bool false) :: (12, .bool x0_7) :: (11, .bool x0_7) :: (10, .bool x0_7) :: E2)
   refine oR 4 (p' := (atN 14 (ctl1 g53p1))) (eE := E4) (H' := (mkH [⟨[.int .i64 a0.f0, .str a0.f1, .int .i64 a0.f2], 0, false⟩, ⟨[], 0, false⟩])) (by kernel_rfl) ?_
   refine oS 16 (b := decide (a0.f0 = 8)) (by kernel_rfl) (fun hb => ?_) (fun hb => ?_)
   ·refine oR 1 (p' := (atN 15 (ctl1 g53p1))) (eE := ((17, .slice 2 4 0 4 1) :: (16, .bool true) :: E4)) (H' := (mkH [⟨[.int .i64 a0.f0, .str a0.f1, .int .i64 a0.f2], 0, false⟩, ⟨[], 0, false⟩, ⟨[.str g53c1, .str [99, 97, 115, 101], .str [105, 102], .str g53c2], 0, false⟩])) (by kernel_rfl) ?_
    refine ok_frz [⟨[.int .i64 a0.f0, .str a0.f1, .int .i64 a0.f2], 0, false⟩, ⟨[], 0, false⟩, ⟨[.str g53c1, .str [99, 97, 115, 101], .str [105, 102], .str g53c2], 0, false⟩] 17 2 4 1 0 [.str g53c1, .str [99, 97, 115, 101], .str [105, 102], .str g53c2] [0, 1, 2, 3, 4, 5, 6, 7, 8, 9, 10, 11, 12, 13, 14, 15, 16] (env0 := [(0, .agg [.int .i64 a0.f0, .str a0.f1, .int .i64 a0.f2]), (1, .ptr 0 3 0), (2, .bool false), (3, .ptr 0 3 0), (4, .int .i64 a0.f0), (5, .bool (decide (a0.f0 = 9))), (6, .bool true), (7, .vec (g53c0).length 1 ((g53c0).flatMap e9)), (8, .ptr 0 3 1), (9, .str a0.f1), (10, .bool x0_7), (11, .bool x0_7), (12, .bool false), (13, .ptr 0 3 0), (14, .int .i64 a0.f0), (15, .bool (decide (a0.f0 = 8))), (16, .bool true)]) (by kernel_rfl) rfl (.inl (by kernel_rfl)) rfl rfl (by decide) (by kernel_rfl) (by kernel_rfl) (by kernel_rfl) ⟨.inr (by kernel_rfl), ⟨.inr (by kernel_rfl), ⟨.inl rfl, trivial⟩⟩⟩ ?_
    refine oE (eE := [(17, .vec (g53c3).length 1 ((g53c3).flatMap e9)), (0, .agg [.int .i64 a0.f0, .str a0.f1, .int .i64 a0.f2]), (1, .ptr 0 3 0), (2, .bool false), (3, .ptr 0 3 0), (4, .int .i64 a0.f0), (5, .bool (decide (a0.f0 = 9))), (6, .bool true), (7, .vec (g53c0).length 1 ((g53c0).flatMap e9)), (8, .ptr 0 3 1), (9, .str a0.f1), (10, .bool x0_7), (11, .bool x0_7), (12, .bool false), (13, .ptr 0 3 0), (14, .int .i64 a0.f0), (15, .bool (decide (a0.f0 = 8))), (16, .bool true)]) (by kernel_rfl) ?_
    refine ok_heap (H' := (mkH [⟨[.int .i64 a0.f0, .str a0.f1, .int .i64 a0.f2], 0, false⟩, ⟨[], 0, false⟩, ⟨[], 0, false⟩])) (by kernel_rfl) ?_
    let E5 : Env := [(19, .str a0.f1), (18, .ptr 0 3 1), (17, .vec (g53c3).length 1 ((g53c3).flatMap e9)), (0, .agg [.int .i64 a0.f0, .str a0.f1, .int .i64 a0.f2]), (1, .ptr 0 3 0), (2, .bool false), (3, .ptr 0 3 0), (4, .int .i64 a0.f0), (5, .bool (decide (a0.f0 = 9))), (6, .bool true), (7, .vec (g53c0).length 1 ((g53c0).flatMap e9)), (8, .ptr 0 3 1), (9, .str a0.f1), (10, .bool x0_7), (11, .bool x0_7), (12, .bool false), (13, .ptr 0 3 0), (14, .int .i64 a0.f0), (15, .bool (decide (a0.f0 = 8))), (16, .bool true)]
    refine oR 2 (p' := (atN 17 (ctl1 g53p1))) (eE := E5) (H' := (mkH [⟨[.int .i64 a0.f0, .str a0.f1, .int .i64 a0.f2], 0, false⟩, ⟨[], 0, false⟩, ⟨[], 0, false⟩])) (by kernel_rfl) ?_
    refine oC (fun (x0_17 : Bool) => .bool x0_17) (atN 18 (ctl1 g53p1)) (fun x0_17 => ((20, .bool x0_17) :: E5)) (fi := 69) (args := [.vec (g53c3).length 1 ((g53c3).flatMap e9), .str a0.f1]) (by kernel_rfl) (by kernel_rfl) (fun _ => by kernel_rfl) (fun r h => g69_ok k g53c3 a0.f1 r h) (fun _ => by kernel_rfl) (fun x0_17 hx0_17 => ?_)
    refine oR 5 (p' := .fin) (eE := ((2, .bool x0_17) :: (22, .bool x0_17) :: (21, .bool x0_17) :: (20, .bool x0_17) :: E5)) (H' := (mkH [⟨[.int .i64 a0.f0, .str a0.f1, .int .i64 a0.f2], 0, false⟩, ⟨[], 0, false⟩, ⟨[], 0, false⟩])) (by kernel_rfl) ?_
    exact oT (r := x0_17) (xs := [.bool x0_17]) (v := .bool x0_17) (by kernel_rfl) (by kernel_rfl) (by kernel_rfl) (.pures (by kernel_rfl)) (by kernel_rfl)
   ·let E6 : Env := ((2, .bool false) :: (22, .bool false) :: (21, .bool false) :: (20, .tuple []) :: (19, .tuple []) :: (18, .tuple []) :: (17, .tuple []) :: (16, .bool false) :: E4)
    refine oR 9 (p' := .fin) (eE := E6) (H' := (mkH [⟨[.int .i64 a0.f0, .str a0.f1, .int .i64 a0.f2], 0, false⟩, ⟨[], 0, false⟩])) (by kernel_rfl) ?_
    exact oT (r := false) (xs := [.bool false]) (v := .bool false) (by kernel_rfl) (by kernel_rfl) (by kernel_rfl) (.pures (by kernel_rfl)) (by kernel_rfl)
 ·let E7 : Env := ((16, .bool (decide (a0.f0 = 8))) :: (15, .bool (decide (a0.f0 = 8))) :: (14, .int .i64 a0.f0) :: (13, .ptr 0 3 0) :: (12, .bool false) :: (11, .bool false) :: (10, .tuple []) :: (9, .tuple []) :: (8, .tuple []) :: (7, .tuple []) :: (6, .bool false) :: E1)
  refine oR 10 (p' := (atN 14 (ctl1 g53p1))) (eE := E7) (H' := (mkH [⟨[.int .i64 a0.f0, .str a0.f1, .int .i64 a0.f2], 0, false⟩])) (by kernel_rfl) ?_
  refine oS 16 (b := decide (a0.f0 = 8)) (by kernel_rfl) (fun hb => ?_) (fun hb => ?_)
  ·refine oR 1 (p' := (atN 15 (ctl1 g53p1))) (eE := ((17, .slice 1 4 0 4 1) :: (16, .bool true) :: E7)) (H' := (mkH [⟨[.int .i64 a0.f0, .str a0.f1, .int .i64 a0.f2], 0, false⟩, ⟨[.str g53c1, .str [99, 97, 115, 101], .str [105, 102], .str g53c2], 0, false⟩])) (by kernel_rfl) ?_
   refine ok_frz [⟨[.int .i64 a0.f0, .str a0.f1, .int .i64 a0.f2], 0, false⟩, ⟨[.str g53c1, .str [99, 97, 115, 101], .str [105, 102], .str g53c2], 0, false⟩] 17 1 4 1 0 [.str g53c1, .str [99, 97, 115, 101], .str [105, 102], .str g53c2] [0, 1, 2, 3, 4, 5, 6, 7, 8, 9, 10, 11, 12, 13, 14, 15, 16] (env0 := [(0, .agg [.int .i64 a0.f0, .str a0.f1, .int .i64 a0.f2]), (1, .ptr 0 3 0), (2, .bool false), (3, .ptr 0 3 0), (4, .int .i64 a0.f0), (5, .bool (decide (a0.f0 = 9))), (6, .bool false), (7, .tuple []), (8, .tuple []), (9, .tuple []), (10, .tuple []), (11, .bool false), (12, .bool false), (13, .ptr 0 3 0), (14, .int .i64 a0.f0), (15, .bool (decide (a0.f0 = 8))), (16, .bool true)]) (by kernel_rfl) rfl (.inl (by kernel_rfl)) rfl rfl (by decide) (by kernel_rfl) (by kernel_rfl) (by kernel_rfl) ⟨.inr (by kernel_rfl), ⟨.inl rfl, trivial⟩⟩ ?_
   refine oE (eE := [(17, .vec (g53c3).length 1 ((g53c3).flatMap e9)), (0, .agg [.int .i64 a0.f0, .str a0.f1, .int .i64 a0.f2]), (1, .ptr 0 3 0), (2, .bool false), (3, .ptr 0 3 0), (4, .int .i64 a0.f0), (5, .bool (decide (a0.f0 = 9))), (6, .bool false), (7, .tuple []), (8, .tuple []), (9, .tuple []), (10, .tuple []), (11, .bool false), (12, .bool false), (13, .ptr 0 3 0), (14, .int .i64 a0.f0), (15, .bool (decide (a0.f0 = 8))), (16, .bool true)]) (by kernel_rfl) ?_
   refine ok_heap (H' := (mkH [⟨[.int .i64 a0.f0, .str a0.f1, .int .i64 a0.f2], 0, false⟩, ⟨[], 0, false⟩])) (by kernel_rfl) ?_
   let E8 : Env := [(19, .str a0.f1), (18, .ptr 0 3 1), (17, .vec (g53c3).length 1 ((g53c3).flatMap e9)), (0, .agg [.int .i64 a0.f0, .str a0.f1, .int .i64 a0.f2]), (1, .ptr 0 3 0), (2, .bool false), (3, .ptr 0 3 0), (4, .int .i64 a0.f0), (5, .bool (decide (a0.f0 = 9))), (6, .bool false), (7, .tuple []), (8, .tuple []), (9, .tuple []), (10, .tuple []), (11, .bool false), (12, .bool false), (13, .ptr 0 3 0), (14, .int .i64 a0.f0), (15, .bool (decide (a0.f0 = 8))), (16, .bool true)]
   refine oR 2 (p' := (atN 17 (ctl1 g53p1))) (eE := E8) (H' := (mkH [⟨[.int .i64 a0.f0, .str a0.f1, .int .i64 a0.f2], 0, false⟩, ⟨[], 0, false⟩])) (by kernel_rfl) ?_
   refine oC (fun (x0_17 : Bool) => .bool x0_17) (atN 18 (ctl1 g53p1)) (fun x0_17 => ((20, .bool x0_17) :: E8)) (fi := 69) (args := [.vec (g53c3).length 1 ((g53c3).flatMap e9), .str a0.f1]) (by kernel_rfl) (by kernel_rfl) (fun _ => by kernel_rfl) (fun r h => g69_ok k g53c3 a0.f1 r h) (fun _ => by kernel_rfl) (fun x0_17 hx0_17 => ?_)
   refine oR 5 (p' := .fin) (eE := ((2, .bool x0_17) :: (22, .bool x0_17) :: (21, .bool x0_17) :: (20, .bool x0_17) :: E8)) (H' := (mkH [⟨[.int .i64 a0.f0, .str a0.f1, .int .i64 a0.f2], 0, false⟩, ⟨[], 0, false⟩])) (by kernel_rfl) ?_
   exact oT (r := x0_17) (xs := [.bool x0_17]) (v := .bool x0_17) (by kernel_rfl) (by kernel_rfl) (by kernel_rfl) (.pures (by kernel_rfl)) (by kernel_rfl)
  ·let E9 : Env := ((2, .bool false) :: (22, .bool false) :: (21, .bool false) :: (20, .tuple []) :: (19, .tuple []) :: (18, .tuple []) :: (17, .tuple []) :: (16, .bool false) :: E7)
   refine oR 9 (p' := .fin) (eE := E9) (H' := (mkH [⟨[.int .i64 a0.f0, .str a0.f1, .int .i64 a0.f2], 0, false⟩])) (by kernel_rfl) ?_
   exact oT (r := false) (xs := [.bool false]) (v := .bool false) (by kernel_rfl) (by kernel_rfl) (by kernel_rfl) (.pures (by kernel_rfl)) (by kernel_rfl)
end
end Go.Proofs.Ytbmijiibfaacmaa.Am
set_option maxRecDepth 100000
set_option linter.unusedVariables false
namespace Go.Proofs.Ytbmijiibfaacmaa.Am
noncomputable section
open Go
def X54 : Fx Bool := ⟨Try.prog, cx, Try.f54, fun r => .bool r, 0, fun _ => H0, cxTi, cxOrd⟩
def g54c0 : List (List Nat) := [([41] : List Nat), ([125] : List Nat), ([93] : List Nat), ([62, 62] : List Nat)]
def g54p0 : Pt := nav [0] (bodyAt Try.f54)
def g54p1 : Pt := nav [0, 0, 0] g54p0
def g54 (k : Nat) (a0 : S46) : Option Bool :=
 if (decide (a0.f0 = 9)) then ((g69 k g54c0 a0.f1).bind fun x0_7 => if x0_7 then (some true) else (if (decide (a0.f0 = 8)) then (some (eqL a0.f1 [101, 110, 100])) else (some false))) else (if (decide (a0.f0 = 8)) then (some (eqL a0.f1 [101, 110, 100])) else (some false))
theorem g54_ok (k : Nat) (a0 : S46) (r : Bool) (h : g54 k a0 = some r) : PureOk Try.prog 54 [.agg [.int .i64 a0.f0, .str a0.f1, .int .i64 a0.f2]] (.bool r) := by
 refine pure_of X54 (fun _ => rfl) Try.func54 (by decide +kernel) (by kernel_rfl) (t := g54 k a0) ?_ h
 unfold g54
 refine oE (eE := [(0, .agg [.int .i64 a0.f0, .str a0.f1, .int .i64 a0.f2])]) (by kernel_rfl) ?_
 let E1 : Env := [(6, .bool (decide (a0.f0 = 9))), (5, .bool (decide (a0.f0 = 9))), (4, .int .i64 a0.f0), (3, .ptr 0 3 0), (2, .bool false), (1, .ptr 0 3 0), (0, .agg [.int .i64 a0.f0, .str a0.f1, .int .i64 a0.f2])]
 refine oR 11 (p' := (atN 4 (ctl1 g54p1))) (eE := E1) (H' := (mkH [⟨[.int .i64 a0.f0, .str a0.f1, .int .i64 a0.f2], 0, false⟩])) (by kernel_rfl) ?_
 refine oS 6 (b := decide (a0.f0 = 9)) (by kernel_rfl) (fun hb => ?_) (fun hb => ?_)
 ·refine oR 1 (p' := (atN 5 (ctl1 g54p1))) (eE := ((7, .slice 1 4 0 4 1) :: (6, .bool true) :: E1)) (H' := (mkH [⟨[.int .i64 a0.f0, .str a0.f1, .int .i64 a0.f2], 0, false⟩, ⟨[.str [41], .str [125], .str [93], .str [62, 62]], 0, false⟩])) (by kernel_rfl) ?_
  refine ok_frz [⟨[.int .i64 a0.f0, .str a0.f1, .int .i64 a0.f2], 0, false⟩, ⟨[.str [41], .str [125], .str [93], .str [62, 62]], 0, false⟩] 7 1 4 1 0 [.str [41], .str [125], .str [93], .str [62, 62]] [0, 1, 2, 3, 4, 5, 6] (env0 := [(0, .agg [.int .i64 a0.f0, .str a0.f1, .int .i64 a0.f2]), (1, .ptr 0 3 0), (2, .bool false), (3, .ptr 0 3 0), (4, .int .i64 a0.f0), (5, .bool (decide (a0.f0 = 9))), (6, .bool true)]) (by kernel_rfl) rfl (.inl (by kernel_rfl)) rfl rfl (by decide) (by kernel_rfl) (by kernel_rfl) (by kernel_rfl) ⟨.inr (by kernel_rfl), ⟨.inl rfl, trivial⟩⟩ ?_
  refine oE (eE := [(7, .vec (g54c0).length 1 ((g54c0).flatMap e9)), (0, .agg [.int .i64 a0.f0, .str a0.f1, .int .i64 a0.f2]), (1, .ptr 0 3 0), (2, .bool false), (3, .ptr 0 3 0), (4, .int .i64 a0.f0), (5, .bool (decide (a0.f0 = 9))), (6, .bool true)]) (by kernel_rfl) ?_
  refine ok_heap (H' := (mkH [⟨[.int .i64 a0.f0, .str a0.f1, .int .i64 a0.f2], 0, false⟩, ⟨[], 0, false⟩])) (by kernel_rfl) ?_
  let E2 : Env := [(9, .str a0.f1), (8, .ptr 0 3 1), (7, .vec (g54c0).length 1 ((g54c0).flatMap e9)), (0, .agg [.int .i64 a0.f0, .str a0.f1, .int .i64 a0.f2]), (1, .ptr 0 3 0), (2, .bool false), (3, .ptr 0 3 0), (4, .int .i64 a0.f0), (5, .bool (decide (a0.f0 = 9))), (6, .bool true)]
  refine oR 2 (p' := (atN 7 (ctl1 g54p1))) (eE := E2) (H' := (mkH [⟨[.int .i64 a0.f0, .str a0.f1, .int .i64 a0.f2], 0, false⟩, ⟨[], 0, false⟩])) (by kernel_rfl) ?_
  refine oC (fun (x0_7 : Bool) => .bool x0_7) (atN 8 (ctl1 g54p1)) (fun x0_7 => ((10, .bool x0_7) :: E2)) (fi := 69) (args := [.vec (g54c0).length 1 ((g54c0).flatMap e9), .str a0.f1]) (by kernel_rfl) (by kernel_rfl) (fun _ => by kernel_rfl) (fun r h => g69_ok k g54c0 a0.f1 r h) (fun _ => by kernel_rfl) (fun x0_7 hx0_7 => ?_)
  refine oR 2 (p' := (atN 10 (ctl1 g54p1))) (eE := ((12, .bool x0_7) :: (11, .bool x0_7) :: (10, .bool x0_7) :: E2)) (H' := (mkH [⟨[.int .i64 a0.f0, .str a0.f1, .int .i64 a0.f2], 0, false⟩, ⟨[], 0, false⟩])) (by kernel_rfl) ?_
  refine oS 12 (b := x0_7) (by kernel_rfl) (fun hb => ?_) (fun hb => ?_)
  ·let E3 : Env := ((2, .bool true) :: (21, .bool true) :: (20, .tuple []) :: (19, .tuple []) :: (18, .tuple []) :: (17, .tuple []) :: (16, .tuple []) :: (15, .tuple []) :: (14, .tuple []) :: (13, .tuple []) :: (12, .bool true) :: (12, .bool x0_7) :: (11, .bool x0_7) :: (10, .bool x0_7) :: E2)
   refine oR 12 (p' := .fin) (eE := E3) (H' := (mkH [⟨[.int .i64 a0.f0, .str a0.f1, .int .i64 a0.f2], 0, false⟩, ⟨[], 0, false⟩])) (by kernel_rfl) ?_
   exact oT (r := true) (xs := [.bool true]) (v := .bool true) (by kernel_rfl) (by kernel_rfl) (by kernel_rfl) (.pures (by kernel_rfl)) (by kernel_rfl)
  ·let E4 : Env := ((16, .bool (decide (a0.f0 = 8))) :: (15, .bool (decide (a0.f0 = 8))) :: (14, .int .i64 a0.f0) :: (13, .ptr 0 3 0) :: (12, .bool false) :: (12, .bool x0_7) :: (11, .bool x0_7) :: (10, .bool x0_7) :: E2)
   refine oR 4 (p' := (atN 14 (ctl1 g54p1))) (eE := E4) (H' := (mkH [⟨[.int .i64 a0.f0, .str a0.f1, .int .i64 a0.f2], 0, false⟩, ⟨[], 0, false⟩])) (by kernel_rfl) ?_
   refine oS 16 (b := decide (a0.f0 = 8)) (by kernel_rfl) (fun hb => ?_) (fun hb => ?_)
   ·let E5 : Env := ((2, .bool (eqL a0.f1 [101, 110, 100])) :: (21, .bool (eqL a0.f1 [101, 110, 100])) :: (20, .bool (eqL a0.f1 [101, 110, 100])) :: (19, .bool (eqL a0.f1 [101, 110, 100])) :: (18, .str a0.f1) :: (17, .ptr 0 3 1) :: (16, .bool true) :: E4)
    refine oR 8 (p' := .fin) (eE := E5) (H' := (mkH [⟨[.int .i64 a0.f0, .str a0.f1, .int .i64 a0.f2], 0, false⟩, ⟨[], 0, false⟩])) (by kernel_rfl) ?_
    exact oT (r := (eqL a0.f1 [101, 110, 100])) (xs := [.bool (eqL a0.f1 [101, 110, 100])]) (v := .bool (eqL a0.f1 [101, 110, 100])) (by kernel_rfl) (by kernel_rfl) (by kernel_rfl) (.pures (by kernel_rfl)) (by kernel_rfl)
   ·let E6 : Env := ((2, .bool false) :: (21, .bool false) :: (20, .bool false) :: (19, .tuple []) :: (18, .tuple []) :: (17, .tuple []) :: (16, .bool false) :: E4)
    refine oR 8 (p' := .fin) (eE := E6) (H' := (mkH [⟨[.int .i64 a0.f0, .str a0.f1, .int .i64 a0.f2], 0, false⟩, ⟨[], 0, false⟩])) (by kernel_rfl) ?_
    exact oT (r := false) (xs := [.bool false]) (v := .bool false) (by kernel_rfl) (by kernel_rfl) (by kernel_rfl) (.pures (by kernel_rfl)) (by kernel_rfl)
 ·let E7 : Env := ((16, .bool (decide (a0.f0 = 8))) :: (15, .bool (decide (a0.f0 = 8))) :: (14, .int .i64 a0.f0) :: (13, .ptr 0 3 0) :: (12, .bool false) :: (11, .bool false) :: (10, .tuple []) :: (9, .tuple []) :: (8, .tuple []) :: (7, .tuple []) :: (6, .bool false) :: E1)
  refine oR 10 (p' := (atN 14 (ctl1 g54p1))) (eE := E7) (H' := (mkH [⟨[.int .i64 a0.f0, .str a0.f1, .int .i64 a0.f2], 0, false⟩])) (by kernel_rfl) ?_
  refine oS 16 (b := decide (a0.f0 = 8)) (by kernel_rfl) (fun hb => ?_) (fun hb => ?_)
  ·let E8 : Env := ((2, .bool (eqL a0.f1 [101, 110, 100])) :: (21, .bool (eqL a0.f1 [101, 110, 100])) :: (20, .bool (eqL a0.f1 [101, 110, 100])) :: (19, .bool (eqL a0.f1 [101, 110, 100])) :: (18, .str a0.f1) :: (17, .ptr 0 3 1) :: (16, .bool true) :: E7)
   refine oR 8 (p' := .fin) (eE := E8) (H' := (mkH [⟨[.int .i64 a0.f0, .str a0.f1, .int .i64 a0.f2], 0, false⟩])) (by kernel_rfl) ?_
   exact oT (r := (eqL a0.f1 [101, 110, 100])) (xs := [.bool (eqL a0.f1 [101, 110, 100])]) (v := .bool (eqL a0.f1 [101, 110, 100])) (by kernel_rfl) (by kernel_rfl) (by kernel_rfl) (.pures (by kernel_rfl)) (by kernel_rfl)
  ·let E9 : Env := ((2, .bool false) :: (21, .bool false) :: (20, .bool false) :: (19, .tuple []) :: (18, .tuple []) :: (17, .tuple []) :: (16, .bool false) :: E7)
   refine oR 8 (p' := .fin) (eE := E9) (H' := (mkH [⟨[.int .i64 a0.f0, .str a0.f1, .int .i64 a0.f2], 0, false⟩])) (by kernel_rfl) ?_
   exact oT (r := false) (xs := [.bool false]) (v := .bool false) (by kernel_rfl) (by kernel_rfl) (by kernel_rfl) (.pures (by kernel_rfl)) (by kernel_rfl)
end
end Go.Proofs.Ytbmijiibfaacmaa.Am
set_option maxRecDepth 100000
set_option linter.unusedVariables false
set_option linter.unusedSimpArgs false
namespace Go.Proofs.Ytbmijiibfaacmaa.Am
open Go
def opW (s : List Nat) : Bool := eqL s [98, 101, 103, 105, 110] || eqL s [99, 97, 115, 101] || eqL s [105, 102] || eqL s [114, 101, 99, 101, 105, 118, 101]
def opS (s : List Nat) : Bool := eqL s [40] || eqL s [123] || eqL s [91] || eqL s [60, 60]
def clS (s : List Nat) : Bool := eqL s [41] || eqL s [125] || eqL s [93] || eqL s [62, 62]
def opG (t : S46) : Bool := if t.f0 = 9 then opS t.f1 else if t.f0 = 8 then opW t.f1 else false
def clG (t : S46) : Bool := if t.f0 = 9 then clS t.f1 else if t.f0 = 8 then eqL t.f1 [101, 110, 100] else false
theorem if3 (a b c d : Bool) : (if a = true then some true else if b = true then some true else if c = true then some true else some d) = some (a || b || c || d) := by cases a <;> cases b <;> cases c <;> cases d <;> rfl
theorem ifb (a : Bool) : (if a = true then some true else some false) = some a := by cases a <;> rfl
theorem pair_ne (k : Nat) (s : List Nat) : ∃ r, g68 k s = some r ∧ (!eqL r []) = opS s := by
 unfold g68 opS
 cases eqL s [40]
 ·cases eqL s [123]
  ·cases eqL s [91]
   ·cases eqL s [60, 60]
    ·exact ⟨_, rfl, rfl⟩
    ·exact ⟨_, rfl, rfl⟩
   ·exact ⟨_, rfl, rfl⟩
  ·exact ⟨_, rfl, rfl⟩
 ·exact ⟨_, rfl, rfl⟩
theorem opens_at (k : Nat) (t : S46) : g51 k t = some (opG t) := by
 unfold g51 opG
 by_cases h9 : t.f0 = 9
 ·refine iT (dT h9) ?_
  obtain ⟨r, h1, h2⟩ := pair_ne k t.f1
  refine bS (by (try simp (disch := omega) only [fwI]); exact h1) ?_
  rw [if_pos h9, h2]
 ·refine iF (dF h9) ?_
  rw [if_neg h9]
  by_cases h8 : t.f0 = 8
  ·refine iT (dT h8) ?_
   rw [if_pos h8]
   exact if3 _ _ _ _
  ·refine iF (dF h8) ?_
   rw [if_neg h8]
theorem closes_at (k : Nat) (t : S46) : g52 k t = some (clG t) := by
 unfold g52 clG
 by_cases h9 : t.f0 = 9
 ·refine iT (dT h9) ?_
  rw [if_pos h9]
  exact if3 _ _ _ _
 ·refine iF (dF h9) ?_
  rw [if_neg h9]
  by_cases h8 : t.f0 = 8
  ·refine iT (dT h8) ?_
   rw [if_pos h8]
  ·refine iF (dF h8) ?_
   rw [if_neg h8]
theorem among4 (k : Nat) (a b c d s : List Nat) : g69 (k + 60) [a, b, c, d] s = some (eqL s a || eqL s b || eqL s c || eqL s d) := by
 rw [eqL_comm s a, eqL_comm s b, eqL_comm s c, eqL_comm s d, ← if3]
 have e : g69 (k + 60) [a, b, c, d] s = if eqL a s then some true else if eqL b s then some true else if eqL c s then some true else if eqL d s then some true else some false := by kernel_rfl
 rw [e, ifb]
theorem ropens_at (k : Nat) (t : S46) : g53 (k + 60) t = some (opG t) := by
 have e1 : g69 (k + 60) g53c0 t.f1 = some (opS t.f1) := among4 k _ _ _ _ _
 have e2 : g69 (k + 60) g53c3 t.f1 = some (opW t.f1) := among4 k _ _ _ _ _
 unfold g53 opG
 by_cases h9 : t.f0 = 9
 ·refine iT (dT h9) ?_
  refine bS (by (try simp (disch := omega) only [fwI]); exact e1) ?_
  rw [if_pos h9]
  cases opS t.f1
  ·refine iF rfl ?_
   exact iF (dF (by omega)) rfl
  ·rfl
 ·refine iF (dF h9) ?_
  rw [if_neg h9]
  by_cases h8 : t.f0 = 8
  ·refine iT (dT h8) ?_
   refine bS (by (try simp (disch := omega) only [fwI]); exact e2) ?_
   rw [if_pos h8]
  ·refine iF (dF h8) ?_
   rw [if_neg h8]
theorem rcloses_at (k : Nat) (t : S46) : g54 (k + 60) t = some (clG t) := by
 have e1 : g69 (k + 60) g54c0 t.f1 = some (clS t.f1) := among4 k _ _ _ _ _
 unfold g54 clG
 by_cases h9 : t.f0 = 9
 ·refine iT (dT h9) ?_
  refine bS (by (try simp (disch := omega) only [fwI]); exact e1) ?_
  rw [if_pos h9]
  cases clS t.f1
  ·refine iF rfl ?_
   exact iF (dF (by omega)) rfl
  ·rfl
 ·refine iF (dF h9) ?_
  rw [if_neg h9]
  by_cases h8 : t.f0 = 8
  ·refine iT (dT h8) ?_
   rw [if_pos h8]
  ·refine iF (dF h8) ?_
   rw [if_neg h8]
end Go.Proofs.Ytbmijiibfaacmaa.Am
set_option maxRecDepth 100000
set_option linter.unusedVariables false
namespace Go.Proofs.Ytbmijiibfaacmaa.Am
noncomputable section
open Go
def X39 : Fx Int := ⟨Try.prog, cx, Try.f39, fun r => .int .i64 r, 0, fun _ => H0, cxTi, cxOrd⟩
def X39f50_0 (a_0 : Int) (b_1 : (List S46)) (b_2 : Int) (b_3 : (List Nat)) (b_4 : Int) : Fx Bool := ⟨Try.prog, cx, Try.f50, fun r => .bool r, 2, fun r => (mkH [⟨[.vec (b_1).length 3 ((b_1).flatMap e47)], 0, false⟩, ⟨[.int .i64 b_2, .str b_3, .int .i64 b_4], 3, false⟩]), cxTi, cxOrd⟩
def g39f50_0p0 : Pt := nav [0] (bodyAt Try.f50)
def g39f50_0p1 : Pt := nav [0, 0, 0] g39f50_0p0
def g39f50_0 (k : Nat) (a_0 : Int) (b_1 : (List S46)) (b_2 : Int) (b_3 : (List Nat)) (b_4 : Int) : Option Bool :=
 (nthL b_1 a_0).bind fun x0_2 => (g51 k (⟨x0_2.f0, x0_2.f1, x0_2.f2⟩ : S46)).bind fun x0_4 => if x0_4 then (some true) else ((nthL b_1 a_0).bind fun x0_8 => if (decide (x0_8.f0 = 8)) then ((nthL b_1 a_0).bind fun x0_15 => if (eqL x0_15.f1 [102, 117, 110]) then (if (decide (fW .i64 (a_0 + 1) < (b_1.length : Int))) then ((nthL b_1 (fW .i64 (a_0 + 1))).bind fun x0_31 => if (decide (x0_31.f0 = 9)) then ((nthL b_1 (fW .i64 (a_0 + 1))).bind fun x0_40 => some (eqL x0_40.f1 [40])) else (some false)) else (some false)) else (some false)) else (some false))
theorem g39f50_0_ok (k : Nat) (a_0 : Int) (b_1 : (List S46)) (b_2 : Int) (b_3 : (List Nat)) (b_4 : Int) (r : Bool) (h : g39f50_0 k a_0 b_1 b_2 b_3 b_4 = some r) : CallV Try.prog 50 [.int .i64 a_0, .ptr 0 1 0] (mkH [⟨[.vec (b_1).length 3 ((b_1).flatMap e47)], 0, false⟩, ⟨[.int .i64 b_2, .str b_3, .int .i64 b_4], 3, false⟩]) (.bool r) (mkH [⟨[.vec (b_1).length 3 ((b_1).flatMap e47)], 0, false⟩, ⟨[.int .i64 b_2, .str b_3, .int .i64 b_4], 3, false⟩]) := by
 refine callM_of (X39f50_0 a_0 b_1 b_2 b_3 b_4) Try.func50 (by kernel_rfl) (by kernel_rfl) rfl (t := g39f50_0 k a_0 b_1 b_2 b_3 b_4) ?_ h
 unfold g39f50_0
 refine oE (eE := [(0, .int .i64 a_0), (1, .ptr 0 1 0)]) (by kernel_rfl) ?_
 let E1 : Env := [(5, .int .i64 a_0), (4, .vec (b_1).length 3 ((b_1).flatMap e47)), (3, .bool false), (0, .int .i64 a_0), (1, .ptr 0 1 0)]
 refine oR 8 (p' := (atN 2 (ctl1 g39f50_0p1))) (eE := E1) (H' := (mkH [⟨[.vec (b_1).length 3 ((b_1).flatMap e47)], 0, false⟩, ⟨[.int .i64 b_2, .str b_3, .int .i64 b_4], 3, false⟩])) (by kernel_rfl) ?_
 refine oH (fun (x0_2 : S46) => (.vptr [.int .i64 x0_2.f0, .str x0_2.f1, .int .i64 x0_2.f2], (mkH [⟨[.vec (b_1).length 3 ((b_1).flatMap e47)], 0, false⟩, ⟨[.int .i64 b_2, .str b_3, .int .i64 b_4], 3, false⟩]))) (atN 3 (ctl1 g39f50_0p1)) (fun x0_2 => ((6, .vptr [.int .i64 x0_2.f0, .str x0_2.f1, .int .i64 x0_2.f2]) :: E1)) (vidxH (sz := 3) e47_len (by kernel_rfl)) (fun _ => by kernel_rfl) (fun x0_2 hx0_2 => ?_)
 refine oR 1 (p' := (atN 4 (ctl1 g39f50_0p1))) (eE := ((7, .agg [.int .i64 x0_2.f0, .str x0_2.f1, .int .i64 x0_2.f2]) :: (6, .vptr [.int .i64 x0_2.f0, .str x0_2.f1, .int .i64 x0_2.f2]) :: E1)) (H' := (mkH [⟨[.vec (b_1).length 3 ((b_1).flatMap e47)], 0, false⟩, ⟨[.int .i64 b_2, .str b_3, .int .i64 b_4], 3, false⟩])) (by kernel_rfl) ?_
 refine oC (fun (x0_4 : Bool) => .bool x0_4) (atN 5 (ctl1 g39f50_0p1)) (fun x0_4 => ((8, .bool x0_4) :: (7, .agg [.int .i64 x0_2.f0, .str x0_2.f1, .int .i64 x0_2.f2]) :: (6, .vptr [.int .i64 x0_2.f0, .str x0_2.f1, .int .i64 x0_2.f2]) :: E1)) (fi := 51) (args := [.agg [.int .i64 x0_2.f0, .str x0_2.f1, .int .i64 x0_2.f2]]) (by kernel_rfl) (by kernel_rfl) (fun _ => by kernel_rfl) (fun r h => g51_ok k (⟨x0_2.f0, x0_2.f1, x0_2.f2⟩ : S46) r h) (fun _ => by kernel_rfl) (fun x0_4 hx0_4 => ?_)
 refine oR 1 (p' := (atN 6 (ctl1 g39f50_0p1))) (eE := ((9, .bool x0_4) :: (8, .bool x0_4) :: (7, .agg [.int .i64 x0_2.f0, .str x0_2.f1, .int .i64 x0_2.f2]) :: (6, .vptr [.int .i64 x0_2.f0, .str x0_2.f1, .int .i64 x0_2.f2]) :: E1)) (H' := (mkH [⟨[.vec (b_1).length 3 ((b_1).flatMap e47)], 0, false⟩, ⟨[.int .i64 b_2, .str b_3, .int .i64 b_4], 3, false⟩])) (by kernel_rfl) ?_
 refine oS 9 (b := x0_4) (by kernel_rfl) (fun hb => ?_) (fun hb => ?_)
 ·let E2 : Env := ((3, .bool true) :: (49, .bool true) :: (48, .tuple []) :: (47, .tuple []) :: (46, .tuple []) :: (45, .tuple []) :: (44, .tuple []) :: (43, .tuple []) :: (42, .tuple []) :: (41, .tuple []) :: (40, .tuple []) :: (39, .tuple []) :: (38, .tuple []) :: (37, .tuple []) :: (36, .tuple []) :: (35, .tuple []) :: (34, .tuple []) :: (33, .tuple []) :: (32, .tuple []) :: (31, .tuple []) :: (30, .tuple []) :: (29, .tuple []) :: (28, .tuple []) :: (27, .tuple []) :: (26, .tuple []) :: (25, .tuple []) :: (24, .tuple []) :: (23, .tuple []) :: (22, .tuple []) :: (21, .tuple []) :: (20, .tuple []) :: (19, .tuple []) :: (18, .tuple []) :: (17, .tuple []) :: (16, .tuple []) :: (15, .tuple []) :: (14, .tuple []) :: (13, .tuple []) :: (12, .tuple []) :: (11, .tuple []) :: (10, .tuple []) :: (9, .bool true) :: (9, .bool x0_4) :: (8, .bool x0_4) :: (7, .agg [.int .i64 x0_2.f0, .str x0_2.f1, .int .i64 x0_2.f2]) :: (6, .vptr [.int .i64 x0_2.f0, .str x0_2.f1, .int .i64 x0_2.f2]) :: E1)
  refine oR 43 (p' := .fin) (eE := E2) (H' := (mkH [⟨[.vec (b_1).length 3 ((b_1).flatMap e47)], 0, false⟩, ⟨[.int .i64 b_2, .str b_3, .int .i64 b_4], 3, false⟩])) (by kernel_rfl) ?_
  refine oK [3] (eE := [(3, .bool true)]) (by kernel_rfl) ?_
  exact ok_retM (r := true) (xs := [.bool true]) (by kernel_rfl) (by kernel_rfl) (by kernel_rfl) (by kernel_rfl)
 ·let E3 : Env := ((11, .int .i64 a_0) :: (10, .vec (b_1).length 3 ((b_1).flatMap e47)) :: (9, .bool false) :: (9, .bool x0_4) :: (8, .bool x0_4) :: (7, .agg [.int .i64 x0_2.f0, .str x0_2.f1, .int .i64 x0_2.f2]) :: (6, .vptr [.int .i64 x0_2.f0, .str x0_2.f1, .int .i64 x0_2.f2]) :: E1)
  refine oR 2 (p' := (atN 8 (ctl1 g39f50_0p1))) (eE := E3) (H' := (mkH [⟨[.vec (b_1).length 3 ((b_1).flatMap e47)], 0, false⟩, ⟨[.int .i64 b_2, .str b_3, .int .i64 b_4], 3, false⟩])) (by kernel_rfl) ?_
  refine oH (fun (x0_8 : S46) => (.vptr [.int .i64 x0_8.f0, .str x0_8.f1, .int .i64 x0_8.f2], (mkH [⟨[.vec (b_1).length 3 ((b_1).flatMap e47)], 0, false⟩, ⟨[.int .i64 b_2, .str b_3, .int .i64 b_4], 3, false⟩]))) (atN 9 (ctl1 g39f50_0p1)) (fun x0_8 => ((12, .vptr [.int .i64 x0_8.f0, .str x0_8.f1, .int .i64 x0_8.f2]) :: E3)) (vidxH (sz := 3) e47_len (by kernel_rfl)) (fun _ => by kernel_rfl) (fun x0_8 hx0_8 => ?_)
  let E4 : Env := ((16, .bool (decide (x0_8.f0 = 8))) :: (15, .bool (decide (x0_8.f0 = 8))) :: (14, .int .i64 x0_8.f0) :: (13, .vptr [.int .i64 x0_8.f0, .str x0_8.f1, .int .i64 x0_8.f2]) :: (12, .vptr [.int .i64 x0_8.f0, .str x0_8.f1, .int .i64 x0_8.f2]) :: E3)
  refine oR 4 (p' := (atN 13 (ctl1 g39f50_0p1))) (eE := E4) (H' := (mkH [⟨[.vec (b_1).length 3 ((b_1).flatMap e47)], 0, false⟩, ⟨[.int .i64 b_2, .str b_3, .int .i64 b_4], 3, false⟩])) (by kernel_rfl) ?_
  refine oS 16 (b := decide (x0_8.f0 = 8)) (by kernel_rfl) (fun hb => ?_) (fun hb => ?_)
  ·refine oR 2 (p' := (atN 15 (ctl1 g39f50_0p1))) (eE := ((18, .int .i64 a_0) :: (17, .vec (b_1).length 3 ((b_1).flatMap e47)) :: (16, .bool true) :: E4)) (H' := (mkH [⟨[.vec (b_1).length 3 ((b_1).flatMap e47)], 0, false⟩, ⟨[.int .i64 b_2, .str b_3, .int .i64 b_4], 3, false⟩])) (by kernel_rfl) ?_
   refine oH (fun (x0_15 : S46) => (.vptr [.int .i64 x0_15.f0, .str x0_15.f1, .int .i64 x0_15.f2], (mkH [⟨[.vec (b_1).length 3 ((b_1).flatMap e47)], 0, false⟩, ⟨[.int .i64 b_2, .str b_3, .int .i64 b_4], 3, false⟩]))) (atN 16 (ctl1 g39f50_0p1)) (fun x0_15 => ((19, .vptr [.int .i64 x0_15.f0, .str x0_15.f1, .int .i64 x0_15.f2]) :: (18, .int .i64 a_0) :: (17, .vec (b_1).length 3 ((b_1).flatMap e47)) :: (16, .bool true) :: E4)) (vidxH (sz := 3) e47_len (by kernel_rfl)) (fun _ => by kernel_rfl) (fun x0_15 hx0_15 => ?_)
   let E5 : Env := ((24, .bool (eqL x0_15.f1 [102, 117, 110])) :: (23, .bool (eqL x0_15.f1 [102, 117, 110])) :: (22, .bool (eqL x0_15.f1 [102, 117, 110])) :: (21, .str x0_15.f1) :: (20, .vptr [.str x0_15.f1, .int .i64 x0_15.f2]) :: (19, .vptr [.int .i64 x0_15.f0, .str x0_15.f1, .int .i64 x0_15.f2]) :: (18, .int .i64 a_0) :: (17, .vec (b_1).length 3 ((b_1).flatMap e47)) :: (16, .bool true) :: E4)
   refine oR 5 (p' := (atN 21 (ctl1 g39f50_0p1))) (eE := E5) (H' := (mkH [⟨[.vec (b_1).length 3 ((b_1).flatMap e47)], 0, false⟩, ⟨[.int .i64 b_2, .str b_3, .int .i64 b_4], 3, false⟩])) (by kernel_rfl) ?_
   refine oS 24 (b := eqL x0_15.f1 [102, 117, 110]) (by kernel_rfl) (fun hb => ?_) (fun hb => ?_)
   ·let E6 : Env := ((31, .bool (decide (fW .i64 (a_0 + 1) < (b_1.length : Int)))) :: (30, .bool (decide (fW .i64 (a_0 + 1) < (b_1.length : Int)))) :: (29, .bool (decide (fW .i64 (a_0 + 1) < (b_1.length : Int)))) :: (28, .int .i64 (b_1.length : Int)) :: (27, .vec (b_1).length 3 ((b_1).flatMap e47)) :: (26, .int .i64 (fW .i64 (a_0 + 1))) :: (25, .int .i64 a_0) :: (24, .bool true) :: E5)
    refine oR 7 (p' := (atN 28 (ctl1 g39f50_0p1))) (eE := E6) (H' := (mkH [⟨[.vec (b_1).length 3 ((b_1).flatMap e47)], 0, false⟩, ⟨[.int .i64 b_2, .str b_3, .int .i64 b_4], 3, false⟩])) (by kernel_rfl) ?_
    refine oS 31 (b := decide (fW .i64 (a_0 + 1) < (b_1.length : Int))) (by kernel_rfl) (fun hb => ?_) (fun hb => ?_)
    ·refine oR 3 (p' := (atN 31 (ctl1 g39f50_0p1))) (eE := ((34, .int .i64 (fW .i64 (a_0 + 1))) :: (33, .int .i64 a_0) :: (32, .vec (b_1).length 3 ((b_1).flatMap e47)) :: (31, .bool true) :: E6)) (H' := (mkH [⟨[.vec (b_1).length 3 ((b_1).flatMap e47)], 0, false⟩, ⟨[.int .i64 b_2, .str b_3, .int .i64 b_4], 3, false⟩])) (by kernel_rfl) ?_
     refine oH (fun (x0_31 : S46) => (.vptr [.int .i64 x0_31.f0, .str x0_31.f1, .int .i64 x0_31.f2], (mkH [⟨[.vec (b_1).length 3 ((b_1).flatMap e47)], 0, false⟩, ⟨[.int .i64 b_2, .str b_3, .int .i64 b_4], 3, false⟩]))) (atN 32 (ctl1 g39f50_0p1)) (fun x0_31 => ((35, .vptr [.int .i64 x0_31.f0, .str x0_31.f1, .int .i64 x0_31.f2]) :: (34, .int .i64 (fW .i64 (a_0 + 1))) :: (33, .int .i64 a_0) :: (32, .vec (b_1).length 3 ((b_1).flatMap e47)) :: (31, .bool true) :: E6)) (vidxH (sz := 3) e47_len (by kernel_rfl)) (fun _ => by kernel_rfl) (fun x0_31 hx0_31 => ?_)
     let E7 : Env := ((40, .bool (decide (x0_31.f0 = 9))) :: (39, .bool (decide (x0_31.f0 = 9))) :: (38, .bool (decide (x0_31.f0 = 9))) :: (37, .int .i64 x0_31.f0) :: (36, .vptr [.int .i64 x0_31.f0, .str x0_31.f1, .int .i64 x0_31.f2]) :: (35, .vptr [.int .i64 x0_31.f0, .str x0_31.f1, .int .i64 x0_31.f2]) :: (34, .int .i64 (fW .i64 (a_0 + 1))) :: (33, .int .i64 a_0) :: (32, .vec (b_1).length 3 ((b_1).flatMap e47)) :: (31, .bool true) :: E6)
     refine oR 5 (p' := (atN 37 (ctl1 g39f50_0p1))) (eE := E7) (H' := (mkH [⟨[.vec (b_1).length 3 ((b_1).flatMap e47)], 0, false⟩, ⟨[.int .i64 b_2, .str b_3, .int .i64 b_4], 3, false⟩])) (by kernel_rfl) ?_
     refine oS 40 (b := decide (x0_31.f0 = 9)) (by kernel_rfl) (fun hb => ?_) (fun hb => ?_)
     ·refine oR 3 (p' := (atN 40 (ctl1 g39f50_0p1))) (eE := ((43, .int .i64 (fW .i64 (a_0 + 1))) :: (42, .int .i64 a_0) :: (41, .vec (b_1).length 3 ((b_1).flatMap e47)) :: (40, .bool true) :: E7)) (H' := (mkH [⟨[.vec (b_1).length 3 ((b_1).flatMap e47)], 0, false⟩, ⟨[.int .i64 b_2, .str b_3, .int .i64 b_4], 3, false⟩])) (by kernel_rfl) ?_
      refine oH (fun (x0_40 : S46) => (.vptr [.int .i64 x0_40.f0, .str x0_40.f1, .int .i64 x0_40.f2], (mkH [⟨[.vec (b_1).length 3 ((b_1).flatMap e47)], 0, false⟩, ⟨[.int .i64 b_2, .str b_3, .int .i64 b_4], 3, false⟩]))) (atN 41 (ctl1 g39f50_0p1)) (fun x0_40 => ((44, .vptr [.int .i64 x0_40.f0, .str x0_40.f1, .int .i64 x0_40.f2]) :: (43, .int .i64 (fW .i64 (a_0 + 1))) :: (42, .int .i64 a_0) :: (41, .vec (b_1).length 3 ((b_1).flatMap e47)) :: (40, .bool true) :: E7)) (vidxH (sz := 3) e47_len (by kernel_rfl)) (fun _ => by kernel_rfl) (fun x0_40 hx0_40 => ?_)
      let E8 : Env := ((3, .bool (eqL x0_40.f1 [40])) :: (49, .bool (eqL x0_40.f1 [40])) :: (48, .bool (eqL x0_40.f1 [40])) :: (47, .bool (eqL x0_40.f1 [40])) :: (46, .str x0_40.f1) :: (45, .vptr [.str x0_40.f1, .int .i64 x0_40.f2]) :: (44, .vptr [.int .i64 x0_40.f0, .str x0_40.f1, .int .i64 x0_40.f2]) :: (43, .int .i64 (fW .i64 (a_0 + 1))) :: (42, .int .i64 a_0) :: (41, .vec (b_1).length 3 ((b_1).flatMap e47)) :: (40, .bool true) :: E7)
      refine oR 8 (p' := .fin) (eE := E8) (H' := (mkH [⟨[.vec (b_1).length 3 ((b_1).flatMap e47)], 0, false⟩, ⟨[.int .i64 b_2, .str b_3, .int .i64 b_4], 3, false⟩])) (by kernel_rfl) ?_
      refine oK [3] (eE := [(3, .bool (eqL x0_40.f1 [40]))]) (by kernel_rfl) ?_
      exact ok_retM (r := (eqL x0_40.f1 [40])) (xs := [.bool (eqL x0_40.f1 [40])]) (by kernel_rfl) (by kernel_rfl) (by kernel_rfl) (by kernel_rfl)
     ·let E9 : Env := ((3, .bool false) :: (49, .bool false) :: (48, .bool false) :: (47, .tuple []) :: (46, .tuple []) :: (45, .tuple []) :: (44, .tuple []) :: (43, .tuple []) :: (42, .tuple []) :: (41, .tuple []) :: (40, .bool false) :: E7)
      refine oR 12 (p' := .fin) (eE := E9) (H' := (mkH [⟨[.vec (b_1).length 3 ((b_1).flatMap e47)], 0, false⟩, ⟨[.int .i64 b_2, .str b_3, .int .i64 b_4], 3, false⟩])) (by kernel_rfl) ?_
      refine oK [3] (eE := [(3, .bool false)]) (by kernel_rfl) ?_
      exact ok_retM (r := false) (xs := [.bool false]) (by kernel_rfl) (by kernel_rfl) (by kernel_rfl) (by kernel_rfl)
    ·let E10 : Env := ((3, .bool false) :: (49, .bool false) :: (48, .bool false) :: (47, .tuple []) :: (46, .tuple []) :: (45, .tuple []) :: (44, .tuple []) :: (43, .tuple []) :: (42, .tuple []) :: (41, .tuple []) :: (40, .bool false) :: (39, .bool false) :: (38, .tuple []) :: (37, .tuple []) :: (36, .tuple []) :: (35, .tuple []) :: (34, .tuple []) :: (33, .tuple []) :: (32, .tuple []) :: (31, .bool false) :: E6)
     refine oR 21 (p' := .fin) (eE := E10) (H' := (mkH [⟨[.vec (b_1).length 3 ((b_1).flatMap e47)], 0, false⟩, ⟨[.int .i64 b_2, .str b_3, .int .i64 b_4], 3, false⟩])) (by kernel_rfl) ?_
     refine oK [3] (eE := [(3, .bool false)]) (by kernel_rfl) ?_
     exact ok_retM (r := false) (xs := [.bool false]) (by kernel_rfl) (by kernel_rfl) (by kernel_rfl) (by kernel_rfl)
   ·let E11 : Env := ((3, .bool false) :: (49, .bool false) :: (48, .bool false) :: (47, .tuple []) :: (46, .tuple []) :: (45, .tuple []) :: (44, .tuple []) :: (43, .tuple []) :: (42, .tuple []) :: (41, .tuple []) :: (40, .bool false) :: (39, .bool false) :: (38, .tuple []) :: (37, .tuple []) :: (36, .tuple []) :: (35, .tuple []) :: (34, .tuple []) :: (33, .tuple []) :: (32, .tuple []) :: (31, .bool false) :: (30, .bool false) :: (29, .tuple []) :: (28, .tuple []) :: (27, .tuple []) :: (26, .tuple []) :: (25, .tuple []) :: (24, .bool false) :: E5)
    refine oR 28 (p' := .fin) (eE := E11) (H' := (mkH [⟨[.vec (b_1).length 3 ((b_1).flatMap e47)], 0, false⟩, ⟨[.int .i64 b_2, .str b_3, .int .i64 b_4], 3, false⟩])) (by kernel_rfl) ?_
    refine oK [3] (eE := [(3, .bool false)]) (by kernel_rfl) ?_
    exact ok_retM (r := false) (xs := [.bool false]) (by kernel_rfl) (by kernel_rfl) (by kernel_rfl) (by kernel_rfl)
  ·let E12 : Env := ((3, .bool false) :: (49, .bool false) :: (48, .bool false) :: (47, .tuple []) :: (46, .tuple []) :: (45, .tuple []) :: (44, .tuple []) :: (43, .tuple []) :: (42, .tuple []) :: (41, .tuple []) :: (40, .bool false) :: (39, .bool false) :: (38, .tuple []) :: (37, .tuple []) :: (36, .tuple []) :: (35, .tuple []) :: (34, .tuple []) :: (33, .tuple []) :: (32, .tuple []) :: (31, .bool false) :: (30, .bool false) :: (29, .tuple []) :: (28, .tuple []) :: (27, .tuple []) :: (26, .tuple []) :: (25, .tuple []) :: (24, .bool false) :: (23, .bool false) :: (22, .tuple []) :: (21, .tuple []) :: (20, .tuple []) :: (19, .tuple []) :: (18, .tuple []) :: (17, .tuple []) :: (16, .bool false) :: E4)
   refine oR 36 (p' := .fin) (eE := E12) (H' := (mkH [⟨[.vec (b_1).length 3 ((b_1).flatMap e47)], 0, false⟩, ⟨[.int .i64 b_2, .str b_3, .int .i64 b_4], 3, false⟩])) (by kernel_rfl) ?_
   refine oK [3] (eE := [(3, .bool false)]) (by kernel_rfl) ?_
   exact ok_retM (r := false) (xs := [.bool false]) (by kernel_rfl) (by kernel_rfl) (by kernel_rfl) (by kernel_rfl)
def g39p0 : Pt := nav [0] (bodyAt Try.f39)
def g39p1 : Pt := nav [0, 0, 0] g39p0
def g39p2 : Pt := nav [0, 0, 0] g39p1
def g39p3 : Pt := nav [0, 0, 0, 0] g39p2
def g39p4 : Pt := nav [0, 0, 0, 0] g39p3
def g39p5 : Pt := nav [0, 0] g39p4
def g39p6 : Pt := nav [0, 0, 0] g39p5
def g39p7 : Pt := nav [1, 0, 0, 0, 0] g39p6
def g39p9 : Pt := nav [0, 0, 0, 0, 0] g39p7
def g39p11 : Pt := nav [0, 0] g39p9
def g39p12 : Pt := nav [1] g39p11
def g39p13 : Pt := nav [2, 0] g39p11
def g39p14 : Pt := nav [0, 0] g39p12
def g39p15 : Pt := nav [0, 0] g39p13
def g39_l3 (k : Nat)  (a0 : (List S46)) (n : Nat) : Int → Int → Int → Option Int :=
 Nat.rec (motive := fun _ => Int → Int → Int → Option Int) (fun _ _ _ => none) (fun _ ih => fun (y3_0 : Int) (y3_1 : Int) (y3_2 : Int) => if (decide (y3_2 < (a0.length : Int))) then ((nthL a0 y3_2).bind fun x0_1 => (g39f50_0 k y3_2 a0 x0_1.f0 x0_1.f1 x0_1.f2).bind fun x1_2 => jn (fun (z4 : Int × Int × Int) => ih z4.1 (maxI z4.2.1 z4.1) (fW .i64 (z4.2.2 + 1))) (fun j4 => if x1_2 then (j4 (fW .i64 (y3_0 + 1), y3_1, y3_2)) else ((g52 k (⟨x0_1.f0, x0_1.f1, x0_1.f2⟩ : S46)).bind fun x2_1 => if x2_1 then (j4 (maxI (fW .i64 (y3_0 - 1)) 0, y3_1, y3_2)) else (j4 (y3_0, y3_1, y3_2))))) else (some y3_1)) n
theorem g39_l3_s (k : Nat)  (a0 : (List S46)) (n : Nat) (y3_0 : Int) (y3_1 : Int) (y3_2 : Int) : g39_l3 k a0 (n + 1) y3_0 y3_1 y3_2 = (if (decide (y3_2 < (a0.length : Int))) then ((nthL a0 y3_2).bind fun x0_1 => (g39f50_0 k y3_2 a0 x0_1.f0 x0_1.f1 x0_1.f2).bind fun x1_2 => jn (fun (z4 : Int × Int × Int) => (g39_l3 k a0 n) z4.1 (maxI z4.2.1 z4.1) (fW .i64 (z4.2.2 + 1))) (fun j4 => if x1_2 then (j4 (fW .i64 (y3_0 + 1), y3_1, y3_2)) else ((g52 k (⟨x0_1.f0, x0_1.f1, x0_1.f2⟩ : S46)).bind fun x2_1 => if x2_1 then (j4 (maxI (fW .i64 (y3_0 - 1)) 0, y3_1, y3_2)) else (j4 (y3_0, y3_1, y3_2))))) else (some y3_1)) := rfl
theorem g39_l3_ok (k : Nat)  (a0 : (List S46))  : ∀ (n : Nat) (y3_0 : Int) (y3_1 : Int) (y3_2 : Int), Ok X39 g39p4 [(3, .int .i64 y3_0), (4, .int .i64 y3_1), (5, .func 50 [] [.ptr 0 1 0]), (9, .vec (a0).length 3 ((a0).flatMap e47)), (10, .int .i64 (a0.length : Int)), (11, .int .i64 y3_2)] (mkH [⟨[.vec (a0).length 3 ((a0).flatMap e47)], 0, false⟩]) (g39_l3 k a0 n y3_0 y3_1 y3_2)
 | 0, _, _, _ => ok_none
 | n + 1, y3_0, y3_1, y3_2 => by
  have ih := g39_l3_ok k a0 n
  rw [g39_l3_s]
  refine ok_ent (p' := nav [0] g39p4) (by kernel_rfl) ?_
  let E2 : Env := [(12, .bool (decide (y3_2 < (a0.length : Int)))), (3, .int .i64 y3_0), (4, .int .i64 y3_1), (5, .func 50 [] [.ptr 0 1 0]), (9, .vec (a0).length 3 ((a0).flatMap e47)), (10, .int .i64 (a0.length : Int)), (11, .int .i64 y3_2)]
  refine oR 5 (p' := g39p6) (eE := E2) (H' := (mkH [⟨[.vec (a0).length 3 ((a0).flatMap e47)], 0, false⟩])) (by kernel_rfl) ?_
  refine oS 12 (b := decide (y3_2 < (a0.length : Int))) (by kernel_rfl) (fun hb => ?_) (fun hb => ?_)
  ·refine oR 7 (p' := (atN 1 (ctl1 g39p7))) (eE := ((13, .int .i64 y3_2) :: (12, .bool true) :: E2)) (H' := (mkH [⟨[.vec (a0).length 3 ((a0).flatMap e47)], 0, false⟩])) (by kernel_rfl) ?_
   refine oH (fun (x0_1 : S46) => (.vptr [.int .i64 x0_1.f0, .str x0_1.f1, .int .i64 x0_1.f2], (mkH [⟨[.vec (a0).length 3 ((a0).flatMap e47)], 0, false⟩]))) (atN 2 (ctl1 g39p7)) (fun x0_1 => ((14, .vptr [.int .i64 x0_1.f0, .str x0_1.f1, .int .i64 x0_1.f2]) :: (13, .int .i64 y3_2) :: (12, .bool true) :: E2)) (vidxH (sz := 3) e47_len (by kernel_rfl)) (fun _ => by kernel_rfl) (fun x0_1 hx0_1 => ?_)
   let E3 : Env := ((18, .int .i64 y3_2) :: (17, .func 50 [] [.ptr 0 1 0]) :: (6, .int .i64 y3_2) :: (7, .ptr 1 3 0) :: (15, .agg [.int .i64 x0_1.f0, .str x0_1.f1, .int .i64 x0_1.f2]) :: (14, .vptr [.int .i64 x0_1.f0, .str x0_1.f1, .int .i64 x0_1.f2]) :: (13, .int .i64 y3_2) :: (12, .bool true) :: E2)
   refine oR 11 (p' := (atN 2 (ctl1 g39p9))) (eE := E3) (H' := (mkH [⟨[.vec (a0).length 3 ((a0).flatMap e47)], 0, false⟩, ⟨[.int .i64 x0_1.f0, .str x0_1.f1, .int .i64 x0_1.f2], 3, false⟩])) (by kernel_rfl) ?_
   refine ok_callM (fun (x1_2 : Bool) => .bool x1_2) (fun (x1_2 : Bool) => (mkH [⟨[.vec (a0).length 3 ((a0).flatMap e47)], 0, false⟩, ⟨[.int .i64 x0_1.f0, .str x0_1.f1, .int .i64 x0_1.f2], 3, false⟩])) (atN 3 (ctl1 g39p9)) (fun x1_2 => ((19, .bool x1_2) :: E3)) (fi := 50) (args := [.int .i64 y3_2, .ptr 0 1 0]) (by kernel_rfl) (fun r h => g39f50_0_ok k y3_2 a0 x0_1.f0 x0_1.f1 x0_1.f2 r h) (fun _ => by kernel_rfl) (fun x1_2 hx1_2 => ?_)
   refine oR 2 (p' := g39p11) (eE := ((16, .bool x1_2) :: (19, .bool x1_2) :: E3)) (H' := (mkH [⟨[.vec (a0).length 3 ((a0).flatMap e47)], 0, false⟩, ⟨[.int .i64 x0_1.f0, .str x0_1.f1, .int .i64 x0_1.f2], 3, false⟩])) (by kernel_rfl) ?_
   refine oK [3, 4, 5, 7, 9, 10, 11, 16] (eE := [(3, .int .i64 y3_0), (4, .int .i64 y3_1), (5, .func 50 [] [.ptr 0 1 0]), (7, .ptr 1 3 0), (9, .vec (a0).length 3 ((a0).flatMap e47)), (10, .int .i64 (a0.length : Int)), (11, .int .i64 y3_2), (16, .bool x1_2)]) (by kernel_rfl) ?_
   refine oJ (f := fun (z4 : Int × Int × Int) => (g39_l3 k a0 n) z4.1 (maxI z4.2.1 z4.1) (fW .i64 (z4.2.2 + 1))) g39p14 (fun (z4 : Int × Int × Int) => [(3, .int .i64 z4.1), (4, .int .i64 z4.2.1), (5, .func 50 [] [.ptr 0 1 0]), (9, .vec (a0).length 3 ((a0).flatMap e47)), (10, .int .i64 (a0.length : Int)), (11, .int .i64 z4.2.2)]) (fun (z4 : Int × Int × Int) => (mkH [⟨[.vec (a0).length 3 ((a0).flatMap e47)], 0, false⟩])) (fun z4 => ?_) (fun j4 hj4 => ?_)
   ·let E4 : Env := [(11, .int .i64 (fW .i64 (z4.2.2 + 1))), (31, .int .i64 (fW .i64 (z4.2.2 + 1))), (4, .int .i64 (maxI z4.2.1 z4.1)), (30, .int .i64 (maxI z4.2.1 z4.1)), (29, .int .i64 z4.1), (28, .int .i64 z4.2.1), (3, .int .i64 z4.1), (4, .int .i64 z4.2.1), (5, .func 50 [] [.ptr 0 1 0]), (9, .vec (a0).length 3 ((a0).flatMap e47)), (10, .int .i64 (a0.length : Int)), (11, .int .i64 z4.2.2)]
    refine oR 10 (p' := g39p4) (eE := E4) (H' := (mkH [⟨[.vec (a0).length 3 ((a0).flatMap e47)], 0, false⟩])) (by kernel_rfl) ?_
    refine oK [3, 4, 5, 9, 10, 11] (eE := [(3, .int .i64 z4.1), (4, .int .i64 (maxI z4.2.1 z4.1)), (5, .func 50 [] [.ptr 0 1 0]), (9, .vec (a0).length 3 ((a0).flatMap e47)), (10, .int .i64 (a0.length : Int)), (11, .int .i64 (fW .i64 (z4.2.2 + 1)))]) (by kernel_rfl) ?_
    exact ih z4.1 (maxI z4.2.1 z4.1) (fW .i64 (z4.2.2 + 1))
   ·refine oS 16 (b := x1_2) (by kernel_rfl) (fun hb => ?_) (fun hb => ?_)
    ·let E5 : Env := [(3, .int .i64 (fW .i64 (y3_0 + 1))), (21, .int .i64 (fW .i64 (y3_0 + 1))), (20, .int .i64 y3_0), (16, .bool true), (3, .int .i64 y3_0), (4, .int .i64 y3_1), (5, .func 50 [] [.ptr 0 1 0]), (7, .ptr 1 3 0), (9, .vec (a0).length 3 ((a0).flatMap e47)), (10, .int .i64 (a0.length : Int)), (11, .int .i64 y3_2), (16, .bool x1_2)]
     refine oR 6 (p' := g39p14) (eE := E5) (H' := (mkH [⟨[.vec (a0).length 3 ((a0).flatMap e47)], 0, false⟩, ⟨[.int .i64 x0_1.f0, .str x0_1.f1, .int .i64 x0_1.f2], 3, false⟩])) (by kernel_rfl) ?_
     refine oK [3, 4, 5, 9, 10, 11] (eE := [(3, .int .i64 (fW .i64 (y3_0 + 1))), (4, .int .i64 y3_1), (5, .func 50 [] [.ptr 0 1 0]), (9, .vec (a0).length 3 ((a0).flatMap e47)), (10, .int .i64 (a0.length : Int)), (11, .int .i64 y3_2)]) (by kernel_rfl) ?_
     refine ok_cut [⟨[.vec (a0).length 3 ((a0).flatMap e47)], 0, false⟩] [⟨[.int .i64 x0_1.f0, .str x0_1.f1, .int .i64 x0_1.f2], 3, false⟩] (by kernel_rfl) rfl (by kernel_rfl) ⟨(by kernel_rfl), trivial⟩ ?_
     exact hj4 (fW .i64 (y3_0 + 1), y3_1, y3_2)
    ·let E6 : Env := [(23, .agg [.int .i64 x0_1.f0, .str x0_1.f1, .int .i64 x0_1.f2]), (16, .bool false), (3, .int .i64 y3_0), (4, .int .i64 y3_1), (5, .func 50 [] [.ptr 0 1 0]), (7, .ptr 1 3 0), (9, .vec (a0).length 3 ((a0).flatMap e47)), (10, .int .i64 (a0.length : Int)), (11, .int .i64 y3_2), (16, .bool x1_2)]
     refine oR 4 (p' := (atN 1 (ctl1 g39p13))) (eE := E6) (H' := (mkH [⟨[.vec (a0).length 3 ((a0).flatMap e47)], 0, false⟩, ⟨[.int .i64 x0_1.f0, .str x0_1.f1, .int .i64 x0_1.f2], 3, false⟩])) (by kernel_rfl) ?_
     refine oC (fun (x2_1 : Bool) => .bool x2_1) (atN 2 (ctl1 g39p13)) (fun x2_1 => ((24, .bool x2_1) :: E6)) (fi := 52) (args := [.agg [.int .i64 x0_1.f0, .str x0_1.f1, .int .i64 x0_1.f2]]) (by kernel_rfl) (by kernel_rfl) (fun _ => by kernel_rfl) (fun r h => g52_ok k (⟨x0_1.f0, x0_1.f1, x0_1.f2⟩ : S46) r h) (fun _ => by kernel_rfl) (fun x2_1 hx2_1 => ?_)
     refine oR 2 (p' := g39p15) (eE := ((22, .bool x2_1) :: (24, .bool x2_1) :: E6)) (H' := (mkH [⟨[.vec (a0).length 3 ((a0).flatMap e47)], 0, false⟩, ⟨[.int .i64 x0_1.f0, .str x0_1.f1, .int .i64 x0_1.f2], 3, false⟩])) (by kernel_rfl) ?_
     refine oS 22 (b := x2_1) (by kernel_rfl) (fun hb => ?_) (fun hb => ?_)
     ·let E7 : Env := ((3, .int .i64 (maxI (fW .i64 (y3_0 - 1)) 0)) :: (27, .int .i64 (maxI (fW .i64 (y3_0 - 1)) 0)) :: (26, .int .i64 (fW .i64 (y3_0 - 1))) :: (25, .int .i64 y3_0) :: (22, .bool true) :: (22, .bool x2_1) :: (24, .bool x2_1) :: E6)
      refine oR 7 (p' := g39p14) (eE := E7) (H' := (mkH [⟨[.vec (a0).length 3 ((a0).flatMap e47)], 0, false⟩, ⟨[.int .i64 x0_1.f0, .str x0_1.f1, .int .i64 x0_1.f2], 3, false⟩])) (by kernel_rfl) ?_
      refine oK [3, 4, 5, 9, 10, 11] (eE := [(3, .int .i64 (maxI (fW .i64 (y3_0 - 1)) 0)), (4, .int .i64 y3_1), (5, .func 50 [] [.ptr 0 1 0]), (9, .vec (a0).length 3 ((a0).flatMap e47)), (10, .int .i64 (a0.length : Int)), (11, .int .i64 y3_2)]) (by kernel_rfl) ?_
      refine ok_cut [⟨[.vec (a0).length 3 ((a0).flatMap e47)], 0, false⟩] [⟨[.int .i64 x0_1.f0, .str x0_1.f1, .int .i64 x0_1.f2], 3, false⟩] (by kernel_rfl) rfl (by kernel_rfl) ⟨(by kernel_rfl), trivial⟩ ?_
      exact hj4 (maxI (fW .i64 (y3_0 - 1)) 0, y3_1, y3_2)
     ·refine oR 2 (p' := g39p14) (eE := ((22, .bool false) :: (22, .bool x2_1) :: (24, .bool x2_1) :: E6)) (H' := (mkH [⟨[.vec (a0).length 3 ((a0).flatMap e47)], 0, false⟩, ⟨[.int .i64 x0_1.f0, .str x0_1.f1, .int .i64 x0_1.f2], 3, false⟩])) (by kernel_rfl) ?_
      refine oK [3, 4, 5, 9, 10, 11] (eE := [(3, .int .i64 y3_0), (4, .int .i64 y3_1), (5, .func 50 [] [.ptr 0 1 0]), (9, .vec (a0).length 3 ((a0).flatMap e47)), (10, .int .i64 (a0.length : Int)), (11, .int .i64 y3_2)]) (by kernel_rfl) ?_
      refine ok_cut [⟨[.vec (a0).length 3 ((a0).flatMap e47)], 0, false⟩] [⟨[.int .i64 x0_1.f0, .str x0_1.f1, .int .i64 x0_1.f2], 3, false⟩] (by kernel_rfl) rfl (by kernel_rfl) ⟨(by kernel_rfl), trivial⟩ ?_
      exact hj4 (y3_0, y3_1, y3_2)
  ·refine oR 8 (p' := .fin) (eE := ((2, .int .i64 y3_1) :: (32, .int .i64 y3_1) :: (12, .bool false) :: E2)) (H' := (mkH [⟨[.vec (a0).length 3 ((a0).flatMap e47)], 0, false⟩])) (by kernel_rfl) ?_
   exact oT (r := y3_1) (xs := [.int .i64 y3_1]) (v := .int .i64 y3_1) (by kernel_rfl) (by kernel_rfl) (by kernel_rfl) (.pures (by kernel_rfl)) (by kernel_rfl)
def g39 (k : Nat) (a0 : (List S46)) : Option Int :=
 g39_l3 k a0 k 0 0 0
theorem g39_ok (k : Nat) (a0 : (List S46)) (r : Int) (h : g39 k a0 = some r) : PureOk Try.prog 39 [.vec (a0).length 3 ((a0).flatMap e47)] (.int .i64 r) := by
 refine pure_of X39 (fun _ => rfl) Try.func39 (by decide +kernel) (by kernel_rfl) (t := g39 k a0) ?_ h
 unfold g39
 refine oE (eE := [(0, .vec (a0).length 3 ((a0).flatMap e47))]) (by kernel_rfl) ?_
 let E1 : Env := [(11, .int .i64 0), (10, .int .i64 (a0.length : Int)), (9, .vec (a0).length 3 ((a0).flatMap e47)), (5, .func 50 [] [.ptr 0 1 0]), (8, .func 50 [] [.ptr 0 1 0]), (4, .int .i64 0), (3, .int .i64 0), (2, .int .i64 0), (1, .ptr 0 1 0), (0, .vec (a0).length 3 ((a0).flatMap e47))]
 refine oR 24 (p' := g39p4) (eE := E1) (H' := (mkH [⟨[.vec (a0).length 3 ((a0).flatMap e47)], 0, false⟩])) (by kernel_rfl) ?_
 refine oK [3, 4, 5, 9, 10, 11] (eE := [(3, .int .i64 0), (4, .int .i64 0), (5, .func 50 [] [.ptr 0 1 0]), (9, .vec (a0).length 3 ((a0).flatMap e47)), (10, .int .i64 (a0.length : Int)), (11, .int .i64 0)]) (by kernel_rfl) ?_
 exact (g39_l3_ok k a0 k) 0 0 0
end
end Go.Proofs.Ytbmijiibfaacmaa.Am
set_option maxRecDepth 100000
set_option linter.unusedVariables false
namespace Go.Proofs.Ytbmijiibfaacmaa.Am
noncomputable section
open Go
def X40 : Fx Int := ⟨Try.prog, cx, Try.f40, fun r => .int .i64 r, 0, fun _ => H0, cxTi, cxOrd⟩
def g40p0 : Pt := nav [0] (bodyAt Try.f40)
def g40p1 : Pt := nav [0, 0, 0] g40p0
def g40p2 : Pt := nav [0, 0, 0, 0] g40p1
def g40p3 : Pt := nav [0, 0, 0, 0] g40p2
def g40p4 : Pt := nav [0, 0, 0] g40p3
def g40p5 : Pt := nav [0, 0] g40p4
def g40p6 : Pt := nav [1, 0, 0, 0, 0, 0, 0] g40p5
def g40p8 : Pt := nav [0, 0] g40p6
def g40p10 : Pt := nav [1] g40p8
def g40p11 : Pt := nav [2, 0] g40p8
def g40p12 : Pt := nav [0, 0] g40p10
def g40p13 : Pt := nav [0, 0] g40p11
def g40_l2 (k : Nat)  (a0 : (List S46)) (n : Nat) : Int → Int → Int → Option Int :=
 Nat.rec (motive := fun _ => Int → Int → Int → Option Int) (fun _ _ _ => none) (fun _ ih => fun (y2_0 : Int) (y2_1 : Int) (y2_2 : Int) => if (decide (y2_2 < (a0.length : Int))) then ((nthL a0 y2_2).bind fun x0_2 => (g53 k (⟨x0_2.f0, x0_2.f1, x0_2.f2⟩ : S46)).bind fun x0_4 => jn (fun (z3 : Bool × Int × Int × Int) => jn (fun (z4 : Int × Int × Int) => ih z4.1 (maxI z4.2.1 z4.1) (fW .i64 (z4.2.2 + 1))) (fun j4 => if z3.1 then (j4 (fW .i64 (z3.2.1 + 1), z3.2.2.1, z3.2.2.2)) else ((nthL a0 z3.2.2.2).bind fun x1_2 => (g54 k (⟨x1_2.f0, x1_2.f1, x1_2.f2⟩ : S46)).bind fun x1_4 => jn (fun (z5 : Int × Int × Int × Bool) => if z5.2.2.2 then (j4 (fW .i64 (z5.1 - 1), z5.2.1, z5.2.2.1)) else (j4 (z5.1, z5.2.1, z5.2.2.1))) (fun j5 => if x1_4 then (j5 (z3.2.1, z3.2.2.1, z3.2.2.2, decide (0 < z3.2.1))) else (j5 (z3.2.1, z3.2.2.1, z3.2.2.2, false)))))) (fun j3 => if x0_4 then (j3 (true, y2_0, y2_1, y2_2)) else ((nthL a0 y2_2).bind fun x0_8 => if (decide (x0_8.f0 = 8)) then ((nthL a0 y2_2).bind fun x0_15 => if (eqL x0_15.f1 [102, 117, 110]) then (if (decide (fW .i64 (y2_2 + 1) < (a0.length : Int))) then ((nthL a0 (fW .i64 (y2_2 + 1))).bind fun x0_31 => if (decide (x0_31.f0 = 9)) then ((nthL a0 (fW .i64 (y2_2 + 1))).bind fun x0_40 => j3 (eqL x0_40.f1 [40], y2_0, y2_1, y2_2)) else (j3 (false, y2_0, y2_1, y2_2))) else (j3 (false, y2_0, y2_1, y2_2))) else (j3 (false, y2_0, y2_1, y2_2))) else (j3 (false, y2_0, y2_1, y2_2))))) else (some y2_1)) n
theorem g40_l2_s (k : Nat)  (a0 : (List S46)) (n : Nat) (y2_0 : Int) (y2_1 : Int) (y2_2 : Int) : g40_l2 k a0 (n + 1) y2_0 y2_1 y2_2 = (if (decide (y2_2 < (a0.length : Int))) then ((nthL a0 y2_2).bind fun x0_2 => (g53 k (⟨x0_2.f0, x0_2.f1, x0_2.f2⟩ : S46)).bind fun x0_4 => jn (fun (z3 : Bool × Int × Int × Int) => jn (fun (z4 : Int × Int × Int) => (g40_l2 k a0 n) z4.1 (maxI z4.2.1 z4.1) (fW .i64 (z4.2.2 + 1))) (fun j4 => if z3.1 then (j4 (fW .i64 (z3.2.1 + 1), z3.2.2.1, z3.2.2.2)) else ((nthL a0 z3.2.2.2).bind fun x1_2 => (g54 k (⟨x1_2.f0, x1_2.f1, x1_2.f2⟩ : S46)).bind fun x1_4 => jn (fun (z5 : Int × Int × Int × Bool) => if z5.2.2.2 then (j4 (fW .i64 (z5.1 - 1), z5.2.1, z5.2.2.1)) else (j4 (z5.1, z5.2.1, z5.2.2.1))) (fun j5 => if x1_4 then (j5 (z3.2.1, z3.2.2.1, z3.2.2.2, decide (0 < z3.2.1))) else (j5 (z3.2.1, z3.2.2.1, z3.2.2.2, false)))))) (fun j3 => if x0_4 then (j3 (true, y2_0, y2_1, y2_2)) else ((nthL a0 y2_2).bind fun x0_8 => if (decide (x0_8.f0 = 8)) then ((nthL a0 y2_2).bind fun x0_15 => if (eqL x0_15.f1 [102, 117, 110]) then (if (decide (fW .i64 (y2_2 + 1) < (a0.length : Int))) then ((nthL a0 (fW .i64 (y2_2 + 1))).bind fun x0_31 => if (decide (x0_31.f0 = 9)) then ((nthL a0 (fW .i64 (y2_2 + 1))).bind fun x0_40 => j3 (eqL x0_40.f1 [40], y2_0, y2_1, y2_2)) else (j3 (false, y2_0, y2_1, y2_2))) else (j3 (false, y2_0, y2_1, y2_2))) else (j3 (false, y2_0, y2_1, y2_2))) else (j3 (false, y2_0, y2_1, y2_2))))) else (some y2_1)) := rfl
theorem g40_l2_ok (k : Nat)  (a0 : (List S46))  : ∀ (n : Nat) (y2_0 : Int) (y2_1 : Int) (y2_2 : Int), Ok X40 g40p3 [(0, .vec (a0).length 3 ((a0).flatMap e47)), (3, .int .i64 y2_0), (4, .int .i64 y2_1), (5, .int .i64 y2_2)] (mkH []) (g40_l2 k a0 n y2_0 y2_1 y2_2)
 | 0, _, _, _ => ok_none
 | n + 1, y2_0, y2_1, y2_2 => by
  have ih := g40_l2_ok k a0 n
  rw [g40_l2_s]
  refine ok_ent (p' := nav [0] g40p3) (by kernel_rfl) ?_
  let E2 : Env := [(9, .bool (decide (y2_2 < (a0.length : Int)))), (8, .int .i64 (a0.length : Int)), (7, .vec (a0).length 3 ((a0).flatMap e47)), (6, .int .i64 y2_2), (0, .vec (a0).length 3 ((a0).flatMap e47)), (3, .int .i64 y2_0), (4, .int .i64 y2_1), (5, .int .i64 y2_2)]
  refine oR 8 (p' := g40p5) (eE := E2) (H' := (mkH [])) (by kernel_rfl) ?_
  refine oS 9 (b := decide (y2_2 < (a0.length : Int))) (by kernel_rfl) (fun hb => ?_) (fun hb => ?_)
  ·refine oR 10 (p' := (atN 2 (ctl1 g40p6))) (eE := ((14, .int .i64 y2_2) :: (13, .vec (a0).length 3 ((a0).flatMap e47)) :: (9, .bool true) :: E2)) (H' := (mkH [])) (by kernel_rfl) ?_
   refine oH (fun (x0_2 : S46) => (.vptr [.int .i64 x0_2.f0, .str x0_2.f1, .int .i64 x0_2.f2], (mkH []))) (atN 3 (ctl1 g40p6)) (fun x0_2 => ((15, .vptr [.int .i64 x0_2.f0, .str x0_2.f1, .int .i64 x0_2.f2]) :: (14, .int .i64 y2_2) :: (13, .vec (a0).length 3 ((a0).flatMap e47)) :: (9, .bool true) :: E2)) (vidxH (sz := 3) e47_len (by kernel_rfl)) (fun _ => by kernel_rfl) (fun x0_2 hx0_2 => ?_)
   let E3 : Env := ((16, .agg [.int .i64 x0_2.f0, .str x0_2.f1, .int .i64 x0_2.f2]) :: (15, .vptr [.int .i64 x0_2.f0, .str x0_2.f1, .int .i64 x0_2.f2]) :: (14, .int .i64 y2_2) :: (13, .vec (a0).length 3 ((a0).flatMap e47)) :: (9, .bool true) :: E2)
   refine oR 1 (p' := (atN 4 (ctl1 g40p6))) (eE := E3) (H' := (mkH [])) (by kernel_rfl) ?_
   refine oC (fun (x0_4 : Bool) => .bool x0_4) (atN 5 (ctl1 g40p6)) (fun x0_4 => ((17, .bool x0_4) :: E3)) (fi := 53) (args := [.agg [.int .i64 x0_2.f0, .str x0_2.f1, .int .i64 x0_2.f2]]) (by kernel_rfl) (by kernel_rfl) (fun _ => by kernel_rfl) (fun r h => g53_ok k (⟨x0_2.f0, x0_2.f1, x0_2.f2⟩ : S46) r h) (fun _ => by kernel_rfl) (fun x0_4 hx0_4 => ?_)
   refine oR 1 (p' := (atN 6 (ctl1 g40p6))) (eE := ((18, .bool x0_4) :: (17, .bool x0_4) :: E3)) (H' := (mkH [])) (by kernel_rfl) ?_
   refine oJ (f := fun (z3 : Bool × Int × Int × Int) => jn (fun (z4 : Int × Int × Int) => (g40_l2 k a0 n) z4.1 (maxI z4.2.1 z4.1) (fW .i64 (z4.2.2 + 1))) (fun j4 => if z3.1 then (j4 (fW .i64 (z3.2.1 + 1), z3.2.2.1, z3.2.2.2)) else ((nthL a0 z3.2.2.2).bind fun x1_2 => (g54 k (⟨x1_2.f0, x1_2.f1, x1_2.f2⟩ : S46)).bind fun x1_4 => jn (fun (z5 : Int × Int × Int × Bool) => if z5.2.2.2 then (j4 (fW .i64 (z5.1 - 1), z5.2.1, z5.2.2.1)) else (j4 (z5.1, z5.2.1, z5.2.2.1))) (fun j5 => if x1_4 then (j5 (z3.2.1, z3.2.2.1, z3.2.2.2, decide (0 < z3.2.1))) else (j5 (z3.2.1, z3.2.2.1, z3.2.2.2, false)))))) g40p8 (fun (z3 : Bool × Int × Int × Int) => [(0, .vec (a0).length 3 ((a0).flatMap e47)), (3, .int .i64 z3.2.1), (4, .int .i64 z3.2.2.1), (5, .int .i64 z3.2.2.2), (12, .bool z3.1)]) (fun (z3 : Bool × Int × Int × Int) => (mkH [])) (fun z3 => ?_) (fun j3 hj3 => ?_)
   ·refine oJ (f := fun (z4 : Int × Int × Int) => (g40_l2 k a0 n) z4.1 (maxI z4.2.1 z4.1) (fW .i64 (z4.2.2 + 1))) g40p12 (fun (z4 : Int × Int × Int) => [(0, .vec (a0).length 3 ((a0).flatMap e47)), (3, .int .i64 z4.1), (4, .int .i64 z4.2.1), (5, .int .i64 z4.2.2)]) (fun (z4 : Int × Int × Int) => (mkH [])) (fun z4 => ?_) (fun j4 hj4 => ?_)
    ·let E4 : Env := [(5, .int .i64 (fW .i64 (z4.2.2 + 1))), (11, .int .i64 (fW .i64 (z4.2.2 + 1))), (10, .int .i64 z4.2.2), (4, .int .i64 (maxI z4.2.1 z4.1)), (75, .int .i64 (maxI z4.2.1 z4.1)), (74, .int .i64 z4.1), (73, .int .i64 z4.2.1), (0, .vec (a0).length 3 ((a0).flatMap e47)), (3, .int .i64 z4.1), (4, .int .i64 z4.2.1), (5, .int .i64 z4.2.2)]
     refine oR 11 (p' := g40p3) (eE := E4) (H' := (mkH [])) (by kernel_rfl) ?_
     refine oK [0, 3, 4, 5] (eE := [(0, .vec (a0).length 3 ((a0).flatMap e47)), (3, .int .i64 z4.1), (4, .int .i64 (maxI z4.2.1 z4.1)), (5, .int .i64 (fW .i64 (z4.2.2 + 1)))]) (by kernel_rfl) ?_
     exact ih z4.1 (maxI z4.2.1 z4.1) (fW .i64 (z4.2.2 + 1))
    ·refine oS 12 (b := z3.1) (by kernel_rfl) (fun hb => ?_) (fun hb => ?_)
     ·let E5 : Env := [(3, .int .i64 (fW .i64 (z3.2.1 + 1))), (60, .int .i64 (fW .i64 (z3.2.1 + 1))), (59, .int .i64 z3.2.1), (12, .bool true), (0, .vec (a0).length 3 ((a0).flatMap e47)), (3, .int .i64 z3.2.1), (4, .int .i64 z3.2.2.1), (5, .int .i64 z3.2.2.2), (12, .bool z3.1)]
      refine oR 6 (p' := g40p12) (eE := E5) (H' := (mkH [])) (by kernel_rfl) ?_
      refine oK [0, 3, 4, 5] (eE := [(0, .vec (a0).length 3 ((a0).flatMap e47)), (3, .int .i64 (fW .i64 (z3.2.1 + 1))), (4, .int .i64 z3.2.2.1), (5, .int .i64 z3.2.2.2)]) (by kernel_rfl) ?_
      exact hj4 (fW .i64 (z3.2.1 + 1), z3.2.2.1, z3.2.2.2)
     ·let E6 : Env := [(63, .int .i64 z3.2.2.2), (62, .vec (a0).length 3 ((a0).flatMap e47)), (12, .bool false), (0, .vec (a0).length 3 ((a0).flatMap e47)), (3, .int .i64 z3.2.1), (4, .int .i64 z3.2.2.1), (5, .int .i64 z3.2.2.2), (12, .bool z3.1)]
      refine oR 5 (p' := (atN 2 (ctl1 g40p11))) (eE := E6) (H' := (mkH [])) (by kernel_rfl) ?_
      refine oH (fun (x1_2 : S46) => (.vptr [.int .i64 x1_2.f0, .str x1_2.f1, .int .i64 x1_2.f2], (mkH []))) (atN 3 (ctl1 g40p11)) (fun x1_2 => ((64, .vptr [.int .i64 x1_2.f0, .str x1_2.f1, .int .i64 x1_2.f2]) :: E6)) (vidxH (sz := 3) e47_len (by kernel_rfl)) (fun _ => by kernel_rfl) (fun x1_2 hx1_2 => ?_)
      refine oR 1 (p' := (atN 4 (ctl1 g40p11))) (eE := ((65, .agg [.int .i64 x1_2.f0, .str x1_2.f1, .int .i64 x1_2.f2]) :: (64, .vptr [.int .i64 x1_2.f0, .str x1_2.f1, .int .i64 x1_2.f2]) :: E6)) (H' := (mkH [])) (by kernel_rfl) ?_
      refine oC (fun (x1_4 : Bool) => .bool x1_4) (atN 5 (ctl1 g40p11)) (fun x1_4 => ((66, .bool x1_4) :: (65, .agg [.int .i64 x1_2.f0, .str x1_2.f1, .int .i64 x1_2.f2]) :: (64, .vptr [.int .i64 x1_2.f0, .str x1_2.f1, .int .i64 x1_2.f2]) :: E6)) (fi := 54) (args := [.agg [.int .i64 x1_2.f0, .str x1_2.f1, .int .i64 x1_2.f2]]) (by kernel_rfl) (by kernel_rfl) (fun _ => by kernel_rfl) (fun r h => g54_ok k (⟨x1_2.f0, x1_2.f1, x1_2.f2⟩ : S46) r h) (fun _ => by kernel_rfl) (fun x1_4 hx1_4 => ?_)
      refine oR 1 (p' := (atN 6 (ctl1 g40p11))) (eE := ((67, .bool x1_4) :: (66, .bool x1_4) :: (65, .agg [.int .i64 x1_2.f0, .str x1_2.f1, .int .i64 x1_2.f2]) :: (64, .vptr [.int .i64 x1_2.f0, .str x1_2.f1, .int .i64 x1_2.f2]) :: E6)) (H' := (mkH [])) (by kernel_rfl) ?_
      refine oJ (f := fun (z5 : Int × Int × Int × Bool) => if z5.2.2.2 then (j4 (fW .i64 (z5.1 - 1), z5.2.1, z5.2.2.1)) else (j4 (z5.1, z5.2.1, z5.2.2.1))) g40p13 (fun (z5 : Int × Int × Int × Bool) => [(0, .vec (a0).length 3 ((a0).flatMap e47)), (3, .int .i64 z5.1), (4, .int .i64 z5.2.1), (5, .int .i64 z5.2.2.1), (61, .bool z5.2.2.2)]) (fun (z5 : Int × Int × Int × Bool) => (mkH [])) (fun z5 => ?_) (fun j5 hj5 => ?_)
      ·refine oS 61 (b := z5.2.2.2) (by kernel_rfl) (fun hb => ?_) (fun hb => ?_)
       ·let E7 : Env := [(3, .int .i64 (fW .i64 (z5.1 - 1))), (72, .int .i64 (fW .i64 (z5.1 - 1))), (71, .int .i64 z5.1), (61, .bool true), (0, .vec (a0).length 3 ((a0).flatMap e47)), (3, .int .i64 z5.1), (4, .int .i64 z5.2.1), (5, .int .i64 z5.2.2.1), (61, .bool z5.2.2.2)]
        refine oR 6 (p' := g40p12) (eE := E7) (H' := (mkH [])) (by kernel_rfl) ?_
        refine oK [0, 3, 4, 5] (eE := [(0, .vec (a0).length 3 ((a0).flatMap e47)), (3, .int .i64 (fW .i64 (z5.1 - 1))), (4, .int .i64 z5.2.1), (5, .int .i64 z5.2.2.1)]) (by kernel_rfl) ?_
        exact hj4 (fW .i64 (z5.1 - 1), z5.2.1, z5.2.2.1)
       ·let E8 : Env := [(61, .bool false), (0, .vec (a0).length 3 ((a0).flatMap e47)), (3, .int .i64 z5.1), (4, .int .i64 z5.2.1), (5, .int .i64 z5.2.2.1), (61, .bool z5.2.2.2)]
        refine oR 2 (p' := g40p12) (eE := E8) (H' := (mkH [])) (by kernel_rfl) ?_
        refine oK [0, 3, 4, 5] (eE := [(0, .vec (a0).length 3 ((a0).flatMap e47)), (3, .int .i64 z5.1), (4, .int .i64 z5.2.1), (5, .int .i64 z5.2.2.1)]) (by kernel_rfl) ?_
        exact hj4 (z5.1, z5.2.1, z5.2.2.1)
      ·refine oS 67 (b := x1_4) (by kernel_rfl) (fun hb => ?_) (fun hb => ?_)
       ·let E9 : Env := ((61, .bool (decide (0 < z3.2.1))) :: (70, .bool (decide (0 < z3.2.1))) :: (69, .bool (decide (0 < z3.2.1))) :: (68, .int .i64 z3.2.1) :: (67, .bool true) :: (67, .bool x1_4) :: (66, .bool x1_4) :: (65, .agg [.int .i64 x1_2.f0, .str x1_2.f1, .int .i64 x1_2.f2]) :: (64, .vptr [.int .i64 x1_2.f0, .str x1_2.f1, .int .i64 x1_2.f2]) :: E6)
        refine oR 5 (p' := g40p13) (eE := E9) (H' := (mkH [])) (by kernel_rfl) ?_
        refine oK [0, 3, 4, 5, 61] (eE := [(0, .vec (a0).length 3 ((a0).flatMap e47)), (3, .int .i64 z3.2.1), (4, .int .i64 z3.2.2.1), (5, .int .i64 z3.2.2.2), (61, .bool (decide (0 < z3.2.1)))]) (by kernel_rfl) ?_
        exact hj5 (z3.2.1, z3.2.2.1, z3.2.2.2, decide (0 < z3.2.1))
       ·let E10 : Env := ((61, .bool false) :: (70, .bool false) :: (69, .tuple []) :: (68, .tuple []) :: (67, .bool false) :: (67, .bool x1_4) :: (66, .bool x1_4) :: (65, .agg [.int .i64 x1_2.f0, .str x1_2.f1, .int .i64 x1_2.f2]) :: (64, .vptr [.int .i64 x1_2.f0, .str x1_2.f1, .int .i64 x1_2.f2]) :: E6)
        refine oR 5 (p' := g40p13) (eE := E10) (H' := (mkH [])) (by kernel_rfl) ?_
        refine oK [0, 3, 4, 5, 61] (eE := [(0, .vec (a0).length 3 ((a0).flatMap e47)), (3, .int .i64 z3.2.1), (4, .int .i64 z3.2.2.1), (5, .int .i64 z3.2.2.2), (61, .bool false)]) (by kernel_rfl) ?_
        exact hj5 (z3.2.1, z3.2.2.1, z3.2.2.2, false)
   ·refine oS 18 (b := x0_4) (by kernel_rfl) (fun hb => ?_) (fun hb => ?_)
    ·let E11 : Env := ((12, .bool true) :: (58, .bool true) :: (57, .tuple []) :: (56, .tuple []) :: (55, .tuple []) :: (54, .tuple []) :: (53, .tuple []) :: (52, .tuple []) :: (51, .tuple []) :: (50, .tuple []) :: (49, .tuple []) :: (48, .tuple []) :: (47, .tuple []) :: (46, .tuple []) :: (45, .tuple []) :: (44, .tuple []) :: (43, .tuple []) :: (42, .tuple []) :: (41, .tuple []) :: (40, .tuple []) :: (39, .tuple []) :: (38, .tuple []) :: (37, .tuple []) :: (36, .tuple []) :: (35, .tuple []) :: (34, .tuple []) :: (33, .tuple []) :: (32, .tuple []) :: (31, .tuple []) :: (30, .tuple []) :: (29, .tuple []) :: (28, .tuple []) :: (27, .tuple []) :: (26, .tuple []) :: (25, .tuple []) :: (24, .tuple []) :: (23, .tuple []) :: (22, .tuple []) :: (21, .tuple []) :: (20, .tuple []) :: (19, .tuple []) :: (18, .bool true) :: (18, .bool x0_4) :: (17, .bool x0_4) :: E3)
     refine oR 42 (p' := g40p8) (eE := E11) (H' := (mkH [])) (by kernel_rfl) ?_
     refine oK [0, 3, 4, 5, 12] (eE := [(0, .vec (a0).length 3 ((a0).flatMap e47)), (3, .int .i64 y2_0), (4, .int .i64 y2_1), (5, .int .i64 y2_2), (12, .bool true)]) (by kernel_rfl) ?_
     exact hj3 (true, y2_0, y2_1, y2_2)
    ·let E12 : Env := ((20, .int .i64 y2_2) :: (19, .vec (a0).length 3 ((a0).flatMap e47)) :: (18, .bool false) :: (18, .bool x0_4) :: (17, .bool x0_4) :: E3)
     refine oR 2 (p' := (atN 8 (ctl1 g40p6))) (eE := E12) (H' := (mkH [])) (by kernel_rfl) ?_
     refine oH (fun (x0_8 : S46) => (.vptr [.int .i64 x0_8.f0, .str x0_8.f1, .int .i64 x0_8.f2], (mkH []))) (atN 9 (ctl1 g40p6)) (fun x0_8 => ((21, .vptr [.int .i64 x0_8.f0, .str x0_8.f1, .int .i64 x0_8.f2]) :: E12)) (vidxH (sz := 3) e47_len (by kernel_rfl)) (fun _ => by kernel_rfl) (fun x0_8 hx0_8 => ?_)
     let E13 : Env := ((25, .bool (decide (x0_8.f0 = 8))) :: (24, .bool (decide (x0_8.f0 = 8))) :: (23, .int .i64 x0_8.f0) :: (22, .vptr [.int .i64 x0_8.f0, .str x0_8.f1, .int .i64 x0_8.f2]) :: (21, .vptr [.int .i64 x0_8.f0, .str x0_8.f1, .int .i64 x0_8.f2]) :: E12)
     refine oR 4 (p' := (atN 13 (ctl1 g40p6))) (eE := E13) (H' := (mkH [])) (by kernel_rfl) ?_
     refine oS 25 (b := decide (x0_8.f0 = 8)) (by kernel_rfl) (fun hb => ?_) (fun hb => ?_)
     ·refine oR 2 (p' := (atN 15 (ctl1 g40p6))) (eE := ((27, .int .i64 y2_2) :: (26, .vec (a0).length 3 ((a0).flatMap e47)) :: (25, .bool true) :: E13)) (H' := (mkH [])) (by kernel_rfl) ?_
      refine oH (fun (x0_15 : S46) => (.vptr [.int .i64 x0_15.f0, .str x0_15.f1, .int .i64 x0_15.f2], (mkH []))) (atN 16 (ctl1 g40p6)) (fun x0_15 => ((28, .vptr [.int .i64 x0_15.f0, .str x0_15.f1, .int .i64 x0_15.f2]) :: (27, .int .i64 y2_2) :: (26, .vec (a0).length 3 ((a0).flatMap e47)) :: (25, .bool true) :: E13)) (vidxH (sz := 3) e47_len (by kernel_rfl)) (fun _ => by kernel_rfl) (fun x0_15 hx0_15 => ?_)
      let E14 : Env := ((33, .bool (eqL x0_15.f1 [102, 117, 110])) :: (32, .bool (eqL x0_15.f1 [102, 117, 110])) :: (31, .bool (eqL x0_15.f1 [102, 117, 110])) :: (30, .str x0_15.f1) :: (29, .vptr [.str x0_15.f1, .int .i64 x0_15.f2]) :: (28, .vptr [.int .i64 x0_15.f0, .str x0_15.f1, .int .i64 x0_15.f2]) :: (27, .int .i64 y2_2) :: (26, .vec (a0).length 3 ((a0).flatMap e47)) :: (25, .bool true) :: E13)
      refine oR 5 (p' := (atN 21 (ctl1 g40p6))) (eE := E14) (H' := (mkH [])) (by kernel_rfl) ?_
      refine oS 33 (b := eqL x0_15.f1 [102, 117, 110]) (by kernel_rfl) (fun hb => ?_) (fun hb => ?_)
      ·let E15 : Env := ((40, .bool (decide (fW .i64 (y2_2 + 1) < (a0.length : Int)))) :: (39, .bool (decide (fW .i64 (y2_2 + 1) < (a0.length : Int)))) :: (38, .bool (decide (fW .i64 (y2_2 + 1) < (a0.length : Int)))) :: (37, .int .i64 (a0.length : Int)) :: (36, .vec (a0).length 3 ((a0).flatMap e47)) :: (35, .int .i64 (fW .i64 (y2_2 + 1))) :: (34, .int .i64 y2_2) :: (33, .bool true) :: E14)
       refine oR 7 (p' := (atN 28 (ctl1 g40p6))) (eE := E15) (H' := (mkH [])) (by kernel_rfl) ?_
       refine oS 40 (b := decide (fW .i64 (y2_2 + 1) < (a0.length : Int))) (by kernel_rfl) (fun hb => ?_) (fun hb => ?_)
       ·refine oR 3 (p' := (atN 31 (ctl1 g40p6))) (eE := ((43, .int .i64 (fW .i64 (y2_2 + 1))) :: (42, .int .i64 y2_2) :: (41, .vec (a0).length 3 ((a0).flatMap e47)) :: (40, .bool true) :: E15)) (H' := (mkH [])) (by kernel_rfl) ?_
        refine oH (fun (x0_31 : S46) => (.vptr [.int .i64 x0_31.f0, .str x0_31.f1, .int .i64 x0_31.f2], (mkH []))) (atN 32 (ctl1 g40p6)) (fun x0_31 => ((44, .vptr [.int .i64 x0_31.f0, .str x0_31.f1, .int .i64 x0_31.f2]) :: (43, .int .i64 (fW .i64 (y2_2 + 1))) :: (42, .int .i64 y2_2) :: (41, .vec (a0).length 3 ((a0).flatMap e47)) :: (40, .bool true) :: E15)) (vidxH (sz := 3) e47_len (by kernel_rfl)) (fun _ => by kernel_rfl) (fun x0_31 hx0_31 => ?_)
        let E16 : Env := ((49, .bool (decide (x0_31.f0 = 9))) :: (48, .bool (decide (x0_31.f0 = 9))) :: (47, .bool (decide (x0_31.f0 = 9))) :: (46, .int .i64 x0_31.f0) :: (45, .vptr [.int .i64 x0_31.f0, .str x0_31.f1, .int .i64 x0_31.f2]) :: (44, .vptr [.int .i64 x0_31.f0, .str x0_31.f1, .int .i64 x0_31.f2]) :: (43, .int .i64 (fW .i64 (y2_2 + 1))) :: (42, .int .i64 y2_2) :: (41, .vec (a0).length 3 ((a0).flatMap e47)) :: (40, .bool true) :: E15)
        refine oR 5 (p' := (atN 37 (ctl1 g40p6))) (eE := E16) (H' := (mkH [])) (by kernel_rfl) ?_
        refine oS 49 (b := decide (x0_31.f0 = 9)) (by kernel_rfl) (fun hb => ?_) (fun hb => ?_)
        ·refine oR 3 (p' := (atN 40 (ctl1 g40p6))) (eE := ((52, .int .i64 (fW .i64 (y2_2 + 1))) :: (51, .int .i64 y2_2) :: (50, .vec (a0).length 3 ((a0).flatMap e47)) :: (49, .bool true) :: E16)) (H' := (mkH [])) (by kernel_rfl) ?_
         refine oH (fun (x0_40 : S46) => (.vptr [.int .i64 x0_40.f0, .str x0_40.f1, .int .i64 x0_40.f2], (mkH []))) (atN 41 (ctl1 g40p6)) (fun x0_40 => ((53, .vptr [.int .i64 x0_40.f0, .str x0_40.f1, .int .i64 x0_40.f2]) :: (52, .int .i64 (fW .i64 (y2_2 + 1))) :: (51, .int .i64 y2_2) :: (50, .vec (a0).length 3 ((a0).flatMap e47)) :: (49, .bool true) :: E16)) (vidxH (sz := 3) e47_len (by kernel_rfl)) (fun _ => by kernel_rfl) (fun x0_40 hx0_40 => ?_)
         let E17 : Env := ((12, .bool (eqL x0_40.f1 [40])) :: (58, .bool (eqL x0_40.f1 [40])) :: (57, .bool (eqL x0_40.f1 [40])) :: (56, .bool (eqL x0_40.f1 [40])) :: (55, .str x0_40.f1) :: (54, .vptr [.str x0_40.f1, .int .i64 x0_40.f2]) :: (53, .vptr [.int .i64 x0_40.f0, .str x0_40.f1, .int .i64 x0_40.f2]) :: (52, .int .i64 (fW .i64 (y2_2 + 1))) :: (51, .int .i64 y2_2) :: (50, .vec (a0).length 3 ((a0).flatMap e47)) :: (49, .bool true) :: E16)
         refine oR 7 (p' := g40p8) (eE := E17) (H' := (mkH [])) (by kernel_rfl) ?_
         refine oK [0, 3, 4, 5, 12] (eE := [(0, .vec (a0).length 3 ((a0).flatMap e47)), (3, .int .i64 y2_0), (4, .int .i64 y2_1), (5, .int .i64 y2_2), (12, .bool (eqL x0_40.f1 [40]))]) (by kernel_rfl) ?_
         exact hj3 (eqL x0_40.f1 [40], y2_0, y2_1, y2_2)
        ·let E18 : Env := ((12, .bool false) :: (58, .bool false) :: (57, .bool false) :: (56, .tuple []) :: (55, .tuple []) :: (54, .tuple []) :: (53, .tuple []) :: (52, .tuple []) :: (51, .tuple []) :: (50, .tuple []) :: (49, .bool false) :: E16)
         refine oR 11 (p' := g40p8) (eE := E18) (H' := (mkH [])) (by kernel_rfl) ?_
         refine oK [0, 3, 4, 5, 12] (eE := [(0, .vec (a0).length 3 ((a0).flatMap e47)), (3, .int .i64 y2_0), (4, .int .i64 y2_1), (5, .int .i64 y2_2), (12, .bool false)]) (by kernel_rfl) ?_
         exact hj3 (false, y2_0, y2_1, y2_2)
       ·let E19 : Env := ((12, .bool false) :: (58, .bool false) :: (57, .bool false) :: (56, .tuple []) :: (55, .tuple []) :: (54, .tuple []) :: (53, .tuple []) :: (52, .tuple []) :: (51, .tuple []) :: (50, .tuple []) :: (49, .bool false) :: (48, .bool false) :: (47, .tuple []) :: (46, .tuple []) :: (45, .tuple []) :: (44, .tuple []) :: (43, .tuple []) :: (42, .tuple []) :: (41, .tuple []) :: (40, .bool false) :: E15)
        refine oR 20 (p' := g40p8) (eE := E19) (H' := (mkH [])) (by kernel_rfl) ?_
        refine oK [0, 3, 4, 5, 12] (eE := [(0, .vec (a0).length 3 ((a0).flatMap e47)), (3, .int .i64 y2_0), (4, .int .i64 y2_1), (5, .int .i64 y2_2), (12, .bool false)]) (by kernel_rfl) ?_
        exact hj3 (false, y2_0, y2_1, y2_2)
      ·let E20 : Env := ((12, .bool false) :: (58, .bool false) :: (57, .bool false) :: (56, .tuple []) :: (55, .tuple []) :: (54, .tuple []) :: (53, .tuple []) :: (52, .tuple []) :: (51, .tuple []) :: (50, .tuple []) :: (49, .bool false) :: (48, .bool false) :: (47, .tuple []) :: (46, .tuple []) :: (45, .tuple []) :: (44, .tuple []) :: (43, .tuple []) :: (42, .tuple []) :: (41, .tuple []) :: (40, .bool false) :: (39, .bool false) :: (38, .tuple []) :: (37, .tuple []) :: (36, .tuple []) :: (35, .tuple []) :: (34, .tuple []) :: (33, .bool false) :: E14)
       refine oR 27 (p' := g40p8) (eE := E20) (H' := (mkH [])) (by kernel_rfl) ?_
       refine oK [0, 3, 4, 5, 12] (eE := [(0, .vec (a0).length 3 ((a0).flatMap e47)), (3, .int .i64 y2_0), (4, .int .i64 y2_1), (5, .int .i64 y2_2), (12, .bool false)]) (by kernel_rfl) ?_
       exact hj3 (false, y2_0, y2_1, y2_2)
     ·let E21 : Env := ((12, .bool false) :: (58, .bool false) :: (57, .bool false) :: (56, .tuple []) :: (55, .tuple []) :: (54, .tuple []) :: (53, .tuple []) :: (52, .tuple []) :: (51, .tuple []) :: (50, .tuple []) :: (49, .bool false) :: (48, .bool false) :: (47, .tuple []) :: (46, .tuple []) :: (45, .tuple []) :: (44, .tuple []) :: (43, .tuple []) :: (42, .tuple []) :: (41, .tuple []) :: (40, .bool false) :: (39, .bool false) :: (38, .tuple []) :: (37, .tuple []) :: (36, .tuple []) :: (35, .tuple []) :: (34, .tuple []) :: (33, .bool false) :: (32, .bool false) :: (31, .tuple []) :: (30, .tuple []) :: (29, .tuple []) :: (28, .tuple []) :: (27, .tuple []) :: (26, .tuple []) :: (25, .bool false) :: E13)
      refine oR 35 (p' := g40p8) (eE := E21) (H' := (mkH [])) (by kernel_rfl) ?_
      refine oK [0, 3, 4, 5, 12] (eE := [(0, .vec (a0).length 3 ((a0).flatMap e47)), (3, .int .i64 y2_0), (4, .int .i64 y2_1), (5, .int .i64 y2_2), (12, .bool false)]) (by kernel_rfl) ?_
      exact hj3 (false, y2_0, y2_1, y2_2)
  ·refine oR 8 (p' := .fin) (eE := ((2, .int .i64 y2_1) :: (76, .int .i64 y2_1) :: (9, .bool false) :: E2)) (H' := (mkH [])) (by kernel_rfl) ?_
   exact oT (r := y2_1) (xs := [.int .i64 y2_1]) (v := .int .i64 y2_1) (by kernel_rfl) (by kernel_rfl) (by kernel_rfl) (.pures (by kernel_rfl)) (by kernel_rfl)
def g40 (k : Nat) (a0 : (List S46)) : Option Int :=
 g40_l2 k a0 k 0 0 0
theorem g40_ok (k : Nat) (a0 : (List S46)) (r : Int) (h : g40 k a0 = some r) : PureOk Try.prog 40 [.vec (a0).length 3 ((a0).flatMap e47)] (.int .i64 r) := by
 refine pure_of X40 (fun _ => rfl) Try.func40 (by decide +kernel) (by kernel_rfl) (t := g40 k a0) ?_ h
 unfold g40
 refine oE (eE := [(0, .vec (a0).length 3 ((a0).flatMap e47))]) (by kernel_rfl) ?_
 let E1 : Env := [(5, .int .i64 0), (4, .int .i64 0), (3, .int .i64 0), (2, .int .i64 0), (0, .vec (a0).length 3 ((a0).flatMap e47))]
 refine oR 16 (p' := g40p3) (eE := E1) (H' := (mkH [])) (by kernel_rfl) ?_
 refine oK [0, 3, 4, 5] (eE := [(0, .vec (a0).length 3 ((a0).flatMap e47)), (3, .int .i64 0), (4, .int .i64 0), (5, .int .i64 0)]) (by kernel_rfl) ?_
 exact (g40_l2_ok k a0 k) 0 0 0
end
end Go.Proofs.Ytbmijiibfaacmaa.Am
set_option maxRecDepth 100000
set_option linter.unusedVariables false
namespace Go.Proofs.Ytbmijiibfaacmaa.Am
noncomputable section
open Go
def X70 : Fx Bool := ⟨Try.prog, cx, Try.f70, fun r => .bool r, 0, fun _ => H0, cxTi, cxOrd⟩
def g70p0 : Pt := nav [0] (bodyAt Try.f70)
def g70p1 : Pt := nav [0, 0, 0] g70p0
def g70 (k : Nat) (a0 : Int) : Option Bool :=
 if (decide (0 ≤ a0)) then (if (decide (a0 ≤ 1114111)) then (if (decide (a0 < 55296)) then (some true) else (some (decide (57343 < a0)))) else (some false)) else (some false)
theorem g70_ok (k : Nat) (a0 : Int) (r : Bool) (h : g70 k a0 = some r) : PureOk Try.prog 70 [.int .i64 a0] (.bool r) := by
 refine pure_of X70 (fun _ => rfl) Try.func70 (by decide +kernel) (by kernel_rfl) (t := g70 k a0) ?_ h
 unfold g70
 refine oE (eE := [(0, .int .i64 a0)]) (by kernel_rfl) ?_
 let E1 : Env := [(5, .bool (decide (0 ≤ a0))), (4, .bool (decide (0 ≤ a0))), (3, .int .i64 a0), (2, .bool false), (0, .int .i64 a0)]
 refine oR 9 (p' := (atN 3 (ctl1 g70p1))) (eE := E1) (H' := (mkH [])) (by kernel_rfl) ?_
 refine oS 5 (b := decide (0 ≤ a0)) (by kernel_rfl) (fun hb => ?_) (fun hb => ?_)
 ·let E2 : Env := ((9, .bool (decide (a0 ≤ 1114111))) :: (8, .bool (decide (a0 ≤ 1114111))) :: (7, .bool (decide (a0 ≤ 1114111))) :: (6, .int .i64 a0) :: (5, .bool true) :: E1)
  refine oR 4 (p' := (atN 7 (ctl1 g70p1))) (eE := E2) (H' := (mkH [])) (by kernel_rfl) ?_
  refine oS 9 (b := decide (a0 ≤ 1114111)) (by kernel_rfl) (fun hb => ?_) (fun hb => ?_)
  ·refine oR 3 (p' := (atN 10 (ctl1 g70p1))) (eE := ((12, .bool (decide (a0 < 55296))) :: (11, .bool (decide (a0 < 55296))) :: (10, .int .i64 a0) :: (9, .bool true) :: E2)) (H' := (mkH [])) (by kernel_rfl) ?_
   refine oS 12 (b := decide (a0 < 55296)) (by kernel_rfl) (fun hb => ?_) (fun hb => ?_)
   ·let E3 : Env := ((2, .bool true) :: (16, .bool true) :: (15, .bool true) :: (14, .tuple []) :: (13, .tuple []) :: (12, .bool true) :: (12, .bool (decide (a0 < 55296))) :: (11, .bool (decide (a0 < 55296))) :: (10, .int .i64 a0) :: (9, .bool true) :: E2)
    refine oR 7 (p' := .fin) (eE := E3) (H' := (mkH [])) (by kernel_rfl) ?_
    exact oT (r := true) (xs := [.bool true]) (v := .bool true) (by kernel_rfl) (by kernel_rfl) (by kernel_rfl) (.pures (by kernel_rfl)) (by kernel_rfl)
   ·let E4 : Env := ((2, .bool (decide (57343 < a0))) :: (16, .bool (decide (57343 < a0))) :: (15, .bool (decide (57343 < a0))) :: (14, .bool (decide (57343 < a0))) :: (13, .int .i64 a0) :: (12, .bool false) :: (12, .bool (decide (a0 < 55296))) :: (11, .bool (decide (a0 < 55296))) :: (10, .int .i64 a0) :: (9, .bool true) :: E2)
    refine oR 7 (p' := .fin) (eE := E4) (H' := (mkH [])) (by kernel_rfl) ?_
    exact oT (r := (decide (57343 < a0))) (xs := [.bool (decide (57343 < a0))]) (v := .bool (decide (57343 < a0))) (by kernel_rfl) (by kernel_rfl) (by kernel_rfl) (.pures (by kernel_rfl)) (by kernel_rfl)
  ·let E5 : Env := ((2, .bool false) :: (16, .bool false) :: (15, .tuple []) :: (14, .tuple []) :: (13, .tuple []) :: (12, .tuple []) :: (11, .tuple []) :: (10, .tuple []) :: (9, .bool false) :: E2)
   refine oR 10 (p' := .fin) (eE := E5) (H' := (mkH [])) (by kernel_rfl) ?_
   exact oT (r := false) (xs := [.bool false]) (v := .bool false) (by kernel_rfl) (by kernel_rfl) (by kernel_rfl) (.pures (by kernel_rfl)) (by kernel_rfl)
 ·let E6 : Env := ((2, .bool false) :: (16, .bool false) :: (15, .tuple []) :: (14, .tuple []) :: (13, .tuple []) :: (12, .tuple []) :: (11, .tuple []) :: (10, .tuple []) :: (9, .bool false) :: (8, .bool false) :: (7, .tuple []) :: (6, .tuple []) :: (5, .bool false) :: E1)
  refine oR 14 (p' := .fin) (eE := E6) (H' := (mkH [])) (by kernel_rfl) ?_
  exact oT (r := false) (xs := [.bool false]) (v := .bool false) (by kernel_rfl) (by kernel_rfl) (by kernel_rfl) (.pures (by kernel_rfl)) (by kernel_rfl)
end
end Go.Proofs.Ytbmijiibfaacmaa.Am
set_option maxRecDepth 100000
set_option linter.unusedVariables false
namespace Go.Proofs.Ytbmijiibfaacmaa.Am
noncomputable section
open Go
def X56 : Fx (Int × Int) := ⟨Try.prog, cx, Try.f56, fun r => .tuple [.int .i64 r.1, .int .i64 r.2], 0, fun _ => H0, cxTi, cxOrd⟩
def g56p0 : Pt := nav [0] (bodyAt Try.f56)
def g56p1 : Pt := nav [0, 0, 0, 0] g56p0
def g56p2 : Pt := nav [0, 0] g56p1
def g56p4 : Pt := nav [2, 0, 0] g56p2
def g56p6 : Pt := nav [0, 0, 0] g56p4
def g56p7 : Pt := nav [0, 0, 0, 0, 0] g56p6
def g56p8 : Pt := nav [0, 0] g56p7
def g56p10 : Pt := nav [2, 0] g56p8
def g56p11 : Pt := nav [0, 0] g56p10
def g56p12 : Pt := nav [1] g56p11
def g56p13 : Pt := nav [2, 0] g56p11
def g56p14 : Pt := nav [0, 0, 0, 0] g56p12
def g56p15 : Pt := nav [0, 0] g56p13
def g56p16 : Pt := nav [0, 0] g56p14
def g56p18 : Pt := nav [2, 0] g56p15
def g56p20 : Pt := nav [2, 0, 0, 0] g56p16
def g56p21 : Pt := nav [0, 0] g56p18
def g56p22 : Pt := nav [0, 0, 0, 0] g56p20
def g56p25 : Pt := nav [0, 0, 0] g56p22
def g56p26 : Pt := nav [0, 0] g56p25
def g56p27 : Pt := nav [1, 0, 0, 0, 0, 0] g56p26
def g56p28 : Pt := nav [2, 0, 0, 0] g56p26
def g56p29 : Pt := nav [0, 0] g56p27
def g56p30 : Pt := nav [0, 0] g56p28
def g56p32 : Pt := nav [2, 0] g56p29
def g56p35 : Pt := nav [0, 0] g56p32
def g56_l9 (k : Nat)  (a0 : (List Nat)) (a1 : Int) (z6 : Int × Int × Int) (n : Nat) : Int → Int → Option (Int × Int) :=
 Nat.rec (motive := fun _ => Int → Int → Option (Int × Int)) (fun _ _ => none) (fun _ ih => fun (y9_0 : Int) (y9_1 : Int) => if (decide (y9_1 < z6.2.1)) then ((nthS a0 (fW .i64 (a1 + y9_1))).bind fun x1_4 => if (!decide (andI .u8 x1_4 192 = 128)) then (some (((-1) : Int), (1 : Int))) else ((nthS a0 (fW .i64 (a1 + y9_1))).bind fun x2_6 => ih (fW .i64 (fW .i64 (y9_0 * 64) + fW .i64 (andI .u8 x2_6 63))) (fW .i64 (y9_1 + 1)))) else (jn (fun (z10 : Bool × Int) => if z10.1 then (some (((-1) : Int), (1 : Int))) else (some (z10.2, z6.2.1))) (fun j10 => if (decide (y9_0 < z6.2.2)) then (j10 (true, y9_0)) else ((g70 k y9_0).bind fun x3_5 => j10 (!x3_5, y9_0))))) n
theorem g56_l9_s (k : Nat)  (a0 : (List Nat)) (a1 : Int) (z6 : Int × Int × Int) (n : Nat) (y9_0 : Int) (y9_1 : Int) : g56_l9 k a0 a1 z6 (n + 1) y9_0 y9_1 = (if (decide (y9_1 < z6.2.1)) then ((nthS a0 (fW .i64 (a1 + y9_1))).bind fun x1_4 => if (!decide (andI .u8 x1_4 192 = 128)) then (some (((-1) : Int), (1 : Int))) else ((nthS a0 (fW .i64 (a1 + y9_1))).bind fun x2_6 => (g56_l9 k a0 a1 z6 n) (fW .i64 (fW .i64 (y9_0 * 64) + fW .i64 (andI .u8 x2_6 63))) (fW .i64 (y9_1 + 1)))) else (jn (fun (z10 : Bool × Int) => if z10.1 then (some (((-1) : Int), (1 : Int))) else (some (z10.2, z6.2.1))) (fun j10 => if (decide (y9_0 < z6.2.2)) then (j10 (true, y9_0)) else ((g70 k y9_0).bind fun x3_5 => j10 (!x3_5, y9_0))))) := rfl
theorem g56_l9_ok (k : Nat)  (a0 : (List Nat)) (a1 : Int) (z6 : Int × Int × Int)  : ∀ (n : Nat) (y9_0 : Int) (y9_1 : Int), Ok X56 g56p22 [(0, .str a0), (1, .int .i64 a1), (6, .int .i64 y9_0), (7, .int .i64 z6.2.1), (8, .int .i64 z6.2.2), (9, .int .i64 y9_1)] (mkH []) (g56_l9 k a0 a1 z6 n y9_0 y9_1)
 | 0, _, _ => ok_none
 | n + 1, y9_0, y9_1 => by
  have ih := g56_l9_ok k a0 a1 z6 n
  rw [g56_l9_s]
  refine ok_ent (p' := nav [0] g56p22) (by kernel_rfl) ?_
  let E7 : Env := [(61, .bool (decide (y9_1 < z6.2.1))), (60, .int .i64 z6.2.1), (59, .int .i64 y9_1), (0, .str a0), (1, .int .i64 a1), (6, .int .i64 y9_0), (7, .int .i64 z6.2.1), (8, .int .i64 z6.2.2), (9, .int .i64 y9_1)]
  refine oR 7 (p' := g56p26) (eE := E7) (H' := (mkH [])) (by kernel_rfl) ?_
  refine oS 61 (b := decide (y9_1 < z6.2.1)) (by kernel_rfl) (fun hb => ?_) (fun hb => ?_)
  ·let E8 : Env := ((67, .int .i64 (fW .i64 (a1 + y9_1))) :: (66, .int .i64 y9_1) :: (65, .int .i64 a1) :: (64, .str a0) :: (61, .bool true) :: E7)
   refine oR 11 (p' := (atN 4 (ctl1 g56p27))) (eE := E8) (H' := (mkH [])) (by kernel_rfl) ?_
   refine oH (fun (x1_4 : Int) => (.int .u8 x1_4, (mkH []))) (atN 5 (ctl1 g56p27)) (fun x1_4 => ((68, .int .u8 x1_4) :: E8)) (idxH (by kernel_rfl)) (fun _ => by kernel_rfl) (fun x1_4 hx1_4 => ?_)
   refine oR 3 (p' := g56p29) (eE := ((70, .bool (!decide (andI .u8 x1_4 192 = 128))) :: (69, .int .u8 (andI .u8 x1_4 192)) :: (68, .int .u8 x1_4) :: E8)) (H' := (mkH [])) (by kernel_rfl) ?_
   refine oK [0, 1, 6, 7, 8, 9, 70] (eE := [(0, .str a0), (1, .int .i64 a1), (6, .int .i64 y9_0), (7, .int .i64 z6.2.1), (8, .int .i64 z6.2.2), (9, .int .i64 y9_1), (70, .bool (!decide (andI .u8 x1_4 192 = 128)))]) (by kernel_rfl) ?_
   refine oS 70 (b := !decide (andI .u8 x1_4 192 = 128)) (by kernel_rfl) (fun hb => ?_) (fun hb => ?_)
   ·let E9 : Env := [(5, .int .i64 1), (4, .int .i64 (-1)), (70, .bool true), (0, .str a0), (1, .int .i64 a1), (6, .int .i64 y9_0), (7, .int .i64 z6.2.1), (8, .int .i64 z6.2.2), (9, .int .i64 y9_1), (70, .bool (!decide (andI .u8 x1_4 192 = 128)))]
    refine oR 7 (p' := .fin) (eE := E9) (H' := (mkH [])) (by kernel_rfl) ?_
    exact oT (r := (((-1) : Int), (1 : Int))) (xs := [.int .i64 (-1), .int .i64 1]) (v := .tuple [.int .i64 (-1), .int .i64 1]) (by kernel_rfl) (by kernel_rfl) (by kernel_rfl) (.pures (by kernel_rfl)) (by kernel_rfl)
   ·let E10 : Env := [(76, .int .i64 (fW .i64 (a1 + y9_1))), (75, .int .i64 y9_1), (74, .int .i64 a1), (73, .str a0), (72, .int .i64 (fW .i64 (y9_0 * 64))), (71, .int .i64 y9_0), (70, .bool false), (0, .str a0), (1, .int .i64 a1), (6, .int .i64 y9_0), (7, .int .i64 z6.2.1), (8, .int .i64 z6.2.2), (9, .int .i64 y9_1), (70, .bool (!decide (andI .u8 x1_4 192 = 128)))]
    refine oR 9 (p' := (atN 6 (ctl1 g56p32))) (eE := E10) (H' := (mkH [])) (by kernel_rfl) ?_
    refine oH (fun (x2_6 : Int) => (.int .u8 x2_6, (mkH []))) (atN 7 (ctl1 g56p32)) (fun x2_6 => ((77, .int .u8 x2_6) :: E10)) (idxH (by kernel_rfl)) (fun _ => by kernel_rfl) (fun x2_6 hx2_6 => ?_)
    let E11 : Env := ((6, .int .i64 (fW .i64 (fW .i64 (y9_0 * 64) + fW .i64 (andI .u8 x2_6 63)))) :: (80, .int .i64 (fW .i64 (fW .i64 (y9_0 * 64) + fW .i64 (andI .u8 x2_6 63)))) :: (79, .int .i64 (fW .i64 (andI .u8 x2_6 63))) :: (78, .int .u8 (andI .u8 x2_6 63)) :: (77, .int .u8 x2_6) :: E10)
    refine oR 5 (p' := g56p35) (eE := E11) (H' := (mkH [])) (by kernel_rfl) ?_
    refine oK [0, 1, 6, 7, 8, 9] (eE := [(0, .str a0), (1, .int .i64 a1), (6, .int .i64 (fW .i64 (fW .i64 (y9_0 * 64) + fW .i64 (andI .u8 x2_6 63)))), (7, .int .i64 z6.2.1), (8, .int .i64 z6.2.2), (9, .int .i64 y9_1)]) (by kernel_rfl) ?_
    let E12 : Env := [(9, .int .i64 (fW .i64 (y9_1 + 1))), (63, .int .i64 (fW .i64 (y9_1 + 1))), (62, .int .i64 y9_1), (0, .str a0), (1, .int .i64 a1), (6, .int .i64 (fW .i64 (fW .i64 (y9_0 * 64) + fW .i64 (andI .u8 x2_6 63)))), (7, .int .i64 z6.2.1), (8, .int .i64 z6.2.2), (9, .int .i64 y9_1)]
    refine oR 5 (p' := g56p22) (eE := E12) (H' := (mkH [])) (by kernel_rfl) ?_
    refine oK [0, 1, 6, 7, 8, 9] (eE := [(0, .str a0), (1, .int .i64 a1), (6, .int .i64 (fW .i64 (fW .i64 (y9_0 * 64) + fW .i64 (andI .u8 x2_6 63)))), (7, .int .i64 z6.2.1), (8, .int .i64 z6.2.2), (9, .int .i64 (fW .i64 (y9_1 + 1)))]) (by kernel_rfl) ?_
    exact ih (fW .i64 (fW .i64 (y9_0 * 64) + fW .i64 (andI .u8 x2_6 63))) (fW .i64 (y9_1 + 1))
  ·let E13 : Env := ((84, .bool (decide (y9_0 < z6.2.2))) :: (83, .bool (decide (y9_0 < z6.2.2))) :: (82, .int .i64 z6.2.2) :: (81, .int .i64 y9_0) :: (61, .bool false) :: E7)
   refine oR 9 (p' := (atN 4 (ctl1 g56p28))) (eE := E13) (H' := (mkH [])) (by kernel_rfl) ?_
   refine oJ (f := fun (z10 : Bool × Int) => if z10.1 then (some (((-1) : Int), (1 : Int))) else (some (z10.2, z6.2.1))) g56p30 (fun (z10 : Bool × Int) => [(6, .int .i64 z10.2), (7, .int .i64 z6.2.1), (88, .bool z10.1)]) (fun (z10 : Bool × Int) => (mkH [])) (fun z10 => ?_) (fun j10 hj10 => ?_)
   ·refine oS 88 (b := z10.1) (by kernel_rfl) (fun hb => ?_) (fun hb => ?_)
    ·let E14 : Env := [(5, .int .i64 1), (4, .int .i64 (-1)), (88, .bool true), (6, .int .i64 z10.2), (7, .int .i64 z6.2.1), (88, .bool z10.1)]
     refine oR 7 (p' := .fin) (eE := E14) (H' := (mkH [])) (by kernel_rfl) ?_
     exact oT (r := (((-1) : Int), (1 : Int))) (xs := [.int .i64 (-1), .int .i64 1]) (v := .tuple [.int .i64 (-1), .int .i64 1]) (by kernel_rfl) (by kernel_rfl) (by kernel_rfl) (.pures (by kernel_rfl)) (by kernel_rfl)
    ·let E15 : Env := [(5, .int .i64 z6.2.1), (4, .int .i64 z10.2), (90, .int .i64 z6.2.1), (89, .int .i64 z10.2), (88, .bool false), (6, .int .i64 z10.2), (7, .int .i64 z6.2.1), (88, .bool z10.1)]
     refine oR 10 (p' := .fin) (eE := E15) (H' := (mkH [])) (by kernel_rfl) ?_
     exact oT (r := (z10.2, z6.2.1)) (xs := [.int .i64 z10.2, .int .i64 z6.2.1]) (v := .tuple [.int .i64 z10.2, .int .i64 z6.2.1]) (by kernel_rfl) (by kernel_rfl) (by kernel_rfl) (.pures (by kernel_rfl)) (by kernel_rfl)
   ·refine oS 84 (b := decide (y9_0 < z6.2.2)) (by kernel_rfl) (fun hb => ?_) (fun hb => ?_)
    ·let E16 : Env := ((88, .bool true) :: (87, .tuple []) :: (86, .tuple []) :: (85, .tuple []) :: (84, .bool true) :: E13)
     refine oR 5 (p' := g56p30) (eE := E16) (H' := (mkH [])) (by kernel_rfl) ?_
     refine oK [6, 7, 88] (eE := [(6, .int .i64 y9_0), (7, .int .i64 z6.2.1), (88, .bool true)]) (by kernel_rfl) ?_
     exact hj10 (true, y9_0)
    ·refine oR 1 (p' := (atN 5 (ctl1 g56p28))) (eE := ((85, .int .i64 y9_0) :: (84, .bool false) :: E13)) (H' := (mkH [])) (by kernel_rfl) ?_
     refine oC (fun (x3_5 : Bool) => .bool x3_5) (atN 6 (ctl1 g56p28)) (fun x3_5 => ((86, .bool x3_5) :: (85, .int .i64 y9_0) :: (84, .bool false) :: E13)) (fi := 70) (args := [.int .i64 y9_0]) (by kernel_rfl) (by kernel_rfl) (fun _ => by kernel_rfl) (fun r h => g70_ok k y9_0 r h) (fun _ => by kernel_rfl) (fun x3_5 hx3_5 => ?_)
     let E17 : Env := ((88, .bool (!x3_5)) :: (87, .bool (!x3_5)) :: (86, .bool x3_5) :: (85, .int .i64 y9_0) :: (84, .bool false) :: E13)
     refine oR 3 (p' := g56p30) (eE := E17) (H' := (mkH [])) (by kernel_rfl) ?_
     refine oK [6, 7, 88] (eE := [(6, .int .i64 y9_0), (7, .int .i64 z6.2.1), (88, .bool (!x3_5))]) (by kernel_rfl) ?_
     exact hj10 (!x3_5, y9_0)
def g56 (k : Nat) (a0 : (List Nat)) (a1 : Int) : Option (Int × Int) :=
 jn (fun (z4 : Bool) => if z4 then (some ((0 : Int), (0 : Int))) else ((nthS a0 a1).bind fun x0_2 => if (decide (fW .i64 x0_2 < 128)) then (some (fW .i64 x0_2, (1 : Int))) else (jn (fun (z5 : Bool) => jn (fun (z6 : Int × Int × Int) => if (decide (fW .i64 ((a0.length : Int) - a1) < z6.2.1)) then (some (((-1) : Int), (1 : Int))) else (g56_l9 k a0 a1 z6 k z6.1 1)) (fun j6 => if z5 then (j6 (andI .i64 (fW .i64 x0_2) 31, 2, 128)) else (jn (fun (z7 : Bool) => if z7 then (j6 (andI .i64 (fW .i64 x0_2) 15, 3, 2048)) else (jn (fun (z8 : Bool) => if z8 then (j6 (andI .i64 (fW .i64 x0_2) 7, 4, 65536)) else (some (((-1) : Int), (1 : Int)))) (fun j8 => if (decide (240 ≤ fW .i64 x0_2)) then (j8 (decide (fW .i64 x0_2 < 248))) else (j8 false)))) (fun j7 => if (decide (224 ≤ fW .i64 x0_2)) then (j7 (decide (fW .i64 x0_2 < 240))) else (j7 false))))) (fun j5 => if (decide (192 ≤ fW .i64 x0_2)) then (j5 (decide (fW .i64 x0_2 < 224))) else (j5 false))))) (fun j4 => if (decide (a1 < 0)) then (j4 true) else (j4 (decide ((a0.length : Int) ≤ a1))))
theorem g56_ok (k : Nat) (a0 : (List Nat)) (a1 : Int) (r : (Int × Int)) (h : g56 k a0 a1 = some r) : PureOk Try.prog 56 [.str a0, .int .i64 a1] (.tuple [.int .i64 r.1, .int .i64 r.2]) := by
 refine pure_of X56 (fun _ => rfl) Try.func56 (by decide +kernel) (by kernel_rfl) (t := g56 k a0 a1) ?_ h
 unfold g56
 refine oE (eE := [(0, .str a0), (1, .int .i64 a1)]) (by kernel_rfl) ?_
 let E1 : Env := [(12, .bool (decide (a1 < 0))), (11, .bool (decide (a1 < 0))), (10, .int .i64 a1), (5, .int .i64 0), (4, .int .i64 0), (0, .str a0), (1, .int .i64 a1)]
 refine oR 11 (p' := (atN 3 (ctl1 g56p1))) (eE := E1) (H' := (mkH [])) (by kernel_rfl) ?_
 refine oJ (f := fun (z4 : Bool) => if z4 then (some ((0 : Int), (0 : Int))) else ((nthS a0 a1).bind fun x0_2 => if (decide (fW .i64 x0_2 < 128)) then (some (fW .i64 x0_2, (1 : Int))) else (jn (fun (z5 : Bool) => jn (fun (z6 : Int × Int × Int) => if (decide (fW .i64 ((a0.length : Int) - a1) < z6.2.1)) then (some (((-1) : Int), (1 : Int))) else (g56_l9 k a0 a1 z6 k z6.1 1)) (fun j6 => if z5 then (j6 (andI .i64 (fW .i64 x0_2) 31, 2, 128)) else (jn (fun (z7 : Bool) => if z7 then (j6 (andI .i64 (fW .i64 x0_2) 15, 3, 2048)) else (jn (fun (z8 : Bool) => if z8 then (j6 (andI .i64 (fW .i64 x0_2) 7, 4, 65536)) else (some (((-1) : Int), (1 : Int)))) (fun j8 => if (decide (240 ≤ fW .i64 x0_2)) then (j8 (decide (fW .i64 x0_2 < 248))) else (j8 false)))) (fun j7 => if (decide (224 ≤ fW .i64 x0_2)) then (j7 (decide (fW .i64 x0_2 < 240))) else (j7 false))))) (fun j5 => if (decide (192 ≤ fW .i64 x0_2)) then (j5 (decide (fW .i64 x0_2 < 224))) else (j5 false))))) g56p2 (fun (z4 : Bool) => [(0, .str a0), (1, .int .i64 a1), (17, .bool z4)]) (fun (z4 : Bool) => (mkH [])) (fun z4 => ?_) (fun j4 hj4 => ?_)
 ·refine oS 17 (b := z4) (by kernel_rfl) (fun hb => ?_) (fun hb => ?_)
  ·let E2 : Env := [(5, .int .i64 0), (4, .int .i64 0), (17, .bool true), (0, .str a0), (1, .int .i64 a1), (17, .bool z4)]
   refine oR 7 (p' := .fin) (eE := E2) (H' := (mkH [])) (by kernel_rfl) ?_
   exact oT (r := ((0 : Int), (0 : Int))) (xs := [.int .i64 0, .int .i64 0]) (v := .tuple [.int .i64 0, .int .i64 0]) (by kernel_rfl) (by kernel_rfl) (by kernel_rfl) (.pures (by kernel_rfl)) (by kernel_rfl)
  ·let E3 : Env := [(19, .int .i64 a1), (18, .str a0), (17, .bool false), (0, .str a0), (1, .int .i64 a1), (17, .bool z4)]
   refine oR 6 (p' := (atN 2 (ctl1 g56p4))) (eE := E3) (H' := (mkH [])) (by kernel_rfl) ?_
   refine oH (fun (x0_2 : Int) => (.int .u8 x0_2, (mkH []))) (atN 3 (ctl1 g56p4)) (fun x0_2 => ((20, .int .u8 x0_2) :: E3)) (idxH (by kernel_rfl)) (fun _ => by kernel_rfl) (fun x0_2 hx0_2 => ?_)
   let E4 : Env := ((8, .int .i64 0) :: (7, .int .i64 1) :: (6, .int .i64 (fW .i64 x0_2)) :: (21, .int .i64 (fW .i64 x0_2)) :: (20, .int .u8 x0_2) :: E3)
   refine oR 11 (p' := g56p7) (eE := E4) (H' := (mkH [])) (by kernel_rfl) ?_
   refine oK [0, 1, 6] (eE := [(0, .str a0), (1, .int .i64 a1), (6, .int .i64 (fW .i64 x0_2))]) (by kernel_rfl) ?_
   let E5 : Env := [(22, .bool (decide (fW .i64 x0_2 < 128))), (24, .bool (decide (fW .i64 x0_2 < 128))), (23, .int .i64 (fW .i64 x0_2)), (0, .str a0), (1, .int .i64 a1), (6, .int .i64 (fW .i64 x0_2))]
   refine oR 5 (p' := g56p8) (eE := E5) (H' := (mkH [])) (by kernel_rfl) ?_
   refine oS 22 (b := decide (fW .i64 x0_2 < 128)) (by kernel_rfl) (fun hb => ?_) (fun hb => ?_)
   ·refine oR 8 (p' := .fin) (eE := ((5, .int .i64 1) :: (4, .int .i64 (fW .i64 x0_2)) :: (25, .int .i64 (fW .i64 x0_2)) :: (22, .bool true) :: E5)) (H' := (mkH [])) (by kernel_rfl) ?_
    exact oT (r := (fW .i64 x0_2, (1 : Int))) (xs := [.int .i64 (fW .i64 x0_2), .int .i64 1]) (v := .tuple [.int .i64 (fW .i64 x0_2), .int .i64 1]) (by kernel_rfl) (by kernel_rfl) (by kernel_rfl) (.pures (by kernel_rfl)) (by kernel_rfl)
   ·refine oR 6 (p' := (atN 3 (ctl1 g56p10))) (eE := ((29, .bool (decide (192 ≤ fW .i64 x0_2))) :: (28, .bool (decide (192 ≤ fW .i64 x0_2))) :: (27, .int .i64 (fW .i64 x0_2)) :: (22, .bool false) :: E5)) (H' := (mkH [])) (by kernel_rfl) ?_
    refine oJ (f := fun (z5 : Bool) => jn (fun (z6 : Int × Int × Int) => if (decide (fW .i64 ((a0.length : Int) - a1) < z6.2.1)) then (some (((-1) : Int), (1 : Int))) else (g56_l9 k a0 a1 z6 k z6.1 1)) (fun j6 => if z5 then (j6 (andI .i64 (fW .i64 x0_2) 31, 2, 128)) else (jn (fun (z7 : Bool) => if z7 then (j6 (andI .i64 (fW .i64 x0_2) 15, 3, 2048)) else (jn (fun (z8 : Bool) => if z8 then (j6 (andI .i64 (fW .i64 x0_2) 7, 4, 65536)) else (some (((-1) : Int), (1 : Int)))) (fun j8 => if (decide (240 ≤ fW .i64 x0_2)) then (j8 (decide (fW .i64 x0_2 < 248))) else (j8 false)))) (fun j7 => if (decide (224 ≤ fW .i64 x0_2)) then (j7 (decide (fW .i64 x0_2 < 240))) else (j7 false))))) g56p11 (fun (z5 : Bool) => [(0, .str a0), (1, .int .i64 a1), (6, .int .i64 (fW .i64 x0_2)), (26, .bool z5)]) (fun (z5 : Bool) => (mkH [])) (fun z5 => ?_) (fun j5 hj5 => ?_)
    ·refine oJ (f := fun (z6 : Int × Int × Int) => if (decide (fW .i64 ((a0.length : Int) - a1) < z6.2.1)) then (some (((-1) : Int), (1 : Int))) else (g56_l9 k a0 a1 z6 k z6.1 1)) g56p14 (fun (z6 : Int × Int × Int) => [(0, .str a0), (1, .int .i64 a1), (6, .int .i64 z6.1), (7, .int .i64 z6.2.1), (8, .int .i64 z6.2.2)]) (fun (z6 : Int × Int × Int) => (mkH [])) (fun z6 => ?_) (fun j6 hj6 => ?_)
     ·let E6 : Env := [(58, .bool (decide (fW .i64 ((a0.length : Int) - a1) < z6.2.1))), (57, .int .i64 z6.2.1), (56, .int .i64 (fW .i64 ((a0.length : Int) - a1))), (55, .int .i64 a1), (54, .int .i64 (a0.length : Int)), (53, .str a0), (0, .str a0), (1, .int .i64 a1), (6, .int .i64 z6.1), (7, .int .i64 z6.2.1), (8, .int .i64 z6.2.2)]
      refine oR 8 (p' := g56p16) (eE := E6) (H' := (mkH [])) (by kernel_rfl) ?_
      refine oS 58 (b := decide (fW .i64 ((a0.length : Int) - a1) < z6.2.1)) (by kernel_rfl) (fun hb => ?_) (fun hb => ?_)
      ·refine oR 7 (p' := .fin) (eE := ((5, .int .i64 1) :: (4, .int .i64 (-1)) :: (58, .bool true) :: E6)) (H' := (mkH [])) (by kernel_rfl) ?_
       exact oT (r := (((-1) : Int), (1 : Int))) (xs := [.int .i64 (-1), .int .i64 1]) (v := .tuple [.int .i64 (-1), .int .i64 1]) (by kernel_rfl) (by kernel_rfl) (by kernel_rfl) (.pures (by kernel_rfl)) (by kernel_rfl)
      ·refine oR 9 (p' := g56p22) (eE := ((9, .int .i64 1) :: (58, .bool false) :: E6)) (H' := (mkH [])) (by kernel_rfl) ?_
       refine oK [0, 1, 6, 7, 8, 9] (eE := [(0, .str a0), (1, .int .i64 a1), (6, .int .i64 z6.1), (7, .int .i64 z6.2.1), (8, .int .i64 z6.2.2), (9, .int .i64 1)]) (by kernel_rfl) ?_
       exact (g56_l9_ok k a0 a1 z6 k) z6.1 1
     ·refine oS 26 (b := z5) (by kernel_rfl) (fun hb => ?_) (fun hb => ?_)
      ·let E18 : Env := [(6, .int .i64 (andI .i64 (fW .i64 x0_2) 31)), (8, .int .i64 128), (7, .int .i64 2), (34, .int .i64 (andI .i64 (fW .i64 x0_2) 31)), (33, .int .i64 (fW .i64 x0_2)), (26, .bool true), (0, .str a0), (1, .int .i64 a1), (6, .int .i64 (fW .i64 x0_2)), (26, .bool z5)]
       refine oR 10 (p' := g56p14) (eE := E18) (H' := (mkH [])) (by kernel_rfl) ?_
       refine oK [0, 1, 6, 7, 8] (eE := [(0, .str a0), (1, .int .i64 a1), (6, .int .i64 (andI .i64 (fW .i64 x0_2) 31)), (7, .int .i64 2), (8, .int .i64 128)]) (by kernel_rfl) ?_
       exact hj6 (andI .i64 (fW .i64 x0_2) 31, 2, 128)
      ·let E19 : Env := [(38, .bool (decide (224 ≤ fW .i64 x0_2))), (37, .bool (decide (224 ≤ fW .i64 x0_2))), (36, .int .i64 (fW .i64 x0_2)), (26, .bool false), (0, .str a0), (1, .int .i64 a1), (6, .int .i64 (fW .i64 x0_2)), (26, .bool z5)]
       refine oR 6 (p' := (atN 3 (ctl1 g56p13))) (eE := E19) (H' := (mkH [])) (by kernel_rfl) ?_
       refine oJ (f := fun (z7 : Bool) => if z7 then (j6 (andI .i64 (fW .i64 x0_2) 15, 3, 2048)) else (jn (fun (z8 : Bool) => if z8 then (j6 (andI .i64 (fW .i64 x0_2) 7, 4, 65536)) else (some (((-1) : Int), (1 : Int)))) (fun j8 => if (decide (240 ≤ fW .i64 x0_2)) then (j8 (decide (fW .i64 x0_2 < 248))) else (j8 false)))) g56p15 (fun (z7 : Bool) => [(0, .str a0), (1, .int .i64 a1), (6, .int .i64 (fW .i64 x0_2)), (35, .bool z7)]) (fun (z7 : Bool) => (mkH [])) (fun z7 => ?_) (fun j7 hj7 => ?_)
       ·refine oS 35 (b := z7) (by kernel_rfl) (fun hb => ?_) (fun hb => ?_)
        ·let E20 : Env := [(6, .int .i64 (andI .i64 (fW .i64 x0_2) 15)), (8, .int .i64 2048), (7, .int .i64 3), (43, .int .i64 (andI .i64 (fW .i64 x0_2) 15)), (42, .int .i64 (fW .i64 x0_2)), (35, .bool true), (0, .str a0), (1, .int .i64 a1), (6, .int .i64 (fW .i64 x0_2)), (35, .bool z7)]
         refine oR 10 (p' := g56p14) (eE := E20) (H' := (mkH [])) (by kernel_rfl) ?_
         refine oK [0, 1, 6, 7, 8] (eE := [(0, .str a0), (1, .int .i64 a1), (6, .int .i64 (andI .i64 (fW .i64 x0_2) 15)), (7, .int .i64 3), (8, .int .i64 2048)]) (by kernel_rfl) ?_
         exact hj6 (andI .i64 (fW .i64 x0_2) 15, 3, 2048)
        ·let E21 : Env := [(47, .bool (decide (240 ≤ fW .i64 x0_2))), (46, .bool (decide (240 ≤ fW .i64 x0_2))), (45, .int .i64 (fW .i64 x0_2)), (35, .bool false), (0, .str a0), (1, .int .i64 a1), (6, .int .i64 (fW .i64 x0_2)), (35, .bool z7)]
         refine oR 6 (p' := (atN 3 (ctl1 g56p18))) (eE := E21) (H' := (mkH [])) (by kernel_rfl) ?_
         refine oJ (f := fun (z8 : Bool) => if z8 then (j6 (andI .i64 (fW .i64 x0_2) 7, 4, 65536)) else (some (((-1) : Int), (1 : Int)))) g56p21 (fun (z8 : Bool) => [(0, .str a0), (1, .int .i64 a1), (6, .int .i64 (fW .i64 x0_2)), (44, .bool z8)]) (fun (z8 : Bool) => (mkH [])) (fun z8 => ?_) (fun j8 hj8 => ?_)
         ·refine oS 44 (b := z8) (by kernel_rfl) (fun hb => ?_) (fun hb => ?_)
          ·let E22 : Env := [(6, .int .i64 (andI .i64 (fW .i64 x0_2) 7)), (8, .int .i64 65536), (7, .int .i64 4), (52, .int .i64 (andI .i64 (fW .i64 x0_2) 7)), (51, .int .i64 (fW .i64 x0_2)), (44, .bool true), (0, .str a0), (1, .int .i64 a1), (6, .int .i64 (fW .i64 x0_2)), (44, .bool z8)]
           refine oR 10 (p' := g56p14) (eE := E22) (H' := (mkH [])) (by kernel_rfl) ?_
           refine oK [0, 1, 6, 7, 8] (eE := [(0, .str a0), (1, .int .i64 a1), (6, .int .i64 (andI .i64 (fW .i64 x0_2) 7)), (7, .int .i64 4), (8, .int .i64 65536)]) (by kernel_rfl) ?_
           exact hj6 (andI .i64 (fW .i64 x0_2) 7, 4, 65536)
          ·let E23 : Env := [(5, .int .i64 1), (4, .int .i64 (-1)), (44, .bool false), (0, .str a0), (1, .int .i64 a1), (6, .int .i64 (fW .i64 x0_2)), (44, .bool z8)]
           refine oR 7 (p' := .fin) (eE := E23) (H' := (mkH [])) (by kernel_rfl) ?_
           exact oT (r := (((-1) : Int), (1 : Int))) (xs := [.int .i64 (-1), .int .i64 1]) (v := .tuple [.int .i64 (-1), .int .i64 1]) (by kernel_rfl) (by kernel_rfl) (by kernel_rfl) (.pures (by kernel_rfl)) (by kernel_rfl)
         ·refine oS 47 (b := decide (240 ≤ fW .i64 x0_2)) (by kernel_rfl) (fun hb => ?_) (fun hb => ?_)
          ·let E24 : Env := ((44, .bool (decide (fW .i64 x0_2 < 248))) :: (50, .bool (decide (fW .i64 x0_2 < 248))) :: (49, .bool (decide (fW .i64 x0_2 < 248))) :: (48, .int .i64 (fW .i64 x0_2)) :: (47, .bool true) :: E21)
           refine oR 5 (p' := g56p21) (eE := E24) (H' := (mkH [])) (by kernel_rfl) ?_
           refine oK [0, 1, 6, 44] (eE := [(0, .str a0), (1, .int .i64 a1), (6, .int .i64 (fW .i64 x0_2)), (44, .bool (decide (fW .i64 x0_2 < 248)))]) (by kernel_rfl) ?_
           exact hj8 (decide (fW .i64 x0_2 < 248))
          ·let E25 : Env := ((44, .bool false) :: (50, .bool false) :: (49, .tuple []) :: (48, .tuple []) :: (47, .bool false) :: E21)
           refine oR 5 (p' := g56p21) (eE := E25) (H' := (mkH [])) (by kernel_rfl) ?_
           refine oK [0, 1, 6, 44] (eE := [(0, .str a0), (1, .int .i64 a1), (6, .int .i64 (fW .i64 x0_2)), (44, .bool false)]) (by kernel_rfl) ?_
           exact hj8 false
       ·refine oS 38 (b := decide (224 ≤ fW .i64 x0_2)) (by kernel_rfl) (fun hb => ?_) (fun hb => ?_)
        ·let E26 : Env := ((35, .bool (decide (fW .i64 x0_2 < 240))) :: (41, .bool (decide (fW .i64 x0_2 < 240))) :: (40, .bool (decide (fW .i64 x0_2 < 240))) :: (39, .int .i64 (fW .i64 x0_2)) :: (38, .bool true) :: E19)
         refine oR 5 (p' := g56p15) (eE := E26) (H' := (mkH [])) (by kernel_rfl) ?_
         refine oK [0, 1, 6, 35] (eE := [(0, .str a0), (1, .int .i64 a1), (6, .int .i64 (fW .i64 x0_2)), (35, .bool (decide (fW .i64 x0_2 < 240)))]) (by kernel_rfl) ?_
         exact hj7 (decide (fW .i64 x0_2 < 240))
        ·let E27 : Env := ((35, .bool false) :: (41, .bool false) :: (40, .tuple []) :: (39, .tuple []) :: (38, .bool false) :: E19)
         refine oR 5 (p' := g56p15) (eE := E27) (H' := (mkH [])) (by kernel_rfl) ?_
         refine oK [0, 1, 6, 35] (eE := [(0, .str a0), (1, .int .i64 a1), (6, .int .i64 (fW .i64 x0_2)), (35, .bool false)]) (by kernel_rfl) ?_
         exact hj7 false
    ·refine oS 29 (b := decide (192 ≤ fW .i64 x0_2)) (by kernel_rfl) (fun hb => ?_) (fun hb => ?_)
     ·let E28 : Env := ((26, .bool (decide (fW .i64 x0_2 < 224))) :: (32, .bool (decide (fW .i64 x0_2 < 224))) :: (31, .bool (decide (fW .i64 x0_2 < 224))) :: (30, .int .i64 (fW .i64 x0_2)) :: (29, .bool true) :: (29, .bool (decide (192 ≤ fW .i64 x0_2))) :: (28, .bool (decide (192 ≤ fW .i64 x0_2))) :: (27, .int .i64 (fW .i64 x0_2)) :: (22, .bool false) :: E5)
      refine oR 5 (p' := g56p11) (eE := E28) (H' := (mkH [])) (by kernel_rfl) ?_
      refine oK [0, 1, 6, 26] (eE := [(0, .str a0), (1, .int .i64 a1), (6, .int .i64 (fW .i64 x0_2)), (26, .bool (decide (fW .i64 x0_2 < 224)))]) (by kernel_rfl) ?_
      exact hj5 (decide (fW .i64 x0_2 < 224))
     ·let E29 : Env := ((26, .bool false) :: (32, .bool false) :: (31, .tuple []) :: (30, .tuple []) :: (29, .bool false) :: (29, .bool (decide (192 ≤ fW .i64 x0_2))) :: (28, .bool (decide (192 ≤ fW .i64 x0_2))) :: (27, .int .i64 (fW .i64 x0_2)) :: (22, .bool false) :: E5)
      refine oR 5 (p' := g56p11) (eE := E29) (H' := (mkH [])) (by kernel_rfl) ?_
      refine oK [0, 1, 6, 26] (eE := [(0, .str a0), (1, .int .i64 a1), (6, .int .i64 (fW .i64 x0_2)), (26, .bool false)]) (by kernel_rfl) ?_
      exact hj5 false
 ·refine oS 12 (b := decide (a1 < 0)) (by kernel_rfl) (fun hb => ?_) (fun hb => ?_)
  ·let E30 : Env := ((17, .bool true) :: (16, .tuple []) :: (15, .tuple []) :: (14, .tuple []) :: (13, .tuple []) :: (12, .bool true) :: E1)
   refine oR 6 (p' := g56p2) (eE := E30) (H' := (mkH [])) (by kernel_rfl) ?_
   refine oK [0, 1, 17] (eE := [(0, .str a0), (1, .int .i64 a1), (17, .bool true)]) (by kernel_rfl) ?_
   exact hj4 true
  ·let E31 : Env := ((17, .bool (decide ((a0.length : Int) ≤ a1))) :: (16, .bool (decide ((a0.length : Int) ≤ a1))) :: (15, .int .i64 (a0.length : Int)) :: (14, .str a0) :: (13, .int .i64 a1) :: (12, .bool false) :: E1)
   refine oR 6 (p' := g56p2) (eE := E31) (H' := (mkH [])) (by kernel_rfl) ?_
   refine oK [0, 1, 17] (eE := [(0, .str a0), (1, .int .i64 a1), (17, .bool (decide ((a0.length : Int) ≤ a1)))]) (by kernel_rfl) ?_
   exact hj4 (decide ((a0.length : Int) ≤ a1))
end
end Go.Proofs.Ytbmijiibfaacmaa.Am
set_option maxRecDepth 100000
set_option linter.unusedVariables false
namespace Go.Proofs.Ytbmijiibfaacmaa.Am
noncomputable section
open Go
def X44 : Fx Bool := ⟨Try.prog, cx, Try.f44, fun r => .bool r, 0, fun _ => H0, cxTi, cxOrd⟩
def g44p0 : Pt := nav [0] (bodyAt Try.f44)
def g44p1 : Pt := nav [0, 0, 0, 0] g44p0
def g44p2 : Pt := nav [0, 0, 0, 0] g44p1
def g44p3 : Pt := nav [0, 0, 0] g44p2
def g44p4 : Pt := nav [0, 0] g44p3
def g44p5 : Pt := nav [1, 0, 0, 0] g44p4
def g44p7 : Pt := nav [0, 0, 0, 0] g44p5
def g44p9 : Pt := nav [0, 0] g44p7
def g44_l1 (k : Nat)  (a0 : (List Nat)) (n : Nat) : Int → Option Bool :=
 Nat.rec (motive := fun _ => Int → Option Bool) (fun _ => none) (fun _ ih => fun (y1_0 : Int) => if (decide (y1_0 < (a0.length : Int))) then ((g56 k a0 y1_0).bind fun x0_2 => if (decide (x0_2.1 < 0)) then (some false) else (ih (fW .i64 (y1_0 + x0_2.2)))) else (some true)) n
theorem g44_l1_s (k : Nat)  (a0 : (List Nat)) (n : Nat) (y1_0 : Int) : g44_l1 k a0 (n + 1) y1_0 = (if (decide (y1_0 < (a0.length : Int))) then ((g56 k a0 y1_0).bind fun x0_2 => if (decide (x0_2.1 < 0)) then (some false) else ((g44_l1 k a0 n) (fW .i64 (y1_0 + x0_2.2)))) else (some true)) := rfl
theorem g44_l1_ok (k : Nat)  (a0 : (List Nat))  : ∀ (n : Nat) (y1_0 : Int), Ok X44 g44p2 [(0, .str a0), (3, .int .i64 y1_0)] (mkH []) (g44_l1 k a0 n y1_0)
 | 0, _ => ok_none
 | n + 1, y1_0 => by
  have ih := g44_l1_ok k a0 n
  rw [g44_l1_s]
  refine ok_ent (p' := nav [0] g44p2) (by kernel_rfl) ?_
  let E1 : Env := [(9, .bool (decide (y1_0 < (a0.length : Int)))), (8, .int .i64 (a0.length : Int)), (7, .str a0), (6, .int .i64 y1_0), (0, .str a0), (3, .int .i64 y1_0)]
  refine oR 8 (p' := g44p4) (eE := E1) (H' := (mkH [])) (by kernel_rfl) ?_
  refine oS 9 (b := decide (y1_0 < (a0.length : Int))) (by kernel_rfl) (fun hb => ?_) (fun hb => ?_)
  ·refine oR 7 (p' := (atN 2 (ctl1 g44p5))) (eE := ((12, .int .i64 y1_0) :: (11, .str a0) :: (9, .bool true) :: E1)) (H' := (mkH [])) (by kernel_rfl) ?_
   refine oC (fun (x0_2 : (Int × Int)) => .tuple [.int .i64 x0_2.1, .int .i64 x0_2.2]) (atN 3 (ctl1 g44p5)) (fun x0_2 => ((13, .tuple [.int .i64 x0_2.1, .int .i64 x0_2.2]) :: (12, .int .i64 y1_0) :: (11, .str a0) :: (9, .bool true) :: E1)) (fi := 56) (args := [.str a0, .int .i64 y1_0]) (by kernel_rfl) (by kernel_rfl) (fun _ => by kernel_rfl) (fun r h => g56_ok k a0 y1_0 r h) (fun _ => by kernel_rfl) (fun x0_2 hx0_2 => ?_)
   let E2 : Env := ((5, .int .i64 x0_2.2) :: (4, .int .i64 x0_2.1) :: (15, .int .i64 x0_2.2) :: (14, .int .i64 x0_2.1) :: (10, .tuple [.int .i64 x0_2.1, .int .i64 x0_2.2]) :: (13, .tuple [.int .i64 x0_2.1, .int .i64 x0_2.2]) :: (12, .int .i64 y1_0) :: (11, .str a0) :: (9, .bool true) :: E1)
   refine oR 8 (p' := g44p7) (eE := E2) (H' := (mkH [])) (by kernel_rfl) ?_
   refine oK [0, 3, 4, 5] (eE := [(0, .str a0), (3, .int .i64 y1_0), (4, .int .i64 x0_2.1), (5, .int .i64 x0_2.2)]) (by kernel_rfl) ?_
   let E3 : Env := [(17, .bool (decide (x0_2.1 < 0))), (16, .int .i64 x0_2.1), (0, .str a0), (3, .int .i64 y1_0), (4, .int .i64 x0_2.1), (5, .int .i64 x0_2.2)]
   refine oR 4 (p' := g44p9) (eE := E3) (H' := (mkH [])) (by kernel_rfl) ?_
   refine oS 17 (b := decide (x0_2.1 < 0)) (by kernel_rfl) (fun hb => ?_) (fun hb => ?_)
   ·refine oR 6 (p' := .fin) (eE := ((2, .bool false) :: (17, .bool true) :: E3)) (H' := (mkH [])) (by kernel_rfl) ?_
    exact oT (r := false) (xs := [.bool false]) (v := .bool false) (by kernel_rfl) (by kernel_rfl) (by kernel_rfl) (.pures (by kernel_rfl)) (by kernel_rfl)
   ·let E4 : Env := ((3, .int .i64 (fW .i64 (y1_0 + x0_2.2))) :: (20, .int .i64 (fW .i64 (y1_0 + x0_2.2))) :: (19, .int .i64 x0_2.2) :: (18, .int .i64 y1_0) :: (17, .bool false) :: E3)
    refine oR 8 (p' := g44p2) (eE := E4) (H' := (mkH [])) (by kernel_rfl) ?_
    refine oK [0, 3] (eE := [(0, .str a0), (3, .int .i64 (fW .i64 (y1_0 + x0_2.2)))]) (by kernel_rfl) ?_
    exact ih (fW .i64 (y1_0 + x0_2.2))
  ·refine oR 7 (p' := .fin) (eE := ((2, .bool true) :: (9, .bool false) :: E1)) (H' := (mkH [])) (by kernel_rfl) ?_
   exact oT (r := true) (xs := [.bool true]) (v := .bool true) (by kernel_rfl) (by kernel_rfl) (by kernel_rfl) (.pures (by kernel_rfl)) (by kernel_rfl)
def g44 (k : Nat) (a0 : (List Nat)) : Option Bool :=
 g44_l1 k a0 k 0
theorem g44_ok (k : Nat) (a0 : (List Nat)) (r : Bool) (h : g44 k a0 = some r) : PureOk Try.prog 44 [.str a0] (.bool r) := by
 refine pure_of X44 (fun _ => rfl) Try.func44 (by decide +kernel) (by kernel_rfl) (t := g44 k a0) ?_ h
 unfold g44
 refine oE (eE := [(0, .str a0)]) (by kernel_rfl) ?_
 refine oR 11 (p' := g44p2) (eE := [(3, .int .i64 0), (2, .bool false), (0, .str a0)]) (H' := (mkH [])) (by kernel_rfl) ?_
 refine oK [0, 3] (eE := [(0, .str a0), (3, .int .i64 0)]) (by kernel_rfl) ?_
 exact (g44_l1_ok k a0 k) 0
end
end Go.Proofs.Ytbmijiibfaacmaa.Am
set_option maxRecDepth 100000
set_option linter.unusedVariables false
namespace Go.Proofs.Ytbmijiibfaacmaa.Am
noncomputable section
open Go
def X45 : Fx Int := ⟨Try.prog, cx, Try.f45, fun r => .int .i64 r, 0, fun _ => H0, cxTi, cxOrd⟩
def g45p0 : Pt := nav [0] (bodyAt Try.f45)
def g45p1 : Pt := nav [0, 0, 0, 0, 0] g45p0
def g45p2 : Pt := nav [0, 0, 0] g45p1
def g45p3 : Pt := nav [0, 0] g45p2
def g45_l1 (k : Nat)  (a0 : (List Nat)) (n : Nat) : Int → Option Int :=
 Nat.rec (motive := fun _ => Int → Option Int) (fun _ => none) (fun _ ih => fun (y1_0 : Int) => jn (fun (z2 : Bool × Int) => if z2.1 then (ih (fW .i64 (z2.2 + 1))) else (some z2.2)) (fun j2 => if (decide (y1_0 < (a0.length : Int))) then ((nthS a0 y1_0).bind fun x0_7 => if (decide (x0_7 = 32)) then (j2 (true, y1_0)) else ((nthS a0 y1_0).bind fun x0_12 => if (decide (x0_12 = 9)) then (j2 (true, y1_0)) else ((nthS a0 y1_0).bind fun x0_18 => if (decide (x0_18 = 10)) then (j2 (true, y1_0)) else ((nthS a0 y1_0).bind fun x0_24 => j2 (decide (x0_24 = 13), y1_0))))) else (j2 (false, y1_0)))) n
theorem g45_l1_s (k : Nat)  (a0 : (List Nat)) (n : Nat) (y1_0 : Int) : g45_l1 k a0 (n + 1) y1_0 = (jn (fun (z2 : Bool × Int) => if z2.1 then ((g45_l1 k a0 n) (fW .i64 (z2.2 + 1))) else (some z2.2)) (fun j2 => if (decide (y1_0 < (a0.length : Int))) then ((nthS a0 y1_0).bind fun x0_7 => if (decide (x0_7 = 32)) then (j2 (true, y1_0)) else ((nthS a0 y1_0).bind fun x0_12 => if (decide (x0_12 = 9)) then (j2 (true, y1_0)) else ((nthS a0 y1_0).bind fun x0_18 => if (decide (x0_18 = 10)) then (j2 (true, y1_0)) else ((nthS a0 y1_0).bind fun x0_24 => j2 (decide (x0_24 = 13), y1_0))))) else (j2 (false, y1_0)))) := rfl
theorem g45_l1_ok (k : Nat)  (a0 : (List Nat))  : ∀ (n : Nat) (y1_0 : Int), Ok X45 g45p1 [(0, .str a0), (1, .int .i64 y1_0)] (mkH []) (g45_l1 k a0 n y1_0)
 | 0, _ => ok_none
 | n + 1, y1_0 => by
  have ih := g45_l1_ok k a0 n
  rw [g45_l1_s]
  refine ok_ent (p' := nav [0] g45p1) (by kernel_rfl) ?_
  let E1 : Env := [(9, .bool (decide (y1_0 < (a0.length : Int)))), (8, .bool (decide (y1_0 < (a0.length : Int)))), (7, .int .i64 (a0.length : Int)), (6, .str a0), (5, .int .i64 y1_0), (0, .str a0), (1, .int .i64 y1_0)]
  refine oR 8 (p' := (atN 5 (ctl1 g45p2))) (eE := E1) (H' := (mkH [])) (by kernel_rfl) ?_
  refine oJ (f := fun (z2 : Bool × Int) => if z2.1 then ((g45_l1 k a0 n) (fW .i64 (z2.2 + 1))) else (some z2.2)) g45p3 (fun (z2 : Bool × Int) => [(0, .str a0), (1, .int .i64 z2.2), (32, .bool z2.1)]) (fun (z2 : Bool × Int) => (mkH [])) (fun z2 => ?_) (fun j2 hj2 => ?_)
  ·refine oS 32 (b := z2.1) (by kernel_rfl) (fun hb => ?_) (fun hb => ?_)
   ·let E2 : Env := [(1, .int .i64 (fW .i64 (z2.2 + 1))), (34, .int .i64 (fW .i64 (z2.2 + 1))), (33, .int .i64 z2.2), (32, .bool true), (0, .str a0), (1, .int .i64 z2.2), (32, .bool z2.1)]
    refine oR 8 (p' := g45p1) (eE := E2) (H' := (mkH [])) (by kernel_rfl) ?_
    refine oK [0, 1] (eE := [(0, .str a0), (1, .int .i64 (fW .i64 (z2.2 + 1)))]) (by kernel_rfl) ?_
    exact ih (fW .i64 (z2.2 + 1))
   ·let E3 : Env := [(4, .int .i64 z2.2), (35, .int .i64 z2.2), (32, .bool false), (0, .str a0), (1, .int .i64 z2.2), (32, .bool z2.1)]
    refine oR 8 (p' := .fin) (eE := E3) (H' := (mkH [])) (by kernel_rfl) ?_
    exact oT (r := z2.2) (xs := [.int .i64 z2.2]) (v := .int .i64 z2.2) (by kernel_rfl) (by kernel_rfl) (by kernel_rfl) (.pures (by kernel_rfl)) (by kernel_rfl)
  ·refine oS 9 (b := decide (y1_0 < (a0.length : Int))) (by kernel_rfl) (fun hb => ?_) (fun hb => ?_)
   ·refine oR 2 (p' := (atN 7 (ctl1 g45p2))) (eE := ((11, .int .i64 y1_0) :: (10, .str a0) :: (9, .bool true) :: E1)) (H' := (mkH [])) (by kernel_rfl) ?_
    refine oH (fun (x0_7 : Int) => (.int .u8 x0_7, (mkH []))) (atN 8 (ctl1 g45p2)) (fun x0_7 => ((12, .int .u8 x0_7) :: (11, .int .i64 y1_0) :: (10, .str a0) :: (9, .bool true) :: E1)) (idxH (by kernel_rfl)) (fun _ => by kernel_rfl) (fun x0_7 hx0_7 => ?_)
    let E4 : Env := ((14, .bool (decide (x0_7 = 32))) :: (13, .bool (decide (x0_7 = 32))) :: (12, .int .u8 x0_7) :: (11, .int .i64 y1_0) :: (10, .str a0) :: (9, .bool true) :: E1)
    refine oR 2 (p' := (atN 10 (ctl1 g45p2))) (eE := E4) (H' := (mkH [])) (by kernel_rfl) ?_
    refine oS 14 (b := decide (x0_7 = 32)) (by kernel_rfl) (fun hb => ?_) (fun hb => ?_)
    ·let E5 : Env := ((32, .bool true) :: (31, .bool true) :: (30, .tuple []) :: (29, .tuple []) :: (28, .tuple []) :: (27, .tuple []) :: (26, .bool true) :: (25, .bool true) :: (24, .tuple []) :: (23, .tuple []) :: (22, .tuple []) :: (21, .tuple []) :: (20, .bool true) :: (19, .bool true) :: (18, .tuple []) :: (17, .tuple []) :: (16, .tuple []) :: (15, .tuple []) :: (14, .bool true) :: E4)
     refine oR 19 (p' := g45p3) (eE := E5) (H' := (mkH [])) (by kernel_rfl) ?_
     refine oK [0, 1, 32] (eE := [(0, .str a0), (1, .int .i64 y1_0), (32, .bool true)]) (by kernel_rfl) ?_
     exact hj2 (true, y1_0)
    ·refine oR 2 (p' := (atN 12 (ctl1 g45p2))) (eE := ((16, .int .i64 y1_0) :: (15, .str a0) :: (14, .bool false) :: E4)) (H' := (mkH [])) (by kernel_rfl) ?_
     refine oH (fun (x0_12 : Int) => (.int .u8 x0_12, (mkH []))) (atN 13 (ctl1 g45p2)) (fun x0_12 => ((17, .int .u8 x0_12) :: (16, .int .i64 y1_0) :: (15, .str a0) :: (14, .bool false) :: E4)) (idxH (by kernel_rfl)) (fun _ => by kernel_rfl) (fun x0_12 hx0_12 => ?_)
     let E6 : Env := ((20, .bool (decide (x0_12 = 9))) :: (19, .bool (decide (x0_12 = 9))) :: (18, .bool (decide (x0_12 = 9))) :: (17, .int .u8 x0_12) :: (16, .int .i64 y1_0) :: (15, .str a0) :: (14, .bool false) :: E4)
     refine oR 3 (p' := (atN 16 (ctl1 g45p2))) (eE := E6) (H' := (mkH [])) (by kernel_rfl) ?_
     refine oS 20 (b := decide (x0_12 = 9)) (by kernel_rfl) (fun hb => ?_) (fun hb => ?_)
     ·let E7 : Env := ((32, .bool true) :: (31, .bool true) :: (30, .tuple []) :: (29, .tuple []) :: (28, .tuple []) :: (27, .tuple []) :: (26, .bool true) :: (25, .bool true) :: (24, .tuple []) :: (23, .tuple []) :: (22, .tuple []) :: (21, .tuple []) :: (20, .bool true) :: E6)
      refine oR 13 (p' := g45p3) (eE := E7) (H' := (mkH [])) (by kernel_rfl) ?_
      refine oK [0, 1, 32] (eE := [(0, .str a0), (1, .int .i64 y1_0), (32, .bool true)]) (by kernel_rfl) ?_
      exact hj2 (true, y1_0)
     ·refine oR 2 (p' := (atN 18 (ctl1 g45p2))) (eE := ((22, .int .i64 y1_0) :: (21, .str a0) :: (20, .bool false) :: E6)) (H' := (mkH [])) (by kernel_rfl) ?_
      refine oH (fun (x0_18 : Int) => (.int .u8 x0_18, (mkH []))) (atN 19 (ctl1 g45p2)) (fun x0_18 => ((23, .int .u8 x0_18) :: (22, .int .i64 y1_0) :: (21, .str a0) :: (20, .bool false) :: E6)) (idxH (by kernel_rfl)) (fun _ => by kernel_rfl) (fun x0_18 hx0_18 => ?_)
      let E8 : Env := ((26, .bool (decide (x0_18 = 10))) :: (25, .bool (decide (x0_18 = 10))) :: (24, .bool (decide (x0_18 = 10))) :: (23, .int .u8 x0_18) :: (22, .int .i64 y1_0) :: (21, .str a0) :: (20, .bool false) :: E6)
      refine oR 3 (p' := (atN 22 (ctl1 g45p2))) (eE := E8) (H' := (mkH [])) (by kernel_rfl) ?_
      refine oS 26 (b := decide (x0_18 = 10)) (by kernel_rfl) (fun hb => ?_) (fun hb => ?_)
      ·let E9 : Env := ((32, .bool true) :: (31, .bool true) :: (30, .tuple []) :: (29, .tuple []) :: (28, .tuple []) :: (27, .tuple []) :: (26, .bool true) :: E8)
       refine oR 7 (p' := g45p3) (eE := E9) (H' := (mkH [])) (by kernel_rfl) ?_
       refine oK [0, 1, 32] (eE := [(0, .str a0), (1, .int .i64 y1_0), (32, .bool true)]) (by kernel_rfl) ?_
       exact hj2 (true, y1_0)
      ·refine oR 2 (p' := (atN 24 (ctl1 g45p2))) (eE := ((28, .int .i64 y1_0) :: (27, .str a0) :: (26, .bool false) :: E8)) (H' := (mkH [])) (by kernel_rfl) ?_
       refine oH (fun (x0_24 : Int) => (.int .u8 x0_24, (mkH []))) (atN 25 (ctl1 g45p2)) (fun x0_24 => ((29, .int .u8 x0_24) :: (28, .int .i64 y1_0) :: (27, .str a0) :: (26, .bool false) :: E8)) (idxH (by kernel_rfl)) (fun _ => by kernel_rfl) (fun x0_24 hx0_24 => ?_)
       let E10 : Env := ((32, .bool (decide (x0_24 = 13))) :: (31, .bool (decide (x0_24 = 13))) :: (30, .bool (decide (x0_24 = 13))) :: (29, .int .u8 x0_24) :: (28, .int .i64 y1_0) :: (27, .str a0) :: (26, .bool false) :: E8)
       refine oR 4 (p' := g45p3) (eE := E10) (H' := (mkH [])) (by kernel_rfl) ?_
       refine oK [0, 1, 32] (eE := [(0, .str a0), (1, .int .i64 y1_0), (32, .bool (decide (x0_24 = 13)))]) (by kernel_rfl) ?_
       exact hj2 (decide (x0_24 = 13), y1_0)
   ·let E11 : Env := ((32, .bool false) :: (31, .tuple []) :: (30, .tuple []) :: (29, .tuple []) :: (28, .tuple []) :: (27, .tuple []) :: (26, .tuple []) :: (25, .tuple []) :: (24, .tuple []) :: (23, .tuple []) :: (22, .tuple []) :: (21, .tuple []) :: (20, .tuple []) :: (19, .tuple []) :: (18, .tuple []) :: (17, .tuple []) :: (16, .tuple []) :: (15, .tuple []) :: (14, .tuple []) :: (13, .tuple []) :: (12, .tuple []) :: (11, .tuple []) :: (10, .tuple []) :: (9, .bool false) :: E1)
    refine oR 24 (p' := g45p3) (eE := E11) (H' := (mkH [])) (by kernel_rfl) ?_
    refine oK [0, 1, 32] (eE := [(0, .str a0), (1, .int .i64 y1_0), (32, .bool false)]) (by kernel_rfl) ?_
    exact hj2 (false, y1_0)
def g45 (k : Nat) (a0 : (List Nat)) (a1 : Int) : Option Int :=
 g45_l1 k a0 k a1
theorem g45_ok (k : Nat) (a0 : (List Nat)) (a1 : Int) (r : Int) (h : g45 k a0 a1 = some r) : PureOk Try.prog 45 [.str a0, .int .i64 a1] (.int .i64 r) := by
 refine pure_of X45 (fun _ => rfl) Try.func45 (by decide +kernel) (by kernel_rfl) (t := g45 k a0 a1) ?_ h
 unfold g45
 refine oE (eE := [(0, .str a0), (1, .int .i64 a1)]) (by kernel_rfl) ?_
 refine oR 7 (p' := g45p1) (eE := [(4, .int .i64 0), (0, .str a0), (1, .int .i64 a1)]) (H' := (mkH [])) (by kernel_rfl) ?_
 refine oK [0, 1] (eE := [(0, .str a0), (1, .int .i64 a1)]) (by kernel_rfl) ?_
 exact (g45_l1_ok k a0 k) a1
end
end Go.Proofs.Ytbmijiibfaacmaa.Am
set_option maxRecDepth 100000
set_option linter.unusedVariables false
namespace Go.Proofs.Ytbmijiibfaacmaa.Am
noncomputable section
open Go
def X57 : Fx (List Nat) := ⟨Try.prog, cx, Try.f57, fun r => .str r, 0, fun _ => H0, cxTi, cxOrd⟩
def g57p0 : Pt := nav [0] (bodyAt Try.f57)
def g57p1 : Pt := nav [0, 0, 0] g57p0
def g57p2 : Pt := nav [0, 0, 0, 0, 0] g57p1
def g57p3 : Pt := nav [0, 0, 0] g57p2
def g57p4 : Pt := nav [0, 0] g57p3
def g57p6 : Pt := nav [2, 0, 0] g57p4
def g57_l2 (k : Nat)  (a0 : (List Nat)) (n : Nat) : Int → Option (List Nat) :=
 Nat.rec (motive := fun _ => Int → Option (List Nat)) (fun _ => none) (fun _ ih => fun (y2_0 : Int) => jn (fun (z3 : Bool × Int) => if z3.1 then (ih (fW .i64 (z3.2 - 1))) else ((subL a0 none (some z3.2)).bind fun x1_2 => some x1_2)) (fun j3 => if (decide (0 < y2_0)) then ((nthS a0 (fW .i64 (y2_0 - 1))).bind fun x0_6 => if (decide (x0_6 = 32)) then (j3 (true, y2_0)) else ((nthS a0 (fW .i64 (y2_0 - 1))).bind fun x0_12 => if (decide (x0_12 = 9)) then (j3 (true, y2_0)) else ((nthS a0 (fW .i64 (y2_0 - 1))).bind fun x0_19 => j3 (decide (x0_19 = 13), y2_0)))) else (j3 (false, y2_0)))) n
theorem g57_l2_s (k : Nat)  (a0 : (List Nat)) (n : Nat) (y2_0 : Int) : g57_l2 k a0 (n + 1) y2_0 = (jn (fun (z3 : Bool × Int) => if z3.1 then ((g57_l2 k a0 n) (fW .i64 (z3.2 - 1))) else ((subL a0 none (some z3.2)).bind fun x1_2 => some x1_2)) (fun j3 => if (decide (0 < y2_0)) then ((nthS a0 (fW .i64 (y2_0 - 1))).bind fun x0_6 => if (decide (x0_6 = 32)) then (j3 (true, y2_0)) else ((nthS a0 (fW .i64 (y2_0 - 1))).bind fun x0_12 => if (decide (x0_12 = 9)) then (j3 (true, y2_0)) else ((nthS a0 (fW .i64 (y2_0 - 1))).bind fun x0_19 => j3 (decide (x0_19 = 13), y2_0)))) else (j3 (false, y2_0)))) := rfl
end
end Go.Proofs.Ytbmijiibfaacmaa.Am
