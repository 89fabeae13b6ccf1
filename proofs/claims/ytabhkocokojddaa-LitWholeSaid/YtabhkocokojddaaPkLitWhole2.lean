/- LawLitWhole, part 2: whatever the input, the law comes out true: our texts, joined by a tool, without what the claim does not name. -/
import Derived.Test.YtabhkocokojddaaPkLitWhole1
import Derived.KernelRfl
import Derived.Lib.OthersKept
import Derived.Laws.RangeString
import Derived.Test.YtabhkocokojddaaProg
set_option linter.unusedVariables false
set_option linter.unusedSimpArgs false
namespace Go.Proofs.Ytabhkocokojddaa.Am
open Go
mutual
def pur : AV → Bool
 | .ptr .. | .slice .. | .own .. => false
 | .agg xs => purs xs
 | .tuple xs => purs xs
 | .func _ a b => purs a && purs b
 | .iface _ v => pur v
 | _ => true
def purs : List AV → Bool
 | [] => true
 | x :: xs => pur x && purs xs
end
mutual
theorem pur_VR {m : Mp} : ∀ (x : AV) (c : Value), pur x = true → VR m x c → VR m.still x c
 | .top, _, _, _ => by simp only [VR]
 | .int .., _, _, e => by simpa only [VR] using e
 | .resid .., _, _, e => by simpa only [VR] using e
 | .bool _, _, _, e => by simpa only [VR] using e
 | .str _, _, _, e => by simpa only [VR] using e
 | .nilp, _, _, e => by simpa only [VR] using e
 | .nils, _, _, e => by simpa only [VR] using e
 | .nilf, _, _, e => by simpa only [VR] using e
 | .nili, _, _, e => by simpa only [VR] using e
 | .vec .., _, _, e => by simp only [VR] at e ⊢; exact e
 | .vptr .., _, _, e => by simp only [VR] at e ⊢; exact e
 | .ptr .., _, h, _ => by simp [pur] at h
 | .slice .., _, h, _ => by simp [pur] at h
 | .own .., _, h, _ => by simp [pur] at h
 | .agg xs, c, h, e => by
  simp only [VR] at e ⊢
  obtain ⟨ys, h1, h2⟩ := e
  exact ⟨ys, h1, purs_VR xs _ (by simpa only [pur] using h) h2⟩
 | .tuple xs, c, h, e => by
  simp only [VR] at e ⊢
  obtain ⟨ys, h1, h2⟩ := e
  exact ⟨ys, h1, purs_VR xs _ (by simpa only [pur] using h) h2⟩
 | .func f a b, c, h, e => by
  simp only [VR] at e ⊢
  simp only [pur, Bool.and_eq_true] at h
  obtain ⟨ys, zs, h1, h2, h3⟩ := e
  exact ⟨ys, zs, h1, purs_VR a _ h.1 h2, purs_VR b _ h.2 h3⟩
 | .iface t v, c, h, e => by
  simp only [VR] at e ⊢
  obtain ⟨d, h1, h2⟩ := e
  exact ⟨d, h1, pur_VR v _ (by simpa only [pur] using h) h2⟩
theorem purs_VR {m : Mp} : ∀ (xs : List AV) (cs : List Value), purs xs = true → VRs m xs cs → VRs m.still xs cs
 | [], _, _, e => by simpa only [VRs] using e
 | x :: xs, cs, h, e => by
  simp only [VRs] at e ⊢
  simp only [purs, Bool.and_eq_true] at h
  obtain ⟨y, ys, rfl, h1, h2⟩ := e
  exact ⟨y, ys, rfl, pur_VR x y h.1 h1, purs_VR xs ys h.2 h2⟩
end
theorem purs_append : ∀ {xs ys : List AV}, purs xs = true → purs ys = true → purs (xs ++ ys) = true
 | [], ys, _, h => h
 | x :: xs, ys, h, k => by
  simp only [List.cons_append, purs, Bool.and_eq_true] at h ⊢
  exact ⟨h.1, purs_append h.2 k⟩
theorem purs_flatMap {α : Type} {f : α → List AV} (h : ∀ x, purs (f x) = true) : ∀ l : List α, purs (l.flatMap f) = true
 | [] => rfl
 | x :: l => by rw [List.flatMap_cons]; exact purs_append (h x) (purs_flatMap h l)
theorem RW.still {m : Mp} {H : Hp} {w : World} {base : Nat} (h : RW m H w base) : RW m.still H0 w w.heap.size where
 blk := by intro r b v B N hb hm; cases hm
 dom := by intro r v B N hm; cases hm
 sep := by intro r v B N r' v' N' hm; cases hm
 fresh := by intro r _; rfl
 vle := by intro r v B N hm; cases hm
 frz := h.frz
 fsep := by intro i B cells r v N b _ hm; cases hm
 ffin := h.ffin
 base_le := Nat.le_refl _
 low := by show 0 ≤ roots; unfold roots; omega
def PureOk (P : Program) (f : Nat) (xs : List AV) (v : AV) : Prop :=
 (∀ (m0 : Mp) (w : World) (args : Array Value), (∀ r v, m0 r v = none) → VRs m0 xs args.toList → RW m0 H0 w w.heap.size → Calls P f args w fun x w' => ∃ m' c, x = .returned c ∧ RW m' H0 w' w.heap.size ∧ St m0 w w.heap.size m' w' ∧ VR m' v c) ∧
 (∃ fn, P.funcs[f]? = some fn ∧ (fn.name == "runtime.NumGoroutine") = false ∧ fn.body.isSome = true)
theorem pure_call {P : Program} {f : Nat} {xs : List AV} {v : AV} (h : PureOk P f xs v) (hx : purs xs = true) (hv : pur v = true) (H : Hp) : CallV P f xs H v H := by
 refine ⟨?_, h.2⟩
 intro m w base args hargs rw
 refine Calls.mono (h.1 m.still w args (fun _ _ => rfl) (purs_VR _ _ hx hargs) rw.still) ?_
 rintro x w' ⟨m', c, rfl, rw', st', hvc⟩
 have hnone : ∀ r v, m' r v = none := by
  intro r v
  cases e : m' r v with
  | none => rfl
  | some p =>
   obtain ⟨b, hb, _⟩ := rw'.dom r v p.1 p.2 e
   cases hb
 have hsame : ∀ B, B < w.heap.size → w'.heap[B]? = w.heap[B]? := fun B hB => st'.same B hB (fun _ _ _ hm => by cases hm)
 have hsub : Sub m ⟨m.map, m'.froz⟩ := ⟨fun _ _ _ h => h, st'.sub.2⟩
 refine ⟨⟨m.map, m'.froz⟩, c, rfl, ⟨?_, ?_, rw.sep, rw.fresh, rw.vle, rw'.frz, ?_, rw'.ffin, Nat.le_trans rw.base_le st'.size, rw.low⟩, ⟨hsub, fun r v B N e => .inl ⟨v, N, e⟩, ?_, st'.size, st'.os, st'.tape, st'.output, fun B hB _ => hsame B hB⟩, ?_⟩
 ·intro r b v B N hb hm h1 h2
  obtain ⟨cs, ty, fr, q1, q2, q3, q4, q5⟩ := rw.blk r b v B N hb hm h1 h2
  obtain ⟨_, _, _, hlt, _⟩ := rw.dom r v B N hm
  exact ⟨cs, ty, fr, by rw [hsame B hlt]; exact q1, q2, q3, q4, VRs.mono hsub _ _ q5⟩
 ·intro r v B N hm
  obtain ⟨b, q1, q2, q3, q4⟩ := rw.dom r v B N hm
  exact ⟨b, q1, q2, Nat.lt_of_lt_of_le q3 st'.size, q4⟩
 ·intro i B cells r v N b hi hm hb
  rcases st'.fext i B cells hi with hi' | hB
  ·exact rw.fsep i B cells r v N b hi' hm hb
  ·obtain ⟨_, _, _, hlt, _⟩ := rw.dom r v B N hm
   omega
 ·intro i B cells e
  rcases st'.fext i B cells e with hi' | hB
  ·exact .inl hi'
  ·exact .inr (Nat.le_trans rw.base_le hB)
 ·have h1 := pur_VR v c hv hvc
  exact VR.mono (m := m'.still) (m' := ⟨m.map, m'.froz⟩) ⟨fun _ _ _ h => (by cases h), fun _ _ h => h⟩ v c h1
inductive Fr where
 | seq (b : Code) | block (id : Nat) | loop (b : Code) | scope (b : Code)
inductive Pt where
 | code (c : Code) (K : List Fr)
 | ops (o : Array Oper) (n : Nat) (K : List Fr)
 | loop (b : Code) (K : List Fr)
 | fin
def FinK (P : Program) (Q : Exit → Act → World → Prop) : List Fr → Exit → Act → World → Prop
 | [] => Q
 | .seq b :: K => Exit.then (b.wp P (FinK P Q K)) (FinK P Q K)
 | .block id :: K => Exit.inBlock id (FinK P Q K)
 | .loop b :: K => Exit.then (LoopWp P b (FinK P Q K)) (FinK P Q K)
 | .scope b :: K => fun e a w => match e with | .goto l => ∃ rest, findLabel b l = some rest ∧ ScopeWp P b rest (FinK P Q K) a w | e => FinK P Q K e a w
def At (P : Program) (Q : Exit → Act → World → Prop) : Pt → Act → World → Prop
 | .code c K, a, w => c.wp P (FinK P Q K) a w
 | .ops o n K, a, w => wpOps P o (FinK P Q K) (List.range' n (o.size - n)) a w
 | .loop b K, a, w => LoopWp P b (FinK P Q K) a w
 | .fin, a, w => Q .normal a w ∧ Q .ret a w
def resume : List Fr → Pt
 | [] => .fin
 | .seq b :: K => .code b K
 | .block _ :: K => resume K
 | .loop b :: K => .loop b K
 | .scope _ :: K => resume K
theorem resume_ok {P : Program} {Q : Exit → Act → World → Prop} {a : Act} {w : World} : ∀ {K : List Fr}, At P Q (resume K) a w → FinK P Q K .normal a w
 | [], h => h.1
 | .seq b :: K, h => h
 | .block id :: K, h => by show Exit.inBlock id (FinK P Q K) .normal a w; exact resume_ok (K := K) h
 | .loop b :: K, h => h
 | .scope b :: K, h => resume_ok (K := K) h
def exitK (id : Nat) : List Fr → Option Pt
 | [] => none
 | .block j :: K => if id = j then some (resume K) else exitK id K
 | .seq _ :: K => exitK id K
 | .loop _ :: K => exitK id K
 | .scope _ :: K => exitK id K
theorem exitK_ok {P : Program} {Q : Exit → Act → World → Prop} {a : Act} {w : World} {id : Nat} {p : Pt} : ∀ {K : List Fr}, exitK id K = some p → At P Q p a w → FinK P Q K (.exit id) a w
 | [], h, _ => by cases h
 | .seq b :: K, h, k => exitK_ok (K := K) h k
 | .loop b :: K, h, k => exitK_ok (K := K) h k
 | .scope b :: K, h, k => exitK_ok (K := K) h k
 | .block j :: K, h, k => by
  simp only [exitK] at h
  show Exit.inBlock j (FinK P Q K) (.exit id) a w
  simp only [Exit.inBlock]
  split at h
  ·rename_i e
   cases h
   rw [if_pos e]
   exact resume_ok k
  ·rename_i e
   rw [if_neg e]
   exact exitK_ok h k
def gotoK (l : Nat) : List Fr → Option Pt
 | [] => none
 | .scope b :: K => match findLabel b l with | some rest => some (.code rest (.scope b :: K)) | none => none
 | .block _ :: K => gotoK l K
 | .seq _ :: K => gotoK l K
 | .loop _ :: K => gotoK l K
theorem scope_ok {P : Program} {Q : Exit → Act → World → Prop} {a : Act} {w : World} {b c : Code} {K : List Fr} (h : c.wp P (FinK P Q (.scope b :: K)) a w) : ScopeWp P b c (FinK P Q K) a w :=
 ScopeWp.of (wp_mono h fun e a1 w1 he => by cases e <;> exact he)
theorem gotoK_ok {P : Program} {Q : Exit → Act → World → Prop} {a : Act} {w : World} {l : Nat} {p : Pt} : ∀ {K : List Fr}, gotoK l K = some p → At P Q p a w → FinK P Q K (.goto l) a w
 | [], h, _ => by cases h
 | .seq b :: K, h, k => gotoK_ok (K := K) h k
 | .loop b :: K, h, k => gotoK_ok (K := K) h k
 | .block b :: K, h, k => gotoK_ok (K := K) h k
 | .scope b :: K, h, k => by
  simp only [gotoK] at h
  split at h
  ·rename_i rest hf
   cases h
   exact ⟨rest, hf, scope_ok k⟩
  ·cases h
theorem retK_ok {P : Program} {Q : Exit → Act → World → Prop} {a : Act} {w : World} (h : Q .ret a w) : ∀ (K : List Fr), FinK P Q K .ret a w
 | [] => h
 | .seq b :: K => retK_ok h K
 | .loop b :: K => retK_ok h K
 | .block b :: K => retK_ok h K
 | .scope b :: K => retK_ok h K
inductive FzG (H : Hp) : List AV → List AV → Prop where
 | pures {xs} : purs xs = true → FzG H xs xs
 | cons {x xs ys} : pur x = true → FzG H xs ys → FzG H (x :: xs) (x :: ys)
 | nil {sz xs ys} : FzG H xs ys → FzG H (.nils :: xs) (.vec 0 sz [] :: ys)
 | own {r len sz cells cells' minv xs ys} : H.t.get r = some ⟨cells, minv, false⟩ → cells.length = len * sz → minv ≤ len * sz → FzG H cells cells' → FzG H xs ys → FzG H (.own r len sz :: xs) (.vec len sz cells' :: ys)
 | slice {r len sz v cells cells' minv xs ys} : H.t.get r = some ⟨cells, minv, false⟩ → cells.length = len * sz → v = len * sz → minv ≤ len * sz → FzG H cells cells' → FzG H xs ys → FzG H (.slice r v 0 len sz :: xs) (.vec len sz cells' :: ys)
 | agg {xs ys zs us} : FzG H xs ys → FzG H zs us → FzG H (.agg xs :: zs) (.agg ys :: us)
 | tuple {xs ys zs us} : FzG H xs ys → FzG H zs us → FzG H (.tuple xs :: zs) (.tuple ys :: us)
structure FOk (F : Nat → Option (Nat × List AV)) (F0 : Nat → Option (Nat × List AV)) (w : World) (base : Nat) : Prop where
 ok : ∀ i B cells, F i = some (B, cells) → ∃ cs ty fr, w.heap[B]? = some (.cells cs ty fr) ∧ cells.length ≤ cs.size ∧ VRs ⟨fun _ _ => none, F⟩ cells (cs.toList.take cells.length)
 fin : ∃ n, ∀ i, n ≤ i → F i = none
 new : ∀ i B cells, F i = some (B, cells) → F0 i = some (B, cells) ∨ base ≤ B
 sub : ∀ i p, F0 i = some p → F i = some p
theorem FzG.length {H : Hp} {xs ys : List AV} (h : FzG H xs ys) : ys.length = xs.length := by
 induction h <;> simp_all
theorem fOk_add {F F0 : Nat → Option (Nat × List AV)} {w : World} {base B : Nat} {cells : List AV} {cs : Array Value} {ty : TypeId} {fr : Nat × Nat} (h : FOk F F0 w base) (hB : base ≤ B) (hw : w.heap[B]? = some (.cells cs ty fr)) (hl : cells.length ≤ cs.size) (hv : VRs ⟨fun _ _ => none, F⟩ cells (cs.toList.take cells.length)) :
 ∃ F' i, FOk F' F0 w base ∧ F' i = some (B, cells) ∧ (∀ i p, F i = some p → F' i = some p) := by
 obtain ⟨n, hn⟩ := h.fin
 have hsub : ∀ i p, F i = some p → (fun i => if i = n then some (B, cells) else F i) i = some p := by
  intro i p hi
  simp only
  rw [if_neg]
  ·exact hi
  ·rintro rfl; rw [hn _ (Nat.le_refl _)] at hi; cases hi
 have hS : Sub ⟨fun _ _ => none, F⟩ ⟨fun _ _ => none, fun i => if i = n then some (B, cells) else F i⟩ := ⟨fun _ _ _ e => (by cases e), hsub⟩
 refine ⟨fun i => if i = n then some (B, cells) else F i, n, ⟨?_, ⟨n + 1, fun i hi => ?_⟩, ?_, fun i p hi => hsub i p (h.sub i p hi)⟩, by simp, hsub⟩
 ·intro i B' cells' hi
  by_cases e : i = n
  ·simp only [e, if_true] at hi
   cases hi
   exact ⟨cs, ty, fr, hw, hl, VRs.mono hS _ _ hv⟩
  ·simp only [e, if_false] at hi
   obtain ⟨cs2, ty2, fr2, h1, h2, h3⟩ := h.ok i B' cells' hi
   exact ⟨cs2, ty2, fr2, h1, h2, VRs.mono hS _ _ h3⟩
 ·have hne : ¬ i = n := by omega
  show (if i = n then some (B, cells) else F i) = none
  rw [if_neg hne]
  exact hn i (by omega)
 ·intro i B' cells' hi
  by_cases e : i = n
  ·simp only [e, if_true] at hi
   cases hi
   exact .inr hB
  ·simp only [e, if_false] at hi
   exact h.new i B' cells' hi
theorem vec_nil (m : Mp) (sz : Nat) : VR m (.vec 0 sz []) (.slice none 0 0) := by
 simp only [VR]
 exact ⟨by simp, none, 0, rfl, Nat.le_refl _, by simp, by simp⟩
theorem fz_ok {m : Mp} {H : Hp} {w : World} {base : Nat} (rw : RW m H w base) {xs ys : List AV} (h : FzG H xs ys) : ∀ {cs : List Value} {F : Nat → Option (Nat × List AV)}, FOk F m.froz w base → VRs m xs cs → ∃ F', FOk F' m.froz w base ∧ (∀ i p, F i = some p → F' i = some p) ∧ VRs ⟨fun _ _ => none, F'⟩ ys cs := by
 have still : ∀ {F : Nat → Option (Nat × List AV)}, FOk F m.froz w base → Sub m.still ⟨fun _ _ => none, F⟩ := fun hF => ⟨fun _ _ _ e => (by cases e), hF.sub⟩
 have grow : ∀ {F F' : Nat → Option (Nat × List AV)}, (∀ i p, F i = some p → F' i = some p) → Sub ⟨fun _ _ => none, F⟩ ⟨fun _ _ => none, F'⟩ := fun h => ⟨fun _ _ _ e => (by cases e), h⟩
 have block : ∀ {r len sz minv cap B N : Nat} {cells cells' : List AV}, H.t.get r = some ⟨cells, minv, false⟩ → cells.length = len * sz → minv ≤ len * sz → cells'.length = cells.length →
  (∀ {cs : List Value} {F : Nat → Option (Nat × List AV)}, FOk F m.froz w base → VRs m cells cs → ∃ F', FOk F' m.froz w base ∧ (∀ i p, F i = some p → F' i = some p) ∧ VRs ⟨fun _ _ => none, F'⟩ cells' cs) →
  ∀ {F : Nat → Option (Nat × List AV)}, FOk F m.froz w base → m r (len * sz) = some (B, N) → len ≤ cap → ∃ F', FOk F' m.froz w base ∧ (∀ i p, F i = some p → F' i = some p) ∧ VR ⟨fun _ _ => none, F'⟩ (.vec len sz cells') (.slice (some ⟨B, 0, none⟩) len cap) := by
  intro r len sz minv cap B N cells cells' hb hl hmin hl' ih F hF hm hcap
  obtain ⟨cs, ty, fr, q1, q2, q3, q4, q5⟩ := rw.blk _ _ _ _ _ hb hm hmin (by rw [hl]; exact Nat.le_refl _)
  obtain ⟨b0, hb0, _, _, hbase⟩ := rw.dom _ _ _ _ hm
  rw [hb] at hb0
  cases hb0
  simp only at q5
  rw [List.take_of_length_le (by omega)] at q5
  obtain ⟨F1, h1, h2, h3⟩ := ih hF q5
  obtain ⟨F2, i, g1, g2, g3⟩ := fOk_add h1 (hbase rfl) q1 (cells := cells') (by omega) (by rw [hl', hl]; exact h3)
  refine ⟨F2, g1, fun i p hi => g3 i p (h2 i p hi), ?_⟩
  simp only [VR]
  refine ⟨by omega, _, cap, rfl, hcap, fun e => (by cases e), fun _ => ⟨i, B, 0, cells', g2, rfl, ?_, by omega⟩⟩
  rw [List.drop_zero, List.take_of_length_le (by omega)]
 induction h with
 | pures hp =>
  intro cs F hF hv
  exact ⟨F, hF, fun _ _ h => h, VRs.mono (still hF) _ _ (purs_VR _ _ hp hv)⟩
 | cons hp _ ih =>
  intro cs F hF hv
  simp only [VRs] at hv ⊢
  obtain ⟨y, ys, rfl, h1, h2⟩ := hv
  obtain ⟨F', g1, g2, g3⟩ := ih hF h2
  exact ⟨F', g1, g2, y, ys, rfl, VR.mono (still g1) _ _ (pur_VR _ _ hp h1), g3⟩
 | nil _ ih =>
  intro cs F hF hv
  simp only [VRs] at hv ⊢
  obtain ⟨y, ys, rfl, h1, h2⟩ := hv
  obtain ⟨F', g1, g2, g3⟩ := ih hF h2
  simp only [VR] at h1
  subst h1
  exact ⟨F', g1, g2, _, ys, rfl, vec_nil _ _, g3⟩
 | @own r len sz cells cells' minv xs ys hb hl hmin hc _ ih1 ih2 =>
  intro cs F hF hv
  simp only [VRs] at hv
  obtain ⟨c, cs', rfl, h1, h2⟩ := hv
  simp only [VR] at h1
  rcases h1 with ⟨h0, rfl⟩ | ⟨B, N, cap, hm, hcap, hN, rfl⟩
  ·obtain ⟨F', g1, g2, g3⟩ := ih2 hF h2
   refine ⟨F', g1, g2, ?_⟩
   subst h0
   obtain rfl : cells' = [] := List.length_eq_zero_iff.1 (by rw [hc.length]; omega)
   simp only [VRs]
   exact ⟨_, _, rfl, vec_nil _ _, g3⟩
  ·obtain ⟨F1, g1, g2, g3⟩ := block hb hl hmin hc.length ih1 hF hm hcap
   obtain ⟨F', e1, e2, e3⟩ := ih2 g1 h2
   refine ⟨F', e1, fun i p hi => e2 i p (g2 i p hi), ?_⟩
   simp only [VRs]
   exact ⟨_, _, rfl, VR.mono (grow e2) _ _ g3, e3⟩
 | @slice r len sz v cells cells' minv xs ys hb hl hv0 hmin hc _ ih1 ih2 =>
  intro cs F hF hv
  simp only [VRs] at hv
  obtain ⟨c, cs', rfl, h1, h2⟩ := hv
  simp only [VR] at h1
  obtain ⟨B, N, cap, hm, _, hcap, hN, rfl⟩ := h1
  subst hv0
  obtain ⟨F1, g1, g2, g3⟩ := block hb hl hmin hc.length ih1 hF hm hcap
  obtain ⟨F', e1, e2, e3⟩ := ih2 g1 h2
  refine ⟨F', e1, fun i p hi => e2 i p (g2 i p hi), ?_⟩
  simp only [VRs]
  exact ⟨_, _, rfl, VR.mono (grow e2) _ _ g3, e3⟩
 | agg _ _ ih1 ih2 =>
  intro cs F hF hv
  simp only [VRs, VR] at hv ⊢
  obtain ⟨c, cs', rfl, ⟨zs, rfl, h1⟩, h2⟩ := hv
  obtain ⟨F1, g1, g2, g3⟩ := ih1 hF h1
  obtain ⟨F', e1, e2, e3⟩ := ih2 g1 h2
  exact ⟨F', e1, fun i p hi => e2 i p (g2 i p hi), _, _, rfl, ⟨zs, rfl, VRs.mono (grow e2) _ _ g3⟩, e3⟩
 | tuple _ _ ih1 ih2 =>
  intro cs F hF hv
  simp only [VRs, VR] at hv ⊢
  obtain ⟨c, cs', rfl, ⟨zs, rfl, h1⟩, h2⟩ := hv
  obtain ⟨F1, g1, g2, g3⟩ := ih1 hF h1
  obtain ⟨F', e1, e2, e3⟩ := ih2 g1 h2
  exact ⟨F', e1, fun i p hi => e2 i p (g2 i p hi), _, _, rfl, ⟨zs, rfl, VRs.mono (grow e2) _ _ g3⟩, e3⟩
structure Fx (R : Type) where
 P : Program
 C : Cx
 fn : Func
 enc : R → AV
 n0 : Nat
 fin : R → Hp
 hti : ∀ t i, C.ti t = some i → mkTi P t = some i
 ord : P.follows .mixedOrders = true
section
variable {R : Type} (X : Fx R)
def Ret (r : R) (m0 : Mp) (w0 : World) (b0 : Nat) : Exit → Act → World → Prop :=
 bodyPost X.P X.fn fun x w' => ∃ m' c, x = .returned c ∧ RW m' (X.fin r) w' b0 ∧ St m0 w0 b0 m' w' ∧ VR m' (X.enc r) c
def Ok (p : Pt) (env : Env) (H : Hp) (t : Option R) : Prop := ∀ r, t = some r → ∀ (m0 : Mp) (w0 : World) (b0 : Nat) (m : Mp) (w : World) (a : Act), ((∀ r v p, m0 r v = some p → r < X.n0) ∧ b0 ≤ w0.heap.size) → FR m env a.tmps → X.fn.ntmps ≤ a.tmps.size → a.defers = [] → RW m H w b0 → St m0 w0 b0 m w → At X.P (Ret X r m0 w0 b0) p a w
end
section
variable {R : Type} {X : Fx R} {p p' : Pt} {env eE : Env} {H H' : Hp}
theorem ok_none : Ok X p env H none := by intro r h; cases h
theorem ok_bind {α : Type} {m : Option α} {f : α → Option R} (h : ∀ x, m = some x → Ok X p env H (f x)) : Ok X p env H (m.bind f) := by
 intro r hr
 cases hm : m with
 | none => rw [hm] at hr; cases hr
 | some x => rw [hm] at hr; exact h x hm r hr
theorem ok_less {t : Option R} (h : Less env eE) (k : Ok X p eE H t) : Ok X p env H t :=
 fun r hr m0 w0 b0 m w a h0 fr hn hd rw st => k r hr m0 w0 b0 m w a h0 (fr.less h) hn hd rw st
theorem oK {t : Option R} (ks : List Nat) (h : keepOnly env ks = eE) (k : Ok X p eE H t) : Ok X p env H t :=
 ok_less (h ▸ less_keepOnly ks env) k
theorem ok_at {t : Option R} (h : p = p') (k : Ok X p' env H t) : Ok X p env H t := h ▸ k
theorem ok_heap {t : Option R} (h : H = H') (k : Ok X p env H' t) : Ok X p env H t := h ▸ k
theorem oE {t : Option R} (h : env = eE) (k : Ok X p eE H t) : Ok X p env H t := h ▸ k
theorem less_put {d : Nat} {v : AV} (h : look env d = v) : Less env (putE env d v) := by
 intro t
 rw [look_put]
 split
 ·rename_i e; subst e; exact .inr h.symm
 ·exact .inr rfl
theorem oS {t1 t2 : Option R} (d : Nat) {b : Bool} (h : look env d = .bool b) (k1 : b = true → Ok X p ((d, .bool true) :: env) H t1) (k2 : b = false → Ok X p ((d, .bool false) :: env) H t2) : Ok X p env H (if b then t1 else t2) := by
 cases b with
 | true => exact ok_less (less_put h) (k1 rfl)
 | false => exact ok_less (less_put h) (k2 rfl)
abbrev jn {α R : Type} (f : α → Option R) (b : (α → Option R) → Option R) : Option R := b f
theorem oJ {α : Type} {f : α → Option R} {b : (α → Option R) → Option R} (pj : Pt) (E : α → Env) (G : α → Hp) (k1 : ∀ x, Ok X pj (E x) (G x) (f x)) (k2 : ∀ j : α → Option R, (∀ x, Ok X pj (E x) (G x) (j x)) → Ok X p env H (b j)) : Ok X p env H (jn f b) := k2 f k1
theorem ok_stp {t : Option R} {ops : Array Oper} {n : Nat} {K : List Fr} {o : Oper} {v : AV} (ho : ops[n]? = some o) (hd : dstOk X.fn.ntmps o = true) (hw : wantedV o ops.toList env = some true) (hs : Stp X.P X.C env H o v H') (k : Ok X (.ops ops (n + 1) K) (putV env o.dst v) H' t) : Ok X (.ops ops n K) env H t := by
 intro r hr m0 w0 b0 m w a h0 fr hn hdf rw st
 show wpOps X.P ops _ (List.range' n (ops.size - n)) a w
 have hlt : n < ops.size := (Array.getElem?_eq_some_iff.1 ho).1
 rw [show ops.size - n = (ops.size - (n + 1)) + 1 by omega, List.range'_succ]
 simp only [wpOps, ho]
 rw [wanted_ok hw fr]
 simp only [if_true]
 refine .inl ?_
 refine stp_ok X.hti hs fr rw _ _ fun m' w' c q1 q2 q3 => ?_
 obtain ⟨f1, f2, f3⟩ := act_put_frame (fr.mono q2.sub) hn hdf o hd v c q3
 exact k r hr m0 w0 b0 m' w' _ h0 f1 f2 f3 q1 (st.trans h0.2 q2)
theorem ok_skp {t : Option R} {ops : Array Oper} {n : Nat} {K : List Fr} {o : Oper} (ho : ops[n]? = some o) (hd : dstOk X.fn.ntmps o = true) (hw : wantedV o ops.toList env = some false) (k : Ok X (.ops ops (n + 1) K) (putV env o.dst (.tuple [])) H t) : Ok X (.ops ops n K) env H t := by
 intro r hr m0 w0 b0 m w a h0 fr hn hdf rw st
 show wpOps X.P ops _ (List.range' n (ops.size - n)) a w
 have hlt : n < ops.size := (Array.getElem?_eq_some_iff.1 ho).1
 rw [show ops.size - n = (ops.size - (n + 1)) + 1 by omega, List.range'_succ]
 simp only [wpOps, ho]
 rw [wanted_ok hw fr]
 simp only [Bool.false_eq_true, if_false]
 obtain ⟨f1, f2, f3⟩ := act_put_frame fr hn hdf o hd (.tuple []) undef (VR_undef _)
 exact k r hr m0 w0 b0 m w _ h0 f1 f2 f3 rw st
theorem ok_go {t : Option R} (h : ∀ (Q : Exit → Act → World → Prop) (a : Act) (w : World), True → At X.P Q p' a w → At X.P Q p a w) (k : Ok X p' env H t) : Ok X p env H t :=
 fun r hr m0 w0 b0 m w a h0 fr hn hd rw st => h _ a w trivial (k r hr m0 w0 b0 m w a h0 fr hn hd rw st)
end
end Go.Proofs.Ytabhkocokojddaa.Am
set_option linter.unusedVariables false
set_option linter.unusedSimpArgs false
namespace Go.Proofs.Ytabhkocokojddaa.Am
open Go
section
variable {R : Type} {X : Fx R} {p p' : Pt} {env eE : Env} {H H' : Hp}
noncomputable def stepV (C : Cx) (n : Nat) (p : Pt) (env : Env) (H : Hp) : Option (Pt × Env × Hp) :=
 match p with
 | .ops ops k K => match nth ops.toList k with
  | some o => bif dstOk n o then (match wantedV o ops.toList env with
   | some true => (match opV C env H o with | some (v, H') => some (.ops ops (k + 1) K, putV env o.dst v, H') | none => none)
   | some false => some (.ops ops (k + 1) K, putV env o.dst (.tuple []), H)
   | none => none) else none
  | none => some (resume K, env, H)
 | .code c K => match c with
  | .seq a b => some (.code a (.seq b :: K), env, H)
  | .skip => some (resume K, env, H)
  | .label _ => some (resume K, env, H)
  | .block id b => some (.code b (.block id :: K), env, H)
  | .scope b => some (.code b (.scope b :: K), env, H)
  | .loop b => some (.loop b K, env, H)
  | .exit id => match exitK id K with | some q => some (q, env, H) | none => none
  | .goto l => match gotoK l K with | some q => some (q, env, H) | none => none
  | .ret => some (.fin, env, H)
  | .region id ops draw => bif draw then none else some (.ops ops 0 K, env, H)
  | .cond c x y => match opnd env c with | .bool b => some (.code (bif b then x else y) K, env, H) | _ => none
  | _ => none
 | _ => none
theorem fin_ops {t : Option R} {ops : Array Oper} {n : Nat} {K : List Fr} (h : ops[n]? = none) (k : Ok X (resume K) env H t) : Ok X (.ops ops n K) env H t := by
 intro r hr m0 w0 b0 m w a h0 fr hn hd rw st
 show wpOps X.P ops _ (List.range' n (ops.size - n)) a w
 have hle : ops.size ≤ n := by
  rcases Nat.lt_or_ge n ops.size with h1 | h1
  ·rw [Array.getElem?_eq_getElem h1] at h; cases h
  ·exact h1
 rw [show ops.size - n = 0 by omega]
 exact resume_ok (k r hr m0 w0 b0 m w a h0 fr hn hd rw st)
theorem stepV_ok {t : Option R} (h : stepV X.C X.fn.ntmps p env H = some (p', eE, H')) (k : Ok X p' eE H' t) : Ok X p env H t := by
 cases p with
 | ops ops n K =>
  simp only [stepV] at h
  rw [nth_eq, Array.getElem?_toList] at h
  cases ho : ops[n]? with
  | none => rw [ho] at h; cases h; exact fin_ops ho k
  | some o =>
   rw [ho] at h
   simp only at h
   cases hd : dstOk X.fn.ntmps o with
   | false => rw [hd] at h; cases h
   | true =>
    rw [hd] at h
    simp only [cond_true] at h
    split at h
    ·rename_i hw
     split at h
     ·rename_i v H1 hv
      cases h
      exact ok_stp ho hd hw (.inl hv) k
     ·cases h
    ·rename_i hw
     cases h
     exact ok_skp ho hd hw k
    ·cases h
 | code c K =>
  cases c <;> simp only [stepV] at h
  case seq x y => cases h; exact ok_go (p' := .code x (.seq y :: K)) (fun Q a w _ hh => wp_seq (wp_mono hh fun e a w he => by cases e <;> exact he)) k
  case skip => cases h; exact ok_go (fun Q a w _ hh => wp_skip (resume_ok hh)) k
  case label => cases h; exact ok_go (fun Q a w _ hh => wp_label (resume_ok hh)) k
  case block id b => cases h; exact ok_go (p' := .code b (.block id :: K)) (fun Q a w _ hh => wp_block hh) k
  case scope b => cases h; exact ok_go (p' := .code b (.scope b :: K)) (fun Q a w _ hh => (scope_ok hh).wp) k
  case loop b => cases h; exact ok_go (p' := .loop _ _) (fun Q a w _ hh => LoopWp.wp hh) k
  case exit id =>
   split at h
   ·rename_i q hq
    cases h
    exact ok_go (fun Q a w _ hh => wp_exit (exitK_ok hq hh)) k
   ·cases h
  case goto l =>
   split at h
   ·rename_i q hq
    cases h
    exact ok_go (fun Q a w _ hh => wp_goto (gotoK_ok hq hh)) k
   ·cases h
  case ret => cases h; exact ok_go (p' := .fin) (fun Q a w _ hh => wp_ret (retK_ok hh.2 K)) k
  case region id ops draw =>
   cases draw with
   | true => cases h
   | false =>
    cases h
    refine ok_go (fun Q a w _ hh => wp_region ?_) k
    have hh' : wpOps X.P ops (FinK X.P Q K) (List.range' 0 (ops.size - 0)) a w := hh
    rw [List.range_eq_range']
    exact hh'
  case cond c x y =>
   split at h
   ·rename_i b hb
    cases h
    intro r hr m0 w0 b0 m w a h0 fr hn hd rw st
    have hc := opnd_ok fr c
    rw [hb] at hc
    simp only [VR] at hc
    refine wp_cond hc ?_
    have := k r hr m0 w0 b0 m w a h0 fr hn hd rw st
    cases b <;> exact this
   ·cases h
  all_goals cases h
 | loop b K => cases h
 | fin => cases h
noncomputable def runV (C : Cx) (n : Nat) (k : Nat) : Pt → Env → Hp → Option (Pt × Env × Hp) :=
 Nat.rec (motive := fun _ => Pt → Env → Hp → Option (Pt × Env × Hp)) (fun p env H => some (p, env, H))
  (fun _ ih p env H => match stepV C n p env H with | some (p', eE, H') => ih p' eE H' | none => none) k
theorem oR {t : Option R} : ∀ (k : Nat) {p : Pt} {env : Env} {H : Hp}, runV X.C X.fn.ntmps k p env H = some (p', eE, H') → Ok X p' eE H' t → Ok X p env H t
 | 0, p, env, H, h, g => by
  have h' : some (p, env, H) = some (p', eE, H') := h
  cases h'
  exact g
 | k + 1, p, env, H, h, g => by
  have h' : (match stepV X.C X.fn.ntmps p env H with | some (p', eE, H') => runV X.C X.fn.ntmps k p' eE H' | none => none) = some (p', eE, H') := h
  split at h'
  ·rename_i p1 env1 H1 hs
   exact stepV_ok hs (oR k h' g)
  ·cases h'
def entL : Pt → Option Pt
 | .loop b K => some (.code b (.loop b :: K))
 | _ => none
theorem ok_ent {t : Option R} (h : entL p = some p') (k : Ok X p' env H t) : Ok X p env H t := by
 cases p <;> simp only [entL] at h <;> cases h
 exact ok_go (p' := .code _ (.loop _ :: _)) (fun Q a w _ hh => LoopWp.of (wp_mono hh fun e a w he => by cases e <;> exact he)) k
noncomputable def operAt (n : Nat) (p : Pt) (env : Env) : Option Oper :=
 match p with
 | .ops ops k K => match nth ops.toList k with
  | some o => bif dstOk n o then (match wantedV o ops.toList env with | some true => some o | _ => none) else none
  | none => none
 | _ => none
def adv : Pt → Pt
 | .ops ops k K => .ops ops (k + 1) K
 | q => q
noncomputable def evalAt (C : Cx) (n : Nat) (p : Pt) (env : Env) (H : Hp) : Option (AV × Hp) :=
 match operAt n p env with | some o => opV C env H o | none => none
noncomputable def advE (n : Nat) (p : Pt) (env : Env) (v : AV) : Option (Pt × Env) :=
 match operAt n p env with | some o => some (adv p, putV env o.dst v) | none => none
noncomputable def callAt (n : Nat) (p : Pt) (env : Env) : Option (Nat × List AV) :=
 match operAt n p env with
 | some o => match o.op with
  | .call c => match c.callee with
   | .value g => match opnd env g with
    | .func f first caps => some (f, first ++ opnds env c.args.toList ++ caps)
    | _ => none
   | _ => none
  | _ => none
 | none => none
theorem operAt_spec {n : Nat} {o : Oper} (h : operAt n p env = some o) : ∃ ops k K, p = .ops ops k K ∧ ops[k]? = some o ∧ dstOk n o = true ∧ wantedV o ops.toList env = some true := by
 cases p <;> simp only [operAt] at h <;> try (cases h; done)
 rename_i ops k K
 rw [nth_eq, Array.getElem?_toList] at h
 cases ho : ops[k]? with
 | none => rw [ho] at h; cases h
 | some o' =>
  rw [ho] at h
  simp only at h
  cases hd : dstOk n o' with
  | false => rw [hd] at h; cases h
  | true =>
   rw [hd] at h
   simp only [cond_true] at h
   split at h
   ·rename_i hw
    cases h
    exact ⟨ops, k, K, rfl, ho, hd, hw⟩
   ·cases h
theorem ok_val {t : Option R} {v : AV} (h : evalAt X.C X.fn.ntmps p env H = some (v, H')) (ha : advE X.fn.ntmps p env v = some (p', eE)) (k : Ok X p' eE H' t) : Ok X p env H t := by
 unfold evalAt at h
 unfold advE at ha
 cases ho : operAt X.fn.ntmps p env with
 | none => rw [ho] at h; cases h
 | some o =>
  rw [ho] at h ha
  simp only at h ha
  cases ha
  obtain ⟨ops, n, K, rfl, h1, h2, h3⟩ := operAt_spec ho
  exact ok_stp h1 h2 h3 (.inl h) k
theorem oH {α : Type} {m : Option α} {f : α → Option R} (g : α → AV × Hp) (p' : Pt) (E : α → Env) (h : evalAt X.C X.fn.ntmps p env H = m.map g) (ha : ∀ x, advE X.fn.ntmps p env (g x).1 = some (p', E x)) (k : ∀ x, m = some x → Ok X p' (E x) (g x).2 (f x)) : Ok X p env H (m.bind f) := by
 refine ok_bind fun x hx => ?_
 subst hx
 exact ok_val (v := (g x).1) (H' := (g x).2) h (ha x) (k x rfl)
theorem oC {α : Type} {m : Option α} {f : α → Option R} {fi : Nat} {args : List AV} (g : α → AV) (p' : Pt) (E : α → Env) (hc : callAt X.fn.ntmps p env = some (fi, args)) (hp : purs args = true) (hg : ∀ x, pur (g x) = true) (hf : ∀ x, m = some x → PureOk X.P fi args (g x)) (ha : ∀ x, advE X.fn.ntmps p env (g x) = some (p', E x)) (k : ∀ x, m = some x → Ok X p' (E x) H (f x)) : Ok X p env H (m.bind f) := by
 refine ok_bind fun x hx => ?_
 have hpo := pure_call (hf x hx) hp (hg x) H
 have hax := ha x
 unfold advE at hax
 unfold callAt at hc
 cases ho : operAt X.fn.ntmps p env with
 | none => rw [ho] at hax; cases hax
 | some o =>
  rw [ho] at hax hc
  simp only [Option.some.injEq, Prod.mk.injEq] at hax hc
  obtain ⟨e1, e2⟩ := hax
  obtain ⟨ops, n, K, rfl, h1, h2, h3⟩ := operAt_spec ho
  have kx := k x hx
  rw [← e1, ← e2] at kx
  split at hc
  ·rename_i c hoc
   split at hc
   ·rename_i q hq
    split at hc
    ·rename_i fi' first caps hfv
     cases hc
     exact ok_stp h1 h2 h3 (.inr ⟨c, q, fi, first, caps, hoc, hq, hfv, hpo⟩) kx
    ·cases hc
   ·cases hc
  ·cases hc
def drawAt : Pt → Option Pt
 | .code (.region _ _ true) K => some (resume K)
 | _ => none
def opsAt : Pt → Array Oper
 | .code (.region _ ops _) _ => ops
 | _ => #[]
noncomputable def rdOp (C : Cx) (env : Env) (hs : List Hp) (o : Oper) (j : Nat) : List (Option (AV × Hp) × Option (AV × Hp)) :=
 match nth hs j with
 | some H => [(opV C env H o, match o.dst with | some d => some (look env d, H) | none => opV C env H o)]
 | none => []
noncomputable def rdOps (C : Cx) (env : Env) (hs : List Hp) (o : Oper) : Nat → Nat → List (Option (AV × Hp) × Option (AV × Hp))
 | _, 0 => []
 | lo, n + 1 => rdOp C env hs o lo ++ rdOps C env hs o (lo + 1) n
noncomputable def rdL (C : Cx) (all : List Oper) (env : Env) (hs : List Hp) : Nat → List Oper → List (Nat × Nat × Nat) → List (Option (AV × Hp) × Option (AV × Hp))
 | c, o :: l, (_, lo, hi) :: pl => (bif Nat.beq (cls o) 1 && !(Nat.beq lo c && Nat.beq hi c) then (match wantedV o all env with | some true => rdOps C env hs o lo (hi + 1 - lo) | _ => []) else []) ++ rdL C all env hs (bif Nat.beq (cls o) 2 then c + 1 else c) l pl
 | _, _, _ => []
theorem rdOps_at {C : Cx} {env : Env} {hs : List Hp} {o : Oper} : ∀ (n lo j : Nat) (H : Hp), lo ≤ j → j < lo + n → hs[j]? = some H → (opV C env H o, match o.dst with | some d => some (look env d, H) | none => opV C env H o) ∈ rdOps C env hs o lo n
 | 0, lo, j, H, h1, h2, _ => by omega
 | n + 1, lo, j, H, h1, h2, h3 => by
  rw [rdOps, List.mem_append]
  by_cases e : lo = j
  ·subst e
   left
   unfold rdOp
   rw [nth_eq, h3]
   simp
  ·exact .inr (rdOps_at n (lo + 1) j H (by omega) (by omega) h3)
theorem rdL_at {C : Cx} {all : List Oper} {env : Env} {hs : List Hp} : ∀ (l : List Oper) (pl : List (Nat × Nat × Nat)) (c i : Nat) (o : Oper) (mk lo hi : Nat), l[i]? = some o → pl[i]? = some (mk, lo, hi) → cls o = 1 → wantedV o all env = some true → ¬ (lo = c + (l.take i).countP (fun p => Nat.beq (cls p) 2) ∧ hi = c + (l.take i).countP (fun p => Nat.beq (cls p) 2)) → ∀ j, lo ≤ j → j ≤ hi → ∀ H, hs[j]? = some H → (opV C env H o, match o.dst with | some d => some (look env d, H) | none => opV C env H o) ∈ rdL C all env hs c l pl
 | [], pl, c, i, o, mk, lo, hi, ho, _, _, _, _, j, _, _, H, _ => by simp at ho
 | p :: l, [], c, i, o, mk, lo, hi, ho, hp, _, _, _, j, _, _, H, _ => by simp at hp
 | p :: l, (mk0, lo0, hi0) :: pl, c, i, o, mk, lo, hi, ho, hp, hc, hw, hn, j, h1, h2, H, hj => by
  rw [rdL, List.mem_append]
  cases i with
  | zero =>
   simp at ho hp
   subst ho
   obtain ⟨rfl, rfl, rfl⟩ := hp
   left
   have e : Nat.beq (cls p) 1 = true := by rw [hc]; rfl
   have e2 : (Nat.beq lo0 c && Nat.beq hi0 c) = false := by
    cases h : (Nat.beq lo0 c && Nat.beq hi0 c) with
    | false => rfl
    | true =>
     simp only [Bool.and_eq_true] at h
     refine absurd (a := lo0 = c ∧ hi0 = c) ⟨Nat.eq_of_beq_eq_true h.1, Nat.eq_of_beq_eq_true h.2⟩ ?_
     simpa using hn
   rw [e, e2, hw]
   exact rdOps_at _ _ _ _ h1 (by omega) hj
  | succ i =>
   refine .inr (rdL_at l pl _ i o mk lo hi (by simpa using ho) (by simpa using hp) hc hw ?_ j h1 h2 H hj)
   rw [List.take_succ_cons, List.countP_cons] at hn
   cases hb : Nat.beq (cls p) 2 with
   | true => rw [hb] at hn; simp only [if_true] at hn; simp only [cond_true]; omega
   | false => rw [hb] at hn; simp only [Bool.false_eq_true, if_false] at hn; simp only [cond_false]; omega
theorem alike_of {C : Cx} {ops : Array Oper} {env : Env} {hs : List Hp} {pl : List (Nat × Nat × Nat)} (hsome : (rdL C ops.toList env hs 0 ops.toList pl).all (fun q => q.1.isSome) = true) (h : (rdL C ops.toList env hs 0 ops.toList pl).map (·.1) = (rdL C ops.toList env hs 0 ops.toList pl).map (·.2)) : AlikeP C ops env hs pl := by
 intro i o mk lo hi ho hp hc hw hn j h1 h2 H hj
 have hm := rdL_at (C := C) _ _ 0 i o mk lo hi ho hp hc hw (by simpa using hn) j h1 h2 H hj
 have e : opV C env H o = (match o.dst with | some d => some (look env d, H) | none => opV C env H o) := by
  have key : ∀ l : List (Option (AV × Hp) × Option (AV × Hp)), l.map (·.1) = l.map (·.2) → ∀ q ∈ l, q.1 = q.2 := by
   intro l
   induction l with
   | nil => intro _ q hq; cases hq
   | cons x l ih =>
    intro hl q hq
    simp only [List.map_cons, List.cons.injEq] at hl
    rcases List.mem_cons.1 hq with rfl | hq
    ·exact hl.1
    ·exact ih hl.2 q hq
  exact key _ h _ hm
 have hs1 := List.all_eq_true.1 hsome _ hm
 cases hd : o.dst with
 | none =>
  simp only at hs1
  obtain ⟨⟨v, H1⟩, hv⟩ := Option.isSome_iff_exists.1 hs1
  have := opV_reads hc hv
  subst this
  exact ⟨v, hv, fun d hd => by cases hd⟩
 | some d =>
  rw [hd] at e
  exact ⟨_, e, fun d' hd' => by cases hd'; rfl⟩
theorem ok_draw {t : Option R} (pl : List (Nat × Nat × Nat)) {hs : List Hp} (h : drawAt p = some p') (hp : planOk (opsAt p) pl = true) (hds : (opsAt p).toList.all (dstOk X.fn.ntmps) = true) (hD : OpsD X.P X.C (opsAt p).toList (opsAt p).toList env H eE hs) (hsome : (rdL X.C (opsAt p).toList eE (H :: hs) 0 (opsAt p).toList pl).all (fun q => q.1.isSome) = true) (hq : (rdL X.C (opsAt p).toList eE (H :: hs) 0 (opsAt p).toList pl).map (·.1) = (rdL X.C (opsAt p).toList eE (H :: hs) 0 (opsAt p).toList pl).map (·.2)) (hl : lastH H hs = H') (k : Ok X p' eE H' t) : Ok X p env H t := by
 subst hl
 unfold drawAt at h
 split at h
 ·rename_i id ops K
  cases h
  intro r hr m0 w0 b0 m w a h0 fr hn hd rw st
  have := drawS_ok (id := id) X.hti X.ord hds hp hD (alike_of hsome hq) fr hn hd rw
  show (Code.region id ops true).wp X.P _ a w
  refine wp_mono this ?_
  rintro e a' w' ⟨rfl, m', q1, q2, q3, q4, q5⟩
  exact resume_ok (k r hr m0 w0 b0 m' w' a' h0 q3 q4 q5 q1 (st.trans h0.2 q2))
 ·cases h
noncomputable def runD (C : Cx) (all : List Oper) (k : Nat) : List Oper → Env → Hp → Option (List Oper × Env × Hp × List Hp) :=
 Nat.rec (motive := fun _ => List Oper → Env → Hp → Option (List Oper × Env × Hp × List Hp)) (fun l env H => some (l, env, H, []))
  (fun _ ih l env H => match l with
   | [] => none
   | o :: l => match wantedV o all env with
    | none => none
    | some false => (match ih l (putV env o.dst (.tuple [])) H with
     | some (l', e, H', hs) => some (l', e, H', bif Nat.beq (cls o) 2 then H :: hs else hs)
     | none => none)
    | some true => (match opV C env H o with
     | some (v, H1) => (match ih l (putV env o.dst v) H1 with
      | some (l', e, H', hs) => some (l', e, H', bif Nat.beq (cls o) 2 then H1 :: hs else hs)
      | none => none)
     | none => none)) k
theorem opsD_run {P : Program} {C : Cx} {all : List Oper} {e : Env} {hs2 : List Hp} : ∀ (k : Nat) {l l' : List Oper} {env eE : Env} {H H' : Hp} {hs : List Hp}, runD C all k l env H = some (l', eE, H', hs) → OpsD P C all l' eE H' e hs2 → OpsD P C all l env H e (hs ++ hs2)
 | 0, l, l', env, eE, H, H', hs, h, g => by
  have h' : some (l, env, H, ([] : List Hp)) = some (l', eE, H', hs) := h
  cases h'
  exact g
 | k + 1, [], l', env, eE, H, H', hs, h, g => by cases h
 | k + 1, o :: l, l', env, eE, H, H', hs, h, g => by
  have h' : (match wantedV o all env with
   | none => none
   | some false => (match runD C all k l (putV env o.dst (.tuple [])) H with
    | some (l', e, H', hs) => some (l', e, H', bif Nat.beq (cls o) 2 then H :: hs else hs)
    | none => none)
   | some true => (match opV C env H o with
    | some (v, H1) => (match runD C all k l (putV env o.dst v) H1 with
     | some (l', e, H', hs) => some (l', e, H', bif Nat.beq (cls o) 2 then H1 :: hs else hs)
     | none => none)
    | none => none)) = some (l', eE, H', hs) := h
  split at h'
  ·cases h'
  ·rename_i hw
   split at h'
   ·rename_i hr
    cases h'
    have := OpsD.skip (P := P) hw (opsD_run k hr g)
    cases hc : Nat.beq (cls o) 2 <;> rw [hc] at this <;> exact this
   ·cases h'
  ·rename_i hw
   split at h'
   ·rename_i v H1 hv
    split at h'
    ·rename_i hr
     cases h'
     have := OpsD.val (P := P) hw (.inl hv) (opsD_run k hr g)
     cases hc : Nat.beq (cls o) 2 <;> rw [hc] at this <;> exact this
    ·cases h'
   ·cases h'
noncomputable def headO (all l : List Oper) (env : Env) : Option Oper := match l with | o :: _ => (match wantedV o all env with | some true => some o | _ => none) | [] => none
noncomputable def evalD (C : Cx) (all l : List Oper) (env : Env) (H : Hp) : Option (AV × Hp) := match headO all l env with | some o => opV C env H o | none => none
noncomputable def advD (all l : List Oper) (env : Env) (v : AV) (H : Hp) : Option (List Oper × Env × List Hp) := match headO all l env with | some o => some (l.tail, putV env o.dst v, bif Nat.beq (cls o) 2 then [H] else []) | none => none
theorem headO_spec {all l : List Oper} {o : Oper} (h : headO all l env = some o) : ∃ r, l = o :: r ∧ wantedV o all env = some true := by
 unfold headO at h
 split at h
 ·rename_i o' r
  split at h
  ·rename_i hw; cases h; exact ⟨r, rfl, hw⟩
  ·cases h
 ·cases h
theorem opsD_one {P : Program} {C : Cx} {all l l' : List Oper} {e : Env} {hs hs2 : List Hp} {o : Oper} {v : AV} (ho : headO all l env = some o) (hs0 : Stp P C env H o v H') (ha : advD all l env v H' = some (l', eE, hs)) (g : OpsD P C all l' eE H' e hs2) : OpsD P C all l env H e (hs ++ hs2) := by
 unfold advD at ha
 rw [ho] at ha
 cases ha
 obtain ⟨r, rfl, hw⟩ := headO_spec ho
 have := OpsD.val hw hs0 g
 cases hc : Nat.beq (cls o) 2 <;> rw [hc] at this <;> exact this
theorem opsD_chk {P : Program} {C : Cx} {all l l' : List Oper} {e : Env} {hs hs2 : List Hp} {α : Type} {m : Option α} {x : α} (g : α → AV × Hp) (h : evalD C all l env H = m.map g) (hx : m = some x) (ha : advD all l env (g x).1 (g x).2 = some (l', eE, hs)) (k : OpsD P C all l' eE (g x).2 e hs2) : OpsD P C all l env H e (hs ++ hs2) := by
 subst hx
 unfold evalD at h
 cases ho : headO all l env with
 | none => rw [ho] at h; cases h
 | some o =>
  rw [ho] at h
  exact opsD_one (v := (g x).1) ho (.inl h) ha k
noncomputable def mkT (n : Nat) (l : List Blk) : Tr :=
 List.rec (motive := fun _ => Nat → Tr) (fun _ => .nil) (fun b _ ih n => PT.set depth (ih (n + 1)) n b) l n
theorem mkT_nil (n : Nat) : mkT n [] = .nil := rfl
theorem mkT_cons (n : Nat) (b : Blk) (l : List Blk) : mkT n (b :: l) = PT.set depth (mkT (n + 1) l) n b := rfl
noncomputable def mkH (l : List Blk) : Hp := ⟨l.length, mkT 0 l⟩
theorem mkT_get : ∀ (l : List Blk) (n i : Nat), n + l.length ≤ roots → (mkT n l).get i = if n ≤ i then l[i - n]? else none
 | [], n, i, _ => by
  rw [mkT_nil]
  simp only [List.getElem?_nil, ite_self]
  exact PT.get_nil i
 | b :: l, n, i, h => by
  simp only [List.length_cons] at h
  by_cases e : n = i
  ·subst e
   rw [mkT_cons, Tr.get_set_eq _ _ _ _ (by unfold roots at h; unfold depth; omega)]
   simp
  ·rw [mkT_cons, Tr.get_set_ne _ _ _ _ _ e, mkT_get l (n + 1) i (by omega)]
   by_cases h1 : n ≤ i
   ·rw [if_pos (by omega), if_pos h1, show i - n = (i - (n + 1)) + 1 by omega, List.getElem?_cons_succ]
   ·rw [if_neg (by omega), if_neg h1]
mutual
def below (n : Nat) : AV → Bool
 | .ptr r _ _ => Nat.blt r n
 | .slice r _ _ _ _ => Nat.blt r n
 | .own r _ _ => Nat.blt r n
 | .agg xs => belows n xs
 | .tuple xs => belows n xs
 | .func _ a b => belows n a && belows n b
 | .iface _ v => below n v
 | _ => true
def belows (n : Nat) : List AV → Bool
 | [] => true
 | x :: xs => below n x && belows n xs
end
def Mp.cut (m : Mp) (n : Nat) : Mp := ⟨fun r v => if r < n then m r v else none, m.froz⟩
mutual
theorem below_VR {m : Mp} {n : Nat} : ∀ (x : AV) (c : Value), below n x = true → VR m x c → VR (m.cut n) x c
 | .top, _, _, _ => by simp only [VR]
 | .int .., _, _, e => by simpa only [VR] using e
 | .resid .., _, _, e => by simpa only [VR] using e
 | .bool _, _, _, e => by simpa only [VR] using e
 | .str _, _, _, e => by simpa only [VR] using e
 | .nilp, _, _, e => by simpa only [VR] using e
 | .nils, _, _, e => by simpa only [VR] using e
 | .nilf, _, _, e => by simpa only [VR] using e
 | .nili, _, _, e => by simpa only [VR] using e
 | .vec .., _, _, e => by simp only [VR] at e ⊢; exact e
 | .vptr .., _, _, e => by simp only [VR] at e ⊢; exact e
 | .ptr r v off, _, h, e => by
  simp only [VR, below, Nat.blt_eq] at e h ⊢
  obtain ⟨B, N, h1, h2⟩ := e
  exact ⟨B, N, by show (if r < n then m r v else none) = _; rw [if_pos h]; exact h1, h2⟩
 | .slice r v off len sz, _, h, e => by
  simp only [VR, below, Nat.blt_eq] at e h ⊢
  obtain ⟨B, N, cap, h1, h2⟩ := e
  exact ⟨B, N, cap, by show (if r < n then m r v else none) = _; rw [if_pos h]; exact h1, h2⟩
 | .own r len sz, _, h, e => by
  simp only [VR, below, Nat.blt_eq] at e h ⊢
  rcases e with e | ⟨B, N, cap, h1, h2⟩
  ·exact .inl e
  ·exact .inr ⟨B, N, cap, by show (if r < n then m r (len * sz) else none) = _; rw [if_pos h]; exact h1, h2⟩
 | .agg xs, c, h, e => by
  simp only [VR] at e ⊢
  obtain ⟨ys, h1, h2⟩ := e
  exact ⟨ys, h1, belows_VR xs _ (by simpa only [below] using h) h2⟩
 | .tuple xs, c, h, e => by
  simp only [VR] at e ⊢
  obtain ⟨ys, h1, h2⟩ := e
  exact ⟨ys, h1, belows_VR xs _ (by simpa only [below] using h) h2⟩
 | .func f a b, c, h, e => by
  simp only [VR] at e ⊢
  simp only [below, Bool.and_eq_true] at h
  obtain ⟨ys, zs, h1, h2, h3⟩ := e
  exact ⟨ys, zs, h1, belows_VR a _ h.1 h2, belows_VR b _ h.2 h3⟩
 | .iface t v, c, h, e => by
  simp only [VR] at e ⊢
  obtain ⟨d, h1, h2⟩ := e
  exact ⟨d, h1, below_VR v _ (by simpa only [below] using h) h2⟩
theorem belows_VR {m : Mp} {n : Nat} : ∀ (xs : List AV) (cs : List Value), belows n xs = true → VRs m xs cs → VRs (m.cut n) xs cs
 | [], _, _, e => by simpa only [VRs] using e
 | x :: xs, cs, h, e => by
  simp only [VRs] at e ⊢
  simp only [belows, Bool.and_eq_true] at h
  obtain ⟨y, ys, rfl, h1, h2⟩ := e
  exact ⟨y, ys, rfl, below_VR x y h.1 h1, belows_VR xs ys h.2 h2⟩
end
mutual
theorem pur_below {n : Nat} : ∀ x : AV, pur x = true → below n x = true
 | .top, _ | .int .., _ | .resid .., _ | .bool _, _ | .str _, _ | .nilp, _ | .nils, _ | .nilf, _ | .nili, _ | .vec .., _ | .vptr .., _ => by simp [below]
 | .ptr .., h | .slice .., h | .own .., h => by simp [pur] at h
 | .agg xs, h => by simp only [pur, below] at h ⊢; exact purs_belows xs h
 | .tuple xs, h => by simp only [pur, below] at h ⊢; exact purs_belows xs h
 | .func _ a b, h => by simp only [pur, below, Bool.and_eq_true] at h ⊢; exact ⟨purs_belows a h.1, purs_belows b h.2⟩
 | .iface _ v, h => by simp only [pur, below] at h ⊢; exact pur_below v h
theorem purs_belows {n : Nat} : ∀ xs : List AV, purs xs = true → belows n xs = true
 | [], _ => rfl
 | x :: xs, h => by simp only [purs, belows, Bool.and_eq_true] at h ⊢; exact ⟨pur_below x h.1, purs_belows xs h.2⟩
end
def belowE (n : Nat) : Env → Bool
 | [] => true
 | p :: l => below n p.2 && belowE n l
theorem belowE_look {n : Nat} : ∀ {e : Env} (t : Nat), belowE n e = true → below n (look e t) = true
 | [], t, _ => rfl
 | p :: l, t, h => by
  simp only [belowE, Bool.and_eq_true] at h
  rw [look_cons]
  split
  ·exact h.1
  ·exact belowE_look t h.2
def BB (n : Nat) : List Blk → Prop
 | [] => True
 | b :: l => belows n b.cells = true ∧ BB n l
theorem BB_get {n : Nat} : ∀ {l : List Blk} {i : Nat} {b : Blk}, BB n l → l[i]? = some b → belows n b.cells = true
 | [], i, b, _, h => by simp at h
 | b0 :: l, i, b, hb, h => by
  cases i with
  | zero => simp at h; subst h; exact hb.1
  | succ i => exact BB_get hb.2 (by simpa using h)
theorem belows_take {n : Nat} : ∀ {xs : List AV} (k : Nat), belows n xs = true → belows n (xs.take k) = true
 | [], k, _ => by simp [belows]
 | x :: xs, 0, _ => by simp [belows]
 | x :: xs, k + 1, h => by
  simp only [belows, List.take_succ_cons, Bool.and_eq_true] at h ⊢
  exact ⟨h.1, belows_take k h.2⟩
theorem ok_cut {t : Option R} (l l2 : List Blk) (hn0 : Nat.ble X.n0 l.length = true) (hn : Nat.ble (l.length + l2.length) roots = true) (he : belowE l.length env = true) (hb : BB l.length l) (k : Ok X p env (mkH l) t) : Ok X p env (mkH (l ++ l2)) t := by
 intro r hr m0 w0 b0 m w a h0 fr hnt hd rw st
 have hn : l.length + l2.length ≤ roots := Nat.le_of_ble_eq_true hn
 have hget : ∀ i, i < l.length → (mkH (l ++ l2)).t.get i = (mkH l).t.get i := by
  intro i hi
  show (mkT 0 (l ++ l2)).get i = (mkT 0 l).get i
  rw [mkT_get _ _ _ (by simp; omega), mkT_get _ _ _ (by omega)]
  simp [List.getElem?_append_left hi]
 have hcut : ∀ {r v q}, (m.cut l.length) r v = some q → r < l.length ∧ m r v = some q := by
  intro r v q h
  have h : (if r < l.length then m r v else none) = some q := h
  by_cases e : r < l.length
  ·rw [if_pos e] at h; exact ⟨e, h⟩
  ·rw [if_neg e] at h; cases h
 have hnone : ∀ i, l.length ≤ i → (mkH l).t.get i = none := by
  intro i hi
  show (mkT 0 l).get i = none
  rw [mkT_get _ _ _ (by omega)]
  simp [hi]
 refine k r hr m0 w0 b0 (m.cut l.length) w a h0 ?_ hnt hd ⟨?_, ?_, ?_, hnone, ?_, rw.frz, ?_, rw.ffin, rw.base_le, ?_⟩ ⟨⟨fun r v q hq => (by
  have h1 := h0.1 r v q hq
  have h2 := Nat.le_of_ble_eq_true hn0
  show (if r < l.length then m r v else none) = some q
  rw [if_pos (by omega)]
  exact st.sub.1 r v q hq), st.sub.2⟩, ?_, st.fext, st.size, st.os, st.tape, st.output, st.same⟩
 ·intro t ht
  obtain ⟨c, h1, h2⟩ := fr t ht
  exact ⟨c, h1, below_VR _ _ (belowE_look t he) h2⟩
 ·intro r b v B N hb' hm h1 h2
  obtain ⟨hlt, hm⟩ := hcut hm
  obtain ⟨cs, ty, fr', q1, q2, q3, q4, q5⟩ := rw.blk r b v B N (by rw [hget r hlt]; exact hb') hm h1 h2
  have hbl : l[r]? = some b := by
   have hb' : (mkT 0 l).get r = some b := hb'
   rw [mkT_get _ _ _ (by omega)] at hb'
   simpa using hb'
  exact ⟨cs, ty, fr', q1, q2, q3, q4, belows_VR _ _ (belows_take v (BB_get hb hbl)) q5⟩
 ·intro r v B N hm
  obtain ⟨hlt, hm⟩ := hcut hm
  rw [← hget r hlt]
  exact rw.dom r v B N hm
 ·intro r v B N r' v' N' hm hm' hB
  exact rw.sep _ _ _ _ _ _ _ (hcut hm).2 (hcut hm').2 hB
 ·intro r v B N hm
  exact rw.vle _ _ _ _ (hcut hm).2
 ·intro i B cells r v N b hi hm hb'
  obtain ⟨hlt, hm⟩ := hcut hm
  exact rw.fsep i B cells r v N b hi hm (by rw [hget r hlt]; exact hb')
 ·show l.length ≤ roots
  omega
 ·intro r v B N hm
  exact st.ext r v B N (hcut hm).2
theorem ok_own {t : Option R} (l : List Blk) (d sz : Nat) (hn : Nat.blt l.length roots = true) (h : look env d = .nils) (k : Ok X p ((d, .own l.length 0 sz) :: env) (mkH (l ++ [⟨[], 0, false⟩])) t) : Ok X p env (mkH l) t := by
 intro r hr m0 w0 b0 m w a h0 fr hnt hd rw st
 have hn : l.length < roots := by simpa using hn
 have hg : RW m ⟨l.length + 1, Tr.set depth (mkH l).t l.length ⟨[], 0, false⟩⟩ w b0 := rw.ghost hn
 have hH : RW m (mkH (l ++ [⟨[], 0, false⟩])) w b0 := by
  have e : ∀ i, (mkH (l ++ [⟨[], 0, false⟩])).t.get i = (Tr.set depth (mkH l).t l.length ⟨[], 0, false⟩).get i := by
   intro i
   show (mkT 0 (l ++ [⟨[], 0, false⟩])).get i = (Tr.set depth (mkT 0 l) l.length ⟨[], 0, false⟩).get i
   rw [mkT_get _ _ _ (by simp; omega)]
   by_cases ei : l.length = i
   ·subst ei
    rw [Tr.get_set_eq _ _ _ _ (by unfold roots at hn; unfold depth; omega)]
    simp
   ·rw [Tr.get_set_ne _ _ _ _ _ ei, mkT_get _ _ _ (by omega)]
    by_cases h1 : i < l.length
    ·simp [List.getElem?_append_left h1]
    ·rw [List.getElem?_eq_none (by simp; omega), List.getElem?_eq_none (by omega)]
  have en : (mkH (l ++ [⟨[], 0, false⟩])).next = l.length + 1 := by simp [mkH]
  refine ⟨fun r b v B N hb => hg.blk r b v B N (by rw [← e]; exact hb), fun r v B N hm => by rw [e]; exact hg.dom r v B N hm, hg.sep, fun r hr => by rw [e]; exact hg.fresh r (by rw [en] at hr; exact hr), hg.vle, hg.frz, fun i B cells r v N b hi hm hb => hg.fsep i B cells r v N b hi hm (by rw [← e]; exact hb), hg.ffin, hg.base_le, by rw [en]; exact hn⟩
 refine k r hr m0 w0 b0 m w a h0 ?_ hnt hd hH st
 intro t ht
 by_cases e : d = t
 ·subst e
  obtain ⟨c, h1, h2⟩ := fr d (by rw [h]; intro e; cases e)
  rw [h] at h2
  simp only [VR] at h2
  refine ⟨c, h1, ?_⟩
  rw [look_cons, if_pos rfl]
  unfold VR
  exact .inl ⟨rfl, h2⟩
 ·have he : look ((d, AV.own l.length 0 sz) :: env) t = look env t := by rw [look_cons, if_neg e]
  rw [he] at ht ⊢
  exact fr t ht
theorem resV_ok {P : Program} {C : Cx} (hti : ∀ t i, C.ti t = some i → mkTi P t = some i) {m : Mp} {H : Hp} {w : World} {base : Nat} {env : Env} {a : Act} (fr : FR m env a.tmps) (rw : RW m H w base) (g : ResultVar → Sem Value) (hg1 : ∀ t, g (.tmp t) = pure (a.tmps.getD t undef)) (hg2 : ∀ p t, g (.cell p t) = do loadVar t (← asAddr (a.tmps.getD p undef))) : ∀ (l : List ResultVar) (xs : List AV), resV C env H l = some xs →
 ∃ vs : List Value, (l.mapM g).run P w = .ok vs w ∧ VRs m xs vs
 | [], xs, h => by simp only [resV] at h; cases h; exact ⟨[], by simp, by simp [VRs]⟩
 | .tmp t :: l, xs, h => by
  simp only [resV] at h
  cases hl : resV C env H l with
  | none => rw [hl] at h; cases h
  | some ys =>
   rw [hl] at h
   cases h
   obtain ⟨vs, h1, h2⟩ := resV_ok hti fr rw g hg1 hg2 l ys hl
   refine ⟨a.tmps.getD t undef :: vs, ?_, by simp only [VRs]; exact ⟨_, _, rfl, fr.getD t, h2⟩⟩
   simp only [List.mapM_cons, hg1, Sem.run_bind, Sem.run_pure, Result.andThen_ok, h1]
 | .cell p t :: l, xs, h => by
  simp only [resV] at h
  split at h
  ·rename_i i r v off ys ht hp hl
   split at h
   ·rename_i cs hcs
    split at h
    ·rename_i x hx
     cases h
     obtain ⟨vs, h1, h2⟩ := resV_ok hti fr rw g hg1 hg2 l ys hl
     have hv := fr.getD p
     rw [hp] at hv
     have hld : ∃ c, (loadVar t (match a.tmps.getD p undef with | .pointer (some b) => b | _ => default)).run P w = .ok c w ∧ VR m x c ∧ ∃ b, a.tmps.getD p undef = .pointer (some b) := by
      have hv' := hv
      simp only [VR] at hv'
      obtain ⟨B, N, hm, e⟩ := hv'
      obtain ⟨c, hc1, hc2⟩ := op_load_run (P := P) hti ht hv hcs hx rw
      rw [e] at hc1
      rw [e]
      exact ⟨c, hc1, hc2, _, rfl⟩
     obtain ⟨c, hc1, hc2, b, hb⟩ := hld
     rw [hb] at hc1
     refine ⟨c :: vs, ?_, by simp only [VRs]; exact ⟨_, _, rfl, hc2, h2⟩⟩
     simp only [List.mapM_cons, hg2, Sem.run_bind, hb, asAddr, Sem.run_pure, Result.andThen_ok, hc1, h1]
    ·cases h
   ·cases h
  ·cases h
theorem results_ok {P : Program} {C : Cx} (hti : ∀ t i, C.ti t = some i → mkTi P t = some i) {m : Mp} {H : Hp} {w : World} {base : Nat} {env : Env} {a : Act} {fn : Func} {xs : List AV} (fr : FR m env a.tmps) (rw : RW m H w base) (h : resV C env H fn.results.toList = some xs) :
 ∃ v, (results fn a.tmps).run P w = .ok v w ∧ VR m (oneRes xs) v := by
 have key : ∀ g : ResultVar → Sem Value, (∀ t, g (.tmp t) = pure (a.tmps.getD t undef)) → (∀ p t, g (.cell p t) = do loadVar t (← asAddr (a.tmps.getD p undef))) → ∃ vs : List Value, (fn.results.mapM g).run P w = .ok vs.toArray w ∧ VRs m xs vs := by
  intro g hg1 hg2
  obtain ⟨vs, h1, h2⟩ := resV_ok (P := P) hti fr rw g hg1 hg2 _ _ h
  exact ⟨vs, by rw [Array.mapM_eq_mapM_toList, Sem.run_map, h1]; rfl, h2⟩
 unfold results
 obtain ⟨vs, hm, h2⟩ := key (fun | .tmp t => pure (a.tmps.getD t undef) | .cell p t => do loadVar t (← asAddr (a.tmps.getD p undef))) (fun _ => rfl) (fun _ _ => rfl)
 have hlen := VRs.len h2
 refine ⟨if h : vs.toArray.size = 1 then vs.toArray[0] else .tuple vs.toArray, ?_, ?_⟩
 ·rw [Sem.run_bind]
  erw [hm]
  rfl
 ·unfold oneRes
  split
  ·simp only [VRs] at h2
   obtain ⟨y, ys, rfl, h3, rfl⟩ := h2
   simpa using h3
  ·rename_i hne
   have : ¬ vs.toArray.size = 1 := by
    intro e
    have e1 : xs.length = 1 := by simpa [hlen] using e
    obtain ⟨x, hx⟩ := List.length_eq_one_iff.1 e1
    exact hne x hx
   rw [dif_neg this]
   simp only [VR]
   exact ⟨_, rfl, by simpa using h2⟩
theorem oT {r : R} {xs : List AV} {v : AV} (hn0 : X.n0 = 0) (hfin : X.fin r = H0) (hr : resV X.C env H X.fn.results.toList = some xs) (hz : FzG H [oneRes xs] [v]) (hv : X.enc r = v) : Ok X .fin env H (some r) := by
 intro r' e m0 w0 b0 m w a h0 fr hnt hd rw st
 cases e
 have hnone : ∀ r v, m0 r v = none := by
  intro r v
  cases e : m0 r v with
  | none => rfl
  | some p => have := h0.1 r v p e; omega
 obtain ⟨c, h1, h2⟩ := results_ok (P := X.P) X.hti fr rw hr
 have hF : FOk m.froz m.froz w b0 := by
  refine ⟨fun i B cells hi => rw.frz i B cells hi, rw.ffin, fun i B cells h => .inl h, fun _ _ h => h⟩
 obtain ⟨F', g1, g2, g3⟩ := fz_ok rw hz hF (cs := [c]) (by simp only [VRs]; exact ⟨c, [], rfl, h2, rfl⟩)
 simp only [VRs] at g3
 obtain ⟨c', cs', e, g3, _⟩ := g3
 cases e
 have fin : ∃ m' c', Ending.returned c = .returned c' ∧ RW m' (X.fin r) w b0 ∧ St m0 w0 b0 m' w ∧ VR m' (X.enc r) c' := by
  rw [hfin]
  refine ⟨⟨fun _ _ => none, F'⟩, c, rfl, ⟨?_, ?_, ?_, fun _ _ => rfl, ?_, g1.ok, ?_, g1.fin, rw.base_le, by show 0 ≤ roots; unfold roots; omega⟩, ⟨⟨fun r v q hq => (by rw [hnone] at hq; cases hq), fun i p hp => g2 i p (st.sub.2 i p hp)⟩, ?_, ?_, st.size, st.os, st.tape, st.output, st.same⟩, by rw [hv]; exact g3⟩
  ·intro r b v B N hb hm; cases hm
  ·intro r v B N hm; cases hm
  ·intro r v B N r' v' N' hm; cases hm
  ·intro r v B N hm; cases hm
  ·intro i B cells r v N b _ hm; cases hm
  ·intro r v B N hm; cases hm
  ·intro i B cells hi
   rcases g1.new i B cells hi with h | h
   ·exact st.fext i B cells h
   ·exact .inr h
 exact ⟨⟨hd, c, h1, fin⟩, ⟨hd, c, h1, fin⟩⟩
theorem look_args0 : ∀ (xs : List AV) (i t : Nat), look (args0 i xs) t = if i ≤ t then (xs[t - i]?).getD .top else .top
 | [], i, t => by simp [args0, look_nil]
 | x :: xs, i, t => by
  rw [args0, look_put, look_args0 xs (i + 1) t]
  by_cases e : i = t
  ·subst e; simp
  ·rw [if_neg e]
   by_cases h : i ≤ t
   ·rw [if_pos (by omega), if_pos h, show t - i = (t - (i + 1)) + 1 by omega]; simp
   ·rw [if_neg (by omega), if_neg h]
theorem FR_args {m : Mp} {xs : List AV} {args rest : Array Value} (h : VRs m xs args.toList) : FR m (args0 0 xs) (args ++ rest) := by
 intro t ht
 rw [look_args0] at ht ⊢
 simp only [Nat.zero_le, if_true, Nat.sub_zero] at ht ⊢
 cases hx : xs[t]? with
 | none => rw [hx] at ht; exact absurd rfl ht
 | some x =>
  obtain ⟨c, hc, hv⟩ := VRs.get h t x hx
  rw [Array.getElem?_toList] at hc
  obtain ⟨hlt, _⟩ := Array.getElem?_eq_some_iff.1 hc
  exact ⟨c, by rw [Array.getElem?_append_left hlt]; exact hc, by simpa using hv⟩
def bodyAt (fn : Func) : Pt := match fn.body with | some c => .code c [] | none => .fin
theorem pure_of (X : Fx R) {f : Nat} (hfin : ∀ r, X.fin r = H0) (hf : X.P.funcs[f]? = some X.fn) (hn : (X.fn.name == "runtime.NumGoroutine") = false) (hb : X.fn.body.isSome = true) {xs : List AV} {t : Option R} (h : Ok X (bodyAt X.fn) (args0 0 xs) (mkH []) t) {r : R} (ht : t = some r) : PureOk X.P f xs (X.enc r) := by
 refine ⟨?_, X.fn, hf, hn, hb⟩
 intro m0 w args h0 hargs rw
 cases hc : X.fn.body with
 | none => rw [hc] at hb; cases hb
 | some c =>
  have e : bodyAt X.fn = .code c [] := by simp [bodyAt, hc]
  rw [e] at h
  have := h r ht m0 w w.heap.size m0 w { tmps := args ++ Array.replicate (X.fn.ntmps - args.size) undef, defers := [] } ⟨fun r v p e => (by rw [h0] at e; cases e), Nat.le_refl _⟩ (FR_args hargs) (by simp; omega) rfl rw (St.refl _ _ _)
  have e2 : Ret X r m0 w w.heap.size = bodyPost X.P X.fn fun x w' => ∃ m' c, x = .returned c ∧ RW m' H0 w' w.heap.size ∧ St m0 w w.heap.size m' w' ∧ VR m' (X.enc r) c := by unfold Ret; rw [hfin]
  rw [e2] at this
  exact calls_of_wp hf hc this
theorem law_walk {P : Program} {n : Nat} {xs : List AV} {args : Array Value} (h : PureOk P n xs (.bool true)) (hargs : VRs ⟨fun _ _ => none, fun _ => none⟩ xs args.toList) (w : World) :
 Calls P n args w fun e W' => e = .returned (.bool true) ∧ RowKit.Below w.heap.size w W' := by
 refine Calls.mono (h.1 ⟨fun _ _ => none, fun _ => none⟩ w args (fun _ _ => rfl) hargs ?_) ?_
 ·refine ⟨?_, ?_, ?_, fun _ _ => rfl, ?_, ?_, ?_, ⟨0, fun _ _ => rfl⟩, Nat.le_refl _, by show 0 ≤ roots; unfold roots; omega⟩
  ·intro r b v B N hb hm; cases hm
  ·intro r v B N hm; cases hm
  ·intro r v B N r' v' N' hm; cases hm
  ·intro r v B N hm; cases hm
  ·intro i B cells hi; cases hi
  ·intro i B cells r v N b _ hm; cases hm
 ·rintro e w' ⟨m', c, rfl, q1, q2, q3⟩
  simp only [VR] at q3
  exact ⟨by rw [q3], q2.below (Nat.le_refl _)⟩
end
end Go.Proofs.Ytabhkocokojddaa.Am
set_option linter.unusedVariables false
set_option linter.unusedSimpArgs false
namespace Go.Proofs.Ytabhkocokojddaa.Am
open Go
def nthS (s : List Nat) (k : Int) : Option Int := if 0 ≤ k then (match s[k.toNat]? with | some b => some (b : Int) | none => none) else none
theorem idxH {e : Option (AV × Hp)} {s : List Nat} {k : Int} {H : Hp} (h : e = (if 0 ≤ k then (match s[k.toNat]? with | some b => some (AV.int .u8 (b : Int), H) | none => none) else none)) : e = (nthS s k).map fun c => (AV.int .u8 c, H) := by
 rw [h]; unfold nthS
 split
 ·cases s[k.toNat]? <;> rfl
 ·rfl
def bnd (x : Option Int) (y d : Nat) : Option Nat := match x with | none => some d | some i => if 0 ≤ i ∧ i ≤ y then some i.toNat else none
def subL {α : Type} (l : List α) (lo hi : Option Int) : Option (List α) :=
 match bnd hi l.length l.length with
 | some h => (match bnd lo h 0 with | some b => some ((l.take h).drop b) | none => none)
 | none => none
theorem boundO_bnd (x : Option Int) (k : IntKind) (y d : Nat) : boundO (x.map (AV.int k)) y d = bnd x y d := by cases x <;> rfl
theorem subH {e : Option (AV × Hp)} {s : List Nat} (lo hi : Option Int) {H : Hp} (h : e = (match boundO (hi.map (AV.int .i64)) s.length s.length with | some h => (match boundO (lo.map (AV.int .i64)) h 0 with | some l => some (AV.str ((s.take h).drop l)) | none => none) | none => none).map fun v => (v, H)) : e = (subL s lo hi).map fun x => (AV.str x, H) := by
 rw [h, boundO_bnd]; unfold subL
 cases bnd hi s.length s.length with
 | none => rfl
 | some h =>
  simp only
  rw [boundO_bnd]
  cases bnd lo h 0 <;> rfl
def catS (a b : List Nat) : Option (List Nat) := if a.length + b.length < 2 ^ 40 then some (a ++ b) else none
theorem catH {e : Option (AV × Hp)} {a b : List Nat} {H : Hp} (h : e = (if a.length + b.length < 2 ^ 40 then some (AV.str (a ++ b)) else none).map fun v => (v, H)) : e = (catS a b).map fun x => (AV.str x, H) := by
 rw [h]; unfold catS; split <;> rfl
def nthL {α : Type} (l : List α) (k : Int) : Option α := if 0 ≤ k then l[k.toNat]? else none
theorem flatMap_len {α : Type} {enc : α → List AV} {sz : Nat} (h : ∀ x, (enc x).length = sz) : ∀ l : List α, (l.flatMap enc).length = l.length * sz
 | [] => by simp
 | x :: l => by rw [List.flatMap_cons, List.length_append, h, flatMap_len h l, List.length_cons, Nat.add_mul]; omega
theorem flatMap_at {α : Type} {enc : α → List AV} {sz : Nat} (h : ∀ x, (enc x).length = sz) : ∀ (l : List α) (k : Nat) (x : α), l[k]? = some x → ((l.flatMap enc).drop (k * sz)).take sz = enc x
 | [], k, x, e => by simp at e
 | y :: l, k, x, e => by
  rw [List.flatMap_cons]
  cases k with
  | zero =>
   simp at e
   subst e
   rw [Nat.zero_mul, List.drop_zero, List.take_append_of_le_length (by rw [h]; exact Nat.le_refl _), List.take_of_length_le (by rw [h]; exact Nat.le_refl _)]
  | succ k =>
   rw [List.drop_append, List.drop_of_length_le (by rw [h, Nat.add_mul]; omega), List.nil_append, h, show (k + 1) * sz - sz = k * sz by rw [Nat.add_mul]; omega]
   exact flatMap_at h l k x (by simpa using e)
theorem vidxH {α : Type} {enc : α → List AV} {sz : Nat} (hsz : ∀ x, (enc x).length = sz) {e : Option (AV × Hp)} {l : List α} {k : Int} {H : Hp} (h : e = (if sz = sz ∧ 0 ≤ k ∧ k < ((l.length : Nat) : Int) then some (AV.vptr (((l.flatMap enc).drop (k.toNat * sz)).take sz), H) else none)) : e = (nthL l k).map fun x => (AV.vptr (enc x), H) := by
 rw [h]; unfold nthL
 by_cases h0 : 0 ≤ k
 ·rw [if_pos h0]
  by_cases h1 : k < (l.length : Int)
  ·rw [if_pos ⟨rfl, h0, h1⟩]
   have hlt : k.toNat < l.length := by omega
   rw [List.getElem?_eq_getElem hlt, flatMap_at hsz l k.toNat _ (List.getElem?_eq_getElem hlt)]
   rfl
  ·rw [if_neg (fun hh => h1 hh.2.2), List.getElem?_eq_none (by omega)]
   rfl
 ·rw [if_neg (fun hh => h0 hh.2.1), if_neg h0]; rfl
def nthA {α : Type} (l : List α) (n : Nat) (k : Int) : Option α := if 0 ≤ k ∧ k < (n : Int) then l[k.toNat]? else none
theorem aidxH {α : Type} (enc : α → AV) {e : Option (AV × Hp)} (l : List α) {n : Nat} {k : Int} {H : Hp} (h : e = (if 0 ≤ k ∧ k < (n : Int) then ((l.map enc)[k.toNat * 1]?).map fun v => (v, H) else none)) : e = (nthA l n k).map fun x => (enc x, H) := by
 rw [h]; unfold nthA
 split
 ·rw [Nat.mul_one, List.getElem?_map]
  cases l[k.toNat]? <;> rfl
 ·rfl
def quoS (k : IntKind) (x y : Int) : Option Int := if y = 0 then none else some (fW k (x.tdiv y))
theorem quoH {e : Option (AV × Hp)} {k : IntKind} {x y : Int} {H : Hp} (h : e = (if y = 0 then none else some (AV.int k (fW k (x.tdiv y)))).map fun v => (v, H)) : e = (quoS k x y).map fun v => (AV.int k v, H) := by
 rw [h]; unfold quoS; split <;> rfl
def remS (x y : Int) : Option Int := if y = 0 then none else some (x.tmod y)
theorem remH {e : Option (AV × Hp)} {k : IntKind} {x y : Int} {H : Hp} (h : e = (if y = 0 then none else some (AV.int k (x.tmod y))).map fun v => (v, H)) : e = (remS x y).map fun v => (AV.int k v, H) := by
 rw [h]; unfold remS; split <;> rfl
def shlS (k : IntKind) (x y : Int) : Option Int := if y < 0 then none else some (fW k (x * 2 ^ (min y.toNat k.bits)))
theorem shlH {e : Option (AV × Hp)} {k : IntKind} {x y : Int} {H : Hp} (h : e = (if y < 0 then none else some (AV.int k (fW k (x * 2 ^ (min y.toNat k.bits))))).map fun v => (v, H)) : e = (shlS k x y).map fun v => (AV.int k v, H) := by
 rw [h]; unfold shlS; split <;> rfl
def shrS (k : IntKind) (x y : Int) : Option Int := if y < 0 then none else some (x.fdiv (2 ^ (min y.toNat k.bits)))
theorem shrH {e : Option (AV × Hp)} {k : IntKind} {x y : Int} {H : Hp} (h : e = (if y < 0 then none else some (AV.int k (x.fdiv (2 ^ (min y.toNat k.bits))))).map fun v => (v, H)) : e = (shrS k x y).map fun v => (AV.int k v, H) := by
 rw [h]; unfold shrS; split <;> rfl
def shlC (k : IntKind) (x : Int) (n : Nat) : Int := fW k (x * 2 ^ n)
def shrC (x : Int) (n : Nat) : Int := x.fdiv (2 ^ n)
def andI (k : IntKind) (x y : Int) : Int := fW k (BitVec.ofInt k.bits x &&& BitVec.ofInt k.bits y).toNat
def orI (k : IntKind) (x y : Int) : Int := fW k (BitVec.ofInt k.bits x ||| BitVec.ofInt k.bits y).toNat
def appS {α : Type} (bytes : Nat) (l x : List α) : Option (List α) := if (l.length + x.length) * bytes ≤ 2 ^ 40 ∧ l.length + x.length ≤ 2 ^ 40 then some (l ++ x) else none
theorem mkH_get {L : List Blk} {r : Nat} {b : Blk} (hl : Nat.ble L.length roots = true) (h : L[r]? = some b) : (mkH L).t.get r = some b := by
 show (mkT 0 L).get r = some b
 rw [mkT_get _ _ _ (by rw [Nat.zero_add]; exact Nat.le_of_ble_eq_true hl)]
 simpa using h
theorem PT.set_set {α : Type} : ∀ (k : Nat) (t : PT α) (n : Nat) (x y : α), PT.set k (PT.set k t n x) n y = PT.set k t n y
 | 0, _, _, _, _ => rfl
 | k + 1, t, n, x, y => by
  have ih := fun t n => PT.set_set k t n x y
  rw [PT.set_succ, PT.set_succ, PT.set_succ]
  by_cases h0 : n = 0
  ·simp only [h0, if_true]; rfl
  ·simp only [h0, if_false]
   by_cases h1 : n % 2 = 1
   ·simp only [h1, if_true]
    show PT.node (PT.set k (PT.set k t.left (n / 2) x) (n / 2) y) t.mid t.right = _
    rw [ih]
   ·simp only [h1, if_false]
    show PT.node t.left t.mid (PT.set k (PT.set k t.right (n / 2 - 1) x) (n / 2 - 1) y) = _
    rw [ih]
theorem PT.set_comm {α : Type} : ∀ (k : Nat) (t : PT α) (n m : Nat) (x y : α), n ≠ m → PT.set k (PT.set k t n x) m y = PT.set k (PT.set k t m y) n x
 | 0, _, _, _, _, _, _ => rfl
 | k + 1, t, n, m, x, y, h => by
  have ih := fun t n m h => PT.set_comm k t n m x y h
  rw [PT.set_succ, PT.set_succ, PT.set_succ, PT.set_succ]
  by_cases n0 : n = 0
  ·have m0 : m ≠ 0 := by omega
   simp only [n0, m0, if_true, if_false]
   by_cases m1 : m % 2 = 1 <;> simp only [m1, if_true, if_false] <;> rfl
  ·by_cases m0 : m = 0
   ·simp only [n0, m0, if_true, if_false]
    by_cases n1 : n % 2 = 1 <;> simp only [n1, if_true, if_false] <;> rfl
   ·simp only [n0, m0, if_false]
    by_cases n1 : n % 2 = 1
    ·by_cases m1 : m % 2 = 1
     ·simp only [n1, m1, if_true]
      show PT.node (PT.set k (PT.set k t.left (n / 2) x) (m / 2) y) t.mid t.right = PT.node (PT.set k (PT.set k t.left (m / 2) y) (n / 2) x) t.mid t.right
      rw [ih _ _ _ (by omega)]
     ·simp only [n1, m1, if_true, if_false]; rfl
    ·by_cases m1 : m % 2 = 1
     ·simp only [n1, m1, if_true, if_false]; rfl
     ·simp only [n1, m1, if_false]
      show PT.node t.left t.mid (PT.set k (PT.set k t.right (n / 2 - 1) x) (m / 2 - 1) y) = PT.node t.left t.mid (PT.set k (PT.set k t.right (m / 2 - 1) y) (n / 2 - 1) x)
      rw [ih _ _ _ (by omega)]
theorem mkT_set : ∀ (L : List Blk) (n r : Nat) (b : Blk), r < L.length → PT.set depth (mkT n L) (n + r) b = mkT n (L.set r b)
 | [], n, r, b, h => by simp at h
 | c :: L, n, 0, b, h => by
  rw [List.set_cons_zero, mkT_cons, mkT_cons]
  exact PT.set_set _ _ _ _ _
 | c :: L, n, r + 1, b, h => by
  rw [List.set_cons_succ, mkT_cons, mkT_cons, PT.set_comm _ _ _ _ _ _ (by omega), show n + (r + 1) = (n + 1) + r by omega, mkT_set L (n + 1) r b (by simpa using h)]
theorem mkH_set {L : List Blk} {r : Nat} {b : Blk} (h : r < L.length) : (⟨(mkH L).next, Tr.set depth (mkH L).t r b⟩ : Hp) = mkH (L.set r b) := by
 show (⟨L.length, PT.set depth (mkT 0 L) r b⟩ : Hp) = ⟨(L.set r b).length, mkT 0 (L.set r b)⟩
 have := mkT_set L 0 r b h
 rw [Nat.zero_add] at this
 rw [this, List.length_set]
theorem appH {α : Type} {enc : α → List AV} {sz : Nat} (hsz : ∀ x, (enc x).length = sz) (hpos : Nat.blt 0 sz = true) (hone : ∀ x, (enc x).all one1 = true) {e : Option (AV × Hp)} (L : List Blk) (r bytes : Nat) (l x : List α) (hl : Nat.ble L.length roots = true) (hr : L[r]? = some ⟨l.flatMap enc, 0, false⟩) (h : e = appW (mkH L) (.own r l.length sz) sz bytes x.length (x.flatMap enc)) : e = (appS bytes l x).map fun y => (AV.own r y.length sz, mkH (L.set r ⟨y.flatMap enc, 0, false⟩)) := by
 have hpos : 0 < sz := by simpa using hpos
 have hone' : (x.flatMap enc).all one1 = true := by
  rw [List.all_eq_true]
  intro a ha
  obtain ⟨y, _, hy⟩ := List.mem_flatMap.1 ha
  exact List.all_eq_true.1 (hone y) a hy
 have hlt : r < L.length := (List.getElem?_eq_some_iff.1 hr).1
 rw [h]
 unfold appW appV appS
 simp only [flatMap_len hsz, hpos, hone', true_and, and_true, if_true]
 by_cases hb : (l.length + x.length) * bytes ≤ 2 ^ 40 ∧ l.length + x.length ≤ 2 ^ 40
 ·rw [if_pos hb]
  by_cases hx : x.length = 0
  ·have : x = [] := List.length_eq_zero_iff.1 hx
   subst this
   simp only [List.length_nil, Nat.add_zero, List.append_nil, Option.map_some, if_true]
   rw [if_pos (by simpa using hb)]
   have : L.set r ⟨l.flatMap enc, 0, false⟩ = L := by
    apply List.ext_getElem?
    intro i
    rw [List.getElem?_set]
    split
    ·rename_i e; subst e; first | exact hr.symm | (rw [if_pos hlt]; exact hr.symm)
    ·rfl
   show some (AV.own r l.length sz, mkH L) = some (AV.own r l.length sz, mkH (L.set r ⟨l.flatMap enc, 0, false⟩))
   rw [this]
  ·simp only [hx, if_false]
   rw [mkH_get hl hr, if_pos hb]
   simp only [flatMap_len hsz, Nat.zero_le, true_and, and_self, if_true, Option.map_some]
   rw [mkH_set hlt, List.flatMap_append, List.length_append]
 ·rw [if_neg hb, if_neg hb]; rfl
theorem fz_own {α : Type} {enc : α → List AV} {sz : Nat} (hsz : ∀ x, (enc x).length = sz) (hpur : ∀ x, purs (enc x) = true) {L : List Blk} {r : Nat} {l : List α} {xs ys : List AV} (hl : Nat.ble L.length roots = true) (hr : L[r]? = some ⟨l.flatMap enc, 0, false⟩) (h : FzG (mkH L) xs ys) : FzG (mkH L) (.own r l.length sz :: xs) (.vec l.length sz (l.flatMap enc) :: ys) :=
 .own (mkH_get hl hr) (flatMap_len hsz l) (Nat.zero_le _) (.pures (purs_flatMap hpur l)) h
def ctl1 : Pt → Pt
 | .ops _ _ K => resume K
 | .loop b K => .code b (.loop b :: K)
 | .fin => .fin
 | .code c K => match c with
  | .seq a b => .code a (.seq b :: K)
  | .skip => resume K
  | .label _ => resume K
  | .block id b => .code b (.block id :: K)
  | .scope b => .code b (.scope b :: K)
  | .loop b => .loop b K
  | .exit id => match exitK id K with | some q => q | none => .fin
  | .goto l => match gotoK l K with | some q => q | none => .fin
  | .ret => .fin
  | .region id ops draw => bif draw then resume K else .ops ops 0 K
  | _ => .fin
def nav : List Nat → Pt → Pt
 | [], p => p
 | 0 :: l, p => nav l (ctl1 p)
 | 1 :: l, .code (.cond _ x _) K => nav l (.code x K)
 | _ :: l, .code (.cond _ _ y) K => nav l (.code y K)
 | _ :: _, p => p
def atN (n : Nat) : Pt → Pt
 | .ops ops _ K => .ops ops n K
 | p => p
theorem ok_sown {R : Type} {X : Fx R} {p : Pt} {env : Env} {H : Hp} {t : Option R} (d r0 v n sz : Nat) (h : look env d = .slice r0 v 0 n sz) (hv : v = n * sz) (k : Ok X p ((d, .own r0 n sz) :: env) H t) : Ok X p env H t := by
 intro r hr m0 w0 b0 m w a h0 fr hnt hd rw st
 refine k r hr m0 w0 b0 m w a h0 ?_ hnt hd rw st
 intro u hu
 by_cases e : d = u
 ·subst e
  obtain ⟨c, h1, h2⟩ := fr d (by rw [h]; intro e; cases e)
  rw [h] at h2
  refine ⟨_, h1, ?_⟩
  rw [look_cons, if_pos rfl]
  exact slice_own h2 hv
 ·have he : look ((d, AV.own r0 n sz) :: env) u = look env u := by rw [look_cons, if_neg e]
  rw [he] at hu ⊢
  exact fr u hu
def Mp.out (m : Mp) (n : Nat) (F : Nat → Option (Nat × List AV)) : Mp := ⟨fun r v => if r = n then none else m r v, F⟩
theorem ok_if {R : Type} {X : Fx R} {p : Pt} {env : Env} {H : Hp} {b : Bool} {t1 t2 : Option R} (k1 : b = true → Ok X p env H t1) (k2 : b = false → Ok X p env H t2) : Ok X p env H (if b then t1 else t2) := by
 cases b with
 | true => exact k1 rfl
 | false => exact k2 rfl
theorem opsD_env {P : Program} {C : Cx} {all l : List Oper} {env eE e : Env} {H : Hp} {hs : List Hp} (h : env = eE) (k : OpsD P C all l eE H e hs) : OpsD P C all l env H e hs := h ▸ k
def toS : List Int → Option (List Nat)
 | [] => some []
 | n :: r => match toS r with | some l => if 0 ≤ n ∧ n ≤ 255 then some (n.toNat :: l) else none | none => none
theorem bytesOf_toS : ∀ l : List Int, bytesOf (l.map (AV.int .u8)) = toS l
 | [] => rfl
 | n :: r => by
  simp only [List.map_cons, bytesOf, toS, bytesOf_toS r]
  cases toS r <;> rfl
theorem toSE (l : List Int) {e : Option (AV × Hp)} {H : Hp} (h : e = (match bytesOf (l.map (AV.int .u8)) with | some l => some (AV.str l, H) | none => none)) : e = (toS l).map fun x => (AV.str x, H) := by
 rw [h, bytesOf_toS]
 cases toS l <;> rfl
theorem mkT_push : ∀ (L : List Blk) (n : Nat) (b : Blk), mkT n (L ++ [b]) = PT.set depth (mkT n L) (n + L.length) b
 | [], n, b => by rw [List.nil_append, mkT_cons, mkT_nil, mkT_nil]; rfl
 | c :: L, n, b => by
  rw [List.cons_append, mkT_cons, mkT_cons, mkT_push L (n + 1) b, PT.set_comm _ _ _ _ _ _ (by omega), List.length_cons, show n + (L.length + 1) = n + 1 + L.length by omega]
theorem mkH_push (L : List Blk) (b : Blk) : (⟨(mkH L).next + 1, Tr.set depth (mkH L).t (mkH L).next b⟩ : Hp) = mkH (L ++ [b]) := by
 show (⟨L.length + 1, PT.set depth (mkT 0 L) L.length b⟩ : Hp) = ⟨(L ++ [b]).length, mkT 0 (L ++ [b])⟩
 rw [mkT_push, Nat.zero_add, List.length_append]
 rfl
theorem rep_flatMap {α : Type} (enc : α → List AV) (z : α) : ∀ n : Nat, rep (enc z) n = (List.replicate n z).flatMap enc
 | 0 => rfl
 | n + 1 => by rw [rep, rep_flatMap enc z n, List.replicate_succ, List.flatMap_cons]
def mkS {α : Type} (z : α) (bytes : Nat) (n : Int) : Option (List α) := if 0 ≤ n ∧ n * (bytes : Int) ≤ 2 ^ 40 ∧ n ≤ 2 ^ 40 then some (List.replicate n.toNat z) else none
theorem makeH {α : Type} {enc : α → List AV} {sz : Nat} (hsz : ∀ x, (enc x).length = sz) (hpos : Nat.blt 0 sz = true) (z : α) (L : List Blk) (bytes : Nat) {n : Int} {e : Option (AV × Hp)} (hl : Nat.blt L.length roots = true)
 (h : e = (if n = n ∧ 0 ≤ n ∧ n * (bytes : Int) ≤ 2 ^ 40 ∧ n ≤ 2 ^ 40 ∧ (enc z).length = sz ∧ 0 < sz then (match alloc1 (mkH L) (rep (enc z) n.toNat) with | some (.ptr r v _, H') => some (AV.slice r v 0 n.toNat sz, H') | _ => none) else none)) :
 e = (mkS z bytes n).map fun l => (AV.slice L.length (l.flatMap enc).length 0 l.length sz, mkH (L ++ [⟨l.flatMap enc, 0, false⟩])) := by
 have hpos : 0 < sz := by simpa using hpos
 have hl : L.length < roots := by simpa using hl
 rw [h]; unfold mkS
 by_cases hc : 0 ≤ n ∧ n * (bytes : Int) ≤ 2 ^ 40 ∧ n ≤ 2 ^ 40
 ·rw [if_pos ⟨rfl, hc.1, hc.2.1, hc.2.2, hsz z, hpos⟩, if_pos hc]
  have ha : alloc1 (mkH L) (rep (enc z) n.toNat) = some (.ptr L.length (rep (enc z) n.toNat).length 0, mkH (L ++ [⟨rep (enc z) n.toNat, 0, false⟩])) := by
   unfold alloc1
   rw [if_pos (show (mkH L).next < roots from hl)]
   rw [← mkH_push]
   rfl
  rw [ha]
  simp only [Option.map_some]
  rw [rep_flatMap, List.length_replicate]
 ·rw [if_neg (fun hh => hc ⟨hh.2.1, hh.2.2.1, hh.2.2.2.1⟩), if_neg hc]; rfl
theorem ok_minv {R : Type} {X : Fx R} {p : Pt} {env : Env} {t : Option R} (L : List Blk) (r0 : Nat) (cells : List AV) (minv minv' : Nat) (hl : Nat.ble L.length roots = true) (hr : L[r0]? = some ⟨cells, minv, false⟩) (hm : minv ≤ minv') (k : Ok X p env (mkH (L.set r0 ⟨cells, minv', false⟩)) t) : Ok X p env (mkH L) t := by
 intro r hr' m0 w0 b0 m w a h0 fr hnt hd rw st
 have hroot : (mkH L).t.get r0 = some ⟨cells, minv, false⟩ := mkH_get hl hr
 have hlt : r0 < L.length := (List.getElem?_eq_some_iff.1 hr).1
 have hl' : L.length ≤ roots := Nat.le_of_ble_eq_true hl
 have hget : ∀ i, i ≠ r0 → (mkH (L.set r0 ⟨cells, minv', false⟩)).t.get i = (mkH L).t.get i := by
  intro i hi
  show (mkT 0 (L.set r0 ⟨cells, minv', false⟩)).get i = (mkT 0 L).get i
  rw [mkT_get _ _ _ (by rw [List.length_set]; omega), mkT_get _ _ _ (by omega)]
  simp only [Nat.zero_le, if_true, Nat.sub_zero]
  rw [List.getElem?_set, if_neg (fun e => hi e.symm)]
 have hget0 : (mkH (L.set r0 ⟨cells, minv', false⟩)).t.get r0 = some ⟨cells, minv', false⟩ := mkH_get (by rw [List.length_set]; exact hl) (by rw [List.getElem?_set, if_pos rfl, if_pos hlt])
 refine k r hr' m0 w0 b0 m w a h0 fr hnt hd ⟨?_, ?_, rw.sep, ?_, rw.vle, rw.frz, ?_, rw.ffin, rw.base_le, ?_⟩ st
 ·intro r b v B N hb hm' h1 h2
  by_cases e : r = r0
  ·subst e
   rw [hget0] at hb
   cases hb
   exact rw.blk r ⟨cells, minv, false⟩ v B N hroot hm' (Nat.le_trans hm h1) h2
  ·rw [hget r e] at hb
   exact rw.blk r b v B N hb hm' h1 h2
 ·intro r v B N hm'
  obtain ⟨b, q1, q2, q3, q4⟩ := rw.dom r v B N hm'
  by_cases e : r = r0
  ·subst e
   rw [hroot] at q1
   cases q1
   exact ⟨_, hget0, q2, q3, q4⟩
  ·exact ⟨b, by rw [hget r e]; exact q1, q2, q3, q4⟩
 ·intro r hr
  have hr : L.length ≤ r := by
   have : (mkH (L.set r0 ⟨cells, minv', false⟩)).next = L.length := by simp [mkH]
   rw [this] at hr; exact hr
  rw [hget r (by omega)]
  exact rw.fresh r hr
 ·intro i B cs r v N b hi hm' hb
  by_cases e : r = r0
  ·subst e
   have := rw.fsep i B cs r v N _ hi hm' hroot
   cases this
  ·rw [hget r e] at hb
   exact rw.fsep i B cs r v N b hi hm' hb
 ·show (L.set r0 ⟨cells, minv', false⟩).length ≤ roots
  rw [List.length_set]; exact hl'
def idxO {α : Type} (l : List α) (k : Int) : Option Nat := if 0 ≤ k ∧ k < (l.length : Int) then some k.toNat else none
theorem oidxH {α : Type} {l : List α} {r sz : Nat} {k : Int} {H : Hp} {e : Option (AV × Hp)} (h : e = (if sz = sz ∧ 0 ≤ k ∧ k < ((l.length : Nat) : Int) then some (AV.ptr r (l.length * sz) (k.toNat * sz), H) else none)) : e = (idxO l k).map fun x => (AV.ptr r (l.length * sz) (x * sz), H) := by
 rw [h]; unfold idxO
 by_cases hc : 0 ≤ k ∧ k < (l.length : Int)
 ·rw [if_pos ⟨rfl, hc⟩, if_pos hc]; rfl
 ·rw [if_neg (fun hh => hc hh.2), if_neg hc]; rfl
def setO {α : Type} (l : List α) (x : Nat) (y : α) : Option (List α) := if x < l.length then some (l.set x y) else none
theorem setO_len {α : Type} {l l' : List α} {x : Nat} {y : α} (h : setO l x y = some l') : l'.length = l.length := by
 unfold setO at h
 split at h
 ·cases h; simp
 ·cases h
theorem flatMap_one {α : Type} {enc : α → List AV} {v : α → AV} (h : ∀ x, enc x = [v x]) : ∀ l : List α, l.flatMap enc = l.map v
 | [] => rfl
 | x :: l => by rw [List.flatMap_cons, h, flatMap_one h l]; rfl
theorem storeH {α : Type} {enc : α → List AV} {v : α → AV} (h1 : ∀ x, enc x = [v x]) (ho : ∀ x, one1 (v x) = true) (L : List Blk) (r : Nat) {l : List α} {x : Nat} (y : α) {e : Option (AV × Hp)} (hl : Nat.ble L.length roots = true) (hr : L[r]? = some ⟨l.flatMap enc, l.length * 1, false⟩)
 (h : e = (wr (mkH L) r (l.length * 1) (x * 1) [v y]).map fun H' => (AV.top, H')) : e = (setO l x y).map fun l' => (AV.top, mkH (L.set r ⟨l'.flatMap enc, l'.length * 1, false⟩)) := by
 have hlt : r < L.length := (List.getElem?_eq_some_iff.1 hr).1
 rw [h]; unfold setO wr
 rw [mkH_get hl hr]
 simp only [flatMap_one h1, List.length_map, Nat.mul_one, List.length_cons, List.length_nil]
 by_cases hx : x < l.length
 ·rw [if_pos hx, if_pos ⟨trivial, trivial, Nat.le_refl _, by omega, by simp [ho], rfl⟩]
  simp only [Option.map_some]
  rw [mkH_set hlt]
  simp [putL, List.map_set]
 ·rw [if_neg hx, if_neg (fun hh => hx (by omega))]; rfl
theorem toSO {enc : Int → List AV} (h1 : ∀ x, enc x = [AV.int .u8 x]) (L : List Blk) (r minv : Nat) {l : List Int} {e : Option (AV × Hp)} (hl : Nat.ble L.length roots = true) (hr : L[r]? = some ⟨l.flatMap enc, minv, false⟩) (hm : minv ≤ l.length * 1)
 (h : e = (match rd (mkH L) r (l.length * 1) 0 l.length with | some cs => (match bytesOf cs with | some l => some (AV.str l, mkH L) | none => none) | none => none)) : e = (toS l).map fun x => (AV.str x, mkH L) := by
 have : rd (mkH L) r (l.length * 1) 0 l.length = some (l.map (AV.int .u8)) := by
  unfold rd
  rw [mkH_get hl hr]
  simp only [flatMap_one h1, Nat.mul_one, Nat.zero_add]
  have e1 : Nat.ble minv l.length = true := by simpa using hm
  have e2 : Nat.ble l.length l.length = true := by simp
  rw [e1, e2]
  simp only [Bool.and_self, cond_true, List.drop_zero]
  rw [List.take_of_length_le (by simp)]
 rw [h, this]
 simp only [bytesOf_toS]
 cases toS l <;> rfl
end Go.Proofs.Ytabhkocokojddaa.Am
set_option linter.unusedVariables false
namespace Go.Proofs.Ytabhkocokojddaa.Am
open Go
def PT.allB {α : Type} (p : Nat → α → Bool) : PT α → (Nat → Nat) → Bool
 | .nil, _ => true
 | .node l b r, g => (match b with | some x => p (g 0) x | none => true) && l.allB p (fun n => g (2 * n + 1)) && r.allB p (fun n => g (2 * n + 2))
theorem PT.allB_get {α : Type} {p : Nat → α → Bool} : ∀ (t : PT α) (g : Nat → Nat), t.allB p g = true → ∀ (n : Nat) (x : α), t.get n = some x → p (g n) x = true
 | .nil, g, _, n, x, h => by cases h
 | .node l b r, g, hh, n, x, h => by
  simp only [PT.allB, Bool.and_eq_true] at hh
  obtain ⟨⟨h1, h2⟩, h3⟩ := hh
  rw [PT.get_node] at h
  by_cases h0 : n = 0
  ·rw [if_pos h0] at h
   subst h0
   subst h
   exact h1
  ·rw [if_neg h0] at h
   by_cases hm : n % 2 = 1
   ·rw [if_pos hm] at h
    have := PT.allB_get l _ h2 _ _ h
    rwa [show 2 * (n / 2) + 1 = n by omega] at this
   ·rw [if_neg hm] at h
    have := PT.allB_get r _ h3 _ _ h
    rwa [show 2 * (n / 2 - 1) + 2 = n by omega] at this
def beqZ : AV → AV → Bool
 | .top, .top => true
 | .int k n, .int k' n' => decide (k = k') && decide (n = n')
 | .bool a, .bool b => a == b
 | .str a, .str b => eqL a b
 | .nilp, .nilp => true
 | .nils, .nils => true
 | .nilf, .nilf => true
 | .nili, .nili => true
 | _, _ => false
theorem beqZ_eq {x y : AV} (h : beqZ x y = true) : x = y := by
 cases x <;> cases y <;> simp [beqZ, eqL_iff] at h ⊢ <;> exact h
def beqZs : List AV → List AV → Bool
 | [], [] => true
 | a :: x, b :: y => beqZ a b && beqZs x y
 | _, _ => false
theorem beqZs_eq : ∀ (x y : List AV), beqZs x y = true → x = y
 | [], [], _ => rfl
 | [], _ :: _, h => by simp [beqZs] at h
 | _ :: _, [], h => by simp [beqZs] at h
 | a :: x, b :: y, h => by
  simp only [beqZs, Bool.and_eq_true] at h
  rw [beqZ_eq h.1, beqZs_eq x y h.2]
def beqTi (i j : Ti) : Bool :=
 Nat.beq i.size j.size && Nat.beq i.bytes j.bytes && (match i.zero, j.zero with | some a, some b => beqZs a b | none, none => true | _, _ => false) && decide (i.kind = j.kind) && decide (i.fields = j.fields) && Nat.beq i.elem j.elem && Nat.beq i.len j.len && decide (i.flat = j.flat)
theorem beqTi_eq {i j : Ti} (h : beqTi i j = true) : i = j := by
 obtain ⟨a1, a2, a3, a4, a5, a6, a7, a8⟩ := i
 obtain ⟨b1, b2, b3, b4, b5, b6, b7, b8⟩ := j
 simp only [beqTi, Bool.and_eq_true, decide_eq_true_eq] at h
 obtain ⟨⟨⟨⟨⟨⟨⟨h1, h2⟩, h3⟩, h4⟩, h5⟩, h6⟩, h7⟩, h8⟩ := h
 have h1 := Nat.eq_of_beq_eq_true h1
 have h2 := Nat.eq_of_beq_eq_true h2
 have h6 := Nat.eq_of_beq_eq_true h6
 have h7 := Nat.eq_of_beq_eq_true h7
 have h3' : a3 = b3 := by
  cases a3 <;> cases b3 <;> simp only at h3 <;> first | rfl | cases h3 | exact congrArg some (beqZs_eq _ _ h3)
 subst h1 h2 h3' h4 h5 h6 h7 h8
 rfl
def tiOk (P : Program) (t : Nat) (i : Ti) : Bool := match mkTi P t with | some j => beqTi i j | none => false
theorem tiOk_eq {P : Program} {t : Nat} {i : Ti} (h : tiOk P t i = true) : mkTi P t = some i := by
 unfold tiOk at h
 split at h
 ·rename_i j hj
  rw [hj, beqTi_eq h]
 ·cases h
end Go.Proofs.Ytabhkocokojddaa.Am
set_option linter.unusedVariables false
set_option linter.unusedSimpArgs false
namespace Go.Proofs.Ytabhkocokojddaa.Am
open Go
def It (d : Nat) (s : ByteArray) (pos base : Nat) (m : Mp) (w : World) (a : Act) : Prop :=
 ∃ B, a.tmps[d]? = some (.pointer (some ⟨B, 0, none⟩)) ∧ w.heap[B]? = some (.stringIter s pos) ∧ base ≤ B ∧ ∀ r v N, m r v ≠ some (B, N)
section
variable {R : Type} (X : Fx R)
def OkI (d : Nat) (s : ByteArray) (pos : Nat) (p : Pt) (env : Env) (H : Hp) (t : Option R) : Prop := ∀ r, t = some r → ∀ (m0 : Mp) (w0 : World) (b0 : Nat) (m : Mp) (w : World) (a : Act), ((∀ r v p, m0 r v = some p → r < X.n0) ∧ b0 ≤ w0.heap.size) → FR m env a.tmps → X.fn.ntmps ≤ a.tmps.size → a.defers = [] → RW m H w b0 → St m0 w0 b0 m w → It d s pos w0.heap.size m w a → At X.P (Ret X r m0 w0 b0) p a w
end
section
variable {R : Type} {X : Fx R} {p p' : Pt} {env eE : Env} {H H' : Hp} {d pos : Nat} {s : ByteArray}
theorem okI_drop {t : Option R} (k : Ok X p env H t) : OkI X d s pos p env H t := fun r hr m0 w0 b0 m w a h0 fr hn hd rw st _ => k r hr m0 w0 b0 m w a h0 fr hn hd rw st
theorem okI_less {t : Option R} (h : Less env eE) (k : OkI X d s pos p eE H t) : OkI X d s pos p env H t :=
 fun r hr m0 w0 b0 m w a h0 fr hn hd rw st it => k r hr m0 w0 b0 m w a h0 (fr.less h) hn hd rw st it
theorem okI_split {t1 t2 : Option R} (e : Nat) {b : Bool} (h : look env e = .bool b) (k1 : b = true → OkI X d s pos p ((e, .bool true) :: env) H t1) (k2 : b = false → OkI X d s pos p ((e, .bool false) :: env) H t2) : OkI X d s pos p env H (if b then t1 else t2) := by
 cases b with
 | true => exact okI_less (less_put h) (k1 rfl)
 | false => exact okI_less (less_put h) (k2 rfl)
def dneq (o : Oper) (d : Nat) : Bool := match o.dst with | some e => !Nat.beq e d | none => true
theorem It.put {base : Nat} {m : Mp} {w : World} {a : Act} {o : Oper} (c : Value) (hd : dneq o d = true) (it : It d s pos base m w a) : It d s pos base m w (a.put o.dst c) := by
 obtain ⟨B, h1, h2, h3, h4⟩ := it
 refine ⟨B, ?_, h2, h3, h4⟩
 unfold dneq at hd
 cases ho : o.dst with
 | none => exact h1
 | some e =>
  rw [ho] at hd
  simp only [Act.put]
  rw [Array.getElem?_setIfInBounds_ne]
  ·exact h1
  ·rintro rfl; simp at hd
theorem It.step {base b0 : Nat} {m m' : Mp} {w w' : World} {a : Act} (st : St m w b0 m' w') (it : It d s pos base m w a) : It d s pos base m' w' a := by
 obtain ⟨B, h1, h2, h3, h4⟩ := it
 have hlt : B < w.heap.size := (Array.getElem?_eq_some_iff.1 h2).1
 refine ⟨B, h1, by rw [st.same B hlt (fun r v N e => absurd e (h4 r v N))]; exact h2, h3, ?_⟩
 intro r v N e
 rcases st.ext r v B N e with ⟨v0, N0, e0⟩ | hB
 ·exact h4 r v0 N0 e0
 ·omega
theorem okI_stp {t : Option R} {ops : Array Oper} {n : Nat} {K : List Fr} {o : Oper} {v : AV} (ho : ops[n]? = some o) (hd : dstOk X.fn.ntmps o = true) (hdn : dneq o d = true) (hw : wantedV o ops.toList env = some true) (hs : Stp X.P X.C env H o v H') (k : OkI X d s pos (.ops ops (n + 1) K) (putV env o.dst v) H' t) : OkI X d s pos (.ops ops n K) env H t := by
 intro r hr m0 w0 b0 m w a h0 fr hn hdf rw st it
 show wpOps X.P ops _ (List.range' n (ops.size - n)) a w
 have hlt : n < ops.size := (Array.getElem?_eq_some_iff.1 ho).1
 rw [show ops.size - n = (ops.size - (n + 1)) + 1 by omega, List.range'_succ]
 simp only [wpOps, ho]
 rw [wanted_ok hw fr]
 simp only [if_true]
 refine .inl ?_
 refine stp_ok X.hti hs fr rw _ _ fun m' w' c q1 q2 q3 => ?_
 obtain ⟨f1, f2, f3⟩ := act_put_frame (fr.mono q2.sub) hn hdf o hd v c q3
 exact k r hr m0 w0 b0 m' w' _ h0 f1 f2 f3 q1 (st.trans h0.2 q2) (It.put c hdn (it.step q2))
theorem okI_skp {t : Option R} {ops : Array Oper} {n : Nat} {K : List Fr} {o : Oper} (ho : ops[n]? = some o) (hd : dstOk X.fn.ntmps o = true) (hdn : dneq o d = true) (hw : wantedV o ops.toList env = some false) (k : OkI X d s pos (.ops ops (n + 1) K) (putV env o.dst (.tuple [])) H t) : OkI X d s pos (.ops ops n K) env H t := by
 intro r hr m0 w0 b0 m w a h0 fr hn hdf rw st it
 show wpOps X.P ops _ (List.range' n (ops.size - n)) a w
 have hlt : n < ops.size := (Array.getElem?_eq_some_iff.1 ho).1
 rw [show ops.size - n = (ops.size - (n + 1)) + 1 by omega, List.range'_succ]
 simp only [wpOps, ho]
 rw [wanted_ok hw fr]
 simp only [Bool.false_eq_true, if_false]
 obtain ⟨f1, f2, f3⟩ := act_put_frame fr hn hdf o hd (.tuple []) undef (VR_undef _)
 exact k r hr m0 w0 b0 m w _ h0 f1 f2 f3 rw st (It.put undef hdn it)
theorem okI_go {t : Option R} (h : ∀ (Q : Exit → Act → World → Prop) (a : Act) (w : World), At X.P Q p' a w → At X.P Q p a w) (k : OkI X d s pos p' env H t) : OkI X d s pos p env H t :=
 fun r hr m0 w0 b0 m w a h0 fr hn hd rw st it => h _ a w (k r hr m0 w0 b0 m w a h0 fr hn hd rw st it)
theorem okI_at {t : Option R} (h : p = p') (k : OkI X d s pos p' env H t) : OkI X d s pos p env H t := h ▸ k
noncomputable def stepI (C : Cx) (n d : Nat) (p : Pt) (env : Env) (H : Hp) : Option (Pt × Env × Hp) :=
 match p with
 | .ops ops k K => match nth ops.toList k with
  | some o => bif dneq o d then stepV C n (.ops ops k K) env H else none
  | none => some (resume K, env, H)
 | p => stepV C n p env H
theorem stepI_ok {t : Option R} (h : stepI X.C X.fn.ntmps d p env H = some (p', eE, H')) (k : OkI X d s pos p' eE H' t) : OkI X d s pos p env H t := by
 cases p with
 | ops ops n K =>
  simp only [stepI] at h
  rw [nth_eq, Array.getElem?_toList] at h
  cases ho : ops[n]? with
  | none =>
   rw [ho] at h
   cases h
   refine okI_go (fun Q a w hh => ?_) k
   show wpOps X.P ops _ (List.range' n (ops.size - n)) a w
   have hle : ops.size ≤ n := by
    rcases Nat.lt_or_ge n ops.size with h1 | h1
    ·rw [Array.getElem?_eq_getElem h1] at ho; cases ho
    ·exact h1
   rw [show ops.size - n = 0 by omega]
   exact resume_ok hh
  | some o =>
   rw [ho] at h
   simp only at h
   cases hdn : dneq o d with
   | false => rw [hdn] at h; cases h
   | true =>
    rw [hdn] at h
    simp only [cond_true, stepV] at h
    rw [nth_eq, Array.getElem?_toList, ho] at h
    simp only at h
    cases hd : dstOk X.fn.ntmps o with
    | false => rw [hd] at h; cases h
    | true =>
     rw [hd] at h
     simp only [cond_true] at h
     split at h
     ·rename_i hw
      split at h
      ·rename_i v H1 hv
       cases h
       exact okI_stp ho hd hdn hw (.inl hv) k
      ·cases h
     ·rename_i hw
      cases h
      exact okI_skp ho hd hdn hw k
     ·cases h
 | code c K =>
  simp only [stepI] at h
  cases c <;> simp only [stepV] at h
  case seq x y => cases h; exact okI_go (p' := .code x (.seq y :: K)) (fun Q a w hh => wp_seq (wp_mono hh fun e a w he => by cases e <;> exact he)) k
  case skip => cases h; exact okI_go (fun Q a w hh => wp_skip (resume_ok hh)) k
  case label => cases h; exact okI_go (fun Q a w hh => wp_label (resume_ok hh)) k
  case block id b => cases h; exact okI_go (p' := .code b (.block id :: K)) (fun Q a w hh => wp_block hh) k
  case scope b => cases h; exact okI_go (p' := .code b (.scope b :: K)) (fun Q a w hh => (scope_ok hh).wp) k
  case loop b => cases h; exact okI_go (p' := .loop _ _) (fun Q a w hh => LoopWp.wp hh) k
  case exit id =>
   split at h
   ·rename_i q hq
    cases h
    exact okI_go (fun Q a w hh => wp_exit (exitK_ok hq hh)) k
   ·cases h
  case goto l =>
   split at h
   ·rename_i q hq
    cases h
    exact okI_go (fun Q a w hh => wp_goto (gotoK_ok hq hh)) k
   ·cases h
  case ret => cases h; exact okI_go (p' := .fin) (fun Q a w hh => wp_ret (retK_ok hh.2 K)) k
  case region id ops draw =>
   cases draw with
   | true => cases h
   | false =>
    cases h
    refine okI_go (p' := .ops ops 0 K) (fun Q a w hh => wp_region ?_) k
    have hh' : wpOps X.P ops (FinK X.P Q K) (List.range' 0 (ops.size - 0)) a w := hh
    rw [List.range_eq_range']
    exact hh'
  case cond c x y =>
   split at h
   ·rename_i b hb
    cases h
    intro r hr m0 w0 b0 m w a h0 fr hn hd rw st it
    have hc := opnd_ok fr c
    rw [hb] at hc
    simp only [VR] at hc
    refine wp_cond hc ?_
    have := k r hr m0 w0 b0 m w a h0 fr hn hd rw st it
    cases b <;> exact this
   ·cases h
  all_goals cases h
 | loop b K => cases h
 | fin => cases h
noncomputable def runI (C : Cx) (n d : Nat) (k : Nat) : Pt → Env → Hp → Option (Pt × Env × Hp) :=
 Nat.rec (motive := fun _ => Pt → Env → Hp → Option (Pt × Env × Hp)) (fun p env H => some (p, env, H))
  (fun _ ih p env H => match stepI C n d p env H with | some (p', eE, H') => ih p' eE H' | none => none) k
theorem oI {t : Option R} : ∀ (k : Nat) {p : Pt} {env : Env} {H : Hp}, runI X.C X.fn.ntmps d k p env H = some (p', eE, H') → OkI X d s pos p' eE H' t → OkI X d s pos p env H t
 | 0, p, env, H, h, g => by
  have h' : some (p, env, H) = some (p', eE, H') := h
  cases h'
  exact g
 | k + 1, p, env, H, h, g => by
  have h' : (match stepI X.C X.fn.ntmps d p env H with | some (p', eE, H') => runI X.C X.fn.ntmps d k p' eE H' | none => none) = some (p', eE, H') := h
  split at h'
  ·rename_i p1 env1 H1 hs
   exact stepI_ok hs (oI k h' g)
  ·cases h'
theorem okI_ent {t : Option R} (h : entL p = some p') (k : OkI X d s pos p' env H t) : OkI X d s pos p env H t := by
 cases p <;> simp only [entL] at h <;> cases h
 exact okI_go (p' := .code _ (.loop _ :: _)) (fun Q a w hh => LoopWp.of (wp_mono hh fun e a w he => by cases e <;> exact he)) k
noncomputable def rangeAt (C : Cx) (n : Nat) (p : Pt) (env : Env) : Option (Nat × ByteArray) :=
 match operAt n p env with
 | some o => match o.op, o.dst with
  | .range t (.const (.string s)), some d => (match C.ti t with | some i => (match i.kind with | .string => some (d, s) | _ => none) | none => none)
  | _, _ => none
 | none => none
theorem ok_range {t : Option R} (d : Nat) (s : ByteArray) (h : rangeAt X.C X.fn.ntmps p env = some (d, s)) (k : OkI X d s 0 (adv p) ((d, .top) :: env) H t) : Ok X p env H t := by
 unfold rangeAt at h
 cases ho : operAt X.fn.ntmps p env with
 | none => rw [ho] at h; cases h
 | some o =>
  rw [ho] at h
  simp only at h
  obtain ⟨ops, n, K, rfl, h1, h2, h3⟩ := operAt_spec ho
  split at h
  ·rename_i ty s' d' hop hdst
   split at h
   ·rename_i i hi
    split at h
    ·rename_i hk
     cases h
     intro r hr m0 w0 b0 m w a h0 fr hn hdf rw st
     show wpOps X.P ops _ (List.range' n (ops.size - n)) a w
     have hlt : n < ops.size := (Array.getElem?_eq_some_iff.1 h1).1
     rw [show ops.size - n = (ops.size - (n + 1)) + 1 by omega, List.range'_succ]
     simp only [wpOps, h1]
     rw [wanted_ok h3 fr]
     simp only [if_true]
     refine .inl ?_
     have hu := ti_string (X.hti _ _ hi) hk
     have hr0 : (execOp a.eval o).run X.P w = .ok (.value (.pointer (some ⟨w.heap.size, 0, none⟩))) (wnew w (.stringIter s 0)) := by
      simp [execOp, hop, Act.eval, Instr.range, run_underlying hu, newObj, Sem.run, wnew]
     unfold Oper.wp
     rw [hr0]
     show wpOps X.P ops _ (List.range' (n + 1) (ops.size - (n + 1))) (a.put o.dst _) (wnew w (.stringIter s 0))
     have hold : ∀ B, B < w.heap.size → (wnew w (.stringIter s 0)).heap[B]? = w.heap[B]? := fun B hB => wnew_old _ _ _ hB
     have hsize : w.heap.size ≤ (wnew w (.stringIter s 0)).heap.size := by rw [wnew_size]; omega
     have hst : St m w b0 m (wnew w (.stringIter s 0)) := ⟨Sub.refl m, fun r v B N e => .inl ⟨v, N, e⟩, fun _ _ _ e => .inl e, hsize, rfl, rfl, rfl, fun B hB _ => hold B hB⟩
     have hrw : RW m H (wnew w (.stringIter s 0)) b0 := by
      refine ⟨?_, ?_, rw.sep, rw.fresh, rw.vle, rw.frz_old hold rfl, rw.fsep, rw.ffin, Nat.le_trans rw.base_le hsize, rw.low⟩
      ·intro r b v B N hb hm q1 q2
       obtain ⟨cs, ty, fr', e1, e2⟩ := rw.blk r b v B N hb hm q1 q2
       obtain ⟨_, _, _, hlt', _⟩ := rw.dom r v B N hm
       exact ⟨cs, ty, fr', by rw [hold B hlt']; exact e1, e2⟩
      ·intro r v B N hm
       obtain ⟨b, q1, q2, q3, q4⟩ := rw.dom r v B N hm
       exact ⟨b, q1, q2, Nat.lt_of_lt_of_le q3 hsize, q4⟩
     obtain ⟨f1, f2, f3⟩ := act_put_frame fr hn hdf o h2 .top (.pointer (some ⟨w.heap.size, 0, none⟩)) (VR_top _ _)
     rw [hdst] at f1 f2 f3 ⊢
     have hlt' : d < a.tmps.size := by
      unfold dstOk at h2
      rw [hdst] at h2
      have : d < X.fn.ntmps := by simpa using h2
      omega
     refine k r hr m0 w0 b0 m _ _ h0 f1 f2 f3 hrw (st.trans h0.2 hst) ⟨w.heap.size, ?_, wnew_get _ _, st.size, ?_⟩
     ·simp [Act.put, hlt']
     ·intro r v N e
      obtain ⟨_, _, _, hlt2, _⟩ := rw.dom r v _ N e
      omega
    ·cases h
   ·cases h
  ·cases h
noncomputable def nextAt (n : Nat) (p : Pt) (env : Env) (d : Nat) : Option Nat :=
 match operAt n p env with
 | some o => match o.op, o.dst with
  | .next (.tmp e) true, some q => bif Nat.beq e d && !Nat.beq q d then some q else none
  | _, _ => none
 | none => none
theorem nextAt_spec {n q : Nat} (h : nextAt n p env d = some q) : ∃ ops k K o, p = .ops ops k K ∧ ops[k]? = some o ∧ dstOk n o = true ∧ wantedV o ops.toList env = some true ∧ o.op = .next (.tmp d) true ∧ o.dst = some q ∧ q ≠ d := by
 unfold nextAt at h
 cases ho : operAt n p env with
 | none => rw [ho] at h; cases h
 | some o =>
  rw [ho] at h
  simp only at h
  obtain ⟨ops, k, K, rfl, h1, h2, h3⟩ := operAt_spec ho
  split at h
  ·rename_i e q' hop hdst
   cases hb : (Nat.beq e d && !Nat.beq q' d) with
   | false => rw [hb] at h; cases h
   | true =>
    rw [hb] at h
    cases h
    simp only [Bool.and_eq_true, Bool.not_eq_true'] at hb
    have he := Nat.eq_of_beq_eq_true hb.1
    subst he
    exact ⟨ops, k, K, o, rfl, h1, h2, h3, hop, hdst, fun e => by rw [e] at hb; simp at hb⟩
  ·cases h
theorem okI_next {t : Option R} (q : Nat) (h : nextAt X.fn.ntmps p env d = some q) (hlt : Nat.blt pos s.size = true) (c u : Nat) (hdec : Utf8.decode s pos = (c, u)) (k : OkI X d s (pos + u) (adv p) ((q, .tuple [.bool true, .int .i64 (pos : Int), .int .i32 (c : Int)]) :: env) H t) : OkI X d s pos p env H t := by
 have hlt : pos < s.size := by simpa using hlt
 obtain ⟨ops, n, K, o, rfl, h1, h2, h3, hop, hdst, hqd⟩ := nextAt_spec h
 intro r hr m0 w0 b0 m w a h0 fr hn hdf rw st it
 show wpOps X.P ops _ (List.range' n (ops.size - n)) a w
 have hl : n < ops.size := (Array.getElem?_eq_some_iff.1 h1).1
 rw [show ops.size - n = (ops.size - (n + 1)) + 1 by omega, List.range'_succ]
 simp only [wpOps, h1]
 rw [wanted_ok h3 fr]
 simp only [if_true]
 refine .inl ?_
 obtain ⟨B, i1, i2, i3, i4⟩ := it
 have hBl : B < w.heap.size := (Array.getElem?_eq_some_iff.1 i2).1
 have hev : a.eval (.tmp d) = .pointer (some ⟨B, 0, none⟩) := by simp [Act.eval, Array.getD_eq_getD_getElem?, i1]
 have hrun := Lib.run_next_any_at (P := X.P) w B s pos o.type i2 hlt
 rw [hdec] at hrun
 simp only at hrun
 have hexec : (execOp a.eval o).run X.P w = .ok (.value (.tuple #[.bool true, .int .i64 pos, .int .i32 (c : Int)])) (w.iterAt B s (pos + u)) := by
  simp [execOp, hop, hev, hrun]
 unfold Oper.wp
 rw [hexec]
 show wpOps X.P ops _ (List.range' (n + 1) (ops.size - (n + 1))) (a.put o.dst _) (w.iterAt B s (pos + u))
 have hne : ∀ B', B' ≠ B → (w.iterAt B s (pos + u)).heap[B']? = w.heap[B']? := fun B' hB' => by
  simp [World.iterAt, Array.getElem?_setIfInBounds_ne (Ne.symm hB')]
 have hsize : (w.iterAt B s (pos + u)).heap.size = w.heap.size := by simp [World.iterAt]
 have hst : St m0 w0 b0 m (w.iterAt B s (pos + u)) :=
  ⟨st.sub, st.ext, st.fext, by rw [hsize]; exact st.size, st.os, st.tape, st.output, fun B' hB' hm => by rw [hne B' (by omega)]; exact st.same B' hB' hm⟩
 have hrw : RW m H (w.iterAt B s (pos + u)) b0 := by
  refine ⟨?_, ?_, rw.sep, rw.fresh, rw.vle, ?_, rw.fsep, rw.ffin, by rw [hsize]; exact rw.base_le, rw.low⟩
  ·intro r b v B' N hb hm q1 q2
   obtain ⟨cs, ty, fr', e1, e2⟩ := rw.blk r b v B' N hb hm q1 q2
   exact ⟨cs, ty, fr', by rw [hne B' (fun e => i4 r v N (by rw [← e]; exact hm))]; exact e1, e2⟩
  ·intro r v B' N hm
   rw [hsize]
   exact rw.dom r v B' N hm
  ·intro i B' cells hi
   obtain ⟨cs, ty, fr', e1, e2⟩ := rw.frz i B' cells hi
   refine ⟨cs, ty, fr', ?_, e2⟩
   rw [hne B']
   ·exact e1
   ·rintro rfl
    rw [i2] at e1
    cases e1
 obtain ⟨f1, f2, f3⟩ := act_put_frame fr hn hdf o h2 (.tuple [.bool true, .int .i64 (pos : Int), .int .i32 (c : Int)]) (.tuple #[.bool true, .int .i64 pos, .int .i32 (c : Int)]) (by simp [VR, VRs])
 refine k r hr m0 w0 b0 m _ _ h0 ?_ f2 f3 hrw hst ⟨B, ?_, ?_, i3, i4⟩
 ·rw [hdst] at f1 ⊢
  exact f1
 ·rw [hdst]
  simp only [Act.put]
  rw [Array.getElem?_setIfInBounds_ne hqd]
  exact i1
 ·exact Lib.iterAt_heap w B s pos (pos + u) i2
theorem okI_over {t : Option R} (q : Nat) (h : nextAt X.fn.ntmps p env d = some q) (hge : Nat.ble s.size pos = true) (k : OkI X d s pos (adv p) ((q, .tuple [.bool false]) :: env) H t) : OkI X d s pos p env H t := by
 have hge : ¬ pos < s.size := by have := Nat.le_of_ble_eq_true hge; omega
 obtain ⟨ops, n, K, o, rfl, h1, h2, h3, hop, hdst, hqd⟩ := nextAt_spec h
 intro r hr m0 w0 b0 m w a h0 fr hn hdf rw st it
 show wpOps X.P ops _ (List.range' n (ops.size - n)) a w
 have hl : n < ops.size := (Array.getElem?_eq_some_iff.1 h1).1
 rw [show ops.size - n = (ops.size - (n + 1)) + 1 by omega, List.range'_succ]
 simp only [wpOps, h1]
 rw [wanted_ok h3 fr]
 simp only [if_true]
 refine .inl ?_
 have it0 := it
 obtain ⟨B, i1, i2, i3, i4⟩ := it
 have hev : a.eval (.tmp d) = .pointer (some ⟨B, 0, none⟩) := by simp [Act.eval, Array.getD_eq_getD_getElem?, i1]
 have hrun := Lib.run_next_end_at (P := X.P) w B s pos o.type i2 hge
 have hexec : (execOp a.eval o).run X.P w = .ok (.value (.tuple #[.bool false])) w := by
  simp [execOp, hop, hev, hrun]
 unfold Oper.wp
 rw [hexec]
 show wpOps X.P ops _ (List.range' (n + 1) (ops.size - (n + 1))) (a.put o.dst _) w
 obtain ⟨f1, f2, f3⟩ := act_put_frame fr hn hdf o h2 (.tuple [.bool false]) (.tuple #[.bool false]) (by simp [VR, VRs])
 refine k r hr m0 w0 b0 m _ _ h0 ?_ f2 f3 rw st (It.put _ ?_ it0)
 ·rw [hdst] at f1 ⊢
  exact f1
 ·unfold dneq
  rw [hdst]
  have : Nat.beq q d = false := by
   cases hb : Nat.beq q d with
   | false => rfl
   | true => exact absurd (Nat.eq_of_beq_eq_true hb) hqd
  simp [this]
end
end Go.Proofs.Ytabhkocokojddaa.Am
set_option maxRecDepth 100000
namespace Go.Proofs.Ytabhkocokojddaa.Am
noncomputable section
open Go
def tyT : PT Ti := (.node (.node (.node (.node (.node (.node (.node .nil (some ⟨1, 8, (some [.nilf]), .other, [], 0, 0, none⟩) .nil) (some ⟨1, 8, (some [.nilf]), .other, [], 0, 0, none⟩) (.node .nil (some ⟨1, 4, (some [.int .i32 0]), .int .i32, [], 0, 0, none⟩) .nil)) (some ⟨1, 8, (some [.nilp]), .pointer, [], 86, 0, none⟩) (.node (.node .nil (some ⟨1, 8, (some [.nilf]), .other, [], 0, 0, none⟩) .nil) (some ⟨1, 8, (some [.nilf]), .other, [], 0, 0, none⟩) .nil)) (some ⟨4, 24, (some [.int .i64 0, .int .i64 0, .bool false, .int .u8 0]), .struct, [(0, 2), (1, 3), (2, 4), (3, 6)], 0, 0, (some [(.int .i64), (.int .i64), .bool, (.int .u8)])⟩) (.node (.node (.node .nil (some ⟨1, 0, (some [.top]), .other, [], 0, 0, none⟩) .nil) (some ⟨1, 8, (some [.nilf]), .other, [], 0, 0, none⟩) .nil) (some ⟨1, 8, (some [.nilf]), .other, [], 0, 0, none⟩) (.node (.node .nil (some ⟨0, 0, (some []), .array, [], 16, 0, (some (List.replicate 0 .pointer))⟩) .nil) (some ⟨1, 24, (some [.nils]), .slice, [], 9, 0, none⟩) .nil))) (some ⟨1, 8, (some [.int .i64 0]), .int .i64, [], 0, 0, none⟩) (.node (.node (.node (.node .nil (some ⟨1, 8, (some [.nilf]), .other, [], 0, 0, none⟩) .nil) (some ⟨1, 8, (some [.nilf]), .other, [], 0, 0, none⟩) .nil) (some ⟨1, 8, (some [.nilp]), .struct, [(0, 17)], 0, 0, none⟩) (.node (.node .nil (some ⟨1, 8, (some [.nilf]), .other, [], 0, 0, none⟩) .nil) (some ⟨1, 8, (some [.nilf]), .other, [], 0, 0, none⟩) .nil)) (some ⟨1, 16, (some [.str []]), .string, [], 0, 0, none⟩) (.node (.node (.node .nil (some ⟨9, 72, (some [.int .i64 0, .int .i64 0, .int .i64 0, .int .i64 0, .int .i64 0, .int .i64 0, .int .i64 0, .int .i64 0, .int .i64 0]), .array, [], 3, 9, (some (List.replicate 9 (.int .i64)))⟩) .nil) (some ⟨1, 8, (some [.nilf]), .other, [], 0, 0, none⟩) .nil) (some ⟨1, 8, (some [.nilf]), .other, [], 0, 0, none⟩) (.node (.node .nil (some ⟨1, 4, (some [.int .u32 0]), .int .u32, [], 0, 0, none⟩) .nil) (some ⟨1, 8, (some [.nilp]), .pointer, [], 62, 0, none⟩) .nil)))) (some ⟨1, 8, (some [.nilf]), .other, [], 0, 0, none⟩) (.node (.node (.node (.node (.node .nil (some ⟨1, 16, (some [.nili]), .iface, [], 0, 0, none⟩) .nil) (some ⟨1, 8, (some [.nilf]), .other, [], 0, 0, none⟩) (.node .nil (some ⟨11, 48, (some [.int .u64 0, .int .u64 0, .int .u32 0, .int .u8 0, .int .u8 0, .int .u8 0, .int .u8 0, .nilf, .nilp, .int .i32 0, .int .i32 0]), .struct, [(0, 12), (1, 12), (2, 91), (3, 92), (4, 5), (5, 5), (6, 93), (7, 94), (8, 77), (9, 95), (10, 96)], 0, 0, none⟩) .nil)) (some ⟨1, 8, (some [.nilp]), .pointer, [], 98, 0, none⟩) (.node (.node .nil (some ⟨1, 8, (some [.nilf]), .other, [], 0, 0, none⟩) .nil) (some ⟨1, 8, (some [.nilf]), .other, [], 0, 0, none⟩) .nil)) (some ⟨1, 16, (some [.str []]), .string, [], 0, 0, none⟩) (.node (.node (.node .nil (some ⟨1, 8, (some [.nilf]), .other, [], 0, 0, none⟩) .nil) (some ⟨1, 8, (some [.nilf]), .other, [], 0, 0, none⟩) .nil) (some ⟨1, 0, (some [.top]), .other, [], 0, 0, none⟩) (.node (.node .nil (some ⟨0, 0, (some []), .struct, [(0, 87)], 0, 0, none⟩) .nil) (some ⟨1, 8, (some [.nilf]), .other, [], 0, 0, none⟩) .nil))) (some ⟨1, 1, (some [.int .u8 0]), .int .u8, [], 0, 0, none⟩) (.node (.node (.node (.node .nil (some ⟨1, 8, (some [.nilf]), .other, [], 0, 0, none⟩) .nil) (some ⟨4, 56, (some [.int .i64 0, .int .i64 0, .str [], .nils]), .struct, [(0, 3), (1, 3), (2, 9), (3, 34)], 0, 0, (some [(.int .i64), (.int .i64), .string, .slice])⟩) .nil) (some ⟨1, 4, (some [.int .i32 0]), .int .i32, [], 0, 0, none⟩) (.node (.node .nil (some ⟨4, 40, (some [.nilp, .nilp, .nilp, .str []]), .struct, [(0, 17), (1, 17), (2, 17), (3, 9)], 0, 0, none⟩) .nil) (some ⟨1, 8, (some [.nilf]), .other, [], 0, 0, none⟩) .nil)) (some ⟨2, 24, (some [.str [], .int .u64 0]), .struct, [(0, 9), (1, 12)], 0, 0, none⟩) (.node (.node (.node .nil (some ⟨1, 8, (some [.nilp]), .pointer, [], 5, 0, none⟩) .nil) (some ⟨1, 0, (some [.top]), .other, [], 0, 0, none⟩) .nil) (some ⟨1, 24, (some [.nils]), .slice, [], 3, 0, none⟩) (.node (.node .nil (some ⟨1, 1, (some [.int .u8 0]), .int .u8, [], 0, 0, none⟩) .nil) (some ⟨2, 32, (some [.nilp, .nils]), .struct, [(0, 59), (1, 60)], 0, 0, (some [.pointer, .slice])⟩) .nil))))) (some ⟨1, 0, (some [.top]), .other, [], 0, 0, none⟩) (.node (.node (.node (.node (.node (.node .nil (some ⟨1, 16, (some [.nili]), .iface, [], 0, 0, none⟩) .nil) (some ⟨1, 8, (some [.nilf]), .other, [], 0, 0, none⟩) (.node .nil (some ⟨1, 4, (some [.int .i32 0]), .int .i32, [], 0, 0, none⟩) .nil)) (some ⟨1, 8, (some [.nilp]), .pointer, [], 89, 0, none⟩) (.node (.node .nil (some ⟨1, 8, (some [.nilf]), .other, [], 0, 0, none⟩) .nil) (some ⟨1, 0, (some [.top]), .other, [], 0, 0, none⟩) .nil)) (some ⟨4, 24, (some [.int .i64 0, .int .i64 0, .bool false, .int .u8 0]), .struct, [(0, 2), (1, 3), (2, 4), (3, 6)], 0, 0, (some [(.int .i64), (.int .i64), .bool, (.int .u8)])⟩) (.node (.node (.node .nil (some ⟨1, 8, (some [.nilf]), .other, [], 0, 0, none⟩) .nil) (some ⟨1, 8, (some [.nilf]), .other, [], 0, 0, none⟩) .nil) (some ⟨1, 8, (some [.int .u64 0]), .int .u64, [], 0, 0, none⟩) (.node (.node .nil (some ⟨0, 0, (some []), .struct, [(0, 87)], 0, 0, none⟩) .nil) (some ⟨1, 8, (some [.nilf]), .other, [], 0, 0, none⟩) .nil))) (some ⟨1, 1, (some [.bool false]), .bool, [], 0, 0, none⟩) (.node (.node (.node (.node .nil (some ⟨1, 8, (some [.nilf]), .other, [], 0, 0, none⟩) .nil) (some ⟨4, 56, (some [.int .i64 0, .int .i64 0, .str [], .nils]), .struct, [(0, 3), (1, 3), (2, 9), (3, 34)], 0, 0, (some [(.int .i64), (.int .i64), .string, .slice])⟩) .nil) (some ⟨1, 16, (some [.nili]), .iface, [], 0, 0, none⟩) (.node (.node .nil (some ⟨5, 40, (some [.int .i64 0, .int .i64 0, .int .i64 0, .int .i64 0, .int .i64 0]), .array, [], 3, 5, (some (List.replicate 5 (.int .i64)))⟩) .nil) (some ⟨1, 8, (some [.nilf]), .other, [], 0, 0, none⟩) .nil)) (some ⟨1, 8, (some [.int .u64 0]), .int .u64, [], 0, 0, none⟩) (.node (.node (.node .nil (some ⟨1, 8, (some [.nilf]), .other, [], 0, 0, none⟩) .nil) (some ⟨1, 8, (some [.int .u64 0]), .int .u64, [], 0, 0, none⟩) .nil) (some ⟨1, 8, (some [.nilf]), .other, [], 0, 0, none⟩) (.node (.node .nil (some ⟨1, 1, (some [.int .u8 0]), .int .u8, [], 0, 0, none⟩) .nil) (some ⟨1, 24, (some [.nils]), .slice, [], 5, 0, none⟩) .nil)))) (some ⟨1, 8, (some [.int .i64 0]), .int .i64, [], 0, 0, none⟩) (.node (.node (.node (.node (.node .nil (some ⟨1, 0, (some [.top]), .other, [], 0, 0, none⟩) .nil) (some ⟨1, 24, (some [.nils]), .slice, [], 37, 0, none⟩) (.node .nil (some ⟨11, 48, (some [.int .u64 0, .int .u64 0, .int .u32 0, .int .u8 0, .int .u8 0, .int .u8 0, .int .u8 0, .nilf, .nilp, .int .i32 0, .int .i32 0]), .struct, [(0, 12), (1, 12), (2, 91), (3, 92), (4, 5), (5, 5), (6, 93), (7, 94), (8, 77), (9, 95), (10, 96)], 0, 0, none⟩) .nil)) (some ⟨1, 8, (some [.nilp]), .struct, [(0, 17)], 0, 0, none⟩) (.node (.node .nil (some ⟨1, 8, (some [.nilp]), .other, [], 0, 0, none⟩) .nil) (some ⟨1, 8, (some [.nilf]), .other, [], 0, 0, none⟩) .nil)) (some ⟨1, 16, (some [.str []]), .string, [], 0, 0, none⟩) (.node (.node (.node .nil (some ⟨1, 8, (some [.nilf]), .other, [], 0, 0, none⟩) .nil) (some ⟨1, 8, (some [.nilf]), .other, [], 0, 0, none⟩) .nil) (some ⟨1, 8, (some [.nilf]), .other, [], 0, 0, none⟩) (.node (.node .nil (some ⟨1, 8, (some [.nilf]), .other, [], 0, 0, none⟩) .nil) (some ⟨1, 8, (some [.nilf]), .other, [], 0, 0, none⟩) .nil))) (some ⟨1, 1, (some [.int .u8 0]), .int .u8, [], 0, 0, none⟩) (.node (.node (.node (.node .nil (some ⟨1, 8, (some [.nilf]), .other, [], 0, 0, none⟩) .nil) (some ⟨1, 0, (some [.top]), .other, [], 0, 0, none⟩) .nil) (some ⟨1, 8, (some [.nilf]), .other, [], 0, 0, none⟩) (.node (.node .nil (some ⟨4, 40, (some [.nilp, .nilp, .nilp, .str []]), .struct, [(0, 17), (1, 17), (2, 17), (3, 9)], 0, 0, none⟩) .nil) (some ⟨1, 8, (some [.nilf]), .other, [], 0, 0, none⟩) .nil)) (some ⟨2, 24, (some [.str [], .int .u64 0]), .struct, [(0, 9), (1, 12)], 0, 0, none⟩) (.node (.node (.node .nil (some ⟨1, 8, (some [.nilf]), .other, [], 0, 0, none⟩) .nil) (some ⟨1, 8, (some [.nilf]), .other, [], 0, 0, none⟩) .nil) (some ⟨1, 8, (some [.nilf]), .other, [], 0, 0, none⟩) (.node (.node .nil (some ⟨1, 8, (some [.nilf]), .other, [], 0, 0, none⟩) .nil) (some ⟨2, 32, (some [.nilp, .nils]), .struct, [(0, 59), (1, 60)], 0, 0, (some [.pointer, .slice])⟩) .nil))))))
theorem tyOk : tyT.allB (tiOk Try.prog) id = true := by decide +kernel
def cx : Cx := ⟨tyT.get⟩
theorem cxTi : ∀ t i, cx.ti t = some i → mkTi Try.prog t = some i := fun t i h => tiOk_eq (PT.allB_get tyT id tyOk t i h)
theorem cxOrd : Try.prog.follows .mixedOrders = true := by decide +kernel
end
end Go.Proofs.Ytabhkocokojddaa.Am
set_option linter.unusedVariables false
namespace Go.Proofs.Ytabhkocokojddaa.Am
open Go
def e2 (x : Int) : List AV := [.int .i64 x]
def v2 (x : Int) : AV := .int .i64 x
def e3 (x : Int) : List AV := [.int .i64 x]
def v3 (x : Int) : AV := .int .i64 x
theorem e3_len : ∀ x, (e3 x).length = 1 := fun _ => rfl
theorem e3_pur : ∀ x, purs (e3 x) = true := fun _ => rfl
theorem e3_one : ∀ x, (e3 x).all one1 = true := fun _ => rfl
def e4 (x : Bool) : List AV := [.bool x]
def e5 (x : Int) : List AV := [.int .u8 x]
def v5 (x : Int) : AV := .int .u8 x
theorem e5_len : ∀ x, (e5 x).length = 1 := fun _ => rfl
end Go.Proofs.Ytabhkocokojddaa.Am
set_option linter.unusedVariables false
namespace Go.Proofs.Ytabhkocokojddaa.Am
open Go
theorem fw64 (n : Int) (h1 : -9223372036854775808 ≤ n) (h2 : n ≤ 9223372036854775807) : fW .i64 n = n := by
 have h1 : lo .i64 ≤ n := h1
 have h2 : n ≤ hi .i64 := h2
 unfold fW
 rw [if_pos (by simp [h1, h2])]
theorem fwrap_u64 (n : Int) : fW .u64 n = n % 18446744073709551616 := by
 rw [fwrap_eq]; simp [IntKind.wrap, IntKind.bits, IntKind.signed]
theorem rem_at (a : Int) (q : Nat) (h0 : 0 < q) (hq : q < 18446744073709551616) : ∃ i : Nat, i < q ∧ remS (fW .u64 a) (fW .u64 (q : Int)) = some (i : Int) ∧ remS (fW .u64 (i : Int)) (fW .u64 (q : Int)) = some (i : Int) := by
 have e1 : fW .u64 (q : Int) = q := by rw [fwrap_u64]; omega
 have e2 : 0 ≤ fW .u64 a := by rw [fwrap_u64]; omega
 have hne : ¬ (q : Int) = 0 := by omega
 have h1 : 0 ≤ (fW .u64 a) % (q : Int) := Int.emod_nonneg _ hne
 have h2 : (fW .u64 a) % (q : Int) < q := Int.emod_lt_of_pos _ (by omega)
 refine ⟨((fW .u64 a) % (q : Int)).toNat, by omega, ?_, ?_⟩
 ·rw [e1]; unfold remS
  rw [if_neg hne, Int.tmod_eq_emod_of_nonneg e2]
  congr 1; omega
 ·rw [e1]; unfold remS
  have e3 : fW .u64 ((((fW .u64 a) % (q : Int)).toNat : Nat) : Int) = (fW .u64 a) % (q : Int) := by rw [fwrap_u64]; omega
  rw [e3, if_neg hne, Int.tmod_eq_emod_of_nonneg h1, Int.emod_emod_of_dvd _ (Int.dvd_refl _)]
  congr 1; omega
theorem tmod_at (a : Int) (q : Nat) (h0 : 0 < q) (hq : q < 18446744073709551616) : ∃ i : Nat, i < q ∧ (fW .u64 a).tmod (q : Int) = (i : Int) ∧ (fW .u64 (i : Int)).tmod (q : Int) = (i : Int) := by
 obtain ⟨i, h1, h2, h3⟩ := rem_at a q h0 hq
 have e1 : fW .u64 (q : Int) = q := by rw [fwrap_u64]; omega
 rw [e1] at h2 h3
 unfold remS at h2 h3
 rw [if_neg (by omega)] at h2 h3
 exact ⟨i, h1, Option.some.inj h2, Option.some.inj h3⟩
theorem andI64 (x : Int) (m : Nat) (hm : m ≤ 62) : andI .i64 x ((2 ^ m - 1 : Nat) : Int) = x % ((2 ^ m : Nat) : Int) := by
 have hp : 2 ^ m ≤ 2 ^ 62 := Nat.pow_le_pow_right (by decide) hm
 have h0 : 0 < 2 ^ m := Nat.two_pow_pos m
 have e1 : (BitVec.ofInt 64 x).toNat = (x % 18446744073709551616).toNat := by rw [BitVec.toNat_ofInt]; rfl
 have e2 : (BitVec.ofInt 64 ((2 ^ m - 1 : Nat) : Int)).toNat = 2 ^ m - 1 := by
  rw [BitVec.toNat_ofInt]
  omega
 have e3 : (((BitVec.ofInt 64 x &&& BitVec.ofInt 64 ((2 ^ m - 1 : Nat) : Int)).toNat : Nat) : Int) = x % ((2 ^ m : Nat) : Int) := by
  rw [BitVec.toNat_and, e1, e2, Nat.and_two_pow_sub_one_eq_mod]
  have h1 : 0 ≤ x % 18446744073709551616 := Int.emod_nonneg _ (by decide)
  have h2 : (((x % 18446744073709551616).toNat : Nat) : Int) = x % 18446744073709551616 := by omega
  rw [Int.natCast_emod, h2]
  refine Int.emod_emod_of_dvd x ?_
  have : (2 : Nat) ^ m ∣ 2 ^ 64 := Nat.pow_dvd_pow 2 (by omega)
  have := Int.natCast_dvd_natCast.2 this
  exact this
 unfold andI
 show fW .i64 (((BitVec.ofInt 64 x &&& BitVec.ofInt 64 ((2 ^ m - 1 : Nat) : Int)).toNat : Nat) : Int) = _
 rw [e3]
 have h3 : 0 ≤ x % ((2 ^ m : Nat) : Int) := Int.emod_nonneg _ (by omega)
 have h4 : x % ((2 ^ m : Nat) : Int) < ((2 ^ m : Nat) : Int) := Int.emod_lt_of_pos _ (by omega)
 exact fw64 _ (by omega) (by omega)
end Go.Proofs.Ytabhkocokojddaa.Am
set_option linter.unusedVariables false
set_option linter.unusedSimpArgs false
namespace Go.Proofs.Ytabhkocokojddaa.Am
open Go
theorem dT {p : Prop} [Decidable p] (h : p) : decide p = true := decide_eq_true h
theorem dF {p : Prop} [Decidable p] (h : ¬ p) : decide p = false := decide_eq_false h
theorem fwI {n : Int} (h1 : -9223372036854775808 ≤ n) (h2 : n ≤ 9223372036854775807) : fW .i64 n = n := fw64 n h1 h2
theorem sn {x y : Nat} (h : x = y) : some (x : Int) = some (y : Int) := by rw [h]
theorem bS {α β : Type} {x : Option α} {a : α} {f : α → Option β} {r : Option β} (h : x = some a) (k : f a = r) : x.bind f = r := by rw [h]; exact k
theorem jS {α β : Type} {f : α → Option β} {g : (α → Option β) → Option β} {v : α} (h : ∀ j : α → Option β, g j = j v) : jn f g = f v := h f
theorem jD {α β : Type} {f : α → Option β} {g : (α → Option β) → Option β} {r : Option β} (h : g f = r) : jn f g = r := h
theorem iT {α : Type} {c : Bool} {A B r : α} (h : c = true) (k : A = r) : (if c then A else B) = r := by rw [h]; exact k
theorem iF {α : Type} {c : Bool} {A B r : α} (h : c = false) (k : B = r) : (if c then A else B) = r := by rw [h]; exact k
theorem fw_s {n : Nat} (h : n < 300000000000000) : fW .i64 ((n : Int) + 1) = ((n + 1 : Nat) : Int) := by rw [fwI (by omega) (by omega)]; omega
theorem gsL : (∀ (p : Prop) [Decidable p], p → decide p = true) ∧ (∀ (p : Prop) [Decidable p], ¬ p → decide p = false) ∧ (∀ n : Int, -9223372036854775808 ≤ n → n ≤ 9223372036854775807 → fW .i64 n = n) ∧
 (∀ (α β : Type) (a : α) (f : α → Option β), (some a).bind f = f a) ∧ (∀ (α : Type) (a b : α), (if True then a else b) = a) ∧ (∀ (α : Type) (a b : α), (if False then a else b) = b) ∧ (∀ (α : Type) (a : α), (a = a) = True) ∧ ((false = true) = False) ∧ ((!true) = false) ∧ ((!false) = true) ∧ (decide True = true) ∧ (decide False = false) ∧
 (∀ b, (true && b) = b) ∧ (∀ b, (b && true) = b) ∧ (∀ b, (false && b) = false) ∧ (∀ b, (b && false) = false) ∧ (∀ b, (true || b) = true) ∧ (∀ b, (b || true) = true) ∧ (∀ b, (false || b) = b) ∧ (∀ b, (b || false) = b) ∧
 (∀ p : Prop, (p ∧ p) = p) ∧ (∀ p : Prop, (p ∧ True) = p) ∧ (∀ p : Prop, (True ∧ p) = p) ∧ (∀ p : Prop, (p ∧ False) = False) ∧ (∀ p : Prop, (False ∧ p) = False) := by
 refine ⟨fun p _ h => dT h, fun p _ h => dF h, fun n h1 h2 => fwI h1 h2, fun _ _ _ _ => rfl, ?_, ?_, ?_, ?_, rfl, rfl, rfl, rfl, ?_, ?_, ?_, ?_, ?_, ?_, ?_, ?_, ?_, ?_, ?_, ?_, ?_⟩ <;> simp
theorem byteAll {f : Nat → Bool} (h : ((List.range 256).all f) = true) {c : Nat} (hc : c < 256) : f c = true := List.all_eq_true.1 h c (List.mem_range.2 hc)
abbrev By (s : List Nat) : Prop := ∀ b ∈ s, b < 256
abbrev Sz (s : List Nat) : Prop := s.length ≤ 140737488351232
theorem By.drop {s : List Nat} (h : By s) (n : Nat) : By (s.drop n) := fun b hb => h b (List.mem_of_mem_drop hb)
theorem By.take {s : List Nat} (h : By s) (n : Nat) : By (s.take n) := fun b hb => h b (List.mem_of_mem_take hb)
theorem By.app {a b : List Nat} (ha : By a) (hb : By b) : By (a ++ b) := fun c hc => (List.mem_append.1 hc).elim (ha c) (hb c)
theorem By.tail {c : Nat} {r : List Nat} (h : By (c :: r)) : By r := fun b hb => h b (List.mem_cons_of_mem _ hb)
theorem By.head {c : Nat} {r : List Nat} (h : By (c :: r)) : c < 256 := h c List.mem_cons_self
theorem dcons {s : List Nat} {i : Nat} (h : i < s.length) : ∃ b r, s.drop i = b :: r ∧ s.drop (i + 1) = r ∧ b ∈ s ∧ r.length + i + 1 = s.length := by
 refine ⟨s[i], s.drop (i + 1), List.drop_eq_getElem_cons h, rfl, List.getElem_mem h, ?_⟩
 rw [List.length_drop]; omega
theorem dnil {s : List Nat} {i : Nat} (h : s.length ≤ i) : s.drop i = [] := List.drop_eq_nil_of_le h
theorem nthX {s : List Nat} {x : Int} {i b : Nat} {r : List Nat} (hx : x = (i : Int)) (h : s.drop i = b :: r) : nthS s x = some (b : Int) := by
 subst hx
 have e : s[i]? = some b := by
  have := List.getElem?_drop (xs := s) (i := i) (j := 0)
  rw [h] at this
  simpa using this.symm
 unfold nthS
 rw [if_pos (by omega)]
 simp [e]
theorem subFrom {s : List Nat} {x : Int} {i : Nat} (hx : x = (i : Int)) (h : i ≤ s.length) : subL s (some x) none = some (s.drop i) := by
 subst hx; unfold subL bnd; simp [h]
theorem subMid {s : List Nat} {x y : Int} {i j : Nat} (hx : x = (i : Int)) (hy : y = (j : Int)) (h1 : i ≤ j) (h2 : j ≤ s.length) : subL s (some x) (some y) = some ((s.take j).drop i) := by
 subst hx hy; unfold subL bnd; simp [h1, h2]
theorem drop_step {s : List Nat} {i c : Nat} {r : List Nat} (h : s.drop i = c :: r) : s.drop (i + 1) = r := by
 rw [← List.drop_drop, h]; rfl
end Go.Proofs.Ytabhkocokojddaa.Am
set_option maxRecDepth 100000
set_option linter.unusedVariables false
namespace Go.Proofs.Ytabhkocokojddaa.Am
noncomputable section
open Go
def X75 : Fx Int := ⟨Try.prog, cx, Try.f75, fun r => .int .i64 r, 0, fun _ => H0, cxTi, cxOrd⟩
def g75p0 : Pt := nav [0] (bodyAt Try.f75)
def g75p1 : Pt := nav [0, 0, 0, 0, 0] g75p0
def g75p2 : Pt := nav [0, 0] g75p1
def g75p4 : Pt := nav [2, 0] g75p2
def g75p6 : Pt := nav [0, 0] g75p4
def g75p8 : Pt := nav [2, 0] g75p6
def g75p9 : Pt := nav [0, 0] g75p8
def g75 (k : Nat) (a0 : Int) : Option Int :=
 jn (fun (z0 : Bool) => if z0 then (some (fW .i64 (fW .u8 (a0 - 48)))) else (jn (fun (z1 : Bool) => if z1 then (some (fW .i64 (fW .i64 (fW .u8 (a0 - 97)) + 10))) else (jn (fun (z2 : Bool) => if z2 then (some (fW .i64 (fW .i64 (fW .u8 (a0 - 65)) + 10))) else (some (99 : Int))) (fun j2 => if (decide (65 ≤ a0)) then (j2 (decide (a0 ≤ 90))) else (j2 false)))) (fun j1 => if (decide (97 ≤ a0)) then (j1 (decide (a0 ≤ 122))) else (j1 false)))) (fun j0 => if (decide (48 ≤ a0)) then (j0 (decide (a0 ≤ 57))) else (j0 false))
theorem g75_ok (k : Nat) (a0 : Int) (r : Int) (h : g75 k a0 = some r) : PureOk Try.prog 75 [.int .u8 a0] (.int .i64 r) := by
 refine pure_of X75 (fun _ => rfl) Try.func75 (by decide +kernel) (by kernel_rfl) (t := g75 k a0) ?_ h
 unfold g75
 refine oE (eE := [(0, .int .u8 a0)]) (by kernel_rfl) ?_
 let E1 : Env := [(6, .bool (decide (48 ≤ a0))), (5, .bool (decide (48 ≤ a0))), (4, .int .u8 a0), (2, .int .i64 0), (0, .int .u8 a0)]
 refine oR 11 (p' := (atN 3 (ctl1 g75p1))) (eE := E1) (H' := (mkH [])) (by kernel_rfl) ?_
 refine oJ (f := fun (z0 : Bool) => if z0 then (some (fW .i64 (fW .u8 (a0 - 48)))) else (jn (fun (z1 : Bool) => if z1 then (some (fW .i64 (fW .i64 (fW .u8 (a0 - 97)) + 10))) else (jn (fun (z2 : Bool) => if z2 then (some (fW .i64 (fW .i64 (fW .u8 (a0 - 65)) + 10))) else (some (99 : Int))) (fun j2 => if (decide (65 ≤ a0)) then (j2 (decide (a0 ≤ 90))) else (j2 false)))) (fun j1 => if (decide (97 ≤ a0)) then (j1 (decide (a0 ≤ 122))) else (j1 false)))) g75p2 (fun (z0 : Bool) => [(0, .int .u8 a0), (3, .bool z0)]) (fun (z0 : Bool) => (mkH [])) (fun z0 => ?_) (fun j0 hj0 => ?_)
 ·refine oS 3 (b := z0) (by kernel_rfl) (fun hb => ?_) (fun hb => ?_)
  ·let E2 : Env := [(2, .int .i64 (fW .i64 (fW .u8 (a0 - 48)))), (12, .int .i64 (fW .i64 (fW .u8 (a0 - 48)))), (11, .int .u8 (fW .u8 (a0 - 48))), (10, .int .u8 a0), (3, .bool true), (0, .int .u8 a0), (3, .bool z0)]
   refine oR 9 (p' := .fin) (eE := E2) (H' := (mkH [])) (by kernel_rfl) ?_
   exact oT (r := (fW .i64 (fW .u8 (a0 - 48)))) (xs := [.int .i64 (fW .i64 (fW .u8 (a0 - 48)))]) (v := .int .i64 (fW .i64 (fW .u8 (a0 - 48)))) (by kernel_rfl) (by kernel_rfl) (by kernel_rfl) (.pures (by kernel_rfl)) (by kernel_rfl)
  ·let E3 : Env := [(16, .bool (decide (97 ≤ a0))), (15, .bool (decide (97 ≤ a0))), (14, .int .u8 a0), (3, .bool false), (0, .int .u8 a0), (3, .bool z0)]
   refine oR 6 (p' := (atN 3 (ctl1 g75p4))) (eE := E3) (H' := (mkH [])) (by kernel_rfl) ?_
   refine oJ (f := fun (z1 : Bool) => if z1 then (some (fW .i64 (fW .i64 (fW .u8 (a0 - 97)) + 10))) else (jn (fun (z2 : Bool) => if z2 then (some (fW .i64 (fW .i64 (fW .u8 (a0 - 65)) + 10))) else (some (99 : Int))) (fun j2 => if (decide (65 ≤ a0)) then (j2 (decide (a0 ≤ 90))) else (j2 false)))) g75p6 (fun (z1 : Bool) => [(0, .int .u8 a0), (13, .bool z1)]) (fun (z1 : Bool) => (mkH [])) (fun z1 => ?_) (fun j1 hj1 => ?_)
   ·refine oS 13 (b := z1) (by kernel_rfl) (fun hb => ?_) (fun hb => ?_)
    ·let E4 : Env := [(2, .int .i64 (fW .i64 (fW .i64 (fW .u8 (a0 - 97)) + 10))), (23, .int .i64 (fW .i64 (fW .i64 (fW .u8 (a0 - 97)) + 10))), (22, .int .i64 (fW .i64 (fW .u8 (a0 - 97)))), (21, .int .u8 (fW .u8 (a0 - 97))), (20, .int .u8 a0), (13, .bool true), (0, .int .u8 a0), (13, .bool z1)]
     refine oR 10 (p' := .fin) (eE := E4) (H' := (mkH [])) (by kernel_rfl) ?_
     exact oT (r := (fW .i64 (fW .i64 (fW .u8 (a0 - 97)) + 10))) (xs := [.int .i64 (fW .i64 (fW .i64 (fW .u8 (a0 - 97)) + 10))]) (v := .int .i64 (fW .i64 (fW .i64 (fW .u8 (a0 - 97)) + 10))) (by kernel_rfl) (by kernel_rfl) (by kernel_rfl) (.pures (by kernel_rfl)) (by kernel_rfl)
    ·let E5 : Env := [(27, .bool (decide (65 ≤ a0))), (26, .bool (decide (65 ≤ a0))), (25, .int .u8 a0), (13, .bool false), (0, .int .u8 a0), (13, .bool z1)]
     refine oR 6 (p' := (atN 3 (ctl1 g75p8))) (eE := E5) (H' := (mkH [])) (by kernel_rfl) ?_
     refine oJ (f := fun (z2 : Bool) => if z2 then (some (fW .i64 (fW .i64 (fW .u8 (a0 - 65)) + 10))) else (some (99 : Int))) g75p9 (fun (z2 : Bool) => [(0, .int .u8 a0), (24, .bool z2)]) (fun (z2 : Bool) => (mkH [])) (fun z2 => ?_) (fun j2 hj2 => ?_)
     ·refine oS 24 (b := z2) (by kernel_rfl) (fun hb => ?_) (fun hb => ?_)
      ·let E6 : Env := [(2, .int .i64 (fW .i64 (fW .i64 (fW .u8 (a0 - 65)) + 10))), (34, .int .i64 (fW .i64 (fW .i64 (fW .u8 (a0 - 65)) + 10))), (33, .int .i64 (fW .i64 (fW .u8 (a0 - 65)))), (32, .int .u8 (fW .u8 (a0 - 65))), (31, .int .u8 a0), (24, .bool true), (0, .int .u8 a0), (24, .bool z2)]
       refine oR 10 (p' := .fin) (eE := E6) (H' := (mkH [])) (by kernel_rfl) ?_
       exact oT (r := (fW .i64 (fW .i64 (fW .u8 (a0 - 65)) + 10))) (xs := [.int .i64 (fW .i64 (fW .i64 (fW .u8 (a0 - 65)) + 10))]) (v := .int .i64 (fW .i64 (fW .i64 (fW .u8 (a0 - 65)) + 10))) (by kernel_rfl) (by kernel_rfl) (by kernel_rfl) (.pures (by kernel_rfl)) (by kernel_rfl)
      ·refine oR 7 (p' := .fin) (eE := [(2, .int .i64 99), (24, .bool false), (0, .int .u8 a0), (24, .bool z2)]) (H' := (mkH [])) (by kernel_rfl) ?_
       exact oT (r := (99 : Int)) (xs := [.int .i64 99]) (v := .int .i64 99) (by kernel_rfl) (by kernel_rfl) (by kernel_rfl) (.pures (by kernel_rfl)) (by kernel_rfl)
     ·refine oS 27 (b := decide (65 ≤ a0)) (by kernel_rfl) (fun hb => ?_) (fun hb => ?_)
      ·let E7 : Env := ((24, .bool (decide (a0 ≤ 90))) :: (30, .bool (decide (a0 ≤ 90))) :: (29, .bool (decide (a0 ≤ 90))) :: (28, .int .u8 a0) :: (27, .bool true) :: E5)
       refine oR 5 (p' := g75p9) (eE := E7) (H' := (mkH [])) (by kernel_rfl) ?_
       refine oK [0, 24] (eE := [(0, .int .u8 a0), (24, .bool (decide (a0 ≤ 90)))]) (by kernel_rfl) ?_
       exact hj2 (decide (a0 ≤ 90))
      ·let E8 : Env := ((24, .bool false) :: (30, .bool false) :: (29, .tuple []) :: (28, .tuple []) :: (27, .bool false) :: E5)
       refine oR 5 (p' := g75p9) (eE := E8) (H' := (mkH [])) (by kernel_rfl) ?_
       refine oK [0, 24] (eE := [(0, .int .u8 a0), (24, .bool false)]) (by kernel_rfl) ?_
       exact hj2 false
   ·refine oS 16 (b := decide (97 ≤ a0)) (by kernel_rfl) (fun hb => ?_) (fun hb => ?_)
    ·let E9 : Env := ((13, .bool (decide (a0 ≤ 122))) :: (19, .bool (decide (a0 ≤ 122))) :: (18, .bool (decide (a0 ≤ 122))) :: (17, .int .u8 a0) :: (16, .bool true) :: E3)
     refine oR 5 (p' := g75p6) (eE := E9) (H' := (mkH [])) (by kernel_rfl) ?_
     refine oK [0, 13] (eE := [(0, .int .u8 a0), (13, .bool (decide (a0 ≤ 122)))]) (by kernel_rfl) ?_
     exact hj1 (decide (a0 ≤ 122))
    ·let E10 : Env := ((13, .bool false) :: (19, .bool false) :: (18, .tuple []) :: (17, .tuple []) :: (16, .bool false) :: E3)
     refine oR 5 (p' := g75p6) (eE := E10) (H' := (mkH [])) (by kernel_rfl) ?_
     refine oK [0, 13] (eE := [(0, .int .u8 a0), (13, .bool false)]) (by kernel_rfl) ?_
     exact hj1 false
 ·refine oS 6 (b := decide (48 ≤ a0)) (by kernel_rfl) (fun hb => ?_) (fun hb => ?_)
  ·let E11 : Env := ((3, .bool (decide (a0 ≤ 57))) :: (9, .bool (decide (a0 ≤ 57))) :: (8, .bool (decide (a0 ≤ 57))) :: (7, .int .u8 a0) :: (6, .bool true) :: E1)
   refine oR 5 (p' := g75p2) (eE := E11) (H' := (mkH [])) (by kernel_rfl) ?_
   refine oK [0, 3] (eE := [(0, .int .u8 a0), (3, .bool (decide (a0 ≤ 57)))]) (by kernel_rfl) ?_
   exact hj0 (decide (a0 ≤ 57))
  ·let E12 : Env := ((3, .bool false) :: (9, .bool false) :: (8, .tuple []) :: (7, .tuple []) :: (6, .bool false) :: E1)
   refine oR 5 (p' := g75p2) (eE := E12) (H' := (mkH [])) (by kernel_rfl) ?_
   refine oK [0, 3] (eE := [(0, .int .u8 a0), (3, .bool false)]) (by kernel_rfl) ?_
   exact hj0 false
end
end Go.Proofs.Ytabhkocokojddaa.Am
set_option maxRecDepth 100000
set_option linter.unusedVariables false
namespace Go.Proofs.Ytabhkocokojddaa.Am
noncomputable section
open Go
def X87 : Fx Int := ⟨Try.prog, cx, Try.f87, fun r => .int .i64 r, 0, fun _ => H0, cxTi, cxOrd⟩
def g87p0 : Pt := nav [0] (bodyAt Try.f87)
def g87p1 : Pt := nav [0, 0, 0] g87p0
def g87p2 : Pt := nav [0, 0, 0, 0] g87p1
def g87p3 : Pt := nav [0, 0, 0, 0] g87p2
def g87p4 : Pt := nav [0, 0, 0] g87p3
def g87p5 : Pt := nav [0, 0] g87p4
def g87p6 : Pt := nav [1, 0, 0, 0, 0, 0] g87p5
def g87p8 : Pt := nav [0, 0] g87p6
def g87p10 : Pt := nav [1] g87p8
def g87p11 : Pt := nav [2, 0] g87p8
def g87p12 : Pt := nav [0, 0] g87p10
def g87p13 : Pt := nav [0, 0] g87p11
def g87_l2 (k : Nat)  (a0 : (List Nat)) (a1 : Int) (n : Nat) : Int → Int → Option Int :=
 Nat.rec (motive := fun _ => Int → Int → Option Int) (fun _ _ => none) (fun _ ih => fun (y2_0 : Int) (y2_1 : Int) => if (decide (y2_1 < (a0.length : Int))) then ((nthS a0 y2_1).bind fun x0_2 => (g75 k x0_2).bind fun x0_3 => jn (fun (z3 : Int × Int) => ih z3.1 (fW .i64 (z3.2 + 1))) (fun j3 => if (decide (x0_3 < a1)) then (j3 (fW .i64 (y2_1 + 1), y2_1)) else ((nthS a0 y2_1).bind fun x1_2 => jn (fun (z4 : Int × Int × Bool) => if z4.2.2 then (some z4.1) else (j3 (z4.1, z4.2.1))) (fun j4 => if (!decide (x1_2 = 95)) then (j4 (y2_0, y2_1, true)) else (if (decide (y2_1 = 0)) then (j4 (y2_0, y2_1, true)) else (j4 (y2_0, y2_1, !decide (y2_0 = y2_1)))))))) else (some y2_0)) n
theorem g87_l2_s (k : Nat)  (a0 : (List Nat)) (a1 : Int) (n : Nat) (y2_0 : Int) (y2_1 : Int) : g87_l2 k a0 a1 (n + 1) y2_0 y2_1 = (if (decide (y2_1 < (a0.length : Int))) then ((nthS a0 y2_1).bind fun x0_2 => (g75 k x0_2).bind fun x0_3 => jn (fun (z3 : Int × Int) => (g87_l2 k a0 a1 n) z3.1 (fW .i64 (z3.2 + 1))) (fun j3 => if (decide (x0_3 < a1)) then (j3 (fW .i64 (y2_1 + 1), y2_1)) else ((nthS a0 y2_1).bind fun x1_2 => jn (fun (z4 : Int × Int × Bool) => if z4.2.2 then (some z4.1) else (j3 (z4.1, z4.2.1))) (fun j4 => if (!decide (x1_2 = 95)) then (j4 (y2_0, y2_1, true)) else (if (decide (y2_1 = 0)) then (j4 (y2_0, y2_1, true)) else (j4 (y2_0, y2_1, !decide (y2_0 = y2_1)))))))) else (some y2_0)) := rfl
theorem g87_l2_ok (k : Nat)  (a0 : (List Nat)) (a1 : Int)  : ∀ (n : Nat) (y2_0 : Int) (y2_1 : Int), Ok X87 g87p3 [(0, .str a0), (1, .int .i64 a1), (5, .int .i64 y2_0), (6, .int .i64 y2_1)] (mkH []) (g87_l2 k a0 a1 n y2_0 y2_1)
 | 0, _, _ => ok_none
 | n + 1, y2_0, y2_1 => by
  have ih := g87_l2_ok k a0 a1 n
  rw [g87_l2_s]
  refine ok_ent (p' := nav [0] g87p3) (by kernel_rfl) ?_
  let E2 : Env := [(10, .bool (decide (y2_1 < (a0.length : Int)))), (9, .int .i64 (a0.length : Int)), (8, .str a0), (7, .int .i64 y2_1), (0, .str a0), (1, .int .i64 a1), (5, .int .i64 y2_0), (6, .int .i64 y2_1)]
  refine oR 8 (p' := g87p5) (eE := E2) (H' := (mkH [])) (by kernel_rfl) ?_
  refine oS 10 (b := decide (y2_1 < (a0.length : Int))) (by kernel_rfl) (fun hb => ?_) (fun hb => ?_)
  ·refine oR 9 (p' := (atN 2 (ctl1 g87p6))) (eE := ((15, .int .i64 y2_1) :: (14, .str a0) :: (10, .bool true) :: E2)) (H' := (mkH [])) (by kernel_rfl) ?_
   refine oH (fun (x0_2 : Int) => (.int .u8 x0_2, (mkH []))) (atN 3 (ctl1 g87p6)) (fun x0_2 => ((16, .int .u8 x0_2) :: (15, .int .i64 y2_1) :: (14, .str a0) :: (10, .bool true) :: E2)) (idxH (by kernel_rfl)) (fun _ => by kernel_rfl) (fun x0_2 hx0_2 => ?_)
   refine oC (fun (x0_3 : Int) => .int .i64 x0_3) (atN 4 (ctl1 g87p6)) (fun x0_3 => ((17, .int .i64 x0_3) :: (16, .int .u8 x0_2) :: (15, .int .i64 y2_1) :: (14, .str a0) :: (10, .bool true) :: E2)) (fi := 75) (args := [.int .u8 x0_2]) (by kernel_rfl) (by kernel_rfl) (fun _ => by kernel_rfl) (fun r h => g75_ok k x0_2 r h) (fun _ => by kernel_rfl) (fun x0_3 hx0_3 => ?_)
   let E3 : Env := ((13, .bool (decide (x0_3 < a1))) :: (19, .bool (decide (x0_3 < a1))) :: (18, .int .i64 a1) :: (17, .int .i64 x0_3) :: (16, .int .u8 x0_2) :: (15, .int .i64 y2_1) :: (14, .str a0) :: (10, .bool true) :: E2)
   refine oR 4 (p' := g87p8) (eE := E3) (H' := (mkH [])) (by kernel_rfl) ?_
   refine oK [0, 1, 5, 6, 13] (eE := [(0, .str a0), (1, .int .i64 a1), (5, .int .i64 y2_0), (6, .int .i64 y2_1), (13, .bool (decide (x0_3 < a1)))]) (by kernel_rfl) ?_
   refine oJ (f := fun (z3 : Int × Int) => (g87_l2 k a0 a1 n) z3.1 (fW .i64 (z3.2 + 1))) g87p12 (fun (z3 : Int × Int) => [(0, .str a0), (1, .int .i64 a1), (5, .int .i64 z3.1), (6, .int .i64 z3.2)]) (fun (z3 : Int × Int) => (mkH [])) (fun z3 => ?_) (fun j3 hj3 => ?_)
   ·let E4 : Env := [(6, .int .i64 (fW .i64 (z3.2 + 1))), (12, .int .i64 (fW .i64 (z3.2 + 1))), (11, .int .i64 z3.2), (0, .str a0), (1, .int .i64 a1), (5, .int .i64 z3.1), (6, .int .i64 z3.2)]
    refine oR 5 (p' := g87p3) (eE := E4) (H' := (mkH [])) (by kernel_rfl) ?_
    refine oK [0, 1, 5, 6] (eE := [(0, .str a0), (1, .int .i64 a1), (5, .int .i64 z3.1), (6, .int .i64 (fW .i64 (z3.2 + 1)))]) (by kernel_rfl) ?_
    exact ih z3.1 (fW .i64 (z3.2 + 1))
   ·refine oS 13 (b := decide (x0_3 < a1)) (by kernel_rfl) (fun hb => ?_) (fun hb => ?_)
    ·let E5 : Env := [(5, .int .i64 (fW .i64 (y2_1 + 1))), (21, .int .i64 (fW .i64 (y2_1 + 1))), (20, .int .i64 y2_1), (13, .bool true), (0, .str a0), (1, .int .i64 a1), (5, .int .i64 y2_0), (6, .int .i64 y2_1), (13, .bool (decide (x0_3 < a1)))]
     refine oR 6 (p' := g87p12) (eE := E5) (H' := (mkH [])) (by kernel_rfl) ?_
     refine oK [0, 1, 5, 6] (eE := [(0, .str a0), (1, .int .i64 a1), (5, .int .i64 (fW .i64 (y2_1 + 1))), (6, .int .i64 y2_1)]) (by kernel_rfl) ?_
     exact hj3 (fW .i64 (y2_1 + 1), y2_1)
    ·let E6 : Env := [(24, .int .i64 y2_1), (23, .str a0), (13, .bool false), (0, .str a0), (1, .int .i64 a1), (5, .int .i64 y2_0), (6, .int .i64 y2_1), (13, .bool (decide (x0_3 < a1)))]
     refine oR 5 (p' := (atN 2 (ctl1 g87p11))) (eE := E6) (H' := (mkH [])) (by kernel_rfl) ?_
     refine oH (fun (x1_2 : Int) => (.int .u8 x1_2, (mkH []))) (atN 3 (ctl1 g87p11)) (fun x1_2 => ((25, .int .u8 x1_2) :: E6)) (idxH (by kernel_rfl)) (fun _ => by kernel_rfl) (fun x1_2 hx1_2 => ?_)
     refine oR 2 (p' := (atN 5 (ctl1 g87p11))) (eE := ((27, .bool (!decide (x1_2 = 95))) :: (26, .bool (!decide (x1_2 = 95))) :: (25, .int .u8 x1_2) :: E6)) (H' := (mkH [])) (by kernel_rfl) ?_
     refine oJ (f := fun (z4 : Int × Int × Bool) => if z4.2.2 then (some z4.1) else (j3 (z4.1, z4.2.1))) g87p13 (fun (z4 : Int × Int × Bool) => [(0, .str a0), (1, .int .i64 a1), (5, .int .i64 z4.1), (6, .int .i64 z4.2.1), (22, .bool z4.2.2)]) (fun (z4 : Int × Int × Bool) => (mkH [])) (fun z4 => ?_) (fun j4 hj4 => ?_)
     ·refine oS 22 (b := z4.2.2) (by kernel_rfl) (fun hb => ?_) (fun hb => ?_)
      ·let E7 : Env := [(4, .int .i64 z4.1), (36, .int .i64 z4.1), (22, .bool true), (0, .str a0), (1, .int .i64 a1), (5, .int .i64 z4.1), (6, .int .i64 z4.2.1), (22, .bool z4.2.2)]
       refine oR 7 (p' := .fin) (eE := E7) (H' := (mkH [])) (by kernel_rfl) ?_
       exact oT (r := z4.1) (xs := [.int .i64 z4.1]) (v := .int .i64 z4.1) (by kernel_rfl) (by kernel_rfl) (by kernel_rfl) (.pures (by kernel_rfl)) (by kernel_rfl)
      ·let E8 : Env := [(22, .bool false), (0, .str a0), (1, .int .i64 a1), (5, .int .i64 z4.1), (6, .int .i64 z4.2.1), (22, .bool z4.2.2)]
       refine oR 2 (p' := g87p12) (eE := E8) (H' := (mkH [])) (by kernel_rfl) ?_
       refine oK [0, 1, 5, 6] (eE := [(0, .str a0), (1, .int .i64 a1), (5, .int .i64 z4.1), (6, .int .i64 z4.2.1)]) (by kernel_rfl) ?_
       exact hj3 (z4.1, z4.2.1)
     ·refine oS 27 (b := !decide (x1_2 = 95)) (by kernel_rfl) (fun hb => ?_) (fun hb => ?_)
      ·let E9 : Env := ((22, .bool true) :: (35, .bool true) :: (34, .tuple []) :: (33, .tuple []) :: (32, .tuple []) :: (31, .bool true) :: (30, .bool true) :: (29, .tuple []) :: (28, .tuple []) :: (27, .bool true) :: (27, .bool (!decide (x1_2 = 95))) :: (26, .bool (!decide (x1_2 = 95))) :: (25, .int .u8 x1_2) :: E6)
       refine oR 10 (p' := g87p13) (eE := E9) (H' := (mkH [])) (by kernel_rfl) ?_
       refine oK [0, 1, 5, 6, 22] (eE := [(0, .str a0), (1, .int .i64 a1), (5, .int .i64 y2_0), (6, .int .i64 y2_1), (22, .bool true)]) (by kernel_rfl) ?_
       exact hj4 (y2_0, y2_1, true)
      ·let E10 : Env := ((31, .bool (decide (y2_1 = 0))) :: (30, .bool (decide (y2_1 = 0))) :: (29, .bool (decide (y2_1 = 0))) :: (28, .int .i64 y2_1) :: (27, .bool false) :: (27, .bool (!decide (x1_2 = 95))) :: (26, .bool (!decide (x1_2 = 95))) :: (25, .int .u8 x1_2) :: E6)
       refine oR 4 (p' := (atN 9 (ctl1 g87p11))) (eE := E10) (H' := (mkH [])) (by kernel_rfl) ?_
       refine oS 31 (b := decide (y2_1 = 0)) (by kernel_rfl) (fun hb => ?_) (fun hb => ?_)
       ·let E11 : Env := ((22, .bool true) :: (35, .bool true) :: (34, .tuple []) :: (33, .tuple []) :: (32, .tuple []) :: (31, .bool true) :: E10)
        refine oR 6 (p' := g87p13) (eE := E11) (H' := (mkH [])) (by kernel_rfl) ?_
        refine oK [0, 1, 5, 6, 22] (eE := [(0, .str a0), (1, .int .i64 a1), (5, .int .i64 y2_0), (6, .int .i64 y2_1), (22, .bool true)]) (by kernel_rfl) ?_
        exact hj4 (y2_0, y2_1, true)
       ·let E12 : Env := ((22, .bool (!decide (y2_0 = y2_1))) :: (35, .bool (!decide (y2_0 = y2_1))) :: (34, .bool (!decide (y2_0 = y2_1))) :: (33, .int .i64 y2_1) :: (32, .int .i64 y2_0) :: (31, .bool false) :: E10)
        refine oR 6 (p' := g87p13) (eE := E12) (H' := (mkH [])) (by kernel_rfl) ?_
        refine oK [0, 1, 5, 6, 22] (eE := [(0, .str a0), (1, .int .i64 a1), (5, .int .i64 y2_0), (6, .int .i64 y2_1), (22, .bool (!decide (y2_0 = y2_1)))]) (by kernel_rfl) ?_
        exact hj4 (y2_0, y2_1, !decide (y2_0 = y2_1))
  ·refine oR 8 (p' := .fin) (eE := ((4, .int .i64 y2_0) :: (37, .int .i64 y2_0) :: (10, .bool false) :: E2)) (H' := (mkH [])) (by kernel_rfl) ?_
   exact oT (r := y2_0) (xs := [.int .i64 y2_0]) (v := .int .i64 y2_0) (by kernel_rfl) (by kernel_rfl) (by kernel_rfl) (.pures (by kernel_rfl)) (by kernel_rfl)
def g87 (k : Nat) (a0 : (List Nat)) (a1 : Int) : Option Int :=
 g87_l2 k a0 a1 k 0 0
theorem g87_ok (k : Nat) (a0 : (List Nat)) (a1 : Int) (r : Int) (h : g87 k a0 a1 = some r) : PureOk Try.prog 87 [.str a0, .int .i64 a1] (.int .i64 r) := by
 refine pure_of X87 (fun _ => rfl) Try.func87 (by decide +kernel) (by kernel_rfl) (t := g87 k a0 a1) ?_ h
 unfold g87
 refine oE (eE := [(0, .str a0), (1, .int .i64 a1)]) (by kernel_rfl) ?_
 let E1 : Env := [(6, .int .i64 0), (5, .int .i64 0), (4, .int .i64 0), (0, .str a0), (1, .int .i64 a1)]
 refine oR 15 (p' := g87p3) (eE := E1) (H' := (mkH [])) (by kernel_rfl) ?_
 refine oK [0, 1, 5, 6] (eE := [(0, .str a0), (1, .int .i64 a1), (5, .int .i64 0), (6, .int .i64 0)]) (by kernel_rfl) ?_
 exact (g87_l2_ok k a0 a1 k) 0 0
end
end Go.Proofs.Ytabhkocokojddaa.Am
set_option maxRecDepth 100000
set_option linter.unusedVariables false
namespace Go.Proofs.Ytabhkocokojddaa.Am
noncomputable section
open Go
def X88 : Fx Int := ⟨Try.prog, cx, Try.f88, fun r => .int .i64 r, 0, fun _ => H0, cxTi, cxOrd⟩
def g88p0 : Pt := nav [0] (bodyAt Try.f88)
def g88p1 : Pt := nav [0, 0, 0] g88p0
def g88p2 : Pt := nav [0, 0, 0, 0, 0] g88p1
def g88p3 : Pt := nav [0, 0, 0] g88p2
def g88p4 : Pt := nav [0, 0] g88p3
def g88_l1 (k : Nat)  (a0 : (List Nat)) (n : Nat) : Int → Option Int :=
 Nat.rec (motive := fun _ => Int → Option Int) (fun _ => none) (fun _ ih => fun (y1_0 : Int) => jn (fun (z2 : Bool × Int) => if z2.1 then (ih (fW .i64 (z2.2 + 1))) else (some z2.2)) (fun j2 => if (decide (y1_0 < (a0.length : Int))) then ((nthS a0 y1_0).bind fun x0_7 => (g75 k x0_7).bind fun x0_8 => j2 (decide (x0_8 < 10), y1_0)) else (j2 (false, y1_0)))) n
theorem g88_l1_s (k : Nat)  (a0 : (List Nat)) (n : Nat) (y1_0 : Int) : g88_l1 k a0 (n + 1) y1_0 = (jn (fun (z2 : Bool × Int) => if z2.1 then ((g88_l1 k a0 n) (fW .i64 (z2.2 + 1))) else (some z2.2)) (fun j2 => if (decide (y1_0 < (a0.length : Int))) then ((nthS a0 y1_0).bind fun x0_7 => (g75 k x0_7).bind fun x0_8 => j2 (decide (x0_8 < 10), y1_0)) else (j2 (false, y1_0)))) := rfl
theorem g88_l1_ok (k : Nat)  (a0 : (List Nat))  : ∀ (n : Nat) (y1_0 : Int), Ok X88 g88p2 [(0, .str a0), (3, .int .i64 y1_0)] (mkH []) (g88_l1 k a0 n y1_0)
 | 0, _ => ok_none
 | n + 1, y1_0 => by
  have ih := g88_l1_ok k a0 n
  rw [g88_l1_s]
  refine ok_ent (p' := nav [0] g88p2) (by kernel_rfl) ?_
  let E1 : Env := [(8, .bool (decide (y1_0 < (a0.length : Int)))), (7, .bool (decide (y1_0 < (a0.length : Int)))), (6, .int .i64 (a0.length : Int)), (5, .str a0), (4, .int .i64 y1_0), (0, .str a0), (3, .int .i64 y1_0)]
  refine oR 8 (p' := (atN 5 (ctl1 g88p3))) (eE := E1) (H' := (mkH [])) (by kernel_rfl) ?_
  refine oJ (f := fun (z2 : Bool × Int) => if z2.1 then ((g88_l1 k a0 n) (fW .i64 (z2.2 + 1))) else (some z2.2)) g88p4 (fun (z2 : Bool × Int) => [(0, .str a0), (3, .int .i64 z2.2), (14, .bool z2.1)]) (fun (z2 : Bool × Int) => (mkH [])) (fun z2 => ?_) (fun j2 hj2 => ?_)
  ·refine oS 14 (b := z2.1) (by kernel_rfl) (fun hb => ?_) (fun hb => ?_)
   ·let E2 : Env := [(3, .int .i64 (fW .i64 (z2.2 + 1))), (16, .int .i64 (fW .i64 (z2.2 + 1))), (15, .int .i64 z2.2), (14, .bool true), (0, .str a0), (3, .int .i64 z2.2), (14, .bool z2.1)]
    refine oR 8 (p' := g88p2) (eE := E2) (H' := (mkH [])) (by kernel_rfl) ?_
    refine oK [0, 3] (eE := [(0, .str a0), (3, .int .i64 (fW .i64 (z2.2 + 1)))]) (by kernel_rfl) ?_
    exact ih (fW .i64 (z2.2 + 1))
   ·let E3 : Env := [(2, .int .i64 z2.2), (17, .int .i64 z2.2), (14, .bool false), (0, .str a0), (3, .int .i64 z2.2), (14, .bool z2.1)]
    refine oR 8 (p' := .fin) (eE := E3) (H' := (mkH [])) (by kernel_rfl) ?_
    exact oT (r := z2.2) (xs := [.int .i64 z2.2]) (v := .int .i64 z2.2) (by kernel_rfl) (by kernel_rfl) (by kernel_rfl) (.pures (by kernel_rfl)) (by kernel_rfl)
  ·refine oS 8 (b := decide (y1_0 < (a0.length : Int))) (by kernel_rfl) (fun hb => ?_) (fun hb => ?_)
   ·refine oR 2 (p' := (atN 7 (ctl1 g88p3))) (eE := ((10, .int .i64 y1_0) :: (9, .str a0) :: (8, .bool true) :: E1)) (H' := (mkH [])) (by kernel_rfl) ?_
    refine oH (fun (x0_7 : Int) => (.int .u8 x0_7, (mkH []))) (atN 8 (ctl1 g88p3)) (fun x0_7 => ((11, .int .u8 x0_7) :: (10, .int .i64 y1_0) :: (9, .str a0) :: (8, .bool true) :: E1)) (idxH (by kernel_rfl)) (fun _ => by kernel_rfl) (fun x0_7 hx0_7 => ?_)
    refine oC (fun (x0_8 : Int) => .int .i64 x0_8) (atN 9 (ctl1 g88p3)) (fun x0_8 => ((12, .int .i64 x0_8) :: (11, .int .u8 x0_7) :: (10, .int .i64 y1_0) :: (9, .str a0) :: (8, .bool true) :: E1)) (fi := 75) (args := [.int .u8 x0_7]) (by kernel_rfl) (by kernel_rfl) (fun _ => by kernel_rfl) (fun r h => g75_ok k x0_7 r h) (fun _ => by kernel_rfl) (fun x0_8 hx0_8 => ?_)
    let E4 : Env := ((14, .bool (decide (x0_8 < 10))) :: (13, .bool (decide (x0_8 < 10))) :: (12, .int .i64 x0_8) :: (11, .int .u8 x0_7) :: (10, .int .i64 y1_0) :: (9, .str a0) :: (8, .bool true) :: E1)
    refine oR 3 (p' := g88p4) (eE := E4) (H' := (mkH [])) (by kernel_rfl) ?_
    refine oK [0, 3, 14] (eE := [(0, .str a0), (3, .int .i64 y1_0), (14, .bool (decide (x0_8 < 10)))]) (by kernel_rfl) ?_
    exact hj2 (decide (x0_8 < 10), y1_0)
   ·let E5 : Env := ((14, .bool false) :: (13, .tuple []) :: (12, .tuple []) :: (11, .tuple []) :: (10, .tuple []) :: (9, .tuple []) :: (8, .bool false) :: E1)
    refine oR 7 (p' := g88p4) (eE := E5) (H' := (mkH [])) (by kernel_rfl) ?_
    refine oK [0, 3, 14] (eE := [(0, .str a0), (3, .int .i64 y1_0), (14, .bool false)]) (by kernel_rfl) ?_
    exact hj2 (false, y1_0)
def g88 (k : Nat) (a0 : (List Nat)) : Option Int :=
 g88_l1 k a0 k 0
theorem g88_ok (k : Nat) (a0 : (List Nat)) (r : Int) (h : g88 k a0 = some r) : PureOk Try.prog 88 [.str a0] (.int .i64 r) := by
 refine pure_of X88 (fun _ => rfl) Try.func88 (by decide +kernel) (by kernel_rfl) (t := g88 k a0) ?_ h
 unfold g88
 refine oE (eE := [(0, .str a0)]) (by kernel_rfl) ?_
 refine oR 11 (p' := g88p2) (eE := [(3, .int .i64 0), (2, .int .i64 0), (0, .str a0)]) (H' := (mkH [])) (by kernel_rfl) ?_
 refine oK [0, 3] (eE := [(0, .str a0), (3, .int .i64 0)]) (by kernel_rfl) ?_
 exact (g88_l1_ok k a0 k) 0
end
end Go.Proofs.Ytabhkocokojddaa.Am
set_option maxRecDepth 100000
set_option linter.unusedVariables false
set_option linter.unusedSimpArgs false
namespace Go.Proofs.Ytabhkocokojddaa.Am
open Go
def dgN (c : Nat) : Nat := if 48 ≤ c ∧ c ≤ 57 then c - 48 else if 97 ≤ c ∧ c ≤ 122 then c - 87 else if 65 ≤ c ∧ c ≤ 90 then c - 55 else 99
def isD (b : Nat) (s : List Nat) : Bool := match s with | d :: _ => decide (dgN d < b) | [] => false
theorem isD_nil (b : Nat) : isD b [] = false := rfl
theorem isD_cons (b d : Nat) (r : List Nat) : isD b (d :: r) = decide (dgN d < b) := rfl
def runN (b : Nat) : Bool → List Nat → Nat
 | _, [] => 0
 | p, c :: r => if dgN c < b then runN b true r + 1 else if p && decide (c = 95) && isD b r then runN b false r + 1 else 0
theorem runN_cons (b : Nat) (p : Bool) (c : Nat) (r : List Nat) : runN b p (c :: r) = if dgN c < b then runN b true r + 1 else if p && decide (c = 95) && isD b r then runN b false r + 1 else 0 := rfl
def barN (b : Nat) : List Nat → Nat
 | [] => 0
 | c :: r => if dgN c < b then barN b r + 1 else 0
theorem dg_le (c : Nat) : dgN c ≤ 99 := by
 unfold dgN; repeat' split
 all_goals omega
theorem runN_le (b : Nat) : ∀ (p : Bool) (s : List Nat), runN b p s ≤ s.length
 | _, [] => Nat.le_refl _
 | p, c :: r => by
  have h1 := runN_le b true r
  have h2 := runN_le b false r
  simp only [runN, List.length_cons]
  repeat' split
  all_goals omega
theorem digit_at (k : Nat) {c : Nat} (h : c < 256) : g75 k (c : Int) = some ((dgN c : Nat) : Int) := by
 have w := byteAll (f := fun c => decide (g75 0 (c : Int) = some ((dgN c : Nat) : Int))) (by decide +kernel) h
 exact of_decide_eq_true w
theorem bare_l (k : Nat) {s : List Nat} (hs : By s) (hl : Sz s) : ∀ (f i : Nat), s.length < i + f → i ≤ s.length → g88_l1 k s f (i : Int) = some ((i + barN 10 (s.drop i) : Nat) : Int)
 | 0, i, h, h2 => by omega
 | f + 1, i, h, h2 => by
  unfold Sz at hl
  rw [g88_l1_s]
  rcases Nat.lt_or_ge i s.length with hi | hi
  ·obtain ⟨c, r, hc, hr, hm, hrl⟩ := dcons hi
   have ih := bare_l k hs hl f (i + 1) (by omega) (by omega)
   rw [hr] at ih
   simp (disch := omega) only [↓reduceIte, ↓jn, gsL, nthX rfl hc, digit_at k (hs c hm), hc, barN]
   by_cases hd : dgN c < 10
   ·have e : ((i : Int) + 1) = ((i + 1 : Nat) : Int) := by push_cast; rfl
    simp (disch := omega) only [↓reduceIte, ↓jn, gsL, hd, e, ih, Nat.add_assoc, Nat.add_comm 1]
   ·simp (disch := omega) only [↓reduceIte, ↓jn, gsL, hd, Nat.add_zero]
  ·simp (disch := omega) only [↓reduceIte, ↓jn, gsL, dnil hi, barN, Nat.add_zero]
theorem bare_at {k : Nat} {s : List Nat} (hk : s.length < k) (hs : By s) (hl : Sz s) : g88 k s = some ((barN 10 s : Nat) : Int) := by
 have := bare_l k hs hl k 0 (by omega) (by omega)
 rw [Nat.zero_add] at this
 exact this
theorem run_l (k : Nat) {s : List Nat} (hs : By s) (hl : Sz s) {b : Nat} (hb : b ≤ 99) : ∀ (f i : Nat), s.length < i + f → i ≤ s.length →
 g87_l2 k s (b : Int) f (i : Int) (i : Int) = some ((i + runN b (decide (0 < i)) (s.drop i) : Nat) : Int) ∧
 (∀ j, j + 1 = i → 0 < j → g87_l2 k s (b : Int) f (j : Int) (i : Int) = some ((if isD b (s.drop i) then i + runN b false (s.drop i) else j : Nat) : Int))
 | 0, i, h, h2 => by omega
 | f + 1, i, h, h2 => by
  unfold Sz at hl
  rw [g87_l2_s]
  rcases Nat.lt_or_ge i s.length with hi | hi
  ·obtain ⟨c, r, hc, hr, hm, hrl⟩ := dcons hi
   obtain ⟨ih1, ih2⟩ := run_l k hs hl hb f (i + 1) (by omega) (by omega)
   rw [hr, decide_eq_true (Nat.succ_pos i)] at ih1
   rw [hr] at ih2
   have e : ((i : Int) + 1) = ((i + 1 : Nat) : Int) := by push_cast; rfl
   by_cases hd : dgN c < b
   ·refine ⟨?_, fun j hj hj0 => ?_⟩
    ·simp (disch := omega) only [↓reduceIte, ↓jn, gsL, nthX rfl hc, digit_at k (hs c hm), hc, runN, isD_cons, isD_nil, hd, e, ih1, Nat.add_assoc, Nat.add_comm 1]
    ·rw [g87_l2_s]
     simp (disch := omega) only [↓reduceIte, ↓jn, gsL, nthX rfl hc, digit_at k (hs c hm), hc, runN, isD_cons, isD_nil, hd, e, ih1, Nat.add_assoc, Nat.add_comm 1]
   ·by_cases h95 : c = 95
    ·subst h95
     refine ⟨?_, fun j hj hj0 => ?_⟩
     ·by_cases h0 : i = 0
      ·subst h0
       simp (disch := omega) only [↓reduceIte, ↓jn, gsL, nthX rfl hc, digit_at k (hs _ hm), hc, runN, isD_cons, isD_nil, hd, e, Nat.add_zero, Bool.false_and]
      ·have := ih2 i rfl (by omega)
       simp (disch := omega) only [↓reduceIte, ↓jn, gsL, nthX rfl hc, digit_at k (hs _ hm), hc, runN, isD_cons, isD_nil, hd, e, this]
       split
       ·congr 1; omega
       ·rfl
     ·rw [g87_l2_s]
      simp (disch := omega) only [↓reduceIte, ↓jn, gsL, nthX rfl hc, digit_at k (hs _ hm), hc, runN, isD_cons, isD_nil, hd, e]
    ·refine ⟨?_, fun j hj hj0 => ?_⟩
     ·simp (disch := omega) only [↓reduceIte, ↓jn, gsL, nthX rfl hc, digit_at k (hs c hm), hc, runN, isD_cons, isD_nil, hd, e, Bool.and_false, Bool.false_and, Nat.add_zero]
     ·rw [g87_l2_s]
      simp (disch := omega) only [↓reduceIte, ↓jn, gsL, nthX rfl hc, digit_at k (hs c hm), hc, runN, isD_cons, isD_nil, hd, e]
  ·refine ⟨?_, fun j hj hj0 => ?_⟩
   ·simp (disch := omega) only [↓reduceIte, ↓jn, gsL, dnil hi, runN, isD_nil, Nat.add_zero]
   ·rw [g87_l2_s]
    simp (disch := omega) only [↓reduceIte, ↓jn, gsL, dnil hi, runN, isD_nil, Nat.add_zero]
theorem run_at {k : Nat} {s : List Nat} (hk : s.length < k) (hs : By s) (hl : Sz s) {b : Nat} (hb : b ≤ 99) : g87 k s (b : Int) = some ((runN b false s : Nat) : Int) := by
 have := (run_l k hs hl hb k 0 (by omega) (by omega)).1
 rw [Nat.zero_add, decide_eq_false (by omega)] at this
 exact this
end Go.Proofs.Ytabhkocokojddaa.Am
set_option maxRecDepth 100000
set_option linter.unusedVariables false
namespace Go.Proofs.Ytabhkocokojddaa.Am
noncomputable section
open Go
def X74 : Fx (Int × Int) := ⟨Try.prog, cx, Try.f74, fun r => .tuple [.int .i64 r.1, .int .i64 r.2], 0, fun _ => H0, cxTi, cxOrd⟩
def g74p0 : Pt := nav [0] (bodyAt Try.f74)
def g74p1 : Pt := nav [0, 0, 0] g74p0
def g74p2 : Pt := nav [0, 0, 0, 0] g74p1
def g74p3 : Pt := nav [0, 0] g74p2
def g74p5 : Pt := nav [2, 0, 0] g74p3
def g74p7 : Pt := nav [0, 0, 0, 0] g74p5
def g74p8 : Pt := nav [0, 0, 0, 0] g74p7
def g74p9 : Pt := nav [0, 0] g74p8
def g74p10 : Pt := nav [0, 0, 0] g74p9
def g74p11 : Pt := nav [1, 0, 0, 0, 0] g74p10
def g74p12 : Pt := nav [2, 0, 0, 0] g74p10
def g74p13 : Pt := nav [0, 0, 0] g74p11
def g74p14 : Pt := nav [0, 0] g74p12
def g74p15 : Pt := nav [0, 0, 0] g74p13
def g74p18 : Pt := nav [0, 0] g74p15
def g74_l4 (k : Nat)  (a0 : (List Nat)) (x0_1 : Int) (n : Nat) : Int → Int → Option (Int × Int) :=
 Nat.rec (motive := fun _ => Int → Int → Option (Int × Int)) (fun _ _ => none) (fun _ ih => fun (y4_0 : Int) (y4_1 : Int) => if (decide (y4_1 < x0_1)) then ((nthS a0 y4_1).bind fun x2_4 => (g75 k x2_4).bind fun x2_5 => if (decide (36 < fW .i64 (fW .i64 (10 * y4_0) + x2_5))) then (some ((0 : Int), (10 : Int))) else (ih (fW .i64 (fW .i64 (10 * y4_0) + x2_5)) (fW .i64 (y4_1 + 1)))) else (if (decide (y4_0 < 2)) then (some ((0 : Int), (10 : Int))) else (some (fW .i64 (x0_1 + 1), y4_0)))) n
theorem g74_l4_s (k : Nat)  (a0 : (List Nat)) (x0_1 : Int) (n : Nat) (y4_0 : Int) (y4_1 : Int) : g74_l4 k a0 x0_1 (n + 1) y4_0 y4_1 = (if (decide (y4_1 < x0_1)) then ((nthS a0 y4_1).bind fun x2_4 => (g75 k x2_4).bind fun x2_5 => if (decide (36 < fW .i64 (fW .i64 (10 * y4_0) + x2_5))) then (some ((0 : Int), (10 : Int))) else ((g74_l4 k a0 x0_1 n) (fW .i64 (fW .i64 (10 * y4_0) + x2_5)) (fW .i64 (y4_1 + 1)))) else (if (decide (y4_0 < 2)) then (some ((0 : Int), (10 : Int))) else (some (fW .i64 (x0_1 + 1), y4_0)))) := rfl
theorem g74_l4_ok (k : Nat)  (a0 : (List Nat)) (x0_1 : Int)  : ∀ (n : Nat) (y4_0 : Int) (y4_1 : Int), Ok X74 g74p8 [(0, .str a0), (4, .int .i64 x0_1), (5, .int .i64 y4_0), (27, .int .i64 x0_1), (28, .int .i64 y4_1)] (mkH []) (g74_l4 k a0 x0_1 n y4_0 y4_1)
 | 0, _, _ => ok_none
 | n + 1, y4_0, y4_1 => by
  have ih := g74_l4_ok k a0 x0_1 n
  rw [g74_l4_s]
  refine ok_ent (p' := nav [0] g74p8) (by kernel_rfl) ?_
  let E4 : Env := [(29, .bool (decide (y4_1 < x0_1))), (0, .str a0), (4, .int .i64 x0_1), (5, .int .i64 y4_0), (27, .int .i64 x0_1), (28, .int .i64 y4_1)]
  refine oR 5 (p' := g74p10) (eE := E4) (H' := (mkH [])) (by kernel_rfl) ?_
  refine oS 29 (b := decide (y4_1 < x0_1)) (by kernel_rfl) (fun hb => ?_) (fun hb => ?_)
  ·let E5 : Env := ((34, .int .i64 y4_1) :: (33, .str a0) :: (32, .int .i64 (fW .i64 (10 * y4_0))) :: (31, .int .i64 y4_0) :: (6, .int .i64 y4_1) :: (30, .int .i64 y4_1) :: (29, .bool true) :: E4)
   refine oR 15 (p' := (atN 4 (ctl1 g74p13))) (eE := E5) (H' := (mkH [])) (by kernel_rfl) ?_
   refine oH (fun (x2_4 : Int) => (.int .u8 x2_4, (mkH []))) (atN 5 (ctl1 g74p13)) (fun x2_4 => ((35, .int .u8 x2_4) :: E5)) (idxH (by kernel_rfl)) (fun _ => by kernel_rfl) (fun x2_4 hx2_4 => ?_)
   refine oC (fun (x2_5 : Int) => .int .i64 x2_5) (atN 6 (ctl1 g74p13)) (fun x2_5 => ((36, .int .i64 x2_5) :: (35, .int .u8 x2_4) :: E5)) (fi := 75) (args := [.int .u8 x2_4]) (by kernel_rfl) (by kernel_rfl) (fun _ => by kernel_rfl) (fun r h => g75_ok k x2_4 r h) (fun _ => by kernel_rfl) (fun x2_5 hx2_5 => ?_)
   refine oR 4 (p' := g74p15) (eE := ((5, .int .i64 (fW .i64 (fW .i64 (10 * y4_0) + x2_5))) :: (37, .int .i64 (fW .i64 (fW .i64 (10 * y4_0) + x2_5))) :: (36, .int .i64 x2_5) :: (35, .int .u8 x2_4) :: E5)) (H' := (mkH [])) (by kernel_rfl) ?_
   refine oK [0, 4, 5, 27, 28] (eE := [(0, .str a0), (4, .int .i64 x0_1), (5, .int .i64 (fW .i64 (fW .i64 (10 * y4_0) + x2_5))), (27, .int .i64 x0_1), (28, .int .i64 y4_1)]) (by kernel_rfl) ?_
   let E6 : Env := [(39, .bool (decide (36 < fW .i64 (fW .i64 (10 * y4_0) + x2_5)))), (38, .int .i64 (fW .i64 (fW .i64 (10 * y4_0) + x2_5))), (0, .str a0), (4, .int .i64 x0_1), (5, .int .i64 (fW .i64 (fW .i64 (10 * y4_0) + x2_5))), (27, .int .i64 x0_1), (28, .int .i64 y4_1)]
   refine oR 4 (p' := g74p18) (eE := E6) (H' := (mkH [])) (by kernel_rfl) ?_
   refine oS 39 (b := decide (36 < fW .i64 (fW .i64 (10 * y4_0) + x2_5))) (by kernel_rfl) (fun hb => ?_) (fun hb => ?_)
   ·refine oR 7 (p' := .fin) (eE := ((3, .int .i64 10) :: (2, .int .i64 0) :: (39, .bool true) :: E6)) (H' := (mkH [])) (by kernel_rfl) ?_
    exact oT (r := ((0 : Int), (10 : Int))) (xs := [.int .i64 0, .int .i64 10]) (v := .tuple [.int .i64 0, .int .i64 10]) (by kernel_rfl) (by kernel_rfl) (by kernel_rfl) (.pures (by kernel_rfl)) (by kernel_rfl)
   ·refine oR 6 (p' := g74p8) (eE := ((28, .int .i64 (fW .i64 (y4_1 + 1))) :: (40, .int .i64 (fW .i64 (y4_1 + 1))) :: (39, .bool false) :: E6)) (H' := (mkH [])) (by kernel_rfl) ?_
    refine oK [0, 4, 5, 27, 28] (eE := [(0, .str a0), (4, .int .i64 x0_1), (5, .int .i64 (fW .i64 (fW .i64 (10 * y4_0) + x2_5))), (27, .int .i64 x0_1), (28, .int .i64 (fW .i64 (y4_1 + 1)))]) (by kernel_rfl) ?_
    exact ih (fW .i64 (fW .i64 (10 * y4_0) + x2_5)) (fW .i64 (y4_1 + 1))
  ·refine oR 8 (p' := g74p14) (eE := ((42, .bool (decide (y4_0 < 2))) :: (41, .int .i64 y4_0) :: (29, .bool false) :: E4)) (H' := (mkH [])) (by kernel_rfl) ?_
   refine oS 42 (b := decide (y4_0 < 2)) (by kernel_rfl) (fun hb => ?_) (fun hb => ?_)
   ·let E7 : Env := ((3, .int .i64 10) :: (2, .int .i64 0) :: (42, .bool true) :: (42, .bool (decide (y4_0 < 2))) :: (41, .int .i64 y4_0) :: (29, .bool false) :: E4)
    refine oR 7 (p' := .fin) (eE := E7) (H' := (mkH [])) (by kernel_rfl) ?_
    exact oT (r := ((0 : Int), (10 : Int))) (xs := [.int .i64 0, .int .i64 10]) (v := .tuple [.int .i64 0, .int .i64 10]) (by kernel_rfl) (by kernel_rfl) (by kernel_rfl) (.pures (by kernel_rfl)) (by kernel_rfl)
   ·let E8 : Env := ((3, .int .i64 y4_0) :: (2, .int .i64 (fW .i64 (x0_1 + 1))) :: (45, .int .i64 y4_0) :: (44, .int .i64 (fW .i64 (x0_1 + 1))) :: (43, .int .i64 x0_1) :: (42, .bool false) :: (42, .bool (decide (y4_0 < 2))) :: (41, .int .i64 y4_0) :: (29, .bool false) :: E4)
    refine oR 11 (p' := .fin) (eE := E8) (H' := (mkH [])) (by kernel_rfl) ?_
    exact oT (r := (fW .i64 (x0_1 + 1), y4_0)) (xs := [.int .i64 (fW .i64 (x0_1 + 1)), .int .i64 y4_0]) (v := .tuple [.int .i64 (fW .i64 (x0_1 + 1)), .int .i64 y4_0]) (by kernel_rfl) (by kernel_rfl) (by kernel_rfl) (.pures (by kernel_rfl)) (by kernel_rfl)
def g74 (k : Nat) (a0 : (List Nat)) : Option (Int × Int) :=
 (g88 k a0).bind fun x0_1 => jn (fun (z3 : Bool) => if z3 then (some ((0 : Int), (10 : Int))) else (g74_l4 k a0 x0_1 k 0 0)) (fun j3 => if (decide (x0_1 < 1)) then (j3 true) else (if (decide (2 < x0_1)) then (j3 true) else (if (decide ((a0.length : Int) ≤ x0_1)) then (j3 true) else ((nthS a0 x0_1).bind fun x1_15 => j3 (!decide (x1_15 = 35))))))
theorem g74_ok (k : Nat) (a0 : (List Nat)) (r : (Int × Int)) (h : g74 k a0 = some r) : PureOk Try.prog 74 [.str a0] (.tuple [.int .i64 r.1, .int .i64 r.2]) := by
 refine pure_of X74 (fun _ => rfl) Try.func74 (by decide +kernel) (by kernel_rfl) (t := g74 k a0) ?_ h
 unfold g74
 refine oE (eE := [(0, .str a0)]) (by kernel_rfl) ?_
 refine oR 8 (p' := (atN 1 (ctl1 g74p1))) (eE := [(7, .str a0), (3, .int .i64 0), (2, .int .i64 0), (0, .str a0)]) (H' := (mkH [])) (by kernel_rfl) ?_
 refine oC (fun (x0_1 : Int) => .int .i64 x0_1) (atN 2 (ctl1 g74p1)) (fun x0_1 => [(8, .int .i64 x0_1), (7, .str a0), (3, .int .i64 0), (2, .int .i64 0), (0, .str a0)]) (fi := 88) (args := [.str a0]) (by kernel_rfl) (by kernel_rfl) (fun _ => by kernel_rfl) (fun r h => g88_ok k a0 r h) (fun _ => by kernel_rfl) (fun x0_1 hx0_1 => ?_)
 let E1 : Env := [(11, .bool (decide (x0_1 < 1))), (10, .bool (decide (x0_1 < 1))), (9, .int .i64 x0_1), (4, .int .i64 x0_1), (8, .int .i64 x0_1), (7, .str a0), (3, .int .i64 0), (2, .int .i64 0), (0, .str a0)]
 refine oR 8 (p' := (atN 3 (ctl1 g74p2))) (eE := E1) (H' := (mkH [])) (by kernel_rfl) ?_
 refine oJ (f := fun (z3 : Bool) => if z3 then (some ((0 : Int), (10 : Int))) else (g74_l4 k a0 x0_1 k 0 0)) g74p3 (fun (z3 : Bool) => [(0, .str a0), (4, .int .i64 x0_1), (26, .bool z3)]) (fun (z3 : Bool) => (mkH [])) (fun z3 => ?_) (fun j3 hj3 => ?_)
 ·refine oS 26 (b := z3) (by kernel_rfl) (fun hb => ?_) (fun hb => ?_)
  ·let E2 : Env := [(3, .int .i64 10), (2, .int .i64 0), (26, .bool true), (0, .str a0), (4, .int .i64 x0_1), (26, .bool z3)]
   refine oR 7 (p' := .fin) (eE := E2) (H' := (mkH [])) (by kernel_rfl) ?_
   exact oT (r := ((0 : Int), (10 : Int))) (xs := [.int .i64 0, .int .i64 10]) (v := .tuple [.int .i64 0, .int .i64 10]) (by kernel_rfl) (by kernel_rfl) (by kernel_rfl) (.pures (by kernel_rfl)) (by kernel_rfl)
  ·let E3 : Env := [(28, .int .i64 0), (27, .int .i64 x0_1), (5, .int .i64 0), (26, .bool false), (0, .str a0), (4, .int .i64 x0_1), (26, .bool z3)]
   refine oR 14 (p' := g74p8) (eE := E3) (H' := (mkH [])) (by kernel_rfl) ?_
   refine oK [0, 4, 5, 27, 28] (eE := [(0, .str a0), (4, .int .i64 x0_1), (5, .int .i64 0), (27, .int .i64 x0_1), (28, .int .i64 0)]) (by kernel_rfl) ?_
   exact (g74_l4_ok k a0 x0_1 k) 0 0
 ·refine oS 11 (b := decide (x0_1 < 1)) (by kernel_rfl) (fun hb => ?_) (fun hb => ?_)
  ·let E9 : Env := ((26, .bool true) :: (25, .tuple []) :: (24, .tuple []) :: (23, .tuple []) :: (22, .tuple []) :: (21, .bool true) :: (20, .bool true) :: (19, .tuple []) :: (18, .tuple []) :: (17, .tuple []) :: (16, .tuple []) :: (15, .bool true) :: (14, .bool true) :: (13, .tuple []) :: (12, .tuple []) :: (11, .bool true) :: E1)
   refine oR 16 (p' := g74p3) (eE := E9) (H' := (mkH [])) (by kernel_rfl) ?_
   refine oK [0, 4, 26] (eE := [(0, .str a0), (4, .int .i64 x0_1), (26, .bool true)]) (by kernel_rfl) ?_
   exact hj3 true
  ·let E10 : Env := ((15, .bool (decide (2 < x0_1))) :: (14, .bool (decide (2 < x0_1))) :: (13, .bool (decide (2 < x0_1))) :: (12, .int .i64 x0_1) :: (11, .bool false) :: E1)
   refine oR 4 (p' := (atN 7 (ctl1 g74p2))) (eE := E10) (H' := (mkH [])) (by kernel_rfl) ?_
   refine oS 15 (b := decide (2 < x0_1)) (by kernel_rfl) (fun hb => ?_) (fun hb => ?_)
   ·let E11 : Env := ((26, .bool true) :: (25, .tuple []) :: (24, .tuple []) :: (23, .tuple []) :: (22, .tuple []) :: (21, .bool true) :: (20, .bool true) :: (19, .tuple []) :: (18, .tuple []) :: (17, .tuple []) :: (16, .tuple []) :: (15, .bool true) :: E10)
    refine oR 12 (p' := g74p3) (eE := E11) (H' := (mkH [])) (by kernel_rfl) ?_
    refine oK [0, 4, 26] (eE := [(0, .str a0), (4, .int .i64 x0_1), (26, .bool true)]) (by kernel_rfl) ?_
    exact hj3 true
   ·let E12 : Env := ((21, .bool (decide ((a0.length : Int) ≤ x0_1))) :: (20, .bool (decide ((a0.length : Int) ≤ x0_1))) :: (19, .bool (decide ((a0.length : Int) ≤ x0_1))) :: (18, .int .i64 (a0.length : Int)) :: (17, .str a0) :: (16, .int .i64 x0_1) :: (15, .bool false) :: E10)
    refine oR 6 (p' := (atN 13 (ctl1 g74p2))) (eE := E12) (H' := (mkH [])) (by kernel_rfl) ?_
    refine oS 21 (b := decide ((a0.length : Int) ≤ x0_1)) (by kernel_rfl) (fun hb => ?_) (fun hb => ?_)
    ·let E13 : Env := ((26, .bool true) :: (25, .tuple []) :: (24, .tuple []) :: (23, .tuple []) :: (22, .tuple []) :: (21, .bool true) :: E12)
     refine oR 6 (p' := g74p3) (eE := E13) (H' := (mkH [])) (by kernel_rfl) ?_
     refine oK [0, 4, 26] (eE := [(0, .str a0), (4, .int .i64 x0_1), (26, .bool true)]) (by kernel_rfl) ?_
     exact hj3 true
    ·refine oR 2 (p' := (atN 15 (ctl1 g74p2))) (eE := ((23, .int .i64 x0_1) :: (22, .str a0) :: (21, .bool false) :: E12)) (H' := (mkH [])) (by kernel_rfl) ?_
     refine oH (fun (x1_15 : Int) => (.int .u8 x1_15, (mkH []))) (atN 16 (ctl1 g74p2)) (fun x1_15 => ((24, .int .u8 x1_15) :: (23, .int .i64 x0_1) :: (22, .str a0) :: (21, .bool false) :: E12)) (idxH (by kernel_rfl)) (fun _ => by kernel_rfl) (fun x1_15 hx1_15 => ?_)
     let E14 : Env := ((26, .bool (!decide (x1_15 = 35))) :: (25, .bool (!decide (x1_15 = 35))) :: (24, .int .u8 x1_15) :: (23, .int .i64 x0_1) :: (22, .str a0) :: (21, .bool false) :: E12)
     refine oR 3 (p' := g74p3) (eE := E14) (H' := (mkH [])) (by kernel_rfl) ?_
     refine oK [0, 4, 26] (eE := [(0, .str a0), (4, .int .i64 x0_1), (26, .bool (!decide (x1_15 = 35)))]) (by kernel_rfl) ?_
     exact hj3 (!decide (x1_15 = 35))
end
end Go.Proofs.Ytabhkocokojddaa.Am
set_option maxRecDepth 100000
set_option linter.unusedVariables false
namespace Go.Proofs.Ytabhkocokojddaa.Am
noncomputable section
open Go
def X73 : Fx Int := ⟨Try.prog, cx, Try.f73, fun r => .int .i64 r, 0, fun _ => H0, cxTi, cxOrd⟩
def g73p0 : Pt := nav [0] (bodyAt Try.f73)
def g73p1 : Pt := nav [0, 0, 0] g73p0
def g73p2 : Pt := nav [0, 0, 0, 0] g73p1
def g73p3 : Pt := nav [0, 0, 0] g73p2
def g73p4 : Pt := nav [0, 0] g73p3
def g73p6 : Pt := nav [2, 0, 0] g73p4
def g73 (k : Nat) (a0 : (List Nat)) : Option Int :=
 (g74 k a0).bind fun x0_1 => (subL a0 (some x0_1.1) none).bind fun x1_2 => (g87 k x1_2 x0_1.2).bind fun x1_4 => jn (fun (z3 : Bool) => if z3 then (some (fW .i64 (x0_1.1 + x1_4))) else ((g87 k a0 (10 : Int)).bind fun x2_1 => some x2_1)) (fun j3 => if (decide (0 < x0_1.1)) then (j3 (decide (0 < x1_4))) else (j3 false))
theorem g73_ok (k : Nat) (a0 : (List Nat)) (r : Int) (h : g73 k a0 = some r) : PureOk Try.prog 73 [.str a0] (.int .i64 r) := by
 refine pure_of X73 (fun _ => rfl) Try.func73 (by decide +kernel) (by kernel_rfl) (t := g73 k a0) ?_ h
 unfold g73
 refine oE (eE := [(0, .str a0)]) (by kernel_rfl) ?_
 refine oR 7 (p' := (atN 1 (ctl1 g73p1))) (eE := [(7, .str a0), (2, .int .i64 0), (0, .str a0)]) (H' := (mkH [])) (by kernel_rfl) ?_
 refine oC (fun (x0_1 : (Int × Int)) => .tuple [.int .i64 x0_1.1, .int .i64 x0_1.2]) (atN 2 (ctl1 g73p1)) (fun x0_1 => [(8, .tuple [.int .i64 x0_1.1, .int .i64 x0_1.2]), (7, .str a0), (2, .int .i64 0), (0, .str a0)]) (fi := 74) (args := [.str a0]) (by kernel_rfl) (by kernel_rfl) (fun _ => by kernel_rfl) (fun r h => g74_ok k a0 r h) (fun _ => by kernel_rfl) (fun x0_1 hx0_1 => ?_)
 let E1 : Env := [(12, .int .i64 x0_1.1), (11, .str a0), (4, .int .i64 x0_1.2), (3, .int .i64 x0_1.1), (10, .int .i64 x0_1.2), (9, .int .i64 x0_1.1), (6, .tuple [.int .i64 x0_1.1, .int .i64 x0_1.2]), (8, .tuple [.int .i64 x0_1.1, .int .i64 x0_1.2]), (7, .str a0), (2, .int .i64 0), (0, .str a0)]
 refine oR 11 (p' := (atN 2 (ctl1 g73p2))) (eE := E1) (H' := (mkH [])) (by kernel_rfl) ?_
 refine oH (fun (x1_2 : (List Nat)) => (.str x1_2, (mkH []))) (atN 3 (ctl1 g73p2)) (fun x1_2 => ((13, .str x1_2) :: E1)) (subH (some x0_1.1) none (by kernel_rfl)) (fun _ => by kernel_rfl) (fun x1_2 hx1_2 => ?_)
 refine oR 1 (p' := (atN 4 (ctl1 g73p2))) (eE := ((14, .int .i64 x0_1.2) :: (13, .str x1_2) :: E1)) (H' := (mkH [])) (by kernel_rfl) ?_
 refine oC (fun (x1_4 : Int) => .int .i64 x1_4) (atN 5 (ctl1 g73p2)) (fun x1_4 => ((15, .int .i64 x1_4) :: (14, .int .i64 x0_1.2) :: (13, .str x1_2) :: E1)) (fi := 87) (args := [.str x1_2, .int .i64 x0_1.2]) (by kernel_rfl) (by kernel_rfl) (fun _ => by kernel_rfl) (fun r h => g87_ok k x1_2 x0_1.2 r h) (fun _ => by kernel_rfl) (fun x1_4 hx1_4 => ?_)
 refine oR 3 (p' := g73p3) (eE := ((5, .int .i64 x1_4) :: (15, .int .i64 x1_4) :: (14, .int .i64 x0_1.2) :: (13, .str x1_2) :: E1)) (H' := (mkH [])) (by kernel_rfl) ?_
 refine oK [0, 3, 5] (eE := [(0, .str a0), (3, .int .i64 x0_1.1), (5, .int .i64 x1_4)]) (by kernel_rfl) ?_
 let E2 : Env := [(18, .bool (decide (0 < x0_1.1))), (17, .bool (decide (0 < x0_1.1))), (16, .int .i64 x0_1.1), (0, .str a0), (3, .int .i64 x0_1.1), (5, .int .i64 x1_4)]
 refine oR 4 (p' := (atN 3 (ctl1 g73p3))) (eE := E2) (H' := (mkH [])) (by kernel_rfl) ?_
 refine oJ (f := fun (z3 : Bool) => if z3 then (some (fW .i64 (x0_1.1 + x1_4))) else ((g87 k a0 (10 : Int)).bind fun x2_1 => some x2_1)) g73p4 (fun (z3 : Bool) => [(0, .str a0), (3, .int .i64 x0_1.1), (5, .int .i64 x1_4), (21, .bool z3)]) (fun (z3 : Bool) => (mkH [])) (fun z3 => ?_) (fun j3 hj3 => ?_)
 ·refine oS 21 (b := z3) (by kernel_rfl) (fun hb => ?_) (fun hb => ?_)
  ·let E3 : Env := [(2, .int .i64 (fW .i64 (x0_1.1 + x1_4))), (24, .int .i64 (fW .i64 (x0_1.1 + x1_4))), (23, .int .i64 x1_4), (22, .int .i64 x0_1.1), (21, .bool true), (0, .str a0), (3, .int .i64 x0_1.1), (5, .int .i64 x1_4), (21, .bool z3)]
   refine oR 9 (p' := .fin) (eE := E3) (H' := (mkH [])) (by kernel_rfl) ?_
   exact oT (r := (fW .i64 (x0_1.1 + x1_4))) (xs := [.int .i64 (fW .i64 (x0_1.1 + x1_4))]) (v := .int .i64 (fW .i64 (x0_1.1 + x1_4))) (by kernel_rfl) (by kernel_rfl) (by kernel_rfl) (.pures (by kernel_rfl)) (by kernel_rfl)
  ·let E4 : Env := [(25, .str a0), (21, .bool false), (0, .str a0), (3, .int .i64 x0_1.1), (5, .int .i64 x1_4), (21, .bool z3)]
   refine oR 5 (p' := (atN 1 (ctl1 g73p6))) (eE := E4) (H' := (mkH [])) (by kernel_rfl) ?_
   refine oC (fun (x2_1 : Int) => .int .i64 x2_1) (atN 2 (ctl1 g73p6)) (fun x2_1 => ((26, .int .i64 x2_1) :: E4)) (fi := 87) (args := [.str a0, .int .i64 10]) (by kernel_rfl) (by kernel_rfl) (fun _ => by kernel_rfl) (fun r h => g87_ok k a0 (10 : Int) r h) (fun _ => by kernel_rfl) (fun x2_1 hx2_1 => ?_)
   refine oR 3 (p' := .fin) (eE := ((2, .int .i64 x2_1) :: (26, .int .i64 x2_1) :: E4)) (H' := (mkH [])) (by kernel_rfl) ?_
   exact oT (r := x2_1) (xs := [.int .i64 x2_1]) (v := .int .i64 x2_1) (by kernel_rfl) (by kernel_rfl) (by kernel_rfl) (.pures (by kernel_rfl)) (by kernel_rfl)
 ·refine oS 18 (b := decide (0 < x0_1.1)) (by kernel_rfl) (fun hb => ?_) (fun hb => ?_)
  ·refine oR 4 (p' := g73p4) (eE := ((21, .bool (decide (0 < x1_4))) :: (20, .bool (decide (0 < x1_4))) :: (19, .int .i64 x1_4) :: (18, .bool true) :: E2)) (H' := (mkH [])) (by kernel_rfl) ?_
   refine oK [0, 3, 5, 21] (eE := [(0, .str a0), (3, .int .i64 x0_1.1), (5, .int .i64 x1_4), (21, .bool (decide (0 < x1_4)))]) (by kernel_rfl) ?_
   exact hj3 (decide (0 < x1_4))
  ·refine oR 4 (p' := g73p4) (eE := ((21, .bool false) :: (20, .tuple []) :: (19, .tuple []) :: (18, .bool false) :: E2)) (H' := (mkH [])) (by kernel_rfl) ?_
   refine oK [0, 3, 5, 21] (eE := [(0, .str a0), (3, .int .i64 x0_1.1), (5, .int .i64 x1_4), (21, .bool false)]) (by kernel_rfl) ?_
   exact hj3 false
end
end Go.Proofs.Ytabhkocokojddaa.Am
set_option maxRecDepth 100000
set_option linter.unusedVariables false
namespace Go.Proofs.Ytabhkocokojddaa.Am
noncomputable section
open Go
def X83 : Fx Int := ⟨Try.prog, cx, Try.f83, fun r => .int .i64 r, 0, fun _ => H0, cxTi, cxOrd⟩
def g83p0 : Pt := nav [0] (bodyAt Try.f83)
def g83p1 : Pt := nav [0, 0, 0] g83p0
def g83p2 : Pt := nav [0, 0, 0, 0] g83p1
def g83p3 : Pt := nav [0, 0] g83p2
def g83p5 : Pt := nav [2, 0, 0] g83p3
def g83p7 : Pt := nav [0, 0, 0, 0] g83p5
def g83p8 : Pt := nav [0, 0] g83p7
def g83p10 : Pt := nav [2, 0, 0] g83p8
def g83p11 : Pt := nav [0, 0, 0, 0] g83p10
def g83p12 : Pt := nav [0, 0] g83p11
def g83p13 : Pt := nav [1, 0] g83p12
def g83p14 : Pt := nav [2, 0, 0] g83p12
def g83p15 : Pt := nav [0, 0, 0, 0] g83p13
def g83p16 : Pt := nav [0, 0] g83p15
def g83p18 : Pt := nav [2, 0, 0] g83p16
def g83p19 : Pt := nav [0, 0, 0] g83p18
def g83p20 : Pt := nav [0, 0] g83p19
def g83 (k : Nat) (a0 : (List Nat)) : Option Int :=
 (g87 k a0 (10 : Int)).bind fun x0_1 => jn (fun (z6 : Bool) => if z6 then (some (0 : Int)) else ((subL a0 (some (fW .i64 (x0_1 + 1))) none).bind fun x2_3 => (g87 k x2_3 (10 : Int)).bind fun x2_4 => if (decide (x2_4 = 0)) then (some (0 : Int)) else (jn (fun (z7 : Bool) => jn (fun (z10 : Unit) => some (fW .i64 (fW .i64 (x0_1 + 1) + x2_4))) (fun j10 => if z7 then (jn (fun (z8 : Bool) => jn (fun (z9 : Int) => (subL a0 (some z9) none).bind fun x5_2 => (g87 k x5_2 (10 : Int)).bind fun x5_3 => if (decide (0 < x5_3)) then (some (fW .i64 (z9 + x5_3))) else (j10 ())) (fun j9 => if z8 then (j9 (fW .i64 (fW .i64 (fW .i64 (fW .i64 (x0_1 + 1) + x2_4) + 1) + 1))) else (j9 (fW .i64 (fW .i64 (fW .i64 (x0_1 + 1) + x2_4) + 1))))) (fun j8 => if (decide (fW .i64 (fW .i64 (fW .i64 (x0_1 + 1) + x2_4) + 1) < (a0.length : Int))) then ((nthS a0 (fW .i64 (fW .i64 (fW .i64 (x0_1 + 1) + x2_4) + 1))).bind fun x4_7 => if (decide (x4_7 = 43)) then (j8 true) else ((nthS a0 (fW .i64 (fW .i64 (fW .i64 (x0_1 + 1) + x2_4) + 1))).bind fun x4_12 => j8 (decide (x4_12 = 45)))) else (j8 false))) else (j10 ()))) (fun j7 => if (decide (fW .i64 (fW .i64 (x0_1 + 1) + x2_4) < (a0.length : Int))) then ((nthS a0 (fW .i64 (fW .i64 (x0_1 + 1) + x2_4))).bind fun x3_7 => j7 (decide (orI .u8 x3_7 32 = 101))) else (j7 false))))) (fun j6 => if (decide (x0_1 = 0)) then (j6 true) else (if (decide ((a0.length : Int) ≤ x0_1)) then (j6 true) else ((nthS a0 x0_1).bind fun x1_11 => j6 (!decide (x1_11 = 46)))))
theorem g83_ok (k : Nat) (a0 : (List Nat)) (r : Int) (h : g83 k a0 = some r) : PureOk Try.prog 83 [.str a0] (.int .i64 r) := by
 refine pure_of X83 (fun _ => rfl) Try.func83 (by decide +kernel) (by kernel_rfl) (t := g83 k a0) ?_ h
 unfold g83
 refine oE (eE := [(0, .str a0)]) (by kernel_rfl) ?_
 refine oR 7 (p' := (atN 1 (ctl1 g83p1))) (eE := [(7, .str a0), (2, .int .i64 0), (0, .str a0)]) (H' := (mkH [])) (by kernel_rfl) ?_
 refine oC (fun (x0_1 : Int) => .int .i64 x0_1) (atN 2 (ctl1 g83p1)) (fun x0_1 => [(8, .int .i64 x0_1), (7, .str a0), (2, .int .i64 0), (0, .str a0)]) (fi := 87) (args := [.str a0, .int .i64 10]) (by kernel_rfl) (by kernel_rfl) (fun _ => by kernel_rfl) (fun r h => g87_ok k a0 (10 : Int) r h) (fun _ => by kernel_rfl) (fun x0_1 hx0_1 => ?_)
 let E1 : Env := [(11, .bool (decide (x0_1 = 0))), (10, .bool (decide (x0_1 = 0))), (9, .int .i64 x0_1), (3, .int .i64 x0_1), (8, .int .i64 x0_1), (7, .str a0), (2, .int .i64 0), (0, .str a0)]
 refine oR 8 (p' := (atN 3 (ctl1 g83p2))) (eE := E1) (H' := (mkH [])) (by kernel_rfl) ?_
 refine oJ (f := fun (z6 : Bool) => if z6 then (some (0 : Int)) else ((subL a0 (some (fW .i64 (x0_1 + 1))) none).bind fun x2_3 => (g87 k x2_3 (10 : Int)).bind fun x2_4 => if (decide (x2_4 = 0)) then (some (0 : Int)) else (jn (fun (z7 : Bool) => jn (fun (z10 : Unit) => some (fW .i64 (fW .i64 (x0_1 + 1) + x2_4))) (fun j10 => if z7 then (jn (fun (z8 : Bool) => jn (fun (z9 : Int) => (subL a0 (some z9) none).bind fun x5_2 => (g87 k x5_2 (10 : Int)).bind fun x5_3 => if (decide (0 < x5_3)) then (some (fW .i64 (z9 + x5_3))) else (j10 ())) (fun j9 => if z8 then (j9 (fW .i64 (fW .i64 (fW .i64 (fW .i64 (x0_1 + 1) + x2_4) + 1) + 1))) else (j9 (fW .i64 (fW .i64 (fW .i64 (x0_1 + 1) + x2_4) + 1))))) (fun j8 => if (decide (fW .i64 (fW .i64 (fW .i64 (x0_1 + 1) + x2_4) + 1) < (a0.length : Int))) then ((nthS a0 (fW .i64 (fW .i64 (fW .i64 (x0_1 + 1) + x2_4) + 1))).bind fun x4_7 => if (decide (x4_7 = 43)) then (j8 true) else ((nthS a0 (fW .i64 (fW .i64 (fW .i64 (x0_1 + 1) + x2_4) + 1))).bind fun x4_12 => j8 (decide (x4_12 = 45)))) else (j8 false))) else (j10 ()))) (fun j7 => if (decide (fW .i64 (fW .i64 (x0_1 + 1) + x2_4) < (a0.length : Int))) then ((nthS a0 (fW .i64 (fW .i64 (x0_1 + 1) + x2_4))).bind fun x3_7 => j7 (decide (orI .u8 x3_7 32 = 101))) else (j7 false))))) g83p3 (fun (z6 : Bool) => [(0, .str a0), (3, .int .i64 x0_1), (22, .bool z6)]) (fun (z6 : Bool) => (mkH [])) (fun z6 => ?_) (fun j6 hj6 => ?_)
 ·refine oS 22 (b := z6) (by kernel_rfl) (fun hb => ?_) (fun hb => ?_)
  ·let E2 : Env := [(2, .int .i64 0), (22, .bool true), (0, .str a0), (3, .int .i64 x0_1), (22, .bool z6)]
   refine oR 6 (p' := .fin) (eE := E2) (H' := (mkH [])) (by kernel_rfl) ?_
   exact oT (r := (0 : Int)) (xs := [.int .i64 0]) (v := .int .i64 0) (by kernel_rfl) (by kernel_rfl) (by kernel_rfl) (.pures (by kernel_rfl)) (by kernel_rfl)
  ·let E3 : Env := [(25, .int .i64 (fW .i64 (x0_1 + 1))), (24, .int .i64 x0_1), (23, .str a0), (22, .bool false), (0, .str a0), (3, .int .i64 x0_1), (22, .bool z6)]
   refine oR 7 (p' := (atN 3 (ctl1 g83p5))) (eE := E3) (H' := (mkH [])) (by kernel_rfl) ?_
   refine oH (fun (x2_3 : (List Nat)) => (.str x2_3, (mkH []))) (atN 4 (ctl1 g83p5)) (fun x2_3 => ((26, .str x2_3) :: E3)) (subH (some (fW .i64 (x0_1 + 1))) none (by kernel_rfl)) (fun _ => by kernel_rfl) (fun x2_3 hx2_3 => ?_)
   refine oC (fun (x2_4 : Int) => .int .i64 x2_4) (atN 5 (ctl1 g83p5)) (fun x2_4 => ((27, .int .i64 x2_4) :: (26, .str x2_3) :: E3)) (fi := 87) (args := [.str x2_3, .int .i64 10]) (by kernel_rfl) (by kernel_rfl) (fun _ => by kernel_rfl) (fun r h => g87_ok k x2_3 (10 : Int) r h) (fun _ => by kernel_rfl) (fun x2_4 hx2_4 => ?_)
   refine oR 4 (p' := g83p7) (eE := ((4, .int .i64 x2_4) :: (27, .int .i64 x2_4) :: (26, .str x2_3) :: E3)) (H' := (mkH [])) (by kernel_rfl) ?_
   refine oK [0, 3, 4] (eE := [(0, .str a0), (3, .int .i64 x0_1), (4, .int .i64 x2_4)]) (by kernel_rfl) ?_
   let E4 : Env := [(29, .bool (decide (x2_4 = 0))), (28, .int .i64 x2_4), (0, .str a0), (3, .int .i64 x0_1), (4, .int .i64 x2_4)]
   refine oR 4 (p' := g83p8) (eE := E4) (H' := (mkH [])) (by kernel_rfl) ?_
   refine oS 29 (b := decide (x2_4 = 0)) (by kernel_rfl) (fun hb => ?_) (fun hb => ?_)
   ·refine oR 6 (p' := .fin) (eE := ((2, .int .i64 0) :: (29, .bool true) :: E4)) (H' := (mkH [])) (by kernel_rfl) ?_
    exact oT (r := (0 : Int)) (xs := [.int .i64 0]) (v := .int .i64 0) (by kernel_rfl) (by kernel_rfl) (by kernel_rfl) (.pures (by kernel_rfl)) (by kernel_rfl)
   ·let E5 : Env := ((3, .int .i64 (fW .i64 (fW .i64 (x0_1 + 1) + x2_4))) :: (33, .int .i64 (fW .i64 (fW .i64 (x0_1 + 1) + x2_4))) :: (32, .int .i64 x2_4) :: (31, .int .i64 (fW .i64 (x0_1 + 1))) :: (30, .int .i64 x0_1) :: (29, .bool false) :: E4)
    refine oR 12 (p' := g83p11) (eE := E5) (H' := (mkH [])) (by kernel_rfl) ?_
    refine oK [0, 3] (eE := [(0, .str a0), (3, .int .i64 (fW .i64 (fW .i64 (x0_1 + 1) + x2_4)))]) (by kernel_rfl) ?_
    let E6 : Env := [(38, .bool (decide (fW .i64 (fW .i64 (x0_1 + 1) + x2_4) < (a0.length : Int)))), (37, .bool (decide (fW .i64 (fW .i64 (x0_1 + 1) + x2_4) < (a0.length : Int)))), (36, .int .i64 (a0.length : Int)), (35, .str a0), (34, .int .i64 (fW .i64 (fW .i64 (x0_1 + 1) + x2_4))), (0, .str a0), (3, .int .i64 (fW .i64 (fW .i64 (x0_1 + 1) + x2_4)))]
    refine oR 6 (p' := (atN 5 (ctl1 g83p11))) (eE := E6) (H' := (mkH [])) (by kernel_rfl) ?_
    refine oJ (f := fun (z7 : Bool) => jn (fun (z10 : Unit) => some (fW .i64 (fW .i64 (x0_1 + 1) + x2_4))) (fun j10 => if z7 then (jn (fun (z8 : Bool) => jn (fun (z9 : Int) => (subL a0 (some z9) none).bind fun x5_2 => (g87 k x5_2 (10 : Int)).bind fun x5_3 => if (decide (0 < x5_3)) then (some (fW .i64 (z9 + x5_3))) else (j10 ())) (fun j9 => if z8 then (j9 (fW .i64 (fW .i64 (fW .i64 (fW .i64 (x0_1 + 1) + x2_4) + 1) + 1))) else (j9 (fW .i64 (fW .i64 (fW .i64 (x0_1 + 1) + x2_4) + 1))))) (fun j8 => if (decide (fW .i64 (fW .i64 (fW .i64 (x0_1 + 1) + x2_4) + 1) < (a0.length : Int))) then ((nthS a0 (fW .i64 (fW .i64 (fW .i64 (x0_1 + 1) + x2_4) + 1))).bind fun x4_7 => if (decide (x4_7 = 43)) then (j8 true) else ((nthS a0 (fW .i64 (fW .i64 (fW .i64 (x0_1 + 1) + x2_4) + 1))).bind fun x4_12 => j8 (decide (x4_12 = 45)))) else (j8 false))) else (j10 ()))) g83p12 (fun (z7 : Bool) => [(0, .str a0), (3, .int .i64 (fW .i64 (fW .i64 (x0_1 + 1) + x2_4))), (44, .bool z7)]) (fun (z7 : Bool) => (mkH [])) (fun z7 => ?_) (fun j7 hj7 => ?_)
    ·refine oJ (f := fun (z10 : Unit) => some (fW .i64 (fW .i64 (x0_1 + 1) + x2_4))) g83p14 (fun (z10 : Unit) => [(3, .int .i64 (fW .i64 (fW .i64 (x0_1 + 1) + x2_4)))]) (fun (z10 : Unit) => (mkH [])) (fun z10 => ?_) (fun j10 hj10 => ?_)
     ·refine oR 5 (p' := .fin) (eE := [(2, .int .i64 (fW .i64 (fW .i64 (x0_1 + 1) + x2_4))), (74, .int .i64 (fW .i64 (fW .i64 (x0_1 + 1) + x2_4))), (3, .int .i64 (fW .i64 (fW .i64 (x0_1 + 1) + x2_4)))]) (H' := (mkH [])) (by kernel_rfl) ?_
      exact oT (r := (fW .i64 (fW .i64 (x0_1 + 1) + x2_4))) (xs := [.int .i64 (fW .i64 (fW .i64 (x0_1 + 1) + x2_4))]) (v := .int .i64 (fW .i64 (fW .i64 (x0_1 + 1) + x2_4))) (by kernel_rfl) (by kernel_rfl) (by kernel_rfl) (.pures (by kernel_rfl)) (by kernel_rfl)
     ·refine oS 44 (b := z7) (by kernel_rfl) (fun hb => ?_) (fun hb => ?_)
      ·let E7 : Env := [(51, .bool (decide (fW .i64 (fW .i64 (fW .i64 (x0_1 + 1) + x2_4) + 1) < (a0.length : Int)))), (50, .bool (decide (fW .i64 (fW .i64 (fW .i64 (x0_1 + 1) + x2_4) + 1) < (a0.length : Int)))), (49, .int .i64 (a0.length : Int)), (48, .str a0), (47, .int .i64 (fW .i64 (fW .i64 (fW .i64 (x0_1 + 1) + x2_4) + 1))), (5, .int .i64 (fW .i64 (fW .i64 (fW .i64 (x0_1 + 1) + x2_4) + 1))), (46, .int .i64 (fW .i64 (fW .i64 (fW .i64 (x0_1 + 1) + x2_4) + 1))), (45, .int .i64 (fW .i64 (fW .i64 (x0_1 + 1) + x2_4))), (44, .bool true), (0, .str a0), (3, .int .i64 (fW .i64 (fW .i64 (x0_1 + 1) + x2_4))), (44, .bool z7)]
       refine oR 15 (p' := (atN 5 (ctl1 g83p15))) (eE := E7) (H' := (mkH [])) (by kernel_rfl) ?_
       refine oJ (f := fun (z8 : Bool) => jn (fun (z9 : Int) => (subL a0 (some z9) none).bind fun x5_2 => (g87 k x5_2 (10 : Int)).bind fun x5_3 => if (decide (0 < x5_3)) then (some (fW .i64 (z9 + x5_3))) else (j10 ())) (fun j9 => if z8 then (j9 (fW .i64 (fW .i64 (fW .i64 (fW .i64 (x0_1 + 1) + x2_4) + 1) + 1))) else (j9 (fW .i64 (fW .i64 (fW .i64 (x0_1 + 1) + x2_4) + 1))))) g83p16 (fun (z8 : Bool) => [(0, .str a0), (3, .int .i64 (fW .i64 (fW .i64 (x0_1 + 1) + x2_4))), (5, .int .i64 (fW .i64 (fW .i64 (fW .i64 (x0_1 + 1) + x2_4) + 1))), (62, .bool z8)]) (fun (z8 : Bool) => (mkH [])) (fun z8 => ?_) (fun j8 hj8 => ?_)
       ·refine oJ (f := fun (z9 : Int) => (subL a0 (some z9) none).bind fun x5_2 => (g87 k x5_2 (10 : Int)).bind fun x5_3 => if (decide (0 < x5_3)) then (some (fW .i64 (z9 + x5_3))) else (j10 ())) g83p18 (fun (z9 : Int) => [(0, .str a0), (3, .int .i64 (fW .i64 (fW .i64 (x0_1 + 1) + x2_4))), (5, .int .i64 z9)]) (fun (z9 : Int) => (mkH [])) (fun z9 => ?_) (fun j9 hj9 => ?_)
        ·let E8 : Env := [(66, .int .i64 z9), (65, .str a0), (0, .str a0), (3, .int .i64 (fW .i64 (fW .i64 (x0_1 + 1) + x2_4))), (5, .int .i64 z9)]
         refine oR 3 (p' := (atN 2 (ctl1 g83p18))) (eE := E8) (H' := (mkH [])) (by kernel_rfl) ?_
         refine oH (fun (x5_2 : (List Nat)) => (.str x5_2, (mkH []))) (atN 3 (ctl1 g83p18)) (fun x5_2 => ((67, .str x5_2) :: E8)) (subH (some z9) none (by kernel_rfl)) (fun _ => by kernel_rfl) (fun x5_2 hx5_2 => ?_)
         refine oC (fun (x5_3 : Int) => .int .i64 x5_3) (atN 4 (ctl1 g83p18)) (fun x5_3 => ((68, .int .i64 x5_3) :: (67, .str x5_2) :: E8)) (fi := 87) (args := [.str x5_2, .int .i64 10]) (by kernel_rfl) (by kernel_rfl) (fun _ => by kernel_rfl) (fun r h => g87_ok k x5_2 (10 : Int) r h) (fun _ => by kernel_rfl) (fun x5_3 hx5_3 => ?_)
         let E9 : Env := ((70, .bool (decide (0 < x5_3))) :: (69, .int .i64 x5_3) :: (6, .int .i64 x5_3) :: (68, .int .i64 x5_3) :: (67, .str x5_2) :: E8)
         refine oR 7 (p' := g83p20) (eE := E9) (H' := (mkH [])) (by kernel_rfl) ?_
         refine oS 70 (b := decide (0 < x5_3)) (by kernel_rfl) (fun hb => ?_) (fun hb => ?_)
         ·let E10 : Env := ((2, .int .i64 (fW .i64 (z9 + x5_3))) :: (73, .int .i64 (fW .i64 (z9 + x5_3))) :: (72, .int .i64 x5_3) :: (71, .int .i64 z9) :: (70, .bool true) :: E9)
          refine oR 9 (p' := .fin) (eE := E10) (H' := (mkH [])) (by kernel_rfl) ?_
          exact oT (r := (fW .i64 (z9 + x5_3))) (xs := [.int .i64 (fW .i64 (z9 + x5_3))]) (v := .int .i64 (fW .i64 (z9 + x5_3))) (by kernel_rfl) (by kernel_rfl) (by kernel_rfl) (.pures (by kernel_rfl)) (by kernel_rfl)
         ·refine oR 3 (p' := g83p14) (eE := ((70, .bool false) :: E9)) (H' := (mkH [])) (by kernel_rfl) ?_
          refine oK [3] (eE := [(3, .int .i64 (fW .i64 (fW .i64 (x0_1 + 1) + x2_4)))]) (by kernel_rfl) ?_
          exact hj10 ()
        ·refine oS 62 (b := z8) (by kernel_rfl) (fun hb => ?_) (fun hb => ?_)
         ·let E11 : Env := [(5, .int .i64 (fW .i64 (fW .i64 (fW .i64 (fW .i64 (x0_1 + 1) + x2_4) + 1) + 1))), (64, .int .i64 (fW .i64 (fW .i64 (fW .i64 (fW .i64 (x0_1 + 1) + x2_4) + 1) + 1))), (63, .int .i64 (fW .i64 (fW .i64 (fW .i64 (x0_1 + 1) + x2_4) + 1))), (62, .bool true), (0, .str a0), (3, .int .i64 (fW .i64 (fW .i64 (x0_1 + 1) + x2_4))), (5, .int .i64 (fW .i64 (fW .i64 (fW .i64 (x0_1 + 1) + x2_4) + 1))), (62, .bool z8)]
          refine oR 7 (p' := g83p18) (eE := E11) (H' := (mkH [])) (by kernel_rfl) ?_
          refine oK [0, 3, 5] (eE := [(0, .str a0), (3, .int .i64 (fW .i64 (fW .i64 (x0_1 + 1) + x2_4))), (5, .int .i64 (fW .i64 (fW .i64 (fW .i64 (fW .i64 (x0_1 + 1) + x2_4) + 1) + 1)))]) (by kernel_rfl) ?_
          exact hj9 (fW .i64 (fW .i64 (fW .i64 (fW .i64 (x0_1 + 1) + x2_4) + 1) + 1))
         ·let E12 : Env := [(62, .bool false), (0, .str a0), (3, .int .i64 (fW .i64 (fW .i64 (x0_1 + 1) + x2_4))), (5, .int .i64 (fW .i64 (fW .i64 (fW .i64 (x0_1 + 1) + x2_4) + 1))), (62, .bool z8)]
          refine oR 3 (p' := g83p18) (eE := E12) (H' := (mkH [])) (by kernel_rfl) ?_
          refine oK [0, 3, 5] (eE := [(0, .str a0), (3, .int .i64 (fW .i64 (fW .i64 (x0_1 + 1) + x2_4))), (5, .int .i64 (fW .i64 (fW .i64 (fW .i64 (x0_1 + 1) + x2_4) + 1)))]) (by kernel_rfl) ?_
          exact hj9 (fW .i64 (fW .i64 (fW .i64 (x0_1 + 1) + x2_4) + 1))
       ·refine oS 51 (b := decide (fW .i64 (fW .i64 (fW .i64 (x0_1 + 1) + x2_4) + 1) < (a0.length : Int))) (by kernel_rfl) (fun hb => ?_) (fun hb => ?_)
        ·refine oR 2 (p' := (atN 7 (ctl1 g83p15))) (eE := ((53, .int .i64 (fW .i64 (fW .i64 (fW .i64 (x0_1 + 1) + x2_4) + 1))) :: (52, .str a0) :: (51, .bool true) :: E7)) (H' := (mkH [])) (by kernel_rfl) ?_
         refine oH (fun (x4_7 : Int) => (.int .u8 x4_7, (mkH []))) (atN 8 (ctl1 g83p15)) (fun x4_7 => ((54, .int .u8 x4_7) :: (53, .int .i64 (fW .i64 (fW .i64 (fW .i64 (x0_1 + 1) + x2_4) + 1))) :: (52, .str a0) :: (51, .bool true) :: E7)) (idxH (by kernel_rfl)) (fun _ => by kernel_rfl) (fun x4_7 hx4_7 => ?_)
         let E13 : Env := ((56, .bool (decide (x4_7 = 43))) :: (55, .bool (decide (x4_7 = 43))) :: (54, .int .u8 x4_7) :: (53, .int .i64 (fW .i64 (fW .i64 (fW .i64 (x0_1 + 1) + x2_4) + 1))) :: (52, .str a0) :: (51, .bool true) :: E7)
         refine oR 2 (p' := (atN 10 (ctl1 g83p15))) (eE := E13) (H' := (mkH [])) (by kernel_rfl) ?_
         refine oS 56 (b := decide (x4_7 = 43)) (by kernel_rfl) (fun hb => ?_) (fun hb => ?_)
         ·let E14 : Env := ((62, .bool true) :: (61, .bool true) :: (60, .tuple []) :: (59, .tuple []) :: (58, .tuple []) :: (57, .tuple []) :: (56, .bool true) :: E13)
          refine oR 7 (p' := g83p16) (eE := E14) (H' := (mkH [])) (by kernel_rfl) ?_
          refine oK [0, 3, 5, 62] (eE := [(0, .str a0), (3, .int .i64 (fW .i64 (fW .i64 (x0_1 + 1) + x2_4))), (5, .int .i64 (fW .i64 (fW .i64 (fW .i64 (x0_1 + 1) + x2_4) + 1))), (62, .bool true)]) (by kernel_rfl) ?_
          exact hj8 true
         ·refine oR 2 (p' := (atN 12 (ctl1 g83p15))) (eE := ((58, .int .i64 (fW .i64 (fW .i64 (fW .i64 (x0_1 + 1) + x2_4) + 1))) :: (57, .str a0) :: (56, .bool false) :: E13)) (H' := (mkH [])) (by kernel_rfl) ?_
          refine oH (fun (x4_12 : Int) => (.int .u8 x4_12, (mkH []))) (atN 13 (ctl1 g83p15)) (fun x4_12 => ((59, .int .u8 x4_12) :: (58, .int .i64 (fW .i64 (fW .i64 (fW .i64 (x0_1 + 1) + x2_4) + 1))) :: (57, .str a0) :: (56, .bool false) :: E13)) (idxH (by kernel_rfl)) (fun _ => by kernel_rfl) (fun x4_12 hx4_12 => ?_)
          let E15 : Env := ((62, .bool (decide (x4_12 = 45))) :: (61, .bool (decide (x4_12 = 45))) :: (60, .bool (decide (x4_12 = 45))) :: (59, .int .u8 x4_12) :: (58, .int .i64 (fW .i64 (fW .i64 (fW .i64 (x0_1 + 1) + x2_4) + 1))) :: (57, .str a0) :: (56, .bool false) :: E13)
          refine oR 4 (p' := g83p16) (eE := E15) (H' := (mkH [])) (by kernel_rfl) ?_
          refine oK [0, 3, 5, 62] (eE := [(0, .str a0), (3, .int .i64 (fW .i64 (fW .i64 (x0_1 + 1) + x2_4))), (5, .int .i64 (fW .i64 (fW .i64 (fW .i64 (x0_1 + 1) + x2_4) + 1))), (62, .bool (decide (x4_12 = 45)))]) (by kernel_rfl) ?_
          exact hj8 (decide (x4_12 = 45))
        ·let E16 : Env := ((62, .bool false) :: (61, .tuple []) :: (60, .tuple []) :: (59, .tuple []) :: (58, .tuple []) :: (57, .tuple []) :: (56, .tuple []) :: (55, .tuple []) :: (54, .tuple []) :: (53, .tuple []) :: (52, .tuple []) :: (51, .bool false) :: E7)
         refine oR 12 (p' := g83p16) (eE := E16) (H' := (mkH [])) (by kernel_rfl) ?_
         refine oK [0, 3, 5, 62] (eE := [(0, .str a0), (3, .int .i64 (fW .i64 (fW .i64 (x0_1 + 1) + x2_4))), (5, .int .i64 (fW .i64 (fW .i64 (fW .i64 (x0_1 + 1) + x2_4) + 1))), (62, .bool false)]) (by kernel_rfl) ?_
         exact hj8 false
      ·refine oR 3 (p' := g83p14) (eE := [(44, .bool false), (0, .str a0), (3, .int .i64 (fW .i64 (fW .i64 (x0_1 + 1) + x2_4))), (44, .bool z7)]) (H' := (mkH [])) (by kernel_rfl) ?_
       refine oK [3] (eE := [(3, .int .i64 (fW .i64 (fW .i64 (x0_1 + 1) + x2_4)))]) (by kernel_rfl) ?_
       exact hj10 ()
    ·refine oS 38 (b := decide (fW .i64 (fW .i64 (x0_1 + 1) + x2_4) < (a0.length : Int))) (by kernel_rfl) (fun hb => ?_) (fun hb => ?_)
     ·refine oR 2 (p' := (atN 7 (ctl1 g83p11))) (eE := ((40, .int .i64 (fW .i64 (fW .i64 (x0_1 + 1) + x2_4))) :: (39, .str a0) :: (38, .bool true) :: E6)) (H' := (mkH [])) (by kernel_rfl) ?_
      refine oH (fun (x3_7 : Int) => (.int .u8 x3_7, (mkH []))) (atN 8 (ctl1 g83p11)) (fun x3_7 => ((41, .int .u8 x3_7) :: (40, .int .i64 (fW .i64 (fW .i64 (x0_1 + 1) + x2_4))) :: (39, .str a0) :: (38, .bool true) :: E6)) (idxH (by kernel_rfl)) (fun _ => by kernel_rfl) (fun x3_7 hx3_7 => ?_)
      let E17 : Env := ((44, .bool (decide (orI .u8 x3_7 32 = 101))) :: (43, .bool (decide (orI .u8 x3_7 32 = 101))) :: (42, .int .u8 (orI .u8 x3_7 32)) :: (41, .int .u8 x3_7) :: (40, .int .i64 (fW .i64 (fW .i64 (x0_1 + 1) + x2_4))) :: (39, .str a0) :: (38, .bool true) :: E6)
      refine oR 4 (p' := g83p12) (eE := E17) (H' := (mkH [])) (by kernel_rfl) ?_
      refine oK [0, 3, 44] (eE := [(0, .str a0), (3, .int .i64 (fW .i64 (fW .i64 (x0_1 + 1) + x2_4))), (44, .bool (decide (orI .u8 x3_7 32 = 101)))]) (by kernel_rfl) ?_
      exact hj7 (decide (orI .u8 x3_7 32 = 101))
     ·let E18 : Env := ((44, .bool false) :: (43, .tuple []) :: (42, .tuple []) :: (41, .tuple []) :: (40, .tuple []) :: (39, .tuple []) :: (38, .bool false) :: E6)
      refine oR 7 (p' := g83p12) (eE := E18) (H' := (mkH [])) (by kernel_rfl) ?_
      refine oK [0, 3, 44] (eE := [(0, .str a0), (3, .int .i64 (fW .i64 (fW .i64 (x0_1 + 1) + x2_4))), (44, .bool false)]) (by kernel_rfl) ?_
      exact hj7 false
 ·refine oS 11 (b := decide (x0_1 = 0)) (by kernel_rfl) (fun hb => ?_) (fun hb => ?_)
  ·let E19 : Env := ((22, .bool true) :: (21, .tuple []) :: (20, .tuple []) :: (19, .tuple []) :: (18, .tuple []) :: (17, .bool true) :: (16, .bool true) :: (15, .tuple []) :: (14, .tuple []) :: (13, .tuple []) :: (12, .tuple []) :: (11, .bool true) :: E1)
   refine oR 12 (p' := g83p3) (eE := E19) (H' := (mkH [])) (by kernel_rfl) ?_
   refine oK [0, 3, 22] (eE := [(0, .str a0), (3, .int .i64 x0_1), (22, .bool true)]) (by kernel_rfl) ?_
   exact hj6 true
  ·let E20 : Env := ((17, .bool (decide ((a0.length : Int) ≤ x0_1))) :: (16, .bool (decide ((a0.length : Int) ≤ x0_1))) :: (15, .bool (decide ((a0.length : Int) ≤ x0_1))) :: (14, .int .i64 (a0.length : Int)) :: (13, .str a0) :: (12, .int .i64 x0_1) :: (11, .bool false) :: E1)
   refine oR 6 (p' := (atN 9 (ctl1 g83p2))) (eE := E20) (H' := (mkH [])) (by kernel_rfl) ?_
   refine oS 17 (b := decide ((a0.length : Int) ≤ x0_1)) (by kernel_rfl) (fun hb => ?_) (fun hb => ?_)
   ·let E21 : Env := ((22, .bool true) :: (21, .tuple []) :: (20, .tuple []) :: (19, .tuple []) :: (18, .tuple []) :: (17, .bool true) :: E20)
    refine oR 6 (p' := g83p3) (eE := E21) (H' := (mkH [])) (by kernel_rfl) ?_
    refine oK [0, 3, 22] (eE := [(0, .str a0), (3, .int .i64 x0_1), (22, .bool true)]) (by kernel_rfl) ?_
    exact hj6 true
   ·refine oR 2 (p' := (atN 11 (ctl1 g83p2))) (eE := ((19, .int .i64 x0_1) :: (18, .str a0) :: (17, .bool false) :: E20)) (H' := (mkH [])) (by kernel_rfl) ?_
    refine oH (fun (x1_11 : Int) => (.int .u8 x1_11, (mkH []))) (atN 12 (ctl1 g83p2)) (fun x1_11 => ((20, .int .u8 x1_11) :: (19, .int .i64 x0_1) :: (18, .str a0) :: (17, .bool false) :: E20)) (idxH (by kernel_rfl)) (fun _ => by kernel_rfl) (fun x1_11 hx1_11 => ?_)
    let E22 : Env := ((22, .bool (!decide (x1_11 = 46))) :: (21, .bool (!decide (x1_11 = 46))) :: (20, .int .u8 x1_11) :: (19, .int .i64 x0_1) :: (18, .str a0) :: (17, .bool false) :: E20)
    refine oR 3 (p' := g83p3) (eE := E22) (H' := (mkH [])) (by kernel_rfl) ?_
    refine oK [0, 3, 22] (eE := [(0, .str a0), (3, .int .i64 x0_1), (22, .bool (!decide (x1_11 = 46)))]) (by kernel_rfl) ?_
    exact hj6 (!decide (x1_11 = 46))
end
end Go.Proofs.Ytabhkocokojddaa.Am
set_option maxRecDepth 100000
set_option linter.unusedVariables false
set_option linter.unusedSimpArgs false
namespace Go.Proofs.Ytabhkocokojddaa.Am
open Go
def frontN : List Nat → Nat × Nat
 | a :: b :: r => if dgN a < 10 then (if b = 35 then (if 2 ≤ dgN a then (2, dgN a) else (0, 10)) else if dgN b < 10 then (match r with | c :: _ => if c = 35 ∧ 2 ≤ 10 * dgN a + dgN b ∧ 10 * dgN a + dgN b ≤ 36 then (3, 10 * dgN a + dgN b) else (0, 10) | [] => (0, 10)) else (0, 10)) else (0, 10)
 | _ => (0, 10)
def wholeN (s : List Nat) : Nat := if 0 < (frontN s).1 ∧ 0 < runN (frontN s).2 false (s.drop (frontN s).1) then (frontN s).1 + runN (frontN s).2 false (s.drop (frontN s).1) else runN 10 false s
theorem dg_35 : ¬ dgN 35 < 10 := by decide
theorem frontN_le (s : List Nat) : (frontN s).1 ≤ s.length ∧ (frontN s).2 ≤ 36 := by
 unfold frontN
 repeat' split
 all_goals simp only [List.length_cons]
 all_goals omega
theorem front_1 (k : Nat) {a : Nat} {r : List Nat} (ha : a < 256) : g74_l4 (k + 4) (a :: r) 1 (k + 4) 0 0 = some (if 2 ≤ dgN a ∧ dgN a ≤ 36 then (2, (dgN a : Int)) else (0, 10)) := by
 have n0 := nthX (s := a :: r) (x := 0) (i := 0) rfl rfl
 rw [g74_l4_s]
 simp only [n0, digit_at _ ha, Int.mul_zero, Option.bind_some, show decide ((0 : Int) < 1) = true from rfl, if_true, show fW .i64 0 = 0 from rfl, Int.zero_add, show fW .i64 1 = 1 from rfl]
 have hd := dg_le a
 simp (disch := omega) only [↓reduceIte, ↓jn, gsL]
 rw [g74_l4_s]
 simp only [show decide ((1 : Int) < 1) = false from rfl, Bool.false_eq_true, if_false]
 by_cases h1 : dgN a ≤ 36
 ·by_cases h2 : 2 ≤ dgN a
  ·simp (disch := omega) only [↓reduceIte, ↓jn, gsL, h1, h2, and_self]; rfl
  ·simp (disch := omega) only [↓reduceIte, ↓jn, gsL, h2, false_and]
 ·simp (disch := omega) only [↓reduceIte, ↓jn, gsL, h1, and_false]
theorem front_2 (k : Nat) {a b : Nat} {r : List Nat} (ha : a < 256) (hb : b < 256) (h10 : dgN a < 10) : g74_l4 (k + 4) (a :: b :: r) 2 (k + 4) 0 0 = some (if 2 ≤ 10 * dgN a + dgN b ∧ 10 * dgN a + dgN b ≤ 36 then (3, ((10 * dgN a + dgN b : Nat) : Int)) else (0, 10)) := by
 have n0 := nthX (s := a :: b :: r) (x := 0) (i := 0) rfl rfl
 have n1 := nthX (s := a :: b :: r) (x := 1) (i := 1) rfl rfl
 have hd := dg_le a
 have hd' := dg_le b
 rw [g74_l4_s]
 simp only [n0, digit_at _ ha, Int.mul_zero, Option.bind_some, show decide ((0 : Int) < 2) = true from rfl, if_true, show fW .i64 0 = 0 from rfl, Int.zero_add, show fW .i64 1 = 1 from rfl]
 simp (disch := omega) only [↓reduceIte, ↓jn, gsL]
 rw [g74_l4_s]
 simp only [n1, digit_at _ hb, Option.bind_some, show decide ((1 : Int) < 2) = true from rfl, Bool.false_eq_true, if_false, if_true, show fW .i64 (1 + 1) = 2 from rfl]
 simp (disch := omega) only [↓reduceIte, ↓jn, gsL]
 rw [g74_l4_s]
 have e : 10 * (dgN a : Int) + (dgN b : Int) = ((10 * dgN a + dgN b : Nat) : Int) := by omega
 rw [e]
 simp only [show decide ((2 : Int) < 2) = false from rfl, Bool.false_eq_true, if_false]
 generalize 10 * dgN a + dgN b = v
 by_cases h1 : v ≤ 36
 ·by_cases h2 : 2 ≤ v
  ·simp (disch := omega) only [↓reduceIte, ↓jn, gsL, h1, h2, and_self]; rfl
  ·simp (disch := omega) only [↓reduceIte, ↓jn, gsL, h2, false_and]
 ·simp (disch := omega) only [↓reduceIte, ↓jn, gsL, h1, and_false]
theorem front_at {k : Nat} {s : List Nat} (hk : s.length < k) (hk3 : 4 ≤ k) (hs : By s) (hl : Sz s) : g74 k s = some (((frontN s).1 : Int), ((frontN s).2 : Int)) := by
 unfold Sz at hl
 unfold g74
 rw [bare_at hk hs hl]
 obtain ⟨k', rfl⟩ : ∃ k', k = k' + 4 := ⟨k - 4, by omega⟩
 cases s with
 | nil => rfl
 | cons a r =>
  have a256 := hs.head
  have hs1 := hs.tail
  by_cases ha : dgN a < 10
  ·cases r with
   | nil =>
    have e3 : barN 10 [a] = 1 := by simp only [barN, ha, if_true]
    rw [e3]; rfl
   | cons b r =>
    have b256 := hs1.head
    have hs2 := hs1.tail
    by_cases hb : dgN b < 10
    ·have hb35 : ¬ b = 35 := by intro h; rw [h] at hb; exact dg_35 hb
     cases r with
     | nil =>
      have e3 : barN 10 [a, b] = 2 := by simp only [barN, ha, hb, if_true]
      rw [e3]
      simp only [frontN, ha, hb, hb35, if_true, if_false]; rfl
     | cons c r =>
      simp only [List.length_cons] at hl
      have n2 := nthX (s := a :: b :: c :: r) (x := ((2 : Nat) : Int)) (i := 2) rfl rfl
      by_cases hc : dgN c < 10
      ·have hc35 : ¬ c = 35 := by intro h; rw [h] at hc; exact dg_35 hc
       have e3 : barN 10 (a :: b :: c :: r) = barN 10 r + 3 := by simp only [barN, ha, hb, hc, if_true]
       rw [e3]
       simp only [frontN, ha, hb, hb35, hc35, if_true, if_false, false_and, Option.bind_some, jn]
       simp (disch := omega) only [↓reduceIte, ↓jn, gsL]; rfl
      ·have e3 : barN 10 (a :: b :: c :: r) = 2 := by simp only [barN, ha, hb, hc, if_true, if_false]
       rw [e3]
       have f2 := front_2 k' (r := c :: r) a256 b256 ha
       simp only [frontN, ha, hb, hb35, if_true, if_false, Option.bind_some, jn, n2, List.length_cons]
       simp (disch := omega) only [↓reduceIte, ↓jn, gsL]
       by_cases hc35 : c = 35
       ·simp (disch := omega) only [↓reduceIte, ↓jn, gsL]
        simp only [Bool.not_true, Bool.false_eq_true, if_false, hc35, true_and] at f2 ⊢
        exact f2.trans (by split <;> rfl)
       ·simp (disch := omega) only [↓reduceIte, ↓jn, gsL]
        simp only [Bool.not_false, if_true, hc35, false_and, if_false]; rfl
    ·simp only [List.length_cons] at hl
     have e3 : barN 10 (a :: b :: r) = 1 := by simp only [barN, ha, hb, if_true, if_false]
     have n1 := nthX (s := a :: b :: r) (x := ((1 : Nat) : Int)) (i := 1) rfl rfl
     have f1 := front_1 k' (r := b :: r) a256
     rw [e3]
     simp only [frontN, ha, hb, if_true, if_false, Option.bind_some, jn, n1, List.length_cons]
     simp (disch := omega) only [↓reduceIte, ↓jn, gsL]
     by_cases hb35 : b = 35
     ·simp (disch := omega) only [↓reduceIte, ↓jn, gsL]
      simp only [Bool.not_true, Bool.false_eq_true, if_false, hb35, if_true] at f1 ⊢
      refine f1.trans ?_
      by_cases h2 : 2 ≤ dgN a
      ·rw [if_pos ⟨h2, by omega⟩, if_pos h2]; rfl
      ·rw [if_neg (by omega), if_neg h2]; rfl
     ·simp (disch := omega) only [↓reduceIte, ↓jn, gsL]
      simp only [Bool.not_false, if_true, hb35, if_false]; rfl
  ·have : frontN (a :: r) = (0, 10) := by cases r <;> simp only [frontN, ha, if_false]
   have e3 : barN 10 (a :: r) = 0 := by simp only [barN, ha, if_false]
   rw [this, e3]
   rfl
theorem whole_at {k : Nat} {s : List Nat} (hk : s.length < k) (hk3 : 4 ≤ k) (hs : By s) (hl : Sz s) : g73 k s = some ((wholeN s : Nat) : Int) := by
 have hl' := hl
 unfold Sz at hl
 unfold g73 wholeN
 rw [front_at hk hk3 hs hl]
 obtain ⟨f1, f2⟩ := frontN_le s
 have r1 := run_at (k := k) (s := s.drop (frontN s).1) (by rw [List.length_drop]; omega) (hs.drop _) (by unfold Sz; rw [List.length_drop]; omega) (b := (frontN s).2) (by omega)
 have r2 := run_at hk hs hl' (b := 10) (by decide)
 have r2 : g87 k s 10 = _ := r2
 have l1 := runN_le (frontN s).2 false (s.drop (frontN s).1)
 rw [List.length_drop] at l1
 simp only [Option.bind_some, subFrom rfl f1, r1, r2]
 by_cases h1 : 0 < (frontN s).1
 ·by_cases h2 : 0 < runN (frontN s).2 false (s.drop (frontN s).1)
  ·simp (disch := omega) only [↓reduceIte, ↓jn, gsL, h1, h2, and_self]
   exact sn rfl
  ·simp (disch := omega) only [↓reduceIte, ↓jn, gsL, h1, h2, and_self, and_false]
 ·simp (disch := omega) only [↓reduceIte, ↓jn, gsL, h1, false_and]
end Go.Proofs.Ytabhkocokojddaa.Am
set_option maxRecDepth 100000
set_option linter.unusedVariables false
namespace Go.Proofs.Ytabhkocokojddaa.Am
noncomputable section
open Go
def X91 : Fx (Int × Int) := ⟨Try.prog, cx, Try.f91, fun r => .tuple [.int .i64 r.1, .int .i64 r.2], 0, fun _ => H0, cxTi, cxOrd⟩
def g91p0 : Pt := nav [0] (bodyAt Try.f91)
def g91p1 : Pt := nav [0, 0, 0, 0, 0] g91p0
def g91p2 : Pt := nav [0, 0] g91p1
def g91p4 : Pt := nav [2, 0] g91p2
def g91p6 : Pt := nav [0, 0] g91p4
def g91p8 : Pt := nav [2, 0] g91p6
def g91p9 : Pt := nav [0, 0] g91p8
def g91p11 : Pt := nav [2, 0] g91p9
def g91p12 : Pt := nav [0, 0] g91p11
def g91 (k : Nat) (a0 : Int) : Option (Int × Int) :=
 if (decide (a0 < 128)) then (some ((1 : Int), fW .i64 a0)) else (if (decide (shrC a0 5 = 6)) then (some ((2 : Int), fW .i64 (andI .u8 a0 31))) else (if (decide (shrC a0 4 = 14)) then (some ((3 : Int), fW .i64 (andI .u8 a0 15))) else (if (decide (shrC a0 3 = 30)) then (some ((4 : Int), fW .i64 (andI .u8 a0 7))) else (some ((0 : Int), (0 : Int))))))
theorem g91_ok (k : Nat) (a0 : Int) (r : (Int × Int)) (h : g91 k a0 = some r) : PureOk Try.prog 91 [.int .u8 a0] (.tuple [.int .i64 r.1, .int .i64 r.2]) := by
 refine pure_of X91 (fun _ => rfl) Try.func91 (by decide +kernel) (by kernel_rfl) (t := g91 k a0) ?_ h
 unfold g91
 refine oE (eE := [(0, .int .u8 a0)]) (by kernel_rfl) ?_
 let E1 : Env := [(4, .bool (decide (a0 < 128))), (6, .bool (decide (a0 < 128))), (5, .int .u8 a0), (3, .int .i64 0), (2, .int .i64 0), (0, .int .u8 a0)]
 refine oR 13 (p' := g91p2) (eE := E1) (H' := (mkH [])) (by kernel_rfl) ?_
 refine oS 4 (b := decide (a0 < 128)) (by kernel_rfl) (fun hb => ?_) (fun hb => ?_)
 ·let E2 : Env := ((3, .int .i64 (fW .i64 a0)) :: (2, .int .i64 1) :: (8, .int .i64 (fW .i64 a0)) :: (7, .int .u8 a0) :: (4, .bool true) :: E1)
  refine oR 9 (p' := .fin) (eE := E2) (H' := (mkH [])) (by kernel_rfl) ?_
  exact oT (r := ((1 : Int), fW .i64 a0)) (xs := [.int .i64 1, .int .i64 (fW .i64 a0)]) (v := .tuple [.int .i64 1, .int .i64 (fW .i64 a0)]) (by kernel_rfl) (by kernel_rfl) (by kernel_rfl) (.pures (by kernel_rfl)) (by kernel_rfl)
 ·let E3 : Env := ((9, .bool (decide (shrC a0 5 = 6))) :: (12, .bool (decide (shrC a0 5 = 6))) :: (11, .int .u8 (shrC a0 5)) :: (10, .int .u8 a0) :: (4, .bool false) :: E1)
  refine oR 8 (p' := g91p6) (eE := E3) (H' := (mkH [])) (by kernel_rfl) ?_
  refine oK [0, 9] (eE := [(0, .int .u8 a0), (9, .bool (decide (shrC a0 5 = 6)))]) (by kernel_rfl) ?_
  refine oS 9 (b := decide (shrC a0 5 = 6)) (by kernel_rfl) (fun hb => ?_) (fun hb => ?_)
  ·let E4 : Env := [(3, .int .i64 (fW .i64 (andI .u8 a0 31))), (2, .int .i64 2), (15, .int .i64 (fW .i64 (andI .u8 a0 31))), (14, .int .u8 (andI .u8 a0 31)), (13, .int .u8 a0), (9, .bool true), (0, .int .u8 a0), (9, .bool (decide (shrC a0 5 = 6)))]
   refine oR 10 (p' := .fin) (eE := E4) (H' := (mkH [])) (by kernel_rfl) ?_
   exact oT (r := ((2 : Int), fW .i64 (andI .u8 a0 31))) (xs := [.int .i64 2, .int .i64 (fW .i64 (andI .u8 a0 31))]) (v := .tuple [.int .i64 2, .int .i64 (fW .i64 (andI .u8 a0 31))]) (by kernel_rfl) (by kernel_rfl) (by kernel_rfl) (.pures (by kernel_rfl)) (by kernel_rfl)
  ·let E5 : Env := [(16, .bool (decide (shrC a0 4 = 14))), (19, .bool (decide (shrC a0 4 = 14))), (18, .int .u8 (shrC a0 4)), (17, .int .u8 a0), (9, .bool false), (0, .int .u8 a0), (9, .bool (decide (shrC a0 5 = 6)))]
   refine oR 8 (p' := g91p9) (eE := E5) (H' := (mkH [])) (by kernel_rfl) ?_
   refine oS 16 (b := decide (shrC a0 4 = 14)) (by kernel_rfl) (fun hb => ?_) (fun hb => ?_)
   ·let E6 : Env := ((3, .int .i64 (fW .i64 (andI .u8 a0 15))) :: (2, .int .i64 3) :: (22, .int .i64 (fW .i64 (andI .u8 a0 15))) :: (21, .int .u8 (andI .u8 a0 15)) :: (20, .int .u8 a0) :: (16, .bool true) :: E5)
    refine oR 10 (p' := .fin) (eE := E6) (H' := (mkH [])) (by kernel_rfl) ?_
    exact oT (r := ((3 : Int), fW .i64 (andI .u8 a0 15))) (xs := [.int .i64 3, .int .i64 (fW .i64 (andI .u8 a0 15))]) (v := .tuple [.int .i64 3, .int .i64 (fW .i64 (andI .u8 a0 15))]) (by kernel_rfl) (by kernel_rfl) (by kernel_rfl) (.pures (by kernel_rfl)) (by kernel_rfl)
   ·let E7 : Env := ((23, .bool (decide (shrC a0 3 = 30))) :: (26, .bool (decide (shrC a0 3 = 30))) :: (25, .int .u8 (shrC a0 3)) :: (24, .int .u8 a0) :: (16, .bool false) :: E5)
    refine oR 8 (p' := g91p12) (eE := E7) (H' := (mkH [])) (by kernel_rfl) ?_
    refine oK [0, 23] (eE := [(0, .int .u8 a0), (23, .bool (decide (shrC a0 3 = 30)))]) (by kernel_rfl) ?_
    refine oS 23 (b := decide (shrC a0 3 = 30)) (by kernel_rfl) (fun hb => ?_) (fun hb => ?_)
    ·let E8 : Env := [(3, .int .i64 (fW .i64 (andI .u8 a0 7))), (2, .int .i64 4), (29, .int .i64 (fW .i64 (andI .u8 a0 7))), (28, .int .u8 (andI .u8 a0 7)), (27, .int .u8 a0), (23, .bool true), (0, .int .u8 a0), (23, .bool (decide (shrC a0 3 = 30)))]
     refine oR 10 (p' := .fin) (eE := E8) (H' := (mkH [])) (by kernel_rfl) ?_
     exact oT (r := ((4 : Int), fW .i64 (andI .u8 a0 7))) (xs := [.int .i64 4, .int .i64 (fW .i64 (andI .u8 a0 7))]) (v := .tuple [.int .i64 4, .int .i64 (fW .i64 (andI .u8 a0 7))]) (by kernel_rfl) (by kernel_rfl) (by kernel_rfl) (.pures (by kernel_rfl)) (by kernel_rfl)
    ·let E9 : Env := [(3, .int .i64 0), (2, .int .i64 0), (23, .bool false), (0, .int .u8 a0), (23, .bool (decide (shrC a0 3 = 30)))]
     refine oR 8 (p' := .fin) (eE := E9) (H' := (mkH [])) (by kernel_rfl) ?_
     exact oT (r := ((0 : Int), (0 : Int))) (xs := [.int .i64 0, .int .i64 0]) (v := .tuple [.int .i64 0, .int .i64 0]) (by kernel_rfl) (by kernel_rfl) (by kernel_rfl) (.pures (by kernel_rfl)) (by kernel_rfl)
end
end Go.Proofs.Ytabhkocokojddaa.Am
set_option maxRecDepth 100000
set_option linter.unusedVariables false
namespace Go.Proofs.Ytabhkocokojddaa.Am
noncomputable section
open Go
def X92 : Fx Int := ⟨Try.prog, cx, Try.f92, fun r => .int .i64 r, 0, fun _ => H0, cxTi, cxOrd⟩
def g92c0 : List Int := [(0 : Int), (0 : Int), (128 : Int), (2048 : Int), (65536 : Int)]
def g92p0 : Pt := nav [0] (bodyAt Try.f92)
def g92p1 : Pt := nav [0, 0, 0] g92p0
def g92 (k : Nat) (a0 : Int) : Option Int :=
 (nthA g92c0 5 a0).bind fun x0_2 => some x0_2
theorem g92_ok (k : Nat) (a0 : Int) (r : Int) (h : g92 k a0 = some r) : PureOk Try.prog 92 [.int .i64 a0] (.int .i64 r) := by
 refine pure_of X92 (fun _ => rfl) Try.func92 (by decide +kernel) (by kernel_rfl) (t := g92 k a0) ?_ h
 unfold g92
 refine oE (eE := [(0, .int .i64 a0)]) (by kernel_rfl) ?_
 refine oR 8 (p' := (atN 2 (ctl1 g92p1))) (eE := [(4, .int .i64 a0), (3, .agg [.int .i64 0, .int .i64 0, .int .i64 128, .int .i64 2048, .int .i64 65536]), (2, .int .i64 0), (0, .int .i64 a0)]) (H' := (mkH [])) (by kernel_rfl) ?_
 refine oH (fun (x0_2 : Int) => (.int .i64 x0_2, (mkH []))) (atN 3 (ctl1 g92p1)) (fun x0_2 => [(5, .int .i64 x0_2), (4, .int .i64 a0), (3, .agg [.int .i64 0, .int .i64 0, .int .i64 128, .int .i64 2048, .int .i64 65536]), (2, .int .i64 0), (0, .int .i64 a0)]) (aidxH v3 g92c0 (by kernel_rfl)) (fun _ => by kernel_rfl) (fun x0_2 hx0_2 => ?_)
 let E1 : Env := [(2, .int .i64 x0_2), (5, .int .i64 x0_2), (4, .int .i64 a0), (3, .agg [.int .i64 0, .int .i64 0, .int .i64 128, .int .i64 2048, .int .i64 65536]), (2, .int .i64 0), (0, .int .i64 a0)]
 refine oR 3 (p' := .fin) (eE := E1) (H' := (mkH [])) (by kernel_rfl) ?_
 exact oT (r := x0_2) (xs := [.int .i64 x0_2]) (v := .int .i64 x0_2) (by kernel_rfl) (by kernel_rfl) (by kernel_rfl) (.pures (by kernel_rfl)) (by kernel_rfl)
end
end Go.Proofs.Ytabhkocokojddaa.Am
set_option maxRecDepth 100000
set_option linter.unusedVariables false
namespace Go.Proofs.Ytabhkocokojddaa.Am
noncomputable section
open Go
def X93 : Fx Bool := ⟨Try.prog, cx, Try.f93, fun r => .bool r, 0, fun _ => H0, cxTi, cxOrd⟩
def g93p0 : Pt := nav [0] (bodyAt Try.f93)
def g93p1 : Pt := nav [0, 0, 0] g93p0
def g93 (k : Nat) (a0 : Int) : Option Bool :=
 if (decide (0 ≤ a0)) then (if (decide (a0 ≤ 1114111)) then (some (!decide (shrC a0 11 = 27))) else (some false)) else (some false)
theorem g93_ok (k : Nat) (a0 : Int) (r : Bool) (h : g93 k a0 = some r) : PureOk Try.prog 93 [.int .i64 a0] (.bool r) := by
 refine pure_of X93 (fun _ => rfl) Try.func93 (by decide +kernel) (by kernel_rfl) (t := g93 k a0) ?_ h
 unfold g93
 refine oE (eE := [(0, .int .i64 a0)]) (by kernel_rfl) ?_
 let E1 : Env := [(5, .bool (decide (0 ≤ a0))), (4, .bool (decide (0 ≤ a0))), (3, .int .i64 a0), (2, .bool false), (0, .int .i64 a0)]
 refine oR 9 (p' := (atN 3 (ctl1 g93p1))) (eE := E1) (H' := (mkH [])) (by kernel_rfl) ?_
 refine oS 5 (b := decide (0 ≤ a0)) (by kernel_rfl) (fun hb => ?_) (fun hb => ?_)
 ·let E2 : Env := ((9, .bool (decide (a0 ≤ 1114111))) :: (8, .bool (decide (a0 ≤ 1114111))) :: (7, .bool (decide (a0 ≤ 1114111))) :: (6, .int .i64 a0) :: (5, .bool true) :: E1)
  refine oR 4 (p' := (atN 7 (ctl1 g93p1))) (eE := E2) (H' := (mkH [])) (by kernel_rfl) ?_
  refine oS 9 (b := decide (a0 ≤ 1114111)) (by kernel_rfl) (fun hb => ?_) (fun hb => ?_)
  ·let E3 : Env := ((2, .bool (!decide (shrC a0 11 = 27))) :: (13, .bool (!decide (shrC a0 11 = 27))) :: (12, .bool (!decide (shrC a0 11 = 27))) :: (11, .int .i64 (shrC a0 11)) :: (10, .int .i64 a0) :: (9, .bool true) :: E2)
   refine oR 7 (p' := .fin) (eE := E3) (H' := (mkH [])) (by kernel_rfl) ?_
   exact oT (r := (!decide (shrC a0 11 = 27))) (xs := [.bool (!decide (shrC a0 11 = 27))]) (v := .bool (!decide (shrC a0 11 = 27))) (by kernel_rfl) (by kernel_rfl) (by kernel_rfl) (.pures (by kernel_rfl)) (by kernel_rfl)
  ·let E4 : Env := ((2, .bool false) :: (13, .bool false) :: (12, .tuple []) :: (11, .tuple []) :: (10, .tuple []) :: (9, .bool false) :: E2)
   refine oR 7 (p' := .fin) (eE := E4) (H' := (mkH [])) (by kernel_rfl) ?_
   exact oT (r := false) (xs := [.bool false]) (v := .bool false) (by kernel_rfl) (by kernel_rfl) (by kernel_rfl) (.pures (by kernel_rfl)) (by kernel_rfl)
 ·let E5 : Env := ((2, .bool false) :: (13, .bool false) :: (12, .tuple []) :: (11, .tuple []) :: (10, .tuple []) :: (9, .bool false) :: (8, .bool false) :: (7, .tuple []) :: (6, .tuple []) :: (5, .bool false) :: E1)
  refine oR 11 (p' := .fin) (eE := E5) (H' := (mkH [])) (by kernel_rfl) ?_
  exact oT (r := false) (xs := [.bool false]) (v := .bool false) (by kernel_rfl) (by kernel_rfl) (by kernel_rfl) (.pures (by kernel_rfl)) (by kernel_rfl)
end
end Go.Proofs.Ytabhkocokojddaa.Am
set_option maxRecDepth 100000
set_option linter.unusedVariables false
namespace Go.Proofs.Ytabhkocokojddaa.Am
noncomputable section
open Go
def X78 : Fx (Int × Int) := ⟨Try.prog, cx, Try.f78, fun r => .tuple [.int .i64 r.1, .int .i64 r.2], 0, fun _ => H0, cxTi, cxOrd⟩
def g78p0 : Pt := nav [0] (bodyAt Try.f78)
def g78p1 : Pt := nav [0, 0, 0, 0] g78p0
def g78p2 : Pt := nav [0, 0] g78p1
def g78p4 : Pt := nav [2, 0, 0] g78p2
def g78p6 : Pt := nav [0, 0, 0, 0] g78p4
def g78p7 : Pt := nav [0, 0] g78p6
def g78p9 : Pt := nav [2, 0, 0, 0] g78p7
def g78p10 : Pt := nav [0, 0, 0, 0] g78p9
def g78p11 : Pt := nav [0, 0, 0] g78p10
def g78p12 : Pt := nav [0, 0] g78p11
def g78p13 : Pt := nav [1, 0, 0, 0, 0] g78p12
def g78p14 : Pt := nav [2, 0, 0, 0] g78p12
def g78p15 : Pt := nav [0, 0, 0, 0] g78p13
def g78p16 : Pt := nav [0, 0] g78p14
def g78p17 : Pt := nav [0, 0] g78p15
def g78p21 : Pt := nav [2, 0] g78p17
def g78p22 : Pt := nav [0, 0] g78p21
def g78_l5 (k : Nat)  (a0 : (List Nat)) (a1 : Int) (x0_3 : (Int × Int)) (n : Nat) : Int → Int → Option (Int × Int) :=
 Nat.rec (motive := fun _ => Int → Int → Option (Int × Int)) (fun _ _ => none) (fun _ ih => fun (y5_0 : Int) (y5_1 : Int) => if (decide (y5_1 < x0_3.1)) then ((nthS a0 (fW .i64 (a1 + y5_1))).bind fun x1_4 => if (!decide (shrC x1_4 6 = 2)) then (some (((-1) : Int), (1 : Int))) else (ih (orI .i64 (shlC .i64 y5_0 6) (fW .i64 (andI .u8 x1_4 63))) (fW .i64 (y5_1 + 1)))) else ((g92 k x0_3.1).bind fun x2_2 => jn (fun (z6 : Bool × Int) => if z6.1 then (some (((-1) : Int), (1 : Int))) else (some (z6.2, x0_3.1))) (fun j6 => if (decide (y5_0 < x2_2)) then (j6 (true, y5_0)) else ((g93 k y5_0).bind fun x2_6 => j6 (!x2_6, y5_0))))) n
theorem g78_l5_s (k : Nat)  (a0 : (List Nat)) (a1 : Int) (x0_3 : (Int × Int)) (n : Nat) (y5_0 : Int) (y5_1 : Int) : g78_l5 k a0 a1 x0_3 (n + 1) y5_0 y5_1 = (if (decide (y5_1 < x0_3.1)) then ((nthS a0 (fW .i64 (a1 + y5_1))).bind fun x1_4 => if (!decide (shrC x1_4 6 = 2)) then (some (((-1) : Int), (1 : Int))) else ((g78_l5 k a0 a1 x0_3 n) (orI .i64 (shlC .i64 y5_0 6) (fW .i64 (andI .u8 x1_4 63))) (fW .i64 (y5_1 + 1)))) else ((g92 k x0_3.1).bind fun x2_2 => jn (fun (z6 : Bool × Int) => if z6.1 then (some (((-1) : Int), (1 : Int))) else (some (z6.2, x0_3.1))) (fun j6 => if (decide (y5_0 < x2_2)) then (j6 (true, y5_0)) else ((g93 k y5_0).bind fun x2_6 => j6 (!x2_6, y5_0))))) := rfl
theorem g78_l5_ok (k : Nat)  (a0 : (List Nat)) (a1 : Int) (x0_3 : (Int × Int))  : ∀ (n : Nat) (y5_0 : Int) (y5_1 : Int), Ok X78 g78p10 [(0, .str a0), (1, .int .i64 a1), (6, .int .i64 x0_3.1), (7, .int .i64 y5_0), (8, .int .i64 y5_1)] (mkH []) (g78_l5 k a0 a1 x0_3 n y5_0 y5_1)
 | 0, _, _ => ok_none
 | n + 1, y5_0, y5_1 => by
  have ih := g78_l5_ok k a0 a1 x0_3 n
  rw [g78_l5_s]
  refine ok_ent (p' := nav [0] g78p10) (by kernel_rfl) ?_
  let E8 : Env := [(37, .bool (decide (y5_1 < x0_3.1))), (36, .int .i64 x0_3.1), (35, .int .i64 y5_1), (0, .str a0), (1, .int .i64 a1), (6, .int .i64 x0_3.1), (7, .int .i64 y5_0), (8, .int .i64 y5_1)]
  refine oR 7 (p' := g78p12) (eE := E8) (H' := (mkH [])) (by kernel_rfl) ?_
  refine oS 37 (b := decide (y5_1 < x0_3.1)) (by kernel_rfl) (fun hb => ?_) (fun hb => ?_)
  ·let E9 : Env := ((43, .int .i64 (fW .i64 (a1 + y5_1))) :: (42, .int .i64 y5_1) :: (41, .int .i64 a1) :: (40, .str a0) :: (37, .bool true) :: E8)
   refine oR 10 (p' := (atN 4 (ctl1 g78p13))) (eE := E9) (H' := (mkH [])) (by kernel_rfl) ?_
   refine oH (fun (x1_4 : Int) => (.int .u8 x1_4, (mkH []))) (atN 5 (ctl1 g78p13)) (fun x1_4 => ((44, .int .u8 x1_4) :: E9)) (idxH (by kernel_rfl)) (fun _ => by kernel_rfl) (fun x1_4 hx1_4 => ?_)
   refine oR 4 (p' := g78p15) (eE := ((9, .int .u8 x1_4) :: (44, .int .u8 x1_4) :: E9)) (H' := (mkH [])) (by kernel_rfl) ?_
   refine oK [0, 1, 6, 7, 8, 9] (eE := [(0, .str a0), (1, .int .i64 a1), (6, .int .i64 x0_3.1), (7, .int .i64 y5_0), (8, .int .i64 y5_1), (9, .int .u8 x1_4)]) (by kernel_rfl) ?_
   let E10 : Env := [(47, .bool (!decide (shrC x1_4 6 = 2))), (46, .int .u8 (shrC x1_4 6)), (45, .int .u8 x1_4), (0, .str a0), (1, .int .i64 a1), (6, .int .i64 x0_3.1), (7, .int .i64 y5_0), (8, .int .i64 y5_1), (9, .int .u8 x1_4)]
   refine oR 5 (p' := g78p17) (eE := E10) (H' := (mkH [])) (by kernel_rfl) ?_
   refine oS 47 (b := !decide (shrC x1_4 6 = 2)) (by kernel_rfl) (fun hb => ?_) (fun hb => ?_)
   ·refine oR 7 (p' := .fin) (eE := ((5, .int .i64 1) :: (4, .int .i64 (-1)) :: (47, .bool true) :: E10)) (H' := (mkH [])) (by kernel_rfl) ?_
    exact oT (r := (((-1) : Int), (1 : Int))) (xs := [.int .i64 (-1), .int .i64 1]) (v := .tuple [.int .i64 (-1), .int .i64 1]) (by kernel_rfl) (by kernel_rfl) (by kernel_rfl) (.pures (by kernel_rfl)) (by kernel_rfl)
   ·let E11 : Env := ((7, .int .i64 (orI .i64 (shlC .i64 y5_0 6) (fW .i64 (andI .u8 x1_4 63)))) :: (53, .int .i64 (orI .i64 (shlC .i64 y5_0 6) (fW .i64 (andI .u8 x1_4 63)))) :: (52, .int .i64 (fW .i64 (andI .u8 x1_4 63))) :: (51, .int .u8 (andI .u8 x1_4 63)) :: (50, .int .u8 x1_4) :: (49, .int .i64 (shlC .i64 y5_0 6)) :: (48, .int .i64 y5_0) :: (47, .bool false) :: E10)
    refine oR 11 (p' := g78p22) (eE := E11) (H' := (mkH [])) (by kernel_rfl) ?_
    refine oK [0, 1, 6, 7, 8] (eE := [(0, .str a0), (1, .int .i64 a1), (6, .int .i64 x0_3.1), (7, .int .i64 (orI .i64 (shlC .i64 y5_0 6) (fW .i64 (andI .u8 x1_4 63)))), (8, .int .i64 y5_1)]) (by kernel_rfl) ?_
    let E12 : Env := [(8, .int .i64 (fW .i64 (y5_1 + 1))), (39, .int .i64 (fW .i64 (y5_1 + 1))), (38, .int .i64 y5_1), (0, .str a0), (1, .int .i64 a1), (6, .int .i64 x0_3.1), (7, .int .i64 (orI .i64 (shlC .i64 y5_0 6) (fW .i64 (andI .u8 x1_4 63)))), (8, .int .i64 y5_1)]
    refine oR 5 (p' := g78p10) (eE := E12) (H' := (mkH [])) (by kernel_rfl) ?_
    refine oK [0, 1, 6, 7, 8] (eE := [(0, .str a0), (1, .int .i64 a1), (6, .int .i64 x0_3.1), (7, .int .i64 (orI .i64 (shlC .i64 y5_0 6) (fW .i64 (andI .u8 x1_4 63)))), (8, .int .i64 (fW .i64 (y5_1 + 1)))]) (by kernel_rfl) ?_
    exact ih (orI .i64 (shlC .i64 y5_0 6) (fW .i64 (andI .u8 x1_4 63))) (fW .i64 (y5_1 + 1))
  ·refine oR 7 (p' := (atN 2 (ctl1 g78p14))) (eE := ((55, .int .i64 x0_3.1) :: (54, .int .i64 y5_0) :: (37, .bool false) :: E8)) (H' := (mkH [])) (by kernel_rfl) ?_
   refine oC (fun (x2_2 : Int) => .int .i64 x2_2) (atN 3 (ctl1 g78p14)) (fun x2_2 => ((56, .int .i64 x2_2) :: (55, .int .i64 x0_3.1) :: (54, .int .i64 y5_0) :: (37, .bool false) :: E8)) (fi := 92) (args := [.int .i64 x0_3.1]) (by kernel_rfl) (by kernel_rfl) (fun _ => by kernel_rfl) (fun r h => g92_ok k x0_3.1 r h) (fun _ => by kernel_rfl) (fun x2_2 hx2_2 => ?_)
   let E13 : Env := ((58, .bool (decide (y5_0 < x2_2))) :: (57, .bool (decide (y5_0 < x2_2))) :: (56, .int .i64 x2_2) :: (55, .int .i64 x0_3.1) :: (54, .int .i64 y5_0) :: (37, .bool false) :: E8)
   refine oR 2 (p' := (atN 5 (ctl1 g78p14))) (eE := E13) (H' := (mkH [])) (by kernel_rfl) ?_
   refine oJ (f := fun (z6 : Bool × Int) => if z6.1 then (some (((-1) : Int), (1 : Int))) else (some (z6.2, x0_3.1))) g78p16 (fun (z6 : Bool × Int) => [(6, .int .i64 x0_3.1), (7, .int .i64 z6.2), (62, .bool z6.1)]) (fun (z6 : Bool × Int) => (mkH [])) (fun z6 => ?_) (fun j6 hj6 => ?_)
   ·refine oS 62 (b := z6.1) (by kernel_rfl) (fun hb => ?_) (fun hb => ?_)
    ·let E14 : Env := [(5, .int .i64 1), (4, .int .i64 (-1)), (62, .bool true), (6, .int .i64 x0_3.1), (7, .int .i64 z6.2), (62, .bool z6.1)]
     refine oR 7 (p' := .fin) (eE := E14) (H' := (mkH [])) (by kernel_rfl) ?_
     exact oT (r := (((-1) : Int), (1 : Int))) (xs := [.int .i64 (-1), .int .i64 1]) (v := .tuple [.int .i64 (-1), .int .i64 1]) (by kernel_rfl) (by kernel_rfl) (by kernel_rfl) (.pures (by kernel_rfl)) (by kernel_rfl)
    ·let E15 : Env := [(5, .int .i64 x0_3.1), (4, .int .i64 z6.2), (64, .int .i64 x0_3.1), (63, .int .i64 z6.2), (62, .bool false), (6, .int .i64 x0_3.1), (7, .int .i64 z6.2), (62, .bool z6.1)]
     refine oR 10 (p' := .fin) (eE := E15) (H' := (mkH [])) (by kernel_rfl) ?_
     exact oT (r := (z6.2, x0_3.1)) (xs := [.int .i64 z6.2, .int .i64 x0_3.1]) (v := .tuple [.int .i64 z6.2, .int .i64 x0_3.1]) (by kernel_rfl) (by kernel_rfl) (by kernel_rfl) (.pures (by kernel_rfl)) (by kernel_rfl)
   ·refine oS 58 (b := decide (y5_0 < x2_2)) (by kernel_rfl) (fun hb => ?_) (fun hb => ?_)
    ·let E16 : Env := ((62, .bool true) :: (61, .tuple []) :: (60, .tuple []) :: (59, .tuple []) :: (58, .bool true) :: E13)
     refine oR 5 (p' := g78p16) (eE := E16) (H' := (mkH [])) (by kernel_rfl) ?_
     refine oK [6, 7, 62] (eE := [(6, .int .i64 x0_3.1), (7, .int .i64 y5_0), (62, .bool true)]) (by kernel_rfl) ?_
     exact hj6 (true, y5_0)
    ·refine oR 1 (p' := (atN 6 (ctl1 g78p14))) (eE := ((59, .int .i64 y5_0) :: (58, .bool false) :: E13)) (H' := (mkH [])) (by kernel_rfl) ?_
     refine oC (fun (x2_6 : Bool) => .bool x2_6) (atN 7 (ctl1 g78p14)) (fun x2_6 => ((60, .bool x2_6) :: (59, .int .i64 y5_0) :: (58, .bool false) :: E13)) (fi := 93) (args := [.int .i64 y5_0]) (by kernel_rfl) (by kernel_rfl) (fun _ => by kernel_rfl) (fun r h => g93_ok k y5_0 r h) (fun _ => by kernel_rfl) (fun x2_6 hx2_6 => ?_)
     let E17 : Env := ((62, .bool (!x2_6)) :: (61, .bool (!x2_6)) :: (60, .bool x2_6) :: (59, .int .i64 y5_0) :: (58, .bool false) :: E13)
     refine oR 3 (p' := g78p16) (eE := E17) (H' := (mkH [])) (by kernel_rfl) ?_
     refine oK [6, 7, 62] (eE := [(6, .int .i64 x0_3.1), (7, .int .i64 y5_0), (62, .bool (!x2_6))]) (by kernel_rfl) ?_
     exact hj6 (!x2_6, y5_0)
def g78 (k : Nat) (a0 : (List Nat)) (a1 : Int) : Option (Int × Int) :=
 jn (fun (z3 : Bool) => if z3 then (some ((0 : Int), (0 : Int))) else ((nthS a0 a1).bind fun x0_2 => (g91 k x0_2).bind fun x0_3 => jn (fun (z4 : Bool) => if z4 then (some (((-1) : Int), (1 : Int))) else (g78_l5 k a0 a1 x0_3 k x0_3.2 1)) (fun j4 => if (decide (x0_3.1 = 0)) then (j4 true) else (j4 (decide (fW .i64 ((a0.length : Int) - a1) < x0_3.1)))))) (fun j3 => if (decide (a1 < 0)) then (j3 true) else (j3 (decide ((a0.length : Int) ≤ a1))))
theorem g78_ok (k : Nat) (a0 : (List Nat)) (a1 : Int) (r : (Int × Int)) (h : g78 k a0 a1 = some r) : PureOk Try.prog 78 [.str a0, .int .i64 a1] (.tuple [.int .i64 r.1, .int .i64 r.2]) := by
 refine pure_of X78 (fun _ => rfl) Try.func78 (by decide +kernel) (by kernel_rfl) (t := g78 k a0 a1) ?_ h
 unfold g78
 refine oE (eE := [(0, .str a0), (1, .int .i64 a1)]) (by kernel_rfl) ?_
 let E1 : Env := [(12, .bool (decide (a1 < 0))), (11, .bool (decide (a1 < 0))), (10, .int .i64 a1), (5, .int .i64 0), (4, .int .i64 0), (0, .str a0), (1, .int .i64 a1)]
 refine oR 11 (p' := (atN 3 (ctl1 g78p1))) (eE := E1) (H' := (mkH [])) (by kernel_rfl) ?_
 refine oJ (f := fun (z3 : Bool) => if z3 then (some ((0 : Int), (0 : Int))) else ((nthS a0 a1).bind fun x0_2 => (g91 k x0_2).bind fun x0_3 => jn (fun (z4 : Bool) => if z4 then (some (((-1) : Int), (1 : Int))) else (g78_l5 k a0 a1 x0_3 k x0_3.2 1)) (fun j4 => if (decide (x0_3.1 = 0)) then (j4 true) else (j4 (decide (fW .i64 ((a0.length : Int) - a1) < x0_3.1)))))) g78p2 (fun (z3 : Bool) => [(0, .str a0), (1, .int .i64 a1), (17, .bool z3)]) (fun (z3 : Bool) => (mkH [])) (fun z3 => ?_) (fun j3 hj3 => ?_)
 ·refine oS 17 (b := z3) (by kernel_rfl) (fun hb => ?_) (fun hb => ?_)
  ·let E2 : Env := [(5, .int .i64 0), (4, .int .i64 0), (17, .bool true), (0, .str a0), (1, .int .i64 a1), (17, .bool z3)]
   refine oR 7 (p' := .fin) (eE := E2) (H' := (mkH [])) (by kernel_rfl) ?_
   exact oT (r := ((0 : Int), (0 : Int))) (xs := [.int .i64 0, .int .i64 0]) (v := .tuple [.int .i64 0, .int .i64 0]) (by kernel_rfl) (by kernel_rfl) (by kernel_rfl) (.pures (by kernel_rfl)) (by kernel_rfl)
  ·let E3 : Env := [(20, .int .i64 a1), (19, .str a0), (17, .bool false), (0, .str a0), (1, .int .i64 a1), (17, .bool z3)]
   refine oR 6 (p' := (atN 2 (ctl1 g78p4))) (eE := E3) (H' := (mkH [])) (by kernel_rfl) ?_
   refine oH (fun (x0_2 : Int) => (.int .u8 x0_2, (mkH []))) (atN 3 (ctl1 g78p4)) (fun x0_2 => ((21, .int .u8 x0_2) :: E3)) (idxH (by kernel_rfl)) (fun _ => by kernel_rfl) (fun x0_2 hx0_2 => ?_)
   refine oC (fun (x0_3 : (Int × Int)) => .tuple [.int .i64 x0_3.1, .int .i64 x0_3.2]) (atN 4 (ctl1 g78p4)) (fun x0_3 => ((22, .tuple [.int .i64 x0_3.1, .int .i64 x0_3.2]) :: (21, .int .u8 x0_2) :: E3)) (fi := 91) (args := [.int .u8 x0_2]) (by kernel_rfl) (by kernel_rfl) (fun _ => by kernel_rfl) (fun r h => g91_ok k x0_2 r h) (fun _ => by kernel_rfl) (fun x0_3 hx0_3 => ?_)
   let E4 : Env := ((7, .int .i64 x0_3.2) :: (6, .int .i64 x0_3.1) :: (24, .int .i64 x0_3.2) :: (23, .int .i64 x0_3.1) :: (18, .tuple [.int .i64 x0_3.1, .int .i64 x0_3.2]) :: (22, .tuple [.int .i64 x0_3.1, .int .i64 x0_3.2]) :: (21, .int .u8 x0_2) :: E3)
   refine oR 8 (p' := g78p6) (eE := E4) (H' := (mkH [])) (by kernel_rfl) ?_
   refine oK [0, 1, 6, 7] (eE := [(0, .str a0), (1, .int .i64 a1), (6, .int .i64 x0_3.1), (7, .int .i64 x0_3.2)]) (by kernel_rfl) ?_
   let E5 : Env := [(27, .bool (decide (x0_3.1 = 0))), (26, .bool (decide (x0_3.1 = 0))), (25, .int .i64 x0_3.1), (0, .str a0), (1, .int .i64 a1), (6, .int .i64 x0_3.1), (7, .int .i64 x0_3.2)]
   refine oR 4 (p' := (atN 3 (ctl1 g78p6))) (eE := E5) (H' := (mkH [])) (by kernel_rfl) ?_
   refine oJ (f := fun (z4 : Bool) => if z4 then (some (((-1) : Int), (1 : Int))) else (g78_l5 k a0 a1 x0_3 k x0_3.2 1)) g78p7 (fun (z4 : Bool) => [(0, .str a0), (1, .int .i64 a1), (6, .int .i64 x0_3.1), (7, .int .i64 x0_3.2), (34, .bool z4)]) (fun (z4 : Bool) => (mkH [])) (fun z4 => ?_) (fun j4 hj4 => ?_)
   ·refine oS 34 (b := z4) (by kernel_rfl) (fun hb => ?_) (fun hb => ?_)
    ·let E6 : Env := [(5, .int .i64 1), (4, .int .i64 (-1)), (34, .bool true), (0, .str a0), (1, .int .i64 a1), (6, .int .i64 x0_3.1), (7, .int .i64 x0_3.2), (34, .bool z4)]
     refine oR 7 (p' := .fin) (eE := E6) (H' := (mkH [])) (by kernel_rfl) ?_
     exact oT (r := (((-1) : Int), (1 : Int))) (xs := [.int .i64 (-1), .int .i64 1]) (v := .tuple [.int .i64 (-1), .int .i64 1]) (by kernel_rfl) (by kernel_rfl) (by kernel_rfl) (.pures (by kernel_rfl)) (by kernel_rfl)
    ·let E7 : Env := [(8, .int .i64 1), (34, .bool false), (0, .str a0), (1, .int .i64 a1), (6, .int .i64 x0_3.1), (7, .int .i64 x0_3.2), (34, .bool z4)]
     refine oR 9 (p' := g78p10) (eE := E7) (H' := (mkH [])) (by kernel_rfl) ?_
     refine oK [0, 1, 6, 7, 8] (eE := [(0, .str a0), (1, .int .i64 a1), (6, .int .i64 x0_3.1), (7, .int .i64 x0_3.2), (8, .int .i64 1)]) (by kernel_rfl) ?_
     exact (g78_l5_ok k a0 a1 x0_3 k) x0_3.2 1
   ·refine oS 27 (b := decide (x0_3.1 = 0)) (by kernel_rfl) (fun hb => ?_) (fun hb => ?_)
    ·let E18 : Env := ((34, .bool true) :: (33, .tuple []) :: (32, .tuple []) :: (31, .tuple []) :: (30, .tuple []) :: (29, .tuple []) :: (28, .tuple []) :: (27, .bool true) :: E5)
     refine oR 8 (p' := g78p7) (eE := E18) (H' := (mkH [])) (by kernel_rfl) ?_
     refine oK [0, 1, 6, 7, 34] (eE := [(0, .str a0), (1, .int .i64 a1), (6, .int .i64 x0_3.1), (7, .int .i64 x0_3.2), (34, .bool true)]) (by kernel_rfl) ?_
     exact hj4 true
    ·let E19 : Env := ((34, .bool (decide (fW .i64 ((a0.length : Int) - a1) < x0_3.1))) :: (33, .bool (decide (fW .i64 ((a0.length : Int) - a1) < x0_3.1))) :: (32, .int .i64 (fW .i64 ((a0.length : Int) - a1))) :: (31, .int .i64 a1) :: (30, .int .i64 (a0.length : Int)) :: (29, .str a0) :: (28, .int .i64 x0_3.1) :: (27, .bool false) :: E5)
     refine oR 8 (p' := g78p7) (eE := E19) (H' := (mkH [])) (by kernel_rfl) ?_
     refine oK [0, 1, 6, 7, 34] (eE := [(0, .str a0), (1, .int .i64 a1), (6, .int .i64 x0_3.1), (7, .int .i64 x0_3.2), (34, .bool (decide (fW .i64 ((a0.length : Int) - a1) < x0_3.1)))]) (by kernel_rfl) ?_
     exact hj4 (decide (fW .i64 ((a0.length : Int) - a1) < x0_3.1))
 ·refine oS 12 (b := decide (a1 < 0)) (by kernel_rfl) (fun hb => ?_) (fun hb => ?_)
  ·let E20 : Env := ((17, .bool true) :: (16, .tuple []) :: (15, .tuple []) :: (14, .tuple []) :: (13, .tuple []) :: (12, .bool true) :: E1)
   refine oR 6 (p' := g78p2) (eE := E20) (H' := (mkH [])) (by kernel_rfl) ?_
   refine oK [0, 1, 17] (eE := [(0, .str a0), (1, .int .i64 a1), (17, .bool true)]) (by kernel_rfl) ?_
   exact hj3 true
  ·let E21 : Env := ((17, .bool (decide ((a0.length : Int) ≤ a1))) :: (16, .bool (decide ((a0.length : Int) ≤ a1))) :: (15, .int .i64 (a0.length : Int)) :: (14, .str a0) :: (13, .int .i64 a1) :: (12, .bool false) :: E1)
   refine oR 6 (p' := g78p2) (eE := E21) (H' := (mkH [])) (by kernel_rfl) ?_
   refine oK [0, 1, 17] (eE := [(0, .str a0), (1, .int .i64 a1), (17, .bool (decide ((a0.length : Int) ≤ a1)))]) (by kernel_rfl) ?_
   exact hj3 (decide ((a0.length : Int) ≤ a1))
end
end Go.Proofs.Ytabhkocokojddaa.Am
set_option maxRecDepth 100000
set_option linter.unusedVariables false
namespace Go.Proofs.Ytabhkocokojddaa.Am
open Go
theorem shrC_nat (x : Nat) (n : Nat) : shrC (x : Int) n = ((x / 2 ^ n : Nat) : Int) := by
 unfold shrC
 rw [Int.fdiv_eq_ediv_of_nonneg _ (by exact Int.le_of_lt (Int.pow_pos (by decide)))]
 push_cast
 rfl
def cpN (c : Nat) : Bool := decide (c ≤ 1114111) && !(decide (55296 ≤ c) && decide (c ≤ 57343))
end Go.Proofs.Ytabhkocokojddaa.Am
set_option maxRecDepth 100000
set_option linter.unusedVariables false
namespace Go.Proofs.Ytabhkocokojddaa.Am
noncomputable section
open Go
def X37 : Fx (Int × Int) := ⟨Try.prog, cx, Try.f37, fun r => .tuple [.int .u64 r.1, .int .i64 r.2], 0, fun _ => H0, cxTi, cxOrd⟩
def g37p0 : Pt := nav [0] (bodyAt Try.f37)
def g37p1 : Pt := nav [0, 0, 0, 0] g37p0
def g37p2 : Pt := nav [0, 0] g37p1
def g37p4 : Pt := nav [2, 0, 0] g37p2
def g37p6 : Pt := nav [0, 0, 0] g37p4
def g37p7 : Pt := nav [0, 0, 0, 0] g37p6
def g37p8 : Pt := nav [0, 0, 0, 0] g37p7
def g37p9 : Pt := nav [0, 0, 0] g37p8
def g37p10 : Pt := nav [0, 0] g37p9
def g37p11 : Pt := nav [1, 0, 0, 0, 0, 0] g37p10
def g37p12 : Pt := nav [2, 0, 0, 0] g37p10
def g37p13 : Pt := nav [0, 0] g37p11
def g37p14 : Pt := nav [0, 0] g37p12
def g37p15 : Pt := nav [1, 0] g37p13
def g37p16 : Pt := nav [2, 0, 0] g37p13
def g37p19 : Pt := nav [0, 0, 0] g37p16
def g37p20 : Pt := nav [0, 0, 0] g37p19
def g37p21 : Pt := nav [0, 0] g37p20
def g37_l5 (k : Nat)  (a0 : (List Nat)) (x1_1 : (Int × Int)) (n : Nat) : Int → Bool → Int → Option (Int × Int) :=
 Nat.rec (motive := fun _ => Int → Bool → Int → Option (Int × Int)) (fun _ _ _ => none) (fun _ ih => fun (y5_0 : Int) (y5_1 : Bool) (y5_2 : Int) => if (decide (y5_2 < (a0.length : Int))) then ((nthS a0 y5_2).bind fun x2_2 => jn (fun (z6 : Int × Bool × Int) => ih z6.1 z6.2.1 (fW .i64 (z6.2.2 + 1))) (fun j6 => if (decide (x2_2 = 95)) then (j6 (y5_0, y5_1, y5_2)) else ((nthS a0 y5_2).bind fun x3_13 => (g75 k x3_13).bind fun x3_14 => jn (fun (z7 : Bool × Int × Int × Int) => j6 (orI .u64 (shlC .u64 z7.2.2.1 32) (shrC (shlC .u64 z7.2.2.2 32) 32), z7.1, z7.2.1)) (fun j7 => if y5_1 then (j7 (true, y5_2, fW .u64 (fW .u64 (shrC y5_0 32 * fW .u64 x1_1.2) + shrC (fW .u64 (fW .u64 (shrC (shlC .u64 y5_0 32) 32 * fW .u64 x1_1.2) + fW .u64 x3_14)) 32), fW .u64 (fW .u64 (shrC (shlC .u64 y5_0 32) 32 * fW .u64 x1_1.2) + fW .u64 x3_14))) else (j7 (!decide (shrC (fW .u64 (fW .u64 (shrC y5_0 32 * fW .u64 x1_1.2) + shrC (fW .u64 (fW .u64 (shrC (shlC .u64 y5_0 32) 32 * fW .u64 x1_1.2) + fW .u64 x3_14)) 32)) 32 = 0), y5_2, fW .u64 (fW .u64 (shrC y5_0 32 * fW .u64 x1_1.2) + shrC (fW .u64 (fW .u64 (shrC (shlC .u64 y5_0 32) 32 * fW .u64 x1_1.2) + fW .u64 x3_14)) 32), fW .u64 (fW .u64 (shrC (shlC .u64 y5_0 32) 32 * fW .u64 x1_1.2) + fW .u64 x3_14))))))) else (if y5_1 then (some ((0 : Int), (6 : Int))) else (some (y5_0, (0 : Int))))) n
theorem g37_l5_s (k : Nat)  (a0 : (List Nat)) (x1_1 : (Int × Int)) (n : Nat) (y5_0 : Int) (y5_1 : Bool) (y5_2 : Int) : g37_l5 k a0 x1_1 (n + 1) y5_0 y5_1 y5_2 = (if (decide (y5_2 < (a0.length : Int))) then ((nthS a0 y5_2).bind fun x2_2 => jn (fun (z6 : Int × Bool × Int) => (g37_l5 k a0 x1_1 n) z6.1 z6.2.1 (fW .i64 (z6.2.2 + 1))) (fun j6 => if (decide (x2_2 = 95)) then (j6 (y5_0, y5_1, y5_2)) else ((nthS a0 y5_2).bind fun x3_13 => (g75 k x3_13).bind fun x3_14 => jn (fun (z7 : Bool × Int × Int × Int) => j6 (orI .u64 (shlC .u64 z7.2.2.1 32) (shrC (shlC .u64 z7.2.2.2 32) 32), z7.1, z7.2.1)) (fun j7 => if y5_1 then (j7 (true, y5_2, fW .u64 (fW .u64 (shrC y5_0 32 * fW .u64 x1_1.2) + shrC (fW .u64 (fW .u64 (shrC (shlC .u64 y5_0 32) 32 * fW .u64 x1_1.2) + fW .u64 x3_14)) 32), fW .u64 (fW .u64 (shrC (shlC .u64 y5_0 32) 32 * fW .u64 x1_1.2) + fW .u64 x3_14))) else (j7 (!decide (shrC (fW .u64 (fW .u64 (shrC y5_0 32 * fW .u64 x1_1.2) + shrC (fW .u64 (fW .u64 (shrC (shlC .u64 y5_0 32) 32 * fW .u64 x1_1.2) + fW .u64 x3_14)) 32)) 32 = 0), y5_2, fW .u64 (fW .u64 (shrC y5_0 32 * fW .u64 x1_1.2) + shrC (fW .u64 (fW .u64 (shrC (shlC .u64 y5_0 32) 32 * fW .u64 x1_1.2) + fW .u64 x3_14)) 32), fW .u64 (fW .u64 (shrC (shlC .u64 y5_0 32) 32 * fW .u64 x1_1.2) + fW .u64 x3_14))))))) else (if y5_1 then (some ((0 : Int), (6 : Int))) else (some (y5_0, (0 : Int))))) := rfl
theorem g37_l5_ok (k : Nat)  (a0 : (List Nat)) (x1_1 : (Int × Int))  : ∀ (n : Nat) (y5_0 : Int) (y5_1 : Bool) (y5_2 : Int), Ok X37 g37p8 [(0, .str a0), (5, .int .i64 x1_1.2), (6, .int .u64 y5_0), (7, .bool y5_1), (8, .int .i64 y5_2)] (mkH []) (g37_l5 k a0 x1_1 n y5_0 y5_1 y5_2)
 | 0, _, _, _ => ok_none
 | n + 1, y5_0, y5_1, y5_2 => by
  have ih := g37_l5_ok k a0 x1_1 n
  rw [g37_l5_s]
  refine ok_ent (p' := nav [0] g37p8) (by kernel_rfl) ?_
  let E5 : Env := [(29, .bool (decide (y5_2 < (a0.length : Int)))), (28, .int .i64 (a0.length : Int)), (27, .str a0), (26, .int .i64 y5_2), (0, .str a0), (5, .int .i64 x1_1.2), (6, .int .u64 y5_0), (7, .bool y5_1), (8, .int .i64 y5_2)]
  refine oR 8 (p' := g37p10) (eE := E5) (H' := (mkH [])) (by kernel_rfl) ?_
  refine oS 29 (b := decide (y5_2 < (a0.length : Int))) (by kernel_rfl) (fun hb => ?_) (fun hb => ?_)
  ·refine oR 9 (p' := (atN 2 (ctl1 g37p11))) (eE := ((33, .int .i64 y5_2) :: (32, .str a0) :: (29, .bool true) :: E5)) (H' := (mkH [])) (by kernel_rfl) ?_
   refine oH (fun (x2_2 : Int) => (.int .u8 x2_2, (mkH []))) (atN 3 (ctl1 g37p11)) (fun x2_2 => ((34, .int .u8 x2_2) :: (33, .int .i64 y5_2) :: (32, .str a0) :: (29, .bool true) :: E5)) (idxH (by kernel_rfl)) (fun _ => by kernel_rfl) (fun x2_2 hx2_2 => ?_)
   let E6 : Env := ((35, .bool (decide (x2_2 = 95))) :: (34, .int .u8 x2_2) :: (33, .int .i64 y5_2) :: (32, .str a0) :: (29, .bool true) :: E5)
   refine oR 2 (p' := g37p13) (eE := E6) (H' := (mkH [])) (by kernel_rfl) ?_
   refine oK [0, 5, 6, 7, 8, 35] (eE := [(0, .str a0), (5, .int .i64 x1_1.2), (6, .int .u64 y5_0), (7, .bool y5_1), (8, .int .i64 y5_2), (35, .bool (decide (x2_2 = 95)))]) (by kernel_rfl) ?_
   refine oJ (f := fun (z6 : Int × Bool × Int) => (g37_l5 k a0 x1_1 n) z6.1 z6.2.1 (fW .i64 (z6.2.2 + 1))) g37p15 (fun (z6 : Int × Bool × Int) => [(0, .str a0), (5, .int .i64 x1_1.2), (6, .int .u64 z6.1), (7, .bool z6.2.1), (8, .int .i64 z6.2.2)]) (fun (z6 : Int × Bool × Int) => (mkH [])) (fun z6 => ?_) (fun j6 hj6 => ?_)
   ·let E7 : Env := [(8, .int .i64 (fW .i64 (z6.2.2 + 1))), (31, .int .i64 (fW .i64 (z6.2.2 + 1))), (30, .int .i64 z6.2.2), (0, .str a0), (5, .int .i64 x1_1.2), (6, .int .u64 z6.1), (7, .bool z6.2.1), (8, .int .i64 z6.2.2)]
    refine oR 5 (p' := g37p8) (eE := E7) (H' := (mkH [])) (by kernel_rfl) ?_
    refine oK [0, 5, 6, 7, 8] (eE := [(0, .str a0), (5, .int .i64 x1_1.2), (6, .int .u64 z6.1), (7, .bool z6.2.1), (8, .int .i64 (fW .i64 (z6.2.2 + 1)))]) (by kernel_rfl) ?_
    exact ih z6.1 z6.2.1 (fW .i64 (z6.2.2 + 1))
   ·refine oS 35 (b := decide (x2_2 = 95)) (by kernel_rfl) (fun hb => ?_) (fun hb => ?_)
    ·let E8 : Env := [(35, .bool true), (0, .str a0), (5, .int .i64 x1_1.2), (6, .int .u64 y5_0), (7, .bool y5_1), (8, .int .i64 y5_2), (35, .bool (decide (x2_2 = 95)))]
     refine oR 2 (p' := g37p15) (eE := E8) (H' := (mkH [])) (by kernel_rfl) ?_
     refine oK [0, 5, 6, 7, 8] (eE := [(0, .str a0), (5, .int .i64 x1_1.2), (6, .int .u64 y5_0), (7, .bool y5_1), (8, .int .i64 y5_2)]) (by kernel_rfl) ?_
     exact hj6 (y5_0, y5_1, y5_2)
    ·let E9 : Env := [(48, .int .i64 y5_2), (47, .str a0), (46, .int .u64 (fW .u64 (shrC (shlC .u64 y5_0 32) 32 * fW .u64 x1_1.2))), (45, .int .u64 (fW .u64 x1_1.2)), (44, .int .i64 x1_1.2), (43, .int .u64 (shrC (shlC .u64 y5_0 32) 32)), (42, .int .u64 (shlC .u64 y5_0 32)), (41, .int .u64 y5_0), (40, .int .u64 (fW .u64 (shrC y5_0 32 * fW .u64 x1_1.2))), (39, .int .u64 (fW .u64 x1_1.2)), (38, .int .i64 x1_1.2), (37, .int .u64 (shrC y5_0 32)), (36, .int .u64 y5_0), (35, .bool false), (0, .str a0), (5, .int .i64 x1_1.2), (6, .int .u64 y5_0), (7, .bool y5_1), (8, .int .i64 y5_2), (35, .bool (decide (x2_2 = 95)))]
     refine oR 17 (p' := (atN 13 (ctl1 g37p16))) (eE := E9) (H' := (mkH [])) (by kernel_rfl) ?_
     refine oH (fun (x3_13 : Int) => (.int .u8 x3_13, (mkH []))) (atN 14 (ctl1 g37p16)) (fun x3_13 => ((49, .int .u8 x3_13) :: E9)) (idxH (by kernel_rfl)) (fun _ => by kernel_rfl) (fun x3_13 hx3_13 => ?_)
     refine oC (fun (x3_14 : Int) => .int .i64 x3_14) (atN 15 (ctl1 g37p16)) (fun x3_14 => ((50, .int .i64 x3_14) :: (49, .int .u8 x3_13) :: E9)) (fi := 75) (args := [.int .u8 x3_13]) (by kernel_rfl) (by kernel_rfl) (fun _ => by kernel_rfl) (fun r h => g75_ok k x3_13 r h) (fun _ => by kernel_rfl) (fun x3_14 hx3_14 => ?_)
     let E10 : Env := ((10, .int .u64 (fW .u64 (fW .u64 (shrC (shlC .u64 y5_0 32) 32 * fW .u64 x1_1.2) + fW .u64 x3_14))) :: (9, .int .u64 (fW .u64 (shrC y5_0 32 * fW .u64 x1_1.2))) :: (52, .int .u64 (fW .u64 (fW .u64 (shrC (shlC .u64 y5_0 32) 32 * fW .u64 x1_1.2) + fW .u64 x3_14))) :: (51, .int .u64 (fW .u64 x3_14)) :: (50, .int .i64 x3_14) :: (49, .int .u8 x3_13) :: E9)
     refine oR 6 (p' := g37p19) (eE := E10) (H' := (mkH [])) (by kernel_rfl) ?_
     refine oK [0, 5, 7, 8, 9, 10] (eE := [(0, .str a0), (5, .int .i64 x1_1.2), (7, .bool y5_1), (8, .int .i64 y5_2), (9, .int .u64 (fW .u64 (shrC y5_0 32 * fW .u64 x1_1.2))), (10, .int .u64 (fW .u64 (fW .u64 (shrC (shlC .u64 y5_0 32) 32 * fW .u64 x1_1.2) + fW .u64 x3_14)))]) (by kernel_rfl) ?_
     let E11 : Env := [(58, .bool y5_1), (57, .bool y5_1), (9, .int .u64 (fW .u64 (fW .u64 (shrC y5_0 32 * fW .u64 x1_1.2) + shrC (fW .u64 (fW .u64 (shrC (shlC .u64 y5_0 32) 32 * fW .u64 x1_1.2) + fW .u64 x3_14)) 32))), (56, .int .u64 (fW .u64 (fW .u64 (shrC y5_0 32 * fW .u64 x1_1.2) + shrC (fW .u64 (fW .u64 (shrC (shlC .u64 y5_0 32) 32 * fW .u64 x1_1.2) + fW .u64 x3_14)) 32))), (55, .int .u64 (shrC (fW .u64 (fW .u64 (shrC (shlC .u64 y5_0 32) 32 * fW .u64 x1_1.2) + fW .u64 x3_14)) 32)), (54, .int .u64 (fW .u64 (fW .u64 (shrC (shlC .u64 y5_0 32) 32 * fW .u64 x1_1.2) + fW .u64 x3_14))), (53, .int .u64 (fW .u64 (shrC y5_0 32 * fW .u64 x1_1.2))), (0, .str a0), (5, .int .i64 x1_1.2), (7, .bool y5_1), (8, .int .i64 y5_2), (9, .int .u64 (fW .u64 (shrC y5_0 32 * fW .u64 x1_1.2))), (10, .int .u64 (fW .u64 (fW .u64 (shrC (shlC .u64 y5_0 32) 32 * fW .u64 x1_1.2) + fW .u64 x3_14)))]
     refine oR 11 (p' := (atN 2 (ctl1 g37p20))) (eE := E11) (H' := (mkH [])) (by kernel_rfl) ?_
     refine oJ (f := fun (z7 : Bool × Int × Int × Int) => j6 (orI .u64 (shlC .u64 z7.2.2.1 32) (shrC (shlC .u64 z7.2.2.2 32) 32), z7.1, z7.2.1)) g37p21 (fun (z7 : Bool × Int × Int × Int) => [(0, .str a0), (5, .int .i64 x1_1.2), (7, .bool z7.1), (8, .int .i64 z7.2.1), (9, .int .u64 z7.2.2.1), (10, .int .u64 z7.2.2.2)]) (fun (z7 : Bool × Int × Int × Int) => (mkH [])) (fun z7 => ?_) (fun j7 hj7 => ?_)
     ·let E12 : Env := [(6, .int .u64 (orI .u64 (shlC .u64 z7.2.2.1 32) (shrC (shlC .u64 z7.2.2.2 32) 32))), (68, .int .u64 (orI .u64 (shlC .u64 z7.2.2.1 32) (shrC (shlC .u64 z7.2.2.2 32) 32))), (67, .int .u64 (shrC (shlC .u64 z7.2.2.2 32) 32)), (66, .int .u64 (shlC .u64 z7.2.2.2 32)), (65, .int .u64 z7.2.2.2), (64, .int .u64 (shlC .u64 z7.2.2.1 32)), (63, .int .u64 z7.2.2.1), (0, .str a0), (5, .int .i64 x1_1.2), (7, .bool z7.1), (8, .int .i64 z7.2.1), (9, .int .u64 z7.2.2.1), (10, .int .u64 z7.2.2.2)]
      refine oR 9 (p' := g37p15) (eE := E12) (H' := (mkH [])) (by kernel_rfl) ?_
      refine oK [0, 5, 6, 7, 8] (eE := [(0, .str a0), (5, .int .i64 x1_1.2), (6, .int .u64 (orI .u64 (shlC .u64 z7.2.2.1 32) (shrC (shlC .u64 z7.2.2.2 32) 32))), (7, .bool z7.1), (8, .int .i64 z7.2.1)]) (by kernel_rfl) ?_
      exact hj6 (orI .u64 (shlC .u64 z7.2.2.1 32) (shrC (shlC .u64 z7.2.2.2 32) 32), z7.1, z7.2.1)
     ·refine oS 58 (b := y5_1) (by kernel_rfl) (fun hb => ?_) (fun hb => ?_)
      ·let E13 : Env := ((7, .bool true) :: (62, .bool true) :: (61, .tuple []) :: (60, .tuple []) :: (59, .tuple []) :: (58, .bool true) :: E11)
       refine oR 6 (p' := g37p21) (eE := E13) (H' := (mkH [])) (by kernel_rfl) ?_
       refine oK [0, 5, 7, 8, 9, 10] (eE := [(0, .str a0), (5, .int .i64 x1_1.2), (7, .bool true), (8, .int .i64 y5_2), (9, .int .u64 (fW .u64 (fW .u64 (shrC y5_0 32 * fW .u64 x1_1.2) + shrC (fW .u64 (fW .u64 (shrC (shlC .u64 y5_0 32) 32 * fW .u64 x1_1.2) + fW .u64 x3_14)) 32))), (10, .int .u64 (fW .u64 (fW .u64 (shrC (shlC .u64 y5_0 32) 32 * fW .u64 x1_1.2) + fW .u64 x3_14)))]) (by kernel_rfl) ?_
       exact hj7 (true, y5_2, fW .u64 (fW .u64 (shrC y5_0 32 * fW .u64 x1_1.2) + shrC (fW .u64 (fW .u64 (shrC (shlC .u64 y5_0 32) 32 * fW .u64 x1_1.2) + fW .u64 x3_14)) 32), fW .u64 (fW .u64 (shrC (shlC .u64 y5_0 32) 32 * fW .u64 x1_1.2) + fW .u64 x3_14))
      ·let E14 : Env := ((7, .bool (!decide (shrC (fW .u64 (fW .u64 (shrC y5_0 32 * fW .u64 x1_1.2) + shrC (fW .u64 (fW .u64 (shrC (shlC .u64 y5_0 32) 32 * fW .u64 x1_1.2) + fW .u64 x3_14)) 32)) 32 = 0))) :: (62, .bool (!decide (shrC (fW .u64 (fW .u64 (shrC y5_0 32 * fW .u64 x1_1.2) + shrC (fW .u64 (fW .u64 (shrC (shlC .u64 y5_0 32) 32 * fW .u64 x1_1.2) + fW .u64 x3_14)) 32)) 32 = 0))) :: (61, .bool (!decide (shrC (fW .u64 (fW .u64 (shrC y5_0 32 * fW .u64 x1_1.2) + shrC (fW .u64 (fW .u64 (shrC (shlC .u64 y5_0 32) 32 * fW .u64 x1_1.2) + fW .u64 x3_14)) 32)) 32 = 0))) :: (60, .int .u64 (shrC (fW .u64 (fW .u64 (shrC y5_0 32 * fW .u64 x1_1.2) + shrC (fW .u64 (fW .u64 (shrC (shlC .u64 y5_0 32) 32 * fW .u64 x1_1.2) + fW .u64 x3_14)) 32)) 32)) :: (59, .int .u64 (fW .u64 (fW .u64 (shrC y5_0 32 * fW .u64 x1_1.2) + shrC (fW .u64 (fW .u64 (shrC (shlC .u64 y5_0 32) 32 * fW .u64 x1_1.2) + fW .u64 x3_14)) 32))) :: (58, .bool false) :: E11)
       refine oR 6 (p' := g37p21) (eE := E14) (H' := (mkH [])) (by kernel_rfl) ?_
       refine oK [0, 5, 7, 8, 9, 10] (eE := [(0, .str a0), (5, .int .i64 x1_1.2), (7, .bool (!decide (shrC (fW .u64 (fW .u64 (shrC y5_0 32 * fW .u64 x1_1.2) + shrC (fW .u64 (fW .u64 (shrC (shlC .u64 y5_0 32) 32 * fW .u64 x1_1.2) + fW .u64 x3_14)) 32)) 32 = 0))), (8, .int .i64 y5_2), (9, .int .u64 (fW .u64 (fW .u64 (shrC y5_0 32 * fW .u64 x1_1.2) + shrC (fW .u64 (fW .u64 (shrC (shlC .u64 y5_0 32) 32 * fW .u64 x1_1.2) + fW .u64 x3_14)) 32))), (10, .int .u64 (fW .u64 (fW .u64 (shrC (shlC .u64 y5_0 32) 32 * fW .u64 x1_1.2) + fW .u64 x3_14)))]) (by kernel_rfl) ?_
       exact hj7 (!decide (shrC (fW .u64 (fW .u64 (shrC y5_0 32 * fW .u64 x1_1.2) + shrC (fW .u64 (fW .u64 (shrC (shlC .u64 y5_0 32) 32 * fW .u64 x1_1.2) + fW .u64 x3_14)) 32)) 32 = 0), y5_2, fW .u64 (fW .u64 (shrC y5_0 32 * fW .u64 x1_1.2) + shrC (fW .u64 (fW .u64 (shrC (shlC .u64 y5_0 32) 32 * fW .u64 x1_1.2) + fW .u64 x3_14)) 32), fW .u64 (fW .u64 (shrC (shlC .u64 y5_0 32) 32 * fW .u64 x1_1.2) + fW .u64 x3_14))
  ·refine oR 7 (p' := g37p14) (eE := ((69, .bool y5_1) :: (29, .bool false) :: E5)) (H' := (mkH [])) (by kernel_rfl) ?_
   refine oK [6, 69] (eE := [(6, .int .u64 y5_0), (69, .bool y5_1)]) (by kernel_rfl) ?_
   refine oS 69 (b := y5_1) (by kernel_rfl) (fun hb => ?_) (fun hb => ?_)
   ·let E15 : Env := [(3, .int .i64 6), (2, .int .u64 0), (69, .bool true), (6, .int .u64 y5_0), (69, .bool y5_1)]
    refine oR 7 (p' := .fin) (eE := E15) (H' := (mkH [])) (by kernel_rfl) ?_
    exact oT (r := ((0 : Int), (6 : Int))) (xs := [.int .u64 0, .int .i64 6]) (v := .tuple [.int .u64 0, .int .i64 6]) (by kernel_rfl) (by kernel_rfl) (by kernel_rfl) (.pures (by kernel_rfl)) (by kernel_rfl)
   ·let E16 : Env := [(3, .int .i64 0), (2, .int .u64 y5_0), (70, .int .u64 y5_0), (69, .bool false), (6, .int .u64 y5_0), (69, .bool y5_1)]
    refine oR 9 (p' := .fin) (eE := E16) (H' := (mkH [])) (by kernel_rfl) ?_
    exact oT (r := (y5_0, (0 : Int))) (xs := [.int .u64 y5_0, .int .i64 0]) (v := .tuple [.int .u64 y5_0, .int .i64 0]) (by kernel_rfl) (by kernel_rfl) (by kernel_rfl) (.pures (by kernel_rfl)) (by kernel_rfl)
def g37 (k : Nat) (a0 : (List Nat)) : Option (Int × Int) :=
 jn (fun (z4 : Bool) => if z4 then (some ((0 : Int), (8 : Int))) else ((g74 k a0).bind fun x1_1 => g37_l5 k a0 x1_1 k 0 false x1_1.1)) (fun j4 => if (eqL a0 []) then (j4 true) else ((g73 k a0).bind fun x0_4 => j4 (!decide (x0_4 = (a0.length : Int)))))
theorem g37_ok (k : Nat) (a0 : (List Nat)) (r : (Int × Int)) (h : g37 k a0 = some r) : PureOk Try.prog 37 [.str a0] (.tuple [.int .u64 r.1, .int .i64 r.2]) := by
 refine pure_of X37 (fun _ => rfl) Try.func37 (by decide +kernel) (by kernel_rfl) (t := g37 k a0) ?_ h
 unfold g37
 refine oE (eE := [(0, .str a0)]) (by kernel_rfl) ?_
 let E1 : Env := [(13, .bool (eqL a0 [])), (12, .bool (eqL a0 [])), (11, .str a0), (3, .int .i64 0), (2, .int .u64 0), (0, .str a0)]
 refine oR 11 (p' := (atN 3 (ctl1 g37p1))) (eE := E1) (H' := (mkH [])) (by kernel_rfl) ?_
 refine oJ (f := fun (z4 : Bool) => if z4 then (some ((0 : Int), (8 : Int))) else ((g74 k a0).bind fun x1_1 => g37_l5 k a0 x1_1 k 0 false x1_1.1)) g37p2 (fun (z4 : Bool) => [(0, .str a0), (19, .bool z4)]) (fun (z4 : Bool) => (mkH [])) (fun z4 => ?_) (fun j4 hj4 => ?_)
 ·refine oS 19 (b := z4) (by kernel_rfl) (fun hb => ?_) (fun hb => ?_)
  ·let E2 : Env := [(3, .int .i64 8), (2, .int .u64 0), (19, .bool true), (0, .str a0), (19, .bool z4)]
   refine oR 7 (p' := .fin) (eE := E2) (H' := (mkH [])) (by kernel_rfl) ?_
   exact oT (r := ((0 : Int), (8 : Int))) (xs := [.int .u64 0, .int .i64 8]) (v := .tuple [.int .u64 0, .int .i64 8]) (by kernel_rfl) (by kernel_rfl) (by kernel_rfl) (.pures (by kernel_rfl)) (by kernel_rfl)
  ·refine oR 5 (p' := (atN 1 (ctl1 g37p4))) (eE := [(21, .str a0), (19, .bool false), (0, .str a0), (19, .bool z4)]) (H' := (mkH [])) (by kernel_rfl) ?_
   refine oC (fun (x1_1 : (Int × Int)) => .tuple [.int .i64 x1_1.1, .int .i64 x1_1.2]) (atN 2 (ctl1 g37p4)) (fun x1_1 => [(22, .tuple [.int .i64 x1_1.1, .int .i64 x1_1.2]), (21, .str a0), (19, .bool false), (0, .str a0), (19, .bool z4)]) (fi := 74) (args := [.str a0]) (by kernel_rfl) (by kernel_rfl) (fun _ => by kernel_rfl) (fun r h => g74_ok k a0 r h) (fun _ => by kernel_rfl) (fun x1_1 hx1_1 => ?_)
   let E3 : Env := [(5, .int .i64 x1_1.2), (4, .int .i64 x1_1.1), (24, .int .i64 x1_1.2), (23, .int .i64 x1_1.1), (20, .tuple [.int .i64 x1_1.1, .int .i64 x1_1.2]), (22, .tuple [.int .i64 x1_1.1, .int .i64 x1_1.2]), (21, .str a0), (19, .bool false), (0, .str a0), (19, .bool z4)]
   refine oR 7 (p' := g37p6) (eE := E3) (H' := (mkH [])) (by kernel_rfl) ?_
   refine oK [0, 4, 5] (eE := [(0, .str a0), (4, .int .i64 x1_1.1), (5, .int .i64 x1_1.2)]) (by kernel_rfl) ?_
   let E4 : Env := [(8, .int .i64 x1_1.1), (25, .int .i64 x1_1.1), (7, .bool false), (6, .int .u64 0), (0, .str a0), (4, .int .i64 x1_1.1), (5, .int .i64 x1_1.2)]
   refine oR 12 (p' := g37p8) (eE := E4) (H' := (mkH [])) (by kernel_rfl) ?_
   refine oK [0, 5, 6, 7, 8] (eE := [(0, .str a0), (5, .int .i64 x1_1.2), (6, .int .u64 0), (7, .bool false), (8, .int .i64 x1_1.1)]) (by kernel_rfl) ?_
   exact (g37_l5_ok k a0 x1_1 k) 0 false x1_1.1
 ·refine oS 13 (b := eqL a0 []) (by kernel_rfl) (fun hb => ?_) (fun hb => ?_)
  ·let E17 : Env := ((19, .bool true) :: (18, .tuple []) :: (17, .tuple []) :: (16, .tuple []) :: (15, .tuple []) :: (14, .tuple []) :: (13, .bool true) :: E1)
   refine oR 7 (p' := g37p2) (eE := E17) (H' := (mkH [])) (by kernel_rfl) ?_
   refine oK [0, 19] (eE := [(0, .str a0), (19, .bool true)]) (by kernel_rfl) ?_
   exact hj4 true
  ·refine oR 1 (p' := (atN 4 (ctl1 g37p1))) (eE := ((14, .str a0) :: (13, .bool false) :: E1)) (H' := (mkH [])) (by kernel_rfl) ?_
   refine oC (fun (x0_4 : Int) => .int .i64 x0_4) (atN 5 (ctl1 g37p1)) (fun x0_4 => ((15, .int .i64 x0_4) :: (14, .str a0) :: (13, .bool false) :: E1)) (fi := 73) (args := [.str a0]) (by kernel_rfl) (by kernel_rfl) (fun _ => by kernel_rfl) (fun r h => g73_ok k a0 r h) (fun _ => by kernel_rfl) (fun x0_4 hx0_4 => ?_)
   let E18 : Env := ((19, .bool (!decide (x0_4 = (a0.length : Int)))) :: (18, .bool (!decide (x0_4 = (a0.length : Int)))) :: (17, .int .i64 (a0.length : Int)) :: (16, .str a0) :: (15, .int .i64 x0_4) :: (14, .str a0) :: (13, .bool false) :: E1)
   refine oR 5 (p' := g37p2) (eE := E18) (H' := (mkH [])) (by kernel_rfl) ?_
   refine oK [0, 19] (eE := [(0, .str a0), (19, .bool (!decide (x0_4 = (a0.length : Int))))]) (by kernel_rfl) ?_
   exact hj4 (!decide (x0_4 = (a0.length : Int)))
end
end Go.Proofs.Ytabhkocokojddaa.Am
set_option maxRecDepth 100000
set_option linter.unusedVariables false
set_option linter.unusedSimpArgs false
namespace Go.Proofs.Ytabhkocokojddaa.Am
open Go
theorem front_v' (s : List Nat) : frontN s = (0, 10) ∨ ∃ m r, s.drop m = 35 :: r := by
 unfold frontN
 split
 ·rename_i a b r
  split
  ·split
   ·rename_i hb; subst hb
    exact .inr ⟨1, r, rfl⟩
   ·split
    ·split
     ·rename_i c r'
      split
      ·rename_i hx; obtain ⟨rfl, -⟩ := hx
       exact .inr ⟨2, r', rfl⟩
      ·exact .inl rfl
     ·exact .inl rfl
    ·exact .inl rfl
  ·exact .inl rfl
 ·exact .inl rfl
def valO (b : Nat) : Nat → List Nat → Option Nat
 | v, [] => some v
 | v, c :: r => if c = 95 then valO b v r else if v * b + dgN c < 18446744073709551616 then valO b (v * b + dgN c) r else none
def intN (s : List Nat) : Int × Int := if s = [] ∨ wholeN s ≠ s.length then (0, 8) else match valO (frontN s).2 0 (s.drop (frontN s).1) with | some v => ((v : Int), 0) | none => (0, 6)
theorem fu {n : Int} (h1 : 0 ≤ n) (h2 : n < 18446744073709551616) : fW .u64 n = n := by rw [fwrap_u64, Int.emod_eq_of_lt h1 h2]
theorem shl32 (x : Nat) : shlC .u64 (x : Int) 32 = ((x * 4294967296 % 18446744073709551616 : Nat) : Int) := by
 unfold shlC
 rw [fwrap_u64]
 have : (x : Int) * 2 ^ 32 = ((x * 4294967296 : Nat) : Int) := by
  rw [show (2 : Int) ^ 32 = 4294967296 from rfl]; exact (Int.natCast_mul x 4294967296).symm
 rw [this]; omega
theorem or32u {a m : Nat} (ha : a < 4294967296) (hm : m < 4294967296) : orI .u64 ((a * 4294967296 : Nat) : Int) (m : Int) = ((a * 4294967296 + m : Nat) : Int) := by
 unfold orI
 have e2 : ∀ x : Nat, x < 18446744073709551616 → (BitVec.ofInt IntKind.u64.bits (x : Int)).toNat = x := by
  intro x hx
  show (BitVec.ofInt 64 (x : Int)).toNat = x
  rw [BitVec.toNat_ofInt]
  omega
 rw [BitVec.toNat_or, e2 _ (by omega), e2 _ (by omega)]
 have e3 : a * 4294967296 ||| m = a * 4294967296 + m := by
  have h := Nat.two_pow_add_eq_or_of_lt (i := 32) (b := m) (by omega) a
  rw [Nat.mul_comm a 4294967296]
  exact h.symm
 rw [e3, fu (by omega) (by omega)]
theorem halves {v b d : Nat} (hv : v < 18446744073709551616) (hb : b ≤ 36) (hd : d ≤ 99) :
 shrC (v : Int) 32 = ((v / 4294967296 : Nat) : Int) ∧ shrC (shlC .u64 (v : Int) 32) 32 = ((v % 4294967296 : Nat) : Int) ∧
 fW .u64 (fW .u64 (((v % 4294967296 : Nat) : Int) * fW .u64 (b : Int)) + fW .u64 (d : Int)) = ((v % 4294967296 * b + d : Nat) : Int) ∧
 shrC (((v % 4294967296 * b + d : Nat) : Int)) 32 = (((v % 4294967296 * b + d) / 4294967296 : Nat) : Int) ∧
 fW .u64 (fW .u64 (((v / 4294967296 : Nat) : Int) * fW .u64 (b : Int)) + (((v % 4294967296 * b + d) / 4294967296 : Nat) : Int)) = ((v / 4294967296 * b + (v % 4294967296 * b + d) / 4294967296 : Nat) : Int) := by
 have p : (2 : Nat) ^ 32 = 4294967296 := rfl
 have hl : v % 4294967296 < 4294967296 := Nat.mod_lt _ (by decide)
 have hh : v / 4294967296 < 4294967296 := by omega
 have m1 : v % 4294967296 * b ≤ 4294967296 * 36 := Nat.mul_le_mul (Nat.le_of_lt hl) hb
 have m2 : v / 4294967296 * b ≤ 4294967296 * 36 := Nat.mul_le_mul (Nat.le_of_lt hh) hb
 refine ⟨by rw [shrC_nat, p], ?_, ?_, by rw [shrC_nat, p], ?_⟩
 ·rw [shl32, shrC_nat, p]
  congr 1
  omega
 ·rw [fu (n := (b : Int)) (by omega) (by omega), fu (n := (d : Int)) (by omega) (by omega)]
  have e : ((v % 4294967296 : Nat) : Int) * (b : Int) = ((v % 4294967296 * b : Nat) : Int) := (Int.natCast_mul _ _).symm
  rw [e, fu (n := ((v % 4294967296 * b : Nat) : Int)) (by omega) (by omega)]
  have e2 : ((v % 4294967296 * b : Nat) : Int) + (d : Int) = ((v % 4294967296 * b + d : Nat) : Int) := (Int.natCast_add _ _).symm
  rw [e2, fu (by omega) (by omega)]
 ·rw [fu (n := (b : Int)) (by omega) (by omega)]
  have e : ((v / 4294967296 : Nat) : Int) * (b : Int) = ((v / 4294967296 * b : Nat) : Int) := (Int.natCast_mul _ _).symm
  rw [e, fu (n := ((v / 4294967296 * b : Nat) : Int)) (by omega) (by omega)]
  have e2 : ((v / 4294967296 * b : Nat) : Int) + (((v % 4294967296 * b + d) / 4294967296 : Nat) : Int) = ((v / 4294967296 * b + (v % 4294967296 * b + d) / 4294967296 : Nat) : Int) := (Int.natCast_add _ _).symm
  rw [e2, fu (by omega) (by omega)]
theorem whole_v {v b d : Nat} : v * b + d = (v / 4294967296 * b + (v % 4294967296 * b + d) / 4294967296) * 4294967296 + (v % 4294967296 * b + d) % 4294967296 := by
 have h1 : v * b = v / 4294967296 * b * 4294967296 + v % 4294967296 * b := by
  conv => lhs; rw [← Nat.div_add_mod v 4294967296]
  rw [Nat.add_mul, Nat.mul_comm 4294967296, Nat.mul_assoc, Nat.mul_comm 4294967296, ← Nat.mul_assoc]
 generalize v / 4294967296 * b = A at *
 generalize v % 4294967296 * b = B at *
 omega
theorem int_over (k : Nat) {s : List Nat} (hs : By s) (hl : Sz s) (x1 : Int × Int) : ∀ (f i : Nat) (y : Int), s.length < i + f → i ≤ s.length → g37_l5 k s x1 f y true (i : Int) = some (0, 6)
 | 0, i, y, h, h2 => by omega
 | f + 1, i, y, h, h2 => by
  have hl' := hl
  unfold Sz at hl
  rw [g37_l5_s]
  rcases Nat.lt_or_ge i s.length with hi | hi
  ·obtain ⟨c, r, hc, hr, hm, hrl⟩ := dcons hi
   have nc := nthX (x := (i : Int)) rfl hc
   have ih := fun y => int_over k hs hl' x1 f (i + 1) y (by omega) (by omega)
   refine iT (dT (by omega)) ?_
   refine bS (by (try simp (disch := omega) only [fwI]); exact nc) ?_
   by_cases h95 : c = 95
   ·refine (jS (v := (y, true, (i : Int))) (fun j => iT (dT (by omega)) rfl)).trans ?_
    show g37_l5 k s x1 f y true (fW .i64 ((i : Int) + 1)) = _
    rw [fw_s (by omega)]
    exact ih y
   ·refine jD ?_
    refine iF (dF (by omega)) ?_
    refine bS (by (try simp (disch := omega) only [fwI]); exact nc) ?_
    refine bS (by (try simp (disch := omega) only [fwI]); exact digit_at k (hs c hm)) ?_
    refine jD ?_
    refine iT rfl ?_
    show g37_l5 k s x1 f _ true (fW .i64 ((i : Int) + 1)) = _
    rw [fw_s (by omega)]
    exact ih _
  ·exact iF (dF (by omega)) rfl
theorem int_l (k : Nat) {s : List Nat} (hs : By s) (hl : Sz s) {b : Nat} (a0 : Int) (hb : b ≤ 36) : ∀ (f i v : Nat), s.length < i + f → i ≤ s.length → v < 18446744073709551616 →
 g37_l5 k s (a0, (b : Int)) f (v : Int) false (i : Int) = some (match valO b v (s.drop i) with | some w => ((w : Int), 0) | none => (0, 6))
 | 0, i, v, h, h2, hv => by omega
 | f + 1, i, v, h, h2, hv => by
  have hl' := hl
  unfold Sz at hl
  rw [g37_l5_s]
  rcases Nat.lt_or_ge i s.length with hi | hi
  ·obtain ⟨c, r, hc, hr, hm, hrl⟩ := dcons hi
   have nc := nthX (x := (i : Int)) rfl hc
   have ih := fun v hv => int_l k hs hl' a0 hb f (i + 1) v (by omega) (by omega) hv
   rw [hr] at ih
   rw [hc]
   refine iT (dT (by omega)) ?_
   refine bS (by (try simp (disch := omega) only [fwI]); exact nc) ?_
   simp only [valO]
   by_cases h95 : c = 95
   ·rw [if_pos h95]
    refine (jS (v := ((v : Int), false, (i : Int))) (fun j => iT (dT (by omega)) rfl)).trans ?_
    show g37_l5 k s (a0, (b : Int)) f (v : Int) false (fW .i64 ((i : Int) + 1)) = _
    rw [fw_s (by omega)]
    exact ih v hv
   ·rw [if_neg h95]
    have hd := dg_le c
    obtain ⟨q1, q2, q3, q4, q5⟩ := halves hv hb hd
    have wv := whole_v (v := v) (b := b) (d := dgN c)
    refine jD ?_
    refine iF (dF (by omega)) ?_
    refine bS (by (try simp (disch := omega) only [fwI]); exact nc) ?_
    refine bS (by (try simp (disch := omega) only [fwI]); exact digit_at k (hs c hm)) ?_
    rw [q1, q2, q3, q4, q5]
    clear q1 q2 q3 q4 q5
    have lw : v % 4294967296 * b + dgN c ≤ 154618822800 := by
     have : v % 4294967296 * b ≤ 4294967296 * 36 := Nat.mul_le_mul (by omega) hb
     omega
    have hh : v / 4294967296 * b ≤ 154618822656 := Nat.mul_le_mul (show v / 4294967296 ≤ 4294967296 by omega) hb
    generalize v / 4294967296 * b + (v % 4294967296 * b + dgN c) / 4294967296 = H at *
    generalize v % 4294967296 * b + dgN c = W at *
    have p : (2 : Nat) ^ 32 = 4294967296 := rfl
    have s1 : shrC (H : Int) 32 = ((H / 4294967296 : Nat) : Int) := by rw [shrC_nat, p]
    have s2 : shrC (shlC .u64 (W : Int) 32) 32 = ((W % 4294967296 : Nat) : Int) := by
     rw [shl32, shrC_nat, p]; congr 1; omega
    refine jD ?_
    refine iF rfl ?_
    show g37_l5 k s (a0, (b : Int)) f (orI .u64 (shlC .u64 (H : Int) 32) (shrC (shlC .u64 (W : Int) 32) 32)) (!decide (shrC (H : Int) 32 = 0)) (fW .i64 ((i : Int) + 1)) = _
    rw [s1, s2, fw_s (by omega)]
    clear s1 s2
    by_cases ho : H < 4294967296
    ·rw [if_pos (by omega), dT (by omega), shl32, Nat.mod_eq_of_lt (by omega), or32u ho (Nat.mod_lt _ (by decide)), wv]
     exact ih _ (by omega)
    ·rw [if_neg (by omega), dF (by omega)]
     exact int_over k hs hl' _ f (i + 1) _ (by omega) (by omega)
  ·rw [dnil hi]
   exact iF (dF (by omega)) (iF rfl rfl)
theorem Integer_at {k : Nat} {s : List Nat} (hk : s.length < k) (hk4 : 4 ≤ k) (hs : By s) (hl : Sz s) : g37 k s = some (intN s) := by
 unfold g37 intN
 by_cases h : s = [] ∨ wholeN s ≠ s.length
 ·rw [if_pos h]
  refine (jS (v := true) (fun j => ?_)).trans rfl
  by_cases h1 : s = []
  ·subst h1; rfl
  ·have e : eqL s [] = false := by cases s with | nil => exact absurd rfl h1 | cons _ _ => rfl
   refine iF e ?_
   refine bS (by (try simp (disch := omega) only [fwI]); exact whole_at hk hk4 hs hl) ?_
   rw [dF (show ¬ ((wholeN s : Nat) : Int) = (s.length : Int) from fun hh => (h.resolve_left h1) (by omega))]
   rfl
 ·rw [if_neg h]
  have h1 : s ≠ [] := fun e => h (.inl e)
  have h2 : wholeN s = s.length := Classical.byContradiction fun e => h (.inr e)
  have e : eqL s [] = false := by cases s with | nil => exact absurd rfl h1 | cons _ _ => rfl
  refine (jS (v := false) (fun j => ?_)).trans ?_
  ·refine iF e ?_
   refine bS (by (try simp (disch := omega) only [fwI]); exact whole_at hk hk4 hs hl) ?_
   rw [dT (by omega)]
   rfl
  ·refine iF rfl ?_
   refine bS (by (try simp (disch := omega) only [fwI]); exact front_at hk hk4 hs hl) ?_
   obtain ⟨f1, f2⟩ := frontN_le s
   exact int_l k hs hl ((frontN s).1 : Int) f2 k (frontN s).1 0 (by omega) f1 (by decide)
theorem run_full {b : Nat} : ∀ (p : Bool) (s : List Nat), runN b p s = s.length → ∀ c ∈ s, c = 95 ∨ dgN c < b
 | _, [], _, c, hc => by cases hc
 | p, d :: r, h, c, hc => by
  rw [runN_cons] at h
  by_cases h1 : dgN d < b
  ·rw [if_pos h1, List.length_cons] at h
   rcases List.mem_cons.1 hc with rfl | hc
   ·exact .inr h1
   ·exact run_full true r (by omega) c hc
  ·rw [if_neg h1] at h
   by_cases h2 : (p && decide (d = 95) && isD b r) = true
   ·rw [if_pos h2, List.length_cons] at h
    rcases List.mem_cons.1 hc with rfl | hc
    ·simp only [Bool.and_eq_true, decide_eq_true_eq] at h2; exact .inl h2.1.2
    ·exact run_full false r (by omega) c hc
   ·rw [if_neg h2] at h; simp at h
end Go.Proofs.Ytabhkocokojddaa.Am
set_option maxRecDepth 100000
set_option linter.unusedVariables false
namespace Go.Proofs.Ytabhkocokojddaa.Am
noncomputable section
open Go
def X94 : Fx (List Nat) := ⟨Try.prog, cx, Try.f94, fun r => .str r, 0, fun _ => H0, cxTi, cxOrd⟩
def g94p0 : Pt := nav [0] (bodyAt Try.f94)
def g94p1 : Pt := nav [0, 0, 0, 0] g94p0
def g94p2 : Pt := nav [0, 0] g94p1
def g94p4 : Pt := nav [2, 0, 0] g94p2
def g94p6 : Pt := nav [0, 0, 0, 0, 0] g94p4
def g94p7 : Pt := nav [0, 0, 0] g94p6
def g94p8 : Pt := nav [0, 0] g94p7
def g94p10 : Pt := nav [2, 0, 0, 0] g94p8
def g94p11 : Pt := nav [0, 0] g94p10
def g94p12 : Pt := nav [1, 0] g94p11
def g94p13 : Pt := nav [2, 0, 0] g94p11
def g94p14 : Pt := nav [0, 0, 0, 0] g94p13
def g94p15 : Pt := nav [0, 0, 0, 0] g94p14
def g94p16 : Pt := nav [0, 0, 0] g94p15
def g94p17 : Pt := nav [0, 0] g94p16
def g94p18 : Pt := nav [1, 0, 0, 0, 0] g94p17
def g94p19 : Pt := nav [2, 0, 0] g94p17
def g94p20 : Pt := nav [0, 0] g94p18
def g94p21 : Pt := nav [0, 0, 0] g94p19
def g94_l9 (k : Nat)  (z8 : Int × Bool) (n : Nat) : Int → Int → (List Int) → Option (List Nat) :=
 Nat.rec (motive := fun _ => Int → Int → (List Int) → Option (List Nat)) (fun _ _ _ => none) (fun _ ih => fun (y9_0 : Int) (y9_1 : Int) (y9_2 : (List Int)) => if (decide (0 < y9_1)) then ((idxO y9_2 y9_1).bind fun x4_6 => (setO y9_2 x4_6 (orI .u8 (andI .u8 (fW .u8 y9_0) 63) 128)).bind fun x4_7 => ih (shrC y9_0 6) (fW .i64 (y9_1 - 1)) x4_7) else ((shlS .u8 255 (fW .i64 (8 - z8.1))).bind fun x5_5 => (idxO y9_2 0).bind fun x5_7 => (setO y9_2 x5_7 (orI .u8 (fW .u8 y9_0) x5_5)).bind fun x5_8 => (toS x5_8).bind fun x6_1 => some x6_1)) n
theorem g94_l9_s (k : Nat)  (z8 : Int × Bool) (n : Nat) (y9_0 : Int) (y9_1 : Int) (y9_2 : (List Int)) : g94_l9 k z8 (n + 1) y9_0 y9_1 y9_2 = (if (decide (0 < y9_1)) then ((idxO y9_2 y9_1).bind fun x4_6 => (setO y9_2 x4_6 (orI .u8 (andI .u8 (fW .u8 y9_0) 63) 128)).bind fun x4_7 => (g94_l9 k z8 n) (shrC y9_0 6) (fW .i64 (y9_1 - 1)) x4_7) else ((shlS .u8 255 (fW .i64 (8 - z8.1))).bind fun x5_5 => (idxO y9_2 0).bind fun x5_7 => (setO y9_2 x5_7 (orI .u8 (fW .u8 y9_0) x5_5)).bind fun x5_8 => (toS x5_8).bind fun x6_1 => some x6_1)) := rfl
theorem g94_l9_ok (k : Nat)  (z8 : Int × Bool)  : ∀ (n : Nat) (y9_0 : Int) (y9_1 : Int) (y9_2 : (List Int)), Ok X94 g94p15 [(0, .int .i64 y9_0), (3, .int .i64 z8.1), (4, .own 0 (y9_2).length 1), (5, .int .i64 y9_1)] (mkH [⟨(y9_2).flatMap e5, (y9_2).length * 1, false⟩]) (g94_l9 k z8 n y9_0 y9_1 y9_2)
 | 0, _, _, _ => ok_none
 | n + 1, y9_0, y9_1, y9_2 => by
  have ih := g94_l9_ok k z8 n
  rw [g94_l9_s]
  refine ok_ent (p' := nav [0] g94p15) (by kernel_rfl) ?_
  let E8 : Env := [(31, .bool (decide (0 < y9_1))), (30, .int .i64 y9_1), (0, .int .i64 y9_0), (3, .int .i64 z8.1), (4, .own 0 (y9_2).length 1), (5, .int .i64 y9_1)]
  refine oR 6 (p' := g94p17) (eE := E8) (H' := (mkH [⟨(y9_2).flatMap e5, (y9_2).length * 1, false⟩])) (by kernel_rfl) ?_
  refine oS 31 (b := decide (0 < y9_1)) (by kernel_rfl) (fun hb => ?_) (fun hb => ?_)
  ·let E9 : Env := ((39, .int .u8 (orI .u8 (andI .u8 (fW .u8 y9_0) 63) 128)) :: (38, .int .u8 (andI .u8 (fW .u8 y9_0) 63)) :: (37, .int .u8 (fW .u8 y9_0)) :: (36, .int .i64 y9_0) :: (35, .int .i64 y9_1) :: (34, .own 0 (y9_2).length 1) :: (31, .bool true) :: E8)
   refine oR 12 (p' := (atN 6 (ctl1 g94p18))) (eE := E9) (H' := (mkH [⟨(y9_2).flatMap e5, (y9_2).length * 1, false⟩])) (by kernel_rfl) ?_
   refine oH (fun (x4_6 : Nat) => (.ptr 0 ((y9_2).length * 1) (x4_6 * 1), (mkH [⟨(y9_2).flatMap e5, (y9_2).length * 1, false⟩]))) (atN 7 (ctl1 g94p18)) (fun x4_6 => ((40, .ptr 0 ((y9_2).length * 1) (x4_6 * 1)) :: E9)) (oidxH (sz := 1) (by kernel_rfl)) (fun _ => by kernel_rfl) (fun x4_6 hx4_6 => ?_)
   refine oH (fun (x4_7 : (List Int)) => (.top, (mkH [⟨(x4_7).flatMap e5, (x4_7).length * 1, false⟩]))) (atN 8 (ctl1 g94p18)) (fun x4_7 => ((40, .ptr 0 ((y9_2).length * 1) (x4_6 * 1)) :: E9)) (storeH (v := v5) (fun _ => rfl) (fun _ => rfl) [⟨(y9_2).flatMap e5, (y9_2).length * 1, false⟩] 0 (orI .u8 (andI .u8 (fW .u8 y9_0) 63) 128) rfl rfl (by kernel_rfl)) (fun _ => by kernel_rfl) (fun x4_7 hx4_7 => ?_)
   refine oE (eE := [(40, .ptr 0 ((y9_2).length * 1) (x4_6 * 1)), (39, .int .u8 (orI .u8 (andI .u8 (fW .u8 y9_0) 63) 128)), (38, .int .u8 (andI .u8 (fW .u8 y9_0) 63)), (37, .int .u8 (fW .u8 y9_0)), (36, .int .i64 y9_0), (35, .int .i64 y9_1), (34, .own 0 (x4_7).length 1), (31, .bool true), (31, .bool (decide (0 < y9_1))), (30, .int .i64 y9_1), (0, .int .i64 y9_0), (3, .int .i64 z8.1), (4, .own 0 (x4_7).length 1), (5, .int .i64 y9_1)]) (by rw [setO_len hx4_7]) ?_
   let E10 : Env := [(40, .ptr 0 ((y9_2).length * 1) (x4_6 * 1)), (39, .int .u8 (orI .u8 (andI .u8 (fW .u8 y9_0) 63) 128)), (38, .int .u8 (andI .u8 (fW .u8 y9_0) 63)), (37, .int .u8 (fW .u8 y9_0)), (36, .int .i64 y9_0), (35, .int .i64 y9_1), (34, .own 0 (x4_7).length 1), (31, .bool true), (31, .bool (decide (0 < y9_1))), (30, .int .i64 y9_1), (0, .int .i64 y9_0), (3, .int .i64 z8.1), (4, .own 0 (x4_7).length 1), (5, .int .i64 y9_1)]
   refine oR 1 (p' := g94p20) (eE := E10) (H' := (mkH [⟨(x4_7).flatMap e5, (x4_7).length * 1, false⟩])) (by kernel_rfl) ?_
   refine oK [0, 3, 4, 5] (eE := [(0, .int .i64 y9_0), (3, .int .i64 z8.1), (4, .own 0 (x4_7).length 1), (5, .int .i64 y9_1)]) (by kernel_rfl) ?_
   let E11 : Env := [(5, .int .i64 (fW .i64 (y9_1 - 1))), (33, .int .i64 (fW .i64 (y9_1 - 1))), (32, .int .i64 y9_1), (0, .int .i64 (shrC y9_0 6)), (42, .int .i64 (shrC y9_0 6)), (41, .int .i64 y9_0), (0, .int .i64 y9_0), (3, .int .i64 z8.1), (4, .own 0 (x4_7).length 1), (5, .int .i64 y9_1)]
   refine oR 10 (p' := g94p15) (eE := E11) (H' := (mkH [⟨(x4_7).flatMap e5, (x4_7).length * 1, false⟩])) (by kernel_rfl) ?_
   refine oK [0, 3, 4, 5] (eE := [(0, .int .i64 (shrC y9_0 6)), (3, .int .i64 z8.1), (4, .own 0 (x4_7).length 1), (5, .int .i64 (fW .i64 (y9_1 - 1)))]) (by kernel_rfl) ?_
   exact ih (shrC y9_0 6) (fW .i64 (y9_1 - 1)) x4_7
  ·let E12 : Env := ((47, .int .i64 (fW .i64 (8 - z8.1))) :: (46, .int .i64 z8.1) :: (45, .int .u8 (fW .u8 y9_0)) :: (44, .int .i64 y9_0) :: (43, .own 0 (y9_2).length 1) :: (31, .bool false) :: E8)
   refine oR 9 (p' := (atN 5 (ctl1 g94p19))) (eE := E12) (H' := (mkH [⟨(y9_2).flatMap e5, (y9_2).length * 1, false⟩])) (by kernel_rfl) ?_
   refine oH (fun (x5_5 : Int) => (.int .u8 x5_5, (mkH [⟨(y9_2).flatMap e5, (y9_2).length * 1, false⟩]))) (atN 6 (ctl1 g94p19)) (fun x5_5 => ((48, .int .u8 x5_5) :: E12)) (shlH (by kernel_rfl)) (fun _ => by kernel_rfl) (fun x5_5 hx5_5 => ?_)
   refine oR 1 (p' := (atN 7 (ctl1 g94p19))) (eE := ((49, .int .u8 (orI .u8 (fW .u8 y9_0) x5_5)) :: (48, .int .u8 x5_5) :: E12)) (H' := (mkH [⟨(y9_2).flatMap e5, (y9_2).length * 1, false⟩])) (by kernel_rfl) ?_
   refine oH (fun (x5_7 : Nat) => (.ptr 0 ((y9_2).length * 1) (x5_7 * 1), (mkH [⟨(y9_2).flatMap e5, (y9_2).length * 1, false⟩]))) (atN 8 (ctl1 g94p19)) (fun x5_7 => ((50, .ptr 0 ((y9_2).length * 1) (x5_7 * 1)) :: (49, .int .u8 (orI .u8 (fW .u8 y9_0) x5_5)) :: (48, .int .u8 x5_5) :: E12)) (oidxH (sz := 1) (by kernel_rfl)) (fun _ => by kernel_rfl) (fun x5_7 hx5_7 => ?_)
   refine oH (fun (x5_8 : (List Int)) => (.top, (mkH [⟨(x5_8).flatMap e5, (x5_8).length * 1, false⟩]))) (atN 9 (ctl1 g94p19)) (fun x5_8 => ((50, .ptr 0 ((y9_2).length * 1) (x5_7 * 1)) :: (49, .int .u8 (orI .u8 (fW .u8 y9_0) x5_5)) :: (48, .int .u8 x5_5) :: E12)) (storeH (v := v5) (fun _ => rfl) (fun _ => rfl) [⟨(y9_2).flatMap e5, (y9_2).length * 1, false⟩] 0 (orI .u8 (fW .u8 y9_0) x5_5) rfl rfl (by kernel_rfl)) (fun _ => by kernel_rfl) (fun x5_8 hx5_8 => ?_)
   refine oE (eE := [(50, .ptr 0 ((y9_2).length * 1) (x5_7 * 1)), (49, .int .u8 (orI .u8 (fW .u8 y9_0) x5_5)), (48, .int .u8 x5_5), (47, .int .i64 (fW .i64 (8 - z8.1))), (46, .int .i64 z8.1), (45, .int .u8 (fW .u8 y9_0)), (44, .int .i64 y9_0), (43, .own 0 (x5_8).length 1), (31, .bool false), (31, .bool (decide (0 < y9_1))), (30, .int .i64 y9_1), (0, .int .i64 y9_0), (3, .int .i64 z8.1), (4, .own 0 (x5_8).length 1), (5, .int .i64 y9_1)]) (by rw [setO_len hx5_8]) ?_
   let E13 : Env := [(50, .ptr 0 ((y9_2).length * 1) (x5_7 * 1)), (49, .int .u8 (orI .u8 (fW .u8 y9_0) x5_5)), (48, .int .u8 x5_5), (47, .int .i64 (fW .i64 (8 - z8.1))), (46, .int .i64 z8.1), (45, .int .u8 (fW .u8 y9_0)), (44, .int .i64 y9_0), (43, .own 0 (x5_8).length 1), (31, .bool false), (31, .bool (decide (0 < y9_1))), (30, .int .i64 y9_1), (0, .int .i64 y9_0), (3, .int .i64 z8.1), (4, .own 0 (x5_8).length 1), (5, .int .i64 y9_1)]
   refine oR 2 (p' := g94p21) (eE := E13) (H' := (mkH [⟨(x5_8).flatMap e5, (x5_8).length * 1, false⟩])) (by kernel_rfl) ?_
   refine oK [4] (eE := [(4, .own 0 (x5_8).length 1)]) (by kernel_rfl) ?_
   refine oR 2 (p' := (atN 1 (ctl1 g94p21))) (eE := [(51, .own 0 (x5_8).length 1), (4, .own 0 (x5_8).length 1)]) (H' := (mkH [⟨(x5_8).flatMap e5, (x5_8).length * 1, false⟩])) (by kernel_rfl) ?_
   refine oH (fun (x6_1 : (List Nat)) => (.str x6_1, (mkH [⟨(x5_8).flatMap e5, (x5_8).length * 1, false⟩]))) (atN 2 (ctl1 g94p21)) (fun x6_1 => [(52, .str x6_1), (51, .own 0 (x5_8).length 1), (4, .own 0 (x5_8).length 1)]) (toSO (fun _ => rfl) [⟨(x5_8).flatMap e5, (x5_8).length * 1, false⟩] 0 (x5_8.length * 1) rfl rfl (Nat.le_refl _) (by kernel_rfl)) (fun _ => by kernel_rfl) (fun x6_1 hx6_1 => ?_)
   refine oR 3 (p' := .fin) (eE := [(2, .str x6_1), (52, .str x6_1), (51, .own 0 (x5_8).length 1), (4, .own 0 (x5_8).length 1)]) (H' := (mkH [⟨(x5_8).flatMap e5, (x5_8).length * 1, false⟩])) (by kernel_rfl) ?_
   exact oT (r := x6_1) (xs := [.str x6_1]) (v := .str x6_1) (by kernel_rfl) (by kernel_rfl) (by kernel_rfl) (.pures (by kernel_rfl)) (by kernel_rfl)
def g94_l7 (k : Nat)  (a0 : Int) (n : Nat) : Int → Option (List Nat) :=
 Nat.rec (motive := fun _ => Int → Option (List Nat)) (fun _ => none) (fun _ ih => fun (y7_0 : Int) => jn (fun (z8 : Int × Bool) => if z8.2 then (ih (fW .i64 (z8.1 + 1))) else (if (decide (z8.1 = 1)) then ((toS ([fW .u8 a0] : List Int)).bind fun x2_3 => some x2_3) else ((mkS (0 : Int) 1 z8.1).bind fun x3_1 => g94_l9 k z8 k a0 (fW .i64 (z8.1 - 1)) x3_1))) (fun j8 => if (decide (y7_0 < 4)) then ((g92 k (fW .i64 (y7_0 + 1))).bind fun x1_6 => j8 (y7_0, decide (x1_6 ≤ a0))) else (j8 (y7_0, false)))) n
theorem g94_l7_s (k : Nat)  (a0 : Int) (n : Nat) (y7_0 : Int) : g94_l7 k a0 (n + 1) y7_0 = (jn (fun (z8 : Int × Bool) => if z8.2 then ((g94_l7 k a0 n) (fW .i64 (z8.1 + 1))) else (if (decide (z8.1 = 1)) then ((toS ([fW .u8 a0] : List Int)).bind fun x2_3 => some x2_3) else ((mkS (0 : Int) 1 z8.1).bind fun x3_1 => g94_l9 k z8 k a0 (fW .i64 (z8.1 - 1)) x3_1))) (fun j8 => if (decide (y7_0 < 4)) then ((g92 k (fW .i64 (y7_0 + 1))).bind fun x1_6 => j8 (y7_0, decide (x1_6 ≤ a0))) else (j8 (y7_0, false)))) := rfl
theorem g94_l7_ok (k : Nat)  (a0 : Int)  : ∀ (n : Nat) (y7_0 : Int), Ok X94 g94p6 [(0, .int .i64 a0), (3, .int .i64 y7_0)] (mkH []) (g94_l7 k a0 n y7_0)
 | 0, _ => ok_none
 | n + 1, y7_0 => by
  have ih := g94_l7_ok k a0 n
  rw [g94_l7_s]
  refine ok_ent (p' := nav [0] g94p6) (by kernel_rfl) ?_
  let E2 : Env := [(11, .bool (decide (y7_0 < 4))), (10, .bool (decide (y7_0 < 4))), (9, .int .i64 y7_0), (0, .int .i64 a0), (3, .int .i64 y7_0)]
  refine oR 6 (p' := (atN 3 (ctl1 g94p7))) (eE := E2) (H' := (mkH [])) (by kernel_rfl) ?_
  refine oJ (f := fun (z8 : Int × Bool) => if z8.2 then ((g94_l7 k a0 n) (fW .i64 (z8.1 + 1))) else (if (decide (z8.1 = 1)) then ((toS ([fW .u8 a0] : List Int)).bind fun x2_3 => some x2_3) else ((mkS (0 : Int) 1 z8.1).bind fun x3_1 => g94_l9 k z8 k a0 (fW .i64 (z8.1 - 1)) x3_1))) g94p8 (fun (z8 : Int × Bool) => [(0, .int .i64 a0), (3, .int .i64 z8.1), (17, .bool z8.2)]) (fun (z8 : Int × Bool) => (mkH [])) (fun z8 => ?_) (fun j8 hj8 => ?_)
  ·refine oS 17 (b := z8.2) (by kernel_rfl) (fun hb => ?_) (fun hb => ?_)
   ·let E3 : Env := [(3, .int .i64 (fW .i64 (z8.1 + 1))), (19, .int .i64 (fW .i64 (z8.1 + 1))), (18, .int .i64 z8.1), (17, .bool true), (0, .int .i64 a0), (3, .int .i64 z8.1), (17, .bool z8.2)]
    refine oR 8 (p' := g94p6) (eE := E3) (H' := (mkH [])) (by kernel_rfl) ?_
    refine oK [0, 3] (eE := [(0, .int .i64 a0), (3, .int .i64 (fW .i64 (z8.1 + 1)))]) (by kernel_rfl) ?_
    exact ih (fW .i64 (z8.1 + 1))
   ·let E4 : Env := [(21, .bool (decide (z8.1 = 1))), (20, .int .i64 z8.1), (17, .bool false), (0, .int .i64 a0), (3, .int .i64 z8.1), (17, .bool z8.2)]
    refine oR 8 (p' := g94p11) (eE := E4) (H' := (mkH [])) (by kernel_rfl) ?_
    refine oS 21 (b := decide (z8.1 = 1)) (by kernel_rfl) (fun hb => ?_) (fun hb => ?_)
    ·refine oR 6 (p' := (atN 3 (ctl1 g94p12))) (eE := ((24, .slice 0 1 0 1 1) :: (23, .int .u8 (fW .u8 a0)) :: (22, .int .i64 a0) :: (21, .bool true) :: E4)) (H' := (mkH [⟨[.int .u8 (fW .u8 a0)], 0, false⟩])) (by kernel_rfl) ?_
     refine oH (fun (x2_3 : (List Nat)) => (.str x2_3, (mkH [⟨[.int .u8 (fW .u8 a0)], 0, false⟩]))) (atN 4 (ctl1 g94p12)) (fun x2_3 => ((25, .str x2_3) :: (24, .slice 0 1 0 1 1) :: (23, .int .u8 (fW .u8 a0)) :: (22, .int .i64 a0) :: (21, .bool true) :: E4)) (toSE [fW .u8 a0] (by kernel_rfl)) (fun _ => by kernel_rfl) (fun x2_3 hx2_3 => ?_)
     let E5 : Env := ((2, .str x2_3) :: (25, .str x2_3) :: (24, .slice 0 1 0 1 1) :: (23, .int .u8 (fW .u8 a0)) :: (22, .int .i64 a0) :: (21, .bool true) :: E4)
     refine oR 3 (p' := .fin) (eE := E5) (H' := (mkH [⟨[.int .u8 (fW .u8 a0)], 0, false⟩])) (by kernel_rfl) ?_
     exact oT (r := x2_3) (xs := [.str x2_3]) (v := .str x2_3) (by kernel_rfl) (by kernel_rfl) (by kernel_rfl) (.pures (by kernel_rfl)) (by kernel_rfl)
    ·refine oR 5 (p' := (atN 1 (ctl1 g94p13))) (eE := ((26, .int .i64 z8.1) :: (21, .bool false) :: E4)) (H' := (mkH [])) (by kernel_rfl) ?_
     refine oH (fun (x3_1 : (List Int)) => (.slice 0 ((x3_1).flatMap e5).length 0 (x3_1).length 1, (mkH [⟨(x3_1).flatMap e5, 0, false⟩]))) (atN 2 (ctl1 g94p13)) (fun x3_1 => ((27, .slice 0 ((x3_1).flatMap e5).length 0 (x3_1).length 1) :: (26, .int .i64 z8.1) :: (21, .bool false) :: E4)) (makeH (sz := 1) e5_len rfl (0 : Int) [] 1 rfl (by kernel_rfl)) (fun _ => by kernel_rfl) (fun x3_1 hx3_1 => ?_)
     refine ok_sown 27 0 ((x3_1).flatMap e5).length (x3_1).length 1 (by kernel_rfl) (flatMap_len e5_len _) ?_
     refine oE (eE := [(27, .own 0 (x3_1).length 1), (27, .slice 0 ((x3_1).flatMap e5).length 0 (x3_1).length 1), (26, .int .i64 z8.1), (21, .bool false), (21, .bool (decide (z8.1 = 1))), (20, .int .i64 z8.1), (17, .bool false), (0, .int .i64 a0), (3, .int .i64 z8.1), (17, .bool z8.2)]) (by kernel_rfl) ?_
     refine ok_minv [⟨(x3_1).flatMap e5, 0, false⟩] 0 ((x3_1).flatMap e5) 0 ((x3_1).length * 1) rfl rfl (Nat.zero_le _) ?_
     refine ok_heap (H' := (mkH [⟨(x3_1).flatMap e5, (x3_1).length * 1, false⟩])) (by kernel_rfl) ?_
     let E6 : Env := ((4, .own 0 (x3_1).length 1) :: (27, .own 0 (x3_1).length 1) :: (27, .slice 0 ((x3_1).flatMap e5).length 0 (x3_1).length 1) :: (26, .int .i64 z8.1) :: (21, .bool false) :: E4)
     refine oR 4 (p' := g94p14) (eE := E6) (H' := (mkH [⟨(x3_1).flatMap e5, (x3_1).length * 1, false⟩])) (by kernel_rfl) ?_
     refine oK [0, 3, 4] (eE := [(0, .int .i64 a0), (3, .int .i64 z8.1), (4, .own 0 (x3_1).length 1)]) (by kernel_rfl) ?_
     let E7 : Env := [(5, .int .i64 (fW .i64 (z8.1 - 1))), (29, .int .i64 (fW .i64 (z8.1 - 1))), (28, .int .i64 z8.1), (0, .int .i64 a0), (3, .int .i64 z8.1), (4, .own 0 (x3_1).length 1)]
     refine oR 7 (p' := g94p15) (eE := E7) (H' := (mkH [⟨(x3_1).flatMap e5, (x3_1).length * 1, false⟩])) (by kernel_rfl) ?_
     refine oK [0, 3, 4, 5] (eE := [(0, .int .i64 a0), (3, .int .i64 z8.1), (4, .own 0 (x3_1).length 1), (5, .int .i64 (fW .i64 (z8.1 - 1)))]) (by kernel_rfl) ?_
     exact (g94_l9_ok k z8 k) a0 (fW .i64 (z8.1 - 1)) x3_1
  ·refine oS 11 (b := decide (y7_0 < 4)) (by kernel_rfl) (fun hb => ?_) (fun hb => ?_)
   ·refine oR 3 (p' := (atN 6 (ctl1 g94p7))) (eE := ((14, .int .i64 (fW .i64 (y7_0 + 1))) :: (13, .int .i64 y7_0) :: (12, .int .i64 a0) :: (11, .bool true) :: E2)) (H' := (mkH [])) (by kernel_rfl) ?_
    refine oC (fun (x1_6 : Int) => .int .i64 x1_6) (atN 7 (ctl1 g94p7)) (fun x1_6 => ((15, .int .i64 x1_6) :: (14, .int .i64 (fW .i64 (y7_0 + 1))) :: (13, .int .i64 y7_0) :: (12, .int .i64 a0) :: (11, .bool true) :: E2)) (fi := 92) (args := [.int .i64 (fW .i64 (y7_0 + 1))]) (by kernel_rfl) (by kernel_rfl) (fun _ => by kernel_rfl) (fun r h => g92_ok k (fW .i64 (y7_0 + 1)) r h) (fun _ => by kernel_rfl) (fun x1_6 hx1_6 => ?_)
    let E14 : Env := ((17, .bool (decide (x1_6 ≤ a0))) :: (16, .bool (decide (x1_6 ≤ a0))) :: (15, .int .i64 x1_6) :: (14, .int .i64 (fW .i64 (y7_0 + 1))) :: (13, .int .i64 y7_0) :: (12, .int .i64 a0) :: (11, .bool true) :: E2)
    refine oR 3 (p' := g94p8) (eE := E14) (H' := (mkH [])) (by kernel_rfl) ?_
    refine oK [0, 3, 17] (eE := [(0, .int .i64 a0), (3, .int .i64 y7_0), (17, .bool (decide (x1_6 ≤ a0)))]) (by kernel_rfl) ?_
    exact hj8 (y7_0, decide (x1_6 ≤ a0))
   ·let E15 : Env := ((17, .bool false) :: (16, .tuple []) :: (15, .tuple []) :: (14, .tuple []) :: (13, .tuple []) :: (12, .tuple []) :: (11, .bool false) :: E2)
    refine oR 7 (p' := g94p8) (eE := E15) (H' := (mkH [])) (by kernel_rfl) ?_
    refine oK [0, 3, 17] (eE := [(0, .int .i64 a0), (3, .int .i64 y7_0), (17, .bool false)]) (by kernel_rfl) ?_
    exact hj8 (y7_0, false)
def g94 (k : Nat) (a0 : Int) : Option (List Nat) :=
 (g93 k a0).bind fun x0_1 => if (!x0_1) then (some ([] : List Nat)) else (g94_l7 k a0 k 1)
theorem g94_ok (k : Nat) (a0 : Int) (r : (List Nat)) (h : g94 k a0 = some r) : PureOk Try.prog 94 [.int .i64 a0] (.str r) := by
 refine pure_of X94 (fun _ => rfl) Try.func94 (by decide +kernel) (by kernel_rfl) (t := g94 k a0) ?_ h
 unfold g94
 refine oE (eE := [(0, .int .i64 a0)]) (by kernel_rfl) ?_
 refine oR 8 (p' := (atN 1 (ctl1 g94p1))) (eE := [(6, .int .i64 a0), (2, .str []), (0, .int .i64 a0)]) (H' := (mkH [])) (by kernel_rfl) ?_
 refine oC (fun (x0_1 : Bool) => .bool x0_1) (atN 2 (ctl1 g94p1)) (fun x0_1 => [(7, .bool x0_1), (6, .int .i64 a0), (2, .str []), (0, .int .i64 a0)]) (fi := 93) (args := [.int .i64 a0]) (by kernel_rfl) (by kernel_rfl) (fun _ => by kernel_rfl) (fun r h => g93_ok k a0 r h) (fun _ => by kernel_rfl) (fun x0_1 hx0_1 => ?_)
 let E1 : Env := [(8, .bool (!x0_1)), (7, .bool x0_1), (6, .int .i64 a0), (2, .str []), (0, .int .i64 a0)]
 refine oR 2 (p' := g94p2) (eE := E1) (H' := (mkH [])) (by kernel_rfl) ?_
 refine oS 8 (b := !x0_1) (by kernel_rfl) (fun hb => ?_) (fun hb => ?_)
 ·refine oR 6 (p' := .fin) (eE := ((2, .str []) :: (8, .bool true) :: E1)) (H' := (mkH [])) (by kernel_rfl) ?_
  exact oT (r := ([] : List Nat)) (xs := [.str []]) (v := .str []) (by kernel_rfl) (by kernel_rfl) (by kernel_rfl) (.pures (by kernel_rfl)) (by kernel_rfl)
 ·refine oR 9 (p' := g94p6) (eE := ((3, .int .i64 1) :: (8, .bool false) :: E1)) (H' := (mkH [])) (by kernel_rfl) ?_
  refine oK [0, 3] (eE := [(0, .int .i64 a0), (3, .int .i64 1)]) (by kernel_rfl) ?_
  exact (g94_l7_ok k a0 k) 1
end
end Go.Proofs.Ytabhkocokojddaa.Am
set_option maxRecDepth 100000
set_option linter.unusedVariables false
set_option linter.unusedSimpArgs false
namespace Go.Proofs.Ytabhkocokojddaa.Am
open Go
def enc (c : Nat) : List Nat := if c < 128 then [c] else if c < 2048 then [192 + c / 64, 128 + c % 64] else if c < 65536 then [224 + c / 4096, 128 + c / 64 % 64, 128 + c % 64] else [240 + c / 262144, 128 + c / 4096 % 64, 128 + c / 64 % 64, 128 + c % 64]
def put (n : Int) : List Nat := if 0 ≤ n ∧ cpN n.toNat = true then enc n.toNat else []
end Go.Proofs.Ytabhkocokojddaa.Am
set_option maxRecDepth 100000
set_option linter.unusedVariables false
namespace Go.Proofs.Ytabhkocokojddaa.Am
noncomputable section
open Go
def X79 : Fx (Int × Int) := ⟨Try.prog, cx, Try.f79, fun r => .tuple [.int .i64 r.1, .int .i64 r.2], 0, fun _ => H0, cxTi, cxOrd⟩
def g79p0 : Pt := nav [0] (bodyAt Try.f79)
def g79p1 : Pt := nav [0, 0, 0] g79p0
def g79p2 : Pt := nav [0, 0, 0, 0] g79p1
def g79p3 : Pt := nav [0, 0] g79p2
def g79p5 : Pt := nav [2, 0, 0] g79p3
def g79p6 : Pt := nav [0, 0, 0, 0, 0] g79p5
def g79p7 : Pt := nav [0, 0, 0] g79p6
def g79p8 : Pt := nav [0, 0] g79p7
def g79p9 : Pt := nav [1, 0, 0, 0] g79p8
def g79p10 : Pt := nav [2, 0, 0] g79p8
def g79p11 : Pt := nav [0, 0] g79p9
def g79p12 : Pt := nav [0, 0, 0, 0] g79p10
def g79p13 : Pt := nav [0, 0] g79p12
def g79_l6 (k : Nat)  (a0 : (List Nat)) (a1 : Int) (z5 : Int × Int × Int) (n : Nat) : Int → Int → Option (Int × Int) :=
 Nat.rec (motive := fun _ => Int → Int → Option (Int × Int)) (fun _ _ => none) (fun _ ih => fun (y6_0 : Int) (y6_1 : Int) => jn (fun (z7 : Bool × Int × Int) => if z7.1 then ((nthS a0 (fW .i64 (z5.1 + z7.2.2))).bind fun x2_6 => (g75 k x2_6).bind fun x2_7 => ih (orI .i64 (shlC .i64 z7.2.1 4) x2_7) (fW .i64 (z7.2.2 + 1))) else (jn (fun (z8 : Int × Int × Bool) => if z8.2.2 then (some (((-1) : Int), (0 : Int))) else (some (z8.1, fW .i64 (fW .i64 (z8.2.1 + z5.2.2) - a1)))) (fun j8 => if (decide (z5.2.2 = 0)) then (if (decide (z7.2.2 < 2)) then (j8 (z7.2.1, fW .i64 (z5.1 + z7.2.2), true)) else (if (decide (z7.2.2 < 1)) then (j8 (z7.2.1, fW .i64 (z5.1 + z7.2.2), true)) else (if (decide (z5.2.2 = 1)) then (if (decide ((a0.length : Int) ≤ fW .i64 (z5.1 + z7.2.2))) then (j8 (z7.2.1, fW .i64 (z5.1 + z7.2.2), true)) else ((nthS a0 (fW .i64 (z5.1 + z7.2.2))).bind fun x3_21 => if (!decide (x3_21 = 125)) then (j8 (z7.2.1, fW .i64 (z5.1 + z7.2.2), true)) else ((g94 k z7.2.1).bind fun x3_28 => j8 (z7.2.1, fW .i64 (z5.1 + z7.2.2), eqL x3_28 [])))) else ((g94 k z7.2.1).bind fun x3_28 => j8 (z7.2.1, fW .i64 (z5.1 + z7.2.2), eqL x3_28 []))))) else (if (decide (z7.2.2 < 1)) then (j8 (z7.2.1, fW .i64 (z5.1 + z7.2.2), true)) else (if (decide (z5.2.2 = 1)) then (if (decide ((a0.length : Int) ≤ fW .i64 (z5.1 + z7.2.2))) then (j8 (z7.2.1, fW .i64 (z5.1 + z7.2.2), true)) else ((nthS a0 (fW .i64 (z5.1 + z7.2.2))).bind fun x3_21 => if (!decide (x3_21 = 125)) then (j8 (z7.2.1, fW .i64 (z5.1 + z7.2.2), true)) else ((g94 k z7.2.1).bind fun x3_28 => j8 (z7.2.1, fW .i64 (z5.1 + z7.2.2), eqL x3_28 [])))) else ((g94 k z7.2.1).bind fun x3_28 => j8 (z7.2.1, fW .i64 (z5.1 + z7.2.2), eqL x3_28 []))))))) (fun j7 => if (decide (y6_1 < z5.2.1)) then (if (decide (fW .i64 (z5.1 + y6_1) < (a0.length : Int))) then ((nthS a0 (fW .i64 (z5.1 + y6_1))).bind fun x1_16 => (g75 k x1_16).bind fun x1_17 => j7 (decide (x1_17 < 16), y6_0, y6_1)) else (j7 (false, y6_0, y6_1))) else (j7 (false, y6_0, y6_1)))) n
theorem g79_l6_s (k : Nat)  (a0 : (List Nat)) (a1 : Int) (z5 : Int × Int × Int) (n : Nat) (y6_0 : Int) (y6_1 : Int) : g79_l6 k a0 a1 z5 (n + 1) y6_0 y6_1 = (jn (fun (z7 : Bool × Int × Int) => if z7.1 then ((nthS a0 (fW .i64 (z5.1 + z7.2.2))).bind fun x2_6 => (g75 k x2_6).bind fun x2_7 => (g79_l6 k a0 a1 z5 n) (orI .i64 (shlC .i64 z7.2.1 4) x2_7) (fW .i64 (z7.2.2 + 1))) else (jn (fun (z8 : Int × Int × Bool) => if z8.2.2 then (some (((-1) : Int), (0 : Int))) else (some (z8.1, fW .i64 (fW .i64 (z8.2.1 + z5.2.2) - a1)))) (fun j8 => if (decide (z5.2.2 = 0)) then (if (decide (z7.2.2 < 2)) then (j8 (z7.2.1, fW .i64 (z5.1 + z7.2.2), true)) else (if (decide (z7.2.2 < 1)) then (j8 (z7.2.1, fW .i64 (z5.1 + z7.2.2), true)) else (if (decide (z5.2.2 = 1)) then (if (decide ((a0.length : Int) ≤ fW .i64 (z5.1 + z7.2.2))) then (j8 (z7.2.1, fW .i64 (z5.1 + z7.2.2), true)) else ((nthS a0 (fW .i64 (z5.1 + z7.2.2))).bind fun x3_21 => if (!decide (x3_21 = 125)) then (j8 (z7.2.1, fW .i64 (z5.1 + z7.2.2), true)) else ((g94 k z7.2.1).bind fun x3_28 => j8 (z7.2.1, fW .i64 (z5.1 + z7.2.2), eqL x3_28 [])))) else ((g94 k z7.2.1).bind fun x3_28 => j8 (z7.2.1, fW .i64 (z5.1 + z7.2.2), eqL x3_28 []))))) else (if (decide (z7.2.2 < 1)) then (j8 (z7.2.1, fW .i64 (z5.1 + z7.2.2), true)) else (if (decide (z5.2.2 = 1)) then (if (decide ((a0.length : Int) ≤ fW .i64 (z5.1 + z7.2.2))) then (j8 (z7.2.1, fW .i64 (z5.1 + z7.2.2), true)) else ((nthS a0 (fW .i64 (z5.1 + z7.2.2))).bind fun x3_21 => if (!decide (x3_21 = 125)) then (j8 (z7.2.1, fW .i64 (z5.1 + z7.2.2), true)) else ((g94 k z7.2.1).bind fun x3_28 => j8 (z7.2.1, fW .i64 (z5.1 + z7.2.2), eqL x3_28 [])))) else ((g94 k z7.2.1).bind fun x3_28 => j8 (z7.2.1, fW .i64 (z5.1 + z7.2.2), eqL x3_28 []))))))) (fun j7 => if (decide (y6_1 < z5.2.1)) then (if (decide (fW .i64 (z5.1 + y6_1) < (a0.length : Int))) then ((nthS a0 (fW .i64 (z5.1 + y6_1))).bind fun x1_16 => (g75 k x1_16).bind fun x1_17 => j7 (decide (x1_17 < 16), y6_0, y6_1)) else (j7 (false, y6_0, y6_1))) else (j7 (false, y6_0, y6_1)))) := rfl
end
end Go.Proofs.Ytabhkocokojddaa.Am
