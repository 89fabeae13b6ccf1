/- LawSignAsks, part 2: whatever the input, the law comes out true: our texts, joined by a tool, without what the claim does not name. -/
import Derived.Test.YtnikdnchoahngaaPkSignAsks1
import Derived.KernelRfl
import Derived.Lib.OthersKept
import Derived.Laws.RangeString
import Derived.Test.YtnikdnchoahngaaProg
set_option linter.unusedVariables false
set_option linter.unusedSimpArgs false
namespace Go.Proofs.Ytnikdnchoahngaa.Am
open Go
mutual
def pur : AV → Bool
 | .ptr .. | .slice .. | .own .. => false
 | .agg xs => purs xs
 | .tuple xs => purs xs
 | .func _ a b => purs a && purs b
 | .iface _ v => pur v
 | _ => true
def purs : List AV → Bool
 | [] => true
 | x :: xs => pur x && purs xs
end
mutual
theorem pur_VR {m : Mp} : ∀ (x : AV) (c : Value), pur x = true → VR m x c → VR m.still x c
 | .top, _, _, _ => by simp only [VR]
 | .int .., _, _, e => by simpa only [VR] using e
 | .resid .., _, _, e => by simpa only [VR] using e
 | .bool _, _, _, e => by simpa only [VR] using e
 | .str _, _, _, e => by simpa only [VR] using e
 | .nilp, _, _, e => by simpa only [VR] using e
 | .nils, _, _, e => by simpa only [VR] using e
 | .nilf, _, _, e => by simpa only [VR] using e
 | .nili, _, _, e => by simpa only [VR] using e
 | .vec .., _, _, e => by simp only [VR] at e ⊢; exact e
 | .vptr .., _, _, e => by simp only [VR] at e ⊢; exact e
 | .ptr .., _, h, _ => by simp [pur] at h
 | .slice .., _, h, _ => by simp [pur] at h
 | .own .., _, h, _ => by simp [pur] at h
 | .agg xs, c, h, e => by
  simp only [VR] at e ⊢
  obtain ⟨ys, h1, h2⟩ := e
  exact ⟨ys, h1, purs_VR xs _ (by simpa only [pur] using h) h2⟩
 | .tuple xs, c, h, e => by
  simp only [VR] at e ⊢
  obtain ⟨ys, h1, h2⟩ := e
  exact ⟨ys, h1, purs_VR xs _ (by simpa only [pur] using h) h2⟩
 | .func f a b, c, h, e => by
  simp only [VR] at e ⊢
  simp only [pur, Bool.and_eq_true] at h
  obtain ⟨ys, zs, h1, h2, h3⟩ := e
  exact ⟨ys, zs, h1, purs_VR a _ h.1 h2, purs_VR b _ h.2 h3⟩
 | .iface t v, c, h, e => by
  simp only [VR] at e ⊢
  obtain ⟨d, h1, h2⟩ := e
  exact ⟨d, h1, pur_VR v _ (by simpa only [pur] using h) h2⟩
theorem purs_VR {m : Mp} : ∀ (xs : List AV) (cs : List Value), purs xs = true → VRs m xs cs → VRs m.still xs cs
 | [], _, _, e => by simpa only [VRs] using e
 | x :: xs, cs, h, e => by
  simp only [VRs] at e ⊢
  simp only [purs, Bool.and_eq_true] at h
  obtain ⟨y, ys, rfl, h1, h2⟩ := e
  exact ⟨y, ys, rfl, pur_VR x y h.1 h1, purs_VR xs ys h.2 h2⟩
end
theorem RW.still {m : Mp} {H : Hp} {w : World} {base : Nat} (h : RW m H w base) : RW m.still H0 w w.heap.size where
 blk := by intro r b v B N hb hm; cases hm
 dom := by intro r v B N hm; cases hm
 sep := by intro r v B N r' v' N' hm; cases hm
 fresh := by intro r _; rfl
 vle := by intro r v B N hm; cases hm
 frz := h.frz
 fsep := by intro i B cells r v N b _ hm; cases hm
 ffin := h.ffin
 base_le := Nat.le_refl _
 low := by show 0 ≤ roots; unfold roots; omega
def PureOk (P : Program) (f : Nat) (xs : List AV) (v : AV) : Prop :=
 (∀ (m0 : Mp) (w : World) (args : Array Value), (∀ r v, m0 r v = none) → VRs m0 xs args.toList → RW m0 H0 w w.heap.size → Calls P f args w fun x w' => ∃ m' c, x = .returned c ∧ RW m' H0 w' w.heap.size ∧ St m0 w w.heap.size m' w' ∧ VR m' v c) ∧
 (∃ fn, P.funcs[f]? = some fn ∧ (fn.name == "runtime.NumGoroutine") = false ∧ fn.body.isSome = true)
theorem pure_call {P : Program} {f : Nat} {xs : List AV} {v : AV} (h : PureOk P f xs v) (hx : purs xs = true) (hv : pur v = true) (H : Hp) : CallV P f xs H v H := by
 refine ⟨?_, h.2⟩
 intro m w base args hargs rw
 refine Calls.mono (h.1 m.still w args (fun _ _ => rfl) (purs_VR _ _ hx hargs) rw.still) ?_
 rintro x w' ⟨m', c, rfl, rw', st', hvc⟩
 have hnone : ∀ r v, m' r v = none := by
  intro r v
  cases e : m' r v with
  | none => rfl
  | some p =>
   obtain ⟨b, hb, _⟩ := rw'.dom r v p.1 p.2 e
   cases hb
 have hsame : ∀ B, B < w.heap.size → w'.heap[B]? = w.heap[B]? := fun B hB => st'.same B hB (fun _ _ _ hm => by cases hm)
 have hsub : Sub m ⟨m.map, m'.froz⟩ := ⟨fun _ _ _ h => h, st'.sub.2⟩
 refine ⟨⟨m.map, m'.froz⟩, c, rfl, ⟨?_, ?_, rw.sep, rw.fresh, rw.vle, rw'.frz, ?_, rw'.ffin, Nat.le_trans rw.base_le st'.size, rw.low⟩, ⟨hsub, fun r v B N e => .inl ⟨v, N, e⟩, ?_, st'.size, st'.os, st'.tape, st'.output, fun B hB _ => hsame B hB⟩, ?_⟩
 ·intro r b v B N hb hm h1 h2
  obtain ⟨cs, ty, fr, q1, q2, q3, q4, q5⟩ := rw.blk r b v B N hb hm h1 h2
  obtain ⟨_, _, _, hlt, _⟩ := rw.dom r v B N hm
  exact ⟨cs, ty, fr, by rw [hsame B hlt]; exact q1, q2, q3, q4, VRs.mono hsub _ _ q5⟩
 ·intro r v B N hm
  obtain ⟨b, q1, q2, q3, q4⟩ := rw.dom r v B N hm
  exact ⟨b, q1, q2, Nat.lt_of_lt_of_le q3 st'.size, q4⟩
 ·intro i B cells r v N b hi hm hb
  rcases st'.fext i B cells hi with hi' | hB
  ·exact rw.fsep i B cells r v N b hi' hm hb
  ·obtain ⟨_, _, _, hlt, _⟩ := rw.dom r v B N hm
   omega
 ·intro i B cells e
  rcases st'.fext i B cells e with hi' | hB
  ·exact .inl hi'
  ·exact .inr (Nat.le_trans rw.base_le hB)
 ·have h1 := pur_VR v c hv hvc
  exact VR.mono (m := m'.still) (m' := ⟨m.map, m'.froz⟩) ⟨fun _ _ _ h => (by cases h), fun _ _ h => h⟩ v c h1
inductive Fr where
 | seq (b : Code) | block (id : Nat) | loop (b : Code) | scope (b : Code)
inductive Pt where
 | code (c : Code) (K : List Fr)
 | ops (o : Array Oper) (n : Nat) (K : List Fr)
 | loop (b : Code) (K : List Fr)
 | fin
def FinK (P : Program) (Q : Exit → Act → World → Prop) : List Fr → Exit → Act → World → Prop
 | [] => Q
 | .seq b :: K => Exit.then (b.wp P (FinK P Q K)) (FinK P Q K)
 | .block id :: K => Exit.inBlock id (FinK P Q K)
 | .loop b :: K => Exit.then (LoopWp P b (FinK P Q K)) (FinK P Q K)
 | .scope b :: K => fun e a w => match e with | .goto l => ∃ rest, findLabel b l = some rest ∧ ScopeWp P b rest (FinK P Q K) a w | e => FinK P Q K e a w
def At (P : Program) (Q : Exit → Act → World → Prop) : Pt → Act → World → Prop
 | .code c K, a, w => c.wp P (FinK P Q K) a w
 | .ops o n K, a, w => wpOps P o (FinK P Q K) (List.range' n (o.size - n)) a w
 | .loop b K, a, w => LoopWp P b (FinK P Q K) a w
 | .fin, a, w => Q .normal a w ∧ Q .ret a w
def resume : List Fr → Pt
 | [] => .fin
 | .seq b :: K => .code b K
 | .block _ :: K => resume K
 | .loop b :: K => .loop b K
 | .scope _ :: K => resume K
theorem resume_ok {P : Program} {Q : Exit → Act → World → Prop} {a : Act} {w : World} : ∀ {K : List Fr}, At P Q (resume K) a w → FinK P Q K .normal a w
 | [], h => h.1
 | .seq b :: K, h => h
 | .block id :: K, h => by show Exit.inBlock id (FinK P Q K) .normal a w; exact resume_ok (K := K) h
 | .loop b :: K, h => h
 | .scope b :: K, h => resume_ok (K := K) h
def exitK (id : Nat) : List Fr → Option Pt
 | [] => none
 | .block j :: K => if id = j then some (resume K) else exitK id K
 | .seq _ :: K => exitK id K
 | .loop _ :: K => exitK id K
 | .scope _ :: K => exitK id K
theorem exitK_ok {P : Program} {Q : Exit → Act → World → Prop} {a : Act} {w : World} {id : Nat} {p : Pt} : ∀ {K : List Fr}, exitK id K = some p → At P Q p a w → FinK P Q K (.exit id) a w
 | [], h, _ => by cases h
 | .seq b :: K, h, k => exitK_ok (K := K) h k
 | .loop b :: K, h, k => exitK_ok (K := K) h k
 | .scope b :: K, h, k => exitK_ok (K := K) h k
 | .block j :: K, h, k => by
  simp only [exitK] at h
  show Exit.inBlock j (FinK P Q K) (.exit id) a w
  simp only [Exit.inBlock]
  split at h
  ·rename_i e
   cases h
   rw [if_pos e]
   exact resume_ok k
  ·rename_i e
   rw [if_neg e]
   exact exitK_ok h k
def gotoK (l : Nat) : List Fr → Option Pt
 | [] => none
 | .scope b :: K => match findLabel b l with | some rest => some (.code rest (.scope b :: K)) | none => none
 | .block _ :: K => gotoK l K
 | .seq _ :: K => gotoK l K
 | .loop _ :: K => gotoK l K
theorem scope_ok {P : Program} {Q : Exit → Act → World → Prop} {a : Act} {w : World} {b c : Code} {K : List Fr} (h : c.wp P (FinK P Q (.scope b :: K)) a w) : ScopeWp P b c (FinK P Q K) a w :=
 ScopeWp.of (wp_mono h fun e a1 w1 he => by cases e <;> exact he)
theorem gotoK_ok {P : Program} {Q : Exit → Act → World → Prop} {a : Act} {w : World} {l : Nat} {p : Pt} : ∀ {K : List Fr}, gotoK l K = some p → At P Q p a w → FinK P Q K (.goto l) a w
 | [], h, _ => by cases h
 | .seq b :: K, h, k => gotoK_ok (K := K) h k
 | .loop b :: K, h, k => gotoK_ok (K := K) h k
 | .block b :: K, h, k => gotoK_ok (K := K) h k
 | .scope b :: K, h, k => by
  simp only [gotoK] at h
  split at h
  ·rename_i rest hf
   cases h
   exact ⟨rest, hf, scope_ok k⟩
  ·cases h
theorem retK_ok {P : Program} {Q : Exit → Act → World → Prop} {a : Act} {w : World} (h : Q .ret a w) : ∀ (K : List Fr), FinK P Q K .ret a w
 | [] => h
 | .seq b :: K => retK_ok h K
 | .loop b :: K => retK_ok h K
 | .block b :: K => retK_ok h K
 | .scope b :: K => retK_ok h K
inductive FzG (H : Hp) : List AV → List AV → Prop where
 | pures {xs} : purs xs = true → FzG H xs xs
 | cons {x xs ys} : pur x = true → FzG H xs ys → FzG H (x :: xs) (x :: ys)
 | nil {sz xs ys} : FzG H xs ys → FzG H (.nils :: xs) (.vec 0 sz [] :: ys)
 | own {r len sz cells cells' minv xs ys} : H.t.get r = some ⟨cells, minv, false⟩ → cells.length = len * sz → minv ≤ len * sz → FzG H cells cells' → FzG H xs ys → FzG H (.own r len sz :: xs) (.vec len sz cells' :: ys)
 | slice {r len sz v cells cells' minv xs ys} : H.t.get r = some ⟨cells, minv, false⟩ → cells.length = len * sz → v = len * sz → minv ≤ len * sz → FzG H cells cells' → FzG H xs ys → FzG H (.slice r v 0 len sz :: xs) (.vec len sz cells' :: ys)
 | agg {xs ys zs us} : FzG H xs ys → FzG H zs us → FzG H (.agg xs :: zs) (.agg ys :: us)
 | tuple {xs ys zs us} : FzG H xs ys → FzG H zs us → FzG H (.tuple xs :: zs) (.tuple ys :: us)
structure FOk (F : Nat → Option (Nat × List AV)) (F0 : Nat → Option (Nat × List AV)) (w : World) (base : Nat) : Prop where
 ok : ∀ i B cells, F i = some (B, cells) → ∃ cs ty fr, w.heap[B]? = some (.cells cs ty fr) ∧ cells.length ≤ cs.size ∧ VRs ⟨fun _ _ => none, F⟩ cells (cs.toList.take cells.length)
 fin : ∃ n, ∀ i, n ≤ i → F i = none
 new : ∀ i B cells, F i = some (B, cells) → F0 i = some (B, cells) ∨ base ≤ B
 sub : ∀ i p, F0 i = some p → F i = some p
theorem FzG.length {H : Hp} {xs ys : List AV} (h : FzG H xs ys) : ys.length = xs.length := by
 induction h <;> simp_all
theorem fOk_add {F F0 : Nat → Option (Nat × List AV)} {w : World} {base B : Nat} {cells : List AV} {cs : Array Value} {ty : TypeId} {fr : Nat × Nat} (h : FOk F F0 w base) (hB : base ≤ B) (hw : w.heap[B]? = some (.cells cs ty fr)) (hl : cells.length ≤ cs.size) (hv : VRs ⟨fun _ _ => none, F⟩ cells (cs.toList.take cells.length)) :
 ∃ F' i, FOk F' F0 w base ∧ F' i = some (B, cells) ∧ (∀ i p, F i = some p → F' i = some p) := by
 obtain ⟨n, hn⟩ := h.fin
 have hsub : ∀ i p, F i = some p → (fun i => if i = n then some (B, cells) else F i) i = some p := by
  intro i p hi
  simp only
  rw [if_neg]
  ·exact hi
  ·rintro rfl; rw [hn _ (Nat.le_refl _)] at hi; cases hi
 have hS : Sub ⟨fun _ _ => none, F⟩ ⟨fun _ _ => none, fun i => if i = n then some (B, cells) else F i⟩ := ⟨fun _ _ _ e => (by cases e), hsub⟩
 refine ⟨fun i => if i = n then some (B, cells) else F i, n, ⟨?_, ⟨n + 1, fun i hi => ?_⟩, ?_, fun i p hi => hsub i p (h.sub i p hi)⟩, by simp, hsub⟩
 ·intro i B' cells' hi
  by_cases e : i = n
  ·simp only [e, if_true] at hi
   cases hi
   exact ⟨cs, ty, fr, hw, hl, VRs.mono hS _ _ hv⟩
  ·simp only [e, if_false] at hi
   obtain ⟨cs2, ty2, fr2, h1, h2, h3⟩ := h.ok i B' cells' hi
   exact ⟨cs2, ty2, fr2, h1, h2, VRs.mono hS _ _ h3⟩
 ·have hne : ¬ i = n := by omega
  show (if i = n then some (B, cells) else F i) = none
  rw [if_neg hne]
  exact hn i (by omega)
 ·intro i B' cells' hi
  by_cases e : i = n
  ·simp only [e, if_true] at hi
   cases hi
   exact .inr hB
  ·simp only [e, if_false] at hi
   exact h.new i B' cells' hi
theorem vec_nil (m : Mp) (sz : Nat) : VR m (.vec 0 sz []) (.slice none 0 0) := by
 simp only [VR]
 exact ⟨by simp, none, 0, rfl, Nat.le_refl _, by simp, by simp⟩
theorem fz_ok {m : Mp} {H : Hp} {w : World} {base : Nat} (rw : RW m H w base) {xs ys : List AV} (h : FzG H xs ys) : ∀ {cs : List Value} {F : Nat → Option (Nat × List AV)}, FOk F m.froz w base → VRs m xs cs → ∃ F', FOk F' m.froz w base ∧ (∀ i p, F i = some p → F' i = some p) ∧ VRs ⟨fun _ _ => none, F'⟩ ys cs := by
 have still : ∀ {F : Nat → Option (Nat × List AV)}, FOk F m.froz w base → Sub m.still ⟨fun _ _ => none, F⟩ := fun hF => ⟨fun _ _ _ e => (by cases e), hF.sub⟩
 have grow : ∀ {F F' : Nat → Option (Nat × List AV)}, (∀ i p, F i = some p → F' i = some p) → Sub ⟨fun _ _ => none, F⟩ ⟨fun _ _ => none, F'⟩ := fun h => ⟨fun _ _ _ e => (by cases e), h⟩
 have block : ∀ {r len sz minv cap B N : Nat} {cells cells' : List AV}, H.t.get r = some ⟨cells, minv, false⟩ → cells.length = len * sz → minv ≤ len * sz → cells'.length = cells.length →
  (∀ {cs : List Value} {F : Nat → Option (Nat × List AV)}, FOk F m.froz w base → VRs m cells cs → ∃ F', FOk F' m.froz w base ∧ (∀ i p, F i = some p → F' i = some p) ∧ VRs ⟨fun _ _ => none, F'⟩ cells' cs) →
  ∀ {F : Nat → Option (Nat × List AV)}, FOk F m.froz w base → m r (len * sz) = some (B, N) → len ≤ cap → ∃ F', FOk F' m.froz w base ∧ (∀ i p, F i = some p → F' i = some p) ∧ VR ⟨fun _ _ => none, F'⟩ (.vec len sz cells') (.slice (some ⟨B, 0, none⟩) len cap) := by
  intro r len sz minv cap B N cells cells' hb hl hmin hl' ih F hF hm hcap
  obtain ⟨cs, ty, fr, q1, q2, q3, q4, q5⟩ := rw.blk _ _ _ _ _ hb hm hmin (by rw [hl]; exact Nat.le_refl _)
  obtain ⟨b0, hb0, _, _, hbase⟩ := rw.dom _ _ _ _ hm
  rw [hb] at hb0
  cases hb0
  simp only at q5
  rw [List.take_of_length_le (by omega)] at q5
  obtain ⟨F1, h1, h2, h3⟩ := ih hF q5
  obtain ⟨F2, i, g1, g2, g3⟩ := fOk_add h1 (hbase rfl) q1 (cells := cells') (by omega) (by rw [hl', hl]; exact h3)
  refine ⟨F2, g1, fun i p hi => g3 i p (h2 i p hi), ?_⟩
  simp only [VR]
  refine ⟨by omega, _, cap, rfl, hcap, fun e => (by cases e), fun _ => ⟨i, B, 0, cells', g2, rfl, ?_, by omega⟩⟩
  rw [List.drop_zero, List.take_of_length_le (by omega)]
 induction h with
 | pures hp =>
  intro cs F hF hv
  exact ⟨F, hF, fun _ _ h => h, VRs.mono (still hF) _ _ (purs_VR _ _ hp hv)⟩
 | cons hp _ ih =>
  intro cs F hF hv
  simp only [VRs] at hv ⊢
  obtain ⟨y, ys, rfl, h1, h2⟩ := hv
  obtain ⟨F', g1, g2, g3⟩ := ih hF h2
  exact ⟨F', g1, g2, y, ys, rfl, VR.mono (still g1) _ _ (pur_VR _ _ hp h1), g3⟩
 | nil _ ih =>
  intro cs F hF hv
  simp only [VRs] at hv ⊢
  obtain ⟨y, ys, rfl, h1, h2⟩ := hv
  obtain ⟨F', g1, g2, g3⟩ := ih hF h2
  simp only [VR] at h1
  subst h1
  exact ⟨F', g1, g2, _, ys, rfl, vec_nil _ _, g3⟩
 | @own r len sz cells cells' minv xs ys hb hl hmin hc _ ih1 ih2 =>
  intro cs F hF hv
  simp only [VRs] at hv
  obtain ⟨c, cs', rfl, h1, h2⟩ := hv
  simp only [VR] at h1
  rcases h1 with ⟨h0, rfl⟩ | ⟨B, N, cap, hm, hcap, hN, rfl⟩
  ·obtain ⟨F', g1, g2, g3⟩ := ih2 hF h2
   refine ⟨F', g1, g2, ?_⟩
   subst h0
   obtain rfl : cells' = [] := List.length_eq_zero_iff.1 (by rw [hc.length]; omega)
   simp only [VRs]
   exact ⟨_, _, rfl, vec_nil _ _, g3⟩
  ·obtain ⟨F1, g1, g2, g3⟩ := block hb hl hmin hc.length ih1 hF hm hcap
   obtain ⟨F', e1, e2, e3⟩ := ih2 g1 h2
   refine ⟨F', e1, fun i p hi => e2 i p (g2 i p hi), ?_⟩
   simp only [VRs]
   exact ⟨_, _, rfl, VR.mono (grow e2) _ _ g3, e3⟩
 | @slice r len sz v cells cells' minv xs ys hb hl hv0 hmin hc _ ih1 ih2 =>
  intro cs F hF hv
  simp only [VRs] at hv
  obtain ⟨c, cs', rfl, h1, h2⟩ := hv
  simp only [VR] at h1
  obtain ⟨B, N, cap, hm, _, hcap, hN, rfl⟩ := h1
  subst hv0
  obtain ⟨F1, g1, g2, g3⟩ := block hb hl hmin hc.length ih1 hF hm hcap
  obtain ⟨F', e1, e2, e3⟩ := ih2 g1 h2
  refine ⟨F', e1, fun i p hi => e2 i p (g2 i p hi), ?_⟩
  simp only [VRs]
  exact ⟨_, _, rfl, VR.mono (grow e2) _ _ g3, e3⟩
 | agg _ _ ih1 ih2 =>
  intro cs F hF hv
  simp only [VRs, VR] at hv ⊢
  obtain ⟨c, cs', rfl, ⟨zs, rfl, h1⟩, h2⟩ := hv
  obtain ⟨F1, g1, g2, g3⟩ := ih1 hF h1
  obtain ⟨F', e1, e2, e3⟩ := ih2 g1 h2
  exact ⟨F', e1, fun i p hi => e2 i p (g2 i p hi), _, _, rfl, ⟨zs, rfl, VRs.mono (grow e2) _ _ g3⟩, e3⟩
 | tuple _ _ ih1 ih2 =>
  intro cs F hF hv
  simp only [VRs, VR] at hv ⊢
  obtain ⟨c, cs', rfl, ⟨zs, rfl, h1⟩, h2⟩ := hv
  obtain ⟨F1, g1, g2, g3⟩ := ih1 hF h1
  obtain ⟨F', e1, e2, e3⟩ := ih2 g1 h2
  exact ⟨F', e1, fun i p hi => e2 i p (g2 i p hi), _, _, rfl, ⟨zs, rfl, VRs.mono (grow e2) _ _ g3⟩, e3⟩
structure Fx (R : Type) where
 P : Program
 C : Cx
 fn : Func
 enc : R → AV
 n0 : Nat
 fin : R → Hp
 hti : ∀ t i, C.ti t = some i → mkTi P t = some i
 ord : P.follows .mixedOrders = true
section
variable {R : Type} (X : Fx R)
def Ret (r : R) (m0 : Mp) (w0 : World) (b0 : Nat) : Exit → Act → World → Prop :=
 bodyPost X.P X.fn fun x w' => ∃ m' c, x = .returned c ∧ RW m' (X.fin r) w' b0 ∧ St m0 w0 b0 m' w' ∧ VR m' (X.enc r) c
def Ok (p : Pt) (env : Env) (H : Hp) (t : Option R) : Prop := ∀ r, t = some r → ∀ (m0 : Mp) (w0 : World) (b0 : Nat) (m : Mp) (w : World) (a : Act), ((∀ r v p, m0 r v = some p → r < X.n0) ∧ b0 ≤ w0.heap.size) → FR m env a.tmps → X.fn.ntmps ≤ a.tmps.size → a.defers = [] → RW m H w b0 → St m0 w0 b0 m w → At X.P (Ret X r m0 w0 b0) p a w
end
section
variable {R : Type} {X : Fx R} {p p' : Pt} {env eE : Env} {H H' : Hp}
theorem ok_none : Ok X p env H none := by intro r h; cases h
theorem ok_bind {α : Type} {m : Option α} {f : α → Option R} (h : ∀ x, m = some x → Ok X p env H (f x)) : Ok X p env H (m.bind f) := by
 intro r hr
 cases hm : m with
 | none => rw [hm] at hr; cases hr
 | some x => rw [hm] at hr; exact h x hm r hr
theorem ok_less {t : Option R} (h : Less env eE) (k : Ok X p eE H t) : Ok X p env H t :=
 fun r hr m0 w0 b0 m w a h0 fr hn hd rw st => k r hr m0 w0 b0 m w a h0 (fr.less h) hn hd rw st
theorem oK {t : Option R} (ks : List Nat) (h : keepOnly env ks = eE) (k : Ok X p eE H t) : Ok X p env H t :=
 ok_less (h ▸ less_keepOnly ks env) k
theorem ok_heap {t : Option R} (h : H = H') (k : Ok X p env H' t) : Ok X p env H t := h ▸ k
theorem oE {t : Option R} (h : env = eE) (k : Ok X p eE H t) : Ok X p env H t := h ▸ k
theorem less_put {d : Nat} {v : AV} (h : look env d = v) : Less env (putE env d v) := by
 intro t
 rw [look_put]
 split
 ·rename_i e; subst e; exact .inr h.symm
 ·exact .inr rfl
theorem oS {t1 t2 : Option R} (d : Nat) {b : Bool} (h : look env d = .bool b) (k1 : b = true → Ok X p ((d, .bool true) :: env) H t1) (k2 : b = false → Ok X p ((d, .bool false) :: env) H t2) : Ok X p env H (if b then t1 else t2) := by
 cases b with
 | true => exact ok_less (less_put h) (k1 rfl)
 | false => exact ok_less (less_put h) (k2 rfl)
abbrev jn {α R : Type} (f : α → Option R) (b : (α → Option R) → Option R) : Option R := b f
theorem oJ {α : Type} {f : α → Option R} {b : (α → Option R) → Option R} (pj : Pt) (E : α → Env) (G : α → Hp) (k1 : ∀ x, Ok X pj (E x) (G x) (f x)) (k2 : ∀ j : α → Option R, (∀ x, Ok X pj (E x) (G x) (j x)) → Ok X p env H (b j)) : Ok X p env H (jn f b) := k2 f k1
theorem ok_stp {t : Option R} {ops : Array Oper} {n : Nat} {K : List Fr} {o : Oper} {v : AV} (ho : ops[n]? = some o) (hd : dstOk X.fn.ntmps o = true) (hw : wantedV o ops.toList env = some true) (hs : Stp X.P X.C env H o v H') (k : Ok X (.ops ops (n + 1) K) (putV env o.dst v) H' t) : Ok X (.ops ops n K) env H t := by
 intro r hr m0 w0 b0 m w a h0 fr hn hdf rw st
 show wpOps X.P ops _ (List.range' n (ops.size - n)) a w
 have hlt : n < ops.size := (Array.getElem?_eq_some_iff.1 ho).1
 rw [show ops.size - n = (ops.size - (n + 1)) + 1 by omega, List.range'_succ]
 simp only [wpOps, ho]
 rw [wanted_ok hw fr]
 simp only [if_true]
 refine .inl ?_
 refine stp_ok X.hti hs fr rw _ _ fun m' w' c q1 q2 q3 => ?_
 obtain ⟨f1, f2, f3⟩ := act_put_frame (fr.mono q2.sub) hn hdf o hd v c q3
 exact k r hr m0 w0 b0 m' w' _ h0 f1 f2 f3 q1 (st.trans h0.2 q2)
theorem ok_skp {t : Option R} {ops : Array Oper} {n : Nat} {K : List Fr} {o : Oper} (ho : ops[n]? = some o) (hd : dstOk X.fn.ntmps o = true) (hw : wantedV o ops.toList env = some false) (k : Ok X (.ops ops (n + 1) K) (putV env o.dst (.tuple [])) H t) : Ok X (.ops ops n K) env H t := by
 intro r hr m0 w0 b0 m w a h0 fr hn hdf rw st
 show wpOps X.P ops _ (List.range' n (ops.size - n)) a w
 have hlt : n < ops.size := (Array.getElem?_eq_some_iff.1 ho).1
 rw [show ops.size - n = (ops.size - (n + 1)) + 1 by omega, List.range'_succ]
 simp only [wpOps, ho]
 rw [wanted_ok hw fr]
 simp only [Bool.false_eq_true, if_false]
 obtain ⟨f1, f2, f3⟩ := act_put_frame fr hn hdf o hd (.tuple []) undef (VR_undef _)
 exact k r hr m0 w0 b0 m w _ h0 f1 f2 f3 rw st
theorem ok_go {t : Option R} (h : ∀ (Q : Exit → Act → World → Prop) (a : Act) (w : World), True → At X.P Q p' a w → At X.P Q p a w) (k : Ok X p' env H t) : Ok X p env H t :=
 fun r hr m0 w0 b0 m w a h0 fr hn hd rw st => h _ a w trivial (k r hr m0 w0 b0 m w a h0 fr hn hd rw st)
end
end Go.Proofs.Ytnikdnchoahngaa.Am
set_option linter.unusedVariables false
set_option linter.unusedSimpArgs false
namespace Go.Proofs.Ytnikdnchoahngaa.Am
open Go
section
variable {R : Type} {X : Fx R} {p p' : Pt} {env eE : Env} {H H' : Hp}
noncomputable def stepV (C : Cx) (n : Nat) (p : Pt) (env : Env) (H : Hp) : Option (Pt × Env × Hp) :=
 match p with
 | .ops ops k K => match nth ops.toList k with
  | some o => bif dstOk n o then (match wantedV o ops.toList env with
   | some true => (match opV C env H o with | some (v, H') => some (.ops ops (k + 1) K, putV env o.dst v, H') | none => none)
   | some false => some (.ops ops (k + 1) K, putV env o.dst (.tuple []), H)
   | none => none) else none
  | none => some (resume K, env, H)
 | .code c K => match c with
  | .seq a b => some (.code a (.seq b :: K), env, H)
  | .skip => some (resume K, env, H)
  | .label _ => some (resume K, env, H)
  | .block id b => some (.code b (.block id :: K), env, H)
  | .scope b => some (.code b (.scope b :: K), env, H)
  | .loop b => some (.loop b K, env, H)
  | .exit id => match exitK id K with | some q => some (q, env, H) | none => none
  | .goto l => match gotoK l K with | some q => some (q, env, H) | none => none
  | .ret => some (.fin, env, H)
  | .region id ops draw => bif draw then none else some (.ops ops 0 K, env, H)
  | .cond c x y => match opnd env c with | .bool b => some (.code (bif b then x else y) K, env, H) | _ => none
  | _ => none
 | _ => none
theorem fin_ops {t : Option R} {ops : Array Oper} {n : Nat} {K : List Fr} (h : ops[n]? = none) (k : Ok X (resume K) env H t) : Ok X (.ops ops n K) env H t := by
 intro r hr m0 w0 b0 m w a h0 fr hn hd rw st
 show wpOps X.P ops _ (List.range' n (ops.size - n)) a w
 have hle : ops.size ≤ n := by
  rcases Nat.lt_or_ge n ops.size with h1 | h1
  ·rw [Array.getElem?_eq_getElem h1] at h; cases h
  ·exact h1
 rw [show ops.size - n = 0 by omega]
 exact resume_ok (k r hr m0 w0 b0 m w a h0 fr hn hd rw st)
theorem stepV_ok {t : Option R} (h : stepV X.C X.fn.ntmps p env H = some (p', eE, H')) (k : Ok X p' eE H' t) : Ok X p env H t := by
 cases p with
 | ops ops n K =>
  simp only [stepV] at h
  rw [nth_eq, Array.getElem?_toList] at h
  cases ho : ops[n]? with
  | none => rw [ho] at h; cases h; exact fin_ops ho k
  | some o =>
   rw [ho] at h
   simp only at h
   cases hd : dstOk X.fn.ntmps o with
   | false => rw [hd] at h; cases h
   | true =>
    rw [hd] at h
    simp only [cond_true] at h
    split at h
    ·rename_i hw
     split at h
     ·rename_i v H1 hv
      cases h
      exact ok_stp ho hd hw (.inl hv) k
     ·cases h
    ·rename_i hw
     cases h
     exact ok_skp ho hd hw k
    ·cases h
 | code c K =>
  cases c <;> simp only [stepV] at h
  case seq x y => cases h; exact ok_go (p' := .code x (.seq y :: K)) (fun Q a w _ hh => wp_seq (wp_mono hh fun e a w he => by cases e <;> exact he)) k
  case skip => cases h; exact ok_go (fun Q a w _ hh => wp_skip (resume_ok hh)) k
  case label => cases h; exact ok_go (fun Q a w _ hh => wp_label (resume_ok hh)) k
  case block id b => cases h; exact ok_go (p' := .code b (.block id :: K)) (fun Q a w _ hh => wp_block hh) k
  case scope b => cases h; exact ok_go (p' := .code b (.scope b :: K)) (fun Q a w _ hh => (scope_ok hh).wp) k
  case loop b => cases h; exact ok_go (p' := .loop _ _) (fun Q a w _ hh => LoopWp.wp hh) k
  case exit id =>
   split at h
   ·rename_i q hq
    cases h
    exact ok_go (fun Q a w _ hh => wp_exit (exitK_ok hq hh)) k
   ·cases h
  case goto l =>
   split at h
   ·rename_i q hq
    cases h
    exact ok_go (fun Q a w _ hh => wp_goto (gotoK_ok hq hh)) k
   ·cases h
  case ret => cases h; exact ok_go (p' := .fin) (fun Q a w _ hh => wp_ret (retK_ok hh.2 K)) k
  case region id ops draw =>
   cases draw with
   | true => cases h
   | false =>
    cases h
    refine ok_go (fun Q a w _ hh => wp_region ?_) k
    have hh' : wpOps X.P ops (FinK X.P Q K) (List.range' 0 (ops.size - 0)) a w := hh
    rw [List.range_eq_range']
    exact hh'
  case cond c x y =>
   split at h
   ·rename_i b hb
    cases h
    intro r hr m0 w0 b0 m w a h0 fr hn hd rw st
    have hc := opnd_ok fr c
    rw [hb] at hc
    simp only [VR] at hc
    refine wp_cond hc ?_
    have := k r hr m0 w0 b0 m w a h0 fr hn hd rw st
    cases b <;> exact this
   ·cases h
  all_goals cases h
 | loop b K => cases h
 | fin => cases h
noncomputable def runV (C : Cx) (n : Nat) (k : Nat) : Pt → Env → Hp → Option (Pt × Env × Hp) :=
 Nat.rec (motive := fun _ => Pt → Env → Hp → Option (Pt × Env × Hp)) (fun p env H => some (p, env, H))
  (fun _ ih p env H => match stepV C n p env H with | some (p', eE, H') => ih p' eE H' | none => none) k
theorem oR {t : Option R} : ∀ (k : Nat) {p : Pt} {env : Env} {H : Hp}, runV X.C X.fn.ntmps k p env H = some (p', eE, H') → Ok X p' eE H' t → Ok X p env H t
 | 0, p, env, H, h, g => by
  have h' : some (p, env, H) = some (p', eE, H') := h
  cases h'
  exact g
 | k + 1, p, env, H, h, g => by
  have h' : (match stepV X.C X.fn.ntmps p env H with | some (p', eE, H') => runV X.C X.fn.ntmps k p' eE H' | none => none) = some (p', eE, H') := h
  split at h'
  ·rename_i p1 env1 H1 hs
   exact stepV_ok hs (oR k h' g)
  ·cases h'
def entL : Pt → Option Pt
 | .loop b K => some (.code b (.loop b :: K))
 | _ => none
theorem ok_ent {t : Option R} (h : entL p = some p') (k : Ok X p' env H t) : Ok X p env H t := by
 cases p <;> simp only [entL] at h <;> cases h
 exact ok_go (p' := .code _ (.loop _ :: _)) (fun Q a w _ hh => LoopWp.of (wp_mono hh fun e a w he => by cases e <;> exact he)) k
noncomputable def operAt (n : Nat) (p : Pt) (env : Env) : Option Oper :=
 match p with
 | .ops ops k K => match nth ops.toList k with
  | some o => bif dstOk n o then (match wantedV o ops.toList env with | some true => some o | _ => none) else none
  | none => none
 | _ => none
def adv : Pt → Pt
 | .ops ops k K => .ops ops (k + 1) K
 | q => q
noncomputable def evalAt (C : Cx) (n : Nat) (p : Pt) (env : Env) (H : Hp) : Option (AV × Hp) :=
 match operAt n p env with | some o => opV C env H o | none => none
noncomputable def advE (n : Nat) (p : Pt) (env : Env) (v : AV) : Option (Pt × Env) :=
 match operAt n p env with | some o => some (adv p, putV env o.dst v) | none => none
noncomputable def callAt (n : Nat) (p : Pt) (env : Env) : Option (Nat × List AV) :=
 match operAt n p env with
 | some o => match o.op with
  | .call c => match c.callee with
   | .value g => match opnd env g with
    | .func f first caps => some (f, first ++ opnds env c.args.toList ++ caps)
    | _ => none
   | _ => none
  | _ => none
 | none => none
theorem operAt_spec {n : Nat} {o : Oper} (h : operAt n p env = some o) : ∃ ops k K, p = .ops ops k K ∧ ops[k]? = some o ∧ dstOk n o = true ∧ wantedV o ops.toList env = some true := by
 cases p <;> simp only [operAt] at h <;> try (cases h; done)
 rename_i ops k K
 rw [nth_eq, Array.getElem?_toList] at h
 cases ho : ops[k]? with
 | none => rw [ho] at h; cases h
 | some o' =>
  rw [ho] at h
  simp only at h
  cases hd : dstOk n o' with
  | false => rw [hd] at h; cases h
  | true =>
   rw [hd] at h
   simp only [cond_true] at h
   split at h
   ·rename_i hw
    cases h
    exact ⟨ops, k, K, rfl, ho, hd, hw⟩
   ·cases h
theorem ok_val {t : Option R} {v : AV} (h : evalAt X.C X.fn.ntmps p env H = some (v, H')) (ha : advE X.fn.ntmps p env v = some (p', eE)) (k : Ok X p' eE H' t) : Ok X p env H t := by
 unfold evalAt at h
 unfold advE at ha
 cases ho : operAt X.fn.ntmps p env with
 | none => rw [ho] at h; cases h
 | some o =>
  rw [ho] at h ha
  simp only at h ha
  cases ha
  obtain ⟨ops, n, K, rfl, h1, h2, h3⟩ := operAt_spec ho
  exact ok_stp h1 h2 h3 (.inl h) k
theorem oH {α : Type} {m : Option α} {f : α → Option R} (g : α → AV × Hp) (p' : Pt) (E : α → Env) (h : evalAt X.C X.fn.ntmps p env H = m.map g) (ha : ∀ x, advE X.fn.ntmps p env (g x).1 = some (p', E x)) (k : ∀ x, m = some x → Ok X p' (E x) (g x).2 (f x)) : Ok X p env H (m.bind f) := by
 refine ok_bind fun x hx => ?_
 subst hx
 exact ok_val (v := (g x).1) (H' := (g x).2) h (ha x) (k x rfl)
theorem oC {α : Type} {m : Option α} {f : α → Option R} {fi : Nat} {args : List AV} (g : α → AV) (p' : Pt) (E : α → Env) (hc : callAt X.fn.ntmps p env = some (fi, args)) (hp : purs args = true) (hg : ∀ x, pur (g x) = true) (hf : ∀ x, m = some x → PureOk X.P fi args (g x)) (ha : ∀ x, advE X.fn.ntmps p env (g x) = some (p', E x)) (k : ∀ x, m = some x → Ok X p' (E x) H (f x)) : Ok X p env H (m.bind f) := by
 refine ok_bind fun x hx => ?_
 have hpo := pure_call (hf x hx) hp (hg x) H
 have hax := ha x
 unfold advE at hax
 unfold callAt at hc
 cases ho : operAt X.fn.ntmps p env with
 | none => rw [ho] at hax; cases hax
 | some o =>
  rw [ho] at hax hc
  simp only [Option.some.injEq, Prod.mk.injEq] at hax hc
  obtain ⟨e1, e2⟩ := hax
  obtain ⟨ops, n, K, rfl, h1, h2, h3⟩ := operAt_spec ho
  have kx := k x hx
  rw [← e1, ← e2] at kx
  split at hc
  ·rename_i c hoc
   split at hc
   ·rename_i q hq
    split at hc
    ·rename_i fi' first caps hfv
     cases hc
     exact ok_stp h1 h2 h3 (.inr ⟨c, q, fi, first, caps, hoc, hq, hfv, hpo⟩) kx
    ·cases hc
   ·cases hc
  ·cases hc
def drawAt : Pt → Option Pt
 | .code (.region _ _ true) K => some (resume K)
 | _ => none
def opsAt : Pt → Array Oper
 | .code (.region _ ops _) _ => ops
 | _ => #[]
noncomputable def rdOp (C : Cx) (env : Env) (hs : List Hp) (o : Oper) (j : Nat) : List (Option (AV × Hp) × Option (AV × Hp)) :=
 match nth hs j with
 | some H => [(opV C env H o, match o.dst with | some d => some (look env d, H) | none => opV C env H o)]
 | none => []
noncomputable def rdOps (C : Cx) (env : Env) (hs : List Hp) (o : Oper) : Nat → Nat → List (Option (AV × Hp) × Option (AV × Hp))
 | _, 0 => []
 | lo, n + 1 => rdOp C env hs o lo ++ rdOps C env hs o (lo + 1) n
noncomputable def rdL (C : Cx) (all : List Oper) (env : Env) (hs : List Hp) : Nat → List Oper → List (Nat × Nat × Nat) → List (Option (AV × Hp) × Option (AV × Hp))
 | c, o :: l, (_, lo, hi) :: pl => (bif Nat.beq (cls o) 1 && !(Nat.beq lo c && Nat.beq hi c) then (match wantedV o all env with | some true => rdOps C env hs o lo (hi + 1 - lo) | _ => []) else []) ++ rdL C all env hs (bif Nat.beq (cls o) 2 then c + 1 else c) l pl
 | _, _, _ => []
theorem rdOps_at {C : Cx} {env : Env} {hs : List Hp} {o : Oper} : ∀ (n lo j : Nat) (H : Hp), lo ≤ j → j < lo + n → hs[j]? = some H → (opV C env H o, match o.dst with | some d => some (look env d, H) | none => opV C env H o) ∈ rdOps C env hs o lo n
 | 0, lo, j, H, h1, h2, _ => by omega
 | n + 1, lo, j, H, h1, h2, h3 => by
  rw [rdOps, List.mem_append]
  by_cases e : lo = j
  ·subst e
   left
   unfold rdOp
   rw [nth_eq, h3]
   simp
  ·exact .inr (rdOps_at n (lo + 1) j H (by omega) (by omega) h3)
theorem rdL_at {C : Cx} {all : List Oper} {env : Env} {hs : List Hp} : ∀ (l : List Oper) (pl : List (Nat × Nat × Nat)) (c i : Nat) (o : Oper) (mk lo hi : Nat), l[i]? = some o → pl[i]? = some (mk, lo, hi) → cls o = 1 → wantedV o all env = some true → ¬ (lo = c + (l.take i).countP (fun p => Nat.beq (cls p) 2) ∧ hi = c + (l.take i).countP (fun p => Nat.beq (cls p) 2)) → ∀ j, lo ≤ j → j ≤ hi → ∀ H, hs[j]? = some H → (opV C env H o, match o.dst with | some d => some (look env d, H) | none => opV C env H o) ∈ rdL C all env hs c l pl
 | [], pl, c, i, o, mk, lo, hi, ho, _, _, _, _, j, _, _, H, _ => by simp at ho
 | p :: l, [], c, i, o, mk, lo, hi, ho, hp, _, _, _, j, _, _, H, _ => by simp at hp
 | p :: l, (mk0, lo0, hi0) :: pl, c, i, o, mk, lo, hi, ho, hp, hc, hw, hn, j, h1, h2, H, hj => by
  rw [rdL, List.mem_append]
  cases i with
  | zero =>
   simp at ho hp
   subst ho
   obtain ⟨rfl, rfl, rfl⟩ := hp
   left
   have e : Nat.beq (cls p) 1 = true := by rw [hc]; rfl
   have e2 : (Nat.beq lo0 c && Nat.beq hi0 c) = false := by
    cases h : (Nat.beq lo0 c && Nat.beq hi0 c) with
    | false => rfl
    | true =>
     simp only [Bool.and_eq_true] at h
     refine absurd (a := lo0 = c ∧ hi0 = c) ⟨Nat.eq_of_beq_eq_true h.1, Nat.eq_of_beq_eq_true h.2⟩ ?_
     simpa using hn
   rw [e, e2, hw]
   exact rdOps_at _ _ _ _ h1 (by omega) hj
  | succ i =>
   refine .inr (rdL_at l pl _ i o mk lo hi (by simpa using ho) (by simpa using hp) hc hw ?_ j h1 h2 H hj)
   rw [List.take_succ_cons, List.countP_cons] at hn
   cases hb : Nat.beq (cls p) 2 with
   | true => rw [hb] at hn; simp only [if_true] at hn; simp only [cond_true]; omega
   | false => rw [hb] at hn; simp only [Bool.false_eq_true, if_false] at hn; simp only [cond_false]; omega
theorem alike_of {C : Cx} {ops : Array Oper} {env : Env} {hs : List Hp} {pl : List (Nat × Nat × Nat)} (hsome : (rdL C ops.toList env hs 0 ops.toList pl).all (fun q => q.1.isSome) = true) (h : (rdL C ops.toList env hs 0 ops.toList pl).map (·.1) = (rdL C ops.toList env hs 0 ops.toList pl).map (·.2)) : AlikeP C ops env hs pl := by
 intro i o mk lo hi ho hp hc hw hn j h1 h2 H hj
 have hm := rdL_at (C := C) _ _ 0 i o mk lo hi ho hp hc hw (by simpa using hn) j h1 h2 H hj
 have e : opV C env H o = (match o.dst with | some d => some (look env d, H) | none => opV C env H o) := by
  have key : ∀ l : List (Option (AV × Hp) × Option (AV × Hp)), l.map (·.1) = l.map (·.2) → ∀ q ∈ l, q.1 = q.2 := by
   intro l
   induction l with
   | nil => intro _ q hq; cases hq
   | cons x l ih =>
    intro hl q hq
    simp only [List.map_cons, List.cons.injEq] at hl
    rcases List.mem_cons.1 hq with rfl | hq
    ·exact hl.1
    ·exact ih hl.2 q hq
  exact key _ h _ hm
 have hs1 := List.all_eq_true.1 hsome _ hm
 cases hd : o.dst with
 | none =>
  simp only at hs1
  obtain ⟨⟨v, H1⟩, hv⟩ := Option.isSome_iff_exists.1 hs1
  have := opV_reads hc hv
  subst this
  exact ⟨v, hv, fun d hd => by cases hd⟩
 | some d =>
  rw [hd] at e
  exact ⟨_, e, fun d' hd' => by cases hd'; rfl⟩
theorem ok_draw {t : Option R} (pl : List (Nat × Nat × Nat)) {hs : List Hp} (h : drawAt p = some p') (hp : planOk (opsAt p) pl = true) (hds : (opsAt p).toList.all (dstOk X.fn.ntmps) = true) (hD : OpsD X.P X.C (opsAt p).toList (opsAt p).toList env H eE hs) (hsome : (rdL X.C (opsAt p).toList eE (H :: hs) 0 (opsAt p).toList pl).all (fun q => q.1.isSome) = true) (hq : (rdL X.C (opsAt p).toList eE (H :: hs) 0 (opsAt p).toList pl).map (·.1) = (rdL X.C (opsAt p).toList eE (H :: hs) 0 (opsAt p).toList pl).map (·.2)) (hl : lastH H hs = H') (k : Ok X p' eE H' t) : Ok X p env H t := by
 subst hl
 unfold drawAt at h
 split at h
 ·rename_i id ops K
  cases h
  intro r hr m0 w0 b0 m w a h0 fr hn hd rw st
  have := drawS_ok (id := id) X.hti X.ord hds hp hD (alike_of hsome hq) fr hn hd rw
  show (Code.region id ops true).wp X.P _ a w
  refine wp_mono this ?_
  rintro e a' w' ⟨rfl, m', q1, q2, q3, q4, q5⟩
  exact resume_ok (k r hr m0 w0 b0 m' w' a' h0 q3 q4 q5 q1 (st.trans h0.2 q2))
 ·cases h
noncomputable def runD (C : Cx) (all : List Oper) (k : Nat) : List Oper → Env → Hp → Option (List Oper × Env × Hp × List Hp) :=
 Nat.rec (motive := fun _ => List Oper → Env → Hp → Option (List Oper × Env × Hp × List Hp)) (fun l env H => some (l, env, H, []))
  (fun _ ih l env H => match l with
   | [] => none
   | o :: l => match wantedV o all env with
    | none => none
    | some false => (match ih l (putV env o.dst (.tuple [])) H with
     | some (l', e, H', hs) => some (l', e, H', bif Nat.beq (cls o) 2 then H :: hs else hs)
     | none => none)
    | some true => (match opV C env H o with
     | some (v, H1) => (match ih l (putV env o.dst v) H1 with
      | some (l', e, H', hs) => some (l', e, H', bif Nat.beq (cls o) 2 then H1 :: hs else hs)
      | none => none)
     | none => none)) k
theorem opsD_run {P : Program} {C : Cx} {all : List Oper} {e : Env} {hs2 : List Hp} : ∀ (k : Nat) {l l' : List Oper} {env eE : Env} {H H' : Hp} {hs : List Hp}, runD C all k l env H = some (l', eE, H', hs) → OpsD P C all l' eE H' e hs2 → OpsD P C all l env H e (hs ++ hs2)
 | 0, l, l', env, eE, H, H', hs, h, g => by
  have h' : some (l, env, H, ([] : List Hp)) = some (l', eE, H', hs) := h
  cases h'
  exact g
 | k + 1, [], l', env, eE, H, H', hs, h, g => by cases h
 | k + 1, o :: l, l', env, eE, H, H', hs, h, g => by
  have h' : (match wantedV o all env with
   | none => none
   | some false => (match runD C all k l (putV env o.dst (.tuple [])) H with
    | some (l', e, H', hs) => some (l', e, H', bif Nat.beq (cls o) 2 then H :: hs else hs)
    | none => none)
   | some true => (match opV C env H o with
    | some (v, H1) => (match runD C all k l (putV env o.dst v) H1 with
     | some (l', e, H', hs) => some (l', e, H', bif Nat.beq (cls o) 2 then H1 :: hs else hs)
     | none => none)
    | none => none)) = some (l', eE, H', hs) := h
  split at h'
  ·cases h'
  ·rename_i hw
   split at h'
   ·rename_i hr
    cases h'
    have := OpsD.skip (P := P) hw (opsD_run k hr g)
    cases hc : Nat.beq (cls o) 2 <;> rw [hc] at this <;> exact this
   ·cases h'
  ·rename_i hw
   split at h'
   ·rename_i v H1 hv
    split at h'
    ·rename_i hr
     cases h'
     have := OpsD.val (P := P) hw (.inl hv) (opsD_run k hr g)
     cases hc : Nat.beq (cls o) 2 <;> rw [hc] at this <;> exact this
    ·cases h'
   ·cases h'
noncomputable def headO (all l : List Oper) (env : Env) : Option Oper := match l with | o :: _ => (match wantedV o all env with | some true => some o | _ => none) | [] => none
noncomputable def evalD (C : Cx) (all l : List Oper) (env : Env) (H : Hp) : Option (AV × Hp) := match headO all l env with | some o => opV C env H o | none => none
noncomputable def advD (all l : List Oper) (env : Env) (v : AV) (H : Hp) : Option (List Oper × Env × List Hp) := match headO all l env with | some o => some (l.tail, putV env o.dst v, bif Nat.beq (cls o) 2 then [H] else []) | none => none
noncomputable def callD (all l : List Oper) (env : Env) : Option (Nat × List AV) :=
 match headO all l env with
 | some o => match o.op with
  | .call c => match c.callee with
   | .value g => match opnd env g with
    | .func f first caps => some (f, first ++ opnds env c.args.toList ++ caps)
    | _ => none
   | _ => none
  | _ => none
 | none => none
theorem headO_spec {all l : List Oper} {o : Oper} (h : headO all l env = some o) : ∃ r, l = o :: r ∧ wantedV o all env = some true := by
 unfold headO at h
 split at h
 ·rename_i o' r
  split at h
  ·rename_i hw; cases h; exact ⟨r, rfl, hw⟩
  ·cases h
 ·cases h
theorem opsD_one {P : Program} {C : Cx} {all l l' : List Oper} {e : Env} {hs hs2 : List Hp} {o : Oper} {v : AV} (ho : headO all l env = some o) (hs0 : Stp P C env H o v H') (ha : advD all l env v H' = some (l', eE, hs)) (g : OpsD P C all l' eE H' e hs2) : OpsD P C all l env H e (hs ++ hs2) := by
 unfold advD at ha
 rw [ho] at ha
 cases ha
 obtain ⟨r, rfl, hw⟩ := headO_spec ho
 have := OpsD.val hw hs0 g
 cases hc : Nat.beq (cls o) 2 <;> rw [hc] at this <;> exact this
theorem opsD_chk {P : Program} {C : Cx} {all l l' : List Oper} {e : Env} {hs hs2 : List Hp} {α : Type} {m : Option α} {x : α} (g : α → AV × Hp) (h : evalD C all l env H = m.map g) (hx : m = some x) (ha : advD all l env (g x).1 (g x).2 = some (l', eE, hs)) (k : OpsD P C all l' eE (g x).2 e hs2) : OpsD P C all l env H e (hs ++ hs2) := by
 subst hx
 unfold evalD at h
 cases ho : headO all l env with
 | none => rw [ho] at h; cases h
 | some o =>
  rw [ho] at h
  exact opsD_one (v := (g x).1) ho (.inl h) ha k
theorem opsD_call {P : Program} {C : Cx} {all l l' : List Oper} {e : Env} {hs hs2 : List Hp} {fi : Nat} {args : List AV} {v : AV} (hc : callD all l env = some (fi, args)) (hp : purs args = true) (hv : pur v = true) (hf : PureOk P fi args v) (ha : advD all l env v H = some (l', eE, hs)) (k : OpsD P C all l' eE H e hs2) : OpsD P C all l env H e (hs ++ hs2) := by
 have hpo := pure_call hf hp hv H
 unfold callD at hc
 cases ho : headO all l env with
 | none => rw [ho] at hc; cases hc
 | some o =>
  rw [ho] at hc
  simp only at hc
  split at hc
  ·rename_i c hoc
   split at hc
   ·rename_i q hq
    split at hc
    ·rename_i fi' first caps hfv
     cases hc
     exact opsD_one (v := v) ho (.inr ⟨c, q, fi, first, caps, hoc, hq, hfv, hpo⟩) ha k
    ·cases hc
   ·cases hc
  ·cases hc
noncomputable def mkT (n : Nat) (l : List Blk) : Tr :=
 List.rec (motive := fun _ => Nat → Tr) (fun _ => .nil) (fun b _ ih n => PT.set depth (ih (n + 1)) n b) l n
theorem mkT_nil (n : Nat) : mkT n [] = .nil := rfl
theorem mkT_cons (n : Nat) (b : Blk) (l : List Blk) : mkT n (b :: l) = PT.set depth (mkT (n + 1) l) n b := rfl
noncomputable def mkH (l : List Blk) : Hp := ⟨l.length, mkT 0 l⟩
theorem mkT_get : ∀ (l : List Blk) (n i : Nat), n + l.length ≤ roots → (mkT n l).get i = if n ≤ i then l[i - n]? else none
 | [], n, i, _ => by
  rw [mkT_nil]
  simp only [List.getElem?_nil, ite_self]
  exact PT.get_nil i
 | b :: l, n, i, h => by
  simp only [List.length_cons] at h
  by_cases e : n = i
  ·subst e
   rw [mkT_cons, Tr.get_set_eq _ _ _ _ (by unfold roots at h; unfold depth; omega)]
   simp
  ·rw [mkT_cons, Tr.get_set_ne _ _ _ _ _ e, mkT_get l (n + 1) i (by omega)]
   by_cases h1 : n ≤ i
   ·rw [if_pos (by omega), if_pos h1, show i - n = (i - (n + 1)) + 1 by omega, List.getElem?_cons_succ]
   ·rw [if_neg (by omega), if_neg h1]
mutual
def below (n : Nat) : AV → Bool
 | .ptr r _ _ => Nat.blt r n
 | .slice r _ _ _ _ => Nat.blt r n
 | .own r _ _ => Nat.blt r n
 | .agg xs => belows n xs
 | .tuple xs => belows n xs
 | .func _ a b => belows n a && belows n b
 | .iface _ v => below n v
 | _ => true
def belows (n : Nat) : List AV → Bool
 | [] => true
 | x :: xs => below n x && belows n xs
end
def Mp.cut (m : Mp) (n : Nat) : Mp := ⟨fun r v => if r < n then m r v else none, m.froz⟩
mutual
theorem below_VR {m : Mp} {n : Nat} : ∀ (x : AV) (c : Value), below n x = true → VR m x c → VR (m.cut n) x c
 | .top, _, _, _ => by simp only [VR]
 | .int .., _, _, e => by simpa only [VR] using e
 | .resid .., _, _, e => by simpa only [VR] using e
 | .bool _, _, _, e => by simpa only [VR] using e
 | .str _, _, _, e => by simpa only [VR] using e
 | .nilp, _, _, e => by simpa only [VR] using e
 | .nils, _, _, e => by simpa only [VR] using e
 | .nilf, _, _, e => by simpa only [VR] using e
 | .nili, _, _, e => by simpa only [VR] using e
 | .vec .., _, _, e => by simp only [VR] at e ⊢; exact e
 | .vptr .., _, _, e => by simp only [VR] at e ⊢; exact e
 | .ptr r v off, _, h, e => by
  simp only [VR, below, Nat.blt_eq] at e h ⊢
  obtain ⟨B, N, h1, h2⟩ := e
  exact ⟨B, N, by show (if r < n then m r v else none) = _; rw [if_pos h]; exact h1, h2⟩
 | .slice r v off len sz, _, h, e => by
  simp only [VR, below, Nat.blt_eq] at e h ⊢
  obtain ⟨B, N, cap, h1, h2⟩ := e
  exact ⟨B, N, cap, by show (if r < n then m r v else none) = _; rw [if_pos h]; exact h1, h2⟩
 | .own r len sz, _, h, e => by
  simp only [VR, below, Nat.blt_eq] at e h ⊢
  rcases e with e | ⟨B, N, cap, h1, h2⟩
  ·exact .inl e
  ·exact .inr ⟨B, N, cap, by show (if r < n then m r (len * sz) else none) = _; rw [if_pos h]; exact h1, h2⟩
 | .agg xs, c, h, e => by
  simp only [VR] at e ⊢
  obtain ⟨ys, h1, h2⟩ := e
  exact ⟨ys, h1, belows_VR xs _ (by simpa only [below] using h) h2⟩
 | .tuple xs, c, h, e => by
  simp only [VR] at e ⊢
  obtain ⟨ys, h1, h2⟩ := e
  exact ⟨ys, h1, belows_VR xs _ (by simpa only [below] using h) h2⟩
 | .func f a b, c, h, e => by
  simp only [VR] at e ⊢
  simp only [below, Bool.and_eq_true] at h
  obtain ⟨ys, zs, h1, h2, h3⟩ := e
  exact ⟨ys, zs, h1, belows_VR a _ h.1 h2, belows_VR b _ h.2 h3⟩
 | .iface t v, c, h, e => by
  simp only [VR] at e ⊢
  obtain ⟨d, h1, h2⟩ := e
  exact ⟨d, h1, below_VR v _ (by simpa only [below] using h) h2⟩
theorem belows_VR {m : Mp} {n : Nat} : ∀ (xs : List AV) (cs : List Value), belows n xs = true → VRs m xs cs → VRs (m.cut n) xs cs
 | [], _, _, e => by simpa only [VRs] using e
 | x :: xs, cs, h, e => by
  simp only [VRs] at e ⊢
  simp only [belows, Bool.and_eq_true] at h
  obtain ⟨y, ys, rfl, h1, h2⟩ := e
  exact ⟨y, ys, rfl, below_VR x y h.1 h1, belows_VR xs ys h.2 h2⟩
end
def belowE (n : Nat) : Env → Bool
 | [] => true
 | p :: l => below n p.2 && belowE n l
theorem belowE_look {n : Nat} : ∀ {e : Env} (t : Nat), belowE n e = true → below n (look e t) = true
 | [], t, _ => rfl
 | p :: l, t, h => by
  simp only [belowE, Bool.and_eq_true] at h
  rw [look_cons]
  split
  ·exact h.1
  ·exact belowE_look t h.2
def BB (n : Nat) : List Blk → Prop
 | [] => True
 | b :: l => belows n b.cells = true ∧ BB n l
theorem BB_get {n : Nat} : ∀ {l : List Blk} {i : Nat} {b : Blk}, BB n l → l[i]? = some b → belows n b.cells = true
 | [], i, b, _, h => by simp at h
 | b0 :: l, i, b, hb, h => by
  cases i with
  | zero => simp at h; subst h; exact hb.1
  | succ i => exact BB_get hb.2 (by simpa using h)
theorem belows_take {n : Nat} : ∀ {xs : List AV} (k : Nat), belows n xs = true → belows n (xs.take k) = true
 | [], k, _ => by simp [belows]
 | x :: xs, 0, _ => by simp [belows]
 | x :: xs, k + 1, h => by
  simp only [belows, List.take_succ_cons, Bool.and_eq_true] at h ⊢
  exact ⟨h.1, belows_take k h.2⟩
theorem ok_cut {t : Option R} (l l2 : List Blk) (hn0 : Nat.ble X.n0 l.length = true) (hn : Nat.ble (l.length + l2.length) roots = true) (he : belowE l.length env = true) (hb : BB l.length l) (k : Ok X p env (mkH l) t) : Ok X p env (mkH (l ++ l2)) t := by
 intro r hr m0 w0 b0 m w a h0 fr hnt hd rw st
 have hn : l.length + l2.length ≤ roots := Nat.le_of_ble_eq_true hn
 have hget : ∀ i, i < l.length → (mkH (l ++ l2)).t.get i = (mkH l).t.get i := by
  intro i hi
  show (mkT 0 (l ++ l2)).get i = (mkT 0 l).get i
  rw [mkT_get _ _ _ (by simp; omega), mkT_get _ _ _ (by omega)]
  simp [List.getElem?_append_left hi]
 have hcut : ∀ {r v q}, (m.cut l.length) r v = some q → r < l.length ∧ m r v = some q := by
  intro r v q h
  have h : (if r < l.length then m r v else none) = some q := h
  by_cases e : r < l.length
  ·rw [if_pos e] at h; exact ⟨e, h⟩
  ·rw [if_neg e] at h; cases h
 have hnone : ∀ i, l.length ≤ i → (mkH l).t.get i = none := by
  intro i hi
  show (mkT 0 l).get i = none
  rw [mkT_get _ _ _ (by omega)]
  simp [hi]
 refine k r hr m0 w0 b0 (m.cut l.length) w a h0 ?_ hnt hd ⟨?_, ?_, ?_, hnone, ?_, rw.frz, ?_, rw.ffin, rw.base_le, ?_⟩ ⟨⟨fun r v q hq => (by
  have h1 := h0.1 r v q hq
  have h2 := Nat.le_of_ble_eq_true hn0
  show (if r < l.length then m r v else none) = some q
  rw [if_pos (by omega)]
  exact st.sub.1 r v q hq), st.sub.2⟩, ?_, st.fext, st.size, st.os, st.tape, st.output, st.same⟩
 ·intro t ht
  obtain ⟨c, h1, h2⟩ := fr t ht
  exact ⟨c, h1, below_VR _ _ (belowE_look t he) h2⟩
 ·intro r b v B N hb' hm h1 h2
  obtain ⟨hlt, hm⟩ := hcut hm
  obtain ⟨cs, ty, fr', q1, q2, q3, q4, q5⟩ := rw.blk r b v B N (by rw [hget r hlt]; exact hb') hm h1 h2
  have hbl : l[r]? = some b := by
   have hb' : (mkT 0 l).get r = some b := hb'
   rw [mkT_get _ _ _ (by omega)] at hb'
   simpa using hb'
  exact ⟨cs, ty, fr', q1, q2, q3, q4, belows_VR _ _ (belows_take v (BB_get hb hbl)) q5⟩
 ·intro r v B N hm
  obtain ⟨hlt, hm⟩ := hcut hm
  rw [← hget r hlt]
  exact rw.dom r v B N hm
 ·intro r v B N r' v' N' hm hm' hB
  exact rw.sep _ _ _ _ _ _ _ (hcut hm).2 (hcut hm').2 hB
 ·intro r v B N hm
  exact rw.vle _ _ _ _ (hcut hm).2
 ·intro i B cells r v N b hi hm hb'
  obtain ⟨hlt, hm⟩ := hcut hm
  exact rw.fsep i B cells r v N b hi hm (by rw [hget r hlt]; exact hb')
 ·show l.length ≤ roots
  omega
 ·intro r v B N hm
  exact st.ext r v B N (hcut hm).2
theorem resV_ok {P : Program} {C : Cx} (hti : ∀ t i, C.ti t = some i → mkTi P t = some i) {m : Mp} {H : Hp} {w : World} {base : Nat} {env : Env} {a : Act} (fr : FR m env a.tmps) (rw : RW m H w base) (g : ResultVar → Sem Value) (hg1 : ∀ t, g (.tmp t) = pure (a.tmps.getD t undef)) (hg2 : ∀ p t, g (.cell p t) = do loadVar t (← asAddr (a.tmps.getD p undef))) : ∀ (l : List ResultVar) (xs : List AV), resV C env H l = some xs →
 ∃ vs : List Value, (l.mapM g).run P w = .ok vs w ∧ VRs m xs vs
 | [], xs, h => by simp only [resV] at h; cases h; exact ⟨[], by simp, by simp [VRs]⟩
 | .tmp t :: l, xs, h => by
  simp only [resV] at h
  cases hl : resV C env H l with
  | none => rw [hl] at h; cases h
  | some ys =>
   rw [hl] at h
   cases h
   obtain ⟨vs, h1, h2⟩ := resV_ok hti fr rw g hg1 hg2 l ys hl
   refine ⟨a.tmps.getD t undef :: vs, ?_, by simp only [VRs]; exact ⟨_, _, rfl, fr.getD t, h2⟩⟩
   simp only [List.mapM_cons, hg1, Sem.run_bind, Sem.run_pure, Result.andThen_ok, h1]
 | .cell p t :: l, xs, h => by
  simp only [resV] at h
  split at h
  ·rename_i i r v off ys ht hp hl
   split at h
   ·rename_i cs hcs
    split at h
    ·rename_i x hx
     cases h
     obtain ⟨vs, h1, h2⟩ := resV_ok hti fr rw g hg1 hg2 l ys hl
     have hv := fr.getD p
     rw [hp] at hv
     have hld : ∃ c, (loadVar t (match a.tmps.getD p undef with | .pointer (some b) => b | _ => default)).run P w = .ok c w ∧ VR m x c ∧ ∃ b, a.tmps.getD p undef = .pointer (some b) := by
      have hv' := hv
      simp only [VR] at hv'
      obtain ⟨B, N, hm, e⟩ := hv'
      obtain ⟨c, hc1, hc2⟩ := op_load_run (P := P) hti ht hv hcs hx rw
      rw [e] at hc1
      rw [e]
      exact ⟨c, hc1, hc2, _, rfl⟩
     obtain ⟨c, hc1, hc2, b, hb⟩ := hld
     rw [hb] at hc1
     refine ⟨c :: vs, ?_, by simp only [VRs]; exact ⟨_, _, rfl, hc2, h2⟩⟩
     simp only [List.mapM_cons, hg2, Sem.run_bind, hb, asAddr, Sem.run_pure, Result.andThen_ok, hc1, h1]
    ·cases h
   ·cases h
  ·cases h
theorem results_ok {P : Program} {C : Cx} (hti : ∀ t i, C.ti t = some i → mkTi P t = some i) {m : Mp} {H : Hp} {w : World} {base : Nat} {env : Env} {a : Act} {fn : Func} {xs : List AV} (fr : FR m env a.tmps) (rw : RW m H w base) (h : resV C env H fn.results.toList = some xs) :
 ∃ v, (results fn a.tmps).run P w = .ok v w ∧ VR m (oneRes xs) v := by
 have key : ∀ g : ResultVar → Sem Value, (∀ t, g (.tmp t) = pure (a.tmps.getD t undef)) → (∀ p t, g (.cell p t) = do loadVar t (← asAddr (a.tmps.getD p undef))) → ∃ vs : List Value, (fn.results.mapM g).run P w = .ok vs.toArray w ∧ VRs m xs vs := by
  intro g hg1 hg2
  obtain ⟨vs, h1, h2⟩ := resV_ok (P := P) hti fr rw g hg1 hg2 _ _ h
  exact ⟨vs, by rw [Array.mapM_eq_mapM_toList, Sem.run_map, h1]; rfl, h2⟩
 unfold results
 obtain ⟨vs, hm, h2⟩ := key (fun | .tmp t => pure (a.tmps.getD t undef) | .cell p t => do loadVar t (← asAddr (a.tmps.getD p undef))) (fun _ => rfl) (fun _ _ => rfl)
 have hlen := VRs.len h2
 refine ⟨if h : vs.toArray.size = 1 then vs.toArray[0] else .tuple vs.toArray, ?_, ?_⟩
 ·rw [Sem.run_bind]
  erw [hm]
  rfl
 ·unfold oneRes
  split
  ·simp only [VRs] at h2
   obtain ⟨y, ys, rfl, h3, rfl⟩ := h2
   simpa using h3
  ·rename_i hne
   have : ¬ vs.toArray.size = 1 := by
    intro e
    have e1 : xs.length = 1 := by simpa [hlen] using e
    obtain ⟨x, hx⟩ := List.length_eq_one_iff.1 e1
    exact hne x hx
   rw [dif_neg this]
   simp only [VR]
   exact ⟨_, rfl, by simpa using h2⟩
theorem oT {r : R} {xs : List AV} {v : AV} (hn0 : X.n0 = 0) (hfin : X.fin r = H0) (hr : resV X.C env H X.fn.results.toList = some xs) (hz : FzG H [oneRes xs] [v]) (hv : X.enc r = v) : Ok X .fin env H (some r) := by
 intro r' e m0 w0 b0 m w a h0 fr hnt hd rw st
 cases e
 have hnone : ∀ r v, m0 r v = none := by
  intro r v
  cases e : m0 r v with
  | none => rfl
  | some p => have := h0.1 r v p e; omega
 obtain ⟨c, h1, h2⟩ := results_ok (P := X.P) X.hti fr rw hr
 have hF : FOk m.froz m.froz w b0 := by
  refine ⟨fun i B cells hi => rw.frz i B cells hi, rw.ffin, fun i B cells h => .inl h, fun _ _ h => h⟩
 obtain ⟨F', g1, g2, g3⟩ := fz_ok rw hz hF (cs := [c]) (by simp only [VRs]; exact ⟨c, [], rfl, h2, rfl⟩)
 simp only [VRs] at g3
 obtain ⟨c', cs', e, g3, _⟩ := g3
 cases e
 have fin : ∃ m' c', Ending.returned c = .returned c' ∧ RW m' (X.fin r) w b0 ∧ St m0 w0 b0 m' w ∧ VR m' (X.enc r) c' := by
  rw [hfin]
  refine ⟨⟨fun _ _ => none, F'⟩, c, rfl, ⟨?_, ?_, ?_, fun _ _ => rfl, ?_, g1.ok, ?_, g1.fin, rw.base_le, by show 0 ≤ roots; unfold roots; omega⟩, ⟨⟨fun r v q hq => (by rw [hnone] at hq; cases hq), fun i p hp => g2 i p (st.sub.2 i p hp)⟩, ?_, ?_, st.size, st.os, st.tape, st.output, st.same⟩, by rw [hv]; exact g3⟩
  ·intro r b v B N hb hm; cases hm
  ·intro r v B N hm; cases hm
  ·intro r v B N r' v' N' hm; cases hm
  ·intro r v B N hm; cases hm
  ·intro i B cells r v N b _ hm; cases hm
  ·intro r v B N hm; cases hm
  ·intro i B cells hi
   rcases g1.new i B cells hi with h | h
   ·exact st.fext i B cells h
   ·exact .inr h
 exact ⟨⟨hd, c, h1, fin⟩, ⟨hd, c, h1, fin⟩⟩
theorem look_args0 : ∀ (xs : List AV) (i t : Nat), look (args0 i xs) t = if i ≤ t then (xs[t - i]?).getD .top else .top
 | [], i, t => by simp [args0, look_nil]
 | x :: xs, i, t => by
  rw [args0, look_put, look_args0 xs (i + 1) t]
  by_cases e : i = t
  ·subst e; simp
  ·rw [if_neg e]
   by_cases h : i ≤ t
   ·rw [if_pos (by omega), if_pos h, show t - i = (t - (i + 1)) + 1 by omega]; simp
   ·rw [if_neg (by omega), if_neg h]
theorem FR_args {m : Mp} {xs : List AV} {args rest : Array Value} (h : VRs m xs args.toList) : FR m (args0 0 xs) (args ++ rest) := by
 intro t ht
 rw [look_args0] at ht ⊢
 simp only [Nat.zero_le, if_true, Nat.sub_zero] at ht ⊢
 cases hx : xs[t]? with
 | none => rw [hx] at ht; exact absurd rfl ht
 | some x =>
  obtain ⟨c, hc, hv⟩ := VRs.get h t x hx
  rw [Array.getElem?_toList] at hc
  obtain ⟨hlt, _⟩ := Array.getElem?_eq_some_iff.1 hc
  exact ⟨c, by rw [Array.getElem?_append_left hlt]; exact hc, by simpa using hv⟩
def bodyAt (fn : Func) : Pt := match fn.body with | some c => .code c [] | none => .fin
theorem pure_of (X : Fx R) {f : Nat} (hfin : ∀ r, X.fin r = H0) (hf : X.P.funcs[f]? = some X.fn) (hn : (X.fn.name == "runtime.NumGoroutine") = false) (hb : X.fn.body.isSome = true) {xs : List AV} {t : Option R} (h : Ok X (bodyAt X.fn) (args0 0 xs) (mkH []) t) {r : R} (ht : t = some r) : PureOk X.P f xs (X.enc r) := by
 refine ⟨?_, X.fn, hf, hn, hb⟩
 intro m0 w args h0 hargs rw
 cases hc : X.fn.body with
 | none => rw [hc] at hb; cases hb
 | some c =>
  have e : bodyAt X.fn = .code c [] := by simp [bodyAt, hc]
  rw [e] at h
  have := h r ht m0 w w.heap.size m0 w { tmps := args ++ Array.replicate (X.fn.ntmps - args.size) undef, defers := [] } ⟨fun r v p e => (by rw [h0] at e; cases e), Nat.le_refl _⟩ (FR_args hargs) (by simp; omega) rfl rw (St.refl _ _ _)
  have e2 : Ret X r m0 w w.heap.size = bodyPost X.P X.fn fun x w' => ∃ m' c, x = .returned c ∧ RW m' H0 w' w.heap.size ∧ St m0 w w.heap.size m' w' ∧ VR m' (X.enc r) c := by unfold Ret; rw [hfin]
  rw [e2] at this
  exact calls_of_wp hf hc this
end
end Go.Proofs.Ytnikdnchoahngaa.Am
set_option linter.unusedVariables false
set_option linter.unusedSimpArgs false
namespace Go.Proofs.Ytnikdnchoahngaa.Am
open Go
def bnd (x : Option Int) (y d : Nat) : Option Nat := match x with | none => some d | some i => if 0 ≤ i ∧ i ≤ y then some i.toNat else none
def subL {α : Type} (l : List α) (lo hi : Option Int) : Option (List α) :=
 match bnd hi l.length l.length with
 | some h => (match bnd lo h 0 with | some b => some ((l.take h).drop b) | none => none)
 | none => none
theorem boundO_bnd (x : Option Int) (k : IntKind) (y d : Nat) : boundO (x.map (AV.int k)) y d = bnd x y d := by cases x <;> rfl
theorem subH {e : Option (AV × Hp)} {s : List Nat} (lo hi : Option Int) {H : Hp} (h : e = (match boundO (hi.map (AV.int .i64)) s.length s.length with | some h => (match boundO (lo.map (AV.int .i64)) h 0 with | some l => some (AV.str ((s.take h).drop l)) | none => none) | none => none).map fun v => (v, H)) : e = (subL s lo hi).map fun x => (AV.str x, H) := by
 rw [h, boundO_bnd]; unfold subL
 cases bnd hi s.length s.length with
 | none => rfl
 | some h =>
  simp only
  rw [boundO_bnd]
  cases bnd lo h 0 <;> rfl
def nthL {α : Type} (l : List α) (k : Int) : Option α := if 0 ≤ k then l[k.toNat]? else none
theorem flatMap_at {α : Type} {enc : α → List AV} {sz : Nat} (h : ∀ x, (enc x).length = sz) : ∀ (l : List α) (k : Nat) (x : α), l[k]? = some x → ((l.flatMap enc).drop (k * sz)).take sz = enc x
 | [], k, x, e => by simp at e
 | y :: l, k, x, e => by
  rw [List.flatMap_cons]
  cases k with
  | zero =>
   simp at e
   subst e
   rw [Nat.zero_mul, List.drop_zero, List.take_append_of_le_length (by rw [h]; exact Nat.le_refl _), List.take_of_length_le (by rw [h]; exact Nat.le_refl _)]
  | succ k =>
   rw [List.drop_append, List.drop_of_length_le (by rw [h, Nat.add_mul]; omega), List.nil_append, h, show (k + 1) * sz - sz = k * sz by rw [Nat.add_mul]; omega]
   exact flatMap_at h l k x (by simpa using e)
theorem vidxH {α : Type} {enc : α → List AV} {sz : Nat} (hsz : ∀ x, (enc x).length = sz) {e : Option (AV × Hp)} {l : List α} {k : Int} {H : Hp} (h : e = (if sz = sz ∧ 0 ≤ k ∧ k < ((l.length : Nat) : Int) then some (AV.vptr (((l.flatMap enc).drop (k.toNat * sz)).take sz), H) else none)) : e = (nthL l k).map fun x => (AV.vptr (enc x), H) := by
 rw [h]; unfold nthL
 by_cases h0 : 0 ≤ k
 ·rw [if_pos h0]
  by_cases h1 : k < (l.length : Int)
  ·rw [if_pos ⟨rfl, h0, h1⟩]
   have hlt : k.toNat < l.length := by omega
   rw [List.getElem?_eq_getElem hlt, flatMap_at hsz l k.toNat _ (List.getElem?_eq_getElem hlt)]
   rfl
  ·rw [if_neg (fun hh => h1 hh.2.2), List.getElem?_eq_none (by omega)]
   rfl
 ·rw [if_neg (fun hh => h0 hh.2.1), if_neg h0]; rfl
theorem mkH_get {L : List Blk} {r : Nat} {b : Blk} (hl : Nat.ble L.length roots = true) (h : L[r]? = some b) : (mkH L).t.get r = some b := by
 show (mkT 0 L).get r = some b
 rw [mkT_get _ _ _ (by rw [Nat.zero_add]; exact Nat.le_of_ble_eq_true hl)]
 simpa using h
theorem PT.set_set {α : Type} : ∀ (k : Nat) (t : PT α) (n : Nat) (x y : α), PT.set k (PT.set k t n x) n y = PT.set k t n y
 | 0, _, _, _, _ => rfl
 | k + 1, t, n, x, y => by
  have ih := fun t n => PT.set_set k t n x y
  rw [PT.set_succ, PT.set_succ, PT.set_succ]
  by_cases h0 : n = 0
  ·simp only [h0, if_true]; rfl
  ·simp only [h0, if_false]
   by_cases h1 : n % 2 = 1
   ·simp only [h1, if_true]
    show PT.node (PT.set k (PT.set k t.left (n / 2) x) (n / 2) y) t.mid t.right = _
    rw [ih]
   ·simp only [h1, if_false]
    show PT.node t.left t.mid (PT.set k (PT.set k t.right (n / 2 - 1) x) (n / 2 - 1) y) = _
    rw [ih]
theorem PT.set_comm {α : Type} : ∀ (k : Nat) (t : PT α) (n m : Nat) (x y : α), n ≠ m → PT.set k (PT.set k t n x) m y = PT.set k (PT.set k t m y) n x
 | 0, _, _, _, _, _, _ => rfl
 | k + 1, t, n, m, x, y, h => by
  have ih := fun t n m h => PT.set_comm k t n m x y h
  rw [PT.set_succ, PT.set_succ, PT.set_succ, PT.set_succ]
  by_cases n0 : n = 0
  ·have m0 : m ≠ 0 := by omega
   simp only [n0, m0, if_true, if_false]
   by_cases m1 : m % 2 = 1 <;> simp only [m1, if_true, if_false] <;> rfl
  ·by_cases m0 : m = 0
   ·simp only [n0, m0, if_true, if_false]
    by_cases n1 : n % 2 = 1 <;> simp only [n1, if_true, if_false] <;> rfl
   ·simp only [n0, m0, if_false]
    by_cases n1 : n % 2 = 1
    ·by_cases m1 : m % 2 = 1
     ·simp only [n1, m1, if_true]
      show PT.node (PT.set k (PT.set k t.left (n / 2) x) (m / 2) y) t.mid t.right = PT.node (PT.set k (PT.set k t.left (m / 2) y) (n / 2) x) t.mid t.right
      rw [ih _ _ _ (by omega)]
     ·simp only [n1, m1, if_true, if_false]; rfl
    ·by_cases m1 : m % 2 = 1
     ·simp only [n1, m1, if_true, if_false]; rfl
     ·simp only [n1, m1, if_false]
      show PT.node t.left t.mid (PT.set k (PT.set k t.right (n / 2 - 1) x) (m / 2 - 1) y) = PT.node t.left t.mid (PT.set k (PT.set k t.right (m / 2 - 1) y) (n / 2 - 1) x)
      rw [ih _ _ _ (by omega)]
theorem mkT_set : ∀ (L : List Blk) (n r : Nat) (b : Blk), r < L.length → PT.set depth (mkT n L) (n + r) b = mkT n (L.set r b)
 | [], n, r, b, h => by simp at h
 | c :: L, n, 0, b, h => by
  rw [List.set_cons_zero, mkT_cons, mkT_cons]
  exact PT.set_set _ _ _ _ _
 | c :: L, n, r + 1, b, h => by
  rw [List.set_cons_succ, mkT_cons, mkT_cons, PT.set_comm _ _ _ _ _ _ (by omega), show n + (r + 1) = (n + 1) + r by omega, mkT_set L (n + 1) r b (by simpa using h)]
theorem mkH_set {L : List Blk} {r : Nat} {b : Blk} (h : r < L.length) : (⟨(mkH L).next, Tr.set depth (mkH L).t r b⟩ : Hp) = mkH (L.set r b) := by
 show (⟨L.length, PT.set depth (mkT 0 L) r b⟩ : Hp) = ⟨(L.set r b).length, mkT 0 (L.set r b)⟩
 have := mkT_set L 0 r b h
 rw [Nat.zero_add] at this
 rw [this, List.length_set]
def ctl1 : Pt → Pt
 | .ops _ _ K => resume K
 | .loop b K => .code b (.loop b :: K)
 | .fin => .fin
 | .code c K => match c with
  | .seq a b => .code a (.seq b :: K)
  | .skip => resume K
  | .label _ => resume K
  | .block id b => .code b (.block id :: K)
  | .scope b => .code b (.scope b :: K)
  | .loop b => .loop b K
  | .exit id => match exitK id K with | some q => q | none => .fin
  | .goto l => match gotoK l K with | some q => q | none => .fin
  | .ret => .fin
  | .region id ops draw => bif draw then resume K else .ops ops 0 K
  | _ => .fin
def nav : List Nat → Pt → Pt
 | [], p => p
 | 0 :: l, p => nav l (ctl1 p)
 | 1 :: l, .code (.cond _ x _) K => nav l (.code x K)
 | _ :: l, .code (.cond _ _ y) K => nav l (.code y K)
 | _ :: _, p => p
def atN (n : Nat) : Pt → Pt
 | .ops ops _ K => .ops ops n K
 | p => p
mutual
def nref (n : Nat) : AV → Bool
 | .ptr r _ _ => !Nat.beq r n
 | .slice r _ _ _ _ => !Nat.beq r n
 | .own r _ _ => !Nat.beq r n
 | .agg xs => nrefs n xs
 | .tuple xs => nrefs n xs
 | .func _ a b => nrefs n a && nrefs n b
 | .iface _ v => nref n v
 | _ => true
def nrefs (n : Nat) : List AV → Bool
 | [] => true
 | x :: xs => nref n x && nrefs n xs
end
def Mp.out (m : Mp) (n : Nat) (F : Nat → Option (Nat × List AV)) : Mp := ⟨fun r v => if r = n then none else m r v, F⟩
theorem out_at {m : Mp} {n : Nat} {F : Nat → Option (Nat × List AV)} {r v : Nat} (h : (!Nat.beq r n) = true) : (m.out n F) r v = m r v := by
 show (if r = n then none else m r v) = m r v
 rw [if_neg]
 rintro rfl
 simp at h
mutual
theorem nref_VR {m : Mp} {n : Nat} {F : Nat → Option (Nat × List AV)} (hF : ∀ i p, m.froz i = some p → F i = some p) : ∀ (x : AV) (c : Value), nref n x = true → VR m x c → VR (m.out n F) x c
 | .top, _, _, _ => by simp only [VR]
 | .int .., _, _, e => by simpa only [VR] using e
 | .resid .., _, _, e => by simpa only [VR] using e
 | .bool _, _, _, e => by simpa only [VR] using e
 | .str _, _, _, e => by simpa only [VR] using e
 | .nilp, _, _, e => by simpa only [VR] using e
 | .nils, _, _, e => by simpa only [VR] using e
 | .nilf, _, _, e => by simpa only [VR] using e
 | .nili, _, _, e => by simpa only [VR] using e
 | .vec .., _, _, e => by
  simp only [VR] at e ⊢
  obtain ⟨h0, a, cap, h1, h2, h3, h4⟩ := e
  exact ⟨h0, a, cap, h1, h2, h3, fun hn => let ⟨i, B, off, all, q, r⟩ := h4 hn; ⟨i, B, off, all, hF _ _ q, r⟩⟩
 | .vptr .., _, _, e => by
  simp only [VR] at e ⊢
  obtain ⟨i, B, off, all, q, r⟩ := e
  exact ⟨i, B, off, all, hF _ _ q, r⟩
 | .ptr r v off, _, h, e => by
  simp only [VR] at e ⊢
  obtain ⟨B, N, h1, h2⟩ := e
  exact ⟨B, N, by rw [out_at (by simpa only [nref] using h)]; exact h1, h2⟩
 | .slice r v off len sz, _, h, e => by
  simp only [VR] at e ⊢
  obtain ⟨B, N, cap, h1, h2⟩ := e
  exact ⟨B, N, cap, by rw [out_at (by simpa only [nref] using h)]; exact h1, h2⟩
 | .own r len sz, _, h, e => by
  simp only [VR] at e ⊢
  rcases e with e | ⟨B, N, cap, h1, h2⟩
  ·exact .inl e
  ·exact .inr ⟨B, N, cap, by rw [out_at (by simpa only [nref] using h)]; exact h1, h2⟩
 | .agg xs, c, h, e => by
  simp only [VR] at e ⊢
  obtain ⟨ys, h1, h2⟩ := e
  exact ⟨ys, h1, nrefs_VR hF xs _ (by simpa only [nref] using h) h2⟩
 | .tuple xs, c, h, e => by
  simp only [VR] at e ⊢
  obtain ⟨ys, h1, h2⟩ := e
  exact ⟨ys, h1, nrefs_VR hF xs _ (by simpa only [nref] using h) h2⟩
 | .func f a b, c, h, e => by
  simp only [VR] at e ⊢
  simp only [nref, Bool.and_eq_true] at h
  obtain ⟨ys, zs, h1, h2, h3⟩ := e
  exact ⟨ys, zs, h1, nrefs_VR hF a _ h.1 h2, nrefs_VR hF b _ h.2 h3⟩
 | .iface t v, c, h, e => by
  simp only [VR] at e ⊢
  obtain ⟨d, h1, h2⟩ := e
  exact ⟨d, h1, nref_VR hF v _ (by simpa only [nref] using h) h2⟩
theorem nrefs_VR {m : Mp} {n : Nat} {F : Nat → Option (Nat × List AV)} (hF : ∀ i p, m.froz i = some p → F i = some p) : ∀ (xs : List AV) (cs : List Value), nrefs n xs = true → VRs m xs cs → VRs (m.out n F) xs cs
 | [], _, _, e => by simpa only [VRs] using e
 | x :: xs, cs, h, e => by
  simp only [VRs] at e ⊢
  simp only [nrefs, Bool.and_eq_true] at h
  obtain ⟨y, ys, rfl, h1, h2⟩ := e
  exact ⟨y, ys, rfl, nref_VR hF x y h.1 h1, nrefs_VR hF xs ys h.2 h2⟩
end
theorem nrefs_take {n : Nat} : ∀ {xs : List AV} (k : Nat), nrefs n xs = true → nrefs n (xs.take k) = true
 | [], k, _ => by simp [nrefs]
 | x :: xs, 0, _ => by simp [nrefs]
 | x :: xs, k + 1, h => by
  simp only [nrefs, List.take_succ_cons, Bool.and_eq_true] at h ⊢
  exact ⟨h.1, nrefs_take k h.2⟩
def nrefE (n : Nat) : Env → Bool
 | [] => true
 | p :: l => nref n p.2 && nrefE n l
theorem nrefE_look {n : Nat} : ∀ {e : Env} (t : Nat), nrefE n e = true → nref n (look e t) = true
 | [], t, _ => rfl
 | p :: l, t, h => by
  simp only [nrefE, Bool.and_eq_true] at h
  rw [look_cons]
  split
  ·exact h.1
  ·exact nrefE_look t h.2
def NB (n : Nat) : Nat → List Blk → Prop
 | _, [] => True
 | i, b :: l => (i = n ∨ nrefs n b.cells = true) ∧ NB n (i + 1) l
theorem NB_get {n : Nat} : ∀ {l : List Blk} {i j : Nat} {b : Blk}, NB n i l → l[j]? = some b → i + j ≠ n → nrefs n b.cells = true
 | [], i, j, b, _, h, _ => by simp at h
 | b0 :: l, i, j, b, hb, h, hne => by
  cases j with
  | zero => simp at h; subst h; exact hb.1.resolve_left (by omega)
  | succ j => exact NB_get hb.2 (by simpa using h) (by omega)
theorem ok_frz {R : Type} {X : Fx R} {p : Pt} {env env0 : Env} {t : Option R} (L : List Blk) (d r0 n sz minv : Nat) (cells : List AV) (ks : List Nat) (hn0 : Nat.ble X.n0 r0 = true) (hl : Nat.ble L.length roots = true) (hd0 : look env d = .slice r0 (n * sz) 0 n sz ∨ look env d = .own r0 n sz) (hr : L[r0]? = some ⟨cells, minv, false⟩) (hc : cells.length = n * sz) (hmin : minv ≤ n * sz) (hp : purs cells = true) (hk : keepOnly env ks = env0) (hne : nrefE r0 env0 = true) (hnb : NB r0 0 L) (k : Ok X p ((d, .vec n sz cells) :: env0) (mkH (L.set r0 ⟨[], 0, false⟩)) t) : Ok X p env (mkH L) t := by
 intro r hr' m0 w0 b0 m w a h0 fr0 hnt hd rw st
 have fr : FR m env0 a.tmps := fr0.less (hk ▸ less_keepOnly ks env)
 have hroot : (mkH L).t.get r0 = some ⟨cells, minv, false⟩ := mkH_get hl hr
 have hlt : r0 < L.length := (List.getElem?_eq_some_iff.1 hr).1
 obtain ⟨c, hc1, hc2⟩ := fr0 d (by rcases hd0 with h | h <;> (rw [h]; intro e; cases e))
 have hcase : c = .slice none 0 0 ∧ n = 0 ∨ ∃ B N cap, m r0 (n * sz) = some (B, N) ∧ n ≤ cap ∧ c = .slice (some ⟨B, 0, none⟩) n cap := by
  rcases hd0 with h | h <;> rw [h] at hc2 <;> simp only [VR] at hc2
  ·obtain ⟨B, N, cap, h1, h2, h3, h4, h5⟩ := hc2
   exact .inr ⟨B, N, cap, h1, h3, h5⟩
  ·rcases hc2 with ⟨h1, h2⟩ | ⟨B, N, cap, h1, h2, h3, h4⟩
   ·exact .inl ⟨h2, h1⟩
   ·exact .inr ⟨B, N, cap, h1, h2, h4⟩
 have hF0 : FOk m.froz m.froz w b0 := ⟨fun i B cells hi => rw.frz i B cells hi, rw.ffin, fun i B cells h => .inl h, fun _ _ h => h⟩
 have key : ∃ F, FOk F m.froz w b0 ∧ (∀ i B cs, F i = some (B, cs) → m.froz i = some (B, cs) ∨ ∃ v N, m r0 v = some (B, N)) ∧ VR ⟨fun _ _ => none, F⟩ (.vec n sz cells) c := by
  rcases hcase with ⟨rfl, rfl⟩ | ⟨B, N, cap, hm, hcap, rfl⟩
  ·have : cells = [] := List.length_eq_zero_iff.1 (by omega)
   subst this
   exact ⟨m.froz, hF0, fun i B cs h => .inl h, vec_nil _ _⟩
  ·obtain ⟨cs, ty, fr', q1, q2, q3, q4, q5⟩ := rw.blk _ _ _ _ _ hroot hm hmin (by show n * sz ≤ cells.length; omega)
   obtain ⟨b0, hb0, _, _, hbase⟩ := rw.dom _ _ _ _ hm
   rw [hroot] at hb0
   cases hb0
   simp only at q5
   rw [List.take_of_length_le (by omega)] at q5
   obtain ⟨nf, hnf⟩ := rw.ffin
   have q6 := purs_VR _ _ hp q5
   obtain ⟨F, i, g1, g2, g3⟩ := fOk_add hF0 (hbase rfl) q1 (cells := cells) (by omega) (by rw [hc]; exact q6)
   refine ⟨fun j => if j = nf then some (B, cells) else m.froz j, ?_, ?_, ?_⟩
   ·refine ⟨?_, ⟨nf + 1, fun j hj => by show (if j = nf then some (B, cells) else m.froz j) = none; rw [if_neg (by omega)]; exact hnf j (by omega)⟩, ?_, ?_⟩
    ·intro j B' cells' hj
     have hS : Sub m.still ⟨fun _ _ => none, fun j => if j = nf then some (B, cells) else m.froz j⟩ := ⟨fun _ _ _ e => (by cases e), fun j q hq => by
      show (if j = nf then some (B, cells) else m.froz j) = some q
      rw [if_neg]
      ·exact hq
      ·rintro rfl
       have hq : m.froz j = some q := hq
       rw [hnf _ (Nat.le_refl _)] at hq; cases hq⟩
     by_cases e : j = nf
     ·simp only [e, if_true] at hj
      cases hj
      exact ⟨cs, ty, fr', q1, by omega, by rw [hc]; exact VRs.mono hS _ _ q6⟩
     ·simp only [e, if_false] at hj
      obtain ⟨cs2, ty2, fr2, e1, e2, e3⟩ := rw.frz j B' cells' hj
      exact ⟨cs2, ty2, fr2, e1, e2, VRs.mono hS _ _ e3⟩
    ·intro j B' cells' hj
     by_cases e : j = nf
     ·simp only [e, if_true] at hj
      cases hj
      exact .inr (hbase rfl)
     ·simp only [e, if_false] at hj
      exact .inl hj
    ·intro j q hq
     show (if j = nf then some (B, cells) else m.froz j) = some q
     rw [if_neg]
     ·exact hq
     ·rintro rfl; rw [hnf _ (Nat.le_refl _)] at hq; cases hq
   ·intro j B' cells' hj
    by_cases e : j = nf
    ·simp only [e, if_true] at hj
     cases hj
     exact .inr ⟨_, _, hm⟩
    ·simp only [e, if_false] at hj
     exact .inl hj
   ·simp only [VR]
    refine ⟨hc, _, cap, rfl, hcap, fun e => (by cases e), fun _ => ⟨nf, B, 0, cells, by simp, rfl, ?_, by omega⟩⟩
    rw [List.drop_zero, List.take_of_length_le (by omega)]
 obtain ⟨F, hFok, hFnew, hvec⟩ := key
 have hget : ∀ i, i ≠ r0 → (mkH (L.set r0 ⟨[], 0, false⟩)).t.get i = (mkH L).t.get i := by
  intro i hi
  show (mkT 0 (L.set r0 ⟨[], 0, false⟩)).get i = (mkT 0 L).get i
  have hl' : L.length ≤ roots := Nat.le_of_ble_eq_true hl
  rw [mkT_get _ _ _ (by rw [List.length_set]; omega), mkT_get _ _ _ (by omega)]
  simp only [Nat.zero_le, if_true, Nat.sub_zero]
  rw [List.getElem?_set, if_neg (fun e => hi e.symm)]
 have hout : ∀ {r v q}, (m.out r0 F) r v = some q → r ≠ r0 ∧ m r v = some q := by
  intro r v q h
  have h : (if r = r0 then none else m r v) = some q := h
  by_cases e : r = r0
  ·rw [if_pos e] at h; cases h
  ·rw [if_neg e] at h; exact ⟨e, h⟩
 refine k r hr' m0 w0 b0 (m.out r0 F) w a h0 ?_ hnt hd ⟨?_, ?_, ?_, ?_, ?_, hFok.ok, ?_, hFok.fin, rw.base_le, ?_⟩ ⟨⟨fun r v q hq => (by
  have h1 := h0.1 r v q hq
  have h2 := Nat.le_of_ble_eq_true hn0
  show (if r = r0 then none else m r v) = some q
  rw [if_neg (by omega)]
  exact st.sub.1 r v q hq), fun i q hq => hFok.sub i q (st.sub.2 i q hq)⟩, ?_, ?_, st.size, st.os, st.tape, st.output, st.same⟩
 ·intro u hu
  by_cases e : d = u
  ·subst e
   refine ⟨c, hc1, ?_⟩
   rw [look_cons, if_pos rfl]
   exact VR.mono (m := ⟨fun _ _ => none, F⟩) (m' := m.out r0 F) ⟨fun _ _ _ h => (by cases h), fun _ _ h => h⟩ _ _ hvec
  ·have he : look ((d, AV.vec n sz cells) :: env0) u = look env0 u := by rw [look_cons, if_neg e]
   rw [he] at hu ⊢
   obtain ⟨c, h1, h2⟩ := fr u hu
   exact ⟨c, h1, nref_VR hFok.sub _ _ (nrefE_look u hne) h2⟩
 ·intro r b v B N hb hm h1 h2
  obtain ⟨hne', hm⟩ := hout hm
  rw [hget r hne'] at hb
  obtain ⟨cs, ty, fr', q1, q2, q3, q4, q5⟩ := rw.blk r b v B N hb hm h1 h2
  have hbl : L[r]? = some b := by
   have hb' : (mkT 0 L).get r = some b := hb
   rw [mkT_get _ _ _ (by rw [Nat.zero_add]; exact Nat.le_of_ble_eq_true hl)] at hb'
   simpa using hb'
  exact ⟨cs, ty, fr', q1, q2, q3, q4, nrefs_VR hFok.sub _ _ (nrefs_take v (NB_get hnb hbl (by omega))) q5⟩
 ·intro r v B N hm
  obtain ⟨hne', hm⟩ := hout hm
  rw [hget r hne']
  exact rw.dom r v B N hm
 ·intro r v B N r' v' N' hm hm' hB
  exact rw.sep _ _ _ _ _ _ _ (hout hm).2 (hout hm').2 hB
 ·intro r hr
  have hr : L.length ≤ r := by
   have : (mkH (L.set r0 ⟨[], 0, false⟩)).next = L.length := by simp [mkH]
   rw [this] at hr; exact hr
  rw [hget r (by omega)]
  exact rw.fresh r hr
 ·intro r v B N hm
  exact rw.vle _ _ _ _ (hout hm).2
 ·intro i B cs r v N b hi hm hb
  obtain ⟨hne', hm⟩ := hout hm
  rw [hget r hne'] at hb
  rcases hFnew i B cs hi with h | ⟨v', N', h⟩
  ·exact rw.fsep i B cs r v N b h hm hb
  ·obtain ⟨b0, hb0, _, _, hbase⟩ := rw.dom _ _ _ _ h
   rw [hroot] at hb0
   cases hb0
   exact absurd (rw.sep _ _ _ _ _ _ _ h hm (hbase rfl)).symm hne'
 ·show (L.set r0 ⟨[], 0, false⟩).length ≤ roots
  rw [List.length_set]; exact Nat.le_of_ble_eq_true hl
 ·intro r v B N hm
  exact st.ext r v B N (hout hm).2
 ·intro i B cs hi
  rcases hFok.new i B cs hi with h | h
  ·exact st.fext i B cs h
  ·exact .inr h
theorem ok_if {R : Type} {X : Fx R} {p : Pt} {env : Env} {H : Hp} {b : Bool} {t1 t2 : Option R} (k1 : b = true → Ok X p env H t1) (k2 : b = false → Ok X p env H t2) : Ok X p env H (if b then t1 else t2) := by
 cases b with
 | true => exact k1 rfl
 | false => exact k2 rfl
theorem opsD_env {P : Program} {C : Cx} {all l : List Oper} {env eE e : Env} {H : Hp} {hs : List Hp} (h : env = eE) (k : OpsD P C all l eE H e hs) : OpsD P C all l env H e hs := h ▸ k
def cS (old : Int) (s : List Nat) (i : Nat) : Int := match s[i]? with | some b => (b : Int) | none => old
theorem cpyL (s : List Nat) : ∀ (old : List Int), putL (old.map (AV.int .u8)) 0 ((s.take old.length).map fun b : Nat => AV.int .u8 (b : Int)) = (List.range old.length).map fun i => AV.int .u8 (cS (old.getD i 0) s i) := by
 intro old
 have key : ∀ (vs : List AV) (xs : List AV) (o j : Nat), (putL xs o vs)[j]? = if o ≤ j ∧ j < o + vs.length ∧ j < xs.length then vs[j - o]? else xs[j]? := by
  intro vs
  induction vs with
  | nil => intro xs o j; simp only [putL, List.length_nil, Nat.add_zero]; rw [if_neg (by omega)]
  | cons v vs ih =>
   intro xs o j
   rw [putL, ih]
   simp only [List.length_set, List.length_cons]
   by_cases e : o = j
   ·subst e
    rw [if_neg (by omega)]
    by_cases hl : o < xs.length
    ·rw [if_pos ⟨by omega, by omega, hl⟩, List.getElem?_set]; simp [hl]
    ·rw [if_neg (by omega), List.getElem?_eq_none (by simp; omega), List.getElem?_eq_none (by omega)]
   ·rw [List.getElem?_set_ne (by omega)]
    by_cases h1 : o ≤ j ∧ j < o + (vs.length + 1) ∧ j < xs.length
    ·rw [if_pos (by omega), if_pos h1, show j - o = (j - (o + 1)) + 1 by omega, List.getElem?_cons_succ]
    ·rw [if_neg (by omega), if_neg h1]
 apply List.ext_getElem?
 intro j
 rw [key]
 simp only [List.length_map, List.length_take, List.getElem?_map, Nat.zero_add, Nat.zero_le, true_and, Nat.sub_zero, List.getElem?_take]
 by_cases hj : j < old.length
 ·rw [List.getElem?_range hj]
  by_cases hs : j < s.length
  ·rw [if_pos (by omega), if_pos hj]
   simp [cS, List.getElem?_eq_getElem hs]
  ·rw [if_neg (by omega), List.getElem?_eq_getElem hj]
   simp [cS, List.getElem?_eq_none (Nat.le_of_not_lt hs), List.getElem?_eq_getElem hj]
 ·rw [if_neg (by omega), List.getElem?_eq_none (by omega), List.getElem?_eq_none (by simp; omega)]
  rfl
theorem opsD_chk2 {P : Program} {C : Cx} {all l l' : List Oper} {env eE e : Env} {H : Hp} {hs hs2 : List Hp} {α : Type} {x : α} (g : α → AV × Hp) (h : evalD C all l env H = some (g x)) (ha : advD all l env (g x).1 (g x).2 = some (l', eE, hs)) (k : OpsD P C all l' eE (g x).2 e hs2) : OpsD P C all l env H e (hs ++ hs2) :=
 opsD_chk (m := some x) g h rfl ha k
def cpyN (s : List Nat) (n : Nat) : Option Int := if s.length = 0 then none else some ((min s.length n : Nat) : Int)
theorem cpyH (old : List Int) (L : List Blk) (r minv : Nat) {s : List Nat} {x : Int} {e : Option (AV × Hp)} (hl : Nat.ble L.length roots = true) (hr : L[r]? = some ⟨old.map (AV.int .u8), minv, false⟩) (hm : Nat.ble minv old.length = true) (h0 : Nat.blt 0 old.length = true)
 (h : e = (match srcCells (mkH L) 1 (min s.length old.length) (.str s) with | some cs => (if cs.length = 0 then (if min s.length old.length = 0 then some (AV.int .i64 0, mkH L) else none) else match wr (mkH L) r old.length 0 cs with | some H' => some (AV.int .i64 (min s.length old.length : Nat), H') | none => none) | none => none))
 (hx : cpyN s old.length = some x) : e = some (AV.int .i64 x, mkH (L.set r ⟨(List.range old.length).map fun i => AV.int .u8 (cS (old.getD i 0) s i), old.length, false⟩)) := by
 have hm := Nat.le_of_ble_eq_true hm
 have h0 : 0 < old.length := by simpa using h0
 unfold cpyN at hx
 split at hx
 ·cases hx
 ·rename_i hs
  cases hx
  have hlt : r < L.length := (List.getElem?_eq_some_iff.1 hr).1
  have e1 : s.take (min s.length old.length) = s.take old.length := by
   rcases Nat.le_total s.length old.length with hle | hle
   ·rw [Nat.min_eq_left hle, List.take_of_length_le (Nat.le_refl _), List.take_of_length_le hle]
   ·rw [Nat.min_eq_right hle]
  have e2 : srcCells (mkH L) 1 (min s.length old.length) (.str s) = some ((s.take old.length).map fun b : Nat => AV.int .u8 (b : Int)) := by
   simp only [srcCells]
   rw [if_pos ⟨trivial, Nat.min_le_left _ _⟩, e1]
  rw [h, e2]
  simp only
  have e3 : ((s.take old.length).map fun b : Nat => AV.int .u8 (b : Int)).length = min old.length s.length := by simp
  rw [if_neg (by rw [e3]; omega)]
  have e4 : wr (mkH L) r old.length 0 ((s.take old.length).map fun b : Nat => AV.int .u8 (b : Int)) = some (mkH (L.set r ⟨(List.range old.length).map fun i => AV.int .u8 (cS (old.getD i 0) s i), old.length, false⟩)) := by
   unfold wr
   rw [mkH_get hl hr]
   simp only
   rw [if_pos]
   ·rw [cpyL, mkH_set hlt]
   ·refine ⟨by trivial, by simp, hm, by rw [e3]; omega, ?_, ?_⟩
    ·rw [List.all_eq_true]
     intro a ha
     obtain ⟨b, _, rfl⟩ := List.mem_map.1 ha
     rfl
    ·rw [List.isEmpty_eq_false_iff]
     intro e
     rw [e] at e3
     simp at e3
     omega
  rw [e4]
end Go.Proofs.Ytnikdnchoahngaa.Am
set_option linter.unusedVariables false
namespace Go.Proofs.Ytnikdnchoahngaa.Am
open Go
def PT.allB {α : Type} (p : Nat → α → Bool) : PT α → (Nat → Nat) → Bool
 | .nil, _ => true
 | .node l b r, g => (match b with | some x => p (g 0) x | none => true) && l.allB p (fun n => g (2 * n + 1)) && r.allB p (fun n => g (2 * n + 2))
theorem PT.allB_get {α : Type} {p : Nat → α → Bool} : ∀ (t : PT α) (g : Nat → Nat), t.allB p g = true → ∀ (n : Nat) (x : α), t.get n = some x → p (g n) x = true
 | .nil, g, _, n, x, h => by cases h
 | .node l b r, g, hh, n, x, h => by
  simp only [PT.allB, Bool.and_eq_true] at hh
  obtain ⟨⟨h1, h2⟩, h3⟩ := hh
  rw [PT.get_node] at h
  by_cases h0 : n = 0
  ·rw [if_pos h0] at h
   subst h0
   subst h
   exact h1
  ·rw [if_neg h0] at h
   by_cases hm : n % 2 = 1
   ·rw [if_pos hm] at h
    have := PT.allB_get l _ h2 _ _ h
    rwa [show 2 * (n / 2) + 1 = n by omega] at this
   ·rw [if_neg hm] at h
    have := PT.allB_get r _ h3 _ _ h
    rwa [show 2 * (n / 2 - 1) + 2 = n by omega] at this
def beqZ : AV → AV → Bool
 | .top, .top => true
 | .int k n, .int k' n' => decide (k = k') && decide (n = n')
 | .bool a, .bool b => a == b
 | .str a, .str b => eqL a b
 | .nilp, .nilp => true
 | .nils, .nils => true
 | .nilf, .nilf => true
 | .nili, .nili => true
 | _, _ => false
theorem beqZ_eq {x y : AV} (h : beqZ x y = true) : x = y := by
 cases x <;> cases y <;> simp [beqZ, eqL_iff] at h ⊢ <;> exact h
def beqZs : List AV → List AV → Bool
 | [], [] => true
 | a :: x, b :: y => beqZ a b && beqZs x y
 | _, _ => false
theorem beqZs_eq : ∀ (x y : List AV), beqZs x y = true → x = y
 | [], [], _ => rfl
 | [], _ :: _, h => by simp [beqZs] at h
 | _ :: _, [], h => by simp [beqZs] at h
 | a :: x, b :: y, h => by
  simp only [beqZs, Bool.and_eq_true] at h
  rw [beqZ_eq h.1, beqZs_eq x y h.2]
def beqTi (i j : Ti) : Bool :=
 Nat.beq i.size j.size && Nat.beq i.bytes j.bytes && (match i.zero, j.zero with | some a, some b => beqZs a b | none, none => true | _, _ => false) && decide (i.kind = j.kind) && decide (i.fields = j.fields) && Nat.beq i.elem j.elem && Nat.beq i.len j.len && decide (i.flat = j.flat)
theorem beqTi_eq {i j : Ti} (h : beqTi i j = true) : i = j := by
 obtain ⟨a1, a2, a3, a4, a5, a6, a7, a8⟩ := i
 obtain ⟨b1, b2, b3, b4, b5, b6, b7, b8⟩ := j
 simp only [beqTi, Bool.and_eq_true, decide_eq_true_eq] at h
 obtain ⟨⟨⟨⟨⟨⟨⟨h1, h2⟩, h3⟩, h4⟩, h5⟩, h6⟩, h7⟩, h8⟩ := h
 have h1 := Nat.eq_of_beq_eq_true h1
 have h2 := Nat.eq_of_beq_eq_true h2
 have h6 := Nat.eq_of_beq_eq_true h6
 have h7 := Nat.eq_of_beq_eq_true h7
 have h3' : a3 = b3 := by
  cases a3 <;> cases b3 <;> simp only at h3 <;> first | rfl | cases h3 | exact congrArg some (beqZs_eq _ _ h3)
 subst h1 h2 h3' h4 h5 h6 h7 h8
 rfl
def tiOk (P : Program) (t : Nat) (i : Ti) : Bool := match mkTi P t with | some j => beqTi i j | none => false
theorem tiOk_eq {P : Program} {t : Nat} {i : Ti} (h : tiOk P t i = true) : mkTi P t = some i := by
 unfold tiOk at h
 split at h
 ·rename_i j hj
  rw [hj, beqTi_eq h]
 ·cases h
end Go.Proofs.Ytnikdnchoahngaa.Am
set_option linter.unusedVariables false
set_option linter.unusedSimpArgs false
namespace Go.Proofs.Ytnikdnchoahngaa.Am
open Go
def It (d : Nat) (s : ByteArray) (pos base : Nat) (m : Mp) (w : World) (a : Act) : Prop :=
 ∃ B, a.tmps[d]? = some (.pointer (some ⟨B, 0, none⟩)) ∧ w.heap[B]? = some (.stringIter s pos) ∧ base ≤ B ∧ ∀ r v N, m r v ≠ some (B, N)
section
variable {R : Type} (X : Fx R)
end
section
variable {R : Type} {X : Fx R} {p p' : Pt} {env eE : Env} {H H' : Hp} {d pos : Nat} {s : ByteArray}
def dneq (o : Oper) (d : Nat) : Bool := match o.dst with | some e => !Nat.beq e d | none => true
theorem It.put {base : Nat} {m : Mp} {w : World} {a : Act} {o : Oper} (c : Value) (hd : dneq o d = true) (it : It d s pos base m w a) : It d s pos base m w (a.put o.dst c) := by
 obtain ⟨B, h1, h2, h3, h4⟩ := it
 refine ⟨B, ?_, h2, h3, h4⟩
 unfold dneq at hd
 cases ho : o.dst with
 | none => exact h1
 | some e =>
  rw [ho] at hd
  simp only [Act.put]
  rw [Array.getElem?_setIfInBounds_ne]
  ·exact h1
  ·rintro rfl; simp at hd
theorem It.step {base b0 : Nat} {m m' : Mp} {w w' : World} {a : Act} (st : St m w b0 m' w') (it : It d s pos base m w a) : It d s pos base m' w' a := by
 obtain ⟨B, h1, h2, h3, h4⟩ := it
 have hlt : B < w.heap.size := (Array.getElem?_eq_some_iff.1 h2).1
 refine ⟨B, h1, by rw [st.same B hlt (fun r v N e => absurd e (h4 r v N))]; exact h2, h3, ?_⟩
 intro r v N e
 rcases st.ext r v B N e with ⟨v0, N0, e0⟩ | hB
 ·exact h4 r v0 N0 e0
 ·omega
end
end Go.Proofs.Ytnikdnchoahngaa.Am
set_option maxRecDepth 100000
namespace Go.Proofs.Ytnikdnchoahngaa.Am
noncomputable section
open Go
def tyT : PT Ti := (.node (.node (.node (.node (.node (.node (.node .nil (some ⟨1, 4, (some [.int .i32 0]), .int .i32, [], 0, 0, none⟩) .nil) (some ⟨1, 8, (some [.nilf]), .other, [], 0, 0, none⟩) .nil) (some ⟨1, 8, (some [.nilp]), .pointer, [], 53, 0, none⟩) (.node .nil (some ⟨10, 80, (some [.int .i64 0, .int .i64 0, .int .i64 0, .int .i64 0, .int .i64 0, .int .i64 0, .int .i64 0, .int .i64 0, .int .i64 0, .int .i64 0]), .array, [], 3, 10, (some (List.replicate 10 (.int .i64)))⟩) .nil)) (some ⟨4, 24, (some [.int .i64 0, .int .i64 0, .bool false, .int .u8 0]), .struct, [(0, 2), (1, 3), (2, 4), (3, 6)], 0, 0, (some [(.int .i64), (.int .i64), .bool, (.int .u8)])⟩) (.node (.node .nil (some ⟨1, 8, (some [.nilf]), .other, [], 0, 0, none⟩) .nil) (some ⟨1, 8, (some [.nilf]), .other, [], 0, 0, none⟩) (.node .nil (some ⟨0, 0, (some []), .struct, [(0, 54)], 0, 0, none⟩) .nil))) (some ⟨1, 8, (some [.int .i64 0]), .int .i64, [], 0, 0, none⟩) (.node (.node (.node (.node .nil (some ⟨1, 8, (some [.nilp]), .other, [], 0, 0, none⟩) .nil) (some ⟨1, 8, (some [.nilf]), .other, [], 0, 0, none⟩) .nil) (some ⟨1, 8, (some [.nilp]), .struct, [(0, 17)], 0, 0, none⟩) (.node .nil (some ⟨1, 8, (some [.nilf]), .other, [], 0, 0, none⟩) .nil)) (some ⟨1, 16, (some [.str []]), .string, [], 0, 0, none⟩) (.node (.node .nil (some ⟨1, 8, (some [.nilf]), .other, [], 0, 0, none⟩) .nil) (some ⟨1, 24, (some [.nils]), .slice, [], 5, 0, none⟩) (.node .nil (some ⟨1, 1, (some [.int .u8 0]), .int .u8, [], 0, 0, none⟩) .nil)))) (some ⟨1, 8, (some [.nilf]), .other, [], 0, 0, none⟩) (.node (.node (.node (.node (.node .nil (some ⟨11, 48, (some [.int .u64 0, .int .u64 0, .int .u32 0, .int .u8 0, .int .u8 0, .int .u8 0, .int .u8 0, .nilf, .nilp, .int .i32 0, .int .i32 0]), .struct, [(0, 12), (1, 12), (2, 58), (3, 59), (4, 5), (5, 5), (6, 60), (7, 61), (8, 62), (9, 63), (10, 64)], 0, 0, none⟩) .nil) (some ⟨1, 8, (some [.nilf]), .other, [], 0, 0, none⟩) .nil) (some ⟨1, 8, (some [.nilp]), .pointer, [], 66, 0, none⟩) (.node .nil (some ⟨2, 2, (some [.int .u8 0, .int .u8 0]), .array, [], 5, 2, (some (List.replicate 2 (.int .u8)))⟩) .nil)) (some ⟨1, 16, (some [.str []]), .string, [], 0, 0, none⟩) (.node (.node .nil (some ⟨1, 8, (some [.nilf]), .other, [], 0, 0, none⟩) .nil) (some ⟨1, 8, (some [.nilf]), .other, [], 0, 0, none⟩) (.node .nil (some ⟨1, 8, (some [.nilf]), .other, [], 0, 0, none⟩) .nil))) (some ⟨1, 1, (some [.int .u8 0]), .int .u8, [], 0, 0, none⟩) (.node (.node (.node .nil (some ⟨3, 32, (some [.int .i64 0, .str [], .int .i64 0]), .struct, [(0, 3), (1, 9), (2, 3)], 0, 0, (some [(.int .i64), .string, (.int .i64)])⟩) .nil) (some ⟨1, 4, (some [.int .i32 0]), .int .i32, [], 0, 0, none⟩) (.node .nil (some ⟨4, 40, (some [.nilp, .nilp, .nilp, .str []]), .struct, [(0, 17), (1, 17), (2, 17), (3, 9)], 0, 0, none⟩) .nil)) (some ⟨2, 24, (some [.str [], .int .u64 0]), .struct, [(0, 9), (1, 12)], 0, 0, none⟩) (.node (.node .nil (some ⟨1, 8, (some [.nilf]), .other, [], 0, 0, none⟩) .nil) (some ⟨1, 24, (some [.nils]), .slice, [], 9, 0, none⟩) (.node .nil (some ⟨1, 8, (some [.nilf]), .other, [], 0, 0, none⟩) .nil))))) (some ⟨1, 0, (some [.top]), .other, [], 0, 0, none⟩) (.node (.node (.node (.node (.node (.node .nil (some ⟨1, 4, (some [.int .i32 0]), .int .i32, [], 0, 0, none⟩) .nil) (some ⟨1, 24, (some [.nils]), .slice, [], 3, 0, none⟩) .nil) (some ⟨1, 8, (some [.nilp]), .pointer, [], 56, 0, none⟩) (.node .nil (some ⟨3, 3, (some [.int .u8 0, .int .u8 0, .int .u8 0]), .array, [], 5, 3, (some (List.replicate 3 (.int .u8)))⟩) .nil)) (some ⟨4, 24, (some [.int .i64 0, .int .i64 0, .bool false, .int .u8 0]), .struct, [(0, 2), (1, 3), (2, 4), (3, 6)], 0, 0, (some [(.int .i64), (.int .i64), .bool, (.int .u8)])⟩) (.node (.node .nil (some ⟨1, 8, (some [.nilf]), .other, [], 0, 0, none⟩) .nil) (some ⟨1, 8, (some [.nilf]), .other, [], 0, 0, none⟩) (.node .nil (some ⟨0, 0, (some []), .struct, [(0, 54)], 0, 0, none⟩) .nil))) (some ⟨1, 1, (some [.bool false]), .bool, [], 0, 0, none⟩) (.node (.node (.node .nil (some ⟨1, 8, (some [.nilf]), .other, [], 0, 0, none⟩) .nil) (some ⟨1, 16, (some [.nili]), .iface, [], 0, 0, none⟩) (.node .nil (some ⟨4, 40, (some [.nilp, .nilp, .nilp, .str []]), .struct, [(0, 17), (1, 17), (2, 17), (3, 9)], 0, 0, none⟩) .nil)) (some ⟨1, 8, (some [.int .u64 0]), .int .u64, [], 0, 0, none⟩) (.node (.node .nil (some ⟨9, 216, (some [.nils, .nils, .nils, .nils, .nils, .nils, .nils, .nils, .nils]), .array, [], 29, 9, (some (List.replicate 9 .slice))⟩) .nil) (some ⟨1, 8, (some [.nilf]), .other, [], 0, 0, none⟩) (.node .nil (some ⟨1, 1, (some [.int .u8 0]), .int .u8, [], 0, 0, none⟩) .nil)))) (some ⟨1, 8, (some [.int .i64 0]), .int .i64, [], 0, 0, none⟩) (.node (.node (.node (.node (.node .nil (some ⟨11, 48, (some [.int .u64 0, .int .u64 0, .int .u32 0, .int .u8 0, .int .u8 0, .int .u8 0, .int .u8 0, .nilf, .nilp, .int .i32 0, .int .i32 0]), .struct, [(0, 12), (1, 12), (2, 58), (3, 59), (4, 5), (5, 5), (6, 60), (7, 61), (8, 62), (9, 63), (10, 64)], 0, 0, none⟩) .nil) (some ⟨1, 8, (some [.nilf]), .other, [], 0, 0, none⟩) .nil) (some ⟨1, 8, (some [.nilp]), .struct, [(0, 17)], 0, 0, none⟩) (.node .nil (some ⟨1, 8, (some [.nilf]), .other, [], 0, 0, none⟩) .nil)) (some ⟨1, 16, (some [.str []]), .string, [], 0, 0, none⟩) (.node (.node .nil (some ⟨1, 8, (some [.nilf]), .other, [], 0, 0, none⟩) .nil) (some ⟨1, 8, (some [.nilf]), .other, [], 0, 0, none⟩) (.node .nil (some ⟨1, 4, (some [.int .u32 0]), .int .u32, [], 0, 0, none⟩) .nil))) (some ⟨1, 1, (some [.int .u8 0]), .int .u8, [], 0, 0, none⟩) (.node (.node (.node .nil (some ⟨3, 32, (some [.int .i64 0, .str [], .int .i64 0]), .struct, [(0, 3), (1, 9), (2, 3)], 0, 0, (some [(.int .i64), .string, (.int .i64)])⟩) .nil) (some ⟨1, 8, (some [.nilf]), .other, [], 0, 0, none⟩) (.node .nil (some ⟨0, 0, (some []), .array, [], 16, 0, (some (List.replicate 0 .pointer))⟩) .nil)) (some ⟨2, 24, (some [.str [], .int .u64 0]), .struct, [(0, 9), (1, 12)], 0, 0, none⟩) (.node (.node .nil (some ⟨1, 24, (some [.nils]), .slice, [], 29, 0, none⟩) .nil) (some ⟨1, 8, (some [.int .u64 0]), .int .u64, [], 0, 0, none⟩) (.node .nil (some ⟨1, 8, (some [.nilp]), .pointer, [], 5, 0, none⟩) .nil))))))
theorem tyOk : tyT.allB (tiOk Try.prog) id = true := by decide +kernel
def cx : Cx := ⟨tyT.get⟩
theorem cxTi : ∀ t i, cx.ti t = some i → mkTi Try.prog t = some i := fun t i h => tiOk_eq (PT.allB_get tyT id tyOk t i h)
theorem cxOrd : Try.prog.follows .mixedOrders = true := by decide +kernel
end
end Go.Proofs.Ytnikdnchoahngaa.Am
set_option linter.unusedVariables false
namespace Go.Proofs.Ytnikdnchoahngaa.Am
open Go
structure S37 where
 f0 : Int
 f1 : (List Nat)
 f2 : Int
def e2 (x : Int) : List AV := [.int .i64 x]
def v2 (x : Int) : AV := .int .i64 x
def e3 (x : Int) : List AV := [.int .i64 x]
def e4 (x : Bool) : List AV := [.bool x]
def e5 (x : Int) : List AV := [.int .u8 x]
def e9 (x : (List Nat)) : List AV := [.str x]
theorem e9_len : ∀ x, (e9 x).length = 1 := fun _ => rfl
def e38 (x : S37) : List AV := [.int .i64 x.f0, .str x.f1, .int .i64 x.f2]
end Go.Proofs.Ytnikdnchoahngaa.Am
set_option linter.unusedVariables false
namespace Go.Proofs.Ytnikdnchoahngaa.Am
open Go
theorem bytes_lt (a : ByteArray) : ∀ b ∈ a.data.toList.map (·.toNat), b < 256 := by
 intro b hb
 obtain ⟨c, _, rfl⟩ := List.mem_map.1 hb
 exact UInt8.toNat_lt c
theorem fw64 (n : Int) (h1 : -9223372036854775808 ≤ n) (h2 : n ≤ 9223372036854775807) : fW .i64 n = n := by
 have h1 : lo .i64 ≤ n := h1
 have h2 : n ≤ hi .i64 := h2
 unfold fW
 rw [if_pos (by simp [h1, h2])]
end Go.Proofs.Ytnikdnchoahngaa.Am
set_option linter.unusedVariables false
set_option linter.unusedSimpArgs false
namespace Go.Proofs.Ytnikdnchoahngaa.Am
open Go
theorem dT {p : Prop} [Decidable p] (h : p) : decide p = true := decide_eq_true h
theorem dF {p : Prop} [Decidable p] (h : ¬ p) : decide p = false := decide_eq_false h
theorem fwI {n : Int} (h1 : -9223372036854775808 ≤ n) (h2 : n ≤ 9223372036854775807) : fW .i64 n = n := fw64 n h1 h2
theorem bS {α β : Type} {x : Option α} {a : α} {f : α → Option β} {r : Option β} (h : x = some a) (k : f a = r) : x.bind f = r := by rw [h]; exact k
theorem jS {α β : Type} {f : α → Option β} {g : (α → Option β) → Option β} {v : α} (h : ∀ j : α → Option β, g j = j v) : jn f g = f v := h f
theorem iT {α : Type} {c : Bool} {A B r : α} (h : c = true) (k : A = r) : (if c then A else B) = r := by rw [h]; exact k
theorem iF {α : Type} {c : Bool} {A B r : α} (h : c = false) (k : B = r) : (if c then A else B) = r := by rw [h]; exact k
theorem fw_s {n : Nat} (h : n < 300000000000000) : fW .i64 ((n : Int) + 1) = ((n + 1 : Nat) : Int) := by rw [fwI (by omega) (by omega)]; omega
theorem gsL : (∀ (p : Prop) [Decidable p], p → decide p = true) ∧ (∀ (p : Prop) [Decidable p], ¬ p → decide p = false) ∧ (∀ n : Int, -9223372036854775808 ≤ n → n ≤ 9223372036854775807 → fW .i64 n = n) ∧
 (∀ (α β : Type) (a : α) (f : α → Option β), (some a).bind f = f a) ∧ (∀ (α : Type) (a b : α), (if True then a else b) = a) ∧ (∀ (α : Type) (a b : α), (if False then a else b) = b) ∧ (∀ (α : Type) (a : α), (a = a) = True) ∧ ((false = true) = False) ∧ ((!true) = false) ∧ ((!false) = true) ∧ (decide True = true) ∧ (decide False = false) ∧
 (∀ b, (true && b) = b) ∧ (∀ b, (b && true) = b) ∧ (∀ b, (false && b) = false) ∧ (∀ b, (b && false) = false) ∧ (∀ b, (true || b) = true) ∧ (∀ b, (b || true) = true) ∧ (∀ b, (false || b) = b) ∧ (∀ b, (b || false) = b) ∧
 (∀ p : Prop, (p ∧ p) = p) ∧ (∀ p : Prop, (p ∧ True) = p) ∧ (∀ p : Prop, (True ∧ p) = p) ∧ (∀ p : Prop, (p ∧ False) = False) ∧ (∀ p : Prop, (False ∧ p) = False) := by
 refine ⟨fun p _ h => dT h, fun p _ h => dF h, fun n h1 h2 => fwI h1 h2, fun _ _ _ _ => rfl, ?_, ?_, ?_, ?_, rfl, rfl, rfl, rfl, ?_, ?_, ?_, ?_, ?_, ?_, ?_, ?_, ?_, ?_, ?_, ?_, ?_⟩ <;> simp
abbrev By (s : List Nat) : Prop := ∀ b ∈ s, b < 256
abbrev Sz (s : List Nat) : Prop := s.length ≤ 140737488351232
theorem By.drop {s : List Nat} (h : By s) (n : Nat) : By (s.drop n) := fun b hb => h b (List.mem_of_mem_drop hb)
theorem By.take {s : List Nat} (h : By s) (n : Nat) : By (s.take n) := fun b hb => h b (List.mem_of_mem_take hb)
theorem By.tail {c : Nat} {r : List Nat} (h : By (c :: r)) : By r := fun b hb => h b (List.mem_cons_of_mem _ hb)
theorem subFrom {s : List Nat} {x : Int} {i : Nat} (hx : x = (i : Int)) (h : i ≤ s.length) : subL s (some x) none = some (s.drop i) := by
 subst hx; unfold subL bnd; simp [h]
theorem subMid {s : List Nat} {x y : Int} {i j : Nat} (hx : x = (i : Int)) (hy : y = (j : Int)) (h1 : i ≤ j) (h2 : j ≤ s.length) : subL s (some x) (some y) = some ((s.take j).drop i) := by
 subst hx hy; unfold subL bnd; simp [h1, h2]
end Go.Proofs.Ytnikdnchoahngaa.Am
set_option maxRecDepth 100000
set_option linter.unusedVariables false
namespace Go.Proofs.Ytnikdnchoahngaa.Am
noncomputable section
open Go
def X34 : Fx Int := ⟨Try.prog, cx, Try.f34, fun r => .int .i64 r, 0, fun _ => H0, cxTi, cxOrd⟩
def g34p0 : Pt := nav [0] (bodyAt Try.f34)
def g34p1 : Pt := nav [0, 0, 0] g34p0
def g34p2 : Pt := nav [0, 0, 0, 0] g34p1
def g34p3 : Pt := nav [0, 0] g34p2
def g34p5 : Pt := nav [2, 0, 0] g34p3
def g34p7 : Pt := nav [0, 0, 0] g34p5
def g34p8 : Pt := nav [0, 0, 0, 0, 0] g34p7
def g34p9 : Pt := nav [0, 0] g34p8
def g34p10 : Pt := nav [1, 0] g34p9
def g34p13 : Pt := nav [2, 0, 0, 0] g34p10
def g34p14 : Pt := nav [0, 0, 0, 0, 0] g34p13
def g34p15 : Pt := nav [0, 0] g34p14
def g34p16 : Pt := nav [1, 0] g34p15
def g34p17 : Pt := nav [2, 0] g34p15
def g34p19 : Pt := nav [2, 0, 0, 0] g34p16
def g34p20 : Pt := nav [0, 0] g34p17
def g34p21 : Pt := nav [0, 0, 0, 0, 0] g34p19
def g34p22 : Pt := nav [2, 0] g34p20
def g34p23 : Pt := nav [0, 0] g34p21
def g34p24 : Pt := nav [0, 0] g34p22
def g34p25 : Pt := nav [1, 0] g34p23
def g34p26 : Pt := nav [2, 0] g34p23
def g34p27 : Pt := nav [2, 0] g34p24
def g34p30 : Pt := nav [0, 0] g34p26
def g34p31 : Pt := nav [0, 0] g34p27
def g34p32 : Pt := nav [2, 0] g34p30
def g34p33 : Pt := nav [2, 0] g34p31
def g34p34 : Pt := nav [0, 0] g34p32
def g34p35 : Pt := nav [0, 0] g34p33
def g34p36 : Pt := nav [2, 0] g34p34
def g34p37 : Pt := nav [2, 0] g34p35
def g34p38 : Pt := nav [0, 0] g34p36
def g34p39 : Pt := nav [0, 0] g34p37
def g34p40 : Pt := nav [2, 0] g34p38
def g34p41 : Pt := nav [2, 0] g34p39
def g34p42 : Pt := nav [0, 0] g34p40
def g34p43 : Pt := nav [0, 0] g34p41
def g34p44 : Pt := nav [2, 0] g34p42
def g34p45 : Pt := nav [2, 0] g34p43
def g34p46 : Pt := nav [0, 0] g34p44
def g34p47 : Pt := nav [0, 0] g34p45
def g34p48 : Pt := nav [2, 0] g34p46
def g34p49 : Pt := nav [2, 0] g34p47
def g34p50 : Pt := nav [0, 0] g34p48
def g34p51 : Pt := nav [0, 0] g34p49
def g34p52 : Pt := nav [2, 0] g34p50
def g34p53 : Pt := nav [2, 0] g34p51
def g34p54 : Pt := nav [0, 0] g34p52
def g34p55 : Pt := nav [0, 0] g34p53
def g34p56 : Pt := nav [2, 0] g34p54
def g34p57 : Pt := nav [2, 0] g34p55
def g34p58 : Pt := nav [0, 0] g34p56
def g34p59 : Pt := nav [0, 0] g34p57
def g34p60 : Pt := nav [2, 0] g34p58
def g34p61 : Pt := nav [2, 0] g34p59
def g34p62 : Pt := nav [0, 0] g34p60
def g34p63 : Pt := nav [0, 0] g34p61
def g34p64 : Pt := nav [2, 0] g34p62
def g34p65 : Pt := nav [2, 0] g34p63
def g34p66 : Pt := nav [0, 0] g34p64
def g34p67 : Pt := nav [0, 0] g34p65
def g34p68 : Pt := nav [2, 0] g34p66
def g34p69 : Pt := nav [2, 0] g34p67
def g34p70 : Pt := nav [0, 0] g34p68
def g34p71 : Pt := nav [0, 0] g34p69
def g34p72 : Pt := nav [2, 0] g34p70
def g34p74 : Pt := nav [0, 0] g34p72
def g34p75 : Pt := nav [2, 0] g34p74
def g34p76 : Pt := nav [0, 0] g34p75
def g34p77 : Pt := nav [2, 0] g34p76
def g34p78 : Pt := nav [0, 0] g34p77
def g34p79 : Pt := nav [2, 0] g34p78
def g34p80 : Pt := nav [0, 0] g34p79
def g34p81 : Pt := nav [2, 0] g34p80
def g34p82 : Pt := nav [0, 0] g34p81
def g34p83 : Pt := nav [2, 0] g34p82
def g34p84 : Pt := nav [0, 0] g34p83
def g34p85 : Pt := nav [2, 0] g34p84
def g34p86 : Pt := nav [0, 0] g34p85
def g34 (k : Nat) (a0 : (List Nat)) (a1 : Int) : Option Int :=
 jn (fun (z1 : Bool) => if z1 then (some (0 : Int)) else ((subL a0 (some a1) none).bind fun x0_3 => (cpyN x0_3 3).bind fun x0_4 => jn (fun (z2 : Bool) => if z2 then (some (3 : Int)) else (jn (fun (z3 : Bool) => if z3 then (some (2 : Int)) else (jn (fun (z4 : Bool) => if z4 then (some (1 : Int)) else (some (0 : Int))) (fun j4 => if (decide (cS 0 x0_3 0 = 40)) then (j4 true) else (if (decide (cS 0 x0_3 0 = 41)) then (j4 true) else (if (decide (cS 0 x0_3 0 = 123)) then (j4 true) else (if (decide (cS 0 x0_3 0 = 125)) then (j4 true) else (if (decide (cS 0 x0_3 0 = 91)) then (j4 true) else (if (decide (cS 0 x0_3 0 = 93)) then (j4 true) else (if (decide (cS 0 x0_3 0 = 44)) then (j4 true) else (if (decide (cS 0 x0_3 0 = 59)) then (j4 true) else (if (decide (cS 0 x0_3 0 = 58)) then (j4 true) else (if (decide (cS 0 x0_3 0 = 61)) then (j4 true) else (if (decide (cS 0 x0_3 0 = 124)) then (j4 true) else (if (decide (cS 0 x0_3 0 = 33)) then (j4 true) else (if (decide (cS 0 x0_3 0 = 35)) then (j4 true) else (if (decide (cS 0 x0_3 0 = 43)) then (j4 true) else (if (decide (cS 0 x0_3 0 = 45)) then (j4 true) else (if (decide (cS 0 x0_3 0 = 42)) then (j4 true) else (if (decide (cS 0 x0_3 0 = 47)) then (j4 true) else (if (decide (cS 0 x0_3 0 = 60)) then (j4 true) else (if (decide (cS 0 x0_3 0 = 62)) then (j4 true) else (j4 (decide (cS 0 x0_3 0 = 46)))))))))))))))))))))))) (fun j3 => if ((decide (cS 0 x0_3 0 = 60)) && ((decide (cS 0 x0_3 1 = 60)) && true)) then (j3 true) else (if ((decide (cS 0 x0_3 0 = 62)) && ((decide (cS 0 x0_3 1 = 62)) && true)) then (j3 true) else (if ((decide (cS 0 x0_3 0 = 45)) && ((decide (cS 0 x0_3 1 = 62)) && true)) then (j3 true) else (if ((decide (cS 0 x0_3 0 = 60)) && ((decide (cS 0 x0_3 1 = 45)) && true)) then (j3 true) else (if ((decide (cS 0 x0_3 0 = 60)) && ((decide (cS 0 x0_3 1 = 61)) && true)) then (j3 true) else (if ((decide (cS 0 x0_3 0 = 61)) && ((decide (cS 0 x0_3 1 = 62)) && true)) then (j3 true) else (if ((decide (cS 0 x0_3 0 = 58)) && ((decide (cS 0 x0_3 1 = 61)) && true)) then (j3 true) else (if ((decide (cS 0 x0_3 0 = 58)) && ((decide (cS 0 x0_3 1 = 58)) && true)) then (j3 true) else (if ((decide (cS 0 x0_3 0 = 61)) && ((decide (cS 0 x0_3 1 = 61)) && true)) then (j3 true) else (if ((decide (cS 0 x0_3 0 = 47)) && ((decide (cS 0 x0_3 1 = 61)) && true)) then (j3 true) else (if ((decide (cS 0 x0_3 0 = 61)) && ((decide (cS 0 x0_3 1 = 60)) && true)) then (j3 true) else (if ((decide (cS 0 x0_3 0 = 62)) && ((decide (cS 0 x0_3 1 = 61)) && true)) then (j3 true) else (if ((decide (cS 0 x0_3 0 = 124)) && ((decide (cS 0 x0_3 1 = 124)) && true)) then (j3 true) else (if ((decide (cS 0 x0_3 0 = 43)) && ((decide (cS 0 x0_3 1 = 43)) && true)) then (j3 true) else (j3 ((decide (cS 0 x0_3 0 = 45)) && ((decide (cS 0 x0_3 1 = 45)) && true))))))))))))))))))) (fun j2 => if ((decide (cS 0 x0_3 0 = 61)) && ((decide (cS 0 x0_3 1 = 58)) && ((decide (cS 0 x0_3 2 = 61)) && true))) then (j2 true) else (j2 ((decide (cS 0 x0_3 0 = 61)) && ((decide (cS 0 x0_3 1 = 47)) && ((decide (cS 0 x0_3 2 = 61)) && true))))))) (fun j1 => if (decide (a1 < 0)) then (j1 true) else (j1 (decide ((a0.length : Int) ≤ a1))))
theorem g34_ok (k : Nat) (a0 : (List Nat)) (a1 : Int) (r : Int) (h : g34 k a0 a1 = some r) : PureOk Try.prog 34 [.str a0, .int .i64 a1] (.int .i64 r) := by
 refine pure_of X34 (fun _ => rfl) Try.func34 (by decide +kernel) (by kernel_rfl) (t := g34 k a0 a1) ?_ h
 unfold g34
 refine oE (eE := [(0, .str a0), (1, .int .i64 a1)]) (by kernel_rfl) ?_
 let E1 : Env := [(8, .bool (decide (a1 < 0))), (7, .bool (decide (a1 < 0))), (6, .int .i64 a1), (5, .ptr 0 3 0), (4, .int .i64 0), (0, .str a0), (1, .int .i64 a1)]
 refine oR 14 (p' := (atN 3 (ctl1 g34p2))) (eE := E1) (H' := (mkH [⟨[.int .u8 0, .int .u8 0, .int .u8 0], 0, false⟩])) (by kernel_rfl) ?_
 refine oJ (f := fun (z1 : Bool) => if z1 then (some (0 : Int)) else ((subL a0 (some a1) none).bind fun x0_3 => (cpyN x0_3 3).bind fun x0_4 => jn (fun (z2 : Bool) => if z2 then (some (3 : Int)) else (jn (fun (z3 : Bool) => if z3 then (some (2 : Int)) else (jn (fun (z4 : Bool) => if z4 then (some (1 : Int)) else (some (0 : Int))) (fun j4 => if (decide (cS 0 x0_3 0 = 40)) then (j4 true) else (if (decide (cS 0 x0_3 0 = 41)) then (j4 true) else (if (decide (cS 0 x0_3 0 = 123)) then (j4 true) else (if (decide (cS 0 x0_3 0 = 125)) then (j4 true) else (if (decide (cS 0 x0_3 0 = 91)) then (j4 true) else (if (decide (cS 0 x0_3 0 = 93)) then (j4 true) else (if (decide (cS 0 x0_3 0 = 44)) then (j4 true) else (if (decide (cS 0 x0_3 0 = 59)) then (j4 true) else (if (decide (cS 0 x0_3 0 = 58)) then (j4 true) else (if (decide (cS 0 x0_3 0 = 61)) then (j4 true) else (if (decide (cS 0 x0_3 0 = 124)) then (j4 true) else (if (decide (cS 0 x0_3 0 = 33)) then (j4 true) else (if (decide (cS 0 x0_3 0 = 35)) then (j4 true) else (if (decide (cS 0 x0_3 0 = 43)) then (j4 true) else (if (decide (cS 0 x0_3 0 = 45)) then (j4 true) else (if (decide (cS 0 x0_3 0 = 42)) then (j4 true) else (if (decide (cS 0 x0_3 0 = 47)) then (j4 true) else (if (decide (cS 0 x0_3 0 = 60)) then (j4 true) else (if (decide (cS 0 x0_3 0 = 62)) then (j4 true) else (j4 (decide (cS 0 x0_3 0 = 46)))))))))))))))))))))))) (fun j3 => if ((decide (cS 0 x0_3 0 = 60)) && ((decide (cS 0 x0_3 1 = 60)) && true)) then (j3 true) else (if ((decide (cS 0 x0_3 0 = 62)) && ((decide (cS 0 x0_3 1 = 62)) && true)) then (j3 true) else (if ((decide (cS 0 x0_3 0 = 45)) && ((decide (cS 0 x0_3 1 = 62)) && true)) then (j3 true) else (if ((decide (cS 0 x0_3 0 = 60)) && ((decide (cS 0 x0_3 1 = 45)) && true)) then (j3 true) else (if ((decide (cS 0 x0_3 0 = 60)) && ((decide (cS 0 x0_3 1 = 61)) && true)) then (j3 true) else (if ((decide (cS 0 x0_3 0 = 61)) && ((decide (cS 0 x0_3 1 = 62)) && true)) then (j3 true) else (if ((decide (cS 0 x0_3 0 = 58)) && ((decide (cS 0 x0_3 1 = 61)) && true)) then (j3 true) else (if ((decide (cS 0 x0_3 0 = 58)) && ((decide (cS 0 x0_3 1 = 58)) && true)) then (j3 true) else (if ((decide (cS 0 x0_3 0 = 61)) && ((decide (cS 0 x0_3 1 = 61)) && true)) then (j3 true) else (if ((decide (cS 0 x0_3 0 = 47)) && ((decide (cS 0 x0_3 1 = 61)) && true)) then (j3 true) else (if ((decide (cS 0 x0_3 0 = 61)) && ((decide (cS 0 x0_3 1 = 60)) && true)) then (j3 true) else (if ((decide (cS 0 x0_3 0 = 62)) && ((decide (cS 0 x0_3 1 = 61)) && true)) then (j3 true) else (if ((decide (cS 0 x0_3 0 = 124)) && ((decide (cS 0 x0_3 1 = 124)) && true)) then (j3 true) else (if ((decide (cS 0 x0_3 0 = 43)) && ((decide (cS 0 x0_3 1 = 43)) && true)) then (j3 true) else (j3 ((decide (cS 0 x0_3 0 = 45)) && ((decide (cS 0 x0_3 1 = 45)) && true))))))))))))))))))) (fun j2 => if ((decide (cS 0 x0_3 0 = 61)) && ((decide (cS 0 x0_3 1 = 58)) && ((decide (cS 0 x0_3 2 = 61)) && true))) then (j2 true) else (j2 ((decide (cS 0 x0_3 0 = 61)) && ((decide (cS 0 x0_3 1 = 47)) && ((decide (cS 0 x0_3 2 = 61)) && true))))))) g34p3 (fun (z1 : Bool) => [(0, .str a0), (1, .int .i64 a1), (5, .ptr 0 3 0), (13, .bool z1)]) (fun (z1 : Bool) => (mkH [⟨[.int .u8 0, .int .u8 0, .int .u8 0], 0, false⟩])) (fun z1 => ?_) (fun j1 hj1 => ?_)
 ·refine oS 13 (b := z1) (by kernel_rfl) (fun hb => ?_) (fun hb => ?_)
  ·let E2 : Env := [(4, .int .i64 0), (13, .bool true), (0, .str a0), (1, .int .i64 a1), (5, .ptr 0 3 0), (13, .bool z1)]
   refine oR 6 (p' := .fin) (eE := E2) (H' := (mkH [⟨[.int .u8 0, .int .u8 0, .int .u8 0], 0, false⟩])) (by kernel_rfl) ?_
   exact oT (r := (0 : Int)) (xs := [.int .i64 0]) (v := .int .i64 0) (by kernel_rfl) (by kernel_rfl) (by kernel_rfl) (.pures (by kernel_rfl)) (by kernel_rfl)
  ·let E3 : Env := [(13, .bool false), (0, .str a0), (1, .int .i64 a1), (5, .ptr 0 3 0), (13, .bool z1)]
   refine oR 3 (p' := g34p5) (eE := E3) (H' := (mkH [⟨[.int .u8 0, .int .u8 0, .int .u8 0], 0, false⟩])) (by kernel_rfl) ?_
   refine ok_bind (fun x0_3 hx0_3 => ?_)
   refine ok_bind (fun x0_4 hx0_4 => ?_)
   let E4 : Env := [(16, .int .i64 a1), (15, .str a0), (14, .slice 0 3 0 3 1), (13, .bool false), (0, .str a0), (1, .int .i64 a1), (5, .ptr 0 3 0), (13, .bool z1)]
   refine ok_draw (p' := nav [0] g34p5) (eE := ((18, .int .i64 x0_4) :: (17, .str x0_3) :: E4)) (H' := (mkH [⟨[.int .u8 (cS 0 x0_3 0), .int .u8 (cS 0 x0_3 1), .int .u8 (cS 0 x0_3 2)], 3, false⟩])) (hs := [(mkH [⟨[.int .u8 (cS 0 x0_3 0), .int .u8 (cS 0 x0_3 1), .int .u8 (cS 0 x0_3 2)], 3, false⟩])]) [(0, 0, 0), (0, 0, 0), (0, 0, 0), (6, 0, 0), (15, 0, 0)] (by kernel_rfl) (by kernel_rfl) (by kernel_rfl) (opsD_run 3 (l' := (opsAt g34p5).toList.drop 3) (eE := E4) (H' := (mkH [⟨[.int .u8 0, .int .u8 0, .int .u8 0], 0, false⟩])) (hs := []) (by kernel_rfl) (opsD_chk (l' := (opsAt g34p5).toList.drop 4) (eE := ((17, .str x0_3) :: E4)) (hs := []) (x := x0_3) (fun (x0_3 : (List Nat)) => (.str x0_3, (mkH [⟨[.int .u8 0, .int .u8 0, .int .u8 0], 0, false⟩]))) (subH (some a1) none (by kernel_rfl)) hx0_3 (by kernel_rfl) (opsD_chk2 (l' := (opsAt g34p5).toList.drop 5) (eE := ((18, .int .i64 x0_4) :: (17, .str x0_3) :: E4)) (hs := [(mkH [⟨[.int .u8 (cS 0 x0_3 0), .int .u8 (cS 0 x0_3 1), .int .u8 (cS 0 x0_3 2)], 3, false⟩])]) (x := x0_4) (fun (x0_4 : Int) => (.int .i64 x0_4, (mkH [⟨[.int .u8 (cS 0 x0_3 0), .int .u8 (cS 0 x0_3 1), .int .u8 (cS 0 x0_3 2)], 3, false⟩]))) ((cpyH [0, 0, 0] [⟨[.int .u8 0, .int .u8 0, .int .u8 0], 0, false⟩] 0 0 rfl rfl rfl rfl (by kernel_rfl) hx0_4).trans (by kernel_rfl)) (by kernel_rfl) (.nil)))) (by kernel_rfl) (by kernel_rfl) (by kernel_rfl) ?_
   refine oR 8 (p' := g34p8) (eE := ((19, .agg [.int .u8 (cS 0 x0_3 0), .int .u8 (cS 0 x0_3 1), .int .u8 (cS 0 x0_3 2)]) :: (18, .int .i64 x0_4) :: (17, .str x0_3) :: E4)) (H' := (mkH [⟨[.int .u8 (cS 0 x0_3 0), .int .u8 (cS 0 x0_3 1), .int .u8 (cS 0 x0_3 2)], 3, false⟩])) (by kernel_rfl) ?_
   refine oK [5, 19] (eE := [(5, .ptr 0 3 0), (19, .agg [.int .u8 (cS 0 x0_3 0), .int .u8 (cS 0 x0_3 1), .int .u8 (cS 0 x0_3 2)])]) (by kernel_rfl) ?_
   let E5 : Env := [(20, .bool ((decide (cS 0 x0_3 0 = 61)) && ((decide (cS 0 x0_3 1 = 58)) && ((decide (cS 0 x0_3 2 = 61)) && true)))), (22, .bool ((decide (cS 0 x0_3 0 = 61)) && ((decide (cS 0 x0_3 1 = 58)) && ((decide (cS 0 x0_3 2 = 61)) && true)))), (21, .agg [.int .u8 61, .int .u8 58, .int .u8 61]), (5, .ptr 0 3 0), (19, .agg [.int .u8 (cS 0 x0_3 0), .int .u8 (cS 0 x0_3 1), .int .u8 (cS 0 x0_3 2)])]
   refine oR 5 (p' := g34p9) (eE := E5) (H' := (mkH [⟨[.int .u8 (cS 0 x0_3 0), .int .u8 (cS 0 x0_3 1), .int .u8 (cS 0 x0_3 2)], 3, false⟩])) (by kernel_rfl) ?_
   refine oJ (f := fun (z2 : Bool) => if z2 then (some (3 : Int)) else (jn (fun (z3 : Bool) => if z3 then (some (2 : Int)) else (jn (fun (z4 : Bool) => if z4 then (some (1 : Int)) else (some (0 : Int))) (fun j4 => if (decide (cS 0 x0_3 0 = 40)) then (j4 true) else (if (decide (cS 0 x0_3 0 = 41)) then (j4 true) else (if (decide (cS 0 x0_3 0 = 123)) then (j4 true) else (if (decide (cS 0 x0_3 0 = 125)) then (j4 true) else (if (decide (cS 0 x0_3 0 = 91)) then (j4 true) else (if (decide (cS 0 x0_3 0 = 93)) then (j4 true) else (if (decide (cS 0 x0_3 0 = 44)) then (j4 true) else (if (decide (cS 0 x0_3 0 = 59)) then (j4 true) else (if (decide (cS 0 x0_3 0 = 58)) then (j4 true) else (if (decide (cS 0 x0_3 0 = 61)) then (j4 true) else (if (decide (cS 0 x0_3 0 = 124)) then (j4 true) else (if (decide (cS 0 x0_3 0 = 33)) then (j4 true) else (if (decide (cS 0 x0_3 0 = 35)) then (j4 true) else (if (decide (cS 0 x0_3 0 = 43)) then (j4 true) else (if (decide (cS 0 x0_3 0 = 45)) then (j4 true) else (if (decide (cS 0 x0_3 0 = 42)) then (j4 true) else (if (decide (cS 0 x0_3 0 = 47)) then (j4 true) else (if (decide (cS 0 x0_3 0 = 60)) then (j4 true) else (if (decide (cS 0 x0_3 0 = 62)) then (j4 true) else (j4 (decide (cS 0 x0_3 0 = 46)))))))))))))))))))))))) (fun j3 => if ((decide (cS 0 x0_3 0 = 60)) && ((decide (cS 0 x0_3 1 = 60)) && true)) then (j3 true) else (if ((decide (cS 0 x0_3 0 = 62)) && ((decide (cS 0 x0_3 1 = 62)) && true)) then (j3 true) else (if ((decide (cS 0 x0_3 0 = 45)) && ((decide (cS 0 x0_3 1 = 62)) && true)) then (j3 true) else (if ((decide (cS 0 x0_3 0 = 60)) && ((decide (cS 0 x0_3 1 = 45)) && true)) then (j3 true) else (if ((decide (cS 0 x0_3 0 = 60)) && ((decide (cS 0 x0_3 1 = 61)) && true)) then (j3 true) else (if ((decide (cS 0 x0_3 0 = 61)) && ((decide (cS 0 x0_3 1 = 62)) && true)) then (j3 true) else (if ((decide (cS 0 x0_3 0 = 58)) && ((decide (cS 0 x0_3 1 = 61)) && true)) then (j3 true) else (if ((decide (cS 0 x0_3 0 = 58)) && ((decide (cS 0 x0_3 1 = 58)) && true)) then (j3 true) else (if ((decide (cS 0 x0_3 0 = 61)) && ((decide (cS 0 x0_3 1 = 61)) && true)) then (j3 true) else (if ((decide (cS 0 x0_3 0 = 47)) && ((decide (cS 0 x0_3 1 = 61)) && true)) then (j3 true) else (if ((decide (cS 0 x0_3 0 = 61)) && ((decide (cS 0 x0_3 1 = 60)) && true)) then (j3 true) else (if ((decide (cS 0 x0_3 0 = 62)) && ((decide (cS 0 x0_3 1 = 61)) && true)) then (j3 true) else (if ((decide (cS 0 x0_3 0 = 124)) && ((decide (cS 0 x0_3 1 = 124)) && true)) then (j3 true) else (if ((decide (cS 0 x0_3 0 = 43)) && ((decide (cS 0 x0_3 1 = 43)) && true)) then (j3 true) else (j3 ((decide (cS 0 x0_3 0 = 45)) && ((decide (cS 0 x0_3 1 = 45)) && true))))))))))))))))))) g34p10 (fun (z2 : Bool) => [(5, .ptr 0 3 0), (20, .bool z2)]) (fun (z2 : Bool) => (mkH [⟨[.int .u8 (cS 0 x0_3 0), .int .u8 (cS 0 x0_3 1), .int .u8 (cS 0 x0_3 2)], 3, false⟩])) (fun z2 => ?_) (fun j2 hj2 => ?_)
   ·refine oS 20 (b := z2) (by kernel_rfl) (fun hb => ?_) (fun hb => ?_)
    ·refine oR 6 (p' := .fin) (eE := [(4, .int .i64 3), (20, .bool true), (5, .ptr 0 3 0), (20, .bool z2)]) (H' := (mkH [⟨[.int .u8 (cS 0 x0_3 0), .int .u8 (cS 0 x0_3 1), .int .u8 (cS 0 x0_3 2)], 3, false⟩])) (by kernel_rfl) ?_
     exact oT (r := (3 : Int)) (xs := [.int .i64 3]) (v := .int .i64 3) (by kernel_rfl) (by kernel_rfl) (by kernel_rfl) (.pures (by kernel_rfl)) (by kernel_rfl)
    ·let E6 : Env := [(30, .bool ((decide (cS 0 x0_3 0 = 60)) && ((decide (cS 0 x0_3 1 = 60)) && true))), (32, .bool ((decide (cS 0 x0_3 0 = 60)) && ((decide (cS 0 x0_3 1 = 60)) && true))), (31, .agg [.int .u8 60, .int .u8 60]), (29, .agg [.int .u8 (cS 0 x0_3 0), .int .u8 (cS 0 x0_3 1)]), (28, .int .u8 (cS 0 x0_3 1)), (27, .ptr 0 3 1), (26, .int .u8 (cS 0 x0_3 0)), (25, .ptr 0 3 0), (20, .bool false), (5, .ptr 0 3 0), (20, .bool z2)]
     refine oR 19 (p' := g34p15) (eE := E6) (H' := (mkH [⟨[.int .u8 (cS 0 x0_3 0), .int .u8 (cS 0 x0_3 1), .int .u8 (cS 0 x0_3 2)], 3, false⟩])) (by kernel_rfl) ?_
     refine oK [5, 29, 30] (eE := [(5, .ptr 0 3 0), (29, .agg [.int .u8 (cS 0 x0_3 0), .int .u8 (cS 0 x0_3 1)]), (30, .bool ((decide (cS 0 x0_3 0 = 60)) && ((decide (cS 0 x0_3 1 = 60)) && true)))]) (by kernel_rfl) ?_
     refine oJ (f := fun (z3 : Bool) => if z3 then (some (2 : Int)) else (jn (fun (z4 : Bool) => if z4 then (some (1 : Int)) else (some (0 : Int))) (fun j4 => if (decide (cS 0 x0_3 0 = 40)) then (j4 true) else (if (decide (cS 0 x0_3 0 = 41)) then (j4 true) else (if (decide (cS 0 x0_3 0 = 123)) then (j4 true) else (if (decide (cS 0 x0_3 0 = 125)) then (j4 true) else (if (decide (cS 0 x0_3 0 = 91)) then (j4 true) else (if (decide (cS 0 x0_3 0 = 93)) then (j4 true) else (if (decide (cS 0 x0_3 0 = 44)) then (j4 true) else (if (decide (cS 0 x0_3 0 = 59)) then (j4 true) else (if (decide (cS 0 x0_3 0 = 58)) then (j4 true) else (if (decide (cS 0 x0_3 0 = 61)) then (j4 true) else (if (decide (cS 0 x0_3 0 = 124)) then (j4 true) else (if (decide (cS 0 x0_3 0 = 33)) then (j4 true) else (if (decide (cS 0 x0_3 0 = 35)) then (j4 true) else (if (decide (cS 0 x0_3 0 = 43)) then (j4 true) else (if (decide (cS 0 x0_3 0 = 45)) then (j4 true) else (if (decide (cS 0 x0_3 0 = 42)) then (j4 true) else (if (decide (cS 0 x0_3 0 = 47)) then (j4 true) else (if (decide (cS 0 x0_3 0 = 60)) then (j4 true) else (if (decide (cS 0 x0_3 0 = 62)) then (j4 true) else (j4 (decide (cS 0 x0_3 0 = 46)))))))))))))))))))))))) g34p16 (fun (z3 : Bool) => [(5, .ptr 0 3 0), (30, .bool z3)]) (fun (z3 : Bool) => (mkH [⟨[.int .u8 (cS 0 x0_3 0), .int .u8 (cS 0 x0_3 1), .int .u8 (cS 0 x0_3 2)], 3, false⟩])) (fun z3 => ?_) (fun j3 hj3 => ?_)
     ·refine oS 30 (b := z3) (by kernel_rfl) (fun hb => ?_) (fun hb => ?_)
      ·refine oR 6 (p' := .fin) (eE := [(4, .int .i64 2), (30, .bool true), (5, .ptr 0 3 0), (30, .bool z3)]) (H' := (mkH [⟨[.int .u8 (cS 0 x0_3 0), .int .u8 (cS 0 x0_3 1), .int .u8 (cS 0 x0_3 2)], 3, false⟩])) (by kernel_rfl) ?_
       exact oT (r := (2 : Int)) (xs := [.int .i64 2]) (v := .int .i64 2) (by kernel_rfl) (by kernel_rfl) (by kernel_rfl) (.pures (by kernel_rfl)) (by kernel_rfl)
      ·let E7 : Env := [(63, .bool (decide (cS 0 x0_3 0 = 40))), (64, .bool (decide (cS 0 x0_3 0 = 40))), (62, .int .u8 (cS 0 x0_3 0)), (61, .ptr 0 3 0), (30, .bool false), (5, .ptr 0 3 0), (30, .bool z3)]
       refine oR 15 (p' := g34p23) (eE := E7) (H' := (mkH [⟨[.int .u8 (cS 0 x0_3 0), .int .u8 (cS 0 x0_3 1), .int .u8 (cS 0 x0_3 2)], 3, false⟩])) (by kernel_rfl) ?_
       refine oJ (f := fun (z4 : Bool) => if z4 then (some (1 : Int)) else (some (0 : Int))) g34p25 (fun (z4 : Bool) => [(63, .bool z4)]) (fun (z4 : Bool) => (mkH [])) (fun z4 => ?_) (fun j4 hj4 => ?_)
       ·refine oS 63 (b := z4) (by kernel_rfl) (fun hb => ?_) (fun hb => ?_)
        ·refine oR 6 (p' := .fin) (eE := [(4, .int .i64 1), (63, .bool true), (63, .bool z4)]) (H' := (mkH [])) (by kernel_rfl) ?_
         exact oT (r := (1 : Int)) (xs := [.int .i64 1]) (v := .int .i64 1) (by kernel_rfl) (by kernel_rfl) (by kernel_rfl) (.pures (by kernel_rfl)) (by kernel_rfl)
        ·refine oR 7 (p' := .fin) (eE := [(4, .int .i64 0), (63, .bool false), (63, .bool z4)]) (H' := (mkH [])) (by kernel_rfl) ?_
         exact oT (r := (0 : Int)) (xs := [.int .i64 0]) (v := .int .i64 0) (by kernel_rfl) (by kernel_rfl) (by kernel_rfl) (.pures (by kernel_rfl)) (by kernel_rfl)
       ·refine oS 63 (b := decide (cS 0 x0_3 0 = 40)) (by kernel_rfl) (fun hb => ?_) (fun hb => ?_)
        ·refine oR 2 (p' := g34p25) (eE := ((63, .bool true) :: E7)) (H' := (mkH [⟨[.int .u8 (cS 0 x0_3 0), .int .u8 (cS 0 x0_3 1), .int .u8 (cS 0 x0_3 2)], 3, false⟩])) (by kernel_rfl) ?_
         refine oK [63] (eE := [(63, .bool true)]) (by kernel_rfl) ?_
         refine ok_cut [] [⟨[.int .u8 (cS 0 x0_3 0), .int .u8 (cS 0 x0_3 1), .int .u8 (cS 0 x0_3 2)], 3, false⟩] (by kernel_rfl) rfl (by kernel_rfl) trivial ?_
         exact hj4 true
        ·refine oR 6 (p' := g34p30) (eE := ((63, .bool (decide (cS 0 x0_3 0 = 41))) :: (65, .bool (decide (cS 0 x0_3 0 = 41))) :: (63, .bool false) :: E7)) (H' := (mkH [⟨[.int .u8 (cS 0 x0_3 0), .int .u8 (cS 0 x0_3 1), .int .u8 (cS 0 x0_3 2)], 3, false⟩])) (by kernel_rfl) ?_
         refine oK [62, 63] (eE := [(62, .int .u8 (cS 0 x0_3 0)), (63, .bool (decide (cS 0 x0_3 0 = 41)))]) (by kernel_rfl) ?_
         refine oS 63 (b := decide (cS 0 x0_3 0 = 41)) (by kernel_rfl) (fun hb => ?_) (fun hb => ?_)
         ·refine oR 2 (p' := g34p25) (eE := [(63, .bool true), (62, .int .u8 (cS 0 x0_3 0)), (63, .bool (decide (cS 0 x0_3 0 = 41)))]) (H' := (mkH [⟨[.int .u8 (cS 0 x0_3 0), .int .u8 (cS 0 x0_3 1), .int .u8 (cS 0 x0_3 2)], 3, false⟩])) (by kernel_rfl) ?_
          refine oK [63] (eE := [(63, .bool true)]) (by kernel_rfl) ?_
          refine ok_cut [] [⟨[.int .u8 (cS 0 x0_3 0), .int .u8 (cS 0 x0_3 1), .int .u8 (cS 0 x0_3 2)], 3, false⟩] (by kernel_rfl) rfl (by kernel_rfl) trivial ?_
          exact hj4 true
         ·let E8 : Env := [(63, .bool (decide (cS 0 x0_3 0 = 123))), (66, .bool (decide (cS 0 x0_3 0 = 123))), (63, .bool false), (62, .int .u8 (cS 0 x0_3 0)), (63, .bool (decide (cS 0 x0_3 0 = 41)))]
          refine oR 6 (p' := g34p34) (eE := E8) (H' := (mkH [⟨[.int .u8 (cS 0 x0_3 0), .int .u8 (cS 0 x0_3 1), .int .u8 (cS 0 x0_3 2)], 3, false⟩])) (by kernel_rfl) ?_
          refine oS 63 (b := decide (cS 0 x0_3 0 = 123)) (by kernel_rfl) (fun hb => ?_) (fun hb => ?_)
          ·refine oR 2 (p' := g34p25) (eE := ((63, .bool true) :: E8)) (H' := (mkH [⟨[.int .u8 (cS 0 x0_3 0), .int .u8 (cS 0 x0_3 1), .int .u8 (cS 0 x0_3 2)], 3, false⟩])) (by kernel_rfl) ?_
           refine oK [63] (eE := [(63, .bool true)]) (by kernel_rfl) ?_
           refine ok_cut [] [⟨[.int .u8 (cS 0 x0_3 0), .int .u8 (cS 0 x0_3 1), .int .u8 (cS 0 x0_3 2)], 3, false⟩] (by kernel_rfl) rfl (by kernel_rfl) trivial ?_
           exact hj4 true
          ·refine oR 6 (p' := g34p38) (eE := ((63, .bool (decide (cS 0 x0_3 0 = 125))) :: (67, .bool (decide (cS 0 x0_3 0 = 125))) :: (63, .bool false) :: E8)) (H' := (mkH [⟨[.int .u8 (cS 0 x0_3 0), .int .u8 (cS 0 x0_3 1), .int .u8 (cS 0 x0_3 2)], 3, false⟩])) (by kernel_rfl) ?_
           refine oS 63 (b := decide (cS 0 x0_3 0 = 125)) (by kernel_rfl) (fun hb => ?_) (fun hb => ?_)
           ·refine oR 2 (p' := g34p25) (eE := ((63, .bool true) :: (63, .bool (decide (cS 0 x0_3 0 = 125))) :: (67, .bool (decide (cS 0 x0_3 0 = 125))) :: (63, .bool false) :: E8)) (H' := (mkH [⟨[.int .u8 (cS 0 x0_3 0), .int .u8 (cS 0 x0_3 1), .int .u8 (cS 0 x0_3 2)], 3, false⟩])) (by kernel_rfl) ?_
            refine oK [63] (eE := [(63, .bool true)]) (by kernel_rfl) ?_
            refine ok_cut [] [⟨[.int .u8 (cS 0 x0_3 0), .int .u8 (cS 0 x0_3 1), .int .u8 (cS 0 x0_3 2)], 3, false⟩] (by kernel_rfl) rfl (by kernel_rfl) trivial ?_
            exact hj4 true
           ·let E9 : Env := ((63, .bool (decide (cS 0 x0_3 0 = 91))) :: (68, .bool (decide (cS 0 x0_3 0 = 91))) :: (63, .bool false) :: (63, .bool (decide (cS 0 x0_3 0 = 125))) :: (67, .bool (decide (cS 0 x0_3 0 = 125))) :: (63, .bool false) :: E8)
            refine oR 6 (p' := g34p42) (eE := E9) (H' := (mkH [⟨[.int .u8 (cS 0 x0_3 0), .int .u8 (cS 0 x0_3 1), .int .u8 (cS 0 x0_3 2)], 3, false⟩])) (by kernel_rfl) ?_
            refine oK [62, 63] (eE := [(62, .int .u8 (cS 0 x0_3 0)), (63, .bool (decide (cS 0 x0_3 0 = 91)))]) (by kernel_rfl) ?_
            refine oS 63 (b := decide (cS 0 x0_3 0 = 91)) (by kernel_rfl) (fun hb => ?_) (fun hb => ?_)
            ·refine oR 2 (p' := g34p25) (eE := [(63, .bool true), (62, .int .u8 (cS 0 x0_3 0)), (63, .bool (decide (cS 0 x0_3 0 = 91)))]) (H' := (mkH [⟨[.int .u8 (cS 0 x0_3 0), .int .u8 (cS 0 x0_3 1), .int .u8 (cS 0 x0_3 2)], 3, false⟩])) (by kernel_rfl) ?_
             refine oK [63] (eE := [(63, .bool true)]) (by kernel_rfl) ?_
             refine ok_cut [] [⟨[.int .u8 (cS 0 x0_3 0), .int .u8 (cS 0 x0_3 1), .int .u8 (cS 0 x0_3 2)], 3, false⟩] (by kernel_rfl) rfl (by kernel_rfl) trivial ?_
             exact hj4 true
            ·let E10 : Env := [(63, .bool (decide (cS 0 x0_3 0 = 93))), (69, .bool (decide (cS 0 x0_3 0 = 93))), (63, .bool false), (62, .int .u8 (cS 0 x0_3 0)), (63, .bool (decide (cS 0 x0_3 0 = 91)))]
             refine oR 6 (p' := g34p46) (eE := E10) (H' := (mkH [⟨[.int .u8 (cS 0 x0_3 0), .int .u8 (cS 0 x0_3 1), .int .u8 (cS 0 x0_3 2)], 3, false⟩])) (by kernel_rfl) ?_
             refine oS 63 (b := decide (cS 0 x0_3 0 = 93)) (by kernel_rfl) (fun hb => ?_) (fun hb => ?_)
             ·refine oR 2 (p' := g34p25) (eE := ((63, .bool true) :: E10)) (H' := (mkH [⟨[.int .u8 (cS 0 x0_3 0), .int .u8 (cS 0 x0_3 1), .int .u8 (cS 0 x0_3 2)], 3, false⟩])) (by kernel_rfl) ?_
              refine oK [63] (eE := [(63, .bool true)]) (by kernel_rfl) ?_
              refine ok_cut [] [⟨[.int .u8 (cS 0 x0_3 0), .int .u8 (cS 0 x0_3 1), .int .u8 (cS 0 x0_3 2)], 3, false⟩] (by kernel_rfl) rfl (by kernel_rfl) trivial ?_
              exact hj4 true
             ·refine oR 6 (p' := g34p50) (eE := ((63, .bool (decide (cS 0 x0_3 0 = 44))) :: (70, .bool (decide (cS 0 x0_3 0 = 44))) :: (63, .bool false) :: E10)) (H' := (mkH [⟨[.int .u8 (cS 0 x0_3 0), .int .u8 (cS 0 x0_3 1), .int .u8 (cS 0 x0_3 2)], 3, false⟩])) (by kernel_rfl) ?_
              refine oS 63 (b := decide (cS 0 x0_3 0 = 44)) (by kernel_rfl) (fun hb => ?_) (fun hb => ?_)
              ·refine oR 2 (p' := g34p25) (eE := ((63, .bool true) :: (63, .bool (decide (cS 0 x0_3 0 = 44))) :: (70, .bool (decide (cS 0 x0_3 0 = 44))) :: (63, .bool false) :: E10)) (H' := (mkH [⟨[.int .u8 (cS 0 x0_3 0), .int .u8 (cS 0 x0_3 1), .int .u8 (cS 0 x0_3 2)], 3, false⟩])) (by kernel_rfl) ?_
               refine oK [63] (eE := [(63, .bool true)]) (by kernel_rfl) ?_
               refine ok_cut [] [⟨[.int .u8 (cS 0 x0_3 0), .int .u8 (cS 0 x0_3 1), .int .u8 (cS 0 x0_3 2)], 3, false⟩] (by kernel_rfl) rfl (by kernel_rfl) trivial ?_
               exact hj4 true
              ·let E11 : Env := ((63, .bool (decide (cS 0 x0_3 0 = 59))) :: (71, .bool (decide (cS 0 x0_3 0 = 59))) :: (63, .bool false) :: (63, .bool (decide (cS 0 x0_3 0 = 44))) :: (70, .bool (decide (cS 0 x0_3 0 = 44))) :: (63, .bool false) :: E10)
               refine oR 6 (p' := g34p54) (eE := E11) (H' := (mkH [⟨[.int .u8 (cS 0 x0_3 0), .int .u8 (cS 0 x0_3 1), .int .u8 (cS 0 x0_3 2)], 3, false⟩])) (by kernel_rfl) ?_
               refine oK [62, 63] (eE := [(62, .int .u8 (cS 0 x0_3 0)), (63, .bool (decide (cS 0 x0_3 0 = 59)))]) (by kernel_rfl) ?_
               refine oS 63 (b := decide (cS 0 x0_3 0 = 59)) (by kernel_rfl) (fun hb => ?_) (fun hb => ?_)
               ·refine oR 2 (p' := g34p25) (eE := [(63, .bool true), (62, .int .u8 (cS 0 x0_3 0)), (63, .bool (decide (cS 0 x0_3 0 = 59)))]) (H' := (mkH [⟨[.int .u8 (cS 0 x0_3 0), .int .u8 (cS 0 x0_3 1), .int .u8 (cS 0 x0_3 2)], 3, false⟩])) (by kernel_rfl) ?_
                refine oK [63] (eE := [(63, .bool true)]) (by kernel_rfl) ?_
                refine ok_cut [] [⟨[.int .u8 (cS 0 x0_3 0), .int .u8 (cS 0 x0_3 1), .int .u8 (cS 0 x0_3 2)], 3, false⟩] (by kernel_rfl) rfl (by kernel_rfl) trivial ?_
                exact hj4 true
               ·let E12 : Env := [(63, .bool (decide (cS 0 x0_3 0 = 58))), (72, .bool (decide (cS 0 x0_3 0 = 58))), (63, .bool false), (62, .int .u8 (cS 0 x0_3 0)), (63, .bool (decide (cS 0 x0_3 0 = 59)))]
                refine oR 6 (p' := g34p58) (eE := E12) (H' := (mkH [⟨[.int .u8 (cS 0 x0_3 0), .int .u8 (cS 0 x0_3 1), .int .u8 (cS 0 x0_3 2)], 3, false⟩])) (by kernel_rfl) ?_
                refine oS 63 (b := decide (cS 0 x0_3 0 = 58)) (by kernel_rfl) (fun hb => ?_) (fun hb => ?_)
                ·refine oR 2 (p' := g34p25) (eE := ((63, .bool true) :: E12)) (H' := (mkH [⟨[.int .u8 (cS 0 x0_3 0), .int .u8 (cS 0 x0_3 1), .int .u8 (cS 0 x0_3 2)], 3, false⟩])) (by kernel_rfl) ?_
                 refine oK [63] (eE := [(63, .bool true)]) (by kernel_rfl) ?_
                 refine ok_cut [] [⟨[.int .u8 (cS 0 x0_3 0), .int .u8 (cS 0 x0_3 1), .int .u8 (cS 0 x0_3 2)], 3, false⟩] (by kernel_rfl) rfl (by kernel_rfl) trivial ?_
                 exact hj4 true
                ·refine oR 6 (p' := g34p62) (eE := ((63, .bool (decide (cS 0 x0_3 0 = 61))) :: (73, .bool (decide (cS 0 x0_3 0 = 61))) :: (63, .bool false) :: E12)) (H' := (mkH [⟨[.int .u8 (cS 0 x0_3 0), .int .u8 (cS 0 x0_3 1), .int .u8 (cS 0 x0_3 2)], 3, false⟩])) (by kernel_rfl) ?_
                 refine oS 63 (b := decide (cS 0 x0_3 0 = 61)) (by kernel_rfl) (fun hb => ?_) (fun hb => ?_)
                 ·refine oR 2 (p' := g34p25) (eE := ((63, .bool true) :: (63, .bool (decide (cS 0 x0_3 0 = 61))) :: (73, .bool (decide (cS 0 x0_3 0 = 61))) :: (63, .bool false) :: E12)) (H' := (mkH [⟨[.int .u8 (cS 0 x0_3 0), .int .u8 (cS 0 x0_3 1), .int .u8 (cS 0 x0_3 2)], 3, false⟩])) (by kernel_rfl) ?_
                  refine oK [63] (eE := [(63, .bool true)]) (by kernel_rfl) ?_
                  refine ok_cut [] [⟨[.int .u8 (cS 0 x0_3 0), .int .u8 (cS 0 x0_3 1), .int .u8 (cS 0 x0_3 2)], 3, false⟩] (by kernel_rfl) rfl (by kernel_rfl) trivial ?_
                  exact hj4 true
                 ·let E13 : Env := ((63, .bool (decide (cS 0 x0_3 0 = 124))) :: (74, .bool (decide (cS 0 x0_3 0 = 124))) :: (63, .bool false) :: (63, .bool (decide (cS 0 x0_3 0 = 61))) :: (73, .bool (decide (cS 0 x0_3 0 = 61))) :: (63, .bool false) :: E12)
                  refine oR 6 (p' := g34p66) (eE := E13) (H' := (mkH [⟨[.int .u8 (cS 0 x0_3 0), .int .u8 (cS 0 x0_3 1), .int .u8 (cS 0 x0_3 2)], 3, false⟩])) (by kernel_rfl) ?_
                  refine oK [62, 63] (eE := [(62, .int .u8 (cS 0 x0_3 0)), (63, .bool (decide (cS 0 x0_3 0 = 124)))]) (by kernel_rfl) ?_
                  refine oS 63 (b := decide (cS 0 x0_3 0 = 124)) (by kernel_rfl) (fun hb => ?_) (fun hb => ?_)
                  ·refine oR 2 (p' := g34p25) (eE := [(63, .bool true), (62, .int .u8 (cS 0 x0_3 0)), (63, .bool (decide (cS 0 x0_3 0 = 124)))]) (H' := (mkH [⟨[.int .u8 (cS 0 x0_3 0), .int .u8 (cS 0 x0_3 1), .int .u8 (cS 0 x0_3 2)], 3, false⟩])) (by kernel_rfl) ?_
                   refine oK [63] (eE := [(63, .bool true)]) (by kernel_rfl) ?_
                   refine ok_cut [] [⟨[.int .u8 (cS 0 x0_3 0), .int .u8 (cS 0 x0_3 1), .int .u8 (cS 0 x0_3 2)], 3, false⟩] (by kernel_rfl) rfl (by kernel_rfl) trivial ?_
                   exact hj4 true
                  ·let E14 : Env := [(63, .bool (decide (cS 0 x0_3 0 = 33))), (75, .bool (decide (cS 0 x0_3 0 = 33))), (63, .bool false), (62, .int .u8 (cS 0 x0_3 0)), (63, .bool (decide (cS 0 x0_3 0 = 124)))]
                   refine oR 6 (p' := g34p70) (eE := E14) (H' := (mkH [⟨[.int .u8 (cS 0 x0_3 0), .int .u8 (cS 0 x0_3 1), .int .u8 (cS 0 x0_3 2)], 3, false⟩])) (by kernel_rfl) ?_
                   refine oS 63 (b := decide (cS 0 x0_3 0 = 33)) (by kernel_rfl) (fun hb => ?_) (fun hb => ?_)
                   ·refine oR 2 (p' := g34p25) (eE := ((63, .bool true) :: E14)) (H' := (mkH [⟨[.int .u8 (cS 0 x0_3 0), .int .u8 (cS 0 x0_3 1), .int .u8 (cS 0 x0_3 2)], 3, false⟩])) (by kernel_rfl) ?_
                    refine oK [63] (eE := [(63, .bool true)]) (by kernel_rfl) ?_
                    refine ok_cut [] [⟨[.int .u8 (cS 0 x0_3 0), .int .u8 (cS 0 x0_3 1), .int .u8 (cS 0 x0_3 2)], 3, false⟩] (by kernel_rfl) rfl (by kernel_rfl) trivial ?_
                    exact hj4 true
                   ·refine oR 6 (p' := g34p74) (eE := ((63, .bool (decide (cS 0 x0_3 0 = 35))) :: (76, .bool (decide (cS 0 x0_3 0 = 35))) :: (63, .bool false) :: E14)) (H' := (mkH [⟨[.int .u8 (cS 0 x0_3 0), .int .u8 (cS 0 x0_3 1), .int .u8 (cS 0 x0_3 2)], 3, false⟩])) (by kernel_rfl) ?_
                    refine oS 63 (b := decide (cS 0 x0_3 0 = 35)) (by kernel_rfl) (fun hb => ?_) (fun hb => ?_)
                    ·refine oR 2 (p' := g34p25) (eE := ((63, .bool true) :: (63, .bool (decide (cS 0 x0_3 0 = 35))) :: (76, .bool (decide (cS 0 x0_3 0 = 35))) :: (63, .bool false) :: E14)) (H' := (mkH [⟨[.int .u8 (cS 0 x0_3 0), .int .u8 (cS 0 x0_3 1), .int .u8 (cS 0 x0_3 2)], 3, false⟩])) (by kernel_rfl) ?_
                     refine oK [63] (eE := [(63, .bool true)]) (by kernel_rfl) ?_
                     refine ok_cut [] [⟨[.int .u8 (cS 0 x0_3 0), .int .u8 (cS 0 x0_3 1), .int .u8 (cS 0 x0_3 2)], 3, false⟩] (by kernel_rfl) rfl (by kernel_rfl) trivial ?_
                     exact hj4 true
                    ·let E15 : Env := ((63, .bool (decide (cS 0 x0_3 0 = 43))) :: (77, .bool (decide (cS 0 x0_3 0 = 43))) :: (63, .bool false) :: (63, .bool (decide (cS 0 x0_3 0 = 35))) :: (76, .bool (decide (cS 0 x0_3 0 = 35))) :: (63, .bool false) :: E14)
                     refine oR 6 (p' := g34p76) (eE := E15) (H' := (mkH [⟨[.int .u8 (cS 0 x0_3 0), .int .u8 (cS 0 x0_3 1), .int .u8 (cS 0 x0_3 2)], 3, false⟩])) (by kernel_rfl) ?_
                     refine oK [62, 63] (eE := [(62, .int .u8 (cS 0 x0_3 0)), (63, .bool (decide (cS 0 x0_3 0 = 43)))]) (by kernel_rfl) ?_
                     refine oS 63 (b := decide (cS 0 x0_3 0 = 43)) (by kernel_rfl) (fun hb => ?_) (fun hb => ?_)
                     ·refine oR 2 (p' := g34p25) (eE := [(63, .bool true), (62, .int .u8 (cS 0 x0_3 0)), (63, .bool (decide (cS 0 x0_3 0 = 43)))]) (H' := (mkH [⟨[.int .u8 (cS 0 x0_3 0), .int .u8 (cS 0 x0_3 1), .int .u8 (cS 0 x0_3 2)], 3, false⟩])) (by kernel_rfl) ?_
                      refine oK [63] (eE := [(63, .bool true)]) (by kernel_rfl) ?_
                      refine ok_cut [] [⟨[.int .u8 (cS 0 x0_3 0), .int .u8 (cS 0 x0_3 1), .int .u8 (cS 0 x0_3 2)], 3, false⟩] (by kernel_rfl) rfl (by kernel_rfl) trivial ?_
                      exact hj4 true
                     ·let E16 : Env := [(63, .bool (decide (cS 0 x0_3 0 = 45))), (78, .bool (decide (cS 0 x0_3 0 = 45))), (63, .bool false), (62, .int .u8 (cS 0 x0_3 0)), (63, .bool (decide (cS 0 x0_3 0 = 43)))]
                      refine oR 6 (p' := g34p78) (eE := E16) (H' := (mkH [⟨[.int .u8 (cS 0 x0_3 0), .int .u8 (cS 0 x0_3 1), .int .u8 (cS 0 x0_3 2)], 3, false⟩])) (by kernel_rfl) ?_
                      refine oS 63 (b := decide (cS 0 x0_3 0 = 45)) (by kernel_rfl) (fun hb => ?_) (fun hb => ?_)
                      ·refine oR 2 (p' := g34p25) (eE := ((63, .bool true) :: E16)) (H' := (mkH [⟨[.int .u8 (cS 0 x0_3 0), .int .u8 (cS 0 x0_3 1), .int .u8 (cS 0 x0_3 2)], 3, false⟩])) (by kernel_rfl) ?_
                       refine oK [63] (eE := [(63, .bool true)]) (by kernel_rfl) ?_
                       refine ok_cut [] [⟨[.int .u8 (cS 0 x0_3 0), .int .u8 (cS 0 x0_3 1), .int .u8 (cS 0 x0_3 2)], 3, false⟩] (by kernel_rfl) rfl (by kernel_rfl) trivial ?_
                       exact hj4 true
                      ·refine oR 6 (p' := g34p80) (eE := ((63, .bool (decide (cS 0 x0_3 0 = 42))) :: (79, .bool (decide (cS 0 x0_3 0 = 42))) :: (63, .bool false) :: E16)) (H' := (mkH [⟨[.int .u8 (cS 0 x0_3 0), .int .u8 (cS 0 x0_3 1), .int .u8 (cS 0 x0_3 2)], 3, false⟩])) (by kernel_rfl) ?_
                       refine oS 63 (b := decide (cS 0 x0_3 0 = 42)) (by kernel_rfl) (fun hb => ?_) (fun hb => ?_)
                       ·refine oR 2 (p' := g34p25) (eE := ((63, .bool true) :: (63, .bool (decide (cS 0 x0_3 0 = 42))) :: (79, .bool (decide (cS 0 x0_3 0 = 42))) :: (63, .bool false) :: E16)) (H' := (mkH [⟨[.int .u8 (cS 0 x0_3 0), .int .u8 (cS 0 x0_3 1), .int .u8 (cS 0 x0_3 2)], 3, false⟩])) (by kernel_rfl) ?_
                        refine oK [63] (eE := [(63, .bool true)]) (by kernel_rfl) ?_
                        refine ok_cut [] [⟨[.int .u8 (cS 0 x0_3 0), .int .u8 (cS 0 x0_3 1), .int .u8 (cS 0 x0_3 2)], 3, false⟩] (by kernel_rfl) rfl (by kernel_rfl) trivial ?_
                        exact hj4 true
                       ·let E17 : Env := ((63, .bool (decide (cS 0 x0_3 0 = 47))) :: (80, .bool (decide (cS 0 x0_3 0 = 47))) :: (63, .bool false) :: (63, .bool (decide (cS 0 x0_3 0 = 42))) :: (79, .bool (decide (cS 0 x0_3 0 = 42))) :: (63, .bool false) :: E16)
                        refine oR 6 (p' := g34p82) (eE := E17) (H' := (mkH [⟨[.int .u8 (cS 0 x0_3 0), .int .u8 (cS 0 x0_3 1), .int .u8 (cS 0 x0_3 2)], 3, false⟩])) (by kernel_rfl) ?_
                        refine oK [62, 63] (eE := [(62, .int .u8 (cS 0 x0_3 0)), (63, .bool (decide (cS 0 x0_3 0 = 47)))]) (by kernel_rfl) ?_
                        refine oS 63 (b := decide (cS 0 x0_3 0 = 47)) (by kernel_rfl) (fun hb => ?_) (fun hb => ?_)
                        ·refine oR 2 (p' := g34p25) (eE := [(63, .bool true), (62, .int .u8 (cS 0 x0_3 0)), (63, .bool (decide (cS 0 x0_3 0 = 47)))]) (H' := (mkH [⟨[.int .u8 (cS 0 x0_3 0), .int .u8 (cS 0 x0_3 1), .int .u8 (cS 0 x0_3 2)], 3, false⟩])) (by kernel_rfl) ?_
                         refine oK [63] (eE := [(63, .bool true)]) (by kernel_rfl) ?_
                         refine ok_cut [] [⟨[.int .u8 (cS 0 x0_3 0), .int .u8 (cS 0 x0_3 1), .int .u8 (cS 0 x0_3 2)], 3, false⟩] (by kernel_rfl) rfl (by kernel_rfl) trivial ?_
                         exact hj4 true
                        ·let E18 : Env := [(63, .bool (decide (cS 0 x0_3 0 = 60))), (81, .bool (decide (cS 0 x0_3 0 = 60))), (63, .bool false), (62, .int .u8 (cS 0 x0_3 0)), (63, .bool (decide (cS 0 x0_3 0 = 47)))]
                         refine oR 6 (p' := g34p84) (eE := E18) (H' := (mkH [⟨[.int .u8 (cS 0 x0_3 0), .int .u8 (cS 0 x0_3 1), .int .u8 (cS 0 x0_3 2)], 3, false⟩])) (by kernel_rfl) ?_
                         refine oS 63 (b := decide (cS 0 x0_3 0 = 60)) (by kernel_rfl) (fun hb => ?_) (fun hb => ?_)
                         ·refine oR 2 (p' := g34p25) (eE := ((63, .bool true) :: E18)) (H' := (mkH [⟨[.int .u8 (cS 0 x0_3 0), .int .u8 (cS 0 x0_3 1), .int .u8 (cS 0 x0_3 2)], 3, false⟩])) (by kernel_rfl) ?_
                          refine oK [63] (eE := [(63, .bool true)]) (by kernel_rfl) ?_
                          refine ok_cut [] [⟨[.int .u8 (cS 0 x0_3 0), .int .u8 (cS 0 x0_3 1), .int .u8 (cS 0 x0_3 2)], 3, false⟩] (by kernel_rfl) rfl (by kernel_rfl) trivial ?_
                          exact hj4 true
                         ·refine oR 6 (p' := g34p86) (eE := ((63, .bool (decide (cS 0 x0_3 0 = 62))) :: (82, .bool (decide (cS 0 x0_3 0 = 62))) :: (63, .bool false) :: E18)) (H' := (mkH [⟨[.int .u8 (cS 0 x0_3 0), .int .u8 (cS 0 x0_3 1), .int .u8 (cS 0 x0_3 2)], 3, false⟩])) (by kernel_rfl) ?_
                          refine oS 63 (b := decide (cS 0 x0_3 0 = 62)) (by kernel_rfl) (fun hb => ?_) (fun hb => ?_)
                          ·refine oR 2 (p' := g34p25) (eE := ((63, .bool true) :: (63, .bool (decide (cS 0 x0_3 0 = 62))) :: (82, .bool (decide (cS 0 x0_3 0 = 62))) :: (63, .bool false) :: E18)) (H' := (mkH [⟨[.int .u8 (cS 0 x0_3 0), .int .u8 (cS 0 x0_3 1), .int .u8 (cS 0 x0_3 2)], 3, false⟩])) (by kernel_rfl) ?_
                           refine oK [63] (eE := [(63, .bool true)]) (by kernel_rfl) ?_
                           refine ok_cut [] [⟨[.int .u8 (cS 0 x0_3 0), .int .u8 (cS 0 x0_3 1), .int .u8 (cS 0 x0_3 2)], 3, false⟩] (by kernel_rfl) rfl (by kernel_rfl) trivial ?_
                           exact hj4 true
                          ·let E19 : Env := ((63, .bool (decide (cS 0 x0_3 0 = 46))) :: (83, .bool (decide (cS 0 x0_3 0 = 46))) :: (63, .bool false) :: (63, .bool (decide (cS 0 x0_3 0 = 62))) :: (82, .bool (decide (cS 0 x0_3 0 = 62))) :: (63, .bool false) :: E18)
                           refine oR 5 (p' := g34p25) (eE := E19) (H' := (mkH [⟨[.int .u8 (cS 0 x0_3 0), .int .u8 (cS 0 x0_3 1), .int .u8 (cS 0 x0_3 2)], 3, false⟩])) (by kernel_rfl) ?_
                           refine oK [63] (eE := [(63, .bool (decide (cS 0 x0_3 0 = 46)))]) (by kernel_rfl) ?_
                           refine ok_cut [] [⟨[.int .u8 (cS 0 x0_3 0), .int .u8 (cS 0 x0_3 1), .int .u8 (cS 0 x0_3 2)], 3, false⟩] (by kernel_rfl) rfl (by kernel_rfl) trivial ?_
                           exact hj4 (decide (cS 0 x0_3 0 = 46))
     ·refine oS 30 (b := ((decide (cS 0 x0_3 0 = 60)) && ((decide (cS 0 x0_3 1 = 60)) && true))) (by kernel_rfl) (fun hb => ?_) (fun hb => ?_)
      ·refine oR 2 (p' := g34p16) (eE := [(30, .bool true), (5, .ptr 0 3 0), (29, .agg [.int .u8 (cS 0 x0_3 0), .int .u8 (cS 0 x0_3 1)]), (30, .bool ((decide (cS 0 x0_3 0 = 60)) && ((decide (cS 0 x0_3 1 = 60)) && true)))]) (H' := (mkH [⟨[.int .u8 (cS 0 x0_3 0), .int .u8 (cS 0 x0_3 1), .int .u8 (cS 0 x0_3 2)], 3, false⟩])) (by kernel_rfl) ?_
       refine oK [5, 30] (eE := [(5, .ptr 0 3 0), (30, .bool true)]) (by kernel_rfl) ?_
       exact hj3 true
      ·let E20 : Env := [(30, .bool ((decide (cS 0 x0_3 0 = 62)) && ((decide (cS 0 x0_3 1 = 62)) && true))), (34, .bool ((decide (cS 0 x0_3 0 = 62)) && ((decide (cS 0 x0_3 1 = 62)) && true))), (33, .agg [.int .u8 62, .int .u8 62]), (30, .bool false), (5, .ptr 0 3 0), (29, .agg [.int .u8 (cS 0 x0_3 0), .int .u8 (cS 0 x0_3 1)]), (30, .bool ((decide (cS 0 x0_3 0 = 60)) && ((decide (cS 0 x0_3 1 = 60)) && true)))]
       refine oR 7 (p' := g34p20) (eE := E20) (H' := (mkH [⟨[.int .u8 (cS 0 x0_3 0), .int .u8 (cS 0 x0_3 1), .int .u8 (cS 0 x0_3 2)], 3, false⟩])) (by kernel_rfl) ?_
       refine oS 30 (b := ((decide (cS 0 x0_3 0 = 62)) && ((decide (cS 0 x0_3 1 = 62)) && true))) (by kernel_rfl) (fun hb => ?_) (fun hb => ?_)
       ·refine oR 2 (p' := g34p16) (eE := ((30, .bool true) :: E20)) (H' := (mkH [⟨[.int .u8 (cS 0 x0_3 0), .int .u8 (cS 0 x0_3 1), .int .u8 (cS 0 x0_3 2)], 3, false⟩])) (by kernel_rfl) ?_
        refine oK [5, 30] (eE := [(5, .ptr 0 3 0), (30, .bool true)]) (by kernel_rfl) ?_
        exact hj3 true
       ·refine oR 7 (p' := g34p24) (eE := ((30, .bool ((decide (cS 0 x0_3 0 = 45)) && ((decide (cS 0 x0_3 1 = 62)) && true))) :: (36, .bool ((decide (cS 0 x0_3 0 = 45)) && ((decide (cS 0 x0_3 1 = 62)) && true))) :: (35, .agg [.int .u8 45, .int .u8 62]) :: (30, .bool false) :: E20)) (H' := (mkH [⟨[.int .u8 (cS 0 x0_3 0), .int .u8 (cS 0 x0_3 1), .int .u8 (cS 0 x0_3 2)], 3, false⟩])) (by kernel_rfl) ?_
        refine oK [5, 29, 30] (eE := [(5, .ptr 0 3 0), (29, .agg [.int .u8 (cS 0 x0_3 0), .int .u8 (cS 0 x0_3 1)]), (30, .bool ((decide (cS 0 x0_3 0 = 45)) && ((decide (cS 0 x0_3 1 = 62)) && true)))]) (by kernel_rfl) ?_
        refine oS 30 (b := ((decide (cS 0 x0_3 0 = 45)) && ((decide (cS 0 x0_3 1 = 62)) && true))) (by kernel_rfl) (fun hb => ?_) (fun hb => ?_)
        ·refine oR 2 (p' := g34p16) (eE := [(30, .bool true), (5, .ptr 0 3 0), (29, .agg [.int .u8 (cS 0 x0_3 0), .int .u8 (cS 0 x0_3 1)]), (30, .bool ((decide (cS 0 x0_3 0 = 45)) && ((decide (cS 0 x0_3 1 = 62)) && true)))]) (H' := (mkH [⟨[.int .u8 (cS 0 x0_3 0), .int .u8 (cS 0 x0_3 1), .int .u8 (cS 0 x0_3 2)], 3, false⟩])) (by kernel_rfl) ?_
         refine oK [5, 30] (eE := [(5, .ptr 0 3 0), (30, .bool true)]) (by kernel_rfl) ?_
         exact hj3 true
        ·let E21 : Env := [(30, .bool ((decide (cS 0 x0_3 0 = 60)) && ((decide (cS 0 x0_3 1 = 45)) && true))), (38, .bool ((decide (cS 0 x0_3 0 = 60)) && ((decide (cS 0 x0_3 1 = 45)) && true))), (37, .agg [.int .u8 60, .int .u8 45]), (30, .bool false), (5, .ptr 0 3 0), (29, .agg [.int .u8 (cS 0 x0_3 0), .int .u8 (cS 0 x0_3 1)]), (30, .bool ((decide (cS 0 x0_3 0 = 45)) && ((decide (cS 0 x0_3 1 = 62)) && true)))]
         refine oR 7 (p' := g34p31) (eE := E21) (H' := (mkH [⟨[.int .u8 (cS 0 x0_3 0), .int .u8 (cS 0 x0_3 1), .int .u8 (cS 0 x0_3 2)], 3, false⟩])) (by kernel_rfl) ?_
         refine oS 30 (b := ((decide (cS 0 x0_3 0 = 60)) && ((decide (cS 0 x0_3 1 = 45)) && true))) (by kernel_rfl) (fun hb => ?_) (fun hb => ?_)
         ·refine oR 2 (p' := g34p16) (eE := ((30, .bool true) :: E21)) (H' := (mkH [⟨[.int .u8 (cS 0 x0_3 0), .int .u8 (cS 0 x0_3 1), .int .u8 (cS 0 x0_3 2)], 3, false⟩])) (by kernel_rfl) ?_
          refine oK [5, 30] (eE := [(5, .ptr 0 3 0), (30, .bool true)]) (by kernel_rfl) ?_
          exact hj3 true
         ·refine oR 7 (p' := g34p35) (eE := ((30, .bool ((decide (cS 0 x0_3 0 = 60)) && ((decide (cS 0 x0_3 1 = 61)) && true))) :: (40, .bool ((decide (cS 0 x0_3 0 = 60)) && ((decide (cS 0 x0_3 1 = 61)) && true))) :: (39, .agg [.int .u8 60, .int .u8 61]) :: (30, .bool false) :: E21)) (H' := (mkH [⟨[.int .u8 (cS 0 x0_3 0), .int .u8 (cS 0 x0_3 1), .int .u8 (cS 0 x0_3 2)], 3, false⟩])) (by kernel_rfl) ?_
          refine oK [5, 29, 30] (eE := [(5, .ptr 0 3 0), (29, .agg [.int .u8 (cS 0 x0_3 0), .int .u8 (cS 0 x0_3 1)]), (30, .bool ((decide (cS 0 x0_3 0 = 60)) && ((decide (cS 0 x0_3 1 = 61)) && true)))]) (by kernel_rfl) ?_
          refine oS 30 (b := ((decide (cS 0 x0_3 0 = 60)) && ((decide (cS 0 x0_3 1 = 61)) && true))) (by kernel_rfl) (fun hb => ?_) (fun hb => ?_)
          ·refine oR 2 (p' := g34p16) (eE := [(30, .bool true), (5, .ptr 0 3 0), (29, .agg [.int .u8 (cS 0 x0_3 0), .int .u8 (cS 0 x0_3 1)]), (30, .bool ((decide (cS 0 x0_3 0 = 60)) && ((decide (cS 0 x0_3 1 = 61)) && true)))]) (H' := (mkH [⟨[.int .u8 (cS 0 x0_3 0), .int .u8 (cS 0 x0_3 1), .int .u8 (cS 0 x0_3 2)], 3, false⟩])) (by kernel_rfl) ?_
           refine oK [5, 30] (eE := [(5, .ptr 0 3 0), (30, .bool true)]) (by kernel_rfl) ?_
           exact hj3 true
          ·let E22 : Env := [(30, .bool ((decide (cS 0 x0_3 0 = 61)) && ((decide (cS 0 x0_3 1 = 62)) && true))), (42, .bool ((decide (cS 0 x0_3 0 = 61)) && ((decide (cS 0 x0_3 1 = 62)) && true))), (41, .agg [.int .u8 61, .int .u8 62]), (30, .bool false), (5, .ptr 0 3 0), (29, .agg [.int .u8 (cS 0 x0_3 0), .int .u8 (cS 0 x0_3 1)]), (30, .bool ((decide (cS 0 x0_3 0 = 60)) && ((decide (cS 0 x0_3 1 = 61)) && true)))]
           refine oR 7 (p' := g34p39) (eE := E22) (H' := (mkH [⟨[.int .u8 (cS 0 x0_3 0), .int .u8 (cS 0 x0_3 1), .int .u8 (cS 0 x0_3 2)], 3, false⟩])) (by kernel_rfl) ?_
           refine oS 30 (b := ((decide (cS 0 x0_3 0 = 61)) && ((decide (cS 0 x0_3 1 = 62)) && true))) (by kernel_rfl) (fun hb => ?_) (fun hb => ?_)
           ·refine oR 2 (p' := g34p16) (eE := ((30, .bool true) :: E22)) (H' := (mkH [⟨[.int .u8 (cS 0 x0_3 0), .int .u8 (cS 0 x0_3 1), .int .u8 (cS 0 x0_3 2)], 3, false⟩])) (by kernel_rfl) ?_
            refine oK [5, 30] (eE := [(5, .ptr 0 3 0), (30, .bool true)]) (by kernel_rfl) ?_
            exact hj3 true
           ·refine oR 7 (p' := g34p43) (eE := ((30, .bool ((decide (cS 0 x0_3 0 = 58)) && ((decide (cS 0 x0_3 1 = 61)) && true))) :: (44, .bool ((decide (cS 0 x0_3 0 = 58)) && ((decide (cS 0 x0_3 1 = 61)) && true))) :: (43, .agg [.int .u8 58, .int .u8 61]) :: (30, .bool false) :: E22)) (H' := (mkH [⟨[.int .u8 (cS 0 x0_3 0), .int .u8 (cS 0 x0_3 1), .int .u8 (cS 0 x0_3 2)], 3, false⟩])) (by kernel_rfl) ?_
            refine oK [5, 29, 30] (eE := [(5, .ptr 0 3 0), (29, .agg [.int .u8 (cS 0 x0_3 0), .int .u8 (cS 0 x0_3 1)]), (30, .bool ((decide (cS 0 x0_3 0 = 58)) && ((decide (cS 0 x0_3 1 = 61)) && true)))]) (by kernel_rfl) ?_
            refine oS 30 (b := ((decide (cS 0 x0_3 0 = 58)) && ((decide (cS 0 x0_3 1 = 61)) && true))) (by kernel_rfl) (fun hb => ?_) (fun hb => ?_)
            ·refine oR 2 (p' := g34p16) (eE := [(30, .bool true), (5, .ptr 0 3 0), (29, .agg [.int .u8 (cS 0 x0_3 0), .int .u8 (cS 0 x0_3 1)]), (30, .bool ((decide (cS 0 x0_3 0 = 58)) && ((decide (cS 0 x0_3 1 = 61)) && true)))]) (H' := (mkH [⟨[.int .u8 (cS 0 x0_3 0), .int .u8 (cS 0 x0_3 1), .int .u8 (cS 0 x0_3 2)], 3, false⟩])) (by kernel_rfl) ?_
             refine oK [5, 30] (eE := [(5, .ptr 0 3 0), (30, .bool true)]) (by kernel_rfl) ?_
             exact hj3 true
            ·let E23 : Env := [(30, .bool ((decide (cS 0 x0_3 0 = 58)) && ((decide (cS 0 x0_3 1 = 58)) && true))), (46, .bool ((decide (cS 0 x0_3 0 = 58)) && ((decide (cS 0 x0_3 1 = 58)) && true))), (45, .agg [.int .u8 58, .int .u8 58]), (30, .bool false), (5, .ptr 0 3 0), (29, .agg [.int .u8 (cS 0 x0_3 0), .int .u8 (cS 0 x0_3 1)]), (30, .bool ((decide (cS 0 x0_3 0 = 58)) && ((decide (cS 0 x0_3 1 = 61)) && true)))]
             refine oR 7 (p' := g34p47) (eE := E23) (H' := (mkH [⟨[.int .u8 (cS 0 x0_3 0), .int .u8 (cS 0 x0_3 1), .int .u8 (cS 0 x0_3 2)], 3, false⟩])) (by kernel_rfl) ?_
             refine oS 30 (b := ((decide (cS 0 x0_3 0 = 58)) && ((decide (cS 0 x0_3 1 = 58)) && true))) (by kernel_rfl) (fun hb => ?_) (fun hb => ?_)
             ·refine oR 2 (p' := g34p16) (eE := ((30, .bool true) :: E23)) (H' := (mkH [⟨[.int .u8 (cS 0 x0_3 0), .int .u8 (cS 0 x0_3 1), .int .u8 (cS 0 x0_3 2)], 3, false⟩])) (by kernel_rfl) ?_
              refine oK [5, 30] (eE := [(5, .ptr 0 3 0), (30, .bool true)]) (by kernel_rfl) ?_
              exact hj3 true
             ·refine oR 7 (p' := g34p51) (eE := ((30, .bool ((decide (cS 0 x0_3 0 = 61)) && ((decide (cS 0 x0_3 1 = 61)) && true))) :: (48, .bool ((decide (cS 0 x0_3 0 = 61)) && ((decide (cS 0 x0_3 1 = 61)) && true))) :: (47, .agg [.int .u8 61, .int .u8 61]) :: (30, .bool false) :: E23)) (H' := (mkH [⟨[.int .u8 (cS 0 x0_3 0), .int .u8 (cS 0 x0_3 1), .int .u8 (cS 0 x0_3 2)], 3, false⟩])) (by kernel_rfl) ?_
              refine oK [5, 29, 30] (eE := [(5, .ptr 0 3 0), (29, .agg [.int .u8 (cS 0 x0_3 0), .int .u8 (cS 0 x0_3 1)]), (30, .bool ((decide (cS 0 x0_3 0 = 61)) && ((decide (cS 0 x0_3 1 = 61)) && true)))]) (by kernel_rfl) ?_
              refine oS 30 (b := ((decide (cS 0 x0_3 0 = 61)) && ((decide (cS 0 x0_3 1 = 61)) && true))) (by kernel_rfl) (fun hb => ?_) (fun hb => ?_)
              ·refine oR 2 (p' := g34p16) (eE := [(30, .bool true), (5, .ptr 0 3 0), (29, .agg [.int .u8 (cS 0 x0_3 0), .int .u8 (cS 0 x0_3 1)]), (30, .bool ((decide (cS 0 x0_3 0 = 61)) && ((decide (cS 0 x0_3 1 = 61)) && true)))]) (H' := (mkH [⟨[.int .u8 (cS 0 x0_3 0), .int .u8 (cS 0 x0_3 1), .int .u8 (cS 0 x0_3 2)], 3, false⟩])) (by kernel_rfl) ?_
               refine oK [5, 30] (eE := [(5, .ptr 0 3 0), (30, .bool true)]) (by kernel_rfl) ?_
               exact hj3 true
              ·let E24 : Env := [(30, .bool ((decide (cS 0 x0_3 0 = 47)) && ((decide (cS 0 x0_3 1 = 61)) && true))), (50, .bool ((decide (cS 0 x0_3 0 = 47)) && ((decide (cS 0 x0_3 1 = 61)) && true))), (49, .agg [.int .u8 47, .int .u8 61]), (30, .bool false), (5, .ptr 0 3 0), (29, .agg [.int .u8 (cS 0 x0_3 0), .int .u8 (cS 0 x0_3 1)]), (30, .bool ((decide (cS 0 x0_3 0 = 61)) && ((decide (cS 0 x0_3 1 = 61)) && true)))]
               refine oR 7 (p' := g34p55) (eE := E24) (H' := (mkH [⟨[.int .u8 (cS 0 x0_3 0), .int .u8 (cS 0 x0_3 1), .int .u8 (cS 0 x0_3 2)], 3, false⟩])) (by kernel_rfl) ?_
               refine oS 30 (b := ((decide (cS 0 x0_3 0 = 47)) && ((decide (cS 0 x0_3 1 = 61)) && true))) (by kernel_rfl) (fun hb => ?_) (fun hb => ?_)
               ·refine oR 2 (p' := g34p16) (eE := ((30, .bool true) :: E24)) (H' := (mkH [⟨[.int .u8 (cS 0 x0_3 0), .int .u8 (cS 0 x0_3 1), .int .u8 (cS 0 x0_3 2)], 3, false⟩])) (by kernel_rfl) ?_
                refine oK [5, 30] (eE := [(5, .ptr 0 3 0), (30, .bool true)]) (by kernel_rfl) ?_
                exact hj3 true
               ·refine oR 7 (p' := g34p59) (eE := ((30, .bool ((decide (cS 0 x0_3 0 = 61)) && ((decide (cS 0 x0_3 1 = 60)) && true))) :: (52, .bool ((decide (cS 0 x0_3 0 = 61)) && ((decide (cS 0 x0_3 1 = 60)) && true))) :: (51, .agg [.int .u8 61, .int .u8 60]) :: (30, .bool false) :: E24)) (H' := (mkH [⟨[.int .u8 (cS 0 x0_3 0), .int .u8 (cS 0 x0_3 1), .int .u8 (cS 0 x0_3 2)], 3, false⟩])) (by kernel_rfl) ?_
                refine oK [5, 29, 30] (eE := [(5, .ptr 0 3 0), (29, .agg [.int .u8 (cS 0 x0_3 0), .int .u8 (cS 0 x0_3 1)]), (30, .bool ((decide (cS 0 x0_3 0 = 61)) && ((decide (cS 0 x0_3 1 = 60)) && true)))]) (by kernel_rfl) ?_
                refine oS 30 (b := ((decide (cS 0 x0_3 0 = 61)) && ((decide (cS 0 x0_3 1 = 60)) && true))) (by kernel_rfl) (fun hb => ?_) (fun hb => ?_)
                ·refine oR 2 (p' := g34p16) (eE := [(30, .bool true), (5, .ptr 0 3 0), (29, .agg [.int .u8 (cS 0 x0_3 0), .int .u8 (cS 0 x0_3 1)]), (30, .bool ((decide (cS 0 x0_3 0 = 61)) && ((decide (cS 0 x0_3 1 = 60)) && true)))]) (H' := (mkH [⟨[.int .u8 (cS 0 x0_3 0), .int .u8 (cS 0 x0_3 1), .int .u8 (cS 0 x0_3 2)], 3, false⟩])) (by kernel_rfl) ?_
                 refine oK [5, 30] (eE := [(5, .ptr 0 3 0), (30, .bool true)]) (by kernel_rfl) ?_
                 exact hj3 true
                ·let E25 : Env := [(30, .bool ((decide (cS 0 x0_3 0 = 62)) && ((decide (cS 0 x0_3 1 = 61)) && true))), (54, .bool ((decide (cS 0 x0_3 0 = 62)) && ((decide (cS 0 x0_3 1 = 61)) && true))), (53, .agg [.int .u8 62, .int .u8 61]), (30, .bool false), (5, .ptr 0 3 0), (29, .agg [.int .u8 (cS 0 x0_3 0), .int .u8 (cS 0 x0_3 1)]), (30, .bool ((decide (cS 0 x0_3 0 = 61)) && ((decide (cS 0 x0_3 1 = 60)) && true)))]
                 refine oR 7 (p' := g34p63) (eE := E25) (H' := (mkH [⟨[.int .u8 (cS 0 x0_3 0), .int .u8 (cS 0 x0_3 1), .int .u8 (cS 0 x0_3 2)], 3, false⟩])) (by kernel_rfl) ?_
                 refine oS 30 (b := ((decide (cS 0 x0_3 0 = 62)) && ((decide (cS 0 x0_3 1 = 61)) && true))) (by kernel_rfl) (fun hb => ?_) (fun hb => ?_)
                 ·refine oR 2 (p' := g34p16) (eE := ((30, .bool true) :: E25)) (H' := (mkH [⟨[.int .u8 (cS 0 x0_3 0), .int .u8 (cS 0 x0_3 1), .int .u8 (cS 0 x0_3 2)], 3, false⟩])) (by kernel_rfl) ?_
                  refine oK [5, 30] (eE := [(5, .ptr 0 3 0), (30, .bool true)]) (by kernel_rfl) ?_
                  exact hj3 true
                 ·refine oR 7 (p' := g34p67) (eE := ((30, .bool ((decide (cS 0 x0_3 0 = 124)) && ((decide (cS 0 x0_3 1 = 124)) && true))) :: (56, .bool ((decide (cS 0 x0_3 0 = 124)) && ((decide (cS 0 x0_3 1 = 124)) && true))) :: (55, .agg [.int .u8 124, .int .u8 124]) :: (30, .bool false) :: E25)) (H' := (mkH [⟨[.int .u8 (cS 0 x0_3 0), .int .u8 (cS 0 x0_3 1), .int .u8 (cS 0 x0_3 2)], 3, false⟩])) (by kernel_rfl) ?_
                  refine oK [5, 29, 30] (eE := [(5, .ptr 0 3 0), (29, .agg [.int .u8 (cS 0 x0_3 0), .int .u8 (cS 0 x0_3 1)]), (30, .bool ((decide (cS 0 x0_3 0 = 124)) && ((decide (cS 0 x0_3 1 = 124)) && true)))]) (by kernel_rfl) ?_
                  refine oS 30 (b := ((decide (cS 0 x0_3 0 = 124)) && ((decide (cS 0 x0_3 1 = 124)) && true))) (by kernel_rfl) (fun hb => ?_) (fun hb => ?_)
                  ·refine oR 2 (p' := g34p16) (eE := [(30, .bool true), (5, .ptr 0 3 0), (29, .agg [.int .u8 (cS 0 x0_3 0), .int .u8 (cS 0 x0_3 1)]), (30, .bool ((decide (cS 0 x0_3 0 = 124)) && ((decide (cS 0 x0_3 1 = 124)) && true)))]) (H' := (mkH [⟨[.int .u8 (cS 0 x0_3 0), .int .u8 (cS 0 x0_3 1), .int .u8 (cS 0 x0_3 2)], 3, false⟩])) (by kernel_rfl) ?_
                   refine oK [5, 30] (eE := [(5, .ptr 0 3 0), (30, .bool true)]) (by kernel_rfl) ?_
                   exact hj3 true
                  ·let E26 : Env := [(30, .bool ((decide (cS 0 x0_3 0 = 43)) && ((decide (cS 0 x0_3 1 = 43)) && true))), (58, .bool ((decide (cS 0 x0_3 0 = 43)) && ((decide (cS 0 x0_3 1 = 43)) && true))), (57, .agg [.int .u8 43, .int .u8 43]), (30, .bool false), (5, .ptr 0 3 0), (29, .agg [.int .u8 (cS 0 x0_3 0), .int .u8 (cS 0 x0_3 1)]), (30, .bool ((decide (cS 0 x0_3 0 = 124)) && ((decide (cS 0 x0_3 1 = 124)) && true)))]
                   refine oR 7 (p' := g34p71) (eE := E26) (H' := (mkH [⟨[.int .u8 (cS 0 x0_3 0), .int .u8 (cS 0 x0_3 1), .int .u8 (cS 0 x0_3 2)], 3, false⟩])) (by kernel_rfl) ?_
                   refine oS 30 (b := ((decide (cS 0 x0_3 0 = 43)) && ((decide (cS 0 x0_3 1 = 43)) && true))) (by kernel_rfl) (fun hb => ?_) (fun hb => ?_)
                   ·refine oR 2 (p' := g34p16) (eE := ((30, .bool true) :: E26)) (H' := (mkH [⟨[.int .u8 (cS 0 x0_3 0), .int .u8 (cS 0 x0_3 1), .int .u8 (cS 0 x0_3 2)], 3, false⟩])) (by kernel_rfl) ?_
                    refine oK [5, 30] (eE := [(5, .ptr 0 3 0), (30, .bool true)]) (by kernel_rfl) ?_
                    exact hj3 true
                   ·refine oR 6 (p' := g34p16) (eE := ((30, .bool ((decide (cS 0 x0_3 0 = 45)) && ((decide (cS 0 x0_3 1 = 45)) && true))) :: (60, .bool ((decide (cS 0 x0_3 0 = 45)) && ((decide (cS 0 x0_3 1 = 45)) && true))) :: (59, .agg [.int .u8 45, .int .u8 45]) :: (30, .bool false) :: E26)) (H' := (mkH [⟨[.int .u8 (cS 0 x0_3 0), .int .u8 (cS 0 x0_3 1), .int .u8 (cS 0 x0_3 2)], 3, false⟩])) (by kernel_rfl) ?_
                    refine oK [5, 30] (eE := [(5, .ptr 0 3 0), (30, .bool ((decide (cS 0 x0_3 0 = 45)) && ((decide (cS 0 x0_3 1 = 45)) && true)))]) (by kernel_rfl) ?_
                    exact hj3 ((decide (cS 0 x0_3 0 = 45)) && ((decide (cS 0 x0_3 1 = 45)) && true))
   ·refine oS 20 (b := ((decide (cS 0 x0_3 0 = 61)) && ((decide (cS 0 x0_3 1 = 58)) && ((decide (cS 0 x0_3 2 = 61)) && true)))) (by kernel_rfl) (fun hb => ?_) (fun hb => ?_)
    ·refine oR 2 (p' := g34p10) (eE := ((20, .bool true) :: E5)) (H' := (mkH [⟨[.int .u8 (cS 0 x0_3 0), .int .u8 (cS 0 x0_3 1), .int .u8 (cS 0 x0_3 2)], 3, false⟩])) (by kernel_rfl) ?_
     refine oK [5, 20] (eE := [(5, .ptr 0 3 0), (20, .bool true)]) (by kernel_rfl) ?_
     exact hj2 true
    ·refine oR 6 (p' := g34p10) (eE := ((20, .bool ((decide (cS 0 x0_3 0 = 61)) && ((decide (cS 0 x0_3 1 = 47)) && ((decide (cS 0 x0_3 2 = 61)) && true)))) :: (24, .bool ((decide (cS 0 x0_3 0 = 61)) && ((decide (cS 0 x0_3 1 = 47)) && ((decide (cS 0 x0_3 2 = 61)) && true)))) :: (23, .agg [.int .u8 61, .int .u8 47, .int .u8 61]) :: (20, .bool false) :: E5)) (H' := (mkH [⟨[.int .u8 (cS 0 x0_3 0), .int .u8 (cS 0 x0_3 1), .int .u8 (cS 0 x0_3 2)], 3, false⟩])) (by kernel_rfl) ?_
     refine oK [5, 20] (eE := [(5, .ptr 0 3 0), (20, .bool ((decide (cS 0 x0_3 0 = 61)) && ((decide (cS 0 x0_3 1 = 47)) && ((decide (cS 0 x0_3 2 = 61)) && true))))]) (by kernel_rfl) ?_
     exact hj2 ((decide (cS 0 x0_3 0 = 61)) && ((decide (cS 0 x0_3 1 = 47)) && ((decide (cS 0 x0_3 2 = 61)) && true)))
 ·refine oS 8 (b := decide (a1 < 0)) (by kernel_rfl) (fun hb => ?_) (fun hb => ?_)
  ·let E27 : Env := ((13, .bool true) :: (12, .tuple []) :: (11, .tuple []) :: (10, .tuple []) :: (9, .tuple []) :: (8, .bool true) :: E1)
   refine oR 6 (p' := g34p3) (eE := E27) (H' := (mkH [⟨[.int .u8 0, .int .u8 0, .int .u8 0], 0, false⟩])) (by kernel_rfl) ?_
   refine oK [0, 1, 5, 13] (eE := [(0, .str a0), (1, .int .i64 a1), (5, .ptr 0 3 0), (13, .bool true)]) (by kernel_rfl) ?_
   exact hj1 true
  ·let E28 : Env := ((13, .bool (decide ((a0.length : Int) ≤ a1))) :: (12, .bool (decide ((a0.length : Int) ≤ a1))) :: (11, .int .i64 (a0.length : Int)) :: (10, .str a0) :: (9, .int .i64 a1) :: (8, .bool false) :: E1)
   refine oR 6 (p' := g34p3) (eE := E28) (H' := (mkH [⟨[.int .u8 0, .int .u8 0, .int .u8 0], 0, false⟩])) (by kernel_rfl) ?_
   refine oK [0, 1, 5, 13] (eE := [(0, .str a0), (1, .int .i64 a1), (5, .ptr 0 3 0), (13, .bool (decide ((a0.length : Int) ≤ a1)))]) (by kernel_rfl) ?_
   exact hj1 (decide ((a0.length : Int) ≤ a1))
end
end Go.Proofs.Ytnikdnchoahngaa.Am
set_option maxRecDepth 100000
set_option linter.unusedVariables false
namespace Go.Proofs.Ytnikdnchoahngaa.Am
noncomputable section
open Go
def X35 : Fx Int := ⟨Try.prog, cx, Try.f35, fun r => .int .i64 r, 0, fun _ => H0, cxTi, cxOrd⟩
def g35c0 : List (List Nat) := [([61, 58, 61] : List Nat), ([61, 47, 61] : List Nat), ([60, 60] : List Nat), ([62, 62] : List Nat), ([45, 62] : List Nat), ([60, 45] : List Nat), ([60, 61] : List Nat), ([61, 62] : List Nat), ([58, 61] : List Nat), ([58, 58] : List Nat), ([61, 61] : List Nat), ([47, 61] : List Nat), ([61, 60] : List Nat), ([62, 61] : List Nat), ([124, 124] : List Nat), ([43, 43] : List Nat), ([45, 45] : List Nat), ([40] : List Nat), ([41] : List Nat), ([123] : List Nat), ([125] : List Nat), ([91] : List Nat), ([93] : List Nat), ([44] : List Nat), ([59] : List Nat), ([58] : List Nat), ([61] : List Nat), ([124] : List Nat), ([33] : List Nat), ([35] : List Nat), ([43] : List Nat), ([45] : List Nat), ([42] : List Nat), ([47] : List Nat), ([60] : List Nat), ([62] : List Nat), ([46] : List Nat)]
def g35p0 : Pt := nav [0] (bodyAt Try.f35)
def g35p1 : Pt := nav [0, 0, 0] g35p0
def g35p2 : Pt := nav [0, 0, 0, 0] g35p1
def g35p3 : Pt := nav [0, 0] g35p2
def g35p5 : Pt := nav [2, 0, 0, 0] g35p3
def g35p7 : Pt := nav [0, 0, 0, 0] g35p5
def g35p8 : Pt := nav [0, 0, 0] g35p7
def g35p9 : Pt := nav [0, 0] g35p8
def g35p10 : Pt := nav [1, 0, 0, 0, 0] g35p9
def g35p12 : Pt := nav [0, 0, 0] g35p10
def g35p13 : Pt := nav [0] g35p12
def g35_l3 (k : Nat)  (a0 : (List Nat)) (a1 : Int) (n : Nat) : Int → Option Int :=
 Nat.rec (motive := fun _ => Int → Option Int) (fun _ => none) (fun _ ih => fun (y3_0 : Int) => if (decide (y3_0 < (g35c0.length : Int))) then ((nthL g35c0 y3_0).bind fun x0_2 => jn (fun (z4 : Bool × Int) => if z4.1 then (some (x0_2.length : Int)) else (ih (fW .i64 (z4.2 + 1)))) (fun j4 => if (decide ((x0_2.length : Int) ≤ fW .i64 ((a0.length : Int) - a1))) then ((subL a0 (some a1) (some (fW .i64 (a1 + (x0_2.length : Int))))).bind fun x1_12 => (nthL g35c0 y3_0).bind fun x1_15 => j4 (eqL x1_12 x1_15, y3_0)) else (j4 (false, y3_0)))) else (some (0 : Int))) n
theorem g35_l3_s (k : Nat)  (a0 : (List Nat)) (a1 : Int) (n : Nat) (y3_0 : Int) : g35_l3 k a0 a1 (n + 1) y3_0 = (if (decide (y3_0 < (g35c0.length : Int))) then ((nthL g35c0 y3_0).bind fun x0_2 => jn (fun (z4 : Bool × Int) => if z4.1 then (some (x0_2.length : Int)) else ((g35_l3 k a0 a1 n) (fW .i64 (z4.2 + 1)))) (fun j4 => if (decide ((x0_2.length : Int) ≤ fW .i64 ((a0.length : Int) - a1))) then ((subL a0 (some a1) (some (fW .i64 (a1 + (x0_2.length : Int))))).bind fun x1_12 => (nthL g35c0 y3_0).bind fun x1_15 => j4 (eqL x1_12 x1_15, y3_0)) else (j4 (false, y3_0)))) else (some (0 : Int))) := rfl
theorem g35_l3_ok (k : Nat)  (a0 : (List Nat)) (a1 : Int)  : ∀ (n : Nat) (y3_0 : Int), Ok X35 g35p7 [(0, .str a0), (1, .int .i64 a1), (5, .vec (g35c0).length 1 ((g35c0).flatMap e9)), (6, .int .i64 y3_0)] (mkH []) (g35_l3 k a0 a1 n y3_0)
 | 0, _ => ok_none
 | n + 1, y3_0 => by
  have ih := g35_l3_ok k a0 a1 n
  rw [g35_l3_s]
  refine ok_ent (p' := nav [0] g35p7) (by kernel_rfl) ?_
  let E4 : Env := [(20, .bool (decide (y3_0 < (g35c0.length : Int)))), (19, .int .i64 (g35c0.length : Int)), (18, .vec (g35c0).length 1 ((g35c0).flatMap e9)), (17, .int .i64 y3_0), (0, .str a0), (1, .int .i64 a1), (5, .vec (g35c0).length 1 ((g35c0).flatMap e9)), (6, .int .i64 y3_0)]
  refine oR 8 (p' := g35p9) (eE := E4) (H' := (mkH [])) (by kernel_rfl) ?_
  refine oS 20 (b := decide (y3_0 < (g35c0.length : Int))) (by kernel_rfl) (fun hb => ?_) (fun hb => ?_)
  ·refine oR 8 (p' := (atN 2 (ctl1 g35p10))) (eE := ((24, .int .i64 y3_0) :: (23, .vec (g35c0).length 1 ((g35c0).flatMap e9)) :: (20, .bool true) :: E4)) (H' := (mkH [])) (by kernel_rfl) ?_
   refine oH (fun (x0_2 : (List Nat)) => (.vptr [.str x0_2], (mkH []))) (atN 3 (ctl1 g35p10)) (fun x0_2 => ((25, .vptr [.str x0_2]) :: (24, .int .i64 y3_0) :: (23, .vec (g35c0).length 1 ((g35c0).flatMap e9)) :: (20, .bool true) :: E4)) (vidxH (sz := 1) e9_len (by kernel_rfl)) (fun _ => by kernel_rfl) (fun x0_2 hx0_2 => ?_)
   let E5 : Env := ((7, .int .i64 (x0_2.length : Int)) :: (27, .int .i64 (x0_2.length : Int)) :: (26, .str x0_2) :: (25, .vptr [.str x0_2]) :: (24, .int .i64 y3_0) :: (23, .vec (g35c0).length 1 ((g35c0).flatMap e9)) :: (20, .bool true) :: E4)
   refine oR 5 (p' := g35p12) (eE := E5) (H' := (mkH [])) (by kernel_rfl) ?_
   refine oK [0, 1, 5, 6, 7] (eE := [(0, .str a0), (1, .int .i64 a1), (5, .vec (g35c0).length 1 ((g35c0).flatMap e9)), (6, .int .i64 y3_0), (7, .int .i64 (x0_2.length : Int))]) (by kernel_rfl) ?_
   refine oJ (f := fun (z4 : Bool × Int) => if z4.1 then (some (x0_2.length : Int)) else ((g35_l3 k a0 a1 n) (fW .i64 (z4.2 + 1)))) g35p13 (fun (z4 : Bool × Int) => [(0, .str a0), (1, .int .i64 a1), (5, .vec (g35c0).length 1 ((g35c0).flatMap e9)), (6, .int .i64 z4.2), (7, .int .i64 (x0_2.length : Int)), (46, .bool z4.1)]) (fun (z4 : Bool × Int) => (mkH [])) (fun z4 => ?_) (fun j4 hj4 => ?_)
   ·refine oS 46 (b := z4.1) (by kernel_rfl) (fun hb => ?_) (fun hb => ?_)
    ·let E6 : Env := [(4, .int .i64 (x0_2.length : Int)), (47, .int .i64 (x0_2.length : Int)), (46, .bool true), (0, .str a0), (1, .int .i64 a1), (5, .vec (g35c0).length 1 ((g35c0).flatMap e9)), (6, .int .i64 z4.2), (7, .int .i64 (x0_2.length : Int)), (46, .bool z4.1)]
     refine oR 7 (p' := .fin) (eE := E6) (H' := (mkH [])) (by kernel_rfl) ?_
     exact oT (r := (x0_2.length : Int)) (xs := [.int .i64 (x0_2.length : Int)]) (v := .int .i64 (x0_2.length : Int)) (by kernel_rfl) (by kernel_rfl) (by kernel_rfl) (.pures (by kernel_rfl)) (by kernel_rfl)
    ·let E7 : Env := [(6, .int .i64 (fW .i64 (z4.2 + 1))), (22, .int .i64 (fW .i64 (z4.2 + 1))), (21, .int .i64 z4.2), (46, .bool false), (0, .str a0), (1, .int .i64 a1), (5, .vec (g35c0).length 1 ((g35c0).flatMap e9)), (6, .int .i64 z4.2), (7, .int .i64 (x0_2.length : Int)), (46, .bool z4.1)]
     refine oR 7 (p' := g35p7) (eE := E7) (H' := (mkH [])) (by kernel_rfl) ?_
     refine oK [0, 1, 5, 6] (eE := [(0, .str a0), (1, .int .i64 a1), (5, .vec (g35c0).length 1 ((g35c0).flatMap e9)), (6, .int .i64 (fW .i64 (z4.2 + 1)))]) (by kernel_rfl) ?_
     exact ih (fW .i64 (z4.2 + 1))
   ·refine ok_if (fun hb6 => ?_) (fun hb6 => ?_)
    ·refine ok_bind (fun x1_12 hx1_12 => ?_)
     refine ok_bind (fun x1_15 hx1_15 => ?_)
     let E8 : Env := [(34, .bool (decide ((x0_2.length : Int) ≤ fW .i64 ((a0.length : Int) - a1)))), (33, .bool (decide ((x0_2.length : Int) ≤ fW .i64 ((a0.length : Int) - a1)))), (32, .int .i64 (x0_2.length : Int)), (31, .int .i64 (fW .i64 ((a0.length : Int) - a1))), (30, .int .i64 a1), (29, .int .i64 (a0.length : Int)), (28, .str a0), (0, .str a0), (1, .int .i64 a1), (5, .vec (g35c0).length 1 ((g35c0).flatMap e9)), (6, .int .i64 y3_0), (7, .int .i64 (x0_2.length : Int))]
     let E9 : Env := [(39, .int .i64 (fW .i64 (a1 + (x0_2.length : Int)))), (38, .int .i64 (x0_2.length : Int)), (37, .int .i64 a1), (36, .int .i64 a1), (35, .str a0), (34, .bool true), (33, .bool true), (32, .int .i64 (x0_2.length : Int)), (31, .int .i64 (fW .i64 ((a0.length : Int) - a1))), (30, .int .i64 a1), (29, .int .i64 (a0.length : Int)), (28, .str a0), (0, .str a0), (1, .int .i64 a1), (5, .vec (g35c0).length 1 ((g35c0).flatMap e9)), (6, .int .i64 y3_0), (7, .int .i64 (x0_2.length : Int))]
     let E10 : Env := ((46, .bool (eqL x1_12 x1_15)) :: (45, .bool (eqL x1_12 x1_15)) :: (44, .str x1_15) :: (43, .vptr [.str x1_15]) :: (42, .int .i64 y3_0) :: (41, .vec (g35c0).length 1 ((g35c0).flatMap e9)) :: (40, .str x1_12) :: E9)
     refine ok_draw (p' := nav [0] g35p12) (eE := E10) (H' := (mkH [])) (hs := []) [(0, 0, 0), (1, 0, 0), (0, 0, 0), (7, 0, 0), (0, 0, 0), (31, 0, 0), (63, 0, 0), (127, 0, 0), (127, 0, 0), (127, 0, 0), (127, 0, 0), (1663, 0, 0), (4095, 0, 0), (127, 0, 0), (127, 0, 0), (24703, 0, 0), (57471, 0, 0), (131071, 0, 0), (262143, 0, 0)] (by kernel_rfl) (by kernel_rfl) (by kernel_rfl) (opsD_run 7 (l' := (opsAt g35p12).toList.drop 7) (eE := E8) (H' := (mkH [])) (hs := []) (by kernel_rfl) (opsD_env (eE := [(34, .bool true), (33, .bool true), (32, .int .i64 (x0_2.length : Int)), (31, .int .i64 (fW .i64 ((a0.length : Int) - a1))), (30, .int .i64 a1), (29, .int .i64 (a0.length : Int)), (28, .str a0), (0, .str a0), (1, .int .i64 a1), (5, .vec (g35c0).length 1 ((g35c0).flatMap e9)), (6, .int .i64 y3_0), (7, .int .i64 (x0_2.length : Int))]) (congrArg (fun z : Bool => ([(34, .bool z), (33, .bool z), (32, .int .i64 (x0_2.length : Int)), (31, .int .i64 (fW .i64 ((a0.length : Int) - a1))), (30, .int .i64 a1), (29, .int .i64 (a0.length : Int)), (28, .str a0), (0, .str a0), (1, .int .i64 a1), (5, .vec (g35c0).length 1 ((g35c0).flatMap e9)), (6, .int .i64 y3_0), (7, .int .i64 (x0_2.length : Int))] : Env)) hb6) (opsD_run 5 (l' := (opsAt g35p12).toList.drop 12) (eE := E9) (H' := (mkH [])) (hs := []) (by kernel_rfl) (opsD_chk (l' := (opsAt g35p12).toList.drop 13) (eE := ((40, .str x1_12) :: E9)) (hs := []) (x := x1_12) (fun (x1_12 : (List Nat)) => (.str x1_12, (mkH []))) (subH (some a1) (some (fW .i64 (a1 + (x0_2.length : Int)))) (by kernel_rfl)) hx1_12 (by kernel_rfl) (opsD_run 2 (l' := (opsAt g35p12).toList.drop 15) (eE := ((42, .int .i64 y3_0) :: (41, .vec (g35c0).length 1 ((g35c0).flatMap e9)) :: (40, .str x1_12) :: E9)) (H' := (mkH [])) (hs := []) (by kernel_rfl) (opsD_chk (l' := (opsAt g35p12).toList.drop 16) (eE := ((43, .vptr [.str x1_15]) :: (42, .int .i64 y3_0) :: (41, .vec (g35c0).length 1 ((g35c0).flatMap e9)) :: (40, .str x1_12) :: E9)) (hs := []) (x := x1_15) (fun (x1_15 : (List Nat)) => (.vptr [.str x1_15], (mkH []))) (vidxH (sz := 1) e9_len (by kernel_rfl)) hx1_15 (by kernel_rfl) (opsD_run 3 (l' := (opsAt g35p12).toList.drop 19) (eE := E10) (H' := (mkH [])) (hs := []) (by kernel_rfl) (.nil)))))))) (by kernel_rfl) (by kernel_rfl) (by kernel_rfl) ?_
     refine oK [0, 1, 5, 6, 7, 46] (eE := [(0, .str a0), (1, .int .i64 a1), (5, .vec (g35c0).length 1 ((g35c0).flatMap e9)), (6, .int .i64 y3_0), (7, .int .i64 (x0_2.length : Int)), (46, .bool (eqL x1_12 x1_15))]) (by kernel_rfl) ?_
     exact hj4 (eqL x1_12 x1_15, y3_0)
    ·let E8 : Env := [(34, .bool (decide ((x0_2.length : Int) ≤ fW .i64 ((a0.length : Int) - a1)))), (33, .bool (decide ((x0_2.length : Int) ≤ fW .i64 ((a0.length : Int) - a1)))), (32, .int .i64 (x0_2.length : Int)), (31, .int .i64 (fW .i64 ((a0.length : Int) - a1))), (30, .int .i64 a1), (29, .int .i64 (a0.length : Int)), (28, .str a0), (0, .str a0), (1, .int .i64 a1), (5, .vec (g35c0).length 1 ((g35c0).flatMap e9)), (6, .int .i64 y3_0), (7, .int .i64 (x0_2.length : Int))]
     let E11 : Env := [(46, .bool false), (45, .tuple []), (44, .tuple []), (43, .tuple []), (42, .tuple []), (41, .tuple []), (40, .tuple []), (39, .tuple []), (38, .tuple []), (37, .tuple []), (36, .tuple []), (35, .tuple []), (34, .bool false), (33, .bool false), (32, .int .i64 (x0_2.length : Int)), (31, .int .i64 (fW .i64 ((a0.length : Int) - a1))), (30, .int .i64 a1), (29, .int .i64 (a0.length : Int)), (28, .str a0), (0, .str a0), (1, .int .i64 a1), (5, .vec (g35c0).length 1 ((g35c0).flatMap e9)), (6, .int .i64 y3_0), (7, .int .i64 (x0_2.length : Int))]
     refine ok_draw (p' := nav [0] g35p12) (eE := E11) (H' := (mkH [])) (hs := []) [(0, 0, 0), (1, 0, 0), (0, 0, 0), (7, 0, 0), (0, 0, 0), (31, 0, 0), (63, 0, 0), (127, 0, 0), (127, 0, 0), (127, 0, 0), (127, 0, 0), (1663, 0, 0), (4095, 0, 0), (127, 0, 0), (127, 0, 0), (24703, 0, 0), (57471, 0, 0), (131071, 0, 0), (262143, 0, 0)] (by kernel_rfl) (by kernel_rfl) (by kernel_rfl) (opsD_run 7 (l' := (opsAt g35p12).toList.drop 7) (eE := E8) (H' := (mkH [])) (hs := []) (by kernel_rfl) (opsD_env (eE := [(34, .bool false), (33, .bool false), (32, .int .i64 (x0_2.length : Int)), (31, .int .i64 (fW .i64 ((a0.length : Int) - a1))), (30, .int .i64 a1), (29, .int .i64 (a0.length : Int)), (28, .str a0), (0, .str a0), (1, .int .i64 a1), (5, .vec (g35c0).length 1 ((g35c0).flatMap e9)), (6, .int .i64 y3_0), (7, .int .i64 (x0_2.length : Int))]) (congrArg (fun z : Bool => ([(34, .bool z), (33, .bool z), (32, .int .i64 (x0_2.length : Int)), (31, .int .i64 (fW .i64 ((a0.length : Int) - a1))), (30, .int .i64 a1), (29, .int .i64 (a0.length : Int)), (28, .str a0), (0, .str a0), (1, .int .i64 a1), (5, .vec (g35c0).length 1 ((g35c0).flatMap e9)), (6, .int .i64 y3_0), (7, .int .i64 (x0_2.length : Int))] : Env)) hb6) (opsD_run 12 (l' := (opsAt g35p12).toList.drop 19) (eE := E11) (H' := (mkH [])) (hs := []) (by kernel_rfl) (.nil)))) (by kernel_rfl) (by kernel_rfl) (by kernel_rfl) ?_
     refine oK [0, 1, 5, 6, 7, 46] (eE := [(0, .str a0), (1, .int .i64 a1), (5, .vec (g35c0).length 1 ((g35c0).flatMap e9)), (6, .int .i64 y3_0), (7, .int .i64 (x0_2.length : Int)), (46, .bool false)]) (by kernel_rfl) ?_
     exact hj4 (false, y3_0)
  ·refine oR 7 (p' := .fin) (eE := ((4, .int .i64 0) :: (20, .bool false) :: E4)) (H' := (mkH [])) (by kernel_rfl) ?_
   exact oT (r := (0 : Int)) (xs := [.int .i64 0]) (v := .int .i64 0) (by kernel_rfl) (by kernel_rfl) (by kernel_rfl) (.pures (by kernel_rfl)) (by kernel_rfl)
def g35 (k : Nat) (a0 : (List Nat)) (a1 : Int) : Option Int :=
 jn (fun (z2 : Bool) => if z2 then (some (0 : Int)) else (g35_l3 k a0 a1 k 0)) (fun j2 => if (decide (a1 < 0)) then (j2 true) else (j2 (decide ((a0.length : Int) < a1))))
theorem g35_ok (k : Nat) (a0 : (List Nat)) (a1 : Int) (r : Int) (h : g35 k a0 a1 = some r) : PureOk Try.prog 35 [.str a0, .int .i64 a1] (.int .i64 r) := by
 refine pure_of X35 (fun _ => rfl) Try.func35 (by decide +kernel) (by kernel_rfl) (t := g35 k a0 a1) ?_ h
 unfold g35
 refine oE (eE := [(0, .str a0), (1, .int .i64 a1)]) (by kernel_rfl) ?_
 refine oR 7 (p' := (atN 1 (ctl1 g35p1))) (eE := [(8, .slice 0 37 0 37 1), (4, .int .i64 0), (0, .str a0), (1, .int .i64 a1)]) (H' := (mkH [⟨[.str [61, 58, 61], .str [61, 47, 61], .str [60, 60], .str [62, 62], .str [45, 62], .str [60, 45], .str [60, 61], .str [61, 62], .str [58, 61], .str [58, 58], .str [61, 61], .str [47, 61], .str [61, 60], .str [62, 61], .str [124, 124], .str [43, 43], .str [45, 45], .str [40], .str [41], .str [123], .str [125], .str [91], .str [93], .str [44], .str [59], .str [58], .str [61], .str [124], .str [33], .str [35], .str [43], .str [45], .str [42], .str [47], .str [60], .str [62], .str [46]], 0, false⟩])) (by kernel_rfl) ?_
 refine ok_frz [⟨[.str [61, 58, 61], .str [61, 47, 61], .str [60, 60], .str [62, 62], .str [45, 62], .str [60, 45], .str [60, 61], .str [61, 62], .str [58, 61], .str [58, 58], .str [61, 61], .str [47, 61], .str [61, 60], .str [62, 61], .str [124, 124], .str [43, 43], .str [45, 45], .str [40], .str [41], .str [123], .str [125], .str [91], .str [93], .str [44], .str [59], .str [58], .str [61], .str [124], .str [33], .str [35], .str [43], .str [45], .str [42], .str [47], .str [60], .str [62], .str [46]], 0, false⟩] 8 0 37 1 0 [.str [61, 58, 61], .str [61, 47, 61], .str [60, 60], .str [62, 62], .str [45, 62], .str [60, 45], .str [60, 61], .str [61, 62], .str [58, 61], .str [58, 58], .str [61, 61], .str [47, 61], .str [61, 60], .str [62, 61], .str [124, 124], .str [43, 43], .str [45, 45], .str [40], .str [41], .str [123], .str [125], .str [91], .str [93], .str [44], .str [59], .str [58], .str [61], .str [124], .str [33], .str [35], .str [43], .str [45], .str [42], .str [47], .str [60], .str [62], .str [46]] [0, 1, 4] (env0 := [(0, .str a0), (1, .int .i64 a1), (4, .int .i64 0)]) (by kernel_rfl) rfl (.inl (by kernel_rfl)) rfl rfl (by decide) (by kernel_rfl) (by kernel_rfl) (by kernel_rfl) ⟨.inl rfl, trivial⟩ ?_
 refine oE (eE := [(8, .vec (g35c0).length 1 ((g35c0).flatMap e9)), (0, .str a0), (1, .int .i64 a1), (4, .int .i64 0)]) (by kernel_rfl) ?_
 refine ok_heap (H' := (mkH [⟨[], 0, false⟩])) (by kernel_rfl) ?_
 let E1 : Env := [(11, .bool (decide (a1 < 0))), (10, .bool (decide (a1 < 0))), (9, .int .i64 a1), (5, .vec (g35c0).length 1 ((g35c0).flatMap e9)), (8, .vec (g35c0).length 1 ((g35c0).flatMap e9)), (0, .str a0), (1, .int .i64 a1), (4, .int .i64 0)]
 refine oR 8 (p' := (atN 3 (ctl1 g35p2))) (eE := E1) (H' := (mkH [⟨[], 0, false⟩])) (by kernel_rfl) ?_
 refine oJ (f := fun (z2 : Bool) => if z2 then (some (0 : Int)) else (g35_l3 k a0 a1 k 0)) g35p3 (fun (z2 : Bool) => [(0, .str a0), (1, .int .i64 a1), (5, .vec (g35c0).length 1 ((g35c0).flatMap e9)), (16, .bool z2)]) (fun (z2 : Bool) => (mkH [])) (fun z2 => ?_) (fun j2 hj2 => ?_)
 ·refine oS 16 (b := z2) (by kernel_rfl) (fun hb => ?_) (fun hb => ?_)
  ·let E2 : Env := [(4, .int .i64 0), (16, .bool true), (0, .str a0), (1, .int .i64 a1), (5, .vec (g35c0).length 1 ((g35c0).flatMap e9)), (16, .bool z2)]
   refine oR 6 (p' := .fin) (eE := E2) (H' := (mkH [])) (by kernel_rfl) ?_
   exact oT (r := (0 : Int)) (xs := [.int .i64 0]) (v := .int .i64 0) (by kernel_rfl) (by kernel_rfl) (by kernel_rfl) (.pures (by kernel_rfl)) (by kernel_rfl)
  ·let E3 : Env := [(6, .int .i64 0), (16, .bool false), (0, .str a0), (1, .int .i64 a1), (5, .vec (g35c0).length 1 ((g35c0).flatMap e9)), (16, .bool z2)]
   refine oR 9 (p' := g35p7) (eE := E3) (H' := (mkH [])) (by kernel_rfl) ?_
   refine oK [0, 1, 5, 6] (eE := [(0, .str a0), (1, .int .i64 a1), (5, .vec (g35c0).length 1 ((g35c0).flatMap e9)), (6, .int .i64 0)]) (by kernel_rfl) ?_
   exact (g35_l3_ok k a0 a1 k) 0
 ·refine oS 11 (b := decide (a1 < 0)) (by kernel_rfl) (fun hb => ?_) (fun hb => ?_)
  ·let E12 : Env := ((16, .bool true) :: (15, .tuple []) :: (14, .tuple []) :: (13, .tuple []) :: (12, .tuple []) :: (11, .bool true) :: E1)
   refine oR 6 (p' := g35p3) (eE := E12) (H' := (mkH [⟨[], 0, false⟩])) (by kernel_rfl) ?_
   refine oK [0, 1, 5, 16] (eE := [(0, .str a0), (1, .int .i64 a1), (5, .vec (g35c0).length 1 ((g35c0).flatMap e9)), (16, .bool true)]) (by kernel_rfl) ?_
   refine ok_cut [] [⟨[], 0, false⟩] (by kernel_rfl) rfl (by kernel_rfl) trivial ?_
   exact hj2 true
  ·let E13 : Env := ((16, .bool (decide ((a0.length : Int) < a1))) :: (15, .bool (decide ((a0.length : Int) < a1))) :: (14, .int .i64 (a0.length : Int)) :: (13, .str a0) :: (12, .int .i64 a1) :: (11, .bool false) :: E1)
   refine oR 6 (p' := g35p3) (eE := E13) (H' := (mkH [⟨[], 0, false⟩])) (by kernel_rfl) ?_
   refine oK [0, 1, 5, 16] (eE := [(0, .str a0), (1, .int .i64 a1), (5, .vec (g35c0).length 1 ((g35c0).flatMap e9)), (16, .bool (decide ((a0.length : Int) < a1)))]) (by kernel_rfl) ?_
   refine ok_cut [] [⟨[], 0, false⟩] (by kernel_rfl) rfl (by kernel_rfl) trivial ?_
   exact hj2 (decide ((a0.length : Int) < a1))
end
end Go.Proofs.Ytnikdnchoahngaa.Am
set_option maxRecDepth 100000
set_option linter.unusedVariables false
set_option linter.unusedSimpArgs false
namespace Go.Proofs.Ytnikdnchoahngaa.Am
open Go
theorem eqL_comm (a b : List Nat) : eqL a b = eqL b a := by
 rw [Bool.eq_iff_iff, eqL_iff, eqL_iff]; exact eq_comm
theorem ifj {α : Type} (j : Bool → α) (p q : Bool) : (if p = true then j true else j q) = j (p || q) := by cases p <;> rfl
theorem ifor {α : Type} (p q : Bool) (x y : α) : (if p = true then x else if q = true then x else y) = if (p || q) = true then x else y := by cases p <;> rfl
theorem nthL_at {α : Type} {L : List α} {i : Nat} {x : α} {r : List α} (h : L.drop i = x :: r) : nthL L (i : Int) = some x := by
 unfold nthL
 rw [if_pos (by omega), Int.toNat_natCast]
 have := List.getElem?_drop (xs := L) (i := i) (j := 0)
 rw [h] at this
 simpa using this.symm
theorem dconsL {α : Type} {s : List α} {i : Nat} (h : i < s.length) : ∃ b r, s.drop i = b :: r ∧ s.drop (i + 1) = r ∧ b ∈ s ∧ r.length + i + 1 = s.length := by
 refine ⟨s[i], s.drop (i + 1), List.drop_eq_getElem_cons h, rfl, List.getElem_mem h, ?_⟩
 rw [List.length_drop]; omega
def signL : List (List Nat) := [[61, 58, 61], [61, 47, 61], [60, 60], [62, 62], [45, 62], [60, 45], [60, 61], [61, 62], [58, 61], [58, 58], [61, 61], [47, 61], [61, 60], [62, 61], [124, 124], [43, 43], [45, 45], [40], [41], [123], [125], [91], [93], [44], [59], [58], [61], [124], [33], [35], [43], [45], [42], [47], [60], [62], [46]]
def preN : List Nat → List Nat → Bool
 | [], _ => true
 | x :: l, y :: s => decide (y = x) && preN l s
 | _ :: _, [] => false
def fstN : List (List Nat) → List Nat → Nat
 | [], _ => 0
 | l :: L, s => if preN l s then l.length else fstN L s
def lngN (s : List Nat) : Nat := fstN signL s
theorem preN_take : ∀ (l s : List Nat), preN l s = (decide (l.length ≤ s.length) && eqL (s.take l.length) l)
 | [], s => by simp [preN, eqL]
 | x :: l, [] => by simp [preN]
 | x :: l, y :: s => by
  simp only [preN, preN_take l s, List.length_cons, List.take_succ_cons, eqL]
  by_cases h : l.length ≤ s.length
  ·have : l.length + 1 ≤ s.length + 1 := by omega
   simp [h, this]
   rw [Bool.eq_iff_iff]; simp [Nat.beq_eq]
  ·have : ¬ l.length + 1 ≤ s.length + 1 := by omega
   simp [h, this]
theorem rlongest_l (k : Nat) {s : List Nat} (hl : Sz s) {a : Nat} (ha : a ≤ s.length) : ∀ (f i : Nat), 37 < i + f → i ≤ 37 → g35_l3 k s (a : Int) f (i : Int) = some ((fstN (signL.drop i) (s.drop a) : Nat) : Int)
 | 0, i, h, h2 => by omega
 | f + 1, i, h, h2 => by
  have hl' := hl
  unfold Sz at hl
  rw [g35_l3_s]
  have e : g35c0 = signL := rfl
  rw [e]
  have el : signL.length = 37 := rfl
  rcases Nat.lt_or_ge i 37 with hi | hi
  ·obtain ⟨x, r, hx, hr, hm, -⟩ := dconsL (s := signL) (i := i) (by rw [el]; exact hi)
   have ih := rlongest_l k hl' ha f (i + 1) (by omega) (by omega)
   have hx3 : x.length ≤ 3 := by
    have : ∀ l ∈ signL, l.length ≤ 3 := by decide
    exact this x hm
   rw [el]
   refine iT (by first | (simp (disch := omega) only [↓reduceIte, ↓jn, gsL]; done) | rfl) ?_
   refine bS (by (try simp (disch := omega) only [fwI]); exact nthL_at hx) ?_
   rw [hr] at ih
   rw [hx]
   simp only [fstN, preN_take, List.length_drop]
   refine (jS (v := (decide (x.length ≤ s.length - a) && eqL ((s.drop a).take x.length) x, (i : Int))) (fun j => ?_)).trans ?_
   ·by_cases hc : x.length ≤ s.length - a
    ·have sb : subL s (some (a : Int)) (some ((a : Int) + (x.length : Int))) = some ((s.drop a).take x.length) := by
      rw [subMid (i := a) (j := a + x.length) rfl (by push_cast; rfl) (by omega) (by omega), List.drop_take, Nat.add_sub_cancel_left]
     refine iT (by first | (simp (disch := omega) only [↓reduceIte, ↓jn, gsL]; done) | rfl) ?_
     refine bS (by (try simp (disch := omega) only [fwI]); exact sb) ?_
     refine bS (by (try simp (disch := omega) only [fwI]); exact nthL_at hx) ?_
     simp (disch := omega) only [↓reduceIte, ↓jn, gsL, hc]
    ·simp (disch := omega) only [↓reduceIte, ↓jn, gsL, hc]
   ·cases hp : (decide (x.length ≤ s.length - a) && eqL ((s.drop a).take x.length) x) with
    | true => rfl
    | false =>
     simp only [Bool.false_eq_true, if_false]
     rw [fw_s (by omega)]
     exact ih
  ·rw [el]
   refine iF (by first | (simp (disch := omega) only [↓reduceIte, ↓jn, gsL]; done) | rfl) ?_
   rw [List.drop_eq_nil_of_le (by rw [el]; exact hi)]
   rfl
theorem rlongest_at {k : Nat} (hk : 38 ≤ k) {s : List Nat} (hl : Sz s) {a : Nat} (ha : a ≤ s.length) : g35 k s (a : Int) = some ((lngN (s.drop a) : Nat) : Int) := by
 have hl' := hl
 unfold Sz at hl
 unfold g35
 refine (jS (v := false) (fun j => by simp (disch := omega) only [↓reduceIte, ↓jn, gsL])).trans ?_
 exact rlongest_l k hl' ha k 0 (by omega) (by omega)
def p3N (a b c : Nat) : Bool := (decide (a = 61) && (decide (b = 58) && decide (c = 61)) || decide (a = 61) && (decide (b = 47) && decide (c = 61)))
def p2N (a b : Nat) : Bool := (decide (a = 60) && decide (b = 60) || (decide (a = 62) && decide (b = 62) || (decide (a = 45) && decide (b = 62) || (decide (a = 60) && decide (b = 45) || (decide (a = 60) && decide (b = 61) || (decide (a = 61) && decide (b = 62) || (decide (a = 58) && decide (b = 61) || (decide (a = 58) && decide (b = 58) || (decide (a = 61) && decide (b = 61) || (decide (a = 47) && decide (b = 61) || (decide (a = 61) && decide (b = 60) || (decide (a = 62) && decide (b = 61) || (decide (a = 124) && decide (b = 124) || (decide (a = 43) && decide (b = 43) || decide (a = 45) && decide (b = 45)))))))))))))))
def p1N (a : Nat) : Bool := (decide (a = 40) || (decide (a = 41) || (decide (a = 123) || (decide (a = 125) || (decide (a = 91) || (decide (a = 93) || (decide (a = 44) || (decide (a = 59) || (decide (a = 58) || (decide (a = 61) || (decide (a = 124) || (decide (a = 33) || (decide (a = 35) || (decide (a = 43) || (decide (a = 45) || (decide (a = 42) || (decide (a = 47) || (decide (a = 60) || (decide (a = 62) || decide (a = 46))))))))))))))))))))
def lngB (a b c : Nat) : Nat := if p3N a b c = true then 3 else if p2N a b = true then 2 else if p1N a = true then 1 else 0
theorem lngB_at (a b c : Nat) (r : List Nat) : lngN (a :: b :: c :: r) = lngB a b c := by
 simp only [lngN, signL, fstN, preN, lngB, p3N, p2N, p1N, List.length_cons, List.length_nil, Bool.and_true, ifor, Nat.zero_add, Nat.reduceAdd]
 rfl
theorem lngB_2 (a b : Nat) : lngN [a, b] = lngB a b 0 := by
 simp only [lngN, signL, fstN, preN, lngB, p3N, p2N, p1N, List.length_cons, List.length_nil, Bool.and_true, Bool.and_false, ifor, Nat.zero_add, Nat.reduceAdd, show decide ((0 : Nat) = 61) = false from rfl, Bool.or_false, Bool.false_eq_true, if_false]
 rfl
theorem lngB_1 (a : Nat) : lngN [a] = lngB a 0 0 := by
 simp only [lngN, signL, fstN, preN, lngB, p3N, p2N, p1N, List.length_cons, List.length_nil, Bool.and_true, Bool.and_false, ifor, Nat.zero_add, Nat.reduceAdd, show decide ((0 : Nat) = 61) = false from rfl, show decide ((0 : Nat) = 58) = false from rfl, show decide ((0 : Nat) = 47) = false from rfl, show decide ((0 : Nat) = 60) = false from rfl, show decide ((0 : Nat) = 62) = false from rfl, show decide ((0 : Nat) = 45) = false from rfl, show decide ((0 : Nat) = 124) = false from rfl, show decide ((0 : Nat) = 43) = false from rfl, Bool.or_false, Bool.false_and, Bool.false_eq_true, if_false]
 rfl
theorem longest_at (k : Nat) {s : List Nat} (hs : s ≠ []) : g34 k s 0 = some ((lngN s : Nat) : Int) := by
 have hpos : 0 < s.length := List.length_pos_iff.2 hs
 unfold g34
 refine (jS (v := false) (fun j => by simp (disch := omega) only [↓reduceIte, ↓jn, gsL])).trans ?_
 refine iF (by first | (simp (disch := omega) only [↓reduceIte, ↓jn, gsL]; done) | rfl) ?_
 refine bS (by (try simp (disch := omega) only [fwI]); exact subFrom (s := s) (x := 0) (i := 0) rfl (Nat.zero_le _)) ?_
 rw [List.drop_zero]
 have cn : cpyN s 3 = some ((min s.length 3 : Nat) : Int) := by unfold cpyN; rw [if_neg (by omega)]
 refine bS (by (try simp (disch := omega) only [fwI]); exact cn) ?_
 have key : ∃ a b c : Nat, cS 0 s 0 = (a : Int) ∧ cS 0 s 1 = (b : Int) ∧ cS 0 s 2 = (c : Int) ∧ lngN s = lngB a b c := by
  match s, hs with
  | [], h => exact absurd rfl h
  | [a], _ => exact ⟨a, 0, 0, rfl, rfl, rfl, lngB_1 a⟩
  | [a, b], _ => exact ⟨a, b, 0, rfl, rfl, rfl, lngB_2 a b⟩
  | a :: b :: c :: r, _ => exact ⟨a, b, c, rfl, rfl, rfl, lngB_at a b c r⟩
 obtain ⟨a, b, c, e0, e1, e2, e3⟩ := key
 rw [e0, e1, e2, e3]
 clear e0 e1 e2 e3 cn
 unfold lngB
 refine (jS (v := p3N a b c) (fun j => ?_)).trans ?_
 ·simp only [ifj, p3N, ← Int.natCast_inj, Bool.and_true]
  rfl
 ·cases p3N a b c with
  | true => rfl
  | false =>
   refine iF rfl ?_
   refine (jS (v := p2N a b) (fun j => ?_)).trans ?_
   ·simp only [ifj, p2N, ← Int.natCast_inj, Bool.and_true]
    rfl
   ·cases p2N a b with
    | true => rfl
    | false =>
     refine iF rfl ?_
     refine (jS (v := p1N a) (fun j => ?_)).trans ?_
     ·simp only [ifj, p1N, ← Int.natCast_inj, Bool.and_true]
      rfl
     ·cases p1N a <;> rfl
end Go.Proofs.Ytnikdnchoahngaa.Am
set_option maxRecDepth 100000
set_option linter.unusedVariables false
namespace Go.Proofs.Ytnikdnchoahngaa.Am
noncomputable section
open Go
def X40 : Fx (List Nat) := ⟨Try.prog, cx, Try.f40, fun r => .str r, 0, fun _ => H0, cxTi, cxOrd⟩
def g40p0 : Pt := nav [0] (bodyAt Try.f40)
def g40p1 : Pt := nav [0, 0, 0, 0] g40p0
def g40p2 : Pt := nav [0, 0, 0, 0] g40p1
def g40p3 : Pt := nav [0, 0] g40p2
def g40p5 : Pt := nav [2, 0] g40p3
def g40p7 : Pt := nav [0, 0] g40p5
def g40p9 : Pt := nav [2, 0] g40p7
def g40p10 : Pt := nav [0, 0] g40p9
def g40p12 : Pt := nav [2, 0] g40p10
def g40p13 : Pt := nav [0, 0] g40p12
def g40 (k : Nat) (a0 : (List Nat)) : Option (List Nat) :=
 if (eqL a0 [40]) then (some ([41] : List Nat)) else (if (eqL a0 [123]) then (some ([125] : List Nat)) else (if (eqL a0 [91]) then (some ([93] : List Nat)) else (if (eqL a0 [60, 60]) then (some ([62, 62] : List Nat)) else (some ([] : List Nat)))))
theorem g40_ok (k : Nat) (a0 : (List Nat)) (r : (List Nat)) (h : g40 k a0 = some r) : PureOk Try.prog 40 [.str a0] (.str r) := by
 refine pure_of X40 (fun _ => rfl) Try.func40 (by decide +kernel) (by kernel_rfl) (t := g40 k a0) ?_ h
 unfold g40
 refine oE (eE := [(0, .str a0)]) (by kernel_rfl) ?_
 let E1 : Env := [(4, .bool (eqL a0 [40])), (5, .bool (eqL a0 [40])), (3, .str a0), (2, .str []), (0, .str a0)]
 refine oR 15 (p' := g40p3) (eE := E1) (H' := (mkH [])) (by kernel_rfl) ?_
 refine oS 4 (b := eqL a0 [40]) (by kernel_rfl) (fun hb => ?_) (fun hb => ?_)
 ·refine oR 6 (p' := .fin) (eE := ((2, .str [41]) :: (4, .bool true) :: E1)) (H' := (mkH [])) (by kernel_rfl) ?_
  exact oT (r := ([41] : List Nat)) (xs := [.str [41]]) (v := .str [41]) (by kernel_rfl) (by kernel_rfl) (by kernel_rfl) (.pures (by kernel_rfl)) (by kernel_rfl)
 ·refine oR 6 (p' := g40p7) (eE := ((6, .bool (eqL a0 [123])) :: (7, .bool (eqL a0 [123])) :: (4, .bool false) :: E1)) (H' := (mkH [])) (by kernel_rfl) ?_
  refine oS 6 (b := eqL a0 [123]) (by kernel_rfl) (fun hb => ?_) (fun hb => ?_)
  ·let E2 : Env := ((2, .str [125]) :: (6, .bool true) :: (6, .bool (eqL a0 [123])) :: (7, .bool (eqL a0 [123])) :: (4, .bool false) :: E1)
   refine oR 6 (p' := .fin) (eE := E2) (H' := (mkH [])) (by kernel_rfl) ?_
   exact oT (r := ([125] : List Nat)) (xs := [.str [125]]) (v := .str [125]) (by kernel_rfl) (by kernel_rfl) (by kernel_rfl) (.pures (by kernel_rfl)) (by kernel_rfl)
  ·let E3 : Env := ((8, .bool (eqL a0 [91])) :: (9, .bool (eqL a0 [91])) :: (6, .bool false) :: (6, .bool (eqL a0 [123])) :: (7, .bool (eqL a0 [123])) :: (4, .bool false) :: E1)
   refine oR 6 (p' := g40p10) (eE := E3) (H' := (mkH [])) (by kernel_rfl) ?_
   refine oK [3, 8] (eE := [(3, .str a0), (8, .bool (eqL a0 [91]))]) (by kernel_rfl) ?_
   refine oS 8 (b := eqL a0 [91]) (by kernel_rfl) (fun hb => ?_) (fun hb => ?_)
   ·refine oR 6 (p' := .fin) (eE := [(2, .str [93]), (8, .bool true), (3, .str a0), (8, .bool (eqL a0 [91]))]) (H' := (mkH [])) (by kernel_rfl) ?_
    exact oT (r := ([93] : List Nat)) (xs := [.str [93]]) (v := .str [93]) (by kernel_rfl) (by kernel_rfl) (by kernel_rfl) (.pures (by kernel_rfl)) (by kernel_rfl)
   ·let E4 : Env := [(10, .bool (eqL a0 [60, 60])), (11, .bool (eqL a0 [60, 60])), (8, .bool false), (3, .str a0), (8, .bool (eqL a0 [91]))]
    refine oR 6 (p' := g40p13) (eE := E4) (H' := (mkH [])) (by kernel_rfl) ?_
    refine oS 10 (b := eqL a0 [60, 60]) (by kernel_rfl) (fun hb => ?_) (fun hb => ?_)
    ·refine oR 6 (p' := .fin) (eE := ((2, .str [62, 62]) :: (10, .bool true) :: E4)) (H' := (mkH [])) (by kernel_rfl) ?_
     exact oT (r := ([62, 62] : List Nat)) (xs := [.str [62, 62]]) (v := .str [62, 62]) (by kernel_rfl) (by kernel_rfl) (by kernel_rfl) (.pures (by kernel_rfl)) (by kernel_rfl)
    ·refine oR 7 (p' := .fin) (eE := ((2, .str []) :: (10, .bool false) :: E4)) (H' := (mkH [])) (by kernel_rfl) ?_
     exact oT (r := ([] : List Nat)) (xs := [.str []]) (v := .str []) (by kernel_rfl) (by kernel_rfl) (by kernel_rfl) (.pures (by kernel_rfl)) (by kernel_rfl)
end
end Go.Proofs.Ytnikdnchoahngaa.Am
set_option maxRecDepth 100000
set_option linter.unusedVariables false
namespace Go.Proofs.Ytnikdnchoahngaa.Am
noncomputable section
open Go
def X36 : Fx Bool := ⟨Try.prog, cx, Try.f36, fun r => .bool r, 0, fun _ => H0, cxTi, cxOrd⟩
def g36c0 : List Nat := [98, 101, 103, 105, 110]
def g36c1 : List Nat := [114, 101, 99, 101, 105, 118, 101]
def g36p0 : Pt := nav [0] (bodyAt Try.f36)
def g36p1 : Pt := nav [0, 0, 0, 0, 0] g36p0
def g36p2 : Pt := nav [0, 0] g36p1
def g36p3 : Pt := nav [1, 0] g36p2
def g36p4 : Pt := nav [2, 0] g36p2
def g36p6 : Pt := nav [0, 0] g36p4
def g36p7 : Pt := nav [1, 0] g36p6
def g36 (k : Nat) (a0 : S37) : Option Bool :=
 if (decide (a0.f0 = 9)) then ((g40 k a0.f1).bind fun x0_2 => some (!(eqL x0_2 []))) else (if (decide (a0.f0 = 8)) then (if (eqL a0.f1 g36c0) then (some true) else (if (eqL a0.f1 [99, 97, 115, 101]) then (some true) else (if (eqL a0.f1 [105, 102]) then (some true) else (some (eqL a0.f1 g36c1))))) else (some false))
theorem g36_ok (k : Nat) (a0 : S37) (r : Bool) (h : g36 k a0 = some r) : PureOk Try.prog 36 [.agg [.int .i64 a0.f0, .str a0.f1, .int .i64 a0.f2]] (.bool r) := by
 refine pure_of X36 (fun _ => rfl) Try.func36 (by decide +kernel) (by kernel_rfl) (t := g36 k a0) ?_ h
 unfold g36
 refine oE (eE := [(0, .agg [.int .i64 a0.f0, .str a0.f1, .int .i64 a0.f2])]) (by kernel_rfl) ?_
 let E1 : Env := [(3, .bool (decide (a0.f0 = 9))), (6, .bool (decide (a0.f0 = 9))), (5, .int .i64 a0.f0), (4, .ptr 0 3 0), (2, .bool false), (1, .ptr 0 3 0), (0, .agg [.int .i64 a0.f0, .str a0.f1, .int .i64 a0.f2])]
 refine oR 14 (p' := g36p2) (eE := E1) (H' := (mkH [⟨[.int .i64 a0.f0, .str a0.f1, .int .i64 a0.f2], 0, false⟩])) (by kernel_rfl) ?_
 refine oS 3 (b := decide (a0.f0 = 9)) (by kernel_rfl) (fun hb => ?_) (fun hb => ?_)
 ·refine oR 5 (p' := (atN 2 (ctl1 g36p3))) (eE := ((8, .str a0.f1) :: (7, .ptr 0 3 1) :: (3, .bool true) :: E1)) (H' := (mkH [⟨[.int .i64 a0.f0, .str a0.f1, .int .i64 a0.f2], 0, false⟩])) (by kernel_rfl) ?_
  refine oC (fun (x0_2 : (List Nat)) => .str x0_2) (atN 3 (ctl1 g36p3)) (fun x0_2 => ((9, .str x0_2) :: (8, .str a0.f1) :: (7, .ptr 0 3 1) :: (3, .bool true) :: E1)) (fi := 40) (args := [.str a0.f1]) (by kernel_rfl) (by kernel_rfl) (fun _ => by kernel_rfl) (fun r h => g40_ok k a0.f1 r h) (fun _ => by kernel_rfl) (fun x0_2 hx0_2 => ?_)
  let E2 : Env := ((2, .bool (!(eqL x0_2 []))) :: (10, .bool (!(eqL x0_2 []))) :: (9, .str x0_2) :: (8, .str a0.f1) :: (7, .ptr 0 3 1) :: (3, .bool true) :: E1)
  refine oR 4 (p' := .fin) (eE := E2) (H' := (mkH [⟨[.int .i64 a0.f0, .str a0.f1, .int .i64 a0.f2], 0, false⟩])) (by kernel_rfl) ?_
  exact oT (r := (!(eqL x0_2 []))) (xs := [.bool (!(eqL x0_2 []))]) (v := .bool (!(eqL x0_2 []))) (by kernel_rfl) (by kernel_rfl) (by kernel_rfl) (.pures (by kernel_rfl)) (by kernel_rfl)
 ·let E3 : Env := ((11, .bool (decide (a0.f0 = 8))) :: (14, .bool (decide (a0.f0 = 8))) :: (13, .int .i64 a0.f0) :: (12, .ptr 0 3 0) :: (3, .bool false) :: E1)
  refine oR 8 (p' := g36p6) (eE := E3) (H' := (mkH [⟨[.int .i64 a0.f0, .str a0.f1, .int .i64 a0.f2], 0, false⟩])) (by kernel_rfl) ?_
  refine oK [1, 11] (eE := [(1, .ptr 0 3 0), (11, .bool (decide (a0.f0 = 8)))]) (by kernel_rfl) ?_
  refine oS 11 (b := decide (a0.f0 = 8)) (by kernel_rfl) (fun hb => ?_) (fun hb => ?_)
  ·let E4 : Env := [(18, .bool (eqL a0.f1 g36c0)), (17, .bool (eqL a0.f1 g36c0)), (16, .str a0.f1), (15, .ptr 0 3 1), (11, .bool true), (1, .ptr 0 3 0), (11, .bool (decide (a0.f0 = 8)))]
   refine oR 7 (p' := (atN 4 (ctl1 g36p7))) (eE := E4) (H' := (mkH [⟨[.int .i64 a0.f0, .str a0.f1, .int .i64 a0.f2], 0, false⟩])) (by kernel_rfl) ?_
   refine oS 18 (b := eqL a0.f1 g36c0) (by kernel_rfl) (fun hb => ?_) (fun hb => ?_)
   ·let E5 : Env := ((2, .bool true) :: (32, .bool true) :: (31, .tuple []) :: (30, .tuple []) :: (29, .tuple []) :: (28, .bool true) :: (27, .bool true) :: (26, .tuple []) :: (25, .tuple []) :: (24, .tuple []) :: (23, .bool true) :: (22, .bool true) :: (21, .tuple []) :: (20, .tuple []) :: (19, .tuple []) :: (18, .bool true) :: E4)
    refine oR 17 (p' := .fin) (eE := E5) (H' := (mkH [⟨[.int .i64 a0.f0, .str a0.f1, .int .i64 a0.f2], 0, false⟩])) (by kernel_rfl) ?_
    exact oT (r := true) (xs := [.bool true]) (v := .bool true) (by kernel_rfl) (by kernel_rfl) (by kernel_rfl) (.pures (by kernel_rfl)) (by kernel_rfl)
   ·let E6 : Env := ((23, .bool (eqL a0.f1 [99, 97, 115, 101])) :: (22, .bool (eqL a0.f1 [99, 97, 115, 101])) :: (21, .bool (eqL a0.f1 [99, 97, 115, 101])) :: (20, .str a0.f1) :: (19, .ptr 0 3 1) :: (18, .bool false) :: E4)
    refine oR 5 (p' := (atN 9 (ctl1 g36p7))) (eE := E6) (H' := (mkH [⟨[.int .i64 a0.f0, .str a0.f1, .int .i64 a0.f2], 0, false⟩])) (by kernel_rfl) ?_
    refine oS 23 (b := eqL a0.f1 [99, 97, 115, 101]) (by kernel_rfl) (fun hb => ?_) (fun hb => ?_)
    ·let E7 : Env := ((2, .bool true) :: (32, .bool true) :: (31, .tuple []) :: (30, .tuple []) :: (29, .tuple []) :: (28, .bool true) :: (27, .bool true) :: (26, .tuple []) :: (25, .tuple []) :: (24, .tuple []) :: (23, .bool true) :: E6)
     refine oR 12 (p' := .fin) (eE := E7) (H' := (mkH [⟨[.int .i64 a0.f0, .str a0.f1, .int .i64 a0.f2], 0, false⟩])) (by kernel_rfl) ?_
     exact oT (r := true) (xs := [.bool true]) (v := .bool true) (by kernel_rfl) (by kernel_rfl) (by kernel_rfl) (.pures (by kernel_rfl)) (by kernel_rfl)
    ·let E8 : Env := ((28, .bool (eqL a0.f1 [105, 102])) :: (27, .bool (eqL a0.f1 [105, 102])) :: (26, .bool (eqL a0.f1 [105, 102])) :: (25, .str a0.f1) :: (24, .ptr 0 3 1) :: (23, .bool false) :: E6)
     refine oR 5 (p' := (atN 14 (ctl1 g36p7))) (eE := E8) (H' := (mkH [⟨[.int .i64 a0.f0, .str a0.f1, .int .i64 a0.f2], 0, false⟩])) (by kernel_rfl) ?_
     refine oS 28 (b := eqL a0.f1 [105, 102]) (by kernel_rfl) (fun hb => ?_) (fun hb => ?_)
     ·let E9 : Env := ((2, .bool true) :: (32, .bool true) :: (31, .tuple []) :: (30, .tuple []) :: (29, .tuple []) :: (28, .bool true) :: E8)
      refine oR 7 (p' := .fin) (eE := E9) (H' := (mkH [⟨[.int .i64 a0.f0, .str a0.f1, .int .i64 a0.f2], 0, false⟩])) (by kernel_rfl) ?_
      exact oT (r := true) (xs := [.bool true]) (v := .bool true) (by kernel_rfl) (by kernel_rfl) (by kernel_rfl) (.pures (by kernel_rfl)) (by kernel_rfl)
     ·let E10 : Env := ((2, .bool (eqL a0.f1 g36c1)) :: (32, .bool (eqL a0.f1 g36c1)) :: (31, .bool (eqL a0.f1 g36c1)) :: (30, .str a0.f1) :: (29, .ptr 0 3 1) :: (28, .bool false) :: E8)
      refine oR 7 (p' := .fin) (eE := E10) (H' := (mkH [⟨[.int .i64 a0.f0, .str a0.f1, .int .i64 a0.f2], 0, false⟩])) (by kernel_rfl) ?_
      exact oT (r := (eqL a0.f1 g36c1)) (xs := [.bool (eqL a0.f1 g36c1)]) (v := .bool (eqL a0.f1 g36c1)) (by kernel_rfl) (by kernel_rfl) (by kernel_rfl) (.pures (by kernel_rfl)) (by kernel_rfl)
  ·refine oR 7 (p' := .fin) (eE := [(2, .bool false), (11, .bool false), (1, .ptr 0 3 0), (11, .bool (decide (a0.f0 = 8)))]) (H' := (mkH [⟨[.int .i64 a0.f0, .str a0.f1, .int .i64 a0.f2], 0, false⟩])) (by kernel_rfl) ?_
   exact oT (r := false) (xs := [.bool false]) (v := .bool false) (by kernel_rfl) (by kernel_rfl) (by kernel_rfl) (.pures (by kernel_rfl)) (by kernel_rfl)
end
end Go.Proofs.Ytnikdnchoahngaa.Am
set_option maxRecDepth 100000
set_option linter.unusedVariables false
namespace Go.Proofs.Ytnikdnchoahngaa.Am
noncomputable section
open Go
def X38 : Fx Bool := ⟨Try.prog, cx, Try.f38, fun r => .bool r, 0, fun _ => H0, cxTi, cxOrd⟩
def g38p0 : Pt := nav [0] (bodyAt Try.f38)
def g38p1 : Pt := nav [0, 0, 0, 0] g38p0
def g38p2 : Pt := nav [0, 0] g38p1
def g38p3 : Pt := nav [1, 0] g38p2
def g38p4 : Pt := nav [2, 0, 0] g38p2
def g38 (k : Nat) (a0 : S37) : Option Bool :=
 if (decide (a0.f0 = 9)) then (if (eqL a0.f1 [41]) then (some true) else (if (eqL a0.f1 [125]) then (some true) else (if (eqL a0.f1 [93]) then (some true) else (some (eqL a0.f1 [62, 62]))))) else (if (decide (a0.f0 = 8)) then (some (eqL a0.f1 [101, 110, 100])) else (some false))
theorem g38_ok (k : Nat) (a0 : S37) (r : Bool) (h : g38 k a0 = some r) : PureOk Try.prog 38 [.agg [.int .i64 a0.f0, .str a0.f1, .int .i64 a0.f2]] (.bool r) := by
 refine pure_of X38 (fun _ => rfl) Try.func38 (by decide +kernel) (by kernel_rfl) (t := g38 k a0) ?_ h
 unfold g38
 refine oE (eE := [(0, .agg [.int .i64 a0.f0, .str a0.f1, .int .i64 a0.f2])]) (by kernel_rfl) ?_
 let E1 : Env := [(5, .bool (decide (a0.f0 = 9))), (4, .int .i64 a0.f0), (3, .ptr 0 3 0), (2, .bool false), (1, .ptr 0 3 0), (0, .agg [.int .i64 a0.f0, .str a0.f1, .int .i64 a0.f2])]
 refine oR 12 (p' := g38p2) (eE := E1) (H' := (mkH [⟨[.int .i64 a0.f0, .str a0.f1, .int .i64 a0.f2], 0, false⟩])) (by kernel_rfl) ?_
 refine oS 5 (b := decide (a0.f0 = 9)) (by kernel_rfl) (fun hb => ?_) (fun hb => ?_)
 ·let E2 : Env := ((9, .bool (eqL a0.f1 [41])) :: (8, .bool (eqL a0.f1 [41])) :: (7, .str a0.f1) :: (6, .ptr 0 3 1) :: (5, .bool true) :: E1)
  refine oR 7 (p' := (atN 4 (ctl1 g38p3))) (eE := E2) (H' := (mkH [⟨[.int .i64 a0.f0, .str a0.f1, .int .i64 a0.f2], 0, false⟩])) (by kernel_rfl) ?_
  refine oS 9 (b := eqL a0.f1 [41]) (by kernel_rfl) (fun hb => ?_) (fun hb => ?_)
  ·let E3 : Env := ((2, .bool true) :: (23, .bool true) :: (22, .tuple []) :: (21, .tuple []) :: (20, .tuple []) :: (19, .bool true) :: (18, .bool true) :: (17, .tuple []) :: (16, .tuple []) :: (15, .tuple []) :: (14, .bool true) :: (13, .bool true) :: (12, .tuple []) :: (11, .tuple []) :: (10, .tuple []) :: (9, .bool true) :: E2)
   refine oR 17 (p' := .fin) (eE := E3) (H' := (mkH [⟨[.int .i64 a0.f0, .str a0.f1, .int .i64 a0.f2], 0, false⟩])) (by kernel_rfl) ?_
   exact oT (r := true) (xs := [.bool true]) (v := .bool true) (by kernel_rfl) (by kernel_rfl) (by kernel_rfl) (.pures (by kernel_rfl)) (by kernel_rfl)
  ·let E4 : Env := ((14, .bool (eqL a0.f1 [125])) :: (13, .bool (eqL a0.f1 [125])) :: (12, .bool (eqL a0.f1 [125])) :: (11, .str a0.f1) :: (10, .ptr 0 3 1) :: (9, .bool false) :: E2)
   refine oR 5 (p' := (atN 9 (ctl1 g38p3))) (eE := E4) (H' := (mkH [⟨[.int .i64 a0.f0, .str a0.f1, .int .i64 a0.f2], 0, false⟩])) (by kernel_rfl) ?_
   refine oS 14 (b := eqL a0.f1 [125]) (by kernel_rfl) (fun hb => ?_) (fun hb => ?_)
   ·let E5 : Env := ((2, .bool true) :: (23, .bool true) :: (22, .tuple []) :: (21, .tuple []) :: (20, .tuple []) :: (19, .bool true) :: (18, .bool true) :: (17, .tuple []) :: (16, .tuple []) :: (15, .tuple []) :: (14, .bool true) :: E4)
    refine oR 12 (p' := .fin) (eE := E5) (H' := (mkH [⟨[.int .i64 a0.f0, .str a0.f1, .int .i64 a0.f2], 0, false⟩])) (by kernel_rfl) ?_
    exact oT (r := true) (xs := [.bool true]) (v := .bool true) (by kernel_rfl) (by kernel_rfl) (by kernel_rfl) (.pures (by kernel_rfl)) (by kernel_rfl)
   ·let E6 : Env := ((19, .bool (eqL a0.f1 [93])) :: (18, .bool (eqL a0.f1 [93])) :: (17, .bool (eqL a0.f1 [93])) :: (16, .str a0.f1) :: (15, .ptr 0 3 1) :: (14, .bool false) :: E4)
    refine oR 5 (p' := (atN 14 (ctl1 g38p3))) (eE := E6) (H' := (mkH [⟨[.int .i64 a0.f0, .str a0.f1, .int .i64 a0.f2], 0, false⟩])) (by kernel_rfl) ?_
    refine oS 19 (b := eqL a0.f1 [93]) (by kernel_rfl) (fun hb => ?_) (fun hb => ?_)
    ·let E7 : Env := ((2, .bool true) :: (23, .bool true) :: (22, .tuple []) :: (21, .tuple []) :: (20, .tuple []) :: (19, .bool true) :: E6)
     refine oR 7 (p' := .fin) (eE := E7) (H' := (mkH [⟨[.int .i64 a0.f0, .str a0.f1, .int .i64 a0.f2], 0, false⟩])) (by kernel_rfl) ?_
     exact oT (r := true) (xs := [.bool true]) (v := .bool true) (by kernel_rfl) (by kernel_rfl) (by kernel_rfl) (.pures (by kernel_rfl)) (by kernel_rfl)
    ·let E8 : Env := ((2, .bool (eqL a0.f1 [62, 62])) :: (23, .bool (eqL a0.f1 [62, 62])) :: (22, .bool (eqL a0.f1 [62, 62])) :: (21, .str a0.f1) :: (20, .ptr 0 3 1) :: (19, .bool false) :: E6)
     refine oR 7 (p' := .fin) (eE := E8) (H' := (mkH [⟨[.int .i64 a0.f0, .str a0.f1, .int .i64 a0.f2], 0, false⟩])) (by kernel_rfl) ?_
     exact oT (r := (eqL a0.f1 [62, 62])) (xs := [.bool (eqL a0.f1 [62, 62])]) (v := .bool (eqL a0.f1 [62, 62])) (by kernel_rfl) (by kernel_rfl) (by kernel_rfl) (.pures (by kernel_rfl)) (by kernel_rfl)
 ·let E9 : Env := ((27, .bool (decide (a0.f0 = 8))) :: (26, .bool (decide (a0.f0 = 8))) :: (25, .int .i64 a0.f0) :: (24, .ptr 0 3 0) :: (5, .bool false) :: E1)
  refine oR 8 (p' := (atN 4 (ctl1 g38p4))) (eE := E9) (H' := (mkH [⟨[.int .i64 a0.f0, .str a0.f1, .int .i64 a0.f2], 0, false⟩])) (by kernel_rfl) ?_
  refine oS 27 (b := decide (a0.f0 = 8)) (by kernel_rfl) (fun hb => ?_) (fun hb => ?_)
  ·let E10 : Env := ((2, .bool (eqL a0.f1 [101, 110, 100])) :: (31, .bool (eqL a0.f1 [101, 110, 100])) :: (30, .bool (eqL a0.f1 [101, 110, 100])) :: (29, .str a0.f1) :: (28, .ptr 0 3 1) :: (27, .bool true) :: E9)
   refine oR 7 (p' := .fin) (eE := E10) (H' := (mkH [⟨[.int .i64 a0.f0, .str a0.f1, .int .i64 a0.f2], 0, false⟩])) (by kernel_rfl) ?_
   exact oT (r := (eqL a0.f1 [101, 110, 100])) (xs := [.bool (eqL a0.f1 [101, 110, 100])]) (v := .bool (eqL a0.f1 [101, 110, 100])) (by kernel_rfl) (by kernel_rfl) (by kernel_rfl) (.pures (by kernel_rfl)) (by kernel_rfl)
  ·let E11 : Env := ((2, .bool false) :: (31, .bool false) :: (30, .tuple []) :: (29, .tuple []) :: (28, .tuple []) :: (27, .bool false) :: E9)
   refine oR 7 (p' := .fin) (eE := E11) (H' := (mkH [⟨[.int .i64 a0.f0, .str a0.f1, .int .i64 a0.f2], 0, false⟩])) (by kernel_rfl) ?_
   exact oT (r := false) (xs := [.bool false]) (v := .bool false) (by kernel_rfl) (by kernel_rfl) (by kernel_rfl) (.pures (by kernel_rfl)) (by kernel_rfl)
end
end Go.Proofs.Ytnikdnchoahngaa.Am
set_option maxRecDepth 100000
set_option linter.unusedVariables false
namespace Go.Proofs.Ytnikdnchoahngaa.Am
noncomputable section
open Go
def X45 : Fx Bool := ⟨Try.prog, cx, Try.f45, fun r => .bool r, 0, fun _ => H0, cxTi, cxOrd⟩
def g45p0 : Pt := nav [0] (bodyAt Try.f45)
def g45p1 : Pt := nav [0, 0, 0, 0] g45p0
def g45p2 : Pt := nav [0, 0, 0, 0] g45p1
def g45p3 : Pt := nav [0, 0, 0] g45p2
def g45p4 : Pt := nav [0, 0] g45p3
def g45p5 : Pt := nav [1, 0, 0, 0, 0] g45p4
def g45p7 : Pt := nav [0, 0] g45p5
def g45_l1 (k : Nat)  (a0 : (List (List Nat))) (a1 : (List Nat)) (n : Nat) : Int → Option Bool :=
 Nat.rec (motive := fun _ => Int → Option Bool) (fun _ => none) (fun _ ih => fun (y1_0 : Int) => if (decide (y1_0 < (a0.length : Int))) then ((nthL a0 y1_0).bind fun x0_2 => if (eqL x0_2 a1) then (some true) else (ih (fW .i64 (y1_0 + 1)))) else (some false)) n
theorem g45_l1_s (k : Nat)  (a0 : (List (List Nat))) (a1 : (List Nat)) (n : Nat) (y1_0 : Int) : g45_l1 k a0 a1 (n + 1) y1_0 = (if (decide (y1_0 < (a0.length : Int))) then ((nthL a0 y1_0).bind fun x0_2 => if (eqL x0_2 a1) then (some true) else ((g45_l1 k a0 a1 n) (fW .i64 (y1_0 + 1)))) else (some false)) := rfl
theorem g45_l1_ok (k : Nat)  (a0 : (List (List Nat))) (a1 : (List Nat))  : ∀ (n : Nat) (y1_0 : Int), Ok X45 g45p2 [(0, .vec (a0).length 1 ((a0).flatMap e9)), (1, .str a1), (5, .int .i64 y1_0)] (mkH []) (g45_l1 k a0 a1 n y1_0)
 | 0, _ => ok_none
 | n + 1, y1_0 => by
  have ih := g45_l1_ok k a0 a1 n
  rw [g45_l1_s]
  refine ok_ent (p' := nav [0] g45p2) (by kernel_rfl) ?_
  let E1 : Env := [(9, .bool (decide (y1_0 < (a0.length : Int)))), (8, .int .i64 (a0.length : Int)), (7, .vec (a0).length 1 ((a0).flatMap e9)), (6, .int .i64 y1_0), (0, .vec (a0).length 1 ((a0).flatMap e9)), (1, .str a1), (5, .int .i64 y1_0)]
  refine oR 8 (p' := g45p4) (eE := E1) (H' := (mkH [])) (by kernel_rfl) ?_
  refine oS 9 (b := decide (y1_0 < (a0.length : Int))) (by kernel_rfl) (fun hb => ?_) (fun hb => ?_)
  ·refine oR 8 (p' := (atN 2 (ctl1 g45p5))) (eE := ((13, .int .i64 y1_0) :: (12, .vec (a0).length 1 ((a0).flatMap e9)) :: (9, .bool true) :: E1)) (H' := (mkH [])) (by kernel_rfl) ?_
   refine oH (fun (x0_2 : (List Nat)) => (.vptr [.str x0_2], (mkH []))) (atN 3 (ctl1 g45p5)) (fun x0_2 => ((14, .vptr [.str x0_2]) :: (13, .int .i64 y1_0) :: (12, .vec (a0).length 1 ((a0).flatMap e9)) :: (9, .bool true) :: E1)) (vidxH (sz := 1) e9_len (by kernel_rfl)) (fun _ => by kernel_rfl) (fun x0_2 hx0_2 => ?_)
   let E2 : Env := ((17, .bool (eqL x0_2 a1)) :: (16, .str a1) :: (15, .str x0_2) :: (14, .vptr [.str x0_2]) :: (13, .int .i64 y1_0) :: (12, .vec (a0).length 1 ((a0).flatMap e9)) :: (9, .bool true) :: E1)
   refine oR 4 (p' := g45p7) (eE := E2) (H' := (mkH [])) (by kernel_rfl) ?_
   refine oK [0, 1, 5, 17] (eE := [(0, .vec (a0).length 1 ((a0).flatMap e9)), (1, .str a1), (5, .int .i64 y1_0), (17, .bool (eqL x0_2 a1))]) (by kernel_rfl) ?_
   refine oS 17 (b := eqL x0_2 a1) (by kernel_rfl) (fun hb => ?_) (fun hb => ?_)
   ·let E3 : Env := [(4, .bool true), (17, .bool true), (0, .vec (a0).length 1 ((a0).flatMap e9)), (1, .str a1), (5, .int .i64 y1_0), (17, .bool (eqL x0_2 a1))]
    refine oR 6 (p' := .fin) (eE := E3) (H' := (mkH [])) (by kernel_rfl) ?_
    exact oT (r := true) (xs := [.bool true]) (v := .bool true) (by kernel_rfl) (by kernel_rfl) (by kernel_rfl) (.pures (by kernel_rfl)) (by kernel_rfl)
   ·let E4 : Env := [(5, .int .i64 (fW .i64 (y1_0 + 1))), (11, .int .i64 (fW .i64 (y1_0 + 1))), (10, .int .i64 y1_0), (17, .bool false), (0, .vec (a0).length 1 ((a0).flatMap e9)), (1, .str a1), (5, .int .i64 y1_0), (17, .bool (eqL x0_2 a1))]
    refine oR 7 (p' := g45p2) (eE := E4) (H' := (mkH [])) (by kernel_rfl) ?_
    refine oK [0, 1, 5] (eE := [(0, .vec (a0).length 1 ((a0).flatMap e9)), (1, .str a1), (5, .int .i64 (fW .i64 (y1_0 + 1)))]) (by kernel_rfl) ?_
    exact ih (fW .i64 (y1_0 + 1))
  ·refine oR 7 (p' := .fin) (eE := ((4, .bool false) :: (9, .bool false) :: E1)) (H' := (mkH [])) (by kernel_rfl) ?_
   exact oT (r := false) (xs := [.bool false]) (v := .bool false) (by kernel_rfl) (by kernel_rfl) (by kernel_rfl) (.pures (by kernel_rfl)) (by kernel_rfl)
def g45 (k : Nat) (a0 : (List (List Nat))) (a1 : (List Nat)) : Option Bool :=
 g45_l1 k a0 a1 k 0
theorem g45_ok (k : Nat) (a0 : (List (List Nat))) (a1 : (List Nat)) (r : Bool) (h : g45 k a0 a1 = some r) : PureOk Try.prog 45 [.vec (a0).length 1 ((a0).flatMap e9), .str a1] (.bool r) := by
 refine pure_of X45 (fun _ => rfl) Try.func45 (by decide +kernel) (by kernel_rfl) (t := g45 k a0 a1) ?_ h
 unfold g45
 refine oE (eE := [(0, .vec (a0).length 1 ((a0).flatMap e9)), (1, .str a1)]) (by kernel_rfl) ?_
 refine oR 11 (p' := g45p2) (eE := [(5, .int .i64 0), (4, .bool false), (0, .vec (a0).length 1 ((a0).flatMap e9)), (1, .str a1)]) (H' := (mkH [])) (by kernel_rfl) ?_
 refine oK [0, 1, 5] (eE := [(0, .vec (a0).length 1 ((a0).flatMap e9)), (1, .str a1), (5, .int .i64 0)]) (by kernel_rfl) ?_
 exact (g45_l1_ok k a0 a1 k) 0
end
end Go.Proofs.Ytnikdnchoahngaa.Am
set_option maxRecDepth 100000
set_option linter.unusedVariables false
namespace Go.Proofs.Ytnikdnchoahngaa.Am
noncomputable section
open Go
def X37 : Fx Bool := ⟨Try.prog, cx, Try.f37, fun r => .bool r, 0, fun _ => H0, cxTi, cxOrd⟩
def g37c0 : List (List Nat) := [([40] : List Nat), ([123] : List Nat), ([91] : List Nat), ([60, 60] : List Nat)]
def g37c1 : List Nat := [98, 101, 103, 105, 110]
def g37c2 : List Nat := [114, 101, 99, 101, 105, 118, 101]
def g37c3 : List (List Nat) := [g37c1, ([99, 97, 115, 101] : List Nat), ([105, 102] : List Nat), g37c2]
def g37p0 : Pt := nav [0] (bodyAt Try.f37)
def g37p1 : Pt := nav [0, 0, 0] g37p0
def g37 (k : Nat) (a0 : S37) : Option Bool :=
 if (decide (a0.f0 = 9)) then ((g45 k g37c0 a0.f1).bind fun x0_7 => if x0_7 then (some true) else (if (decide (a0.f0 = 8)) then ((g45 k g37c3 a0.f1).bind fun x0_17 => some x0_17) else (some false))) else (if (decide (a0.f0 = 8)) then ((g45 k g37c3 a0.f1).bind fun x0_17 => some x0_17) else (some false))
theorem g37_ok (k : Nat) (a0 : S37) (r : Bool) (h : g37 k a0 = some r) : PureOk Try.prog 37 [.agg [.int .i64 a0.f0, .str a0.f1, .int .i64 a0.f2]] (.bool r) := by
 refine pure_of X37 (fun _ => rfl) Try.func37 (by decide +kernel) (by kernel_rfl) (t := g37 k a0) ?_ h
 unfold g37
 refine oE (eE := [(0, .agg [.int .i64 a0.f0, .str a0.f1, .int .i64 a0.f2])]) (by kernel_rfl) ?_
 let E1 : Env := [(6, .bool (decide (a0.f0 = 9))), (5, .bool (decide (a0.f0 = 9))), (4, .int .i64 a0.f0), (3, .ptr 0 3 0), (2, .bool false), (1, .ptr 0 3 0), (0, .agg [.int .i64 a0.f0, .str a0.f1, .int .i64 a0.f2])]
 refine oR 11 (p' := (atN 4 (ctl1 g37p1))) (eE := E1) (H' := (mkH [⟨[.int .i64 a0.f0, .str a0.f1, .int .i64 a0.f2], 0, false⟩])) (by kernel_rfl) ?_
 refine oS 6 (b := decide (a0.f0 = 9)) (by kernel_rfl) (fun hb => ?_) (fun hb => ?_)
 ·refine oR 1 (p' := (atN 5 (ctl1 g37p1))) (eE := ((7, .slice 1 4 0 4 1) :: (6, .bool true) :: E1)) (H' := (mkH [⟨[.int .i64 a0.f0, .str a0.f1, .int .i64 a0.f2], 0, false⟩, ⟨[.str [40], .str [123], .str [91], .str [60, 60]], 0, false⟩])) (by kernel_rfl) ?_
  refine ok_frz [⟨[.int .i64 a0.f0, .str a0.f1, .int .i64 a0.f2], 0, false⟩, ⟨[.str [40], .str [123], .str [91], .str [60, 60]], 0, false⟩] 7 1 4 1 0 [.str [40], .str [123], .str [91], .str [60, 60]] [0, 1, 2, 3, 4, 5, 6] (env0 := [(0, .agg [.int .i64 a0.f0, .str a0.f1, .int .i64 a0.f2]), (1, .ptr 0 3 0), (2, .bool false), (3, .ptr 0 3 0), (4, .int .i64 a0.f0), (5, .bool (decide (a0.f0 = 9))), (6, .bool true)]) (by kernel_rfl) rfl (.inl (by kernel_rfl)) rfl rfl (by decide) (by kernel_rfl) (by kernel_rfl) (by kernel_rfl) ⟨.inr (by kernel_rfl), ⟨.inl rfl, trivial⟩⟩ ?_
  refine oE (eE := [(7, .vec (g37c0).length 1 ((g37c0).flatMap e9)), (0, .agg [.int .i64 a0.f0, .str a0.f1, .int .i64 a0.f2]), (1, .ptr 0 3 0), (2, .bool false), (3, .ptr 0 3 0), (4, .int .i64 a0.f0), (5, .bool (decide (a0.f0 = 9))), (6, .bool true)]) (by kernel_rfl) ?_
  refine ok_heap (H' := (mkH [⟨[.int .i64 a0.f0, .str a0.f1, .int .i64 a0.f2], 0, false⟩, ⟨[], 0, false⟩])) (by kernel_rfl) ?_
  let E2 : Env := [(9, .str a0.f1), (8, .ptr 0 3 1), (7, .vec (g37c0).length 1 ((g37c0).flatMap e9)), (0, .agg [.int .i64 a0.f0, .str a0.f1, .int .i64 a0.f2]), (1, .ptr 0 3 0), (2, .bool false), (3, .ptr 0 3 0), (4, .int .i64 a0.f0), (5, .bool (decide (a0.f0 = 9))), (6, .bool true)]
  refine oR 2 (p' := (atN 7 (ctl1 g37p1))) (eE := E2) (H' := (mkH [⟨[.int .i64 a0.f0, .str a0.f1, .int .i64 a0.f2], 0, false⟩, ⟨[], 0, false⟩])) (by kernel_rfl) ?_
  refine oC (fun (x0_7 : Bool) => .bool x0_7) (atN 8 (ctl1 g37p1)) (fun x0_7 => ((10, .bool x0_7) :: E2)) (fi := 45) (args := [.vec (g37c0).length 1 ((g37c0).flatMap e9), .str a0.f1]) (by kernel_rfl) (by kernel_rfl) (fun _ => by kernel_rfl) (fun r h => g45_ok k g37c0 a0.f1 r h) (fun _ => by kernel_rfl) (fun x0_7 hx0_7 => ?_)
  refine oR 2 (p' := (atN 10 (ctl1 g37p1))) (eE := ((12, .bool x0_7) :: (11, .bool x0_7) :: (10, .bool x0_7) :: E2)) (H' := (mkH [⟨[.int .i64 a0.f0, .str a0.f1, .int .i64 a0.f2], 0, false⟩, ⟨[], 0, false⟩])) (by kernel_rfl) ?_
  refine oS 12 (b := x0_7) (by kernel_rfl) (fun hb => ?_) (fun hb => ?_)
  ·let E3 : Env := ((2, .bool true) :: (22, .bool true) :: (21, .tuple []) :: (20, .tuple []) :: (19, .tuple []) :: (18, .tuple []) :: (17, .tuple []) :: (16, .tuple []) :: (15, .tuple []) :: (14, .tuple []) :: (13, .tuple []) :: (12, .bool true) :: (12, .bool x0_7) :: (11, .bool x0_7) :: (10, .bool x0_7) :: E2)
   refine oR 13 (p' := .fin) (eE := E3) (H' := (mkH [⟨[.int .i64 a0.f0, .str a0.f1, .int .i64 a0.f2], 0, false⟩, ⟨[], 0, false⟩])) (by kernel_rfl) ?_
   exact oT (r := true) (xs := [.bool true]) (v := .bool true) (by kernel_rfl) (by kernel_rfl) (by kernel_rfl) (.pures (by kernel_rfl)) (by kernel_rfl)
  ·let E4 : Env := ((16, .bool (decide (a0.f0 = 8))) :: (15, .bool (decide (a0.f0 = 8))) :: (14, .int .i64 a0.f0) :: (13, .ptr 0 3 0) :: (12, .bool false) :: (12, .bool x0_7) :: (11, .bool x0_7) :: (10, .bool x0_7) :: E2)
   refine oR 4 (p' := (atN 14 (ctl1 g37p1))) (eE := E4) (H' := (mkH [⟨[.int .i64 a0.f0, .str a0.f1, .int .i64 a0.f2], 0, false⟩, ⟨[], 0, false⟩])) (by kernel_rfl) ?_
   refine oS 16 (b := decide (a0.f0 = 8)) (by kernel_rfl) (fun hb => ?_) (fun hb => ?_)
   ·refine oR 1 (p' := (atN 15 (ctl1 g37p1))) (eE := ((17, .slice 2 4 0 4 1) :: (16, .bool true) :: E4)) (H' := (mkH [⟨[.int .i64 a0.f0, .str a0.f1, .int .i64 a0.f2], 0, false⟩, ⟨[], 0, false⟩, ⟨[.str g37c1, .str [99, 97, 115, 101], .str [105, 102], .str g37c2], 0, false⟩])) (by kernel_rfl) ?_
    refine ok_frz [⟨[.int .i64 a0.f0, .str a0.f1, .int .i64 a0.f2], 0, false⟩, ⟨[], 0, false⟩, ⟨[.str g37c1, .str [99, 97, 115, 101], .str [105, 102], .str g37c2], 0, false⟩] 17 2 4 1 0 [.str g37c1, .str [99, 97, 115, 101], .str [105, 102], .str g37c2] [0, 1, 2, 3, 4, 5, 6, 7, 8, 9, 10, 11, 12, 13, 14, 15, 16] (env0 := [(0, .agg [.int .i64 a0.f0, .str a0.f1, .int .i64 a0.f2]), (1, .ptr 0 3 0), (2, .bool false), (3, .ptr 0 3 0), (4, .int .i64 a0.f0), (5, .bool (decide (a0.f0 = 9))), (6, .bool true), (7, .vec (g37c0).length 1 ((g37c0).flatMap e9)), (8, .ptr 0 3 1), (9, .str a0.f1), (10, .bool x0_7), (11, .bool x0_7), (12, .bool false), (13, .ptr 0 3 0), (14, .int .i64 a0.f0), (15, .bool (decide (a0.f0 = 8))), (16, .bool true)]) (by kernel_rfl) rfl (.inl (by kernel_rfl)) rfl rfl (by decide) (by kernel_rfl) (by kernel_rfl) (by kernel_rfl) ⟨.inr (by kernel_rfl), ⟨.inr (by kernel_rfl), ⟨.inl rfl, trivial⟩⟩⟩ ?_
    refine oE (eE := [(17, .vec (g37c3).length 1 ((g37c3).flatMap e9)), (0, .agg [.int .i64 a0.f0, .str a0.f1, .int .i64 a0.f2]), (1, .ptr 0 3 0), (2, .bool false), (3, .ptr 0 3 0), (4, .int .i64 a0.f0), (5, .bool (decide (a0.f0 = 9))), (6, .bool true), (7, .vec (g37c0).length 1 ((g37c0).flatMap e9)), (8, .ptr 0 3 1), (9, .str a0.f1), (10, .bool x0_7), (11, .bool x0_7), (12, .bool false), (13, .ptr 0 3 0), (14, .int .i64 a0.f0), (15, .bool (decide (a0.f0 = 8))), (16, .bool true)]) (by kernel_rfl) ?_
    refine ok_heap (H' := (mkH [⟨[.int .i64 a0.f0, .str a0.f1, .int .i64 a0.f2], 0, false⟩, ⟨[], 0, false⟩, ⟨[], 0, false⟩])) (by kernel_rfl) ?_
    let E5 : Env := [(19, .str a0.f1), (18, .ptr 0 3 1), (17, .vec (g37c3).length 1 ((g37c3).flatMap e9)), (0, .agg [.int .i64 a0.f0, .str a0.f1, .int .i64 a0.f2]), (1, .ptr 0 3 0), (2, .bool false), (3, .ptr 0 3 0), (4, .int .i64 a0.f0), (5, .bool (decide (a0.f0 = 9))), (6, .bool true), (7, .vec (g37c0).length 1 ((g37c0).flatMap e9)), (8, .ptr 0 3 1), (9, .str a0.f1), (10, .bool x0_7), (11, .bool x0_7), (12, .bool false), (13, .ptr 0 3 0), (14, .int .i64 a0.f0), (15, .bool (decide (a0.f0 = 8))), (16, .bool true)]
    refine oR 2 (p' := (atN 17 (ctl1 g37p1))) (eE := E5) (H' := (mkH [⟨[.int .i64 a0.f0, .str a0.f1, .int .i64 a0.f2], 0, false⟩, ⟨[], 0, false⟩, ⟨[], 0, false⟩])) (by kernel_rfl) ?_
    refine oC (fun (x0_17 : Bool) => .bool x0_17) (atN 18 (ctl1 g37p1)) (fun x0_17 => ((20, .bool x0_17) :: E5)) (fi := 45) (args := [.vec (g37c3).length 1 ((g37c3).flatMap e9), .str a0.f1]) (by kernel_rfl) (by kernel_rfl) (fun _ => by kernel_rfl) (fun r h => g45_ok k g37c3 a0.f1 r h) (fun _ => by kernel_rfl) (fun x0_17 hx0_17 => ?_)
    refine oR 5 (p' := .fin) (eE := ((2, .bool x0_17) :: (22, .bool x0_17) :: (21, .bool x0_17) :: (20, .bool x0_17) :: E5)) (H' := (mkH [⟨[.int .i64 a0.f0, .str a0.f1, .int .i64 a0.f2], 0, false⟩, ⟨[], 0, false⟩, ⟨[], 0, false⟩])) (by kernel_rfl) ?_
    exact oT (r := x0_17) (xs := [.bool x0_17]) (v := .bool x0_17) (by kernel_rfl) (by kernel_rfl) (by kernel_rfl) (.pures (by kernel_rfl)) (by kernel_rfl)
   ·let E6 : Env := ((2, .bool false) :: (22, .bool false) :: (21, .bool false) :: (20, .tuple []) :: (19, .tuple []) :: (18, .tuple []) :: (17, .tuple []) :: (16, .bool false) :: E4)
    refine oR 9 (p' := .fin) (eE := E6) (H' := (mkH [⟨[.int .i64 a0.f0, .str a0.f1, .int .i64 a0.f2], 0, false⟩, ⟨[], 0, false⟩])) (by kernel_rfl) ?_
    exact oT (r := false) (xs := [.bool false]) (v := .bool false) (by kernel_rfl) (by kernel_rfl) (by kernel_rfl) (.pures (by kernel_rfl)) (by kernel_rfl)
 ·let E7 : Env := ((16, .bool (decide (a0.f0 = 8))) :: (15, .bool (decide (a0.f0 = 8))) :: (14, .int .i64 a0.f0) :: (13, .ptr 0 3 0) :: (12, .bool false) :: (11, .bool false) :: (10, .tuple []) :: (9, .tuple []) :: (8, .tuple []) :: (7, .tuple []) :: (6, .bool false) :: E1)
  refine oR 10 (p' := (atN 14 (ctl1 g37p1))) (eE := E7) (H' := (mkH [⟨[.int .i64 a0.f0, .str a0.f1, .int .i64 a0.f2], 0, false⟩])) (by kernel_rfl) ?_
  refine oS 16 (b := decide (a0.f0 = 8)) (by kernel_rfl) (fun hb => ?_) (fun hb => ?_)
  ·refine oR 1 (p' := (atN 15 (ctl1 g37p1))) (eE := ((17, .slice 1 4 0 4 1) :: (16, .bool true) :: E7)) (H' := (mkH [⟨[.int .i64 a0.f0, .str a0.f1, .int .i64 a0.f2], 0, false⟩, ⟨[.str g37c1, .str [99, 97, 115, 101], .str [105, 102], .str g37c2], 0, false⟩])) (by kernel_rfl) ?_
   refine ok_frz [⟨[.int .i64 a0.f0, .str a0.f1, .int .i64 a0.f2], 0, false⟩, ⟨[.str g37c1, .str [99, 97, 115, 101], .str [105, 102], .str g37c2], 0, false⟩] 17 1 4 1 0 [.str g37c1, .str [99, 97, 115, 101], .str [105, 102], .str g37c2] [0, 1, 2, 3, 4, 5, 6, 7, 8, 9, 10, 11, 12, 13, 14, 15, 16] (env0 := [(0, .agg [.int .i64 a0.f0, .str a0.f1, .int .i64 a0.f2]), (1, .ptr 0 3 0), (2, .bool false), (3, .ptr 0 3 0), (4, .int .i64 a0.f0), (5, .bool (decide (a0.f0 = 9))), (6, .bool false), (7, .tuple []), (8, .tuple []), (9, .tuple []), (10, .tuple []), (11, .bool false), (12, .bool false), (13, .ptr 0 3 0), (14, .int .i64 a0.f0), (15, .bool (decide (a0.f0 = 8))), (16, .bool true)]) (by kernel_rfl) rfl (.inl (by kernel_rfl)) rfl rfl (by decide) (by kernel_rfl) (by kernel_rfl) (by kernel_rfl) ⟨.inr (by kernel_rfl), ⟨.inl rfl, trivial⟩⟩ ?_
   refine oE (eE := [(17, .vec (g37c3).length 1 ((g37c3).flatMap e9)), (0, .agg [.int .i64 a0.f0, .str a0.f1, .int .i64 a0.f2]), (1, .ptr 0 3 0), (2, .bool false), (3, .ptr 0 3 0), (4, .int .i64 a0.f0), (5, .bool (decide (a0.f0 = 9))), (6, .bool false), (7, .tuple []), (8, .tuple []), (9, .tuple []), (10, .tuple []), (11, .bool false), (12, .bool false), (13, .ptr 0 3 0), (14, .int .i64 a0.f0), (15, .bool (decide (a0.f0 = 8))), (16, .bool true)]) (by kernel_rfl) ?_
   refine ok_heap (H' := (mkH [⟨[.int .i64 a0.f0, .str a0.f1, .int .i64 a0.f2], 0, false⟩, ⟨[], 0, false⟩])) (by kernel_rfl) ?_
   let E8 : Env := [(19, .str a0.f1), (18, .ptr 0 3 1), (17, .vec (g37c3).length 1 ((g37c3).flatMap e9)), (0, .agg [.int .i64 a0.f0, .str a0.f1, .int .i64 a0.f2]), (1, .ptr 0 3 0), (2, .bool false), (3, .ptr 0 3 0), (4, .int .i64 a0.f0), (5, .bool (decide (a0.f0 = 9))), (6, .bool false), (7, .tuple []), (8, .tuple []), (9, .tuple []), (10, .tuple []), (11, .bool false), (12, .bool false), (13, .ptr 0 3 0), (14, .int .i64 a0.f0), (15, .bool (decide (a0.f0 = 8))), (16, .bool true)]
   refine oR 2 (p' := (atN 17 (ctl1 g37p1))) (eE := E8) (H' := (mkH [⟨[.int .i64 a0.f0, .str a0.f1, .int .i64 a0.f2], 0, false⟩, ⟨[], 0, false⟩])) (by kernel_rfl) ?_
   refine oC (fun (x0_17 : Bool) => .bool x0_17) (atN 18 (ctl1 g37p1)) (fun x0_17 => ((20, .bool x0_17) :: E8)) (fi := 45) (args := [.vec (g37c3).length 1 ((g37c3).flatMap e9), .str a0.f1]) (by kernel_rfl) (by kernel_rfl) (fun _ => by kernel_rfl) (fun r h => g45_ok k g37c3 a0.f1 r h) (fun _ => by kernel_rfl) (fun x0_17 hx0_17 => ?_)
   refine oR 5 (p' := .fin) (eE := ((2, .bool x0_17) :: (22, .bool x0_17) :: (21, .bool x0_17) :: (20, .bool x0_17) :: E8)) (H' := (mkH [⟨[.int .i64 a0.f0, .str a0.f1, .int .i64 a0.f2], 0, false⟩, ⟨[], 0, false⟩])) (by kernel_rfl) ?_
   exact oT (r := x0_17) (xs := [.bool x0_17]) (v := .bool x0_17) (by kernel_rfl) (by kernel_rfl) (by kernel_rfl) (.pures (by kernel_rfl)) (by kernel_rfl)
  ·let E9 : Env := ((2, .bool false) :: (22, .bool false) :: (21, .bool false) :: (20, .tuple []) :: (19, .tuple []) :: (18, .tuple []) :: (17, .tuple []) :: (16, .bool false) :: E7)
   refine oR 9 (p' := .fin) (eE := E9) (H' := (mkH [⟨[.int .i64 a0.f0, .str a0.f1, .int .i64 a0.f2], 0, false⟩])) (by kernel_rfl) ?_
   exact oT (r := false) (xs := [.bool false]) (v := .bool false) (by kernel_rfl) (by kernel_rfl) (by kernel_rfl) (.pures (by kernel_rfl)) (by kernel_rfl)
end
end Go.Proofs.Ytnikdnchoahngaa.Am
set_option maxRecDepth 100000
set_option linter.unusedVariables false
namespace Go.Proofs.Ytnikdnchoahngaa.Am
noncomputable section
open Go
def X39 : Fx Bool := ⟨Try.prog, cx, Try.f39, fun r => .bool r, 0, fun _ => H0, cxTi, cxOrd⟩
def g39c0 : List (List Nat) := [([41] : List Nat), ([125] : List Nat), ([93] : List Nat), ([62, 62] : List Nat)]
def g39p0 : Pt := nav [0] (bodyAt Try.f39)
def g39p1 : Pt := nav [0, 0, 0] g39p0
def g39 (k : Nat) (a0 : S37) : Option Bool :=
 if (decide (a0.f0 = 9)) then ((g45 k g39c0 a0.f1).bind fun x0_7 => if x0_7 then (some true) else (if (decide (a0.f0 = 8)) then (some (eqL a0.f1 [101, 110, 100])) else (some false))) else (if (decide (a0.f0 = 8)) then (some (eqL a0.f1 [101, 110, 100])) else (some false))
theorem g39_ok (k : Nat) (a0 : S37) (r : Bool) (h : g39 k a0 = some r) : PureOk Try.prog 39 [.agg [.int .i64 a0.f0, .str a0.f1, .int .i64 a0.f2]] (.bool r) := by
 refine pure_of X39 (fun _ => rfl) Try.func39 (by decide +kernel) (by kernel_rfl) (t := g39 k a0) ?_ h
 unfold g39
 refine oE (eE := [(0, .agg [.int .i64 a0.f0, .str a0.f1, .int .i64 a0.f2])]) (by kernel_rfl) ?_
 let E1 : Env := [(6, .bool (decide (a0.f0 = 9))), (5, .bool (decide (a0.f0 = 9))), (4, .int .i64 a0.f0), (3, .ptr 0 3 0), (2, .bool false), (1, .ptr 0 3 0), (0, .agg [.int .i64 a0.f0, .str a0.f1, .int .i64 a0.f2])]
 refine oR 11 (p' := (atN 4 (ctl1 g39p1))) (eE := E1) (H' := (mkH [⟨[.int .i64 a0.f0, .str a0.f1, .int .i64 a0.f2], 0, false⟩])) (by kernel_rfl) ?_
 refine oS 6 (b := decide (a0.f0 = 9)) (by kernel_rfl) (fun hb => ?_) (fun hb => ?_)
 ·refine oR 1 (p' := (atN 5 (ctl1 g39p1))) (eE := ((7, .slice 1 4 0 4 1) :: (6, .bool true) :: E1)) (H' := (mkH [⟨[.int .i64 a0.f0, .str a0.f1, .int .i64 a0.f2], 0, false⟩, ⟨[.str [41], .str [125], .str [93], .str [62, 62]], 0, false⟩])) (by kernel_rfl) ?_
  refine ok_frz [⟨[.int .i64 a0.f0, .str a0.f1, .int .i64 a0.f2], 0, false⟩, ⟨[.str [41], .str [125], .str [93], .str [62, 62]], 0, false⟩] 7 1 4 1 0 [.str [41], .str [125], .str [93], .str [62, 62]] [0, 1, 2, 3, 4, 5, 6] (env0 := [(0, .agg [.int .i64 a0.f0, .str a0.f1, .int .i64 a0.f2]), (1, .ptr 0 3 0), (2, .bool false), (3, .ptr 0 3 0), (4, .int .i64 a0.f0), (5, .bool (decide (a0.f0 = 9))), (6, .bool true)]) (by kernel_rfl) rfl (.inl (by kernel_rfl)) rfl rfl (by decide) (by kernel_rfl) (by kernel_rfl) (by kernel_rfl) ⟨.inr (by kernel_rfl), ⟨.inl rfl, trivial⟩⟩ ?_
  refine oE (eE := [(7, .vec (g39c0).length 1 ((g39c0).flatMap e9)), (0, .agg [.int .i64 a0.f0, .str a0.f1, .int .i64 a0.f2]), (1, .ptr 0 3 0), (2, .bool false), (3, .ptr 0 3 0), (4, .int .i64 a0.f0), (5, .bool (decide (a0.f0 = 9))), (6, .bool true)]) (by kernel_rfl) ?_
  refine ok_heap (H' := (mkH [⟨[.int .i64 a0.f0, .str a0.f1, .int .i64 a0.f2], 0, false⟩, ⟨[], 0, false⟩])) (by kernel_rfl) ?_
  let E2 : Env := [(9, .str a0.f1), (8, .ptr 0 3 1), (7, .vec (g39c0).length 1 ((g39c0).flatMap e9)), (0, .agg [.int .i64 a0.f0, .str a0.f1, .int .i64 a0.f2]), (1, .ptr 0 3 0), (2, .bool false), (3, .ptr 0 3 0), (4, .int .i64 a0.f0), (5, .bool (decide (a0.f0 = 9))), (6, .bool true)]
  refine oR 2 (p' := (atN 7 (ctl1 g39p1))) (eE := E2) (H' := (mkH [⟨[.int .i64 a0.f0, .str a0.f1, .int .i64 a0.f2], 0, false⟩, ⟨[], 0, false⟩])) (by kernel_rfl) ?_
  refine oC (fun (x0_7 : Bool) => .bool x0_7) (atN 8 (ctl1 g39p1)) (fun x0_7 => ((10, .bool x0_7) :: E2)) (fi := 45) (args := [.vec (g39c0).length 1 ((g39c0).flatMap e9), .str a0.f1]) (by kernel_rfl) (by kernel_rfl) (fun _ => by kernel_rfl) (fun r h => g45_ok k g39c0 a0.f1 r h) (fun _ => by kernel_rfl) (fun x0_7 hx0_7 => ?_)
  refine oR 2 (p' := (atN 10 (ctl1 g39p1))) (eE := ((12, .bool x0_7) :: (11, .bool x0_7) :: (10, .bool x0_7) :: E2)) (H' := (mkH [⟨[.int .i64 a0.f0, .str a0.f1, .int .i64 a0.f2], 0, false⟩, ⟨[], 0, false⟩])) (by kernel_rfl) ?_
  refine oS 12 (b := x0_7) (by kernel_rfl) (fun hb => ?_) (fun hb => ?_)
  ·let E3 : Env := ((2, .bool true) :: (21, .bool true) :: (20, .tuple []) :: (19, .tuple []) :: (18, .tuple []) :: (17, .tuple []) :: (16, .tuple []) :: (15, .tuple []) :: (14, .tuple []) :: (13, .tuple []) :: (12, .bool true) :: (12, .bool x0_7) :: (11, .bool x0_7) :: (10, .bool x0_7) :: E2)
   refine oR 12 (p' := .fin) (eE := E3) (H' := (mkH [⟨[.int .i64 a0.f0, .str a0.f1, .int .i64 a0.f2], 0, false⟩, ⟨[], 0, false⟩])) (by kernel_rfl) ?_
   exact oT (r := true) (xs := [.bool true]) (v := .bool true) (by kernel_rfl) (by kernel_rfl) (by kernel_rfl) (.pures (by kernel_rfl)) (by kernel_rfl)
  ·let E4 : Env := ((16, .bool (decide (a0.f0 = 8))) :: (15, .bool (decide (a0.f0 = 8))) :: (14, .int .i64 a0.f0) :: (13, .ptr 0 3 0) :: (12, .bool false) :: (12, .bool x0_7) :: (11, .bool x0_7) :: (10, .bool x0_7) :: E2)
   refine oR 4 (p' := (atN 14 (ctl1 g39p1))) (eE := E4) (H' := (mkH [⟨[.int .i64 a0.f0, .str a0.f1, .int .i64 a0.f2], 0, false⟩, ⟨[], 0, false⟩])) (by kernel_rfl) ?_
   refine oS 16 (b := decide (a0.f0 = 8)) (by kernel_rfl) (fun hb => ?_) (fun hb => ?_)
   ·let E5 : Env := ((2, .bool (eqL a0.f1 [101, 110, 100])) :: (21, .bool (eqL a0.f1 [101, 110, 100])) :: (20, .bool (eqL a0.f1 [101, 110, 100])) :: (19, .bool (eqL a0.f1 [101, 110, 100])) :: (18, .str a0.f1) :: (17, .ptr 0 3 1) :: (16, .bool true) :: E4)
    refine oR 8 (p' := .fin) (eE := E5) (H' := (mkH [⟨[.int .i64 a0.f0, .str a0.f1, .int .i64 a0.f2], 0, false⟩, ⟨[], 0, false⟩])) (by kernel_rfl) ?_
    exact oT (r := (eqL a0.f1 [101, 110, 100])) (xs := [.bool (eqL a0.f1 [101, 110, 100])]) (v := .bool (eqL a0.f1 [101, 110, 100])) (by kernel_rfl) (by kernel_rfl) (by kernel_rfl) (.pures (by kernel_rfl)) (by kernel_rfl)
   ·let E6 : Env := ((2, .bool false) :: (21, .bool false) :: (20, .bool false) :: (19, .tuple []) :: (18, .tuple []) :: (17, .tuple []) :: (16, .bool false) :: E4)
    refine oR 8 (p' := .fin) (eE := E6) (H' := (mkH [⟨[.int .i64 a0.f0, .str a0.f1, .int .i64 a0.f2], 0, false⟩, ⟨[], 0, false⟩])) (by kernel_rfl) ?_
    exact oT (r := false) (xs := [.bool false]) (v := .bool false) (by kernel_rfl) (by kernel_rfl) (by kernel_rfl) (.pures (by kernel_rfl)) (by kernel_rfl)
 ·let E7 : Env := ((16, .bool (decide (a0.f0 = 8))) :: (15, .bool (decide (a0.f0 = 8))) :: (14, .int .i64 a0.f0) :: (13, .ptr 0 3 0) :: (12, .bool false) :: (11, .bool false) :: (10, .tuple []) :: (9, .tuple []) :: (8, .tuple []) :: (7, .tuple []) :: (6, .bool false) :: E1)
  refine oR 10 (p' := (atN 14 (ctl1 g39p1))) (eE := E7) (H' := (mkH [⟨[.int .i64 a0.f0, .str a0.f1, .int .i64 a0.f2], 0, false⟩])) (by kernel_rfl) ?_
  refine oS 16 (b := decide (a0.f0 = 8)) (by kernel_rfl) (fun hb => ?_) (fun hb => ?_)
  ·let E8 : Env := ((2, .bool (eqL a0.f1 [101, 110, 100])) :: (21, .bool (eqL a0.f1 [101, 110, 100])) :: (20, .bool (eqL a0.f1 [101, 110, 100])) :: (19, .bool (eqL a0.f1 [101, 110, 100])) :: (18, .str a0.f1) :: (17, .ptr 0 3 1) :: (16, .bool true) :: E7)
   refine oR 8 (p' := .fin) (eE := E8) (H' := (mkH [⟨[.int .i64 a0.f0, .str a0.f1, .int .i64 a0.f2], 0, false⟩])) (by kernel_rfl) ?_
   exact oT (r := (eqL a0.f1 [101, 110, 100])) (xs := [.bool (eqL a0.f1 [101, 110, 100])]) (v := .bool (eqL a0.f1 [101, 110, 100])) (by kernel_rfl) (by kernel_rfl) (by kernel_rfl) (.pures (by kernel_rfl)) (by kernel_rfl)
  ·let E9 : Env := ((2, .bool false) :: (21, .bool false) :: (20, .bool false) :: (19, .tuple []) :: (18, .tuple []) :: (17, .tuple []) :: (16, .bool false) :: E7)
   refine oR 8 (p' := .fin) (eE := E9) (H' := (mkH [⟨[.int .i64 a0.f0, .str a0.f1, .int .i64 a0.f2], 0, false⟩])) (by kernel_rfl) ?_
   exact oT (r := false) (xs := [.bool false]) (v := .bool false) (by kernel_rfl) (by kernel_rfl) (by kernel_rfl) (.pures (by kernel_rfl)) (by kernel_rfl)
end
end Go.Proofs.Ytnikdnchoahngaa.Am
set_option maxRecDepth 100000
set_option linter.unusedVariables false
set_option linter.unusedSimpArgs false
namespace Go.Proofs.Ytnikdnchoahngaa.Am
open Go
def opW (s : List Nat) : Bool := eqL s [98, 101, 103, 105, 110] || eqL s [99, 97, 115, 101] || eqL s [105, 102] || eqL s [114, 101, 99, 101, 105, 118, 101]
def opS (s : List Nat) : Bool := eqL s [40] || eqL s [123] || eqL s [91] || eqL s [60, 60]
def clS (s : List Nat) : Bool := eqL s [41] || eqL s [125] || eqL s [93] || eqL s [62, 62]
def opG (t : S37) : Bool := if t.f0 = 9 then opS t.f1 else if t.f0 = 8 then opW t.f1 else false
def clG (t : S37) : Bool := if t.f0 = 9 then clS t.f1 else if t.f0 = 8 then eqL t.f1 [101, 110, 100] else false
theorem if3 (a b c d : Bool) : (if a = true then some true else if b = true then some true else if c = true then some true else some d) = some (a || b || c || d) := by cases a <;> cases b <;> cases c <;> cases d <;> rfl
theorem ifb (a : Bool) : (if a = true then some true else some false) = some a := by cases a <;> rfl
theorem pair_ne (k : Nat) (s : List Nat) : ∃ r, g40 k s = some r ∧ (!eqL r []) = opS s := by
 unfold g40 opS
 cases eqL s [40]
 ·cases eqL s [123]
  ·cases eqL s [91]
   ·cases eqL s [60, 60]
    ·exact ⟨_, rfl, rfl⟩
    ·exact ⟨_, rfl, rfl⟩
   ·exact ⟨_, rfl, rfl⟩
  ·exact ⟨_, rfl, rfl⟩
 ·exact ⟨_, rfl, rfl⟩
theorem opens_at (k : Nat) (t : S37) : g36 k t = some (opG t) := by
 unfold g36 opG
 by_cases h9 : t.f0 = 9
 ·refine iT (dT h9) ?_
  obtain ⟨r, h1, h2⟩ := pair_ne k t.f1
  refine bS (by (try simp (disch := omega) only [fwI]); exact h1) ?_
  rw [if_pos h9, h2]
 ·refine iF (dF h9) ?_
  rw [if_neg h9]
  by_cases h8 : t.f0 = 8
  ·refine iT (dT h8) ?_
   rw [if_pos h8]
   exact if3 _ _ _ _
  ·refine iF (dF h8) ?_
   rw [if_neg h8]
theorem closes_at (k : Nat) (t : S37) : g38 k t = some (clG t) := by
 unfold g38 clG
 by_cases h9 : t.f0 = 9
 ·refine iT (dT h9) ?_
  rw [if_pos h9]
  exact if3 _ _ _ _
 ·refine iF (dF h9) ?_
  rw [if_neg h9]
  by_cases h8 : t.f0 = 8
  ·refine iT (dT h8) ?_
   rw [if_pos h8]
  ·refine iF (dF h8) ?_
   rw [if_neg h8]
theorem among4 (k : Nat) (a b c d s : List Nat) : g45 (k + 60) [a, b, c, d] s = some (eqL s a || eqL s b || eqL s c || eqL s d) := by
 rw [eqL_comm s a, eqL_comm s b, eqL_comm s c, eqL_comm s d, ← if3]
 have e : g45 (k + 60) [a, b, c, d] s = if eqL a s then some true else if eqL b s then some true else if eqL c s then some true else if eqL d s then some true else some false := by kernel_rfl
 rw [e, ifb]
theorem ropens_at (k : Nat) (t : S37) : g37 (k + 60) t = some (opG t) := by
 have e1 : g45 (k + 60) g37c0 t.f1 = some (opS t.f1) := among4 k _ _ _ _ _
 have e2 : g45 (k + 60) g37c3 t.f1 = some (opW t.f1) := among4 k _ _ _ _ _
 unfold g37 opG
 by_cases h9 : t.f0 = 9
 ·refine iT (dT h9) ?_
  refine bS (by (try simp (disch := omega) only [fwI]); exact e1) ?_
  rw [if_pos h9]
  cases opS t.f1
  ·refine iF rfl ?_
   exact iF (dF (by omega)) rfl
  ·rfl
 ·refine iF (dF h9) ?_
  rw [if_neg h9]
  by_cases h8 : t.f0 = 8
  ·refine iT (dT h8) ?_
   refine bS (by (try simp (disch := omega) only [fwI]); exact e2) ?_
   rw [if_pos h8]
  ·refine iF (dF h8) ?_
   rw [if_neg h8]
theorem rcloses_at (k : Nat) (t : S37) : g39 (k + 60) t = some (clG t) := by
 have e1 : g45 (k + 60) g39c0 t.f1 = some (clS t.f1) := among4 k _ _ _ _ _
 unfold g39 clG
 by_cases h9 : t.f0 = 9
 ·refine iT (dT h9) ?_
  refine bS (by (try simp (disch := omega) only [fwI]); exact e1) ?_
  rw [if_pos h9]
  cases clS t.f1
  ·refine iF rfl ?_
   exact iF (dF (by omega)) rfl
  ·rfl
 ·refine iF (dF h9) ?_
  rw [if_neg h9]
  by_cases h8 : t.f0 = 8
  ·refine iT (dT h8) ?_
   rw [if_pos h8]
  ·refine iF (dF h8) ?_
   rw [if_neg h8]
end Go.Proofs.Ytnikdnchoahngaa.Am
set_option maxRecDepth 100000
set_option linter.unusedVariables false
namespace Go.Proofs.Ytnikdnchoahngaa.Am
noncomputable section
open Go
def X33 : Fx Bool := ⟨Try.prog, cx, Try.f33, fun r => .bool r, 0, fun _ => H0, cxTi, cxOrd⟩
def g33p0 : Pt := nav [0] (bodyAt Try.f33)
def g33p1 : Pt := nav [0, 0, 0] g33p0
def g33 (k : Nat)  : Option Bool :=
 (g34 k ([61, 58, 61] : List Nat) (0 : Int)).bind fun x0_0 => if (decide (x0_0 = 3)) then ((g34 k ([97] : List Nat) (0 : Int)).bind fun x0_3 => if (decide (x0_3 = 0)) then ((g34 k ([61, 60] : List Nat) (0 : Int)).bind fun x0_7 => if (decide (x0_7 = 2)) then ((g36 k (⟨(8 : Int), ([99, 97, 115, 101] : List Nat), (0 : Int)⟩ : S37)).bind fun x0_12 => if x0_12 then ((g38 k (⟨(9 : Int), ([62, 62] : List Nat), (0 : Int)⟩ : S37)).bind fun x0_16 => if x0_16 then ((g40 k ([60, 60] : List Nat)).bind fun x0_19 => if (eqL x0_19 [62, 62]) then ((g40 k ([99, 97, 115, 101] : List Nat)).bind fun x0_23 => some (eqL x0_23 [])) else (some false)) else (some false)) else (some false)) else (some false)) else (some false)) else (some false)
theorem g33_ok (k : Nat)  (r : Bool) (h : g33 k  = some r) : PureOk Try.prog 33 [] (.bool r) := by
 refine pure_of X33 (fun _ => rfl) Try.func33 (by decide +kernel) (by kernel_rfl) (t := g33 k ) ?_ h
 unfold g33
 refine oE (eE := []) (by kernel_rfl) ?_
 refine oR 6 (p' := (atN 0 (ctl1 g33p1))) (eE := [(0, .bool false)]) (H' := (mkH [])) (by kernel_rfl) ?_
 refine oC (fun (x0_0 : Int) => .int .i64 x0_0) (atN 1 (ctl1 g33p1)) (fun x0_0 => [(1, .int .i64 x0_0), (0, .bool false)]) (fi := 34) (args := [.str [61, 58, 61], .int .i64 0]) (by kernel_rfl) (by kernel_rfl) (fun _ => by kernel_rfl) (fun r h => g34_ok k ([61, 58, 61] : List Nat) (0 : Int) r h) (fun _ => by kernel_rfl) (fun x0_0 hx0_0 => ?_)
 refine oR 2 (p' := (atN 3 (ctl1 g33p1))) (eE := [(3, .bool (decide (x0_0 = 3))), (2, .bool (decide (x0_0 = 3))), (1, .int .i64 x0_0), (0, .bool false)]) (H' := (mkH [])) (by kernel_rfl) ?_
 refine oS 3 (b := decide (x0_0 = 3)) (by kernel_rfl) (fun hb => ?_) (fun hb => ?_)
 ·refine oC (fun (x0_3 : Int) => .int .i64 x0_3) (atN 4 (ctl1 g33p1)) (fun x0_3 => [(4, .int .i64 x0_3), (3, .bool true), (3, .bool (decide (x0_0 = 3))), (2, .bool (decide (x0_0 = 3))), (1, .int .i64 x0_0), (0, .bool false)]) (fi := 34) (args := [.str [97], .int .i64 0]) (by kernel_rfl) (by kernel_rfl) (fun _ => by kernel_rfl) (fun r h => g34_ok k ([97] : List Nat) (0 : Int) r h) (fun _ => by kernel_rfl) (fun x0_3 hx0_3 => ?_)
  let E1 : Env := [(7, .bool (decide (x0_3 = 0))), (6, .bool (decide (x0_3 = 0))), (5, .bool (decide (x0_3 = 0))), (4, .int .i64 x0_3), (3, .bool true), (3, .bool (decide (x0_0 = 3))), (2, .bool (decide (x0_0 = 3))), (1, .int .i64 x0_0), (0, .bool false)]
  refine oR 3 (p' := (atN 7 (ctl1 g33p1))) (eE := E1) (H' := (mkH [])) (by kernel_rfl) ?_
  refine oS 7 (b := decide (x0_3 = 0)) (by kernel_rfl) (fun hb => ?_) (fun hb => ?_)
  ·refine oC (fun (x0_7 : Int) => .int .i64 x0_7) (atN 8 (ctl1 g33p1)) (fun x0_7 => ((8, .int .i64 x0_7) :: (7, .bool true) :: E1)) (fi := 34) (args := [.str [61, 60], .int .i64 0]) (by kernel_rfl) (by kernel_rfl) (fun _ => by kernel_rfl) (fun r h => g34_ok k ([61, 60] : List Nat) (0 : Int) r h) (fun _ => by kernel_rfl) (fun x0_7 hx0_7 => ?_)
   let E2 : Env := ((11, .bool (decide (x0_7 = 2))) :: (10, .bool (decide (x0_7 = 2))) :: (9, .bool (decide (x0_7 = 2))) :: (8, .int .i64 x0_7) :: (7, .bool true) :: E1)
   refine oR 3 (p' := (atN 11 (ctl1 g33p1))) (eE := E2) (H' := (mkH [])) (by kernel_rfl) ?_
   refine oS 11 (b := decide (x0_7 = 2)) (by kernel_rfl) (fun hb => ?_) (fun hb => ?_)
   ·refine oR 1 (p' := (atN 12 (ctl1 g33p1))) (eE := ((12, .agg [.int .i64 8, .str [99, 97, 115, 101], .int .i64 0]) :: (11, .bool true) :: E2)) (H' := (mkH [])) (by kernel_rfl) ?_
    refine oC (fun (x0_12 : Bool) => .bool x0_12) (atN 13 (ctl1 g33p1)) (fun x0_12 => ((13, .bool x0_12) :: (12, .agg [.int .i64 8, .str [99, 97, 115, 101], .int .i64 0]) :: (11, .bool true) :: E2)) (fi := 36) (args := [.agg [.int .i64 8, .str [99, 97, 115, 101], .int .i64 0]]) (by kernel_rfl) (by kernel_rfl) (fun _ => by kernel_rfl) (fun r h => g36_ok k (⟨(8 : Int), ([99, 97, 115, 101] : List Nat), (0 : Int)⟩ : S37) r h) (fun _ => by kernel_rfl) (fun x0_12 hx0_12 => ?_)
    let E3 : Env := ((15, .bool x0_12) :: (14, .bool x0_12) :: (13, .bool x0_12) :: (12, .agg [.int .i64 8, .str [99, 97, 115, 101], .int .i64 0]) :: (11, .bool true) :: E2)
    refine oR 2 (p' := (atN 15 (ctl1 g33p1))) (eE := E3) (H' := (mkH [])) (by kernel_rfl) ?_
    refine oS 15 (b := x0_12) (by kernel_rfl) (fun hb => ?_) (fun hb => ?_)
    ·refine oR 1 (p' := (atN 16 (ctl1 g33p1))) (eE := ((16, .agg [.int .i64 9, .str [62, 62], .int .i64 0]) :: (15, .bool true) :: E3)) (H' := (mkH [])) (by kernel_rfl) ?_
     refine oC (fun (x0_16 : Bool) => .bool x0_16) (atN 17 (ctl1 g33p1)) (fun x0_16 => ((17, .bool x0_16) :: (16, .agg [.int .i64 9, .str [62, 62], .int .i64 0]) :: (15, .bool true) :: E3)) (fi := 38) (args := [.agg [.int .i64 9, .str [62, 62], .int .i64 0]]) (by kernel_rfl) (by kernel_rfl) (fun _ => by kernel_rfl) (fun r h => g38_ok k (⟨(9 : Int), ([62, 62] : List Nat), (0 : Int)⟩ : S37) r h) (fun _ => by kernel_rfl) (fun x0_16 hx0_16 => ?_)
     let E4 : Env := ((19, .bool x0_16) :: (18, .bool x0_16) :: (17, .bool x0_16) :: (16, .agg [.int .i64 9, .str [62, 62], .int .i64 0]) :: (15, .bool true) :: E3)
     refine oR 2 (p' := (atN 19 (ctl1 g33p1))) (eE := E4) (H' := (mkH [])) (by kernel_rfl) ?_
     refine oS 19 (b := x0_16) (by kernel_rfl) (fun hb => ?_) (fun hb => ?_)
     ·refine oC (fun (x0_19 : (List Nat)) => .str x0_19) (atN 20 (ctl1 g33p1)) (fun x0_19 => ((20, .str x0_19) :: (19, .bool true) :: E4)) (fi := 40) (args := [.str [60, 60]]) (by kernel_rfl) (by kernel_rfl) (fun _ => by kernel_rfl) (fun r h => g40_ok k ([60, 60] : List Nat) r h) (fun _ => by kernel_rfl) (fun x0_19 hx0_19 => ?_)
      let E5 : Env := ((23, .bool (eqL x0_19 [62, 62])) :: (22, .bool (eqL x0_19 [62, 62])) :: (21, .bool (eqL x0_19 [62, 62])) :: (20, .str x0_19) :: (19, .bool true) :: E4)
      refine oR 3 (p' := (atN 23 (ctl1 g33p1))) (eE := E5) (H' := (mkH [])) (by kernel_rfl) ?_
      refine oS 23 (b := eqL x0_19 [62, 62]) (by kernel_rfl) (fun hb => ?_) (fun hb => ?_)
      ·refine oC (fun (x0_23 : (List Nat)) => .str x0_23) (atN 24 (ctl1 g33p1)) (fun x0_23 => ((24, .str x0_23) :: (23, .bool true) :: E5)) (fi := 40) (args := [.str [99, 97, 115, 101]]) (by kernel_rfl) (by kernel_rfl) (fun _ => by kernel_rfl) (fun r h => g40_ok k ([99, 97, 115, 101] : List Nat) r h) (fun _ => by kernel_rfl) (fun x0_23 hx0_23 => ?_)
       let E6 : Env := ((0, .bool (eqL x0_23 [])) :: (26, .bool (eqL x0_23 [])) :: (25, .bool (eqL x0_23 [])) :: (24, .str x0_23) :: (23, .bool true) :: E5)
       refine oR 5 (p' := .fin) (eE := E6) (H' := (mkH [])) (by kernel_rfl) ?_
       exact oT (r := (eqL x0_23 [])) (xs := [.bool (eqL x0_23 [])]) (v := .bool (eqL x0_23 [])) (by kernel_rfl) (by kernel_rfl) (by kernel_rfl) (.pures (by kernel_rfl)) (by kernel_rfl)
      ·let E7 : Env := ((0, .bool false) :: (26, .bool false) :: (25, .tuple []) :: (24, .tuple []) :: (23, .bool false) :: E5)
       refine oR 6 (p' := .fin) (eE := E7) (H' := (mkH [])) (by kernel_rfl) ?_
       exact oT (r := false) (xs := [.bool false]) (v := .bool false) (by kernel_rfl) (by kernel_rfl) (by kernel_rfl) (.pures (by kernel_rfl)) (by kernel_rfl)
     ·let E8 : Env := ((0, .bool false) :: (26, .bool false) :: (25, .tuple []) :: (24, .tuple []) :: (23, .bool false) :: (22, .bool false) :: (21, .tuple []) :: (20, .tuple []) :: (19, .bool false) :: E4)
      refine oR 10 (p' := .fin) (eE := E8) (H' := (mkH [])) (by kernel_rfl) ?_
      exact oT (r := false) (xs := [.bool false]) (v := .bool false) (by kernel_rfl) (by kernel_rfl) (by kernel_rfl) (.pures (by kernel_rfl)) (by kernel_rfl)
    ·let E9 : Env := ((0, .bool false) :: (26, .bool false) :: (25, .tuple []) :: (24, .tuple []) :: (23, .bool false) :: (22, .bool false) :: (21, .tuple []) :: (20, .tuple []) :: (19, .bool false) :: (18, .bool false) :: (17, .tuple []) :: (16, .tuple []) :: (15, .bool false) :: E3)
     refine oR 14 (p' := .fin) (eE := E9) (H' := (mkH [])) (by kernel_rfl) ?_
     exact oT (r := false) (xs := [.bool false]) (v := .bool false) (by kernel_rfl) (by kernel_rfl) (by kernel_rfl) (.pures (by kernel_rfl)) (by kernel_rfl)
   ·let E10 : Env := ((0, .bool false) :: (26, .bool false) :: (25, .tuple []) :: (24, .tuple []) :: (23, .bool false) :: (22, .bool false) :: (21, .tuple []) :: (20, .tuple []) :: (19, .bool false) :: (18, .bool false) :: (17, .tuple []) :: (16, .tuple []) :: (15, .bool false) :: (14, .bool false) :: (13, .tuple []) :: (12, .tuple []) :: (11, .bool false) :: E2)
    refine oR 18 (p' := .fin) (eE := E10) (H' := (mkH [])) (by kernel_rfl) ?_
    exact oT (r := false) (xs := [.bool false]) (v := .bool false) (by kernel_rfl) (by kernel_rfl) (by kernel_rfl) (.pures (by kernel_rfl)) (by kernel_rfl)
  ·let E11 : Env := ((0, .bool false) :: (26, .bool false) :: (25, .tuple []) :: (24, .tuple []) :: (23, .bool false) :: (22, .bool false) :: (21, .tuple []) :: (20, .tuple []) :: (19, .bool false) :: (18, .bool false) :: (17, .tuple []) :: (16, .tuple []) :: (15, .bool false) :: (14, .bool false) :: (13, .tuple []) :: (12, .tuple []) :: (11, .bool false) :: (10, .bool false) :: (9, .tuple []) :: (8, .tuple []) :: (7, .bool false) :: E1)
   refine oR 22 (p' := .fin) (eE := E11) (H' := (mkH [])) (by kernel_rfl) ?_
   exact oT (r := false) (xs := [.bool false]) (v := .bool false) (by kernel_rfl) (by kernel_rfl) (by kernel_rfl) (.pures (by kernel_rfl)) (by kernel_rfl)
 ·let E12 : Env := [(0, .bool false), (26, .bool false), (25, .tuple []), (24, .tuple []), (23, .bool false), (22, .bool false), (21, .tuple []), (20, .tuple []), (19, .bool false), (18, .bool false), (17, .tuple []), (16, .tuple []), (15, .bool false), (14, .bool false), (13, .tuple []), (12, .tuple []), (11, .bool false), (10, .bool false), (9, .tuple []), (8, .tuple []), (7, .bool false), (6, .bool false), (5, .tuple []), (4, .tuple []), (3, .bool false), (3, .bool (decide (x0_0 = 3))), (2, .bool (decide (x0_0 = 3))), (1, .int .i64 x0_0), (0, .bool false)]
  refine oR 26 (p' := .fin) (eE := E12) (H' := (mkH [])) (by kernel_rfl) ?_
  exact oT (r := false) (xs := [.bool false]) (v := .bool false) (by kernel_rfl) (by kernel_rfl) (by kernel_rfl) (.pures (by kernel_rfl)) (by kernel_rfl)
end
end Go.Proofs.Ytnikdnchoahngaa.Am
set_option maxRecDepth 100000
set_option linter.unusedVariables false
namespace Go.Proofs.Ytnikdnchoahngaa.Am
noncomputable section
open Go
def X10 : Fx Bool := ⟨Try.prog, cx, Try.f10, fun r => .bool r, 0, fun _ => H0, cxTi, cxOrd⟩
def g10p0 : Pt := nav [0] (bodyAt Try.f10)
def g10p1 : Pt := nav [0, 0, 0, 0] g10p0
def g10p2 : Pt := nav [0, 0] g10p1
def g10p3 : Pt := nav [1, 0] g10p2
def g10p4 : Pt := nav [2, 0, 0, 0] g10p2
def g10p6 : Pt := nav [0, 0, 0, 0] g10p4
def g10p7 : Pt := nav [0, 0, 0] g10p6
def g10p8 : Pt := nav [0, 0] g10p7
def g10p9 : Pt := nav [1, 0, 0, 0, 0] g10p8
def g10p10 : Pt := nav [2, 0, 0] g10p8
def g10p11 : Pt := nav [0, 0] g10p9
def g10p12 : Pt := nav [0, 0, 0, 0] g10p10
def g10p15 : Pt := nav [0, 0, 0, 0] g10p12
def g10p16 : Pt := nav [0, 0] g10p15
def g10p17 : Pt := nav [1] g10p16
def g10p18 : Pt := nav [2, 0] g10p16
def g10p19 : Pt := nav [0, 0, 0] g10p17
def g10p20 : Pt := nav [0, 0] g10p18
def g10p22 : Pt := nav [2, 0] g10p20
def g10p23 : Pt := nav [0, 0] g10p22
def g10p25 : Pt := nav [2, 0] g10p23
def g10p26 : Pt := nav [0, 0] g10p25
def g10_l4 (k : Nat)  (a0 : (List Nat)) (a1 : Int) (a2 : S37) (n : Nat) : Int → Option Bool :=
 Nat.rec (motive := fun _ => Int → Option Bool) (fun _ => none) (fun _ ih => fun (y4_0 : Int) => if (decide (y4_0 < (a0.length : Int))) then ((g34 k a0 y4_0).bind fun x1_2 => (g35 k a0 y4_0).bind fun x1_5 => if (!decide (x1_2 = x1_5)) then (some false) else (ih (fW .i64 (y4_0 + 1)))) else (jn (fun (z5 : (List Nat)) => (g33 k).bind fun x2_0 => if x2_0 then ((g34 k a0 a1).bind fun x2_4 => (g35 k a0 a1).bind fun x2_7 => if (decide (x2_4 = x2_7)) then ((g36 k (⟨a2.f0, a2.f1, a2.f2⟩ : S37)).bind fun x2_12 => (g37 k (⟨a2.f0, a2.f1, a2.f2⟩ : S37)).bind fun x2_14 => if (x2_12 == x2_14) then ((g38 k (⟨a2.f0, a2.f1, a2.f2⟩ : S37)).bind fun x2_19 => (g39 k (⟨a2.f0, a2.f1, a2.f2⟩ : S37)).bind fun x2_21 => if (x2_19 == x2_21) then ((g40 k a2.f1).bind fun x2_27 => some (eqL x2_27 z5)) else (some false)) else (some false)) else (some false)) else (some false)) (fun j5 => if (eqL a2.f1 [40]) then (j5 ([41] : List Nat)) else (if (eqL a2.f1 [123]) then (j5 ([125] : List Nat)) else (if (eqL a2.f1 [91]) then (j5 ([93] : List Nat)) else (if (eqL a2.f1 [60, 60]) then (j5 ([62, 62] : List Nat)) else (j5 ([] : List Nat)))))))) n
theorem g10_l4_s (k : Nat)  (a0 : (List Nat)) (a1 : Int) (a2 : S37) (n : Nat) (y4_0 : Int) : g10_l4 k a0 a1 a2 (n + 1) y4_0 = (if (decide (y4_0 < (a0.length : Int))) then ((g34 k a0 y4_0).bind fun x1_2 => (g35 k a0 y4_0).bind fun x1_5 => if (!decide (x1_2 = x1_5)) then (some false) else ((g10_l4 k a0 a1 a2 n) (fW .i64 (y4_0 + 1)))) else (jn (fun (z5 : (List Nat)) => (g33 k).bind fun x2_0 => if x2_0 then ((g34 k a0 a1).bind fun x2_4 => (g35 k a0 a1).bind fun x2_7 => if (decide (x2_4 = x2_7)) then ((g36 k (⟨a2.f0, a2.f1, a2.f2⟩ : S37)).bind fun x2_12 => (g37 k (⟨a2.f0, a2.f1, a2.f2⟩ : S37)).bind fun x2_14 => if (x2_12 == x2_14) then ((g38 k (⟨a2.f0, a2.f1, a2.f2⟩ : S37)).bind fun x2_19 => (g39 k (⟨a2.f0, a2.f1, a2.f2⟩ : S37)).bind fun x2_21 => if (x2_19 == x2_21) then ((g40 k a2.f1).bind fun x2_27 => some (eqL x2_27 z5)) else (some false)) else (some false)) else (some false)) else (some false)) (fun j5 => if (eqL a2.f1 [40]) then (j5 ([41] : List Nat)) else (if (eqL a2.f1 [123]) then (j5 ([125] : List Nat)) else (if (eqL a2.f1 [91]) then (j5 ([93] : List Nat)) else (if (eqL a2.f1 [60, 60]) then (j5 ([62, 62] : List Nat)) else (j5 ([] : List Nat)))))))) := rfl
end
end Go.Proofs.Ytnikdnchoahngaa.Am
