/- LawParensAsks, part 2: whatever the input, the law comes out true: our texts, joined by a tool, without what the claim does not name. -/
import Derived.Test.YtbmijiibfaacmaaPkParensAsks1
import Derived.KernelRfl
import Derived.Recover
import Derived.Lib.OthersKept
import Derived.Laws.RangeString
import Derived.Test.YtbmijiibfaacmaaProg
import Derived.SizedLaws
import Derived.ChangeSlices
set_option linter.unusedVariables false
set_option linter.unusedSimpArgs false
namespace Go.Proofs.Ytbmijiibfaacmaa.Am
open Go
theorem RW.still {m : Mp} {H : Hp} {w : World} {base : Nat} (h : RW m H w base) : RW m.still H0 w w.heap.size where
 blk := by intro r b v B N hb hm; cases hm
 dom := by intro r v B N hm; cases hm
 sep := by intro r v B N r' v' N' hm; cases hm
 fresh := by intro r _; rfl
 vle := by intro r v B N hm; cases hm
 frz := h.frz
 fsep := by intro i B cells r v N b _ hm; cases hm
 ffin := h.ffin
 base_le := Nat.le_refl _
 low := by show 0 ≤ roots; unfold roots; omega
def PureOk (P : Program) (f : Nat) (xs : List AV) (v : AV) : Prop :=
 (∀ (m0 : Mp) (w : World) (args : Array Value), (∀ r v, m0 r v = none) → VRs m0 xs args.toList → RW m0 H0 w w.heap.size → Calls P f args w fun x w' => ∃ m' c, x = .returned c ∧ RW m' H0 w' w.heap.size ∧ St m0 w w.heap.size m' w' ∧ VR m' v c) ∧
 (∃ fn, P.funcs[f]? = some fn ∧ (fn.name == "runtime.NumGoroutine") = false ∧ fn.body.isSome = true)
theorem pure_call {P : Program} {f : Nat} {xs : List AV} {v : AV} (h : PureOk P f xs v) (hx : purs xs = true) (hv : pur v = true) (H : Hp) : CallV P f xs H v H := by
 refine ⟨?_, h.2⟩
 intro m w base args hargs rw
 refine Calls.mono (h.1 m.still w args (fun _ _ => rfl) (purs_VR _ _ hx hargs) rw.still) ?_
 rintro x w' ⟨m', c, rfl, rw', st', hvc⟩
 have hnone : ∀ r v, m' r v = none := by
  intro r v
  cases e : m' r v with
  | none => rfl
  | some p =>
   obtain ⟨b, hb, _⟩ := rw'.dom r v p.1 p.2 e
   cases hb
 have hsame : ∀ B, B < w.heap.size → w'.heap[B]? = w.heap[B]? := fun B hB => st'.same B hB (fun _ _ _ hm => by cases hm)
 have hsub : Sub m ⟨m.map, m'.froz⟩ := ⟨fun _ _ _ h => h, st'.sub.2⟩
 refine ⟨⟨m.map, m'.froz⟩, c, rfl, ⟨?_, ?_, rw.sep, rw.fresh, rw.vle, rw'.frz, ?_, rw'.ffin, Nat.le_trans rw.base_le st'.size, rw.low⟩, ⟨hsub, fun r v B N e => .inl ⟨v, N, e⟩, ?_, st'.size, st'.os, st'.tape, st'.output, fun B hB _ => hsame B hB⟩, ?_⟩
 ·intro r b v B N hb hm h1 h2
  obtain ⟨cs, ty, fr, q1, q2, q3, q4, q5⟩ := rw.blk r b v B N hb hm h1 h2
  obtain ⟨_, _, _, hlt, _⟩ := rw.dom r v B N hm
  exact ⟨cs, ty, fr, by rw [hsame B hlt]; exact q1, q2, q3, q4, VRs.mono hsub _ _ q5⟩
 ·intro r v B N hm
  obtain ⟨b, q1, q2, q3, q4⟩ := rw.dom r v B N hm
  exact ⟨b, q1, q2, Nat.lt_of_lt_of_le q3 st'.size, q4⟩
 ·intro i B cells r v N b hi hm hb
  rcases st'.fext i B cells hi with hi' | ⟨hB, _⟩
  ·exact rw.fsep i B cells r v N b hi' hm hb
  ·obtain ⟨_, _, _, hlt, _⟩ := rw.dom r v B N hm
   omega
 ·intro i B cells e
  rcases st'.fext i B cells e with hi' | ⟨hB, _⟩
  ·exact .inl hi'
  ·exact .inr ⟨Nat.le_trans rw.base_le hB, .inr hB⟩
 ·have h1 := pur_VR v c hv hvc
  exact VR.mono (m := m'.still) (m' := ⟨m.map, m'.froz⟩) ⟨fun _ _ _ h => (by cases h), fun _ _ h => h⟩ v c h1
inductive Fr where
 | seq (b : Code) | block (id : Nat) | loop (b : Code) | scope (b : Code)
inductive Pt where
 | code (c : Code) (K : List Fr)
 | ops (o : Array Oper) (n : Nat) (K : List Fr)
 | loop (b : Code) (K : List Fr)
 | fin
def FinK (P : Program) (Q : Exit → Act → World → Prop) : List Fr → Exit → Act → World → Prop
 | [] => Q
 | .seq b :: K => Exit.then (b.wp P (FinK P Q K)) (FinK P Q K)
 | .block id :: K => Exit.inBlock id (FinK P Q K)
 | .loop b :: K => Exit.then (LoopWp P b (FinK P Q K)) (FinK P Q K)
 | .scope b :: K => fun e a w => match e with | .goto l => ∃ rest, findLabel b l = some rest ∧ ScopeWp P b rest (FinK P Q K) a w | e => FinK P Q K e a w
def At (P : Program) (Q : Exit → Act → World → Prop) : Pt → Act → World → Prop
 | .code c K, a, w => c.wp P (FinK P Q K) a w
 | .ops o n K, a, w => wpOps P o (FinK P Q K) (List.range' n (o.size - n)) a w
 | .loop b K, a, w => LoopWp P b (FinK P Q K) a w
 | .fin, a, w => Q .normal a w ∧ Q .ret a w
def resume : List Fr → Pt
 | [] => .fin
 | .seq b :: K => .code b K
 | .block _ :: K => resume K
 | .loop b :: K => .loop b K
 | .scope _ :: K => resume K
theorem resume_ok {P : Program} {Q : Exit → Act → World → Prop} {a : Act} {w : World} : ∀ {K : List Fr}, At P Q (resume K) a w → FinK P Q K .normal a w
 | [], h => h.1
 | .seq b :: K, h => h
 | .block id :: K, h => by show Exit.inBlock id (FinK P Q K) .normal a w; exact resume_ok (K := K) h
 | .loop b :: K, h => h
 | .scope b :: K, h => resume_ok (K := K) h
def exitK (id : Nat) : List Fr → Option Pt
 | [] => none
 | .block j :: K => if id = j then some (resume K) else exitK id K
 | .seq _ :: K => exitK id K
 | .loop _ :: K => exitK id K
 | .scope _ :: K => exitK id K
theorem exitK_ok {P : Program} {Q : Exit → Act → World → Prop} {a : Act} {w : World} {id : Nat} {p : Pt} : ∀ {K : List Fr}, exitK id K = some p → At P Q p a w → FinK P Q K (.exit id) a w
 | [], h, _ => by cases h
 | .seq b :: K, h, k => exitK_ok (K := K) h k
 | .loop b :: K, h, k => exitK_ok (K := K) h k
 | .scope b :: K, h, k => exitK_ok (K := K) h k
 | .block j :: K, h, k => by
  simp only [exitK] at h
  show Exit.inBlock j (FinK P Q K) (.exit id) a w
  simp only [Exit.inBlock]
  split at h
  ·rename_i e
   cases h
   rw [if_pos e]
   exact resume_ok k
  ·rename_i e
   rw [if_neg e]
   exact exitK_ok h k
def gotoK (l : Nat) : List Fr → Option Pt
 | [] => none
 | .scope b :: K => match findLabel b l with | some rest => some (.code rest (.scope b :: K)) | none => none
 | .block _ :: K => gotoK l K
 | .seq _ :: K => gotoK l K
 | .loop _ :: K => gotoK l K
theorem scope_ok {P : Program} {Q : Exit → Act → World → Prop} {a : Act} {w : World} {b c : Code} {K : List Fr} (h : c.wp P (FinK P Q (.scope b :: K)) a w) : ScopeWp P b c (FinK P Q K) a w :=
 ScopeWp.of (wp_mono h fun e a1 w1 he => by cases e <;> exact he)
theorem gotoK_ok {P : Program} {Q : Exit → Act → World → Prop} {a : Act} {w : World} {l : Nat} {p : Pt} : ∀ {K : List Fr}, gotoK l K = some p → At P Q p a w → FinK P Q K (.goto l) a w
 | [], h, _ => by cases h
 | .seq b :: K, h, k => gotoK_ok (K := K) h k
 | .loop b :: K, h, k => gotoK_ok (K := K) h k
 | .block b :: K, h, k => gotoK_ok (K := K) h k
 | .scope b :: K, h, k => by
  simp only [gotoK] at h
  split at h
  ·rename_i rest hf
   cases h
   exact ⟨rest, hf, scope_ok k⟩
  ·cases h
theorem retK_ok {P : Program} {Q : Exit → Act → World → Prop} {a : Act} {w : World} (h : Q .ret a w) : ∀ (K : List Fr), FinK P Q K .ret a w
 | [] => h
 | .seq b :: K => retK_ok h K
 | .loop b :: K => retK_ok h K
 | .block b :: K => retK_ok h K
 | .scope b :: K => retK_ok h K
inductive FzG (n0 : Nat) (H : Hp) : List AV → List AV → Prop where
 | pures {xs} : purs xs = true → FzG n0 H xs xs
 | cons {x xs ys} : pur x = true → FzG n0 H xs ys → FzG n0 H (x :: xs) (x :: ys)
 | nil {sz xs ys} : FzG n0 H xs ys → FzG n0 H (.nils :: xs) (.vec 0 sz [] :: ys)
 | own {r len sz cells cells' minv xs ys} : Nat.ble n0 r = true → H.t.get r = some ⟨cells, minv, false⟩ → cells.length = len * sz → minv ≤ len * sz → FzG n0 H cells cells' → FzG n0 H xs ys → FzG n0 H (.own r len sz :: xs) (.vec len sz cells' :: ys)
 | slice {r len sz v cells cells' minv xs ys} : Nat.ble n0 r = true → H.t.get r = some ⟨cells, minv, false⟩ → cells.length = len * sz → v = len * sz → minv ≤ len * sz → FzG n0 H cells cells' → FzG n0 H xs ys → FzG n0 H (.slice r v 0 len sz :: xs) (.vec len sz cells' :: ys)
 | agg {xs ys zs us} : FzG n0 H xs ys → FzG n0 H zs us → FzG n0 H (.agg xs :: zs) (.agg ys :: us)
 | tuple {xs ys zs us} : FzG n0 H xs ys → FzG n0 H zs us → FzG n0 H (.tuple xs :: zs) (.tuple ys :: us)
structure FOk (n0 : Nat) (m : Mp) (F : Nat → Option (Nat × List AV)) (w : World) (base : Nat) : Prop where
 ok : ∀ i B cells, F i = some (B, cells) → ∃ cs ty fr, w.heap[B]? = some (.cells cs ty fr) ∧ cells.length ≤ cs.size ∧ VRs ⟨fun _ _ => none, F⟩ cells (cs.toList.take cells.length)
 fin : ∃ n, ∀ i, n ≤ i → F i = none
 new : ∀ i B cells, F i = some (B, cells) → m.froz i = some (B, cells) ∨ base ≤ B ∧ ∃ r v N, n0 ≤ r ∧ m r v = some (B, N)
 sub : ∀ i p, m.froz i = some p → F i = some p
theorem FzG.length {n0 : Nat} {H : Hp} {xs ys : List AV} (h : FzG n0 H xs ys) : ys.length = xs.length := by
 induction h <;> simp_all
theorem fOk_add {n0 : Nat} {m : Mp} {F : Nat → Option (Nat × List AV)} {w : World} {base B : Nat} {cells : List AV} {cs : Array Value} {ty : TypeId} {fr : Nat × Nat} (h : FOk n0 m F w base) (hB : base ≤ B) (hmB : ∃ r v N, n0 ≤ r ∧ m r v = some (B, N)) (hw : w.heap[B]? = some (.cells cs ty fr)) (hl : cells.length ≤ cs.size) (hv : VRs ⟨fun _ _ => none, F⟩ cells (cs.toList.take cells.length)) :
 ∃ F' i, FOk n0 m F' w base ∧ F' i = some (B, cells) ∧ (∀ i p, F i = some p → F' i = some p) := by
 obtain ⟨n, hn⟩ := h.fin
 have hsub : ∀ i p, F i = some p → (fun i => if i = n then some (B, cells) else F i) i = some p := by
  intro i p hi
  simp only
  rw [if_neg]
  ·exact hi
  ·rintro rfl; rw [hn _ (Nat.le_refl _)] at hi; cases hi
 have hS : Sub ⟨fun _ _ => none, F⟩ ⟨fun _ _ => none, fun i => if i = n then some (B, cells) else F i⟩ := ⟨fun _ _ _ e => (by cases e), hsub⟩
 refine ⟨fun i => if i = n then some (B, cells) else F i, n, ⟨?_, ⟨n + 1, fun i hi => ?_⟩, ?_, fun i p hi => hsub i p (h.sub i p hi)⟩, by simp, hsub⟩
 ·intro i B' cells' hi
  by_cases e : i = n
  ·simp only [e, if_true] at hi
   cases hi
   exact ⟨cs, ty, fr, hw, hl, VRs.mono hS _ _ hv⟩
  ·simp only [e, if_false] at hi
   obtain ⟨cs2, ty2, fr2, h1, h2, h3⟩ := h.ok i B' cells' hi
   exact ⟨cs2, ty2, fr2, h1, h2, VRs.mono hS _ _ h3⟩
 ·have hne : ¬ i = n := by omega
  show (if i = n then some (B, cells) else F i) = none
  rw [if_neg hne]
  exact hn i (by omega)
 ·intro i B' cells' hi
  by_cases e : i = n
  ·simp only [e, if_true] at hi
   cases hi
   exact .inr ⟨hB, hmB⟩
  ·simp only [e, if_false] at hi
   exact h.new i B' cells' hi
theorem vec_nil (m : Mp) (sz : Nat) : VR m (.vec 0 sz []) (.slice none 0 0) := by
 simp only [VR]
 exact ⟨by simp, none, 0, rfl, Nat.le_refl _, by simp, by simp⟩
theorem fz_ok {n0 : Nat} {m : Mp} {H : Hp} {w : World} {base : Nat} (rw : RW m H w base) {xs ys : List AV} (h : FzG n0 H xs ys) : ∀ {cs : List Value} {F : Nat → Option (Nat × List AV)}, FOk n0 m F w base → VRs m xs cs → ∃ F', FOk n0 m F' w base ∧ (∀ i p, F i = some p → F' i = some p) ∧ VRs ⟨fun _ _ => none, F'⟩ ys cs := by
 have still : ∀ {F : Nat → Option (Nat × List AV)}, FOk n0 m F w base → Sub m.still ⟨fun _ _ => none, F⟩ := fun hF => ⟨fun _ _ _ e => (by cases e), hF.sub⟩
 have grow : ∀ {F F' : Nat → Option (Nat × List AV)}, (∀ i p, F i = some p → F' i = some p) → Sub ⟨fun _ _ => none, F⟩ ⟨fun _ _ => none, F'⟩ := fun h => ⟨fun _ _ _ e => (by cases e), h⟩
 have block : ∀ {r len sz minv cap B N : Nat} {cells cells' : List AV}, Nat.ble n0 r = true → H.t.get r = some ⟨cells, minv, false⟩ → cells.length = len * sz → minv ≤ len * sz → cells'.length = cells.length →
  (∀ {cs : List Value} {F : Nat → Option (Nat × List AV)}, FOk n0 m F w base → VRs m cells cs → ∃ F', FOk n0 m F' w base ∧ (∀ i p, F i = some p → F' i = some p) ∧ VRs ⟨fun _ _ => none, F'⟩ cells' cs) →
  ∀ {F : Nat → Option (Nat × List AV)}, FOk n0 m F w base → m r (len * sz) = some (B, N) → len ≤ cap → ∃ F', FOk n0 m F' w base ∧ (∀ i p, F i = some p → F' i = some p) ∧ VR ⟨fun _ _ => none, F'⟩ (.vec len sz cells') (.slice (some ⟨B, 0, none⟩) len cap) := by
  intro r len sz minv cap B N cells cells' h0r hb hl hmin hl' ih F hF hm hcap
  obtain ⟨cs, ty, fr, q1, q2, q3, q4, q5⟩ := rw.blk _ _ _ _ _ hb hm hmin (by rw [hl]; exact Nat.le_refl _)
  obtain ⟨b0, hb0, _, _, hbase⟩ := rw.dom _ _ _ _ hm
  rw [hb] at hb0
  cases hb0
  simp only at q5
  rw [List.take_of_length_le (by omega)] at q5
  obtain ⟨F1, h1, h2, h3⟩ := ih hF q5
  obtain ⟨F2, i, g1, g2, g3⟩ := fOk_add h1 (hbase rfl) ⟨r, _, _, Nat.le_of_ble_eq_true h0r, hm⟩ q1 (cells := cells') (by omega) (by rw [hl', hl]; exact h3)
  refine ⟨F2, g1, fun i p hi => g3 i p (h2 i p hi), ?_⟩
  simp only [VR]
  refine ⟨by omega, _, cap, rfl, hcap, fun e => (by cases e), fun _ => ⟨i, B, 0, cells', g2, rfl, ?_, by omega⟩⟩
  rw [List.drop_zero, List.take_of_length_le (by omega)]
 induction h with
 | pures hp =>
  intro cs F hF hv
  exact ⟨F, hF, fun _ _ h => h, VRs.mono (still hF) _ _ (purs_VR _ _ hp hv)⟩
 | cons hp _ ih =>
  intro cs F hF hv
  simp only [VRs] at hv ⊢
  obtain ⟨y, ys, rfl, h1, h2⟩ := hv
  obtain ⟨F', g1, g2, g3⟩ := ih hF h2
  exact ⟨F', g1, g2, y, ys, rfl, VR.mono (still g1) _ _ (pur_VR _ _ hp h1), g3⟩
 | nil _ ih =>
  intro cs F hF hv
  simp only [VRs] at hv ⊢
  obtain ⟨y, ys, rfl, h1, h2⟩ := hv
  obtain ⟨F', g1, g2, g3⟩ := ih hF h2
  simp only [VR] at h1
  subst h1
  exact ⟨F', g1, g2, _, ys, rfl, vec_nil _ _, g3⟩
 | @own r len sz cells cells' minv xs ys h0r hb hl hmin hc _ ih1 ih2 =>
  intro cs F hF hv
  simp only [VRs] at hv
  obtain ⟨c, cs', rfl, h1, h2⟩ := hv
  simp only [VR] at h1
  rcases h1 with ⟨h0, rfl⟩ | ⟨B, N, cap, hm, hcap, hN, rfl⟩
  ·obtain ⟨F', g1, g2, g3⟩ := ih2 hF h2
   refine ⟨F', g1, g2, ?_⟩
   subst h0
   obtain rfl : cells' = [] := List.length_eq_zero_iff.1 (by rw [hc.length]; omega)
   simp only [VRs]
   exact ⟨_, _, rfl, vec_nil _ _, g3⟩
  ·obtain ⟨F1, g1, g2, g3⟩ := block h0r hb hl hmin hc.length ih1 hF hm hcap
   obtain ⟨F', e1, e2, e3⟩ := ih2 g1 h2
   refine ⟨F', e1, fun i p hi => e2 i p (g2 i p hi), ?_⟩
   simp only [VRs]
   exact ⟨_, _, rfl, VR.mono (grow e2) _ _ g3, e3⟩
 | @slice r len sz v cells cells' minv xs ys h0r hb hl hv0 hmin hc _ ih1 ih2 =>
  intro cs F hF hv
  simp only [VRs] at hv
  obtain ⟨c, cs', rfl, h1, h2⟩ := hv
  simp only [VR] at h1
  obtain ⟨B, N, cap, hm, _, hcap, hN, rfl⟩ := h1
  subst hv0
  obtain ⟨F1, g1, g2, g3⟩ := block h0r hb hl hmin hc.length ih1 hF hm hcap
  obtain ⟨F', e1, e2, e3⟩ := ih2 g1 h2
  refine ⟨F', e1, fun i p hi => e2 i p (g2 i p hi), ?_⟩
  simp only [VRs]
  exact ⟨_, _, rfl, VR.mono (grow e2) _ _ g3, e3⟩
 | agg _ _ ih1 ih2 =>
  intro cs F hF hv
  simp only [VRs, VR] at hv ⊢
  obtain ⟨c, cs', rfl, ⟨zs, rfl, h1⟩, h2⟩ := hv
  obtain ⟨F1, g1, g2, g3⟩ := ih1 hF h1
  obtain ⟨F', e1, e2, e3⟩ := ih2 g1 h2
  exact ⟨F', e1, fun i p hi => e2 i p (g2 i p hi), _, _, rfl, ⟨zs, rfl, VRs.mono (grow e2) _ _ g3⟩, e3⟩
 | tuple _ _ ih1 ih2 =>
  intro cs F hF hv
  simp only [VRs, VR] at hv ⊢
  obtain ⟨c, cs', rfl, ⟨zs, rfl, h1⟩, h2⟩ := hv
  obtain ⟨F1, g1, g2, g3⟩ := ih1 hF h1
  obtain ⟨F', e1, e2, e3⟩ := ih2 g1 h2
  exact ⟨F', e1, fun i p hi => e2 i p (g2 i p hi), _, _, rfl, ⟨zs, rfl, VRs.mono (grow e2) _ _ g3⟩, e3⟩
structure Fx (R : Type) where
 P : Program
 C : Cx
 fn : Func
 enc : R → AV
 n0 : Nat
 fin : R → Hp
 hti : ∀ t i, C.ti t = some i → mkTi P t = some i
 ord : P.follows .mixedOrders = true
 thr : R → Option (Value × List Nat)
 dfs : Bool
section
variable {R : Type} (X : Fx R)
def Ret (r : R) (m0 : Mp) (w0 : World) (b0 : Nat) : Exit → Act → World → Prop :=
 match X.dfs with
 | true => bodyPostD X.P X.fn (EndT (X.thr r) (X.enc r) (X.fin r) m0 w0 b0)
 | false => bodyPost X.P X.fn (EndT (X.thr r) (X.enc r) (X.fin r) m0 w0 b0)
theorem ret_ret {X : Fx R} {r : R} {m0 : Mp} {w0 : World} {b0 : Nat} {a : Act} {w : World} {c : Value} (hd : a.defers = []) (h1 : (results X.fn a.tmps).run X.P w = .ok c w) (h2 : EndT (X.thr r) (X.enc r) (X.fin r) m0 w0 b0 (.returned c) w) : Ret X r m0 w0 b0 .normal a w ∧ Ret X r m0 w0 b0 .ret a w := by
 have : Leaves X.P X.fn a.tmps (EndT (X.thr r) (X.enc r) (X.fin r) m0 w0 b0) a.defers .returning w := by rw [hd]; exact ⟨c, h1, h2⟩
 unfold Ret
 cases X.dfs
 ·exact ⟨⟨hd, c, h1, h2⟩, ⟨hd, c, h1, h2⟩⟩
 ·exact ⟨this, this⟩
theorem ret_calls {X : Fx R} {r : R} {m0 : Mp} {w0 : World} {b0 : Nat} {f : Nat} {c : Code} {args : Array Value} {w : World} (hf : X.P.funcs[f]? = some X.fn) (hc : X.fn.body = some c) (h : c.wp X.P (Ret X r m0 w0 b0) { tmps := args ++ Array.replicate (X.fn.ntmps - args.size) undef, defers := [] } w) : Calls X.P f args w (EndT (X.thr r) (X.enc r) (X.fin r) m0 w0 b0) := by
 unfold Ret at h
 cases hd : X.dfs with
 | true => rw [hd] at h; exact calls_of_wp_defers hf hc h
 | false => rw [hd] at h; exact calls_of_wp hf hc h
def Ok (p : Pt) (env : Env) (H : Hp) (t : Option R) : Prop := ∀ r, t = some r → ∀ (m0 : Mp) (w0 : World) (b0 : Nat) (m : Mp) (w : World) (a : Act), ((∀ r v p, m0 r v = some p → r < X.n0) ∧ b0 ≤ w0.heap.size) → FR m env a.tmps → X.fn.ntmps ≤ a.tmps.size → a.defers = [] → RW m H w b0 → St m0 w0 b0 m w → At X.P (Ret X r m0 w0 b0) p a w
end
section
variable {R : Type} {X : Fx R} {p p' : Pt} {env eE : Env} {H H' : Hp}
theorem ok_none : Ok X p env H none := by intro r h; cases h
theorem ok_bind {α : Type} {m : Option α} {f : α → Option R} (h : ∀ x, m = some x → Ok X p env H (f x)) : Ok X p env H (m.bind f) := by
 intro r hr
 cases hm : m with
 | none => rw [hm] at hr; cases hr
 | some x => rw [hm] at hr; exact h x hm r hr
theorem ok_less {t : Option R} (h : Less env eE) (k : Ok X p eE H t) : Ok X p env H t :=
 fun r hr m0 w0 b0 m w a h0 fr hn hd rw st => k r hr m0 w0 b0 m w a h0 (fr.less h) hn hd rw st
theorem ok_keep {t : Option R} (ks : List Nat) (h : keepOnly env ks = eE) (k : Ok X p eE H t) : Ok X p env H t :=
 ok_less (h ▸ less_keepOnly ks env) k
theorem ok_heap {t : Option R} (h : H = H') (k : Ok X p env H' t) : Ok X p env H t := h ▸ k
theorem oE {t : Option R} (h : env = eE) (k : Ok X p eE H t) : Ok X p env H t := h ▸ k
theorem less_put {d : Nat} {v : AV} (h : look env d = v) : Less env (putE env d v) := by
 intro t
 rw [look_put]
 split
 ·rename_i e; subst e; exact .inr h.symm
 ·exact .inr rfl
theorem ok_split {t1 t2 : Option R} (d : Nat) {b : Bool} (h : look env d = .bool b) (k1 : b = true → Ok X p ((d, .bool true) :: env) H t1) (k2 : b = false → Ok X p ((d, .bool false) :: env) H t2) : Ok X p env H (if b then t1 else t2) := by
 cases b with
 | true => exact ok_less (less_put h) (k1 rfl)
 | false => exact ok_less (less_put h) (k2 rfl)
abbrev jn {α R : Type} (f : α → Option R) (b : (α → Option R) → Option R) : Option R := b f
theorem oJ {α : Type} {f : α → Option R} {b : (α → Option R) → Option R} (pj : Pt) (E : α → Env) (G : α → Hp) (k1 : ∀ x, Ok X pj (E x) (G x) (f x)) (k2 : ∀ j : α → Option R, (∀ x, Ok X pj (E x) (G x) (j x)) → Ok X p env H (b j)) : Ok X p env H (jn f b) := k2 f k1
theorem ok_stp {t : Option R} {ops : Array Oper} {n : Nat} {K : List Fr} {o : Oper} {v : AV} (ho : ops[n]? = some o) (hd : dstOk X.fn.ntmps o = true) (hw : wantedV o ops.toList env = some true) (hs : Stp X.P X.C env H o v H') (k : Ok X (.ops ops (n + 1) K) (putV env o.dst v) H' t) : Ok X (.ops ops n K) env H t := by
 intro r hr m0 w0 b0 m w a h0 fr hn hdf rw st
 show wpOps X.P ops _ (List.range' n (ops.size - n)) a w
 have hlt : n < ops.size := (Array.getElem?_eq_some_iff.1 ho).1
 rw [show ops.size - n = (ops.size - (n + 1)) + 1 by omega, List.range'_succ]
 simp only [wpOps, ho]
 rw [wanted_ok hw fr]
 simp only [if_true]
 refine .inl ?_
 refine stp_ok X.hti hs fr rw _ _ fun m' w' c q1 q2 q3 => ?_
 obtain ⟨f1, f2, f3⟩ := act_put_frame (fr.mono q2.sub) hn hdf o hd v c q3
 exact k r hr m0 w0 b0 m' w' _ h0 f1 f2 f3 q1 (st.trans h0.2 q2)
theorem ok_skp {t : Option R} {ops : Array Oper} {n : Nat} {K : List Fr} {o : Oper} (ho : ops[n]? = some o) (hd : dstOk X.fn.ntmps o = true) (hw : wantedV o ops.toList env = some false) (k : Ok X (.ops ops (n + 1) K) (putV env o.dst (.tuple [])) H t) : Ok X (.ops ops n K) env H t := by
 intro r hr m0 w0 b0 m w a h0 fr hn hdf rw st
 show wpOps X.P ops _ (List.range' n (ops.size - n)) a w
 have hlt : n < ops.size := (Array.getElem?_eq_some_iff.1 ho).1
 rw [show ops.size - n = (ops.size - (n + 1)) + 1 by omega, List.range'_succ]
 simp only [wpOps, ho]
 rw [wanted_ok hw fr]
 simp only [Bool.false_eq_true, if_false]
 obtain ⟨f1, f2, f3⟩ := act_put_frame fr hn hdf o hd (.tuple []) undef (VR_undef _)
 exact k r hr m0 w0 b0 m w _ h0 f1 f2 f3 rw st
theorem ok_go {t : Option R} (h : ∀ (Q : Exit → Act → World → Prop) (a : Act) (w : World), True → At X.P Q p' a w → At X.P Q p a w) (k : Ok X p' env H t) : Ok X p env H t :=
 fun r hr m0 w0 b0 m w a h0 fr hn hd rw st => h _ a w trivial (k r hr m0 w0 b0 m w a h0 fr hn hd rw st)
end
end Go.Proofs.Ytbmijiibfaacmaa.Am
set_option linter.unusedVariables false
set_option linter.unusedSimpArgs false
namespace Go.Proofs.Ytbmijiibfaacmaa.Am
open Go
section
variable {R : Type} {X : Fx R} {p p' : Pt} {env eE : Env} {H H' : Hp}
noncomputable def stepV (C : Cx) (n : Nat) (p : Pt) (env : Env) (H : Hp) : Option (Pt × Env × Hp) :=
 match p with
 | .ops ops k K => match nth ops.toList k with
  | some o => bif dstOk n o then (match wantedV o ops.toList env with
   | some true => (match opV C env H o with | some (v, H') => some (.ops ops (k + 1) K, putV env o.dst v, H') | none => none)
   | some false => some (.ops ops (k + 1) K, putV env o.dst (.tuple []), H)
   | none => none) else none
  | none => some (resume K, env, H)
 | .code c K => match c with
  | .seq a b => some (.code a (.seq b :: K), env, H)
  | .skip => some (resume K, env, H)
  | .label _ => some (resume K, env, H)
  | .block id b => some (.code b (.block id :: K), env, H)
  | .scope b => some (.code b (.scope b :: K), env, H)
  | .loop b => some (.loop b K, env, H)
  | .exit id => match exitK id K with | some q => some (q, env, H) | none => none
  | .goto l => match gotoK l K with | some q => some (q, env, H) | none => none
  | .ret => some (.fin, env, H)
  | .region id ops draw => bif draw then none else some (.ops ops 0 K, env, H)
  | .cond c x y => match opnd env c with | .bool b => some (.code (bif b then x else y) K, env, H) | _ => none
  | _ => none
 | _ => none
theorem fin_ops {t : Option R} {ops : Array Oper} {n : Nat} {K : List Fr} (h : ops[n]? = none) (k : Ok X (resume K) env H t) : Ok X (.ops ops n K) env H t := by
 intro r hr m0 w0 b0 m w a h0 fr hn hd rw st
 show wpOps X.P ops _ (List.range' n (ops.size - n)) a w
 have hle : ops.size ≤ n := by
  rcases Nat.lt_or_ge n ops.size with h1 | h1
  ·rw [Array.getElem?_eq_getElem h1] at h; cases h
  ·exact h1
 rw [show ops.size - n = 0 by omega]
 exact resume_ok (k r hr m0 w0 b0 m w a h0 fr hn hd rw st)
theorem stepV_ok {t : Option R} (h : stepV X.C X.fn.ntmps p env H = some (p', eE, H')) (k : Ok X p' eE H' t) : Ok X p env H t := by
 cases p with
 | ops ops n K =>
  simp only [stepV] at h
  rw [nth_eq, Array.getElem?_toList] at h
  cases ho : ops[n]? with
  | none => rw [ho] at h; cases h; exact fin_ops ho k
  | some o =>
   rw [ho] at h
   simp only at h
   cases hd : dstOk X.fn.ntmps o with
   | false => rw [hd] at h; cases h
   | true =>
    rw [hd] at h
    simp only [cond_true] at h
    split at h
    ·rename_i hw
     split at h
     ·rename_i v H1 hv
      cases h
      exact ok_stp ho hd hw (.inl hv) k
     ·cases h
    ·rename_i hw
     cases h
     exact ok_skp ho hd hw k
    ·cases h
 | code c K =>
  cases c <;> simp only [stepV] at h
  case seq x y => cases h; exact ok_go (p' := .code x (.seq y :: K)) (fun Q a w _ hh => wp_seq (wp_mono hh fun e a w he => by cases e <;> exact he)) k
  case skip => cases h; exact ok_go (fun Q a w _ hh => wp_skip (resume_ok hh)) k
  case label => cases h; exact ok_go (fun Q a w _ hh => wp_label (resume_ok hh)) k
  case block id b => cases h; exact ok_go (p' := .code b (.block id :: K)) (fun Q a w _ hh => wp_block hh) k
  case scope b => cases h; exact ok_go (p' := .code b (.scope b :: K)) (fun Q a w _ hh => (scope_ok hh).wp) k
  case loop b => cases h; exact ok_go (p' := .loop _ _) (fun Q a w _ hh => LoopWp.wp hh) k
  case exit id =>
   split at h
   ·rename_i q hq
    cases h
    exact ok_go (fun Q a w _ hh => wp_exit (exitK_ok hq hh)) k
   ·cases h
  case goto l =>
   split at h
   ·rename_i q hq
    cases h
    exact ok_go (fun Q a w _ hh => wp_goto (gotoK_ok hq hh)) k
   ·cases h
  case ret => cases h; exact ok_go (p' := .fin) (fun Q a w _ hh => wp_ret (retK_ok hh.2 K)) k
  case region id ops draw =>
   cases draw with
   | true => cases h
   | false =>
    cases h
    refine ok_go (fun Q a w _ hh => wp_region ?_) k
    have hh' : wpOps X.P ops (FinK X.P Q K) (List.range' 0 (ops.size - 0)) a w := hh
    rw [List.range_eq_range']
    exact hh'
  case cond c x y =>
   split at h
   ·rename_i b hb
    cases h
    intro r hr m0 w0 b0 m w a h0 fr hn hd rw st
    have hc := opnd_ok fr c
    rw [hb] at hc
    simp only [VR] at hc
    refine wp_cond hc ?_
    have := k r hr m0 w0 b0 m w a h0 fr hn hd rw st
    cases b <;> exact this
   ·cases h
  all_goals cases h
 | loop b K => cases h
 | fin => cases h
noncomputable def runV (C : Cx) (n : Nat) (k : Nat) : Pt → Env → Hp → Option (Pt × Env × Hp) :=
 Nat.rec (motive := fun _ => Pt → Env → Hp → Option (Pt × Env × Hp)) (fun p env H => some (p, env, H))
  (fun _ ih p env H => match stepV C n p env H with | some (p', eE, H') => ih p' eE H' | none => none) k
theorem ok_run {t : Option R} : ∀ (k : Nat) {p : Pt} {env : Env} {H : Hp}, runV X.C X.fn.ntmps k p env H = some (p', eE, H') → Ok X p' eE H' t → Ok X p env H t
 | 0, p, env, H, h, g => by
  have h' : some (p, env, H) = some (p', eE, H') := h
  cases h'
  exact g
 | k + 1, p, env, H, h, g => by
  have h' : (match stepV X.C X.fn.ntmps p env H with | some (p', eE, H') => runV X.C X.fn.ntmps k p' eE H' | none => none) = some (p', eE, H') := h
  split at h'
  ·rename_i p1 env1 H1 hs
   exact stepV_ok hs (ok_run k h' g)
  ·cases h'
def entL : Pt → Option Pt
 | .loop b K => some (.code b (.loop b :: K))
 | _ => none
theorem ok_ent {t : Option R} (h : entL p = some p') (k : Ok X p' env H t) : Ok X p env H t := by
 cases p <;> simp only [entL] at h <;> cases h
 exact ok_go (p' := .code _ (.loop _ :: _)) (fun Q a w _ hh => LoopWp.of (wp_mono hh fun e a w he => by cases e <;> exact he)) k
noncomputable def operAt (n : Nat) (p : Pt) (env : Env) : Option Oper :=
 match p with
 | .ops ops k K => match nth ops.toList k with
  | some o => bif dstOk n o then (match wantedV o ops.toList env with | some true => some o | _ => none) else none
  | none => none
 | _ => none
def adv : Pt → Pt
 | .ops ops k K => .ops ops (k + 1) K
 | q => q
noncomputable def evalAt (C : Cx) (n : Nat) (p : Pt) (env : Env) (H : Hp) : Option (AV × Hp) :=
 match operAt n p env with | some o => opV C env H o | none => none
noncomputable def advE (n : Nat) (p : Pt) (env : Env) (v : AV) : Option (Pt × Env) :=
 match operAt n p env with | some o => some (adv p, putV env o.dst v) | none => none
noncomputable def callAt (n : Nat) (p : Pt) (env : Env) : Option (Nat × List AV) :=
 match operAt n p env with
 | some o => match o.op with
  | .call c => match c.callee with
   | .value g => match opnd env g with
    | .func f first caps => some (f, first ++ opnds env c.args.toList ++ caps)
    | _ => none
   | _ => none
  | _ => none
 | none => none
theorem operAt_spec {n : Nat} {o : Oper} (h : operAt n p env = some o) : ∃ ops k K, p = .ops ops k K ∧ ops[k]? = some o ∧ dstOk n o = true ∧ wantedV o ops.toList env = some true := by
 cases p <;> simp only [operAt] at h <;> try (cases h; done)
 rename_i ops k K
 rw [nth_eq, Array.getElem?_toList] at h
 cases ho : ops[k]? with
 | none => rw [ho] at h; cases h
 | some o' =>
  rw [ho] at h
  simp only at h
  cases hd : dstOk n o' with
  | false => rw [hd] at h; cases h
  | true =>
   rw [hd] at h
   simp only [cond_true] at h
   split at h
   ·rename_i hw
    cases h
    exact ⟨ops, k, K, rfl, ho, hd, hw⟩
   ·cases h
theorem ok_val {t : Option R} {v : AV} (h : evalAt X.C X.fn.ntmps p env H = some (v, H')) (ha : advE X.fn.ntmps p env v = some (p', eE)) (k : Ok X p' eE H' t) : Ok X p env H t := by
 unfold evalAt at h
 unfold advE at ha
 cases ho : operAt X.fn.ntmps p env with
 | none => rw [ho] at h; cases h
 | some o =>
  rw [ho] at h ha
  simp only at h ha
  cases ha
  obtain ⟨ops, n, K, rfl, h1, h2, h3⟩ := operAt_spec ho
  exact ok_stp h1 h2 h3 (.inl h) k
theorem ok_chk {α : Type} {m : Option α} {f : α → Option R} (g : α → AV × Hp) (p' : Pt) (E : α → Env) (h : evalAt X.C X.fn.ntmps p env H = m.map g) (ha : ∀ x, advE X.fn.ntmps p env (g x).1 = some (p', E x)) (k : ∀ x, m = some x → Ok X p' (E x) (g x).2 (f x)) : Ok X p env H (m.bind f) := by
 refine ok_bind fun x hx => ?_
 subst hx
 exact ok_val (v := (g x).1) (H' := (g x).2) h (ha x) (k x rfl)
theorem ok_call {α : Type} {m : Option α} {f : α → Option R} {fi : Nat} {args : List AV} (g : α → AV) (p' : Pt) (E : α → Env) (hc : callAt X.fn.ntmps p env = some (fi, args)) (hp : purs args = true) (hg : ∀ x, pur (g x) = true) (hf : ∀ x, m = some x → PureOk X.P fi args (g x)) (ha : ∀ x, advE X.fn.ntmps p env (g x) = some (p', E x)) (k : ∀ x, m = some x → Ok X p' (E x) H (f x)) : Ok X p env H (m.bind f) := by
 refine ok_bind fun x hx => ?_
 have hpo := pure_call (hf x hx) hp (hg x) H
 have hax := ha x
 unfold advE at hax
 unfold callAt at hc
 cases ho : operAt X.fn.ntmps p env with
 | none => rw [ho] at hax; cases hax
 | some o =>
  rw [ho] at hax hc
  simp only [Option.some.injEq, Prod.mk.injEq] at hax hc
  obtain ⟨e1, e2⟩ := hax
  obtain ⟨ops, n, K, rfl, h1, h2, h3⟩ := operAt_spec ho
  have kx := k x hx
  rw [← e1, ← e2] at kx
  split at hc
  ·rename_i c hoc
   split at hc
   ·rename_i q hq
    split at hc
    ·rename_i fi' first caps hfv
     cases hc
     exact ok_stp h1 h2 h3 (.inr ⟨c, q, fi, first, caps, hoc, hq, hfv, hpo⟩) kx
    ·cases hc
   ·cases hc
  ·cases hc
def drawAt : Pt → Option Pt
 | .code (.region _ _ true) K => some (resume K)
 | _ => none
def opsAt : Pt → Array Oper
 | .code (.region _ ops _) _ => ops
 | _ => #[]
noncomputable def rdOp (C : Cx) (env : Env) (hs : List Hp) (o : Oper) (j : Nat) : List (Option (AV × Hp) × Option (AV × Hp)) :=
 match nth hs j with
 | some H => [(opV C env H o, match o.dst with | some d => some (look env d, H) | none => opV C env H o)]
 | none => []
noncomputable def rdOps (C : Cx) (env : Env) (hs : List Hp) (o : Oper) : Nat → Nat → List (Option (AV × Hp) × Option (AV × Hp))
 | _, 0 => []
 | lo, n + 1 => rdOp C env hs o lo ++ rdOps C env hs o (lo + 1) n
noncomputable def rdL (C : Cx) (D : DP) (all : List Oper) (env : Env) (hs : List Hp) : Nat → List Oper → List (Nat × Nat × Nat) → List (Option (AV × Hp) × Option (AV × Hp))
 | c, o :: l, (mk, lo, hi) :: pl => (bif Nat.beq (clsS D.S o) 1 && !(mk.testBit D.tI) && !(Nat.beq lo c && Nat.beq hi c) then (match wantedV o all env with | some true => rdOps C env hs o lo (hi + 1 - lo) | _ => []) else []) ++ rdL C D all env hs (bif Nat.beq (clsS D.S o) 2 then c + 1 else c) l pl
 | _, _, _ => []
theorem rdOps_at {C : Cx} {env : Env} {hs : List Hp} {o : Oper} : ∀ (n lo j : Nat) (H : Hp), lo ≤ j → j < lo + n → hs[j]? = some H → (opV C env H o, match o.dst with | some d => some (look env d, H) | none => opV C env H o) ∈ rdOps C env hs o lo n
 | 0, lo, j, H, h1, h2, _ => by omega
 | n + 1, lo, j, H, h1, h2, h3 => by
  rw [rdOps, List.mem_append]
  by_cases e : lo = j
  ·subst e
   left
   unfold rdOp
   rw [nth_eq, h3]
   simp
  ·exact .inr (rdOps_at n (lo + 1) j H (by omega) (by omega) h3)
theorem rdL_at {C : Cx} {D : DP} {all : List Oper} {env : Env} {hs : List Hp} : ∀ (l : List Oper) (pl : List (Nat × Nat × Nat)) (c i : Nat) (o : Oper) (mk lo hi : Nat), l[i]? = some o → pl[i]? = some (mk, lo, hi) → mk.testBit D.tI = false → clsS D.S o = 1 → wantedV o all env = some true → ¬ (lo = c + (l.take i).countP (fun p => Nat.beq (clsS D.S p) 2) ∧ hi = c + (l.take i).countP (fun p => Nat.beq (clsS D.S p) 2)) → ∀ j, lo ≤ j → j ≤ hi → ∀ H, hs[j]? = some H → (opV C env H o, match o.dst with | some d => some (look env d, H) | none => opV C env H o) ∈ rdL C D all env hs c l pl
 | [], pl, c, i, o, mk, lo, hi, ho, _, _, _, _, _, j, _, _, H, _ => by simp at ho
 | p :: l, [], c, i, o, mk, lo, hi, ho, hp, _, _, _, _, j, _, _, H, _ => by simp at hp
 | p :: l, (mk0, lo0, hi0) :: pl, c, i, o, mk, lo, hi, ho, hp, hmk, hc, hw, hn, j, h1, h2, H, hj => by
  rw [rdL, List.mem_append]
  cases i with
  | zero =>
   simp at ho hp
   subst ho
   obtain ⟨rfl, rfl, rfl⟩ := hp
   left
   have e : Nat.beq (clsS D.S p) 1 = true := by rw [hc]; rfl
   have e2 : (Nat.beq lo0 c && Nat.beq hi0 c) = false := by
    cases h : (Nat.beq lo0 c && Nat.beq hi0 c) with
    | false => rfl
    | true =>
     simp only [Bool.and_eq_true] at h
     refine absurd (a := lo0 = c ∧ hi0 = c) ⟨Nat.eq_of_beq_eq_true h.1, Nat.eq_of_beq_eq_true h.2⟩ ?_
     simpa using hn
   rw [e, e2, hw, hmk]
   exact rdOps_at _ _ _ _ h1 (by omega) hj
  | succ i =>
   refine .inr (rdL_at l pl _ i o mk lo hi (by simpa using ho) (by simpa using hp) hmk hc hw ?_ j h1 h2 H hj)
   rw [List.take_succ_cons, List.countP_cons] at hn
   cases hb : Nat.beq (clsS D.S p) 2 with
   | true => rw [hb] at hn; simp only [if_true] at hn; simp only [cond_true]; omega
   | false => rw [hb] at hn; simp only [Bool.false_eq_true, if_false] at hn; simp only [cond_false]; omega
theorem alike_of {C : Cx} {D : DP} {ops : Array Oper} {env : Env} {hs : List Hp} (hsome : (rdL C D ops.toList env hs 0 ops.toList D.pl).all (fun q => q.1.isSome) = true) (h : (rdL C D ops.toList env hs 0 ops.toList D.pl).map (·.1) = (rdL C D ops.toList env hs 0 ops.toList D.pl).map (·.2)) : AlikeP C D ops env hs := by
 intro i o mk lo hi ho hp hmk hc hw hn j h1 h2 H hj
 have hm := rdL_at (C := C) (D := D) _ _ 0 i o mk lo hi ho hp hmk hc hw (by simpa using hn) j h1 h2 H hj
 have e : opV C env H o = (match o.dst with | some d => some (look env d, H) | none => opV C env H o) := by
  have key : ∀ l : List (Option (AV × Hp) × Option (AV × Hp)), l.map (·.1) = l.map (·.2) → ∀ q ∈ l, q.1 = q.2 := by
   intro l
   induction l with
   | nil => intro _ q hq; cases hq
   | cons x l ih =>
    intro hl q hq
    simp only [List.map_cons, List.cons.injEq] at hl
    rcases List.mem_cons.1 hq with rfl | hq
    ·exact hl.1
    ·exact ih hl.2 q hq
  exact key _ h _ hm
 have hs1 := List.all_eq_true.1 hsome _ hm
 cases hd : o.dst with
 | none =>
  simp only at hs1
  obtain ⟨⟨v, H1⟩, hv⟩ := Option.isSome_iff_exists.1 hs1
  have := opV_reads (by rw [← clsS_of (fzn_cls (S := D.S) (o := o) (by omega))]; exact hc) hv
  subst this
  exact ⟨v, hv, fun d hd => by cases hd⟩
 | some d =>
  rw [hd] at e
  exact ⟨_, e, fun d' hd' => by cases hd'; rfl⟩
theorem ok_draw {t : Option R} (D : DP) {hs : List Hp} (h : drawAt p = some p') (hti : Nat.ble (opsAt p).size D.tI = true) (hp : planOk D.S (opsAt p) D.pl = true) (hds : (opsAt p).toList.all (dstOk X.fn.ntmps) = true) (hD : OpsD X.P X.C D (opsAt p).toList (opsAt p).toList env H eE hs) (hsome : (rdL X.C D (opsAt p).toList eE (H :: hs) 0 (opsAt p).toList D.pl).all (fun q => q.1.isSome) = true) (hq : (rdL X.C D (opsAt p).toList eE (H :: hs) 0 (opsAt p).toList D.pl).map (·.1) = (rdL X.C D (opsAt p).toList eE (H :: hs) 0 (opsAt p).toList D.pl).map (·.2)) (hl : lastH H hs = H') (k : Ok X p' eE H' t) : Ok X p env H t := by
 subst hl
 unfold drawAt at h
 split at h
 ·rename_i id ops K
  cases h
  intro r hr m0 w0 b0 m w a h0 fr hn hd rw st
  have hge := Nat.le_of_ble_eq_true hti
  show (Code.region id ops true).wp X.P _ a w
  refine drawS_ok (id := id) X.hti X.ord hds hp hD (alike_of hsome hq) fr hn hd rw ?_ fun a m w w' hlt => absurd hlt (Nat.not_lt.2 hge)
  rintro a' w' _ ⟨_, m', q1, q2, q3, q4, q5⟩
  exact resume_ok (k r hr m0 w0 b0 m' w' a' h0 q3 q4 q5 q1 (st.trans h0.2 q2))
 ·cases h
noncomputable def runD (C : Cx) (D : DP) (all : List Oper) (k : Nat) : List Oper → Env → Hp → Option (List Oper × Env × Hp × List Hp) :=
 Nat.rec (motive := fun _ => List Oper → Env → Hp → Option (List Oper × Env × Hp × List Hp)) (fun l env H => some (l, env, H, []))
  (fun _ ih l env H => match l with
   | [] => none
   | o :: l => bif Nat.beq (all.length - (l.length + 1)) D.tI then none else match wantedV o all env with
    | none => none
    | some false => (match ih l (putV env o.dst (.tuple [])) H with
     | some (l', e, H', hs) => some (l', e, H', bif Nat.beq (clsS D.S o) 2 then H :: hs else hs)
     | none => none)
    | some true => (match evS C D.S env H o with
     | some (v, H1) => (match ih l (putV env o.dst v) H1 with
      | some (l', e, H', hs) => some (l', e, H', bif Nat.beq (clsS D.S o) 2 then H1 :: hs else hs)
      | none => none)
     | none => none)) k
theorem opsD_run {P : Program} {C : Cx} {D : DP} {all : List Oper} {e : Env} {hs2 : List Hp} : ∀ (k : Nat) {l l' : List Oper} {env eE : Env} {H H' : Hp} {hs : List Hp}, runD C D all k l env H = some (l', eE, H', hs) → OpsD P C D all l' eE H' e hs2 → OpsD P C D all l env H e (hs ++ hs2)
 | 0, l, l', env, eE, H, H', hs, h, g => by
  have h' : some (l, env, H, ([] : List Hp)) = some (l', eE, H', hs) := h
  cases h'
  exact g
 | k + 1, [], l', env, eE, H, H', hs, h, g => by cases h
 | k + 1, o :: l, l', env, eE, H, H', hs, h, g => by
  have h' : (bif Nat.beq (all.length - (l.length + 1)) D.tI then none else match wantedV o all env with
   | none => none
   | some false => (match runD C D all k l (putV env o.dst (.tuple [])) H with
    | some (l', e, H', hs) => some (l', e, H', bif Nat.beq (clsS D.S o) 2 then H :: hs else hs)
    | none => none)
   | some true => (match evS C D.S env H o with
    | some (v, H1) => (match runD C D all k l (putV env o.dst v) H1 with
     | some (l', e, H', hs) => some (l', e, H', bif Nat.beq (clsS D.S o) 2 then H1 :: hs else hs)
     | none => none)
    | none => none)) = some (l', eE, H', hs) := h
  cases hix : Nat.beq (all.length - (l.length + 1)) D.tI with
  | true => rw [hix] at h'; cases h'
  | false =>
  rw [hix] at h'
  simp only [cond_false] at h'
  split at h'
  ·cases h'
  ·rename_i hw
   split at h'
   ·rename_i hr
    cases h'
    have := OpsD.skip (P := P) hix hw (opsD_run k hr g)
    cases hc : Nat.beq (clsS D.S o) 2 <;> rw [hc] at this <;> exact this
   ·cases h'
  ·rename_i hw
   split at h'
   ·rename_i v H1 hv
    split at h'
    ·rename_i hr
     cases h'
     have := OpsD.val (P := P) hix hw (.inl hv) (opsD_run k hr g)
     cases hc : Nat.beq (clsS D.S o) 2 <;> rw [hc] at this <;> exact this
    ·cases h'
   ·cases h'
noncomputable def headO (all l : List Oper) (env : Env) : Option Oper := match l with | o :: _ => (match wantedV o all env with | some true => some o | _ => none) | [] => none
noncomputable def advD (D : DP) (all l : List Oper) (env : Env) (v : AV) (H : Hp) : Option (List Oper × Env × List Hp) := bif Nat.beq (all.length - l.length) D.tI then none else match headO all l env with | some o => some (l.tail, putV env o.dst v, bif Nat.beq (clsS D.S o) 2 then [H] else []) | none => none
noncomputable def callD (all l : List Oper) (env : Env) : Option (Nat × List AV) :=
 match headO all l env with
 | some o => match o.op with
  | .call c => match c.callee with
   | .value g => match opnd env g with
    | .func f first caps => some (f, first ++ opnds env c.args.toList ++ caps)
    | _ => none
   | _ => none
  | _ => none
 | none => none
theorem headO_spec {all l : List Oper} {o : Oper} (h : headO all l env = some o) : ∃ r, l = o :: r ∧ wantedV o all env = some true := by
 unfold headO at h
 split at h
 ·rename_i o' r
  split at h
  ·rename_i hw; cases h; exact ⟨r, rfl, hw⟩
  ·cases h
 ·cases h
theorem opsD_one {P : Program} {C : Cx} {D : DP} {all l l' : List Oper} {e : Env} {hs hs2 : List Hp} {o : Oper} {v : AV} (ho : headO all l env = some o) (hs0 : StpS P C D.S env H o v H') (ha : advD D all l env v H' = some (l', eE, hs)) (g : OpsD P C D all l' eE H' e hs2) : OpsD P C D all l env H e (hs ++ hs2) := by
 unfold advD at ha
 cases hix : Nat.beq (all.length - l.length) D.tI with
 | true => rw [hix] at ha; cases ha
 | false =>
 rw [hix, ho] at ha
 cases ha
 obtain ⟨r, rfl, hw⟩ := headO_spec ho
 have := OpsD.val hix hw hs0 g
 cases hc : Nat.beq (clsS D.S o) 2 <;> rw [hc] at this <;> exact this
theorem opsD_call {P : Program} {C : Cx} {D : DP} {all l l' : List Oper} {e : Env} {hs hs2 : List Hp} {fi : Nat} {args : List AV} {v : AV} (hc : callD all l env = some (fi, args)) (hp : purs args = true) (hv : pur v = true) (hf : PureOk P fi args v) (ha : advD D all l env v H = some (l', eE, hs)) (k : OpsD P C D all l' eE H e hs2) : OpsD P C D all l env H e (hs ++ hs2) := by
 have hpo := pure_call hf hp hv H
 unfold callD at hc
 cases ho : headO all l env with
 | none => rw [ho] at hc; cases hc
 | some o =>
  rw [ho] at hc
  simp only at hc
  split at hc
  ·rename_i c hoc
   split at hc
   ·rename_i q hq
    split at hc
    ·rename_i fi' first caps hfv
     cases hc
     exact opsD_one (v := v) ho (.inr ⟨c, q, fi, first, caps, hoc, hq, hfv, hpo⟩) ha k
    ·cases hc
   ·cases hc
  ·cases hc
noncomputable def mkT (n : Nat) (l : List Blk) : Tr :=
 List.rec (motive := fun _ => Nat → Tr) (fun _ => .nil) (fun b _ ih n => PT.set depth (ih (n + 1)) n b) l n
theorem mkT_nil (n : Nat) : mkT n [] = .nil := rfl
theorem mkT_cons (n : Nat) (b : Blk) (l : List Blk) : mkT n (b :: l) = PT.set depth (mkT (n + 1) l) n b := rfl
noncomputable def mkH (l : List Blk) : Hp := ⟨l.length, mkT 0 l⟩
theorem mkT_get : ∀ (l : List Blk) (n i : Nat), n + l.length ≤ roots → (mkT n l).get i = if n ≤ i then l[i - n]? else none
 | [], n, i, _ => by
  rw [mkT_nil]
  simp only [List.getElem?_nil, ite_self]
  exact PT.get_nil i
 | b :: l, n, i, h => by
  simp only [List.length_cons] at h
  by_cases e : n = i
  ·subst e
   rw [mkT_cons, Tr.get_set_eq _ _ _ _ (by unfold roots at h; unfold depth; omega)]
   simp
  ·rw [mkT_cons, Tr.get_set_ne _ _ _ _ _ e, mkT_get l (n + 1) i (by omega)]
   by_cases h1 : n ≤ i
   ·rw [if_pos (by omega), if_pos h1, show i - n = (i - (n + 1)) + 1 by omega, List.getElem?_cons_succ]
   ·rw [if_neg (by omega), if_neg h1]
mutual
def below (n : Nat) : AV → Bool
 | .ptr r _ _ => Nat.blt r n
 | .slice r _ _ _ _ => Nat.blt r n
 | .own r _ _ => Nat.blt r n
 | .agg xs => belows n xs
 | .tuple xs => belows n xs
 | .func _ a b => belows n a && belows n b
 | .iface _ v => below n v
 | _ => true
def belows (n : Nat) : List AV → Bool
 | [] => true
 | x :: xs => below n x && belows n xs
end
def Mp.cut (m : Mp) (n : Nat) : Mp := ⟨fun r v => if r < n then m r v else none, m.froz⟩
mutual
theorem below_VR {m : Mp} {n : Nat} : ∀ (x : AV) (c : Value), below n x = true → VR m x c → VR (m.cut n) x c
 | .top, _, _, _ => by simp only [VR]
 | .int .., _, _, e => by simpa only [VR] using e
 | .resid .., _, _, e => by simpa only [VR] using e
 | .bool _, _, _, e => by simpa only [VR] using e
 | .str _, _, _, e => by simpa only [VR] using e
 | .nilp, _, _, e => by simpa only [VR] using e
 | .nils, _, _, e => by simpa only [VR] using e
 | .nilf, _, _, e => by simpa only [VR] using e
 | .nili, _, _, e => by simpa only [VR] using e
 | .vec .., _, _, e => by simp only [VR] at e ⊢; exact e
 | .vptr .., _, _, e => by simp only [VR] at e ⊢; exact e
 | .ptr r v off, _, h, e => by
  simp only [VR, below, Nat.blt_eq] at e h ⊢
  obtain ⟨B, N, h1, h2⟩ := e
  exact ⟨B, N, by show (if r < n then m r v else none) = _; rw [if_pos h]; exact h1, h2⟩
 | .slice r v off len sz, _, h, e => by
  simp only [VR, below, Nat.blt_eq] at e h ⊢
  obtain ⟨B, N, cap, h1, h2⟩ := e
  exact ⟨B, N, cap, by show (if r < n then m r v else none) = _; rw [if_pos h]; exact h1, h2⟩
 | .own r len sz, _, h, e => by
  simp only [VR, below, Nat.blt_eq] at e h ⊢
  rcases e with e | ⟨B, N, cap, h1, h2⟩
  ·exact .inl e
  ·exact .inr ⟨B, N, cap, by show (if r < n then m r (len * sz) else none) = _; rw [if_pos h]; exact h1, h2⟩
 | .agg xs, c, h, e => by
  simp only [VR] at e ⊢
  obtain ⟨ys, h1, h2⟩ := e
  exact ⟨ys, h1, belows_VR xs _ (by simpa only [below] using h) h2⟩
 | .tuple xs, c, h, e => by
  simp only [VR] at e ⊢
  obtain ⟨ys, h1, h2⟩ := e
  exact ⟨ys, h1, belows_VR xs _ (by simpa only [below] using h) h2⟩
 | .func f a b, c, h, e => by
  simp only [VR] at e ⊢
  simp only [below, Bool.and_eq_true] at h
  obtain ⟨ys, zs, h1, h2, h3⟩ := e
  exact ⟨ys, zs, h1, belows_VR a _ h.1 h2, belows_VR b _ h.2 h3⟩
 | .iface t v, c, h, e => by
  simp only [VR] at e ⊢
  obtain ⟨d, h1, h2⟩ := e
  exact ⟨d, h1, below_VR v _ (by simpa only [below] using h) h2⟩
theorem belows_VR {m : Mp} {n : Nat} : ∀ (xs : List AV) (cs : List Value), belows n xs = true → VRs m xs cs → VRs (m.cut n) xs cs
 | [], _, _, e => by simpa only [VRs] using e
 | x :: xs, cs, h, e => by
  simp only [VRs] at e ⊢
  simp only [belows, Bool.and_eq_true] at h
  obtain ⟨y, ys, rfl, h1, h2⟩ := e
  exact ⟨y, ys, rfl, below_VR x y h.1 h1, belows_VR xs ys h.2 h2⟩
end
mutual
theorem pur_below {n : Nat} : ∀ x : AV, pur x = true → below n x = true
 | .top, _ | .int .., _ | .resid .., _ | .bool _, _ | .str _, _ | .nilp, _ | .nils, _ | .nilf, _ | .nili, _ | .vec .., _ | .vptr .., _ => by simp [below]
 | .ptr .., h | .slice .., h | .own .., h => by simp [pur] at h
 | .agg xs, h => by simp only [pur, below] at h ⊢; exact purs_belows xs h
 | .tuple xs, h => by simp only [pur, below] at h ⊢; exact purs_belows xs h
 | .func _ a b, h => by simp only [pur, below, Bool.and_eq_true] at h ⊢; exact ⟨purs_belows a h.1, purs_belows b h.2⟩
 | .iface _ v, h => by simp only [pur, below] at h ⊢; exact pur_below v h
theorem purs_belows {n : Nat} : ∀ xs : List AV, purs xs = true → belows n xs = true
 | [], _ => rfl
 | x :: xs, h => by simp only [purs, belows, Bool.and_eq_true] at h ⊢; exact ⟨pur_below x h.1, purs_belows xs h.2⟩
end
def belowE (n : Nat) : Env → Bool
 | [] => true
 | p :: l => below n p.2 && belowE n l
theorem belowE_look {n : Nat} : ∀ {e : Env} (t : Nat), belowE n e = true → below n (look e t) = true
 | [], t, _ => rfl
 | p :: l, t, h => by
  simp only [belowE, Bool.and_eq_true] at h
  rw [look_cons]
  split
  ·exact h.1
  ·exact belowE_look t h.2
def BB (n : Nat) : List Blk → Prop
 | [] => True
 | b :: l => belows n b.cells = true ∧ BB n l
theorem BB_get {n : Nat} : ∀ {l : List Blk} {i : Nat} {b : Blk}, BB n l → l[i]? = some b → belows n b.cells = true
 | [], i, b, _, h => by simp at h
 | b0 :: l, i, b, hb, h => by
  cases i with
  | zero => simp at h; subst h; exact hb.1
  | succ i => exact BB_get hb.2 (by simpa using h)
theorem belows_take {n : Nat} : ∀ {xs : List AV} (k : Nat), belows n xs = true → belows n (xs.take k) = true
 | [], k, _ => by simp [belows]
 | x :: xs, 0, _ => by simp [belows]
 | x :: xs, k + 1, h => by
  simp only [belows, List.take_succ_cons, Bool.and_eq_true] at h ⊢
  exact ⟨h.1, belows_take k h.2⟩
theorem ok_cut {t : Option R} (l l2 : List Blk) (hn0 : Nat.ble X.n0 l.length = true) (hn : Nat.ble (l.length + l2.length) roots = true) (he : belowE l.length env = true) (hb : BB l.length l) (k : Ok X p env (mkH l) t) : Ok X p env (mkH (l ++ l2)) t := by
 intro r hr m0 w0 b0 m w a h0 fr hnt hd rw st
 have hn : l.length + l2.length ≤ roots := Nat.le_of_ble_eq_true hn
 have hget : ∀ i, i < l.length → (mkH (l ++ l2)).t.get i = (mkH l).t.get i := by
  intro i hi
  show (mkT 0 (l ++ l2)).get i = (mkT 0 l).get i
  rw [mkT_get _ _ _ (by simp; omega), mkT_get _ _ _ (by omega)]
  simp [List.getElem?_append_left hi]
 have hcut : ∀ {r v q}, (m.cut l.length) r v = some q → r < l.length ∧ m r v = some q := by
  intro r v q h
  have h : (if r < l.length then m r v else none) = some q := h
  by_cases e : r < l.length
  ·rw [if_pos e] at h; exact ⟨e, h⟩
  ·rw [if_neg e] at h; cases h
 have hnone : ∀ i, l.length ≤ i → (mkH l).t.get i = none := by
  intro i hi
  show (mkT 0 l).get i = none
  rw [mkT_get _ _ _ (by omega)]
  simp [hi]
 refine k r hr m0 w0 b0 (m.cut l.length) w a h0 ?_ hnt hd ⟨?_, ?_, ?_, hnone, ?_, rw.frz, ?_, rw.ffin, rw.base_le, ?_⟩ ⟨⟨fun r v q hq => (by
  have h1 := h0.1 r v q hq
  have h2 := Nat.le_of_ble_eq_true hn0
  show (if r < l.length then m r v else none) = some q
  rw [if_pos (by omega)]
  exact st.sub.1 r v q hq), st.sub.2⟩, ?_, st.fext, st.size, st.os, st.tape, st.output, st.same⟩
 ·intro t ht
  obtain ⟨c, h1, h2⟩ := fr t ht
  exact ⟨c, h1, below_VR _ _ (belowE_look t he) h2⟩
 ·intro r b v B N hb' hm h1 h2
  obtain ⟨hlt, hm⟩ := hcut hm
  obtain ⟨cs, ty, fr', q1, q2, q3, q4, q5⟩ := rw.blk r b v B N (by rw [hget r hlt]; exact hb') hm h1 h2
  have hbl : l[r]? = some b := by
   have hb' : (mkT 0 l).get r = some b := hb'
   rw [mkT_get _ _ _ (by omega)] at hb'
   simpa using hb'
  exact ⟨cs, ty, fr', q1, q2, q3, q4, belows_VR _ _ (belows_take v (BB_get hb hbl)) q5⟩
 ·intro r v B N hm
  obtain ⟨hlt, hm⟩ := hcut hm
  rw [← hget r hlt]
  exact rw.dom r v B N hm
 ·intro r v B N r' v' N' hm hm' hB
  exact rw.sep _ _ _ _ _ _ _ (hcut hm).2 (hcut hm').2 hB
 ·intro r v B N hm
  exact rw.vle _ _ _ _ (hcut hm).2
 ·intro i B cells r v N b hi hm hb'
  obtain ⟨hlt, hm⟩ := hcut hm
  exact rw.fsep i B cells r v N b hi hm (by rw [hget r hlt]; exact hb')
 ·show l.length ≤ roots
  omega
 ·intro r v B N hm
  exact st.ext r v B N (hcut hm).2
theorem resV_ok {P : Program} {C : Cx} (hti : ∀ t i, C.ti t = some i → mkTi P t = some i) {m : Mp} {H : Hp} {w : World} {base : Nat} {env : Env} {a : Act} (fr : FR m env a.tmps) (rw : RW m H w base) (g : ResultVar → Sem Value) (hg1 : ∀ t, g (.tmp t) = pure (a.tmps.getD t undef)) (hg2 : ∀ p t, g (.cell p t) = do loadVar t (← asAddr (a.tmps.getD p undef))) : ∀ (l : List ResultVar) (xs : List AV), resV C env H l = some xs →
 ∃ vs : List Value, (l.mapM g).run P w = .ok vs w ∧ VRs m xs vs
 | [], xs, h => by simp only [resV] at h; cases h; exact ⟨[], by simp, by simp [VRs]⟩
 | .tmp t :: l, xs, h => by
  simp only [resV] at h
  cases hl : resV C env H l with
  | none => rw [hl] at h; cases h
  | some ys =>
   rw [hl] at h
   cases h
   obtain ⟨vs, h1, h2⟩ := resV_ok hti fr rw g hg1 hg2 l ys hl
   refine ⟨a.tmps.getD t undef :: vs, ?_, by simp only [VRs]; exact ⟨_, _, rfl, fr.getD t, h2⟩⟩
   simp only [List.mapM_cons, hg1, Sem.run_bind, Sem.run_pure, Result.andThen_ok, h1]
 | .cell p t :: l, xs, h => by
  simp only [resV] at h
  split at h
  ·rename_i i r v off ys ht hp hl
   split at h
   ·rename_i cs hcs
    split at h
    ·rename_i x hx
     cases h
     obtain ⟨vs, h1, h2⟩ := resV_ok hti fr rw g hg1 hg2 l ys hl
     have hv := fr.getD p
     rw [hp] at hv
     have hld : ∃ c, (loadVar t (match a.tmps.getD p undef with | .pointer (some b) => b | _ => default)).run P w = .ok c w ∧ VR m x c ∧ ∃ b, a.tmps.getD p undef = .pointer (some b) := by
      have hv' := hv
      simp only [VR] at hv'
      obtain ⟨B, N, hm, e⟩ := hv'
      obtain ⟨c, hc1, hc2⟩ := op_load_run (P := P) hti ht hv hcs hx rw
      rw [e] at hc1
      rw [e]
      exact ⟨c, hc1, hc2, _, rfl⟩
     obtain ⟨c, hc1, hc2, b, hb⟩ := hld
     rw [hb] at hc1
     refine ⟨c :: vs, ?_, by simp only [VRs]; exact ⟨_, _, rfl, hc2, h2⟩⟩
     simp only [List.mapM_cons, hg2, Sem.run_bind, hb, asAddr, Sem.run_pure, Result.andThen_ok, hc1, h1]
    ·cases h
   ·cases h
  ·cases h
theorem results_ok {P : Program} {C : Cx} (hti : ∀ t i, C.ti t = some i → mkTi P t = some i) {m : Mp} {H : Hp} {w : World} {base : Nat} {env : Env} {a : Act} {fn : Func} {xs : List AV} (fr : FR m env a.tmps) (rw : RW m H w base) (h : resV C env H fn.results.toList = some xs) :
 ∃ v, (results fn a.tmps).run P w = .ok v w ∧ VR m (oneRes xs) v := by
 have key : ∀ g : ResultVar → Sem Value, (∀ t, g (.tmp t) = pure (a.tmps.getD t undef)) → (∀ p t, g (.cell p t) = do loadVar t (← asAddr (a.tmps.getD p undef))) → ∃ vs : List Value, (fn.results.mapM g).run P w = .ok vs.toArray w ∧ VRs m xs vs := by
  intro g hg1 hg2
  obtain ⟨vs, h1, h2⟩ := resV_ok (P := P) hti fr rw g hg1 hg2 _ _ h
  exact ⟨vs, by rw [Array.mapM_eq_mapM_toList, Sem.run_map, h1]; rfl, h2⟩
 unfold results
 obtain ⟨vs, hm, h2⟩ := key (fun | .tmp t => pure (a.tmps.getD t undef) | .cell p t => do loadVar t (← asAddr (a.tmps.getD p undef))) (fun _ => rfl) (fun _ _ => rfl)
 have hlen := VRs.len h2
 refine ⟨if h : vs.toArray.size = 1 then vs.toArray[0] else .tuple vs.toArray, ?_, ?_⟩
 ·rw [Sem.run_bind]
  erw [hm]
  rfl
 ·unfold oneRes
  split
  ·simp only [VRs] at h2
   obtain ⟨y, ys, rfl, h3, rfl⟩ := h2
   simpa using h3
  ·rename_i hne
   have : ¬ vs.toArray.size = 1 := by
    intro e
    have e1 : xs.length = 1 := by simpa [hlen] using e
    obtain ⟨x, hx⟩ := List.length_eq_one_iff.1 e1
    exact hne x hx
   rw [dif_neg this]
   simp only [VR]
   exact ⟨_, rfl, by simpa using h2⟩
theorem oT {r : R} {xs : List AV} {v : AV} (hn0 : X.n0 = 0) (hfin : X.fin r = H0) (ht : X.thr r = none) (hr : resV X.C env H X.fn.results.toList = some xs) (hz : FzG 0 H [oneRes xs] [v]) (hv : X.enc r = v) : Ok X .fin env H (some r) := by
 intro r' e m0 w0 b0 m w a h0 fr hnt hd rw st
 cases e
 have hnone : ∀ r v, m0 r v = none := by
  intro r v
  cases e : m0 r v with
  | none => rfl
  | some p => have := h0.1 r v p e; omega
 obtain ⟨c, h1, h2⟩ := results_ok (P := X.P) X.hti fr rw hr
 have hF : FOk 0 m m.froz w b0 := by
  refine ⟨fun i B cells hi => rw.frz i B cells hi, rw.ffin, fun i B cells h => .inl h, fun _ _ h => h⟩
 obtain ⟨F', g1, g2, g3⟩ := fz_ok rw hz hF (cs := [c]) (by simp only [VRs]; exact ⟨c, [], rfl, h2, rfl⟩)
 simp only [VRs] at g3
 obtain ⟨c', cs', e, g3, _⟩ := g3
 cases e
 have fin : ∃ m' c', Ending.returned c = .returned c' ∧ RW m' (X.fin r) w b0 ∧ St m0 w0 b0 m' w ∧ VR m' (X.enc r) c' := by
  rw [hfin]
  refine ⟨⟨fun _ _ => none, F'⟩, c, rfl, ⟨?_, ?_, ?_, fun _ _ => rfl, ?_, g1.ok, ?_, g1.fin, rw.base_le, by show 0 ≤ roots; unfold roots; omega⟩, ⟨⟨fun r v q hq => (by rw [hnone] at hq; cases hq), fun i p hp => g2 i p (st.sub.2 i p hp)⟩, ?_, ?_, st.size, st.os, st.tape, st.output, st.same⟩, by rw [hv]; exact g3⟩
  ·intro r b v B N hb hm; cases hm
  ·intro r v B N hm; cases hm
  ·intro r v B N r' v' N' hm; cases hm
  ·intro r v B N hm; cases hm
  ·intro i B cells r v N b _ hm; cases hm
  ·intro r v B N hm; cases hm
  ·intro i B cells hi
   rcases g1.new i B cells hi with h | h
   ·exact st.fext i B cells h
   ·obtain ⟨h1, r, v, N, _, hm⟩ := h
    rcases st.ext r v B N hm with ⟨v0, N0, e0⟩ | h2
    ·rw [hnone] at e0; cases e0
    ·exact .inr ⟨h1, .inr h2⟩
 have e : EndT (X.thr r) (X.enc r) (X.fin r) m0 w0 b0 (.returned c) w := by rw [ht]; exact fin
 exact ret_ret hd h1 e
theorem look_args0 : ∀ (xs : List AV) (i t : Nat), look (args0 i xs) t = if i ≤ t then (xs[t - i]?).getD .top else .top
 | [], i, t => by simp [args0, look_nil]
 | x :: xs, i, t => by
  rw [args0, look_put, look_args0 xs (i + 1) t]
  by_cases e : i = t
  ·subst e; simp
  ·rw [if_neg e]
   by_cases h : i ≤ t
   ·rw [if_pos (by omega), if_pos h, show t - i = (t - (i + 1)) + 1 by omega]; simp
   ·rw [if_neg (by omega), if_neg h]
theorem FR_args {m : Mp} {xs : List AV} {args rest : Array Value} (h : VRs m xs args.toList) : FR m (args0 0 xs) (args ++ rest) := by
 intro t ht
 rw [look_args0] at ht ⊢
 simp only [Nat.zero_le, if_true, Nat.sub_zero] at ht ⊢
 cases hx : xs[t]? with
 | none => rw [hx] at ht; exact absurd rfl ht
 | some x =>
  obtain ⟨c, hc, hv⟩ := VRs.get h t x hx
  rw [Array.getElem?_toList] at hc
  obtain ⟨hlt, _⟩ := Array.getElem?_eq_some_iff.1 hc
  exact ⟨c, by rw [Array.getElem?_append_left hlt]; exact hc, by simpa using hv⟩
def bodyAt (fn : Func) : Pt := match fn.body with | some c => .code c [] | none => .fin
theorem pure_of (X : Fx R) {f : Nat} (hfin : ∀ r, X.fin r = H0 ∧ X.thr r = none) (hf : X.P.funcs[f]? = some X.fn) (hn : (X.fn.name == "runtime.NumGoroutine") = false) (hb : X.fn.body.isSome = true) {xs : List AV} {t : Option R} (h : Ok X (bodyAt X.fn) (args0 0 xs) (mkH []) t) {r : R} (ht : t = some r) : PureOk X.P f xs (X.enc r) := by
 refine ⟨?_, X.fn, hf, hn, hb⟩
 intro m0 w args h0 hargs rw
 cases hc : X.fn.body with
 | none => rw [hc] at hb; cases hb
 | some c =>
  have e : bodyAt X.fn = .code c [] := by simp [bodyAt, hc]
  rw [e] at h
  have := h r ht m0 w w.heap.size m0 w { tmps := args ++ Array.replicate (X.fn.ntmps - args.size) undef, defers := [] } ⟨fun r v p e => (by rw [h0] at e; cases e), Nat.le_refl _⟩ (FR_args hargs) (by simp; omega) rfl rw (St.refl _ _ _)
  have e2 := ret_calls hf hc this
  rw [(hfin r).1, (hfin r).2] at e2
  exact e2
end
end Go.Proofs.Ytbmijiibfaacmaa.Am
set_option linter.unusedVariables false
set_option linter.unusedSimpArgs false
namespace Go.Proofs.Ytbmijiibfaacmaa.Am
open Go
def nthS (s : List Nat) (k : Int) : Option Int := if 0 ≤ k then (match s[k.toNat]? with | some b => some (b : Int) | none => none) else none
theorem idxH {e : Option (AV × Hp)} {s : List Nat} {k : Int} {H : Hp} (h : e = (if 0 ≤ k then (match s[k.toNat]? with | some b => some (AV.int .u8 (b : Int), H) | none => none) else none)) : e = (nthS s k).map fun c => (AV.int .u8 c, H) := by
 rw [h]; unfold nthS
 split
 ·cases s[k.toNat]? <;> rfl
 ·rfl
def nthL {α : Type} (l : List α) (k : Int) : Option α := if 0 ≤ k then l[k.toNat]? else none
theorem flatMap_len {α : Type} {enc : α → List AV} {sz : Nat} (h : ∀ x, (enc x).length = sz) : ∀ l : List α, (l.flatMap enc).length = l.length * sz
 | [] => by simp
 | x :: l => by rw [List.flatMap_cons, List.length_append, h, flatMap_len h l, List.length_cons, Nat.add_mul]; omega
theorem flatMap_at {α : Type} {enc : α → List AV} {sz : Nat} (h : ∀ x, (enc x).length = sz) : ∀ (l : List α) (k : Nat) (x : α), l[k]? = some x → ((l.flatMap enc).drop (k * sz)).take sz = enc x
 | [], k, x, e => by simp at e
 | y :: l, k, x, e => by
  rw [List.flatMap_cons]
  cases k with
  | zero =>
   simp at e
   subst e
   rw [Nat.zero_mul, List.drop_zero, List.take_append_of_le_length (by rw [h]; exact Nat.le_refl _), List.take_of_length_le (by rw [h]; exact Nat.le_refl _)]
  | succ k =>
   rw [List.drop_append, List.drop_of_length_le (by rw [h, Nat.add_mul]; omega), List.nil_append, h, show (k + 1) * sz - sz = k * sz by rw [Nat.add_mul]; omega]
   exact flatMap_at h l k x (by simpa using e)
theorem vidxH {α : Type} {enc : α → List AV} {sz : Nat} (hsz : ∀ x, (enc x).length = sz) {e : Option (AV × Hp)} {l : List α} {k : Int} {H : Hp} (h : e = (if sz = sz ∧ 0 ≤ k ∧ k < ((l.length : Nat) : Int) then some (AV.vptr (((l.flatMap enc).drop (k.toNat * sz)).take sz), H) else none)) : e = (nthL l k).map fun x => (AV.vptr (enc x), H) := by
 rw [h]; unfold nthL
 by_cases h0 : 0 ≤ k
 ·rw [if_pos h0]
  by_cases h1 : k < (l.length : Int)
  ·rw [if_pos ⟨rfl, h0, h1⟩]
   have hlt : k.toNat < l.length := by omega
   rw [List.getElem?_eq_getElem hlt, flatMap_at hsz l k.toNat _ (List.getElem?_eq_getElem hlt)]
   rfl
  ·rw [if_neg (fun hh => h1 hh.2.2), List.getElem?_eq_none (by omega)]
   rfl
 ·rw [if_neg (fun hh => h0 hh.2.1), if_neg h0]; rfl
def nthA {α : Type} (l : List α) (n : Nat) (k : Int) : Option α := if 0 ≤ k ∧ k < (n : Int) then l[k.toNat]? else none
theorem aidxH {α : Type} (enc : α → AV) {e : Option (AV × Hp)} (l : List α) {n : Nat} {k : Int} {H : Hp} (h : e = (if 0 ≤ k ∧ k < (n : Int) then ((l.map enc)[k.toNat * 1]?).map fun v => (v, H) else none)) : e = (nthA l n k).map fun x => (enc x, H) := by
 rw [h]; unfold nthA
 split
 ·rw [Nat.mul_one, List.getElem?_map]
  cases l[k.toNat]? <;> rfl
 ·rfl
def shlS (k : IntKind) (x y : Int) : Option Int := if y < 0 then none else some (fW k (x * 2 ^ (min y.toNat k.bits)))
theorem shlH {e : Option (AV × Hp)} {k : IntKind} {x y : Int} {H : Hp} (h : e = (if y < 0 then none else some (AV.int k (fW k (x * 2 ^ (min y.toNat k.bits))))).map fun v => (v, H)) : e = (shlS k x y).map fun v => (AV.int k v, H) := by
 rw [h]; unfold shlS; split <;> rfl
def shrS (k : IntKind) (x y : Int) : Option Int := if y < 0 then none else some (x.fdiv (2 ^ (min y.toNat k.bits)))
theorem shrH {e : Option (AV × Hp)} {k : IntKind} {x y : Int} {H : Hp} (h : e = (if y < 0 then none else some (AV.int k (x.fdiv (2 ^ (min y.toNat k.bits))))).map fun v => (v, H)) : e = (shrS k x y).map fun v => (AV.int k v, H) := by
 rw [h]; unfold shrS; split <;> rfl
def andI (k : IntKind) (x y : Int) : Int := fW k (BitVec.ofInt k.bits x &&& BitVec.ofInt k.bits y).toNat
def orI (k : IntKind) (x y : Int) : Int := fW k (BitVec.ofInt k.bits x ||| BitVec.ofInt k.bits y).toNat
theorem mkH_get {L : List Blk} {r : Nat} {b : Blk} (hl : Nat.ble L.length roots = true) (h : L[r]? = some b) : (mkH L).t.get r = some b := by
 show (mkT 0 L).get r = some b
 rw [mkT_get _ _ _ (by rw [Nat.zero_add]; exact Nat.le_of_ble_eq_true hl)]
 simpa using h
def ctl1 : Pt → Pt
 | .ops _ _ K => resume K
 | .loop b K => .code b (.loop b :: K)
 | .fin => .fin
 | .code c K => match c with
  | .seq a b => .code a (.seq b :: K)
  | .skip => resume K
  | .label _ => resume K
  | .block id b => .code b (.block id :: K)
  | .scope b => .code b (.scope b :: K)
  | .loop b => .loop b K
  | .exit id => match exitK id K with | some q => q | none => .fin
  | .goto l => match gotoK l K with | some q => q | none => .fin
  | .ret => .fin
  | .region id ops draw => bif draw then resume K else .ops ops 0 K
  | _ => .fin
def nav : List Nat → Pt → Pt
 | [], p => p
 | 0 :: l, p => nav l (ctl1 p)
 | 1 :: l, .code (.cond _ x _) K => nav l (.code x K)
 | _ :: l, .code (.cond _ _ y) K => nav l (.code y K)
 | _ :: _, p => p
def atN (n : Nat) : Pt → Pt
 | .ops ops _ K => .ops ops n K
 | p => p
mutual
def nref (n : Nat) : AV → Bool
 | .ptr r _ _ => !Nat.beq r n
 | .slice r _ _ _ _ => !Nat.beq r n
 | .own r _ _ => !Nat.beq r n
 | .agg xs => nrefs n xs
 | .tuple xs => nrefs n xs
 | .func _ a b => nrefs n a && nrefs n b
 | .iface _ v => nref n v
 | _ => true
def nrefs (n : Nat) : List AV → Bool
 | [] => true
 | x :: xs => nref n x && nrefs n xs
end
def Mp.out (m : Mp) (n : Nat) (F : Nat → Option (Nat × List AV)) : Mp := ⟨fun r v => if r = n then none else m r v, F⟩
theorem out_at {m : Mp} {n : Nat} {F : Nat → Option (Nat × List AV)} {r v : Nat} (h : (!Nat.beq r n) = true) : (m.out n F) r v = m r v := by
 show (if r = n then none else m r v) = m r v
 rw [if_neg]
 rintro rfl
 simp at h
mutual
theorem nref_VR {m : Mp} {n : Nat} {F : Nat → Option (Nat × List AV)} (hF : ∀ i p, m.froz i = some p → F i = some p) : ∀ (x : AV) (c : Value), nref n x = true → VR m x c → VR (m.out n F) x c
 | .top, _, _, _ => by simp only [VR]
 | .int .., _, _, e => by simpa only [VR] using e
 | .resid .., _, _, e => by simpa only [VR] using e
 | .bool _, _, _, e => by simpa only [VR] using e
 | .str _, _, _, e => by simpa only [VR] using e
 | .nilp, _, _, e => by simpa only [VR] using e
 | .nils, _, _, e => by simpa only [VR] using e
 | .nilf, _, _, e => by simpa only [VR] using e
 | .nili, _, _, e => by simpa only [VR] using e
 | .vec .., _, _, e => by
  simp only [VR] at e ⊢
  obtain ⟨h0, a, cap, h1, h2, h3, h4⟩ := e
  exact ⟨h0, a, cap, h1, h2, h3, fun hn => let ⟨i, B, off, all, q, r⟩ := h4 hn; ⟨i, B, off, all, hF _ _ q, r⟩⟩
 | .vptr .., _, _, e => by
  simp only [VR] at e ⊢
  obtain ⟨i, B, off, all, q, r⟩ := e
  exact ⟨i, B, off, all, hF _ _ q, r⟩
 | .ptr r v off, _, h, e => by
  simp only [VR] at e ⊢
  obtain ⟨B, N, h1, h2⟩ := e
  exact ⟨B, N, by rw [out_at (by simpa only [nref] using h)]; exact h1, h2⟩
 | .slice r v off len sz, _, h, e => by
  simp only [VR] at e ⊢
  obtain ⟨B, N, cap, h1, h2⟩ := e
  exact ⟨B, N, cap, by rw [out_at (by simpa only [nref] using h)]; exact h1, h2⟩
 | .own r len sz, _, h, e => by
  simp only [VR] at e ⊢
  rcases e with e | ⟨B, N, cap, h1, h2⟩
  ·exact .inl e
  ·exact .inr ⟨B, N, cap, by rw [out_at (by simpa only [nref] using h)]; exact h1, h2⟩
 | .agg xs, c, h, e => by
  simp only [VR] at e ⊢
  obtain ⟨ys, h1, h2⟩ := e
  exact ⟨ys, h1, nrefs_VR hF xs _ (by simpa only [nref] using h) h2⟩
 | .tuple xs, c, h, e => by
  simp only [VR] at e ⊢
  obtain ⟨ys, h1, h2⟩ := e
  exact ⟨ys, h1, nrefs_VR hF xs _ (by simpa only [nref] using h) h2⟩
 | .func f a b, c, h, e => by
  simp only [VR] at e ⊢
  simp only [nref, Bool.and_eq_true] at h
  obtain ⟨ys, zs, h1, h2, h3⟩ := e
  exact ⟨ys, zs, h1, nrefs_VR hF a _ h.1 h2, nrefs_VR hF b _ h.2 h3⟩
 | .iface t v, c, h, e => by
  simp only [VR] at e ⊢
  obtain ⟨d, h1, h2⟩ := e
  exact ⟨d, h1, nref_VR hF v _ (by simpa only [nref] using h) h2⟩
theorem nrefs_VR {m : Mp} {n : Nat} {F : Nat → Option (Nat × List AV)} (hF : ∀ i p, m.froz i = some p → F i = some p) : ∀ (xs : List AV) (cs : List Value), nrefs n xs = true → VRs m xs cs → VRs (m.out n F) xs cs
 | [], _, _, e => by simpa only [VRs] using e
 | x :: xs, cs, h, e => by
  simp only [VRs] at e ⊢
  simp only [nrefs, Bool.and_eq_true] at h
  obtain ⟨y, ys, rfl, h1, h2⟩ := e
  exact ⟨y, ys, rfl, nref_VR hF x y h.1 h1, nrefs_VR hF xs ys h.2 h2⟩
end
theorem nrefs_take {n : Nat} : ∀ {xs : List AV} (k : Nat), nrefs n xs = true → nrefs n (xs.take k) = true
 | [], k, _ => by simp [nrefs]
 | x :: xs, 0, _ => by simp [nrefs]
 | x :: xs, k + 1, h => by
  simp only [nrefs, List.take_succ_cons, Bool.and_eq_true] at h ⊢
  exact ⟨h.1, nrefs_take k h.2⟩
def nrefE (n : Nat) : Env → Bool
 | [] => true
 | p :: l => nref n p.2 && nrefE n l
theorem nrefE_look {n : Nat} : ∀ {e : Env} (t : Nat), nrefE n e = true → nref n (look e t) = true
 | [], t, _ => rfl
 | p :: l, t, h => by
  simp only [nrefE, Bool.and_eq_true] at h
  rw [look_cons]
  split
  ·exact h.1
  ·exact nrefE_look t h.2
mutual
theorem pur_nref {n : Nat} : ∀ x : AV, pur x = true → nref n x = true
 | .top, _ | .int .., _ | .resid .., _ | .bool _, _ | .str _, _ | .nilp, _ | .nils, _ | .nilf, _ | .nili, _ | .vec .., _ | .vptr .., _ => by simp [nref]
 | .ptr .., h | .slice .., h | .own .., h => by simp [pur] at h
 | .agg xs, h => by simp only [pur, nref] at h ⊢; exact purs_nrefs xs h
 | .tuple xs, h => by simp only [pur, nref] at h ⊢; exact purs_nrefs xs h
 | .func _ a b, h => by simp only [pur, nref, Bool.and_eq_true] at h ⊢; exact ⟨purs_nrefs a h.1, purs_nrefs b h.2⟩
 | .iface _ v, h => by simp only [pur, nref] at h ⊢; exact pur_nref v h
theorem purs_nrefs {n : Nat} : ∀ xs : List AV, purs xs = true → nrefs n xs = true
 | [], _ => rfl
 | x :: xs, h => by simp only [purs, nrefs, Bool.and_eq_true] at h ⊢; exact ⟨pur_nref x h.1, purs_nrefs xs h.2⟩
end
def NB (n : Nat) : Nat → List Blk → Prop
 | _, [] => True
 | i, b :: l => (i = n ∨ nrefs n b.cells = true) ∧ NB n (i + 1) l
theorem NB_get {n : Nat} : ∀ {l : List Blk} {i j : Nat} {b : Blk}, NB n i l → l[j]? = some b → i + j ≠ n → nrefs n b.cells = true
 | [], i, j, b, _, h, _ => by simp at h
 | b0 :: l, i, j, b, hb, h, hne => by
  cases j with
  | zero => simp at h; subst h; exact hb.1.resolve_left (by omega)
  | succ j => exact NB_get hb.2 (by simpa using h) (by omega)
theorem ok_frz {R : Type} {X : Fx R} {p : Pt} {env env0 : Env} {t : Option R} (L : List Blk) (d r0 n sz minv : Nat) (cells : List AV) (ks : List Nat) (hn0 : Nat.ble X.n0 r0 = true) (hl : Nat.ble L.length roots = true) (hd0 : look env d = .slice r0 (n * sz) 0 n sz ∨ look env d = .own r0 n sz) (hr : L[r0]? = some ⟨cells, minv, false⟩) (hc : cells.length = n * sz) (hmin : minv ≤ n * sz) (hp : purs cells = true) (hk : keepOnly env ks = env0) (hne : nrefE r0 env0 = true) (hnb : NB r0 0 L) (k : Ok X p ((d, .vec n sz cells) :: env0) (mkH (L.set r0 ⟨[], 0, false⟩)) t) : Ok X p env (mkH L) t := by
 intro r hr' m0 w0 b0 m w a h0 fr0 hnt hd rw st
 have fr : FR m env0 a.tmps := fr0.less (hk ▸ less_keepOnly ks env)
 have hroot : (mkH L).t.get r0 = some ⟨cells, minv, false⟩ := mkH_get hl hr
 have hlt : r0 < L.length := (List.getElem?_eq_some_iff.1 hr).1
 obtain ⟨c, hc1, hc2⟩ := fr0 d (by rcases hd0 with h | h <;> (rw [h]; intro e; cases e))
 have hcase : c = .slice none 0 0 ∧ n = 0 ∨ ∃ B N cap, m r0 (n * sz) = some (B, N) ∧ n ≤ cap ∧ c = .slice (some ⟨B, 0, none⟩) n cap := by
  rcases hd0 with h | h <;> rw [h] at hc2 <;> simp only [VR] at hc2
  ·obtain ⟨B, N, cap, h1, h2, h3, h4, h5⟩ := hc2
   exact .inr ⟨B, N, cap, h1, h3, h5⟩
  ·rcases hc2 with ⟨h1, h2⟩ | ⟨B, N, cap, h1, h2, h3, h4⟩
   ·exact .inl ⟨h2, h1⟩
   ·exact .inr ⟨B, N, cap, h1, h2, h4⟩
 have hF0 : FOk 0 m m.froz w b0 := ⟨fun i B cells hi => rw.frz i B cells hi, rw.ffin, fun i B cells h => .inl h, fun _ _ h => h⟩
 have key : ∃ F, FOk 0 m F w b0 ∧ (∀ i B cs, F i = some (B, cs) → m.froz i = some (B, cs) ∨ ∃ v N, m r0 v = some (B, N)) ∧ VR ⟨fun _ _ => none, F⟩ (.vec n sz cells) c := by
  rcases hcase with ⟨rfl, rfl⟩ | ⟨B, N, cap, hm, hcap, rfl⟩
  ·have : cells = [] := List.length_eq_zero_iff.1 (by omega)
   subst this
   exact ⟨m.froz, hF0, fun i B cs h => .inl h, vec_nil _ _⟩
  ·obtain ⟨cs, ty, fr', q1, q2, q3, q4, q5⟩ := rw.blk _ _ _ _ _ hroot hm hmin (by show n * sz ≤ cells.length; omega)
   obtain ⟨b0, hb0, _, _, hbase⟩ := rw.dom _ _ _ _ hm
   rw [hroot] at hb0
   cases hb0
   simp only at q5
   rw [List.take_of_length_le (by omega)] at q5
   obtain ⟨nf, hnf⟩ := rw.ffin
   have q6 := purs_VR _ _ hp q5
   obtain ⟨F, i, g1, g2, g3⟩ := fOk_add hF0 (hbase rfl) ⟨_, _, _, Nat.zero_le _, hm⟩ q1 (cells := cells) (by omega) (by rw [hc]; exact q6)
   refine ⟨fun j => if j = nf then some (B, cells) else m.froz j, ?_, ?_, ?_⟩
   ·refine ⟨?_, ⟨nf + 1, fun j hj => by show (if j = nf then some (B, cells) else m.froz j) = none; rw [if_neg (by omega)]; exact hnf j (by omega)⟩, ?_, ?_⟩
    ·intro j B' cells' hj
     have hS : Sub m.still ⟨fun _ _ => none, fun j => if j = nf then some (B, cells) else m.froz j⟩ := ⟨fun _ _ _ e => (by cases e), fun j q hq => by
      show (if j = nf then some (B, cells) else m.froz j) = some q
      rw [if_neg]
      ·exact hq
      ·rintro rfl
       have hq : m.froz j = some q := hq
       rw [hnf _ (Nat.le_refl _)] at hq; cases hq⟩
     by_cases e : j = nf
     ·simp only [e, if_true] at hj
      cases hj
      exact ⟨cs, ty, fr', q1, by omega, by rw [hc]; exact VRs.mono hS _ _ q6⟩
     ·simp only [e, if_false] at hj
      obtain ⟨cs2, ty2, fr2, e1, e2, e3⟩ := rw.frz j B' cells' hj
      exact ⟨cs2, ty2, fr2, e1, e2, VRs.mono hS _ _ e3⟩
    ·intro j B' cells' hj
     by_cases e : j = nf
     ·simp only [e, if_true] at hj
      cases hj
      exact .inr ⟨hbase rfl, _, _, _, Nat.zero_le _, hm⟩
     ·simp only [e, if_false] at hj
      exact .inl hj
    ·intro j q hq
     show (if j = nf then some (B, cells) else m.froz j) = some q
     rw [if_neg]
     ·exact hq
     ·rintro rfl; rw [hnf _ (Nat.le_refl _)] at hq; cases hq
   ·intro j B' cells' hj
    by_cases e : j = nf
    ·simp only [e, if_true] at hj
     cases hj
     exact .inr ⟨_, _, hm⟩
    ·simp only [e, if_false] at hj
     exact .inl hj
   ·simp only [VR]
    refine ⟨hc, _, cap, rfl, hcap, fun e => (by cases e), fun _ => ⟨nf, B, 0, cells, by simp, rfl, ?_, by omega⟩⟩
    rw [List.drop_zero, List.take_of_length_le (by omega)]
 obtain ⟨F, hFok, hFnew, hvec⟩ := key
 have hget : ∀ i, i ≠ r0 → (mkH (L.set r0 ⟨[], 0, false⟩)).t.get i = (mkH L).t.get i := by
  intro i hi
  show (mkT 0 (L.set r0 ⟨[], 0, false⟩)).get i = (mkT 0 L).get i
  have hl' : L.length ≤ roots := Nat.le_of_ble_eq_true hl
  rw [mkT_get _ _ _ (by rw [List.length_set]; omega), mkT_get _ _ _ (by omega)]
  simp only [Nat.zero_le, if_true, Nat.sub_zero]
  rw [List.getElem?_set, if_neg (fun e => hi e.symm)]
 have hout : ∀ {r v q}, (m.out r0 F) r v = some q → r ≠ r0 ∧ m r v = some q := by
  intro r v q h
  have h : (if r = r0 then none else m r v) = some q := h
  by_cases e : r = r0
  ·rw [if_pos e] at h; cases h
  ·rw [if_neg e] at h; exact ⟨e, h⟩
 refine k r hr' m0 w0 b0 (m.out r0 F) w a h0 ?_ hnt hd ⟨?_, ?_, ?_, ?_, ?_, hFok.ok, ?_, hFok.fin, rw.base_le, ?_⟩ ⟨⟨fun r v q hq => (by
  have h1 := h0.1 r v q hq
  have h2 := Nat.le_of_ble_eq_true hn0
  show (if r = r0 then none else m r v) = some q
  rw [if_neg (by omega)]
  exact st.sub.1 r v q hq), fun i q hq => hFok.sub i q (st.sub.2 i q hq)⟩, ?_, ?_, st.size, st.os, st.tape, st.output, st.same⟩
 ·intro u hu
  by_cases e : d = u
  ·subst e
   refine ⟨c, hc1, ?_⟩
   rw [look_cons, if_pos rfl]
   exact VR.mono (m := ⟨fun _ _ => none, F⟩) (m' := m.out r0 F) ⟨fun _ _ _ h => (by cases h), fun _ _ h => h⟩ _ _ hvec
  ·have he : look ((d, AV.vec n sz cells) :: env0) u = look env0 u := by rw [look_cons, if_neg e]
   rw [he] at hu ⊢
   obtain ⟨c, h1, h2⟩ := fr u hu
   exact ⟨c, h1, nref_VR hFok.sub _ _ (nrefE_look u hne) h2⟩
 ·intro r b v B N hb hm h1 h2
  obtain ⟨hne', hm⟩ := hout hm
  rw [hget r hne'] at hb
  obtain ⟨cs, ty, fr', q1, q2, q3, q4, q5⟩ := rw.blk r b v B N hb hm h1 h2
  have hbl : L[r]? = some b := by
   have hb' : (mkT 0 L).get r = some b := hb
   rw [mkT_get _ _ _ (by rw [Nat.zero_add]; exact Nat.le_of_ble_eq_true hl)] at hb'
   simpa using hb'
  exact ⟨cs, ty, fr', q1, q2, q3, q4, nrefs_VR hFok.sub _ _ (nrefs_take v (NB_get hnb hbl (by omega))) q5⟩
 ·intro r v B N hm
  obtain ⟨hne', hm⟩ := hout hm
  rw [hget r hne']
  exact rw.dom r v B N hm
 ·intro r v B N r' v' N' hm hm' hB
  exact rw.sep _ _ _ _ _ _ _ (hout hm).2 (hout hm').2 hB
 ·intro r hr
  have hr : L.length ≤ r := by
   have : (mkH (L.set r0 ⟨[], 0, false⟩)).next = L.length := by simp [mkH]
   rw [this] at hr; exact hr
  rw [hget r (by omega)]
  exact rw.fresh r hr
 ·intro r v B N hm
  exact rw.vle _ _ _ _ (hout hm).2
 ·intro i B cs r v N b hi hm hb
  obtain ⟨hne', hm⟩ := hout hm
  rw [hget r hne'] at hb
  rcases hFnew i B cs hi with h | ⟨v', N', h⟩
  ·exact rw.fsep i B cs r v N b h hm hb
  ·obtain ⟨b0, hb0, _, _, hbase⟩ := rw.dom _ _ _ _ h
   rw [hroot] at hb0
   cases hb0
   exact absurd (rw.sep _ _ _ _ _ _ _ h hm (hbase rfl)).symm hne'
 ·show (L.set r0 ⟨[], 0, false⟩).length ≤ roots
  rw [List.length_set]; exact Nat.le_of_ble_eq_true hl
 ·intro r v B N hm
  exact st.ext r v B N (hout hm).2
 ·intro i B cs hi
  rcases hFok.new i B cs hi with h | h
  ·exact st.fext i B cs h
  ·obtain ⟨h1, r, v, N, _, hm⟩ := h
   rcases st.ext r v B N hm with ⟨v0, N0, e0⟩ | h2
   ·exact .inr ⟨h1, .inl ⟨r, v0, N0, e0⟩⟩
   ·exact .inr ⟨h1, .inr h2⟩
theorem ok_if {R : Type} {X : Fx R} {p : Pt} {env : Env} {H : Hp} {b : Bool} {t1 t2 : Option R} (k1 : b = true → Ok X p env H t1) (k2 : b = false → Ok X p env H t2) : Ok X p env H (if b then t1 else t2) := by
 cases b with
 | true => exact k1 rfl
 | false => exact k2 rfl
theorem opsD_env {P : Program} {C : Cx} {D : DP} {all l : List Oper} {env eE e : Env} {H : Hp} {hs : List Hp} (h : env = eE) (k : OpsD P C D all l eE H e hs) : OpsD P C D all l env H e hs := h ▸ k
theorem purs_map {α : Type} {f : α → AV} (h : ∀ x, pur (f x) = true) : ∀ l : List α, purs (l.map f) = true
 | [] => rfl
 | x :: l => by simp only [List.map_cons, purs, Bool.and_eq_true]; exact ⟨h x, purs_map h l⟩
theorem arr_pur {α : Type} {f : α → AV} (h : ∀ x, pur (f x) = true) (l : List α) : pur (.agg (l.map f)) = true := by simp only [pur]; exact purs_map h l
mutual
def dry : AV → Bool
 | .int .. | .bool _ | .str _ | .nilp | .nils | .nilf | .nili | .top => true
 | .agg xs => drys xs
 | .tuple xs => drys xs
 | _ => false
def drys : List AV → Bool
 | [] => true
 | x :: xs => dry x && drys xs
end
mutual
theorem dry_VR {m m' : Mp} : ∀ (x : AV) (c : Value), dry x = true → VR m x c → VR m' x c
 | .top, _, _, _ => by simp only [VR]
 | .int .., _, _, e => by simpa only [VR] using e
 | .bool _, _, _, e => by simpa only [VR] using e
 | .str _, _, _, e => by simpa only [VR] using e
 | .nilp, _, _, e => by simpa only [VR] using e
 | .nils, _, _, e => by simpa only [VR] using e
 | .nilf, _, _, e => by simpa only [VR] using e
 | .nili, _, _, e => by simpa only [VR] using e
 | .resid .., _, h, _ | .vec .., _, h, _ | .vptr .., _, h, _ | .ptr .., _, h, _ | .slice .., _, h, _ | .own .., _, h, _ | .func .., _, h, _ | .iface .., _, h, _ => by simp [dry] at h
 | .agg xs, c, h, e => by
  simp only [VR] at e ⊢
  obtain ⟨ys, h1, h2⟩ := e
  exact ⟨ys, h1, drys_VR xs _ (by simpa only [dry] using h) h2⟩
 | .tuple xs, c, h, e => by
  simp only [VR] at e ⊢
  obtain ⟨ys, h1, h2⟩ := e
  exact ⟨ys, h1, drys_VR xs _ (by simpa only [dry] using h) h2⟩
theorem drys_VR {m m' : Mp} : ∀ (xs : List AV) (cs : List Value), drys xs = true → VRs m xs cs → VRs m' xs cs
 | [], _, _, e => by simpa only [VRs] using e
 | x :: xs, cs, h, e => by
  simp only [VRs] at e ⊢
  simp only [drys, Bool.and_eq_true] at h
  obtain ⟨y, ys, rfl, h1, h2⟩ := e
  exact ⟨y, ys, rfl, dry_VR x y h.1 h1, drys_VR xs ys h.2 h2⟩
end
theorem dry_call {P : Program} {f : Nat} {xs xs' : List AV} {v : AV} {H : Hp} (h : PureOk P f xs' v) (hz : FzG 0 H xs xs') (hv : dry v = true) : CallV P f xs H v H := by
 refine ⟨?_, h.2⟩
 intro m w base args hargs rw
 have hF0 : FOk 0 m m.froz w base := ⟨fun i B cells hi => rw.frz i B cells hi, rw.ffin, fun i B cells h => .inl h, fun _ _ h => h⟩
 obtain ⟨F, g1, g2, g3⟩ := fz_ok rw hz hF0 hargs
 have rw0 : RW ⟨fun _ _ => none, F⟩ H0 w w.heap.size := by
  refine ⟨?_, ?_, ?_, fun _ _ => rfl, ?_, g1.ok, ?_, g1.fin, Nat.le_refl _, by show 0 ≤ roots; unfold roots; omega⟩
  ·intro r b v B N hb hm; cases hm
  ·intro r v B N hm; cases hm
  ·intro r v B N r' v' N' hm; cases hm
  ·intro r v B N hm; cases hm
  ·intro i B cells r v N b _ hm; cases hm
 refine Calls.mono (h.1 ⟨fun _ _ => none, F⟩ w args (fun _ _ => rfl) g3 rw0) ?_
 rintro x w' ⟨m', c, rfl, rw', st', hvc⟩
 have hsame : ∀ B, B < w.heap.size → w'.heap[B]? = w.heap[B]? := fun B hB => st'.same B hB (fun _ _ _ hm => by cases hm)
 refine ⟨m, c, rfl, ⟨?_, ?_, rw.sep, rw.fresh, rw.vle, ?_, rw.fsep, rw.ffin, Nat.le_trans rw.base_le st'.size, rw.low⟩, ⟨Sub.refl m, fun r v B N e => .inl ⟨v, N, e⟩, fun _ _ _ e => .inl e, st'.size, st'.os, st'.tape, st'.output, fun B hB _ => hsame B hB⟩, dry_VR _ _ hv hvc⟩
 ·intro r b v B N hb hm h1 h2
  obtain ⟨cs, ty, fr, q1, q2⟩ := rw.blk r b v B N hb hm h1 h2
  obtain ⟨_, _, _, hlt, _⟩ := rw.dom r v B N hm
  exact ⟨cs, ty, fr, by rw [hsame B hlt]; exact q1, q2⟩
 ·intro r v B N hm
  obtain ⟨b, q1, q2, q3, q4⟩ := rw.dom r v B N hm
  exact ⟨b, q1, q2, Nat.lt_of_lt_of_le q3 st'.size, q4⟩
 ·exact rw.frz_old hsame rfl
theorem ok_callV {R : Type} {X : Fx R} {p : Pt} {env : Env} {H : Hp} {α : Type} {m : Option α} {f : α → Option R} {fi : Nat} {args : List AV} (g : α → AV) (p' : Pt) (E : α → Env) (hc : callAt X.fn.ntmps p env = some (fi, args)) (hf : ∀ x, m = some x → CallV X.P fi args H (g x) H) (ha : ∀ x, advE X.fn.ntmps p env (g x) = some (p', E x)) (k : ∀ x, m = some x → Ok X p' (E x) H (f x)) : Ok X p env H (m.bind f) := by
 refine ok_bind fun x hx => ?_
 have hpo := hf x hx
 have hax := ha x
 unfold advE at hax
 unfold callAt at hc
 cases ho : operAt X.fn.ntmps p env with
 | none => rw [ho] at hax; cases hax
 | some o =>
  rw [ho] at hax hc
  simp only [Option.some.injEq, Prod.mk.injEq] at hax hc
  obtain ⟨e1, e2⟩ := hax
  obtain ⟨ops, n, K, rfl, h1, h2, h3⟩ := operAt_spec ho
  have kx := k x hx
  rw [← e1, ← e2] at kx
  split at hc
  ·rename_i c hoc
   split at hc
   ·rename_i q hq
    split at hc
    ·rename_i fi' first caps hfv
     cases hc
     exact ok_stp h1 h2 h3 (.inr ⟨c, q, fi, first, caps, hoc, hq, hfv, hpo⟩) kx
    ·cases hc
   ·cases hc
  ·cases hc
theorem opsD_callV {P : Program} {C : Cx} {D : DP} {all l l' : List Oper} {env eE e : Env} {H : Hp} {hs hs2 : List Hp} {fi : Nat} {args : List AV} {v : AV} (hc : callD all l env = some (fi, args)) (hpo : CallV P fi args H v H) (ha : advD D all l env v H = some (l', eE, hs)) (k : OpsD P C D all l' eE H e hs2) : OpsD P C D all l env H e (hs ++ hs2) := by
 unfold callD at hc
 cases ho : headO all l env with
 | none => rw [ho] at hc; cases hc
 | some o =>
  rw [ho] at hc
  simp only at hc
  split at hc
  ·rename_i c hoc
   split at hc
   ·rename_i q hq
    split at hc
    ·rename_i fi' first caps hfv
     cases hc
     exact opsD_one (v := v) ho (.inr ⟨c, q, fi, first, caps, hoc, hq, hfv, hpo⟩) ha k
    ·cases hc
   ·cases hc
  ·cases hc
end Go.Proofs.Ytbmijiibfaacmaa.Am
set_option linter.unusedVariables false
namespace Go.Proofs.Ytbmijiibfaacmaa.Am
open Go
def PT.allB {α : Type} (p : Nat → α → Bool) : PT α → (Nat → Nat) → Bool
 | .nil, _ => true
 | .node l b r, g => (match b with | some x => p (g 0) x | none => true) && l.allB p (fun n => g (2 * n + 1)) && r.allB p (fun n => g (2 * n + 2))
theorem PT.allB_get {α : Type} {p : Nat → α → Bool} : ∀ (t : PT α) (g : Nat → Nat), t.allB p g = true → ∀ (n : Nat) (x : α), t.get n = some x → p (g n) x = true
 | .nil, g, _, n, x, h => by cases h
 | .node l b r, g, hh, n, x, h => by
  simp only [PT.allB, Bool.and_eq_true] at hh
  obtain ⟨⟨h1, h2⟩, h3⟩ := hh
  rw [PT.get_node] at h
  by_cases h0 : n = 0
  ·rw [if_pos h0] at h
   subst h0
   subst h
   exact h1
  ·rw [if_neg h0] at h
   by_cases hm : n % 2 = 1
   ·rw [if_pos hm] at h
    have := PT.allB_get l _ h2 _ _ h
    rwa [show 2 * (n / 2) + 1 = n by omega] at this
   ·rw [if_neg hm] at h
    have := PT.allB_get r _ h3 _ _ h
    rwa [show 2 * (n / 2 - 1) + 2 = n by omega] at this
def beqZ : AV → AV → Bool
 | .top, .top => true
 | .int k n, .int k' n' => decide (k = k') && decide (n = n')
 | .bool a, .bool b => a == b
 | .str a, .str b => eqL a b
 | .nilp, .nilp => true
 | .nils, .nils => true
 | .nilf, .nilf => true
 | .nili, .nili => true
 | _, _ => false
theorem beqZ_eq {x y : AV} (h : beqZ x y = true) : x = y := by
 cases x <;> cases y <;> simp [beqZ, eqL_iff] at h ⊢ <;> exact h
def beqZs : List AV → List AV → Bool
 | [], [] => true
 | a :: x, b :: y => beqZ a b && beqZs x y
 | _, _ => false
theorem beqZs_eq : ∀ (x y : List AV), beqZs x y = true → x = y
 | [], [], _ => rfl
 | [], _ :: _, h => by simp [beqZs] at h
 | _ :: _, [], h => by simp [beqZs] at h
 | a :: x, b :: y, h => by
  simp only [beqZs, Bool.and_eq_true] at h
  rw [beqZ_eq h.1, beqZs_eq x y h.2]
def beqTi (i j : Ti) : Bool :=
 Nat.beq i.size j.size && Nat.beq i.bytes j.bytes && (match i.zero, j.zero with | some a, some b => beqZs a b | none, none => true | _, _ => false) && decide (i.kind = j.kind) && decide (i.fields = j.fields) && Nat.beq i.elem j.elem && Nat.beq i.len j.len && decide (i.flat = j.flat)
theorem beqTi_eq {i j : Ti} (h : beqTi i j = true) : i = j := by
 obtain ⟨a1, a2, a3, a4, a5, a6, a7, a8⟩ := i
 obtain ⟨b1, b2, b3, b4, b5, b6, b7, b8⟩ := j
 simp only [beqTi, Bool.and_eq_true, decide_eq_true_eq] at h
 obtain ⟨⟨⟨⟨⟨⟨⟨h1, h2⟩, h3⟩, h4⟩, h5⟩, h6⟩, h7⟩, h8⟩ := h
 have h1 := Nat.eq_of_beq_eq_true h1
 have h2 := Nat.eq_of_beq_eq_true h2
 have h6 := Nat.eq_of_beq_eq_true h6
 have h7 := Nat.eq_of_beq_eq_true h7
 have h3' : a3 = b3 := by
  cases a3 <;> cases b3 <;> simp only at h3 <;> first | rfl | cases h3 | exact congrArg some (beqZs_eq _ _ h3)
 subst h1 h2 h3' h4 h5 h6 h7 h8
 rfl
def tiOk (P : Program) (t : Nat) (i : Ti) : Bool := match mkTi P t with | some j => beqTi i j | none => false
theorem tiOk_eq {P : Program} {t : Nat} {i : Ti} (h : tiOk P t i = true) : mkTi P t = some i := by
 unfold tiOk at h
 split at h
 ·rename_i j hj
  rw [hj, beqTi_eq h]
 ·cases h
end Go.Proofs.Ytbmijiibfaacmaa.Am
set_option linter.unusedVariables false
set_option linter.unusedSimpArgs false
namespace Go.Proofs.Ytbmijiibfaacmaa.Am
open Go
def It (d : Nat) (s : ByteArray) (pos base : Nat) (m : Mp) (w : World) (a : Act) : Prop :=
 ∃ B, a.tmps[d]? = some (.pointer (some ⟨B, 0, none⟩)) ∧ w.heap[B]? = some (.stringIter s pos) ∧ base ≤ B ∧ ∀ r v N, m r v ≠ some (B, N)
section
variable {R : Type} (X : Fx R)
end
section
variable {R : Type} {X : Fx R} {p p' : Pt} {env eE : Env} {H H' : Hp} {d pos : Nat} {s : ByteArray}
def dneq (o : Oper) (d : Nat) : Bool := match o.dst with | some e => !Nat.beq e d | none => true
theorem It.put {base : Nat} {m : Mp} {w : World} {a : Act} {o : Oper} (c : Value) (hd : dneq o d = true) (it : It d s pos base m w a) : It d s pos base m w (a.put o.dst c) := by
 obtain ⟨B, h1, h2, h3, h4⟩ := it
 refine ⟨B, ?_, h2, h3, h4⟩
 unfold dneq at hd
 cases ho : o.dst with
 | none => exact h1
 | some e =>
  rw [ho] at hd
  simp only [Act.put]
  rw [Array.getElem?_setIfInBounds_ne]
  ·exact h1
  ·rintro rfl; simp at hd
theorem It.step {base b0 : Nat} {m m' : Mp} {w w' : World} {a : Act} (st : St m w b0 m' w') (it : It d s pos base m w a) : It d s pos base m' w' a := by
 obtain ⟨B, h1, h2, h3, h4⟩ := it
 have hlt : B < w.heap.size := (Array.getElem?_eq_some_iff.1 h2).1
 refine ⟨B, h1, by rw [st.same B hlt (fun r v N e => absurd e (h4 r v N))]; exact h2, h3, ?_⟩
 intro r v N e
 rcases st.ext r v B N e with ⟨v0, N0, e0⟩ | hB
 ·exact h4 r v0 N0 e0
 ·omega
end
end Go.Proofs.Ytbmijiibfaacmaa.Am
set_option maxRecDepth 100000
namespace Go.Proofs.Ytbmijiibfaacmaa.Am
noncomputable section
open Go
def tyT : PT Ti := (.node (.node (.node (.node (.node (.node (.node .nil (some ⟨1, 8, (some [.nilf]), .other, [], 0, 0, none⟩) .nil) (some ⟨1, 8, (some [.nilf]), .other, [], 0, 0, none⟩) (.node .nil (some ⟨1, 4, (some [.int .i32 0]), .int .i32, [], 0, 0, none⟩) .nil)) (some ⟨1, 8, (some [.nilp]), .pointer, [], 84, 0, none⟩) (.node (.node .nil (some ⟨1, 8, (some [.nilf]), .other, [], 0, 0, none⟩) .nil) (some ⟨3, 32, (some [.int .i64 0, .str [], .int .i64 0]), .struct, [(0, 3), (1, 9), (2, 3)], 0, 0, (some [(.int .i64), .string, (.int .i64)])⟩) .nil)) (some ⟨4, 24, (some [.int .i64 0, .int .i64 0, .bool false, .int .u8 0]), .struct, [(0, 2), (1, 3), (2, 4), (3, 6)], 0, 0, (some [(.int .i64), (.int .i64), .bool, (.int .u8)])⟩) (.node (.node (.node .nil (some ⟨1, 0, (some [.top]), .other, [], 0, 0, none⟩) .nil) (some ⟨1, 0, (some [.top]), .other, [], 0, 0, none⟩) .nil) (some ⟨1, 24, (some [.nils]), .slice, [], 9, 0, none⟩) (.node (.node .nil (some ⟨0, 0, (some []), .struct, [(0, 85)], 0, 0, none⟩) .nil) (some ⟨1, 8, (some [.nilf]), .other, [], 0, 0, none⟩) .nil))) (some ⟨1, 8, (some [.int .i64 0]), .int .i64, [], 0, 0, none⟩) (.node (.node (.node (.node .nil (some ⟨1, 8, (some [.nilf]), .other, [], 0, 0, none⟩) .nil) (some ⟨1, 8, (some [.nilf]), .other, [], 0, 0, none⟩) .nil) (some ⟨1, 8, (some [.nilp]), .struct, [(0, 17)], 0, 0, none⟩) (.node (.node .nil (some ⟨4, 40, (some [.nilp, .nilp, .nilp, .str []]), .struct, [(0, 17), (1, 17), (2, 17), (3, 9)], 0, 0, none⟩) .nil) (some ⟨1, 8, (some [.nilf]), .other, [], 0, 0, none⟩) .nil)) (some ⟨1, 16, (some [.str []]), .string, [], 0, 0, none⟩) (.node (.node (.node .nil (some ⟨1, 8, (some [.nilf]), .other, [], 0, 0, none⟩) .nil) (some ⟨1, 8, (some [.nilf]), .other, [], 0, 0, none⟩) .nil) (some ⟨1, 8, (some [.nilf]), .other, [], 0, 0, none⟩) (.node (.node .nil (some ⟨1, 1, (some [.int .u8 0]), .int .u8, [], 0, 0, none⟩) .nil) (some ⟨1, 8, (some [.int .u64 0]), .int .u64, [], 0, 0, none⟩) .nil)))) (some ⟨1, 8, (some [.nilf]), .other, [], 0, 0, none⟩) (.node (.node (.node (.node (.node .nil (some ⟨1, 8, (some [.nilf]), .other, [], 0, 0, none⟩) .nil) (some ⟨1, 8, (some [.nilf]), .other, [], 0, 0, none⟩) (.node .nil (some ⟨11, 48, (some [.int .u64 0, .int .u64 0, .int .u32 0, .int .u8 0, .int .u8 0, .int .u8 0, .int .u8 0, .nilf, .nilp, .int .i32 0, .int .i32 0]), .struct, [(0, 12), (1, 12), (2, 89), (3, 90), (4, 5), (5, 5), (6, 91), (7, 92), (8, 93), (9, 94), (10, 95)], 0, 0, none⟩) .nil)) (some ⟨1, 8, (some [.nilp]), .pointer, [], 97, 0, none⟩) (.node (.node .nil (some ⟨1, 8, (some [.nilf]), .other, [], 0, 0, none⟩) .nil) (some ⟨1, 8, (some [.nilf]), .other, [], 0, 0, none⟩) .nil)) (some ⟨1, 16, (some [.str []]), .string, [], 0, 0, none⟩) (.node (.node (.node .nil (some ⟨1, 8, (some [.nilf]), .other, [], 0, 0, none⟩) .nil) (some ⟨1, 24, (some [.nils]), .slice, [], 37, 0, none⟩) .nil) (some ⟨7, 104, (some [.int .i64 0, .str [], .nils, .bool false, .bool false, .nils, .nils]), .struct, [(0, 3), (1, 9), (2, 22), (3, 4), (4, 4), (5, 23), (6, 23)], 0, 0, (some [(.int .i64), .string, .slice, .bool, .bool, .slice, .slice])⟩) (.node (.node .nil (some ⟨1, 4, (some [.int .u32 0]), .int .u32, [], 0, 0, none⟩) .nil) (some ⟨1, 8, (some [.nilf]), .other, [], 0, 0, none⟩) .nil))) (some ⟨1, 1, (some [.int .u8 0]), .int .u8, [], 0, 0, none⟩) (.node (.node (.node (.node .nil (some ⟨9, 216, (some [.nils, .nils, .nils, .nils, .nils, .nils, .nils, .nils, .nils]), .array, [], 23, 9, (some (List.replicate 9 .slice))⟩) .nil) (some ⟨4, 24, (some [.int .i64 0, .int .i64 0, .bool false, .bool false]), .struct, [(0, 3), (1, 3), (2, 4), (3, 4)], 0, 0, (some [(.int .i64), (.int .i64), .bool, .bool])⟩) .nil) (some ⟨1, 4, (some [.int .i32 0]), .int .i32, [], 0, 0, none⟩) (.node (.node .nil (some ⟨0, 0, (some []), .array, [], 16, 0, (some (List.replicate 0 .pointer))⟩) .nil) (some ⟨1, 8, (some [.nilf]), .other, [], 0, 0, none⟩) .nil)) (some ⟨2, 24, (some [.str [], .int .u64 0]), .struct, [(0, 9), (1, 12)], 0, 0, none⟩) (.node (.node (.node .nil (some ⟨1, 8, (some [.nilf]), .other, [], 0, 0, none⟩) .nil) (some ⟨1, 8, (some [.nilf]), .other, [], 0, 0, none⟩) .nil) (some ⟨1, 8, (some [.nilf]), .other, [], 0, 0, none⟩) (.node (.node .nil (some ⟨1, 8, (some [.nilp]), .pointer, [], 5, 0, none⟩) .nil) (some ⟨1, 24, (some [.nils]), .slice, [], 23, 0, none⟩) .nil))))) (some ⟨1, 0, (some [.top]), .other, [], 0, 0, none⟩) (.node (.node (.node (.node (.node (.node .nil (some ⟨1, 0, (some [.top]), .other, [], 0, 0, none⟩) .nil) (some ⟨1, 8, (some [.int .u64 0]), .int .u64, [], 0, 0, none⟩) (.node .nil (some ⟨11, 48, (some [.int .u64 0, .int .u64 0, .int .u32 0, .int .u8 0, .int .u8 0, .int .u8 0, .int .u8 0, .nilf, .nilp, .int .i32 0, .int .i32 0]), .struct, [(0, 12), (1, 12), (2, 89), (3, 90), (4, 5), (5, 5), (6, 91), (7, 92), (8, 93), (9, 94), (10, 95)], 0, 0, none⟩) .nil)) (some ⟨1, 8, (some [.nilp]), .pointer, [], 87, 0, none⟩) (.node (.node .nil (some ⟨1, 8, (some [.nilf]), .other, [], 0, 0, none⟩) .nil) (some ⟨1, 8, (some [.nilf]), .other, [], 0, 0, none⟩) .nil)) (some ⟨4, 24, (some [.int .i64 0, .int .i64 0, .bool false, .int .u8 0]), .struct, [(0, 2), (1, 3), (2, 4), (3, 6)], 0, 0, (some [(.int .i64), (.int .i64), .bool, (.int .u8)])⟩) (.node (.node (.node .nil (some ⟨1, 8, (some [.nilf]), .other, [], 0, 0, none⟩) .nil) (some ⟨1, 8, (some [.nilf]), .other, [], 0, 0, none⟩) .nil) (some ⟨7, 104, (some [.int .i64 0, .str [], .nils, .bool false, .bool false, .nils, .nils]), .struct, [(0, 3), (1, 9), (2, 22), (3, 4), (4, 4), (5, 23), (6, 23)], 0, 0, (some [(.int .i64), .string, .slice, .bool, .bool, .slice, .slice])⟩) (.node (.node .nil (some ⟨1, 8, (some [.nilf]), .other, [], 0, 0, none⟩) .nil) (some ⟨1, 8, (some [.nilf]), .other, [], 0, 0, none⟩) .nil))) (some ⟨1, 1, (some [.bool false]), .bool, [], 0, 0, none⟩) (.node (.node (.node (.node .nil (some ⟨1, 8, (some [.nilf]), .other, [], 0, 0, none⟩) .nil) (some ⟨4, 24, (some [.int .i64 0, .int .i64 0, .bool false, .bool false]), .struct, [(0, 3), (1, 3), (2, 4), (3, 4)], 0, 0, (some [(.int .i64), (.int .i64), .bool, .bool])⟩) .nil) (some ⟨1, 16, (some [.nili]), .iface, [], 0, 0, none⟩) (.node (.node .nil (some ⟨4, 40, (some [.nilp, .nilp, .nilp, .str []]), .struct, [(0, 17), (1, 17), (2, 17), (3, 9)], 0, 0, none⟩) .nil) (some ⟨1, 8, (some [.nilf]), .other, [], 0, 0, none⟩) .nil)) (some ⟨1, 8, (some [.int .u64 0]), .int .u64, [], 0, 0, none⟩) (.node (.node (.node .nil (some ⟨1, 8, (some [.nilf]), .other, [], 0, 0, none⟩) .nil) (some ⟨1, 8, (some [.nilf]), .other, [], 0, 0, none⟩) .nil) (some ⟨1, 8, (some [.nilf]), .other, [], 0, 0, none⟩) (.node (.node .nil (some ⟨1, 8, (some [.nilf]), .other, [], 0, 0, none⟩) .nil) (some ⟨1, 8, (some [.nilf]), .other, [], 0, 0, none⟩) .nil)))) (some ⟨1, 8, (some [.int .i64 0]), .int .i64, [], 0, 0, none⟩) (.node (.node (.node (.node (.node .nil (some ⟨1, 8, (some [.nilf]), .other, [], 0, 0, none⟩) .nil) (some ⟨1, 8, (some [.nilf]), .other, [], 0, 0, none⟩) (.node .nil (some ⟨1, 8, (some [.nilp]), .other, [], 0, 0, none⟩) .nil)) (some ⟨1, 8, (some [.nilp]), .struct, [(0, 17)], 0, 0, none⟩) (.node (.node .nil (some ⟨1, 8, (some [.nilf]), .other, [], 0, 0, none⟩) .nil) (some ⟨1, 24, (some [.nils]), .slice, [], 4, 0, none⟩) .nil)) (some ⟨1, 16, (some [.str []]), .string, [], 0, 0, none⟩) (.node (.node (.node .nil (some ⟨1, 8, (some [.nilf]), .other, [], 0, 0, none⟩) .nil) (some ⟨1, 8, (some [.nilf]), .other, [], 0, 0, none⟩) .nil) (some ⟨1, 8, (some [.nilf]), .other, [], 0, 0, none⟩) (.node (.node .nil (some ⟨1, 1, (some [.int .u8 0]), .int .u8, [], 0, 0, none⟩) .nil) (some ⟨1, 8, (some [.nilf]), .other, [], 0, 0, none⟩) .nil))) (some ⟨1, 1, (some [.int .u8 0]), .int .u8, [], 0, 0, none⟩) (.node (.node (.node (.node .nil (some ⟨1, 8, (some [.nilf]), .other, [], 0, 0, none⟩) .nil) (some ⟨1, 24, (some [.nils]), .slice, [], 47, 0, none⟩) .nil) (some ⟨1, 24, (some [.nils]), .slice, [], 25, 0, none⟩) (.node (.node .nil (some ⟨0, 0, (some []), .struct, [(0, 85)], 0, 0, none⟩) .nil) (some ⟨1, 8, (some [.nilf]), .other, [], 0, 0, none⟩) .nil)) (some ⟨2, 24, (some [.str [], .int .u64 0]), .struct, [(0, 9), (1, 12)], 0, 0, none⟩) (.node (.node (.node .nil (some ⟨1, 8, (some [.nilf]), .other, [], 0, 0, none⟩) .nil) (some ⟨3, 32, (some [.int .i64 0, .str [], .int .i64 0]), .struct, [(0, 3), (1, 9), (2, 3)], 0, 0, (some [(.int .i64), .string, (.int .i64)])⟩) .nil) (some ⟨1, 8, (some [.nilf]), .other, [], 0, 0, none⟩) (.node (.node .nil (some ⟨1, 4, (some [.int .i32 0]), .int .i32, [], 0, 0, none⟩) .nil) (some ⟨1, 24, (some [.nils]), .slice, [], 3, 0, none⟩) .nil))))))
theorem tyOk : tyT.allB (tiOk Try.prog) id = true := by decide +kernel
def cx : Cx := ⟨tyT.get⟩
theorem cxTi : ∀ t i, cx.ti t = some i → mkTi Try.prog t = some i := fun t i h => tiOk_eq (PT.allB_get tyT id tyOk t i h)
theorem cxOrd : Try.prog.follows .mixedOrders = true := by decide +kernel
end
end Go.Proofs.Ytbmijiibfaacmaa.Am
set_option linter.unusedVariables false
set_option linter.unusedSimpArgs false
namespace Go.Proofs.Ytbmijiibfaacmaa.Am
open Go
mutual
def renV (ρ : Nat → Nat) : AV → AV
 | .ptr r v off => .ptr (ρ r) v off
 | .slice r v off len sz => .slice (ρ r) v off len sz
 | .own r len sz => .own (ρ r) len sz
 | .agg xs => .agg (renVs ρ xs)
 | .tuple xs => .tuple (renVs ρ xs)
 | .func f a b => .func f (renVs ρ a) (renVs ρ b)
 | .iface t v => .iface t (renV ρ v)
 | .top => .top
 | .int k n => .int k n
 | .resid k q r => .resid k q r
 | .bool b => .bool b
 | .str s => .str s
 | .nilp => .nilp
 | .nils => .nils
 | .nilf => .nilf
 | .nili => .nili
 | .vec n sz c => .vec n sz c
 | .vptr c => .vptr c
def renVs (ρ : Nat → Nat) : List AV → List AV
 | [] => []
 | x :: xs => renV ρ x :: renVs ρ xs
end
mutual
theorem ren_back {m m0 : Mp} {ρ : Nat → Nat} {n : Nat} (h : ∀ i v p, i < n → m (ρ i) v = some p → m0 i v = some p) (hf : ∀ i p, m.froz i = some p → m0.froz i = some p) : ∀ (x : AV) (c : Value), below n x = true → VR m (renV ρ x) c → VR m0 x c
 | .top, _, _, _ => by simp only [VR]
 | .int .., _, _, e => by simpa only [VR, renV] using e
 | .resid .., _, _, e => by simpa only [VR, renV] using e
 | .bool _, _, _, e => by simpa only [VR, renV] using e
 | .str _, _, _, e => by simpa only [VR, renV] using e
 | .nilp, _, _, e => by simpa only [VR, renV] using e
 | .nils, _, _, e => by simpa only [VR, renV] using e
 | .nilf, _, _, e => by simpa only [VR, renV] using e
 | .nili, _, _, e => by simpa only [VR, renV] using e
 | .vec .., _, _, e => by
  simp only [VR, renV] at e ⊢
  obtain ⟨h0, a, cap, h1, h2, h3, h4⟩ := e
  exact ⟨h0, a, cap, h1, h2, h3, fun hn => let ⟨i, B, off, all, q, r⟩ := h4 hn; ⟨i, B, off, all, hf _ _ q, r⟩⟩
 | .vptr .., _, _, e => by
  simp only [VR, renV] at e ⊢
  obtain ⟨i, B, off, all, q, r⟩ := e
  exact ⟨i, B, off, all, hf _ _ q, r⟩
 | .ptr r v off, _, hb, e => by
  simp only [VR, renV, below, Nat.blt_eq] at e hb ⊢
  obtain ⟨B, N, h1, h2⟩ := e
  exact ⟨B, N, h _ _ _ hb h1, h2⟩
 | .slice r v off len sz, _, hb, e => by
  simp only [VR, renV, below, Nat.blt_eq] at e hb ⊢
  obtain ⟨B, N, cap, h1, h2⟩ := e
  exact ⟨B, N, cap, h _ _ _ hb h1, h2⟩
 | .own r len sz, _, hb, e => by
  simp only [VR, renV, below, Nat.blt_eq] at e hb ⊢
  rcases e with e | ⟨B, N, cap, h1, h2⟩
  ·exact .inl e
  ·exact .inr ⟨B, N, cap, h _ _ _ hb h1, h2⟩
 | .agg xs, c, hb, e => by
  simp only [VR, renV] at e ⊢
  obtain ⟨ys, h1, h2⟩ := e
  exact ⟨ys, h1, rens_back h hf xs _ (by simpa only [below] using hb) h2⟩
 | .tuple xs, c, hb, e => by
  simp only [VR, renV] at e ⊢
  obtain ⟨ys, h1, h2⟩ := e
  exact ⟨ys, h1, rens_back h hf xs _ (by simpa only [below] using hb) h2⟩
 | .func f a b, c, hb, e => by
  simp only [VR, renV] at e ⊢
  simp only [below, Bool.and_eq_true] at hb
  obtain ⟨ys, zs, h1, h2, h3⟩ := e
  exact ⟨ys, zs, h1, rens_back h hf a _ hb.1 h2, rens_back h hf b _ hb.2 h3⟩
 | .iface t v, c, hb, e => by
  simp only [VR, renV] at e ⊢
  obtain ⟨d, h1, h2⟩ := e
  exact ⟨d, h1, ren_back h hf v _ (by simpa only [below] using hb) h2⟩
theorem rens_back {m m0 : Mp} {ρ : Nat → Nat} {n : Nat} (h : ∀ i v p, i < n → m (ρ i) v = some p → m0 i v = some p) (hf : ∀ i p, m.froz i = some p → m0.froz i = some p) : ∀ (xs : List AV) (cs : List Value), belows n xs = true → VRs m (renVs ρ xs) cs → VRs m0 xs cs
 | [], _, _, e => by simpa only [VRs, renVs] using e
 | x :: xs, cs, hb, e => by
  simp only [VRs, renVs] at e ⊢
  simp only [belows, Bool.and_eq_true] at hb
  obtain ⟨y, ys, rfl, h1, h2⟩ := e
  exact ⟨y, ys, rfl, ren_back h hf x y hb.1 h1, rens_back h hf xs ys hb.2 h2⟩
end
mutual
theorem ren_fwd {m m0 : Mp} {ρ : Nat → Nat} {n : Nat} (h : ∀ i v p, i < n → m0 i v = some p → m (ρ i) v = some p) (hf : ∀ i p, m0.froz i = some p → m.froz i = some p) : ∀ (x : AV) (c : Value), below n x = true → VR m0 x c → VR m (renV ρ x) c
 | .top, _, _, _ => by simp only [VR, renV]
 | .int .., _, _, e => by simpa only [VR, renV] using e
 | .resid .., _, _, e => by simpa only [VR, renV] using e
 | .bool _, _, _, e => by simpa only [VR, renV] using e
 | .str _, _, _, e => by simpa only [VR, renV] using e
 | .nilp, _, _, e => by simpa only [VR, renV] using e
 | .nils, _, _, e => by simpa only [VR, renV] using e
 | .nilf, _, _, e => by simpa only [VR, renV] using e
 | .nili, _, _, e => by simpa only [VR, renV] using e
 | .vec .., _, _, e => by
  simp only [VR, renV] at e ⊢
  obtain ⟨h0, a, cap, h1, h2, h3, h4⟩ := e
  exact ⟨h0, a, cap, h1, h2, h3, fun hn => let ⟨i, B, off, all, q, r⟩ := h4 hn; ⟨i, B, off, all, hf _ _ q, r⟩⟩
 | .vptr .., _, _, e => by
  simp only [VR, renV] at e ⊢
  obtain ⟨i, B, off, all, q, r⟩ := e
  exact ⟨i, B, off, all, hf _ _ q, r⟩
 | .ptr r v off, _, hb, e => by
  simp only [VR, renV, below, Nat.blt_eq] at e hb ⊢
  obtain ⟨B, N, h1, h2⟩ := e
  exact ⟨B, N, h _ _ _ hb h1, h2⟩
 | .slice r v off len sz, _, hb, e => by
  simp only [VR, renV, below, Nat.blt_eq] at e hb ⊢
  obtain ⟨B, N, cap, h1, h2⟩ := e
  exact ⟨B, N, cap, h _ _ _ hb h1, h2⟩
 | .own r len sz, _, hb, e => by
  simp only [VR, renV, below, Nat.blt_eq] at e hb ⊢
  rcases e with e | ⟨B, N, cap, h1, h2⟩
  ·exact .inl e
  ·exact .inr ⟨B, N, cap, h _ _ _ hb h1, h2⟩
 | .agg xs, c, hb, e => by
  simp only [VR, renV] at e ⊢
  obtain ⟨ys, h1, h2⟩ := e
  exact ⟨ys, h1, rens_fwd h hf xs _ (by simpa only [below] using hb) h2⟩
 | .tuple xs, c, hb, e => by
  simp only [VR, renV] at e ⊢
  obtain ⟨ys, h1, h2⟩ := e
  exact ⟨ys, h1, rens_fwd h hf xs _ (by simpa only [below] using hb) h2⟩
 | .func f a b, c, hb, e => by
  simp only [VR, renV] at e ⊢
  simp only [below, Bool.and_eq_true] at hb
  obtain ⟨ys, zs, h1, h2, h3⟩ := e
  exact ⟨ys, zs, h1, rens_fwd h hf a _ hb.1 h2, rens_fwd h hf b _ hb.2 h3⟩
 | .iface t v, c, hb, e => by
  simp only [VR, renV] at e ⊢
  obtain ⟨d, h1, h2⟩ := e
  exact ⟨d, h1, ren_fwd h hf v _ (by simpa only [below] using hb) h2⟩
theorem rens_fwd {m m0 : Mp} {ρ : Nat → Nat} {n : Nat} (h : ∀ i v p, i < n → m0 i v = some p → m (ρ i) v = some p) (hf : ∀ i p, m0.froz i = some p → m.froz i = some p) : ∀ (xs : List AV) (cs : List Value), belows n xs = true → VRs m0 xs cs → VRs m (renVs ρ xs) cs
 | [], _, _, e => by simpa only [VRs, renVs] using e
 | x :: xs, cs, hb, e => by
  simp only [VRs, renVs] at e ⊢
  simp only [belows, Bool.and_eq_true] at hb
  obtain ⟨y, ys, rfl, h1, h2⟩ := e
  exact ⟨y, ys, rfl, ren_fwd h hf x y hb.1 h1, rens_fwd h hf xs ys hb.2 h2⟩
end
theorem renVs_len (ρ : Nat → Nat) : ∀ xs : List AV, (renVs ρ xs).length = xs.length
 | [] => rfl
 | x :: xs => by simp only [renVs, List.length_cons, renVs_len ρ xs]
theorem renVs_take (ρ : Nat → Nat) : ∀ (xs : List AV) (k : Nat), (renVs ρ xs).take k = renVs ρ (xs.take k)
 | [], k => by simp [renVs]
 | x :: xs, 0 => by simp [renVs]
 | x :: xs, k + 1 => by simp only [renVs, List.take_succ_cons, renVs_take ρ xs k]
mutual
theorem pur_ren (ρ : Nat → Nat) : ∀ x : AV, pur x = true → renV ρ x = x
 | .top, _ | .int .., _ | .resid .., _ | .bool _, _ | .str _, _ | .nilp, _ | .nils, _ | .nilf, _ | .nili, _ | .vec .., _ | .vptr .., _ => by simp [renV]
 | .ptr .., h | .slice .., h | .own .., h => by simp [pur] at h
 | .agg xs, h => by simp only [pur, renV] at h ⊢; rw [purs_ren ρ xs h]
 | .tuple xs, h => by simp only [pur, renV] at h ⊢; rw [purs_ren ρ xs h]
 | .func _ a b, h => by simp only [pur, renV, Bool.and_eq_true] at h ⊢; rw [purs_ren ρ a h.1, purs_ren ρ b h.2]
 | .iface _ v, h => by simp only [pur, renV] at h ⊢; rw [pur_ren ρ v h]
theorem purs_ren (ρ : Nat → Nat) : ∀ xs : List AV, purs xs = true → renVs ρ xs = xs
 | [], _ => rfl
 | x :: xs, h => by simp only [purs, renVs, Bool.and_eq_true] at h ⊢; rw [pur_ren ρ x h.1, purs_ren ρ xs h.2]
end
noncomputable def at0 (rs : List Nat) (i : Nat) : Nat := match nth rs i with | some r => r | none => 0
def RB (rs : List Nat) (n : Nat) (b c : Blk) : Prop := b.ro = false ∧ ((c = b ∧ purs b.cells = true) ∨ (belows n b.cells = true ∧ c = ⟨renVs (at0 rs) b.cells, b.minv, false⟩))
def RBs (rs : List Nat) (n : Nat) (M : List Blk) : Nat → List Blk → Prop
 | _, [] => True
 | i, b :: L => (match nth M (at0 rs i) with | some c => RB rs n b c | none => False) ∧ RBs rs n M (i + 1) L
theorem RBs_get {rs : List Nat} {n : Nat} {M : List Blk} : ∀ {L : List Blk} {i j : Nat} {b : Blk}, RBs rs n M i L → L[j]? = some b → ∃ c, M[at0 rs (i + j)]? = some c ∧ RB rs n b c
 | [], i, j, b, _, h => by simp at h
 | b0 :: L, i, j, b, hr, h => by
  cases j with
  | zero =>
   simp at h
   subst h
   have h1 := hr.1
   split at h1
   ·rename_i c hc; exact ⟨c, by rw [← nth_eq]; exact hc, h1⟩
   ·exact h1.elim
  | succ j =>
   obtain ⟨c, h1, h2⟩ := RBs_get hr.2 (by simpa using h)
   exact ⟨c, by rw [show i + (j + 1) = i + 1 + j by omega]; exact h1, h2⟩
theorem RB.cells {rs : List Nat} {n : Nat} {b c : Blk} (h : RB rs n b c) : b.ro = false ∧ c.ro = false ∧ c.minv = b.minv ∧ belows n b.cells = true ∧ c.cells = renVs (at0 rs) b.cells := by
 obtain ⟨h0, ⟨rfl, h1⟩ | ⟨h1, rfl⟩⟩ := h
 ·exact ⟨h0, h0, rfl, purs_belows _ h1, (purs_ren _ _ h1).symm⟩
 ·exact ⟨h0, rfl, rfl, h1, rfl⟩
def SameB (rs : List Nat) : Nat → List Blk → List Blk → Prop
 | _, [], _ => True
 | _, _ :: _, [] => False
 | i, b :: M, c :: M' => (c = b ∨ (rs.any fun r => Nat.beq r i) = true) ∧ SameB rs (i + 1) M M'
theorem SameB_get {rs : List Nat} : ∀ {M M' : List Blk} {i j : Nat}, SameB rs i M M' → j < M.length → (∀ r ∈ rs, r ≠ i + j) → M'[j]? = M[j]?
 | [], _, i, j, _, h, _ => by simp at h
 | b :: M, [], i, j, h, _, _ => h.elim
 | b :: M, c :: M', i, j, h, hj, hn => by
  cases j with
  | zero =>
   rcases h.1 with h1 | h1
   ·rw [h1]; rfl
   ·obtain ⟨r, hr, he⟩ := List.any_eq_true.1 h1
    exact absurd (Nat.eq_of_beq_eq_true he) (hn r hr)
  | succ j =>
   simp only [List.getElem?_cons_succ]
   exact SameB_get h.2 (by simpa using hj) fun r hr => by rw [show i + 1 + j = i + (j + 1) by omega]; exact hn r hr
def frB (n k k' : Nat) : Nat → List Nat → Bool
 | _, [] => true
 | i, r :: l => (bif Nat.blt i n then Nat.blt r k else Nat.ble k r && Nat.blt r k') && (l.all fun s => !Nat.beq s r) && frB n k k' (i + 1) l
def frOk (n n' k k' : Nat) (rs : List Nat) : Bool := Nat.beq rs.length n' && Nat.ble n n' && Nat.ble k k' && Nat.ble k' roots && Nat.ble n' roots && frB n k k' 0 rs
theorem frB_spec {n k k' : Nat} : ∀ {l : List Nat} {i : Nat}, frB n k k' i l = true → (∀ (j r : Nat), l[j]? = some r → (i + j < n → r < k) ∧ (n ≤ i + j → k ≤ r ∧ r < k')) ∧ (∀ (j j' r : Nat), l[j]? = some r → l[j']? = some r → j = j')
 | [], i, _ => ⟨fun j r h => by simp at h, fun j j' r h => by simp at h⟩
 | r0 :: l, i, h => by
  simp only [frB, Bool.and_eq_true] at h
  obtain ⟨⟨h1, h2⟩, h3⟩ := h
  obtain ⟨g1, g2⟩ := frB_spec h3
  have hne : ∀ j : Nat, l[j]? ≠ some r0 := by
   intro j hj
   have := List.all_eq_true.1 h2 r0 (List.mem_of_getElem? hj)
   simp at this
  refine ⟨?_, ?_⟩
  ·intro j r hj
   cases j with
   | zero =>
    simp at hj; subst hj
    refine ⟨fun hlt => ?_, fun hge => ?_⟩
    ·have : Nat.blt i n = true := by simpa using hlt
     rw [this] at h1; simpa using h1
    ·have : Nat.blt i n = false := by
      cases hq : Nat.blt i n with
      | false => rfl
      | true => rw [Nat.blt_eq] at hq; omega
     rw [this] at h1; simpa using h1
   | succ j =>
    have := g1 j r (by simpa using hj)
    rw [show i + (j + 1) = i + 1 + j by omega]
    exact this
  ·intro j j' r hj hj'
   cases j with
   | zero =>
    cases j' with
    | zero => rfl
    | succ j' => simp at hj hj'; subst hj; exact absurd hj' (hne j')
   | succ j =>
    cases j' with
    | zero => simp at hj hj'; subst hj'; exact absurd hj (hne j)
    | succ j' => rw [g2 j j' r (by simpa using hj) (by simpa using hj')]
theorem mkH_at {L : List Blk} (hl : L.length ≤ roots) (r : Nat) : (mkH L).t.get r = L[r]? := by
 show (mkT 0 L).get r = _
 rw [mkT_get _ _ _ (by omega)]; simp
theorem frame {P : Program} {g : Nat} {ys : List AV} {L L' : List Blk} {v : AV} (h : CallT P g ys (mkH L) none v (mkH L')) (rs : List Nat) (M M' : List Blk)
 (hc : frOk L.length L'.length M.length M'.length rs = true) (hys : belows L.length ys = true) (hL : RBs rs L.length M 0 L) (hL' : RBs rs L'.length M' 0 L') (hv : below L'.length v = true) (hS : SameB rs 0 M M') :
 CallT P g (renVs (at0 rs) ys) (mkH M) none (renV (at0 rs) v) (mkH M') := by
 refine ⟨?_, h.2⟩
 intro m w base args hargs rw
 simp only [frOk, Bool.and_eq_true, Nat.beq_eq, Nat.ble_eq] at hc
 obtain ⟨⟨⟨⟨⟨c1, c2⟩, c3⟩, c4⟩, c6⟩, c5⟩ := hc
 obtain ⟨hbd, hinj⟩ := frB_spec c5
 have hat : ∀ i, i < L'.length → ∃ r, rs[i]? = some r ∧ at0 rs i = r := by
  intro i hi
  have hi' : i < rs.length := by omega
  refine ⟨rs[i], List.getElem?_eq_getElem hi', ?_⟩
  unfold at0
  rw [nth_eq, List.getElem?_eq_getElem hi']
 have hlow : ∀ i, i < L.length → at0 rs i < M.length := by
  intro i hi
  obtain ⟨r, h1, h2⟩ := hat i (by omega)
  rw [h2]
  exact (hbd i r h1).1 (by omega)
 have hhigh : ∀ i, L.length ≤ i → i < L'.length → M.length ≤ at0 rs i := by
  intro i hi hi'
  obtain ⟨r, h1, h2⟩ := hat i hi'
  rw [h2]
  exact ((hbd i r h1).2 (by omega)).1
 have hinj' : ∀ i j, i < L'.length → j < L'.length → at0 rs i = at0 rs j → i = j := by
  intro i j hi hj e
  obtain ⟨r, h1, h2⟩ := hat i hi
  obtain ⟨s, h3, h4⟩ := hat j hj
  rw [h2, h4] at e
  subst e
  exact hinj i j r h1 h3
 have hMget := mkH_at (L := M) (by omega)
 have hM'get := mkH_at (L := M') c4
 have hroomL : L.length ≤ roots ∧ L'.length ≤ roots := by omega
 have hLget := mkH_at (L := L) hroomL.1
 have hL'get := mkH_at (L := L') hroomL.2
 have hnoM : ∀ r v, M.length ≤ r → m r v = none := by
  intro r v hr
  cases e : m r v with
  | none => rfl
  | some p =>
   obtain ⟨b, hb, _⟩ := rw.dom r v p.1 p.2 e
   rw [hMget, List.getElem?_eq_none hr] at hb; cases hb
 let m0 : Mp := ⟨fun i v => if i < L.length then m (at0 rs i) v else none, m.froz⟩
 have hm0 : ∀ {i v p}, m0 i v = some p → i < L.length ∧ m (at0 rs i) v = some p := by
  intro i v p e
  have e : (if i < L.length then m (at0 rs i) v else none) = some p := e
  by_cases hi : i < L.length
  ·rw [if_pos hi] at e; exact ⟨hi, e⟩
  ·rw [if_neg hi] at e; cases e
 have hm0' : ∀ i v p, i < L.length → m (at0 rs i) v = some p → m0 i v = some p := by
  intro i v p hi e
  show (if i < L.length then m (at0 rs i) v else none) = some p
  rw [if_pos hi]; exact e
 have rw0 : RW m0 (mkH L) w base := by
  refine ⟨?_, ?_, ?_, ?_, ?_, rw.frz, ?_, rw.ffin, rw.base_le, hroomL.1⟩
  ·intro i b v B N hb hm h1 h2
   rw [hLget] at hb
   obtain ⟨hi, hm⟩ := hm0 hm
   obtain ⟨c, q1, q2⟩ := RBs_get hL hb
   rw [Nat.zero_add] at q1
   obtain ⟨e1, e2, e3, e4, e5⟩ := q2.cells
   obtain ⟨cs, ty, fr, p1, p2, p3, p4, p5⟩ := rw.blk (at0 rs i) c v B N (by rw [hMget]; exact q1) hm (by rw [e3]; exact h1) (by rw [e5, renVs_len]; exact h2)
   refine ⟨cs, ty, fr, p1, p2, p3, fun _ => p4 e2, ?_⟩
   rw [e5, renVs_take] at p5
   exact rens_back hm0' (fun _ _ h => h) _ _ (belows_take v e4) p5
  ·intro i v B N hm
   obtain ⟨hi, hm⟩ := hm0 hm
   obtain ⟨c0, g1, g2, g3, g4⟩ := rw.dom _ _ _ _ hm
   have hb : L[i]? = some L[i] := List.getElem?_eq_getElem hi
   obtain ⟨c, q1, q2⟩ := RBs_get hL hb
   rw [Nat.zero_add] at q1
   rw [hMget, q1] at g1
   cases g1
   obtain ⟨e1, e2, e3, e4, e5⟩ := q2.cells
   exact ⟨_, by rw [hLget]; exact hb, by rw [e5, renVs_len] at g2; exact g2, g3, fun _ => g4 e2⟩
  ·intro i v B N i' v' N' hm hm' hB
   obtain ⟨hi, hm⟩ := hm0 hm
   obtain ⟨hi', hm'⟩ := hm0 hm'
   exact hinj' i i' (by omega) (by omega) (rw.sep _ _ _ _ _ _ _ hm hm' hB)
  ·intro r hr
   have hr : L.length ≤ r := hr
   rw [hLget, List.getElem?_eq_none hr]
  ·intro i v B N hm
   exact rw.vle _ _ _ _ (hm0 hm).2
  ·intro i B cells r v N b hi hm hb
   obtain ⟨hr, hm⟩ := hm0 hm
   rw [hLget] at hb
   obtain ⟨c, q1, q2⟩ := RBs_get hL hb
   rw [Nat.zero_add] at q1
   obtain ⟨e1, e2, _⟩ := q2.cells
   have := rw.fsep i B cells _ v N c hi hm (by rw [hMget]; exact q1)
   rw [e2] at this; cases this
 have hargs0 : VRs m0 ys args.toList := rens_back hm0' (fun _ _ h => h) _ _ hys hargs
 refine Calls.mono (h.1 m0 w base args hargs0 rw0) ?_
 intro x w' hend
 have hsep : ∀ {r v B N}, m r v = some (B, N) → (∀ i, i < L.length → at0 rs i ≠ r) → ∀ i v' N', m0 i v' = some (B, N') → B < base := by
  intro r v B N hm hr i v' N' hi
  obtain ⟨hi, hm'⟩ := hm0 hi
  rcases Nat.lt_or_ge B base with hlt | hge
  ·exact hlt
  ·exact absurd (rw.sep _ _ _ _ _ _ _ hm' hm hge) (hr i hi)
 obtain ⟨m1, c, rfl, rw1, st, hvc⟩ := hend
 have hm1 : ∀ {i v p}, m1 i v = some p → i < L'.length := by
  intro i v p e
  obtain ⟨b, hb, _⟩ := rw1.dom i v p.1 p.2 e
  rw [hL'get] at hb
  exact (List.getElem?_eq_some_iff.1 hb).1
 have hσ : ∀ r, (∃ i, i < L'.length ∧ at0 rs i = r) ∨ (∀ i, i < L'.length → at0 rs i ≠ r) := by
  intro r
  rcases Classical.em (∃ i, i < L'.length ∧ at0 rs i = r) with h | h
  ·exact .inl h
  ·exact .inr fun i hi e => h ⟨i, hi, e⟩
 let m2 : Mp := ⟨fun r v => if h : ∃ i, i < L'.length ∧ at0 rs i = r then m1 (Classical.choose h) v else m r v, m1.froz⟩
 have hin : ∀ {i v}, i < L'.length → m2 (at0 rs i) v = m1 i v := by
  intro i v hi
  have hex : ∃ j, j < L'.length ∧ at0 rs j = at0 rs i := ⟨i, hi, rfl⟩
  show (if h : ∃ j, j < L'.length ∧ at0 rs j = at0 rs i then m1 (Classical.choose h) v else m (at0 rs i) v) = _
  rw [dif_pos hex]
  have hs := Classical.choose_spec hex
  rw [hinj' _ _ hs.1 hi hs.2]
 have hout : ∀ {r v}, (∀ i, i < L'.length → at0 rs i ≠ r) → m2 r v = m r v := by
  intro r v hr
  show (if h : ∃ j, j < L'.length ∧ at0 rs j = r then m1 (Classical.choose h) v else m r v) = _
  rw [dif_neg]
  rintro ⟨j, h1, h2⟩
  exact hr j h1 h2
 have hfwd : ∀ i v p, i < L'.length → m1 i v = some p → m2 (at0 rs i) v = some p := fun i v p hi e => by rw [hin hi]; exact e
 have hsub : Sub m m2 := by
  refine ⟨?_, fun i p hp => st.sub.2 i p hp⟩
  intro r v p hp
  rcases hσ r with ⟨i, hi, rfl⟩ | hr
  ·rw [hin hi]
   rcases Nat.lt_or_ge i L.length with h1 | h1
   ·exact st.sub.1 i v p (hm0' i v p h1 hp)
   ·have := hnoM _ v (hhigh i h1 hi)
    rw [this] at hp; cases hp
  ·rw [hout hr]; exact hp
 have hother : ∀ {r v B N}, (∀ i, i < L'.length → at0 rs i ≠ r) → m r v = some (B, N) → w'.heap[B]? = w.heap[B]? := by
  intro r v B N hr hm
  obtain ⟨b, q1, q2, q3, q4⟩ := rw.dom r v B N hm
  exact st.same B q3 fun i v' N' e => hsep hm (fun i hi => hr i (by omega)) i v' N' e
 have hsameM : ∀ {r b}, (∀ i, i < L'.length → at0 rs i ≠ r) → r < M.length → M'[r]? = some b → M[r]? = some b := by
  intro r b hr hlt hb
  rw [← SameB_get hS hlt]
  ·exact hb
  ·intro s hs
   obtain ⟨j, hj⟩ := List.mem_iff_getElem?.1 hs
   have hjl : j < L'.length := by
    have := (List.getElem?_eq_some_iff.1 hj).1
    omega
   obtain ⟨s', h1, h2⟩ := hat j hjl
   rw [hj] at h1
   cases h1
   rw [Nat.zero_add, ← h2]
   exact hr j hjl
 have hltM : ∀ {r v p}, m r v = some p → r < M.length := by
  intro r v p hm
  rcases Nat.lt_or_ge r M.length with h1 | h1
  ·exact h1
  ·rw [hnoM r v h1] at hm; cases hm
 have hsep2 : ∀ {i r v v' B N N'}, i < L'.length → (∀ i, i < L'.length → at0 rs i ≠ r) → m1 i v = some (B, N) → m r v' = some (B, N') → base ≤ B → False := by
  intro i r v v' B N N' hi hr h1 h2 hB
  rcases st.ext i v B N h1 with ⟨v0, N0, e0⟩ | hnew
  ·exact absurd (hsep h2 (fun i hi => hr i (by omega)) i v0 N0 e0) (by omega)
  ·obtain ⟨_, _, _, q3, _⟩ := rw.dom r v' B N' h2
   omega
 refine ⟨m2, c, rfl, ⟨?_, ?_, ?_, ?_, ?_, rw1.frz, ?_, rw1.ffin, rw1.base_le, c4⟩, ⟨hsub, ?_, ?_, st.size, st.os, st.tape, st.output, fun B hB hm => st.same B hB fun i v N e => hm _ v N (hm0 e).2⟩, ren_fwd hfwd (fun _ _ h => h) v c hv hvc⟩
 ·intro r b v B N hb hm h1 h2
  rw [hM'get] at hb
  rcases hσ r with ⟨i, hi, rfl⟩ | hr
  ·rw [hin hi] at hm
   have hbl : L'[i]? = some L'[i] := List.getElem?_eq_getElem hi
   obtain ⟨c', q1, q2⟩ := RBs_get hL' hbl
   rw [Nat.zero_add, hb] at q1
   cases q1
   obtain ⟨e1, e2, e3, e4, e5⟩ := q2.cells
   rw [e3] at h1
   rw [e5, renVs_len] at h2
   obtain ⟨cs, ty, fr, p1, p2, p3, p4, p5⟩ := rw1.blk i _ v B N (by rw [hL'get]; exact hbl) hm h1 h2
   refine ⟨cs, ty, fr, p1, p2, p3, fun _ => p4 e1, ?_⟩
   rw [e5, renVs_take]
   exact rens_fwd hfwd (fun _ _ h => h) _ _ (belows_take v e4) p5
  ·rw [hout hr] at hm
   have hbM := hsameM hr (hltM hm) hb
   obtain ⟨cs, ty, fr, p1, p2, p3, p4, p5⟩ := rw.blk r b v B N (by rw [hMget]; exact hbM) hm h1 h2
   exact ⟨cs, ty, fr, by rw [hother hr hm]; exact p1, p2, p3, p4, VRs.mono hsub _ _ p5⟩
 ·intro r v B N hm
  rcases hσ r with ⟨i, hi, rfl⟩ | hr
  ·rw [hin hi] at hm
   obtain ⟨b, q1, q2, q3, q4⟩ := rw1.dom i v B N hm
   rw [hL'get] at q1
   obtain ⟨c', g1, g2⟩ := RBs_get hL' q1
   rw [Nat.zero_add] at g1
   obtain ⟨e1, e2, e3, e4, e5⟩ := g2.cells
   exact ⟨c', by rw [hM'get]; exact g1, by rw [e5, renVs_len]; exact q2, q3, fun _ => q4 e1⟩
  ·rw [hout hr] at hm
   obtain ⟨b, q1, q2, q3, q4⟩ := rw.dom r v B N hm
   rw [hMget] at q1
   have hlt := (List.getElem?_eq_some_iff.1 q1).1
   have hM'r : M'[r]? = some b := by
    have hlt' : r < M'.length := by omega
    have := hsameM (b := M'[r]) hr hlt (List.getElem?_eq_getElem hlt')
    rw [q1] at this
    rw [List.getElem?_eq_getElem hlt', ← this]
   exact ⟨b, by rw [hM'get]; exact hM'r, q2, Nat.lt_of_lt_of_le q3 st.size, q4⟩
 ·intro r v B N r' v' N' hm hm' hB
  rcases hσ r with ⟨i, hi, rfl⟩ | hr
  ·rw [hin hi] at hm
   rcases hσ r' with ⟨j, hj, rfl⟩ | hr'
   ·rw [hin hj] at hm'
    rw [rw1.sep _ _ _ _ _ _ _ hm hm' hB]
   ·rw [hout hr'] at hm'
    exact (hsep2 hi hr' hm hm' hB).elim
  ·rw [hout hr] at hm
   rcases hσ r' with ⟨j, hj, rfl⟩ | hr'
   ·rw [hin hj] at hm'
    exact (hsep2 hj hr hm' hm hB).elim
   ·rw [hout hr'] at hm'
    exact rw.sep _ _ _ _ _ _ _ hm hm' hB
 ·intro r hr
  have hr : M'.length ≤ r := hr
  rw [hM'get, List.getElem?_eq_none hr]
 ·intro r v B N hm
  rcases hσ r with ⟨i, hi, rfl⟩ | hr
  ·rw [hin hi] at hm; exact rw1.vle _ _ _ _ hm
  ·rw [hout hr] at hm; exact rw.vle _ _ _ _ hm
 ·intro i B cells r v N b hi hm hb
  rw [hM'get] at hb
  rcases hσ r with ⟨j, hj, rfl⟩ | hr
  ·rw [hin hj] at hm
   have hbl : L'[j]? = some L'[j] := List.getElem?_eq_getElem hj
   have := rw1.fsep i B cells j v N _ hi hm (by rw [hL'get]; exact hbl)
   obtain ⟨c', q1, q2⟩ := RBs_get hL' hbl
   rw [q2.1] at this; cases this
  ·rw [hout hr] at hm
   have hbM := hsameM hr (hltM hm) hb
   rcases st.fext i B cells hi with hold | ⟨hB, ⟨j, v0, N0, hj⟩ | hnew⟩
   ·exact rw.fsep i B cells r v N b hold hm (by rw [hMget]; exact hbM)
   ·exact absurd (hsep hm (fun i hi => hr i (by omega)) j v0 N0 hj) (by omega)
   ·obtain ⟨_, _, _, q3, _⟩ := rw.dom r v B N hm
    omega
 ·intro r v B N hm
  rcases hσ r with ⟨i, hi, rfl⟩ | hr
  ·rw [hin hi] at hm
   rcases st.ext i v B N hm with ⟨v0, N0, e0⟩ | hnew
   ·exact .inl ⟨v0, N0, (hm0 e0).2⟩
   ·exact .inr hnew
  ·rw [hout hr] at hm
   exact .inl ⟨v, N, hm⟩
 ·intro i B cells hi
  rcases st.fext i B cells hi with hold | ⟨hB, ⟨j, v0, N0, hj⟩ | hnew⟩
  ·exact .inl hold
  ·exact .inr ⟨hB, .inl ⟨_, v0, N0, (hm0 hj).2⟩⟩
  ·exact .inr ⟨hB, .inr hnew⟩
end Go.Proofs.Ytbmijiibfaacmaa.Am
set_option linter.unusedVariables false
set_option linter.unusedSimpArgs false
namespace Go.Proofs.Ytbmijiibfaacmaa.Am
open Go
section
variable {R : Type} {X : Fx (Option R)} {p p' : Pt} {env eE : Env} {H H' : Hp}
end
inductive Wk : List AV → List AV → Prop where
 | refl {xs} : Wk xs xs
 | cons {x xs ys} : Wk xs ys → Wk (x :: xs) (x :: ys)
 | slice {r v len sz xs ys} : v = len * sz → Wk xs ys → Wk (.slice r v 0 len sz :: xs) (.own r len sz :: ys)
 | none {r sz xs ys} : Wk xs ys → Wk (.nils :: xs) (.own r 0 sz :: ys)
 | nil {sz xs ys} : Wk xs ys → Wk (.nils :: xs) (.vec 0 sz [] :: ys)
 | agg {xs ys zs us} : Wk xs ys → Wk zs us → Wk (.agg xs :: zs) (.agg ys :: us)
 | func {f a b a' b' zs us} : Wk a a' → Wk b b' → Wk zs us → Wk (.func f a b :: zs) (.func f a' b' :: us)
theorem wk_ok {m : Mp} {xs ys : List AV} (h : Wk xs ys) : ∀ {cs : List Value}, VRs m xs cs → VRs m ys cs := by
 induction h with
 | refl => exact fun h => h
 | cons _ ih =>
  intro cs h
  simp only [VRs] at h ⊢
  obtain ⟨y, ys, rfl, h1, h2⟩ := h
  exact ⟨y, ys, rfl, h1, ih h2⟩
 | slice hv _ ih =>
  intro cs h
  simp only [VRs] at h ⊢
  obtain ⟨y, ys, rfl, h1, h2⟩ := h
  refine ⟨y, ys, rfl, ?_, ih h2⟩
  simp only [VR] at h1 ⊢
  obtain ⟨B, N, cap, q1, q2, q3, q4, q5⟩ := h1
  subst hv
  exact .inr ⟨B, N, cap, q1, q3, by omega, q5⟩
 | none _ ih =>
  intro cs h
  simp only [VRs] at h ⊢
  obtain ⟨y, ys, rfl, h1, h2⟩ := h
  refine ⟨y, ys, rfl, ?_, ih h2⟩
  simp only [VR] at h1 ⊢
  exact .inl ⟨trivial, h1⟩
 | nil _ ih =>
  intro cs h
  simp only [VRs] at h ⊢
  obtain ⟨y, ys, rfl, h1, h2⟩ := h
  refine ⟨y, ys, rfl, ?_, ih h2⟩
  simp only [VR] at h1
  subst h1
  exact vec_nil _ _
 | agg _ _ ih1 ih2 =>
  intro cs h
  simp only [VRs, VR] at h ⊢
  obtain ⟨y, ys, rfl, ⟨zs, rfl, h1⟩, h2⟩ := h
  exact ⟨_, ys, rfl, ⟨zs, rfl, ih1 h1⟩, ih2 h2⟩
 | func _ _ _ ih1 ih2 ih3 =>
  intro cs h
  simp only [VRs, VR] at h ⊢
  obtain ⟨y, ys, rfl, ⟨zs, us, rfl, h1, h1'⟩, h2⟩ := h
  exact ⟨_, ys, rfl, ⟨zs, us, rfl, ih1 h1, ih2 h1'⟩, ih3 h2⟩
theorem CallT.args {P : Program} {g : Nat} {xs ys : List AV} {H H' : Hp} {tv : Option (Value × List Nat)} {v : AV} (h : CallT P g ys H tv v H') (k : xs = ys) : CallT P g xs H tv v H' := k ▸ h
theorem CallT.heap {P : Program} {g : Nat} {xs : List AV} {H H' H'' : Hp} {tv : Option (Value × List Nat)} {v v' : AV} (h : CallT P g xs H tv v H') (k : H' = H'') (kv : v = v') : CallT P g xs H tv v' H'' := k ▸ kv ▸ h
section
variable {R : Type} {X : Fx R} {p p' : Pt} {env eE : Env} {H H' : Hp}
end
def MinvLe : List Blk → List Blk → Prop
 | [], [] => True
 | b :: M, c :: M' => (c.cells = b.cells ∧ c.ro = b.ro ∧ b.minv ≤ c.minv) ∧ MinvLe M M'
 | _, _ => False
theorem MinvLe.get : ∀ {M M' : List Blk}, MinvLe M M' → M'.length = M.length ∧ ∀ (i : Nat) (c : Blk), M'[i]? = some c → ∃ b, M[i]? = some b ∧ c.cells = b.cells ∧ c.ro = b.ro ∧ b.minv ≤ c.minv
 | [], [], _ => ⟨rfl, fun i c h => by simp at h⟩
 | [], _ :: _, h => h.elim
 | _ :: _, [], h => h.elim
 | b :: M, c :: M', h => by
  obtain ⟨h1, h2⟩ := MinvLe.get h.2
  refine ⟨by simp [h1], fun i d hd => ?_⟩
  cases i with
  | zero => simp at hd; subst hd; exact ⟨b, rfl, h.1⟩
  | succ i => simpa using h2 i d (by simpa using hd)
theorem rw_minv {m : Mp} {w : World} {base : Nat} {M M' : List Blk} (h : MinvLe M M') (hr : M.length ≤ roots) (rw : RW m (mkH M) w base) : RW m (mkH M') w base := by
 obtain ⟨hl, hg⟩ := h.get
 have g1 := mkH_at (L := M) hr
 have g2 := mkH_at (L := M') (by omega)
 refine ⟨?_, ?_, rw.sep, ?_, rw.vle, rw.frz, ?_, rw.ffin, rw.base_le, by show M'.length ≤ roots; omega⟩
 ·intro r c v B N hb hm h1 h2
  rw [g2] at hb
  obtain ⟨b, q1, q2, q3, q4⟩ := hg r c hb
  rw [q2] at h2 ⊢
  rw [q3]
  exact rw.blk r b v B N (by rw [g1]; exact q1) hm (by omega) h2
 ·intro r v B N hm
  obtain ⟨b, q1, q2, q3, q4⟩ := rw.dom r v B N hm
  rw [g1] at q1
  have hlt : r < M'.length := by rw [hl]; exact (List.getElem?_eq_some_iff.1 q1).1
  obtain ⟨b', e1, e2, e3, e4⟩ := hg r _ (List.getElem?_eq_getElem hlt)
  rw [q1] at e1
  cases e1
  exact ⟨_, by rw [g2]; exact List.getElem?_eq_getElem hlt, by rw [e2]; exact q2, q3, by rw [e3]; exact q4⟩
 ·intro r hr'
  have hr' : M'.length ≤ r := hr'
  rw [g2, List.getElem?_eq_none hr']
 ·intro i B cells r v N c hi hm hb
  rw [g2] at hb
  obtain ⟨b, q1, q2, q3, q4⟩ := hg r c hb
  rw [q3]
  exact rw.fsep i B cells r v N b hi hm (by rw [g1]; exact q1)
theorem CallT.minv {P : Program} {g : Nat} {xs : List AV} {M M' : List Blk} {H' : Hp} {tv : Option (Value × List Nat)} {v : AV} (hr : M.length ≤ roots) (hm : MinvLe M M') (h : CallT P g xs (mkH M') tv v H') : CallT P g xs (mkH M) tv v H' :=
 ⟨fun m w base args ha rw => h.1 m w base args ha (rw_minv hm hr rw), h.2⟩
section
variable {R : Type} {X : Fx R} {p p' : Pt} {env eE : Env} {H H' : Hp}
theorem Wk.length {xs ys : List AV} (h : Wk xs ys) : ys.length = xs.length := by
 induction h <;> simp_all
theorem wk_take {m : Mp} {xs ys : List AV} (h : Wk xs ys) : ∀ (v : Nat) {cs : List Value}, VRs m (xs.take v) cs → VRs m (ys.take v) cs := by
 have one : ∀ {x y : AV} {xs ys : List AV} (v : Nat) {cs : List Value}, Wk [x] [y] → (∀ (v : Nat) {cs : List Value}, VRs m (xs.take v) cs → VRs m (ys.take v) cs) → VRs m ((x :: xs).take v) cs → VRs m ((y :: ys).take v) cs := by
  intro x y xs ys v cs h1 ih h
  cases v with
  | zero => simpa using h
  | succ v =>
   simp only [List.take_succ_cons, VRs] at h ⊢
   obtain ⟨c, cs', rfl, q1, q2⟩ := h
   have := wk_ok h1 (cs := [c]) (by simp only [VRs]; exact ⟨c, [], rfl, q1, rfl⟩)
   simp only [VRs] at this
   obtain ⟨c', cs'', e1, h3, _⟩ := this
   cases e1
   exact ⟨c, cs', rfl, h3, ih v q2⟩
 induction h with
 | refl => exact fun v cs h => h
 | cons _ ih => exact fun v cs h => one v .refl (fun v cs => ih v) h
 | slice hv _ ih => exact fun v cs h => one v (.slice hv .refl) (fun v cs => ih v) h
 | none _ ih => exact fun v cs h => one v (.none .refl) (fun v cs => ih v) h
 | nil _ ih => exact fun v cs h => one v (.nil .refl) (fun v cs => ih v) h
 | agg h1 _ _ ih => exact fun v cs h => one v (.agg h1 .refl) (fun v cs => ih v) h
 | func h1 h2 _ _ _ ih => exact fun v cs h => one v (.func h1 h2 .refl) (fun v cs => ih v) h
theorem ok_wkH {t : Option R} (L : List Blk) (r0 minv : Nat) (cells cells' : List AV) (hl : Nat.ble L.length roots = true) (hr : L[r0]? = some ⟨cells, minv, false⟩) (hw : Wk cells cells') (k : Ok X p env (mkH (L.set r0 ⟨cells', minv, false⟩)) t) : Ok X p env (mkH L) t := by
 intro r hr' m0 w0 b0 m w a h0 fr hnt hd rw st
 have hl : L.length ≤ roots := Nat.le_of_ble_eq_true hl
 have hlt : r0 < L.length := (List.getElem?_eq_some_iff.1 hr).1
 have g1 := mkH_at (L := L) hl
 have g2 := mkH_at (L := L.set r0 ⟨cells', minv, false⟩) (by simpa using hl)
 have gne : ∀ j, j ≠ r0 → (mkH (L.set r0 ⟨cells', minv, false⟩)).t.get j = (mkH L).t.get j := by
  intro j hj
  rw [g1, g2, List.getElem?_set, if_neg (fun e => hj e.symm)]
 have geq : (mkH (L.set r0 ⟨cells', minv, false⟩)).t.get r0 = some ⟨cells', minv, false⟩ := by
  rw [g2, List.getElem?_set, if_pos rfl, if_pos hlt]
 have hroot : (mkH L).t.get r0 = some ⟨cells, minv, false⟩ := by rw [g1]; exact hr
 have hlen := hw.length
 have hnext : (mkH (L.set r0 ⟨cells', minv, false⟩)).next = L.length := by simp [mkH]
 refine k r hr' m0 w0 b0 m w a h0 fr hnt hd ⟨?_, ?_, rw.sep, ?_, rw.vle, rw.frz, ?_, rw.ffin, rw.base_le, by rw [hnext]; exact hl⟩ st
 ·intro r b v B N hb hm h1 h2
  by_cases e : r = r0
  ·subst e
   rw [geq] at hb
   cases hb
   simp only at h1 h2
   obtain ⟨cs, ty, fr', q1, q2, q3, q4, q5⟩ := rw.blk r ⟨cells, minv, false⟩ v B N hroot hm h1 (by show v ≤ cells.length; omega)
   exact ⟨cs, ty, fr', q1, q2, q3, q4, wk_take hw v q5⟩
  ·rw [gne r e] at hb
   exact rw.blk r b v B N hb hm h1 h2
 ·intro r v B N hm
  obtain ⟨b, q1, q2, q3, q4⟩ := rw.dom r v B N hm
  by_cases e : r = r0
  ·subst e
   rw [hroot] at q1
   cases q1
   exact ⟨_, geq, by show v ≤ cells'.length; rw [hlen]; exact q2, q3, q4⟩
  ·exact ⟨b, by rw [gne r e]; exact q1, q2, q3, q4⟩
 ·intro r hr
  rw [hnext] at hr
  rw [gne r (by omega)]
  exact rw.fresh r hr
 ·intro i B cs r v N b hi hm hb
  by_cases e : r = r0
  ·subst e
   rw [geq] at hb
   cases hb
   have := rw.fsep i B cs r v N ⟨cells, minv, false⟩ hi hm hroot
   exact this
  ·rw [gne r e] at hb
   exact rw.fsep i B cs r v N b hi hm hb
end
structure Raw where
 n : Nat
 cells : List AV
def pI (k : IntKind) : List AV → Option (Int × List AV)
 | .int k' n :: r => if k' = k then some (n, r) else none
 | _ => none
def pB : List AV → Option (Bool × List AV)
 | .bool b :: r => some (b, r)
 | _ => none
inductive Fr1 (r0 n sz : Nat) (cells : List AV) : List AV → List AV → Prop where
 | refl {xs} : nrefs r0 xs = true → Fr1 r0 n sz cells xs xs
 | cons {x xs ys} : nref r0 x = true → Fr1 r0 n sz cells xs ys → Fr1 r0 n sz cells (x :: xs) (x :: ys)
 | own {xs ys} : Fr1 r0 n sz cells xs ys → Fr1 r0 n sz cells (.own r0 n sz :: xs) (.vec n sz cells :: ys)
 | agg {xs ys zs us} : Fr1 r0 n sz cells xs ys → Fr1 r0 n sz cells zs us → Fr1 r0 n sz cells (.agg xs :: zs) (.agg ys :: us)
theorem Fr1.length {r0 n sz : Nat} {cells xs ys : List AV} (h : Fr1 r0 n sz cells xs ys) : ys.length = xs.length := by
 induction h <;> simp_all
end Go.Proofs.Ytbmijiibfaacmaa.Am
set_option linter.unusedVariables false
set_option linter.unusedSimpArgs false
namespace Go.Proofs.Ytbmijiibfaacmaa.Am
open Go
def DfR (m : Mp) (f : Nat) (caps : List AV) (ds : List Deferred) : Prop := ∃ vals : Array Value, ds = [{ target := .fn (.func f) vals, args := #[] }] ∧ VRs m caps vals.toList
section
variable {R : Type} (X : Fx R)
end
section
variable {R : Type} {X : Fx R} {f : Nat} {caps : List AV} {p p' : Pt} {env eE : Env} {H H' : Hp}
theorem DfR.mono {m m' : Mp} {ds : List Deferred} (h : Sub m m') (k : DfR m f caps ds) : DfR m' f caps ds := let ⟨v, e, q⟩ := k; ⟨v, e, VRs.mono h _ _ q⟩
end
end Go.Proofs.Ytbmijiibfaacmaa.Am
set_option linter.unusedVariables false
set_option linter.unusedSimpArgs false
namespace Go.Proofs.Ytbmijiibfaacmaa.Am
open Go
noncomputable def lp {α : Type} (z : α) (f : α → α) (n : Nat) : α := Nat.rec (motive := fun _ => α) z (fun _ ih => f ih) n
abbrev AV.i (n : Int) : AV := .int .i64 n
abbrev AV.y (n : Int) : AV := .int .u8 n
section
variable {R : Type} {X : Fx R} {p : Pt} {env : Env} {H : Hp} {t : Option R}
theorem oLH (k : Nat) (p' : Pt) (eE : Env) (H' : Hp) (g : Ok X p' eE H' t) (h : (runV X.C X.fn.ntmps k p env H).map (fun x => (x.1, keepOnly x.2.1 (eE.map Prod.fst), x.2.2)) = some (p', eE, H') := by kernel_rfl) : Ok X p env H t := by
 cases hr : runV X.C X.fn.ntmps k p env H with
 | none => rw [hr] at h; cases h
 | some x =>
  obtain ⟨q, e, G⟩ := x
  rw [hr] at h
  simp only [Option.map_some, Option.some.injEq, Prod.mk.injEq] at h
  obtain ⟨rfl, h2, rfl⟩ := h
  exact ok_run k hr (ok_keep _ h2 g)
theorem oL (k : Nat) (p' : Pt) (eE : Env) (g : Ok X p' eE H t) (h : (runV X.C X.fn.ntmps k p env H).map (fun x => (x.1, keepOnly x.2.1 (eE.map Prod.fst), x.2.2)) = some (p', eE, H) := by kernel_rfl) : Ok X p env H t := oLH k p' eE H g h
theorem oR (k : Nat) (p' : Pt) (eE : Env) (g : Ok X p' eE H t) (h : runV X.C X.fn.ntmps k p env H = some (p', eE, H) := by kernel_rfl) : Ok X p env H t := ok_run k h g
theorem oH (k : Nat) (p' : Pt) (eE : Env) (H' : Hp) (g : Ok X p' eE H' t) (h : runV X.C X.fn.ntmps k p env H = some (p', eE, H') := by kernel_rfl) : Ok X p env H t := ok_run k h g
theorem oK (ks : List Nat) (eE : Env) (k : Ok X p eE H t) (h : keepOnly env ks = eE := by kernel_rfl) : Ok X p env H t := ok_keep ks h k
theorem oHp (H' : Hp) (k : Ok X p env H' t) (h : H = H' := by kernel_rfl) : Ok X p env H t := ok_heap h k
theorem oS {t1 t2 : Option R} (d : Nat) {b : Bool} (k1 : b = true → Ok X p ((d, .bool true) :: env) H t1) (k2 : b = false → Ok X p ((d, .bool false) :: env) H t2) (h : look env d = .bool b := by kernel_rfl) : Ok X p env H (if b then t1 else t2) := ok_split d h k1 k2
theorem oC {α : Type} {m : Option α} {f : α → Option R} (g : α → AV × Hp) (p' : Pt) (d : Nat) (h : evalAt X.C X.fn.ntmps p env H = m.map g) (k : ∀ x, m = some x → Ok X p' ((d, (g x).1) :: env) (g x).2 (f x)) (ha : ∀ x, advE X.fn.ntmps p env (g x).1 = some (p', (d, (g x).1) :: env) := by exact fun _ => by kernel_rfl) : Ok X p env H (m.bind f) := ok_chk g p' (fun x => (d, (g x).1) :: env) h ha k
theorem oA {α : Type} {m : Option α} {f : α → Option R} {fi : Nat} (g : α → AV) (p' : Pt) (d : Nat) (args : List AV) (hf : ∀ x, m = some x → PureOk X.P fi args (g x)) (k : ∀ x, m = some x → Ok X p' ((d, g x) :: env) H (f x)) (hc : (callAt X.fn.ntmps p env, purs args) = (some (fi, args), true) := by kernel_rfl) (hg : ∀ x, (pur (g x), advE X.fn.ntmps p env (g x)) = (true, some (p', (d, g x) :: env)) := by exact fun _ => by kernel_rfl) : Ok X p env H (m.bind f) :=
 ok_call g p' (fun x => (d, g x) :: env) (congrArg Prod.fst hc) (congrArg Prod.snd hc) (fun x => congrArg Prod.fst (hg x)) hf (fun x => congrArg Prod.snd (hg x)) k
theorem oAp {α : Type} {m : Option α} {f : α → Option R} {fi : Nat} (g : α → AV) (p' : Pt) (d : Nat) (args : List AV) (hp : ∀ x, pur (g x) = true) (hf : ∀ x, m = some x → PureOk X.P fi args (g x)) (k : ∀ x, m = some x → Ok X p' ((d, g x) :: env) H (f x)) (hc : (callAt X.fn.ntmps p env, purs args) = (some (fi, args), true) := by kernel_rfl) (hg : ∀ x, advE X.fn.ntmps p env (g x) = some (p', (d, g x) :: env) := by exact fun _ => by kernel_rfl) : Ok X p env H (m.bind f) :=
 ok_call g p' (fun x => (d, g x) :: env) (congrArg Prod.fst hc) (congrArg Prod.snd hc) hp hf hg k
theorem oP {r : R} (h : (X.n0, X.fin r, X.thr r, (resV X.C env H X.fn.results.toList).map fun xs => (oneRes xs, purs [oneRes xs])) = (0, H0, none, some (X.enc r, true)) := by kernel_rfl) : Ok X .fin env H (some r) := by
 simp only [Prod.mk.injEq] at h
 obtain ⟨h1, h2, h3, h4⟩ := h
 cases hr : resV X.C env H X.fn.results.toList with
 | none => rw [hr] at h4; cases h4
 | some xs =>
  rw [hr] at h4
  simp only [Option.map_some, Option.some.injEq, Prod.mk.injEq] at h4
  exact oT h1 h2 h3 hr (.pures h4.2) h4.1.symm
theorem oQ {r : R} (k : Nat) (h : (runV X.C X.fn.ntmps k p env H).map (fun x => (x.1, X.n0, X.fin r, X.thr r, (resV X.C x.2.1 x.2.2 X.fn.results.toList).map fun xs => (oneRes xs, purs [oneRes xs]))) = some (.fin, 0, H0, none, some (X.enc r, true)) := by kernel_rfl) : Ok X p env H (some r) := by
 cases hr : runV X.C X.fn.ntmps k p env H with
 | none => rw [hr] at h; cases h
 | some x =>
  obtain ⟨q, e, G⟩ := x
  rw [hr] at h
  simp only [Option.map_some, Option.some.injEq, Prod.mk.injEq] at h
  obtain ⟨rfl, h1, h2, h3, h4⟩ := h
  refine ok_run k hr (oP ?_)
  rw [h1, h2, h3, h4]
end
theorem FzG.ps {n0 : Nat} {H : Hp} {xs : List AV} (h : purs xs = true := by kernel_rfl) : FzG n0 H xs xs := .pures h
theorem FzG.cs {n0 : Nat} {H : Hp} {x : AV} {xs ys : List AV} (k : FzG n0 H xs ys) (h : pur x = true := by kernel_rfl) : FzG n0 H (x :: xs) (x :: ys) := .cons h k
def pickB : List Nat → List Blk → List Blk
 | 0 :: ms, _ :: l => pickB ms l
 | (_ + 1) :: ms, b :: l => b :: pickB ms l
 | _, _ => []
def PurA : List Blk → Prop
 | [] => True
 | b :: l => purs b.cells = true ∧ PurA l
def mk0 : List Nat → Bool
 | 0 :: _ => false
 | (_ + 1) :: _ => true
 | [] => false
theorem PurA.head {ms : List Nat} {b : Blk} {l : List Blk} (h : PurA (pickB ms (b :: l))) (hm : mk0 ms = true) : purs b.cells = true := by
 cases ms with
 | nil => cases hm
 | cons m ms => cases m with | zero => cases hm | succ m => exact h.1
theorem PurA.tail {ms : List Nat} {b : Blk} {l : List Blk} (h : PurA (pickB ms (b :: l))) : PurA (pickB ms.tail l) := by
 cases ms with
 | nil => cases l <;> (simp only [List.tail_nil, pickB]; exact trivial)
 | cons m ms => cases m with | zero => exact h | succ m => exact h.2
section
variable {R : Type} {X : Fx R} {p : Pt} {env : Env} {H : Hp} {t : Option R}
def nbB (r0 : Nat) : List Nat → Nat → List Blk → Bool
 | _, _, [] => true
 | ms, i, b :: l => (Nat.beq i r0 || mk0 ms || nrefs r0 b.cells) && nbB r0 ms.tail (i + 1) l
theorem nb_of {r0 : Nat} : ∀ {l : List Blk} {ms : List Nat} {i : Nat}, nbB r0 ms i l = true → PurA (pickB ms l) → NB r0 i l
 | [], _, _, _, _ => trivial
 | b :: l, ms, i, h, hp => by
  simp only [nbB, Bool.and_eq_true, Bool.or_eq_true] at h
  refine ⟨?_, nb_of h.2 hp.tail⟩
  rcases h.1 with (h1 | h1) | h1
  ·exact .inl (Nat.eq_of_beq_eq_true h1)
  ·exact .inr (purs_nrefs _ (hp.head h1))
  ·exact .inr h1
theorem oZ {M : List Blk} (d r0 n sz : Nat) (cells : List AV) (ks ms : List Nat) (hp : PurA (pickB ms M)) (k : Ok X p ((d, .vec n sz cells) :: keepOnly env ks) (mkH (M.set r0 ⟨[], 0, false⟩)) t)
 (h : (Nat.ble X.n0 r0, Nat.ble M.length roots, look env d, (nth M r0).map (fun b => (b.cells, b.ro, Nat.ble b.minv (n * sz))), Nat.beq cells.length (n * sz), purs cells, nrefE r0 (keepOnly env ks), nbB r0 ms 0 M) = (true, true, .slice r0 (n * sz) 0 n sz, some (cells, false, true), true, true, true, true) := by kernel_rfl) : Ok X p env (mkH M) t := by
 simp only [Prod.mk.injEq] at h
 obtain ⟨h1, h2, h3, h4, h5, h6, h7, h8⟩ := h
 rw [nth_eq] at h4
 cases hb : M[r0]? with
 | none => rw [hb] at h4; cases h4
 | some b =>
  obtain ⟨bc, bm, br⟩ := b
  rw [hb] at h4
  simp only [Option.map_some, Option.some.injEq, Prod.mk.injEq] at h4
  obtain ⟨rfl, rfl, h9⟩ := h4
  exact ok_frz M d r0 n sz bm bc ks h1 h2 (.inl h3) hb (Nat.eq_of_beq_eq_true h5) (Nat.le_of_ble_eq_true h9) h6 rfl h7 (nb_of h8 hp) k
theorem oD {H' : Hp} (p' : Pt) (eE : Env) (hs : List Hp) (D : DP) (hD : OpsD X.P X.C D (opsAt p).toList (opsAt p).toList env H eE hs) (k : Ok X p' eE H' t) (h : (drawAt p, Nat.ble (opsAt p).size D.tI, planOk D.S (opsAt p) D.pl, (opsAt p).toList.all (dstOk X.fn.ntmps), lastH H hs) = (some p', true, true, true, H') := by kernel_rfl)
 (hsome : (rdL X.C D (opsAt p).toList eE (H :: hs) 0 (opsAt p).toList D.pl).all (fun q => q.1.isSome) = true := by kernel_rfl) (hq : (rdL X.C D (opsAt p).toList eE (H :: hs) 0 (opsAt p).toList D.pl).map (·.1) = (rdL X.C D (opsAt p).toList eE (H :: hs) 0 (opsAt p).toList D.pl).map (·.2) := by kernel_rfl) : Ok X p env H t := by
 simp only [Prod.mk.injEq] at h
 obtain ⟨h1, h2, h3, h4, h5⟩ := h
 exact ok_draw D h1 h2 h3 h4 hD hsome hq h5 k
end
theorem oDr {P : Program} {C : Cx} {D : DP} {all l : List Oper} {e env : Env} {H : Hp} {hs2 : List Hp} (k n : Nat) (eE : Env) (g : OpsD P C D all (all.drop n) eE H e hs2) (h : runD C D all k l env H = some (all.drop n, eE, H, []) := by kernel_rfl) : OpsD P C D all l env H e hs2 := opsD_run k (hs := []) h g
theorem oDh {P : Program} {C : Cx} {D : DP} {all l : List Oper} {e env : Env} {H : Hp} {hs2 : List Hp} (k n : Nat) (eE : Env) (H' : Hp) (hs : List Hp) (g : OpsD P C D all (all.drop n) eE H' e hs2) (h : runD C D all k l env H = some (all.drop n, eE, H', hs) := by kernel_rfl) : OpsD P C D all l env H e (hs ++ hs2) := opsD_run k h g
end Go.Proofs.Ytbmijiibfaacmaa.Am
set_option linter.unusedVariables false
namespace Go.Proofs.Ytbmijiibfaacmaa.Am
open Go
structure S7 where
 f0 : Int
 f1 : Int
 f2 : Bool
 f3 : Int
structure S24 where
 f0 : Int
 f1 : (List Nat)
 f2 : Raw
 f3 : Bool
 f4 : Bool
 f5 : (List (List Nat))
 f6 : (List (List Nat))
abbrev q25 (x : Raw) : AV := .vec x.n 7 x.cells
def e2 (x : Int) : List AV := [.int .i64 x]
def v2 (x : Int) : AV := .int .i64 x
abbrev w2 (x : List Int) : AV := .vec x.length 1 (x.flatMap e2)
def p2 : List AV → Option (Int × List AV) := pI .i64
def e3 (x : Int) : List AV := [.int .i64 x]
def v3 (x : Int) : AV := .int .i64 x
theorem e3_len : ∀ x, (e3 x).length = 1 := fun _ => rfl
abbrev w3 (x : List Int) : AV := .vec x.length 1 (x.flatMap e3)
def p3 : List AV → Option (Int × List AV) := pI .i64
def e4 (x : Bool) : List AV := [.bool x]
def v4 (x : Bool) : AV := .bool x
def p4 : List AV → Option (Bool × List AV) := pB
def e5 (x : Int) : List AV := [.int .u8 x]
def p5 : List AV → Option (Int × List AV) := pI .u8
def e6 (x : Int) : List AV := [.int .u8 x]
def e7 (x : S7) : List AV := [.int .i64 x.f0, .int .i64 x.f1, .bool x.f2, .int .u8 x.f3]
def e8 (x : S7) : List AV := [.int .i64 x.f0, .int .i64 x.f1, .bool x.f2, .int .u8 x.f3]
theorem e8_pur : ∀ x, purs (e8 x) = true := fun _ => rfl
theorem u8 (l : List S7) : purs (l.flatMap e8) = true := purs_flatMap e8_pur l
def e9 (x : (List Nat)) : List AV := [.str x]
theorem e9_len : ∀ x, (e9 x).length = 1 := fun _ => rfl
abbrev w9 (x : List (List Nat)) : AV := .vec x.length 1 (x.flatMap e9)
def e23 (x : (List (List Nat))) : List AV := [w9 x]
def v23 (x : (List (List Nat))) : AV := w9 x
theorem e23_len : ∀ x, (e23 x).length = 1 := fun _ => rfl
abbrev w23 (x : List (List (List Nat))) : AV := .vec x.length 1 (x.flatMap e23)
def e25 (x : S24) : List AV := [.int .i64 x.f0, .str x.f1, q25 x.f2, .bool x.f3, .bool x.f4, w9 x.f5, w9 x.f6]
abbrev w25 (x : List S24) : AV := .vec x.length 7 (x.flatMap e25)
def e32 (x : Int) : List AV := [.int .u64 x]
theorem e32_pur : ∀ x, purs (e32 x) = true := fun _ => rfl
theorem u32 (l : List Int) : purs (l.flatMap e32) = true := purs_flatMap e32_pur l
abbrev n25 (x : S24) : AV := .agg [.int .i64 x.f0, .str x.f1, q25 x.f2, .bool x.f3, .bool x.f4, w9 x.f5, w9 x.f6]
def thrown : Value := .iface 0 (.agg #[])
end Go.Proofs.Ytbmijiibfaacmaa.Am
set_option maxRecDepth 100000
set_option linter.unusedVariables false
namespace Go.Proofs.Ytbmijiibfaacmaa.Am
noncomputable section
open Go
def Xg41 : Fx Bool := ⟨Try.prog, cx, Try.f41, fun r => .bool r, 0, fun _ => H0, cxTi, cxOrd, fun _ => none, false⟩
def g41p0 : Pt := nav [0] (bodyAt Try.f41)
def g41p1 : Pt := nav [0, 0, 0] g41p0
def g41 (k : Nat) (a0 : Int) (a1 : Int) : Option Bool :=
 if (decide (0 ≤ a1)) then (if (decide (a1 < 64)) then ((shrS .u64 a0 (fW .u64 a1)).bind fun x0_10 => some (decide (andI .u64 x0_10 1 = 1))) else (some false)) else (some false)
theorem g41_ok (k : Nat) (a0 : Int) (a1 : Int) (r : Bool) (h : g41 k a0 a1 = some r) : PureOk Try.prog 41 [.int .u64 a0, .i a1] (.bool r) := by
 refine pure_of Xg41 (fun _ => ⟨rfl, rfl⟩) Try.func41 (by decide +kernel) (by kernel_rfl) (t := g41 k a0 a1) ?_ h
 unfold g41
 refine oE (eE := [(0, .int .u64 a0), (1, .i a1)]) (by kernel_rfl) ?_
 let E1 : Env := [(7, .bool (decide (0 ≤ a1))), (6, .bool (decide (0 ≤ a1))), (5, .i a1), (4, .bool false), (0, .int .u64 a0), (1, .i a1)]
 refine oH 9 (atN 3 (ctl1 g41p1)) E1 (mkH []) ?_
 refine oS 7 (fun hb => ?_) (fun hb => ?_)
 ·let E2 : Env := ((11, .bool (decide (a1 < 64))) :: (10, .bool (decide (a1 < 64))) :: (9, .bool (decide (a1 < 64))) :: (8, .i a1) :: (7, .bool true) :: E1)
  refine oR 4 (atN 7 (ctl1 g41p1)) E2 ?_
  refine oS 11 (fun hb => ?_) (fun hb => ?_)
  ·refine oR 3 (atN 10 (ctl1 g41p1)) ((14, .int .u64 (fW .u64 a1)) :: (13, .i a1) :: (12, .int .u64 a0) :: (11, .bool true) :: E2) ?_
   refine oC (fun (x0_10 : Int) => (.int .u64 x0_10, (mkH []))) (atN 11 (ctl1 g41p1)) 15 (shrH (by kernel_rfl)) fun x0_10 hx0_10 => ?_
   exact oQ 6
  ·exact oQ 10
 ·exact oQ 14
end
end Go.Proofs.Ytbmijiibfaacmaa.Am
set_option maxRecDepth 100000
set_option linter.unusedVariables false
namespace Go.Proofs.Ytbmijiibfaacmaa.Am
noncomputable section
open Go
def Xg42 : Fx Int := ⟨Try.prog, cx, Try.f42, fun r => .int .u64 r, 0, fun _ => H0, cxTi, cxOrd, fun _ => none, false⟩
def g42p0 : Pt := nav [0] (bodyAt Try.f42)
def g42p1 : Pt := nav [0, 0, 0] g42p0
def g42p2 : Pt := nav [0, 0, 0, 0] g42p1
def g42p3 : Pt := nav [0, 0, 0, 0] g42p2
def g42p4 : Pt := nav [0, 0] g42p3
def g42p5 : Pt := nav [0, 0, 0] g42p4
def g42p6 : Pt := nav [1, 0, 0, 0, 0] g42p5
def g42p8 : Pt := nav [0, 0] g42p6
def g42p10 : Pt := nav [0, 0] g42p8
def g42_l2B (k : Nat)  (a0 : (List Int)) (ih : Int → Int → Option Int) : Int → Int → Option Int :=
 fun (y2_0 : Int) (y2_1 : Int) => if (decide (y2_0 < (a0.length : Int))) then ((nthL a0 y2_0).bind fun x0_0 => (shlS .u64 1 (fW .u64 x0_0)).bind fun x1_3 => ih (fW .i64 (y2_0 + 1)) (orI .u64 y2_1 x1_3)) else (some y2_1)
def g42_l2 (k : Nat)  (a0 : (List Int)) (n : Nat) : Int → Int → Option Int := lp (fun _ _ => none) (g42_l2B k a0) n
theorem g42_l2_ok (k : Nat)   (a0 : (List Int))  : ∀ (n : Nat) (y2_0 : Int) (y2_1 : Int), Ok Xg42 g42p3 [(3, .int .u64 y2_1), (6, w3 a0), (7, .i (a0.length : Int)), (8, .i y2_0)] (mkH []) (g42_l2 k a0 n y2_0 y2_1) := by
 intro n
 induction n with
 | zero => intro y2_0 y2_1; exact ok_none
 | succ n ih =>
  intro y2_0 y2_1
  show Ok _ _ _ _ (g42_l2B k a0 (g42_l2 k a0 n) y2_0 y2_1)
  unfold g42_l2B
  refine ok_ent (p' := nav [0] g42p3) (by kernel_rfl) ?_
  let E2 : Env := [(9, .bool (decide (y2_0 < (a0.length : Int)))), (3, .int .u64 y2_1), (6, w3 a0), (7, .i (a0.length : Int)), (8, .i y2_0)]
  refine oH 5 g42p5 E2 (mkH []) ?_
  refine oS 9 (fun hb => ?_) (fun hb => ?_)
  ·refine oR 6 (atN 0 (ctl1 g42p6)) ((9, .bool true) :: E2) ?_
   refine oC (fun (x0_0 : Int) => (.vptr [.i x0_0], (mkH []))) (atN 1 (ctl1 g42p6)) 10 (vidxH (sz := 1) e3_len (by kernel_rfl)) fun x0_0 hx0_0 => ?_
   refine oH 7 (atN 3 (ctl1 g42p8)) ((14, .int .u64 (fW .u64 x0_0)) :: (13, .i x0_0) :: (12, .int .u64 y2_1) :: (5, .i x0_0) :: (11, .i x0_0) :: (10, .vptr [.i x0_0]) :: (9, .bool true) :: E2) (mkH []) ?_
   refine oC (fun (x1_3 : Int) => (.int .u64 x1_3, (mkH []))) (atN 4 (ctl1 g42p8)) 15 (shlH (by kernel_rfl)) fun x1_3 hx1_3 => ?_
   refine oLH 3 g42p10 [(3, .int .u64 (orI .u64 y2_1 x1_3)), (6, w3 a0), (7, .i (a0.length : Int)), (8, .i y2_0)] (mkH []) ?_
   refine oL 4 g42p3 [(3, .int .u64 (orI .u64 y2_1 x1_3)), (6, w3 a0), (7, .i (a0.length : Int)), (8, .i (fW .i64 (y2_0 + 1)))] ?_
   exact ih (fW .i64 (y2_0 + 1)) (orI .u64 y2_1 x1_3)
  ·exact oQ 8
def g42 (k : Nat) (a0 : (List Int)) : Option Int :=
 g42_l2 k a0 k 0 0
theorem g42_ok (k : Nat) (a0 : (List Int)) (r : Int) (h : g42 k a0 = some r) : PureOk Try.prog 42 [w3 a0] (.int .u64 r) := by
 refine pure_of Xg42 (fun _ => ⟨rfl, rfl⟩) Try.func42 (by decide +kernel) (by kernel_rfl) (t := g42 k a0) ?_ h
 unfold g42
 refine oE (eE := [(0, w3 a0)]) (by kernel_rfl) ?_
 refine oLH 17 g42p3 [(3, .int .u64 0), (6, w3 a0), (7, .i (a0.length : Int)), (8, .i 0)] (mkH []) ?_
 exact (g42_l2_ok k a0 k) 0 0
end
end Go.Proofs.Ytbmijiibfaacmaa.Am
set_option maxRecDepth 100000
set_option linter.unusedVariables false
namespace Go.Proofs.Ytbmijiibfaacmaa.Am
noncomputable section
open Go
def Xg15 : Fx Bool := ⟨Try.prog, cx, Try.f15, fun r => .bool r, 0, fun _ => H0, cxTi, cxOrd, fun _ => none, false⟩
def g15c0 : List Int := [(2 : Int), (4 : Int), (5 : Int), (6 : Int), (8 : Int), (9 : Int), (10 : Int), (11 : Int), (15 : Int), (17 : Int), (18 : Int), (19 : Int), (20 : Int), (21 : Int)]
def g15p0 : Pt := nav [0] (bodyAt Try.f15)
def g15p1 : Pt := nav [0, 0, 0, 0] g15p0
def g15p2 : Pt := nav [0, 0, 0, 0, 0] g15p1
def g15p3 : Pt := nav [0, 0] g15p2
def g15p4 : Pt := nav [1, 0] g15p3
def g15p5 : Pt := nav [2, 0] g15p3
def g15p6 : Pt := nav [1, 0] g15p4
def g15p8 : Pt := nav [0, 0] g15p5
def g15p10 : Pt := nav [2, 0] g15p8
def g15p11 : Pt := nav [0, 0] g15p10
def g15 (k : Nat) (a0 : (List Nat)) (a1 : S24) : Option Bool :=
 jn (fun (z1 : Bool) => if z1 then ((g42 k g15c0).bind fun x0_1 => (g41 k x0_1 a1.f0).bind fun x0_4 => some x0_4) else (some false)) (fun j1 => if (eqL a0 [61]) then (j1 true) else (if (eqL a0 [58, 58]) then (j1 true) else (if (eqL a0 [61, 62]) then (j1 true) else (j1 (eqL a0 [58, 61])))))
theorem g15_ok (k : Nat) (a0 : (List Nat)) (a1 : S24) (r : Bool) (h : g15 k a0 a1 = some r) : PureOk Try.prog 15 [.str a0, .agg [.i a1.f0, .str a1.f1, q25 a1.f2, .bool a1.f3, .bool a1.f4, w9 a1.f5, w9 a1.f6]] (.bool r) := by
 refine pure_of Xg15 (fun _ => ⟨rfl, rfl⟩) Try.func15 (by decide +kernel) (by kernel_rfl) (t := g15 k a0 a1) ?_ h
 unfold g15
 refine oE (eE := [(0, .str a0), (1, .agg [.i a1.f0, .str a1.f1, q25 a1.f2, .bool a1.f3, .bool a1.f4, w9 a1.f5, w9 a1.f6])]) (by kernel_rfl) ?_
 refine oH 17 g15p3 [(6, .bool (eqL a0 [61])), (7, .bool (eqL a0 [61])), (5, .str a0), (4, .bool false), (3, .ptr 0 7 0), (0, .str a0), (1, n25 a1)] (mkH [⟨e25 a1, 0, false⟩]) ?_
 refine oJ g15p4 (fun (z1 : Bool) => [(3, .ptr 0 7 0), (6, .bool z1)]) (fun (z1 : Bool) => (mkH [⟨e25 a1, 0, false⟩])) (fun z1 => ?_) (fun j1 hj1 => ?_)
 ·refine oS 6 (fun hb => ?_) (fun hb => ?_)
  ·refine oH 2 g15p6 [(6, .bool true), (3, .ptr 0 7 0), (6, .bool z1)] (mkH [⟨e25 a1, 0, false⟩]) ?_
   refine ok_bind (fun x0_1 hx0_1 => ?_)
   refine ok_bind (fun x0_4 hx0_4 => ?_)
   let E2 : Env := [(12, .int .u64 x0_1), (11, w3 g15c0), (6, .bool true), (3, .ptr 0 7 0), (6, .bool z1)]
   refine oD (H' := (mkH [⟨e25 a1, 0, false⟩])) (nav [0] g15p6) ((4, .bool x0_4) :: (15, .bool x0_4) :: (14, .i a1.f0) :: (13, .ptr 0 7 0) :: E2) [(mkH [⟨e25 a1, 0, false⟩]), (mkH [⟨e25 a1, 0, false⟩])] ⟨[11], [(0, 0, 0), (1, 0, 0), (0, 0, 0), (4, 0, 1), (15, 0, 0), (31, 0, 0)], 6, thrown, [], H0⟩ (oDr 1 1 [(11, w3 g15c0), (6, .bool true), (3, .ptr 0 7 0), (6, .bool z1)] (opsD_call (l' := (opsAt g15p6).toList.drop 2) (eE := E2) (hs := [(mkH [⟨e25 a1, 0, false⟩])]) (fi := 42) (args := [w3 g15c0]) (v := .int .u64 x0_1) (by kernel_rfl) (by kernel_rfl) (by kernel_rfl) (g42_ok k g15c0 x0_1 hx0_1) (by kernel_rfl) (oDr 2 4 ((14, .i a1.f0) :: (13, .ptr 0 7 0) :: E2) (opsD_call (l' := (opsAt g15p6).toList.drop 5) (eE := ((15, .bool x0_4) :: (14, .i a1.f0) :: (13, .ptr 0 7 0) :: E2)) (hs := [(mkH [⟨e25 a1, 0, false⟩])]) (fi := 41) (args := [.int .u64 x0_1, .i a1.f0]) (v := .bool x0_4) (by kernel_rfl) (by kernel_rfl) (by kernel_rfl) (g41_ok k x0_1 a1.f0 x0_4 hx0_4) (by kernel_rfl) (oDr 1 6 ((4, .bool x0_4) :: (15, .bool x0_4) :: (14, .i a1.f0) :: (13, .ptr 0 7 0) :: E2) .nil))))) ?_
   exact oQ 1
  ·exact oQ 7
 ·refine oS 6 (fun hb => ?_) (fun hb => ?_)
  ·refine oLH 2 g15p4 [(3, .ptr 0 7 0), (6, .bool true)] (mkH [⟨e25 a1, 0, false⟩]) ?_
   exact hj1 true
  ·refine oLH 6 g15p8 [(3, .ptr 0 7 0), (5, .str a0), (6, .bool (eqL a0 [58, 58]))] (mkH [⟨e25 a1, 0, false⟩]) ?_
   refine oS 6 (fun hb => ?_) (fun hb => ?_)
   ·refine oL 2 g15p4 [(3, .ptr 0 7 0), (6, .bool true)] ?_
    exact hj1 true
   ·refine oR 6 g15p11 ((6, .bool (eqL a0 [61, 62])) :: (9, .bool (eqL a0 [61, 62])) :: (6, .bool false) :: [(3, .ptr 0 7 0), (5, .str a0), (6, .bool (eqL a0 [58, 58]))]) ?_
    refine oS 6 (fun hb => ?_) (fun hb => ?_)
    ·refine oL 2 g15p4 [(3, .ptr 0 7 0), (6, .bool true)] ?_
     exact hj1 true
    ·refine oL 5 g15p4 [(3, .ptr 0 7 0), (6, .bool (eqL a0 [58, 61]))] ?_
     exact hj1 (eqL a0 [58, 61])
end
end Go.Proofs.Ytbmijiibfaacmaa.Am
set_option maxRecDepth 100000
set_option linter.unusedVariables false
namespace Go.Proofs.Ytbmijiibfaacmaa.Am
noncomputable section
open Go
def Xg17 : Fx Bool := ⟨Try.prog, cx, Try.f17, fun r => .bool r, 0, fun _ => H0, cxTi, cxOrd, fun _ => none, false⟩
def g17c0 : List Int := [(2 : Int), (3 : Int), (8 : Int), (9 : Int), (10 : Int), (11 : Int), (12 : Int)]
def g17p0 : Pt := nav [0] (bodyAt Try.f17)
def g17p1 : Pt := nav [0, 0, 0, 0] g17p0
def g17p2 : Pt := nav [0, 0] g17p1
def g17p3 : Pt := nav [1, 0] g17p2
def g17p4 : Pt := nav [2, 0, 0] g17p2
def g17 (k : Nat) (a0 : S24) : Option Bool :=
 if (decide (a0.f0 = 1)) then (if (eqL a0.f1 []) then (some true) else ((nthS a0.f1 0).bind fun x0_6 => if (!decide (x0_6 = 36)) then ((nthS a0.f1 0).bind fun x0_11 => if (!decide (x0_11 = 34)) then ((nthS a0.f1 0).bind fun x0_17 => if (decide (x0_17 < 48)) then (some true) else ((nthS a0.f1 0).bind fun x0_22 => some (decide (57 < x0_22)))) else (some false)) else (some false))) else ((g42 k g17c0).bind fun x1_1 => (g41 k x1_1 a0.f0).bind fun x1_4 => some x1_4)
theorem g17_ok (k : Nat) (a0 : S24) (r : Bool) (h : g17 k a0 = some r) : PureOk Try.prog 17 [.agg [.i a0.f0, .str a0.f1, q25 a0.f2, .bool a0.f3, .bool a0.f4, w9 a0.f5, w9 a0.f6]] (.bool r) := by
 refine pure_of Xg17 (fun _ => ⟨rfl, rfl⟩) Try.func17 (by decide +kernel) (by kernel_rfl) (t := g17 k a0) ?_ h
 unfold g17
 refine oE (eE := [(0, .agg [.i a0.f0, .str a0.f1, q25 a0.f2, .bool a0.f3, .bool a0.f4, w9 a0.f5, w9 a0.f6])]) (by kernel_rfl) ?_
 let E1 : Env := [(5, .bool (decide (a0.f0 = 1))), (4, .i a0.f0), (3, .ptr 0 7 0), (2, .bool false), (1, .ptr 0 7 0), (0, n25 a0)]
 refine oH 12 g17p2 E1 (mkH [⟨e25 a0, 0, false⟩]) ?_
 refine oS 5 (fun hb => ?_) (fun hb => ?_)
 ·let E2 : Env := ((9, .bool (eqL a0.f1 [])) :: (8, .bool (eqL a0.f1 [])) :: (7, .str a0.f1) :: (6, .ptr 0 7 1) :: (5, .bool true) :: E1)
  refine oR 7 (atN 4 (ctl1 g17p3)) E2 ?_
  refine oS 9 (fun hb => ?_) (fun hb => ?_)
  ·exact oQ 26
  ·refine oR 2 (atN 6 (ctl1 g17p3)) ((11, .str a0.f1) :: (10, .ptr 0 7 1) :: (9, .bool false) :: E2) ?_
   refine oC (fun (x0_6 : Int) => (.y x0_6, (mkH [⟨e25 a0, 0, false⟩]))) (atN 7 (ctl1 g17p3)) 12 (idxH (by kernel_rfl)) fun x0_6 hx0_6 => ?_
   let E4 : Env := ((14, .bool (!decide (x0_6 = 36))) :: (13, .bool (!decide (x0_6 = 36))) :: (12, .y x0_6) :: (11, .str a0.f1) :: (10, .ptr 0 7 1) :: (9, .bool false) :: E2)
   refine oH 2 (atN 9 (ctl1 g17p3)) E4 (mkH [⟨e25 a0, 0, false⟩]) ?_
   refine oS 14 (fun hb => ?_) (fun hb => ?_)
   ·refine oR 2 (atN 11 (ctl1 g17p3)) ((16, .str a0.f1) :: (15, .ptr 0 7 1) :: (14, .bool true) :: E4) ?_
    refine oC (fun (x0_11 : Int) => (.y x0_11, (mkH [⟨e25 a0, 0, false⟩]))) (atN 12 (ctl1 g17p3)) 17 (idxH (by kernel_rfl)) fun x0_11 hx0_11 => ?_
    let E5 : Env := ((20, .bool (!decide (x0_11 = 34))) :: (19, .bool (!decide (x0_11 = 34))) :: (18, .bool (!decide (x0_11 = 34))) :: (17, .y x0_11) :: (16, .str a0.f1) :: (15, .ptr 0 7 1) :: (14, .bool true) :: E4)
    refine oH 3 (atN 15 (ctl1 g17p3)) E5 (mkH [⟨e25 a0, 0, false⟩]) ?_
    refine oS 20 (fun hb => ?_) (fun hb => ?_)
    ·refine oR 2 (atN 17 (ctl1 g17p3)) ((22, .str a0.f1) :: (21, .ptr 0 7 1) :: (20, .bool true) :: E5) ?_
     refine oC (fun (x0_17 : Int) => (.y x0_17, (mkH [⟨e25 a0, 0, false⟩]))) (atN 18 (ctl1 g17p3)) 23 (idxH (by kernel_rfl)) fun x0_17 hx0_17 => ?_
     let E6 : Env := ((25, .bool (decide (x0_17 < 48))) :: (24, .bool (decide (x0_17 < 48))) :: (23, .y x0_17) :: (22, .str a0.f1) :: (21, .ptr 0 7 1) :: (20, .bool true) :: E5)
     refine oH 2 (atN 20 (ctl1 g17p3)) E6 (mkH [⟨e25 a0, 0, false⟩]) ?_
     refine oS 25 (fun hb => ?_) (fun hb => ?_)
     ·exact oQ 10
     ·refine oR 2 (atN 22 (ctl1 g17p3)) ((27, .str a0.f1) :: (26, .ptr 0 7 1) :: (25, .bool false) :: E6) ?_
      refine oC (fun (x0_22 : Int) => (.y x0_22, (mkH [⟨e25 a0, 0, false⟩]))) (atN 23 (ctl1 g17p3)) 28 (idxH (by kernel_rfl)) fun x0_22 hx0_22 => ?_
      exact oQ 7
    ·exact oQ 15
   ·exact oQ 21
 ·refine oR 3 g17p4 ((5, .bool false) :: E1) ?_
  refine ok_bind (fun x1_1 hx1_1 => ?_)
  refine ok_bind (fun x1_4 hx1_4 => ?_)
  let E11 : Env := [(33, w3 g17c0), (5, .bool false), (5, .bool (decide (a0.f0 = 1))), (4, .i a0.f0), (3, .ptr 0 7 0), (2, .bool false), (1, .ptr 0 7 0), (0, n25 a0)]
  let E12 : Env := ((2, .bool x1_4) :: (37, .bool x1_4) :: (36, .i a0.f0) :: (35, .ptr 0 7 0) :: (34, .int .u64 x1_1) :: E11)
  refine oD (H' := (mkH [⟨e25 a0, 0, false⟩])) (nav [0] g17p4) E12 [(mkH [⟨e25 a0, 0, false⟩]), (mkH [⟨e25 a0, 0, false⟩])] ⟨[33], [(0, 0, 0), (1, 0, 0), (0, 0, 0), (4, 0, 1), (15, 0, 0), (31, 0, 0)], 6, thrown, [], H0⟩ (oDr 1 1 E11 (opsD_call (l' := (opsAt g17p4).toList.drop 2) (eE := ((34, .int .u64 x1_1) :: E11)) (hs := [(mkH [⟨e25 a0, 0, false⟩])]) (fi := 42) (args := [w3 g17c0]) (v := .int .u64 x1_1) (by kernel_rfl) (by kernel_rfl) (by kernel_rfl) (g42_ok k g17c0 x1_1 hx1_1) (by kernel_rfl) (oDr 2 4 ((36, .i a0.f0) :: (35, .ptr 0 7 0) :: (34, .int .u64 x1_1) :: E11) (opsD_call (l' := (opsAt g17p4).toList.drop 5) (eE := ((37, .bool x1_4) :: (36, .i a0.f0) :: (35, .ptr 0 7 0) :: (34, .int .u64 x1_1) :: E11)) (hs := [(mkH [⟨e25 a0, 0, false⟩])]) (fi := 41) (args := [.int .u64 x1_1, .i a0.f0]) (v := .bool x1_4) (by kernel_rfl) (by kernel_rfl) (by kernel_rfl) (g41_ok k x1_1 a0.f0 x1_4 hx1_4) (by kernel_rfl) (oDr 1 6 E12 .nil))))) ?_
  exact oQ 1
end
end Go.Proofs.Ytbmijiibfaacmaa.Am
set_option maxRecDepth 100000
set_option linter.unusedVariables false
namespace Go.Proofs.Ytbmijiibfaacmaa.Am
noncomputable section
open Go
def Xg55 : Fx (List (List (List Nat))) := ⟨Try.prog, cx, Try.f55, fun r => .agg ((r).map v23), 0, fun _ => H0, cxTi, cxOrd, fun _ => none, false⟩
def g55c0 : List (List Nat) := [([61] : List Nat), ([33] : List Nat)]
def g55c1 : List Nat := [111, 114, 101, 108, 115, 101]
def g55c2 : List Nat := [97, 110, 100, 97, 108, 115, 111]
def g55c3 : List (List Nat) := [([61, 61] : List Nat), ([47, 61] : List Nat), ([61, 60] : List Nat), ([60] : List Nat), ([62, 61] : List Nat), ([62] : List Nat), ([61, 58, 61] : List Nat), ([61, 47, 61] : List Nat)]
def g55c4 : List (List Nat) := [([43, 43] : List Nat), ([45, 45] : List Nat)]
def g55c5 : List (List Nat) := [([43] : List Nat), ([45] : List Nat), ([98, 111, 114] : List Nat), ([98, 120, 111, 114] : List Nat), ([98, 115, 108] : List Nat), ([98, 115, 114] : List Nat), ([111, 114] : List Nat), ([120, 111, 114] : List Nat)]
def g55c6 : List (List Nat) := [([42] : List Nat), ([47] : List Nat), ([100, 105, 118] : List Nat), ([114, 101, 109] : List Nat), ([98, 97, 110, 100] : List Nat), ([97, 110, 100] : List Nat)]
def g55c7 : List (List (List Nat)) := [([([58, 58] : List Nat)] : List (List Nat)), ([([124] : List Nat)] : List (List Nat)), g55c0, ([g55c1] : List (List Nat)), ([g55c2] : List (List Nat)), g55c3, g55c4, g55c5, g55c6]
def g55p0 : Pt := nav [0] (bodyAt Try.f55)
def g55p1 : Pt := nav [0, 0, 0] g55p0
def g55 (k : Nat)  : Option (List (List (List Nat))) :=
 some g55c7
theorem g55_ok (k : Nat)  (r : (List (List (List Nat)))) (h : g55 k  = some r) : PureOk Try.prog 55 [] (.agg ((r).map v23)) := by
 refine pure_of Xg55 (fun _ => ⟨rfl, rfl⟩) Try.func55 (by decide +kernel) (by kernel_rfl) (t := g55 k ) ?_ h
 unfold g55
 refine oE (eE := []) (by kernel_rfl) ?_
 let Q1 : Blk := ⟨[.nils, .nils, .nils, .nils, .nils, .nils, .nils, .nils, .nils], 0, false⟩
 refine oH 7 (atN 1 (ctl1 g55p1)) [(1, .slice 1 1 0 1 1), (0, .ptr 0 9 0)] (mkH [Q1, ⟨[.str [58, 58]], 0, false⟩]) ?_
 refine oZ 1 1 1 1 [.str [58, 58]] [0] [] trivial ?_
 refine oH 1 (atN 2 (ctl1 g55p1)) [(2, .slice 2 1 0 1 1), (1, w9 ([([58, 58] : List Nat)] : List (List Nat))), (0, .ptr 0 9 0)] (mkH [Q1, ⟨[], 0, false⟩, ⟨[.str [124]], 0, false⟩]) ?_
 refine oZ 2 2 1 1 [.str [124]] [0, 1] [] trivial ?_
 refine oH 1 (atN 3 (ctl1 g55p1)) [(3, .slice 3 2 0 2 1), (2, w9 ([([124] : List Nat)] : List (List Nat))), (0, .ptr 0 9 0), (1, w9 ([([58, 58] : List Nat)] : List (List Nat)))] (mkH [Q1, ⟨[], 0, false⟩, ⟨[], 0, false⟩, ⟨[.str [61], .str [33]], 0, false⟩]) ?_
 refine oZ 3 3 2 1 [.str [61], .str [33]] [0, 1, 2] [] trivial ?_
 refine oH 1 (atN 4 (ctl1 g55p1)) [(4, .slice 4 1 0 1 1), (3, w9 g55c0), (0, .ptr 0 9 0), (1, w9 ([([58, 58] : List Nat)] : List (List Nat))), (2, w9 ([([124] : List Nat)] : List (List Nat)))] (mkH [Q1, ⟨[], 0, false⟩, ⟨[], 0, false⟩, ⟨[], 0, false⟩, ⟨[.str g55c1], 0, false⟩]) ?_
 refine oZ 4 4 1 1 [.str g55c1] [0, 1, 2, 3] [] trivial ?_
 refine oH 1 (atN 5 (ctl1 g55p1)) [(5, .slice 5 1 0 1 1), (4, w9 ([g55c1] : List (List Nat))), (0, .ptr 0 9 0), (1, w9 ([([58, 58] : List Nat)] : List (List Nat))), (2, w9 ([([124] : List Nat)] : List (List Nat))), (3, w9 g55c0)] (mkH [Q1, ⟨[], 0, false⟩, ⟨[], 0, false⟩, ⟨[], 0, false⟩, ⟨[], 0, false⟩, ⟨[.str g55c2], 0, false⟩]) ?_
 refine oZ 5 5 1 1 [.str g55c2] [0, 1, 2, 3, 4] [] trivial ?_
 refine oH 1 (atN 6 (ctl1 g55p1)) [(6, .slice 6 8 0 8 1), (5, w9 ([g55c2] : List (List Nat))), (0, .ptr 0 9 0), (1, w9 ([([58, 58] : List Nat)] : List (List Nat))), (2, w9 ([([124] : List Nat)] : List (List Nat))), (3, w9 g55c0), (4, w9 ([g55c1] : List (List Nat)))] (mkH [Q1, ⟨[], 0, false⟩, ⟨[], 0, false⟩, ⟨[], 0, false⟩, ⟨[], 0, false⟩, ⟨[], 0, false⟩, ⟨[.str [61, 61], .str [47, 61], .str [61, 60], .str [60], .str [62, 61], .str [62], .str [61, 58, 61], .str [61, 47, 61]], 0, false⟩]) ?_
 refine oZ 6 6 8 1 [.str [61, 61], .str [47, 61], .str [61, 60], .str [60], .str [62, 61], .str [62], .str [61, 58, 61], .str [61, 47, 61]] [0, 1, 2, 3, 4, 5] [] trivial ?_
 refine oH 1 (atN 7 (ctl1 g55p1)) [(7, .slice 7 2 0 2 1), (6, w9 g55c3), (0, .ptr 0 9 0), (1, w9 ([([58, 58] : List Nat)] : List (List Nat))), (2, w9 ([([124] : List Nat)] : List (List Nat))), (3, w9 g55c0), (4, w9 ([g55c1] : List (List Nat))), (5, w9 ([g55c2] : List (List Nat)))] (mkH [Q1, ⟨[], 0, false⟩, ⟨[], 0, false⟩, ⟨[], 0, false⟩, ⟨[], 0, false⟩, ⟨[], 0, false⟩, ⟨[], 0, false⟩, ⟨[.str [43, 43], .str [45, 45]], 0, false⟩]) ?_
 refine oZ 7 7 2 1 [.str [43, 43], .str [45, 45]] [0, 1, 2, 3, 4, 5, 6] [] trivial ?_
 refine oH 1 (atN 8 (ctl1 g55p1)) [(8, .slice 8 8 0 8 1), (7, w9 g55c4), (0, .ptr 0 9 0), (1, w9 ([([58, 58] : List Nat)] : List (List Nat))), (2, w9 ([([124] : List Nat)] : List (List Nat))), (3, w9 g55c0), (4, w9 ([g55c1] : List (List Nat))), (5, w9 ([g55c2] : List (List Nat))), (6, w9 g55c3)] (mkH [Q1, ⟨[], 0, false⟩, ⟨[], 0, false⟩, ⟨[], 0, false⟩, ⟨[], 0, false⟩, ⟨[], 0, false⟩, ⟨[], 0, false⟩, ⟨[], 0, false⟩, ⟨[.str [43], .str [45], .str [98, 111, 114], .str [98, 120, 111, 114], .str [98, 115, 108], .str [98, 115, 114], .str [111, 114], .str [120, 111, 114]], 0, false⟩]) ?_
 refine oZ 8 8 8 1 [.str [43], .str [45], .str [98, 111, 114], .str [98, 120, 111, 114], .str [98, 115, 108], .str [98, 115, 114], .str [111, 114], .str [120, 111, 114]] [0, 1, 2, 3, 4, 5, 6, 7] [] trivial ?_
 refine oH 1 (atN 9 (ctl1 g55p1)) [(9, .slice 9 6 0 6 1), (8, w9 g55c5), (0, .ptr 0 9 0), (1, w9 ([([58, 58] : List Nat)] : List (List Nat))), (2, w9 ([([124] : List Nat)] : List (List Nat))), (3, w9 g55c0), (4, w9 ([g55c1] : List (List Nat))), (5, w9 ([g55c2] : List (List Nat))), (6, w9 g55c3), (7, w9 g55c4)] (mkH [Q1, ⟨[], 0, false⟩, ⟨[], 0, false⟩, ⟨[], 0, false⟩, ⟨[], 0, false⟩, ⟨[], 0, false⟩, ⟨[], 0, false⟩, ⟨[], 0, false⟩, ⟨[], 0, false⟩, ⟨[.str [42], .str [47], .str [100, 105, 118], .str [114, 101, 109], .str [98, 97, 110, 100], .str [97, 110, 100]], 0, false⟩]) ?_
 refine oZ 9 9 6 1 [.str [42], .str [47], .str [100, 105, 118], .str [114, 101, 109], .str [98, 97, 110, 100], .str [97, 110, 100]] [0, 1, 2, 3, 4, 5, 6, 7, 8] [] trivial ?_
 exact oQ 4
end
end Go.Proofs.Ytbmijiibfaacmaa.Am
set_option maxRecDepth 100000
set_option linter.unusedVariables false
namespace Go.Proofs.Ytbmijiibfaacmaa.Am
noncomputable section
open Go
def Xg43 : Fx Int := ⟨Try.prog, cx, Try.f43, fun r => .i r, 0, fun _ => H0, cxTi, cxOrd, fun _ => none, false⟩
def g43p0 : Pt := nav [0] (bodyAt Try.f43)
def g43p1 : Pt := nav [0, 0, 0, 0] g43p0
def g43p2 : Pt := nav [0, 0, 0, 0] g43p1
def g43p3 : Pt := nav [0, 0] g43p2
def g43p4 : Pt := nav [0, 0, 0] g43p3
def g43p5 : Pt := nav [1, 0, 0, 0, 0] g43p4
def g43p7 : Pt := nav [0, 0, 0] g43p5
def g43p9 : Pt := nav [0, 0, 0, 0] g43p7
def g43p10 : Pt := nav [0, 0] g43p9
def g43p11 : Pt := nav [0, 0, 0] g43p10
def g43p12 : Pt := nav [1, 0, 0, 0, 0] g43p11
def g43p13 : Pt := nav [2, 0] g43p11
def g43p14 : Pt := nav [0, 0, 0] g43p12
def g43p15 : Pt := nav [0, 0] g43p14
def g43_l4B (k : Nat) (c3 : Int → Option Int) (a0 : (List Nat)) (x0_0 : (List (List (List Nat)))) (y3_0 : Int) (x1_1 : (List (List Nat))) (ih : Int → Int → Int → Option Int) : Int → Int → Int → Option Int :=
 fun (y4_0 : Int) (y4_1 : Int) (y4_2 : Int) => jn (fun (z5 : Int) => c3 (fW .i64 (z5 + 1))) (fun j5 => if (decide (y4_0 < (x1_1.length : Int))) then ((nthL x1_1 y4_0).bind fun x2_0 => if (eqL x2_0 a0) then (some (fW .i64 (y4_1 + 1))) else (ih (fW .i64 (y4_0 + 1)) y4_1 y4_2)) else (j5 y4_2))
def g43_l4 (k : Nat) (c3 : Int → Option Int) (a0 : (List Nat)) (x0_0 : (List (List (List Nat)))) (y3_0 : Int) (x1_1 : (List (List Nat))) (n : Nat) : Int → Int → Int → Option Int := lp (fun _ _ _ => none) (g43_l4B k c3 a0 x0_0 y3_0 x1_1) n
theorem g43_l4_ok (k : Nat)  (c3 : Int → Option Int) (a0 : (List Nat)) (x0_0 : (List (List (List Nat)))) (y3_0 : Int) (x1_1 : (List (List Nat))) (hc3 : ∀ (y3_0 : Int), Ok Xg43 g43p2 [(0, .str a0), (7, .agg ((x0_0).map v23)), (8, .i y3_0)] (mkH []) (c3 y3_0)) : ∀ (n : Nat) (y4_0 : Int) (y4_1 : Int) (y4_2 : Int), Ok Xg43 g43p9 [(0, .str a0), (3, .i y4_1), (7, .agg ((x0_0).map v23)), (8, .i y4_2), (12, w9 x1_1), (13, .i (x1_1.length : Int)), (14, .i y4_0)] (mkH []) (g43_l4 k c3 a0 x0_0 y3_0 x1_1 n y4_0 y4_1 y4_2) := by
 intro n
 induction n with
 | zero => intro y4_0 y4_1 y4_2; exact ok_none
 | succ n ih =>
  intro y4_0 y4_1 y4_2
  show Ok _ _ _ _ (g43_l4B k c3 a0 x0_0 y3_0 x1_1 (g43_l4 k c3 a0 x0_0 y3_0 x1_1 n) y4_0 y4_1 y4_2)
  unfold g43_l4B
  refine ok_ent (p' := nav [0] g43p9) (by kernel_rfl) ?_
  let E3 : Env := [(15, .bool (decide (y4_0 < (x1_1.length : Int)))), (0, .str a0), (3, .i y4_1), (7, .agg ((x0_0).map v23)), (8, .i y4_2), (12, w9 x1_1), (13, .i (x1_1.length : Int)), (14, .i y4_0)]
  refine oH 5 g43p11 E3 (mkH []) ?_
  refine oJ g43p13 (fun (z5 : Int) => [(0, .str a0), (7, .agg ((x0_0).map v23)), (8, .i z5)]) (fun (z5 : Int) => (mkH [])) (fun z5 => ?_) (fun j5 hj5 => ?_)
  ·refine oLH 4 g43p2 [(0, .str a0), (7, .agg ((x0_0).map v23)), (8, .i (fW .i64 (z5 + 1)))] (mkH []) ?_
   exact hc3 (fW .i64 (z5 + 1))
  ·refine oS 15 (fun hb => ?_) (fun hb => ?_)
   ·refine oH 6 (atN 0 (ctl1 g43p12)) ((15, .bool true) :: E3) (mkH []) ?_
    refine oC (fun (x2_0 : (List Nat)) => (.vptr [.str x2_0], (mkH []))) (atN 1 (ctl1 g43p12)) 16 (vidxH (sz := 1) e9_len (by kernel_rfl)) fun x2_0 hx2_0 => ?_
    let E7 : Env := [(0, .str a0), (3, .i y4_1), (7, .agg ((x0_0).map v23)), (8, .i y4_2), (12, w9 x1_1), (13, .i (x1_1.length : Int)), (14, .i y4_0), (20, .bool (eqL x2_0 a0))]
    refine oLH 9 g43p15 E7 (mkH []) ?_
    refine oS 20 (fun hb => ?_) (fun hb => ?_)
    ·exact oQ 8
    ·refine oR 6 g43p9 ((14, .i (fW .i64 (y4_0 + 1))) :: (23, .i (fW .i64 (y4_0 + 1))) :: (20, .bool false) :: E7) ?_
     refine oK [0, 3, 7, 8, 12, 13, 14] [(0, .str a0), (3, .i y4_1), (7, .agg ((x0_0).map v23)), (8, .i y4_2), (12, w9 x1_1), (13, .i (x1_1.length : Int)), (14, .i (fW .i64 (y4_0 + 1)))] ?_
     exact ih (fW .i64 (y4_0 + 1)) y4_1 y4_2
   ·refine oLH 2 g43p13 [(0, .str a0), (7, .agg ((x0_0).map v23)), (8, .i y4_2)] (mkH []) ?_
    exact hj5 y4_2
def g43_l3B (k : Nat)  (a0 : (List Nat)) (x0_0 : (List (List (List Nat)))) (ih : Int → Option Int) : Int → Option Int :=
 fun (y3_0 : Int) => if (decide (y3_0 < 9)) then ((nthA x0_0 9 y3_0).bind fun x1_1 => g43_l4 k ih a0 x0_0 y3_0 x1_1 k 0 y3_0 y3_0) else (some (0 : Int))
def g43_l3 (k : Nat)  (a0 : (List Nat)) (x0_0 : (List (List (List Nat)))) (n : Nat) : Int → Option Int := lp (fun _ => none) (g43_l3B k a0 x0_0) n
theorem g43_l3_ok (k : Nat)   (a0 : (List Nat)) (x0_0 : (List (List (List Nat))))  : ∀ (n : Nat) (y3_0 : Int), Ok Xg43 g43p2 [(0, .str a0), (7, .agg ((x0_0).map v23)), (8, .i y3_0)] (mkH []) (g43_l3 k a0 x0_0 n y3_0) := by
 intro n
 induction n with
 | zero => intro y3_0; exact ok_none
 | succ n ih =>
  intro y3_0
  show Ok _ _ _ _ (g43_l3B k a0 x0_0 (g43_l3 k a0 x0_0 n) y3_0)
  unfold g43_l3B
  refine ok_ent (p' := nav [0] g43p2) (by kernel_rfl) ?_
  refine oH 5 g43p4 [(9, .bool (decide (y3_0 < 9))), (0, .str a0), (7, .agg ((x0_0).map v23)), (8, .i y3_0)] (mkH []) ?_
  refine oS 9 (fun hb => ?_) (fun hb => ?_)
  ·refine oR 7 (atN 1 (ctl1 g43p5)) [(10, .i y3_0), (9, .bool true), (9, .bool (decide (y3_0 < 9))), (0, .str a0), (7, .agg ((x0_0).map v23)), (8, .i y3_0)] ?_
   refine oC (fun (x1_1 : (List (List Nat))) => (w9 x1_1, (mkH []))) (atN 2 (ctl1 g43p5)) 11 (aidxH v23 x0_0 (by kernel_rfl)) fun x1_1 hx1_1 => ?_
   refine oLH 11 g43p9 [(0, .str a0), (3, .i y3_0), (7, .agg ((x0_0).map v23)), (8, .i y3_0), (12, w9 x1_1), (13, .i (x1_1.length : Int)), (14, .i 0)] (mkH []) ?_
   exact (g43_l4_ok k (g43_l3 k a0 x0_0 n) a0 x0_0 y3_0 x1_1 ih k) 0 y3_0 y3_0
  ·exact oQ 7
def g43 (k : Nat) (a0 : (List Nat)) : Option Int :=
 (g55 k).bind fun x0_0 => g43_l3 k a0 x0_0 k 0
theorem g43_ok (k : Nat) (a0 : (List Nat)) (r : Int) (h : g43 k a0 = some r) : PureOk Try.prog 43 [.str a0] (.i r) := by
 refine pure_of Xg43 (fun _ => ⟨rfl, rfl⟩) Try.func43 (by decide +kernel) (by kernel_rfl) (t := g43 k a0) ?_ h
 unfold g43
 refine oE (eE := [(0, .str a0)]) (by kernel_rfl) ?_
 refine oH 7 (atN 0 (ctl1 g43p1)) [(2, .i 0), (0, .str a0)] (mkH []) ?_
 refine oAp (fun (x0_0 : (List (List (List Nat)))) => .agg ((x0_0).map v23)) (atN 1 (ctl1 g43p1)) 7 [] (fun _ => arr_pur (fun _ => rfl) _) (g55_ok k ) fun x0_0 hx0_0 => ?_
 refine oL 4 g43p2 [(0, .str a0), (7, .agg ((x0_0).map v23)), (8, .i 0)] ?_
 exact (g43_l3_ok k a0 x0_0 k) 0
end
end Go.Proofs.Ytbmijiibfaacmaa.Am
set_option maxRecDepth 100000
set_option linter.unusedVariables false
namespace Go.Proofs.Ytbmijiibfaacmaa.Am
noncomputable section
open Go
def Xg19 : Fx Int := ⟨Try.prog, cx, Try.f19, fun r => .i r, 0, fun _ => H0, cxTi, cxOrd, fun _ => none, false⟩
def g19p0 : Pt := nav [0] (bodyAt Try.f19)
def g19p1 : Pt := nav [0, 0, 0, 0] g19p0
def g19p2 : Pt := nav [0, 0, 0, 0] g19p1
def g19p3 : Pt := nav [0, 0] g19p2
def g19p4 : Pt := nav [1, 0, 0] g19p3
def g19p5 : Pt := nav [2, 0] g19p3
def g19p6 : Pt := nav [0, 0] g19p4
def g19p7 : Pt := nav [0, 0] g19p5
def g19p10 : Pt := nav [1, 0] g19p7
def g19 (k : Nat) (a0 : S24) : Option Int :=
 if (decide (a0.f0 = 13)) then (if (eqL a0.f1 [99, 97, 116, 99, 104]) then (some (0 : Int)) else (some (10 : Int))) else (if (decide (a0.f0 = 14)) then ((g43 k a0.f1).bind fun x0_2 => some x0_2) else (some (11 : Int)))
theorem g19_ok (k : Nat) (a0 : S24) (r : Int) (h : g19 k a0 = some r) : PureOk Try.prog 19 [.agg [.i a0.f0, .str a0.f1, q25 a0.f2, .bool a0.f3, .bool a0.f4, w9 a0.f5, w9 a0.f6]] (.i r) := by
 refine pure_of Xg19 (fun _ => ⟨rfl, rfl⟩) Try.func19 (by decide +kernel) (by kernel_rfl) (t := g19 k a0) ?_ h
 unfold g19
 refine oE (eE := [(0, .agg [.i a0.f0, .str a0.f1, q25 a0.f2, .bool a0.f3, .bool a0.f4, w9 a0.f5, w9 a0.f6])]) (by kernel_rfl) ?_
 refine oH 17 g19p3 [(5, .bool (decide (a0.f0 = 13))), (6, .bool (decide (a0.f0 = 13))), (4, .i a0.f0), (3, .ptr 0 7 0), (2, .i 0), (1, .ptr 0 7 0), (0, n25 a0)] (mkH [⟨e25 a0, 0, false⟩]) ?_
 refine oS 5 (fun hb => ?_) (fun hb => ?_)
 ·refine oL 8 g19p6 [(9, .bool (eqL a0.f1 [99, 97, 116, 99, 104]))] ?_
  refine oS 9 (fun hb => ?_) (fun hb => ?_)
  ·exact oQ 6
  ·exact oQ 7
 ·refine oL 6 g19p7 [(1, .ptr 0 7 0), (10, .bool (decide (a0.f0 = 14)))] ?_
  refine oS 10 (fun hb => ?_) (fun hb => ?_)
  ·refine oR 5 (atN 2 (ctl1 g19p10)) ((13, .str a0.f1) :: (12, .ptr 0 7 1) :: (10, .bool true) :: [(1, .ptr 0 7 0), (10, .bool (decide (a0.f0 = 14)))]) ?_
   refine oA (fun (x0_2 : Int) => .i x0_2) (atN 3 (ctl1 g19p10)) 14 [.str a0.f1] (g43_ok k a0.f1) fun x0_2 hx0_2 => ?_
   exact oQ 3
  ·exact oQ 7
end
end Go.Proofs.Ytbmijiibfaacmaa.Am
set_option maxRecDepth 100000
set_option linter.unusedVariables false
namespace Go.Proofs.Ytbmijiibfaacmaa.Am
noncomputable section
open Go
def Xg21 : Fx Bool := ⟨Try.prog, cx, Try.f21, fun r => .bool r, 0, fun _ => H0, cxTi, cxOrd, fun _ => none, false⟩
def g21p0 : Pt := nav [0] (bodyAt Try.f21)
def g21p1 : Pt := nav [0, 0, 0] g21p0
def g21 (k : Nat) (a0 : S24) (a1 : Int) : Option Bool :=
 (g19 k (⟨a0.f0, a0.f1, a0.f2, a0.f3, a0.f4, a0.f5, a0.f6⟩ : S24)).bind fun x0_1 => some (decide (x0_1 < a1))
theorem g21_ok (k : Nat) (a0 : S24) (a1 : Int) (r : Bool) (h : g21 k a0 a1 = some r) : PureOk Try.prog 21 [.agg [.i a0.f0, .str a0.f1, q25 a0.f2, .bool a0.f3, .bool a0.f4, w9 a0.f5, w9 a0.f6], .i a1] (.bool r) := by
 refine pure_of Xg21 (fun _ => ⟨rfl, rfl⟩) Try.func21 (by decide +kernel) (by kernel_rfl) (t := g21 k a0 a1) ?_ h
 unfold g21
 refine oE (eE := [(0, .agg [.i a0.f0, .str a0.f1, q25 a0.f2, .bool a0.f3, .bool a0.f4, w9 a0.f5, w9 a0.f6]), (1, .i a1)]) (by kernel_rfl) ?_
 refine oH 8 (atN 1 (ctl1 g21p1)) [(5, n25 a0), (4, .bool false), (2, .ptr 0 7 0), (0, n25 a0), (1, .i a1)] (mkH [⟨e25 a0, 0, false⟩]) ?_
 refine oA (fun (x0_1 : Int) => .i x0_1) (atN 2 (ctl1 g21p1)) 6 [n25 a0] (g19_ok k a0) fun x0_1 hx0_1 => ?_
 exact oQ 5
end
end Go.Proofs.Ytbmijiibfaacmaa.Am
set_option maxRecDepth 100000
set_option linter.unusedVariables false
namespace Go.Proofs.Ytbmijiibfaacmaa.Am
noncomputable section
open Go
def Xg14 : Fx Bool := ⟨Try.prog, cx, Try.f14, fun r => .bool r, 0, fun _ => H0, cxTi, cxOrd, fun _ => none, false⟩
def g14c0 : List S24 := [(⟨(1 : Int), ([97] : List Nat), ⟨(([] : List S24)).length, (([] : List S24)).flatMap e25⟩, false, false, ([] : List (List Nat)), ([] : List (List Nat))⟩ : S24), (⟨(1 : Int), ([97] : List Nat), ⟨(([] : List S24)).length, (([] : List S24)).flatMap e25⟩, false, false, ([] : List (List Nat)), ([] : List (List Nat))⟩ : S24)]
def g14p0 : Pt := nav [0] (bodyAt Try.f14)
def g14p1 : Pt := nav [0, 0, 0] g14p0
def g14p2 : Pt := nav [0, 0, 0] g14p1
def g14p3 : Pt := nav [0, 0, 0] g14p2
def g14 (k : Nat)  : Option Bool :=
 (g19 k (⟨(14 : Int), ([43] : List Nat), ⟨(g14c0).length, (g14c0).flatMap e25⟩, false, false, ([] : List (List Nat)), ([] : List (List Nat))⟩ : S24)).bind fun x0_1 => if (decide (x0_1 = 8)) then ((g21 k (⟨(14 : Int), ([43] : List Nat), ⟨(g14c0).length, (g14c0).flatMap e25⟩, false, false, ([] : List (List Nat)), ([] : List (List Nat))⟩ : S24) (9 : Int)).bind fun x0_5 => if x0_5 then ((g21 k (⟨(14 : Int), ([43] : List Nat), ⟨(g14c0).length, (g14c0).flatMap e25⟩, false, false, ([] : List (List Nat)), ([] : List (List Nat))⟩ : S24) (8 : Int)).bind fun x0_9 => if (!x0_9) then ((g19 k (⟨(13 : Int), ([99, 97, 116, 99, 104] : List Nat), ⟨0, []⟩, false, false, ([] : List (List Nat)), ([] : List (List Nat))⟩ : S24)).bind fun x0_14 => if (decide (x0_14 = 0)) then ((g17 k (⟨(1 : Int), ([97] : List Nat), ⟨0, []⟩, false, false, ([] : List (List Nat)), ([] : List (List Nat))⟩ : S24)).bind fun x0_19 => if x0_19 then ((g17 k (⟨(1 : Int), ([49] : List Nat), ⟨0, []⟩, false, false, ([] : List (List Nat)), ([] : List (List Nat))⟩ : S24)).bind fun x0_23 => if (!x0_23) then ((g15 k ([61] : List Nat) (⟨(4 : Int), ([] : List Nat), ⟨0, []⟩, false, false, ([] : List (List Nat)), ([] : List (List Nat))⟩ : S24)).bind fun x0_28 => if x0_28 then ((g15 k ([43] : List Nat) (⟨(4 : Int), ([] : List Nat), ⟨0, []⟩, false, false, ([] : List (List Nat)), ([] : List (List Nat))⟩ : S24)).bind fun x0_32 => some (!x0_32)) else (some false)) else (some false)) else (some false)) else (some false)) else (some false)) else (some false)) else (some false)
theorem g14_ok (k : Nat)  (r : Bool) (h : g14 k  = some r) : PureOk Try.prog 14 [] (.bool r) := by
 refine pure_of Xg14 (fun _ => ⟨rfl, rfl⟩) Try.func14 (by decide +kernel) (by kernel_rfl) (t := g14 k ) ?_ h
 unfold g14
 refine oE (eE := []) (by kernel_rfl) ?_
 let Q1 : Blk := ⟨[.i 1, .str [97], .nils, .bool false, .bool false, .nils, .nils], 7, false⟩
 let Q2 : Blk := ⟨[.i 1, .str [97], .nils, .bool false, .bool false, .nils, .nils, .i 1, .str [97], .nils, .bool false, .bool false, .nils, .nils], 0, false⟩
 refine oH 15 (atN 3 (ctl1 g14p2)) [(6, .slice 1 14 0 2 7), (5, .agg [.i 1, .str [97], .nils, .bool false, .bool false, .nils, .nils]), (4, .agg [.i 1, .str [97], .nils, .bool false, .bool false, .nils, .nils]), (1, .ptr 0 7 0), (3, .agg [.i 1, .str [97], .nils, .bool false, .bool false, .nils, .nils]), (0, .bool false)] (mkH [Q1, Q2]) ?_
 refine ok_wkH [Q1, Q2] 1 0 [.i 1, .str [97], .nils, .bool false, .bool false, .nils, .nils, .i 1, .str [97], .nils, .bool false, .bool false, .nils, .nils] [.i 1, .str [97], w25 ([] : List S24), .bool false, .bool false, w9 ([] : List (List Nat)), w9 ([] : List (List Nat)), .i 1, .str [97], w25 ([] : List S24), .bool false, .bool false, w9 ([] : List (List Nat)), w9 ([] : List (List Nat))] (by kernel_rfl) rfl (.cons (.cons (.nil (.cons (.cons (.nil (.nil (.cons (.cons (.nil (.cons (.cons (.nil (.nil (.refl))))))))))))))) ?_
 refine oHp (mkH [Q1, ⟨[.i 1, .str [97], w25 ([] : List S24), .bool false, .bool false, w9 ([] : List (List Nat)), w9 ([] : List (List Nat)), .i 1, .str [97], w25 ([] : List S24), .bool false, .bool false, w9 ([] : List (List Nat)), w9 ([] : List (List Nat))], 0, false⟩]) ?_
 refine oZ 6 1 2 7 [.i 1, .str [97], w25 ([] : List S24), .bool false, .bool false, w9 ([] : List (List Nat)), w9 ([] : List (List Nat)), .i 1, .str [97], w25 ([] : List S24), .bool false, .bool false, w9 ([] : List (List Nat)), w9 ([] : List (List Nat))] [0, 1, 3, 4, 5] [] trivial ?_
 let E2 : Env := [(8, .agg [.i 14, .str [43], w25 g14c0, .bool false, .bool false, .nils, .nils]), (2, .ptr 2 7 0), (7, .agg [.i 14, .str [43], w25 g14c0, .bool false, .bool false, .nils, .nils]), (6, w25 g14c0), (0, .bool false), (1, .ptr 0 7 0), (3, .agg [.i 1, .str [97], .nils, .bool false, .bool false, .nils, .nils]), (4, .agg [.i 1, .str [97], .nils, .bool false, .bool false, .nils, .nils]), (5, .agg [.i 1, .str [97], .nils, .bool false, .bool false, .nils, .nils])]
 let Q3 : Blk := ⟨[.i 14, .str [43], w25 g14c0, .bool false, .bool false, .nils, .nils], 7, false⟩
 refine oH 7 (atN 1 (ctl1 g14p3)) E2 (mkH [Q1, ⟨[], 0, false⟩, Q3]) ?_
 refine ok_callV (fun (x0_1 : Int) => .i x0_1) (atN 2 (ctl1 g14p3)) (fun x0_1 => ((9, .i x0_1) :: E2)) (fi := 19) (args := [.agg [.i 14, .str [43], w25 g14c0, .bool false, .bool false, .nils, .nils]]) (by kernel_rfl) (fun r h => dry_call (xs' := [.agg [.i 14, .str [43], w25 g14c0, .bool false, .bool false, .vec 0 1 [], .vec 0 1 []]]) (g19_ok k (⟨(14 : Int), ([43] : List Nat), ⟨(g14c0).length, (g14c0).flatMap e25⟩, false, false, ([] : List (List Nat)), ([] : List (List Nat))⟩ : S24) r h) (.agg (.cons (by kernel_rfl) (.cons (by kernel_rfl) (.cons (by kernel_rfl) (.cons (by kernel_rfl) (.cons (by kernel_rfl) (.nil (.nil (.pures (by kernel_rfl))))))))) (.pures (by kernel_rfl))) (by kernel_rfl)) (fun _ => by kernel_rfl) (fun x0_1 hx0_1 => ?_)
 refine oH 2 (atN 4 (ctl1 g14p3)) ((11, .bool (decide (x0_1 = 8))) :: (10, .bool (decide (x0_1 = 8))) :: (9, .i x0_1) :: E2) (mkH [Q1, ⟨[], 0, false⟩, Q3]) ?_
 refine oS 11 (fun hb => ?_) (fun hb => ?_)
 ·let E3 : Env := ((12, .agg [.i 14, .str [43], w25 g14c0, .bool false, .bool false, .nils, .nils]) :: (11, .bool true) :: (11, .bool (decide (x0_1 = 8))) :: (10, .bool (decide (x0_1 = 8))) :: (9, .i x0_1) :: E2)
  refine oR 1 (atN 5 (ctl1 g14p3)) E3 ?_
  refine ok_callV (fun (x0_5 : Bool) => .bool x0_5) (atN 6 (ctl1 g14p3)) (fun x0_5 => ((13, .bool x0_5) :: E3)) (fi := 21) (args := [.agg [.i 14, .str [43], w25 g14c0, .bool false, .bool false, .nils, .nils], .i 9]) (by kernel_rfl) (fun r h => dry_call (xs' := [.agg [.i 14, .str [43], w25 g14c0, .bool false, .bool false, .vec 0 1 [], .vec 0 1 []], .i 9]) (g21_ok k (⟨(14 : Int), ([43] : List Nat), ⟨(g14c0).length, (g14c0).flatMap e25⟩, false, false, ([] : List (List Nat)), ([] : List (List Nat))⟩ : S24) (9 : Int) r h) (.agg (.cons (by kernel_rfl) (.cons (by kernel_rfl) (.cons (by kernel_rfl) (.cons (by kernel_rfl) (.cons (by kernel_rfl) (.nil (.nil (.pures (by kernel_rfl))))))))) (.pures (by kernel_rfl))) (by kernel_rfl)) (fun _ => by kernel_rfl) (fun x0_5 hx0_5 => ?_)
  refine oH 2 (atN 8 (ctl1 g14p3)) ((15, .bool x0_5) :: (14, .bool x0_5) :: (13, .bool x0_5) :: E3) (mkH [Q1, ⟨[], 0, false⟩, Q3]) ?_
  refine oS 15 (fun hb => ?_) (fun hb => ?_)
  ·let E4 : Env := ((16, .agg [.i 14, .str [43], w25 g14c0, .bool false, .bool false, .nils, .nils]) :: (15, .bool true) :: (15, .bool x0_5) :: (14, .bool x0_5) :: (13, .bool x0_5) :: E3)
   refine oR 1 (atN 9 (ctl1 g14p3)) E4 ?_
   refine ok_callV (fun (x0_9 : Bool) => .bool x0_9) (atN 10 (ctl1 g14p3)) (fun x0_9 => ((17, .bool x0_9) :: E4)) (fi := 21) (args := [.agg [.i 14, .str [43], w25 g14c0, .bool false, .bool false, .nils, .nils], .i 8]) (by kernel_rfl) (fun r h => dry_call (xs' := [.agg [.i 14, .str [43], w25 g14c0, .bool false, .bool false, .vec 0 1 [], .vec 0 1 []], .i 8]) (g21_ok k (⟨(14 : Int), ([43] : List Nat), ⟨(g14c0).length, (g14c0).flatMap e25⟩, false, false, ([] : List (List Nat)), ([] : List (List Nat))⟩ : S24) (8 : Int) r h) (.agg (.cons (by kernel_rfl) (.cons (by kernel_rfl) (.cons (by kernel_rfl) (.cons (by kernel_rfl) (.cons (by kernel_rfl) (.nil (.nil (.pures (by kernel_rfl))))))))) (.pures (by kernel_rfl))) (by kernel_rfl)) (fun _ => by kernel_rfl) (fun x0_9 hx0_9 => ?_)
   refine oH 3 (atN 13 (ctl1 g14p3)) ((20, .bool (!x0_9)) :: (19, .bool (!x0_9)) :: (18, .bool (!x0_9)) :: (17, .bool x0_9) :: E4) (mkH [Q1, ⟨[], 0, false⟩, Q3]) ?_
   refine oS 20 (fun hb => ?_) (fun hb => ?_)
   ·let E5 : Env := ((21, .agg [.i 13, .str [99, 97, 116, 99, 104], .nils, .bool false, .bool false, .nils, .nils]) :: (20, .bool true) :: (20, .bool (!x0_9)) :: (19, .bool (!x0_9)) :: (18, .bool (!x0_9)) :: (17, .bool x0_9) :: E4)
    refine oR 1 (atN 14 (ctl1 g14p3)) E5 ?_
    refine ok_callV (fun (x0_14 : Int) => .i x0_14) (atN 15 (ctl1 g14p3)) (fun x0_14 => ((22, .i x0_14) :: E5)) (fi := 19) (args := [.agg [.i 13, .str [99, 97, 116, 99, 104], .nils, .bool false, .bool false, .nils, .nils]]) (by kernel_rfl) (fun r h => dry_call (xs' := [.agg [.i 13, .str [99, 97, 116, 99, 104], .vec 0 7 [], .bool false, .bool false, .vec 0 1 [], .vec 0 1 []]]) (g19_ok k (⟨(13 : Int), ([99, 97, 116, 99, 104] : List Nat), ⟨0, []⟩, false, false, ([] : List (List Nat)), ([] : List (List Nat))⟩ : S24) r h) (.agg (.cons (by kernel_rfl) (.cons (by kernel_rfl) (.nil (.cons (by kernel_rfl) (.cons (by kernel_rfl) (.nil (.nil (.pures (by kernel_rfl))))))))) (.pures (by kernel_rfl))) (by kernel_rfl)) (fun _ => by kernel_rfl) (fun x0_14 hx0_14 => ?_)
    refine oH 3 (atN 18 (ctl1 g14p3)) ((25, .bool (decide (x0_14 = 0))) :: (24, .bool (decide (x0_14 = 0))) :: (23, .bool (decide (x0_14 = 0))) :: (22, .i x0_14) :: E5) (mkH [Q1, ⟨[], 0, false⟩, Q3]) ?_
    refine oS 25 (fun hb => ?_) (fun hb => ?_)
    ·let E6 : Env := ((26, .agg [.i 1, .str [97], .nils, .bool false, .bool false, .nils, .nils]) :: (25, .bool true) :: (25, .bool (decide (x0_14 = 0))) :: (24, .bool (decide (x0_14 = 0))) :: (23, .bool (decide (x0_14 = 0))) :: (22, .i x0_14) :: E5)
     refine oR 1 (atN 19 (ctl1 g14p3)) E6 ?_
     refine ok_callV (fun (x0_19 : Bool) => .bool x0_19) (atN 20 (ctl1 g14p3)) (fun x0_19 => ((27, .bool x0_19) :: E6)) (fi := 17) (args := [.agg [.i 1, .str [97], .nils, .bool false, .bool false, .nils, .nils]]) (by kernel_rfl) (fun r h => dry_call (xs' := [.agg [.i 1, .str [97], .vec 0 7 [], .bool false, .bool false, .vec 0 1 [], .vec 0 1 []]]) (g17_ok k (⟨(1 : Int), ([97] : List Nat), ⟨0, []⟩, false, false, ([] : List (List Nat)), ([] : List (List Nat))⟩ : S24) r h) (.agg (.cons (by kernel_rfl) (.cons (by kernel_rfl) (.nil (.cons (by kernel_rfl) (.cons (by kernel_rfl) (.nil (.nil (.pures (by kernel_rfl))))))))) (.pures (by kernel_rfl))) (by kernel_rfl)) (fun _ => by kernel_rfl) (fun x0_19 hx0_19 => ?_)
     refine oH 2 (atN 22 (ctl1 g14p3)) ((29, .bool x0_19) :: (28, .bool x0_19) :: (27, .bool x0_19) :: E6) (mkH [Q1, ⟨[], 0, false⟩, Q3]) ?_
     refine oS 29 (fun hb => ?_) (fun hb => ?_)
     ·let E7 : Env := ((30, .agg [.i 1, .str [49], .nils, .bool false, .bool false, .nils, .nils]) :: (29, .bool true) :: (29, .bool x0_19) :: (28, .bool x0_19) :: (27, .bool x0_19) :: E6)
      refine oR 1 (atN 23 (ctl1 g14p3)) E7 ?_
      refine ok_callV (fun (x0_23 : Bool) => .bool x0_23) (atN 24 (ctl1 g14p3)) (fun x0_23 => ((31, .bool x0_23) :: E7)) (fi := 17) (args := [.agg [.i 1, .str [49], .nils, .bool false, .bool false, .nils, .nils]]) (by kernel_rfl) (fun r h => dry_call (xs' := [.agg [.i 1, .str [49], .vec 0 7 [], .bool false, .bool false, .vec 0 1 [], .vec 0 1 []]]) (g17_ok k (⟨(1 : Int), ([49] : List Nat), ⟨0, []⟩, false, false, ([] : List (List Nat)), ([] : List (List Nat))⟩ : S24) r h) (.agg (.cons (by kernel_rfl) (.cons (by kernel_rfl) (.nil (.cons (by kernel_rfl) (.cons (by kernel_rfl) (.nil (.nil (.pures (by kernel_rfl))))))))) (.pures (by kernel_rfl))) (by kernel_rfl)) (fun _ => by kernel_rfl) (fun x0_23 hx0_23 => ?_)
      refine oH 3 (atN 27 (ctl1 g14p3)) ((34, .bool (!x0_23)) :: (33, .bool (!x0_23)) :: (32, .bool (!x0_23)) :: (31, .bool x0_23) :: E7) (mkH [Q1, ⟨[], 0, false⟩, Q3]) ?_
      refine oS 34 (fun hb => ?_) (fun hb => ?_)
      ·let E8 : Env := ((35, .agg [.i 4, .str [], .nils, .bool false, .bool false, .nils, .nils]) :: (34, .bool true) :: (34, .bool (!x0_23)) :: (33, .bool (!x0_23)) :: (32, .bool (!x0_23)) :: (31, .bool x0_23) :: E7)
       refine oR 1 (atN 28 (ctl1 g14p3)) E8 ?_
       refine ok_callV (fun (x0_28 : Bool) => .bool x0_28) (atN 29 (ctl1 g14p3)) (fun x0_28 => ((36, .bool x0_28) :: E8)) (fi := 15) (args := [.str [61], .agg [.i 4, .str [], .nils, .bool false, .bool false, .nils, .nils]]) (by kernel_rfl) (fun r h => dry_call (xs' := [.str [61], .agg [.i 4, .str [], .vec 0 7 [], .bool false, .bool false, .vec 0 1 [], .vec 0 1 []]]) (g15_ok k ([61] : List Nat) (⟨(4 : Int), ([] : List Nat), ⟨0, []⟩, false, false, ([] : List (List Nat)), ([] : List (List Nat))⟩ : S24) r h) (.cons (by kernel_rfl) (.agg (.cons (by kernel_rfl) (.cons (by kernel_rfl) (.nil (.cons (by kernel_rfl) (.cons (by kernel_rfl) (.nil (.nil (.pures (by kernel_rfl))))))))) (.pures (by kernel_rfl)))) (by kernel_rfl)) (fun _ => by kernel_rfl) (fun x0_28 hx0_28 => ?_)
       refine oH 2 (atN 31 (ctl1 g14p3)) ((38, .bool x0_28) :: (37, .bool x0_28) :: (36, .bool x0_28) :: E8) (mkH [Q1, ⟨[], 0, false⟩, Q3]) ?_
       refine oS 38 (fun hb => ?_) (fun hb => ?_)
       ·let E9 : Env := ((39, .agg [.i 4, .str [], .nils, .bool false, .bool false, .nils, .nils]) :: (38, .bool true) :: (38, .bool x0_28) :: (37, .bool x0_28) :: (36, .bool x0_28) :: E8)
        refine oR 1 (atN 32 (ctl1 g14p3)) E9 ?_
        refine ok_callV (fun (x0_32 : Bool) => .bool x0_32) (atN 33 (ctl1 g14p3)) (fun x0_32 => ((40, .bool x0_32) :: E9)) (fi := 15) (args := [.str [43], .agg [.i 4, .str [], .nils, .bool false, .bool false, .nils, .nils]]) (by kernel_rfl) (fun r h => dry_call (xs' := [.str [43], .agg [.i 4, .str [], .vec 0 7 [], .bool false, .bool false, .vec 0 1 [], .vec 0 1 []]]) (g15_ok k ([43] : List Nat) (⟨(4 : Int), ([] : List Nat), ⟨0, []⟩, false, false, ([] : List (List Nat)), ([] : List (List Nat))⟩ : S24) r h) (.cons (by kernel_rfl) (.agg (.cons (by kernel_rfl) (.cons (by kernel_rfl) (.nil (.cons (by kernel_rfl) (.cons (by kernel_rfl) (.nil (.nil (.pures (by kernel_rfl))))))))) (.pures (by kernel_rfl)))) (by kernel_rfl)) (fun _ => by kernel_rfl) (fun x0_32 hx0_32 => ?_)
        exact oQ 5
       ·exact oQ 7
      ·exact oQ 11
     ·exact oQ 16
    ·exact oQ 20
   ·exact oQ 25
  ·exact oQ 30
 ·exact oQ 34
end
end Go.Proofs.Ytbmijiibfaacmaa.Am
set_option maxRecDepth 100000
set_option linter.unusedVariables false
namespace Go.Proofs.Ytbmijiibfaacmaa.Am
noncomputable section
open Go
def Xg16 : Fx Bool := ⟨Try.prog, cx, Try.f16, fun r => .bool r, 0, fun _ => H0, cxTi, cxOrd, fun _ => none, false⟩
def g16p0 : Pt := nav [0] (bodyAt Try.f16)
def g16p1 : Pt := nav [0, 0, 0, 0] g16p0
def g16p2 : Pt := nav [0, 0] g16p1
def g16p4 : Pt := nav [2, 0, 0, 0] g16p2
def g16p6 : Pt := nav [0, 0, 0, 0, 0] g16p4
def g16p7 : Pt := nav [0, 0] g16p6
def g16p8 : Pt := nav [1, 0] g16p7
def g16p9 : Pt := nav [2, 0] g16p7
def g16p12 : Pt := nav [0, 0] g16p9
def g16p13 : Pt := nav [2, 0] g16p12
def g16p14 : Pt := nav [0, 0] g16p13
def g16p15 : Pt := nav [2, 0] g16p14
def g16p16 : Pt := nav [0, 0] g16p15
def g16p17 : Pt := nav [2, 0] g16p16
def g16p18 : Pt := nav [0, 0] g16p17
def g16p19 : Pt := nav [2, 0] g16p18
def g16p20 : Pt := nav [0, 0] g16p19
def g16p21 : Pt := nav [2, 0] g16p20
def g16p22 : Pt := nav [0, 0] g16p21
def g16p23 : Pt := nav [2, 0] g16p22
def g16p24 : Pt := nav [0, 0] g16p23
def g16p25 : Pt := nav [2, 0] g16p24
def g16p26 : Pt := nav [0, 0] g16p25
def g16p27 : Pt := nav [2, 0] g16p26
def g16p28 : Pt := nav [0, 0] g16p27
def g16p29 : Pt := nav [2, 0] g16p28
def g16p30 : Pt := nav [0, 0] g16p29
def g16p31 : Pt := nav [2, 0] g16p30
def g16p32 : Pt := nav [0, 0] g16p31
def g16p33 : Pt := nav [2, 0] g16p32
def g16p34 : Pt := nav [0, 0] g16p33
def g16 (k : Nat) (a0 : (List Nat)) (a1 : S24) : Option Bool :=
 jn (fun (z0 : Bool) => if z0 then (some false) else (jn (fun (z1 : Bool) => if z1 then (some true) else (some false)) (fun j1 => if (decide (a1.f0 = 2)) then (j1 true) else (if (decide (a1.f0 = 4)) then (j1 true) else (if (decide (a1.f0 = 5)) then (j1 true) else (if (decide (a1.f0 = 6)) then (j1 true) else (if (decide (a1.f0 = 8)) then (j1 true) else (if (decide (a1.f0 = 9)) then (j1 true) else (if (decide (a1.f0 = 10)) then (j1 true) else (if (decide (a1.f0 = 11)) then (j1 true) else (if (decide (a1.f0 = 15)) then (j1 true) else (if (decide (a1.f0 = 17)) then (j1 true) else (if (decide (a1.f0 = 18)) then (j1 true) else (if (decide (a1.f0 = 19)) then (j1 true) else (if (decide (a1.f0 = 20)) then (j1 true) else (j1 (decide (a1.f0 = 21)))))))))))))))))) (fun j0 => if (!(eqL a0 [61])) then (if (!(eqL a0 [58, 58])) then (if (!(eqL a0 [61, 62])) then (j0 (!(eqL a0 [58, 61]))) else (j0 false)) else (j0 false)) else (j0 false))
theorem g16_ok (k : Nat) (a0 : (List Nat)) (a1 : S24) (r : Bool) (h : g16 k a0 a1 = some r) : PureOk Try.prog 16 [.str a0, .agg [.i a1.f0, .str a1.f1, q25 a1.f2, .bool a1.f3, .bool a1.f4, w9 a1.f5, w9 a1.f6]] (.bool r) := by
 refine pure_of Xg16 (fun _ => ⟨rfl, rfl⟩) Try.func16 (by decide +kernel) (by kernel_rfl) (t := g16 k a0 a1) ?_ h
 unfold g16
 refine oE (eE := [(0, .str a0), (1, .agg [.i a1.f0, .str a1.f1, q25 a1.f2, .bool a1.f3, .bool a1.f4, w9 a1.f5, w9 a1.f6])]) (by kernel_rfl) ?_
 let E1 : Env := [(7, .bool (!(eqL a0 [61]))), (6, .bool (!(eqL a0 [61]))), (5, .str a0), (4, .bool false), (3, .ptr 0 7 0), (0, .str a0), (1, n25 a1)]
 refine oH 11 (atN 3 (ctl1 g16p1)) E1 (mkH [⟨e25 a1, 0, false⟩]) ?_
 refine oJ g16p2 (fun (z0 : Bool) => [(3, .ptr 0 7 0), (18, .bool z0)]) (fun (z0 : Bool) => (mkH [⟨e25 a1, 0, false⟩])) (fun z0 => ?_) (fun j0 hj0 => ?_)
 ·refine oS 18 (fun hb => ?_) (fun hb => ?_)
  ·exact oQ 6
  ·refine oH 15 g16p7 [(21, .bool (decide (a1.f0 = 2))), (22, .bool (decide (a1.f0 = 2))), (20, .i a1.f0), (19, .ptr 0 7 0), (18, .bool false), (3, .ptr 0 7 0), (18, .bool z0)] (mkH [⟨e25 a1, 0, false⟩]) ?_
   refine oJ g16p8 (fun (z1 : Bool) => [(21, .bool z1)]) (fun (z1 : Bool) => (mkH [])) (fun z1 => ?_) (fun j1 hj1 => ?_)
   ·refine oS 21 (fun hb => ?_) (fun hb => ?_)
    ·exact oQ 6
    ·exact oQ 7
   ·refine oS 21 (fun hb => ?_) (fun hb => ?_)
    ·refine oLH 2 g16p8 [(21, .bool true)] (mkH [⟨e25 a1, 0, false⟩]) ?_
     refine ok_cut [] [⟨e25 a1, 0, false⟩] (by kernel_rfl) rfl (by kernel_rfl) trivial ?_
     exact hj1 true
    ·refine oLH 6 g16p12 [(20, .i a1.f0), (21, .bool (decide (a1.f0 = 4)))] (mkH [⟨e25 a1, 0, false⟩]) ?_
     let E3 : Env := [(20, .i a1.f0), (21, .bool (decide (a1.f0 = 4)))]
     refine oS 21 (fun hb => ?_) (fun hb => ?_)
     ·refine oL 2 g16p8 [(21, .bool true)] ?_
      refine ok_cut [] [⟨e25 a1, 0, false⟩] (by kernel_rfl) rfl (by kernel_rfl) trivial ?_
      exact hj1 true
     ·refine oR 6 g16p14 ((21, .bool (decide (a1.f0 = 5))) :: (24, .bool (decide (a1.f0 = 5))) :: (21, .bool false) :: E3) ?_
      refine oS 21 (fun hb => ?_) (fun hb => ?_)
      ·refine oL 2 g16p8 [(21, .bool true)] ?_
       refine ok_cut [] [⟨e25 a1, 0, false⟩] (by kernel_rfl) rfl (by kernel_rfl) trivial ?_
       exact hj1 true
      ·refine oR 6 g16p16 ((21, .bool (decide (a1.f0 = 6))) :: (25, .bool (decide (a1.f0 = 6))) :: (21, .bool false) :: (21, .bool (decide (a1.f0 = 5))) :: (24, .bool (decide (a1.f0 = 5))) :: (21, .bool false) :: E3) ?_
       refine oS 21 (fun hb => ?_) (fun hb => ?_)
       ·refine oL 2 g16p8 [(21, .bool true)] ?_
        refine ok_cut [] [⟨e25 a1, 0, false⟩] (by kernel_rfl) rfl (by kernel_rfl) trivial ?_
        exact hj1 true
       ·refine oL 6 g16p18 [(20, .i a1.f0), (21, .bool (decide (a1.f0 = 8)))] ?_
        let E5 : Env := [(20, .i a1.f0), (21, .bool (decide (a1.f0 = 8)))]
        refine oS 21 (fun hb => ?_) (fun hb => ?_)
        ·refine oL 2 g16p8 [(21, .bool true)] ?_
         refine ok_cut [] [⟨e25 a1, 0, false⟩] (by kernel_rfl) rfl (by kernel_rfl) trivial ?_
         exact hj1 true
        ·refine oR 6 g16p20 ((21, .bool (decide (a1.f0 = 9))) :: (27, .bool (decide (a1.f0 = 9))) :: (21, .bool false) :: E5) ?_
         refine oS 21 (fun hb => ?_) (fun hb => ?_)
         ·refine oL 2 g16p8 [(21, .bool true)] ?_
          refine ok_cut [] [⟨e25 a1, 0, false⟩] (by kernel_rfl) rfl (by kernel_rfl) trivial ?_
          exact hj1 true
         ·refine oR 6 g16p22 ((21, .bool (decide (a1.f0 = 10))) :: (28, .bool (decide (a1.f0 = 10))) :: (21, .bool false) :: (21, .bool (decide (a1.f0 = 9))) :: (27, .bool (decide (a1.f0 = 9))) :: (21, .bool false) :: E5) ?_
          refine oS 21 (fun hb => ?_) (fun hb => ?_)
          ·refine oL 2 g16p8 [(21, .bool true)] ?_
           refine ok_cut [] [⟨e25 a1, 0, false⟩] (by kernel_rfl) rfl (by kernel_rfl) trivial ?_
           exact hj1 true
          ·refine oL 6 g16p24 [(20, .i a1.f0), (21, .bool (decide (a1.f0 = 11)))] ?_
           let E7 : Env := [(20, .i a1.f0), (21, .bool (decide (a1.f0 = 11)))]
           refine oS 21 (fun hb => ?_) (fun hb => ?_)
           ·refine oL 2 g16p8 [(21, .bool true)] ?_
            refine ok_cut [] [⟨e25 a1, 0, false⟩] (by kernel_rfl) rfl (by kernel_rfl) trivial ?_
            exact hj1 true
           ·refine oR 6 g16p26 ((21, .bool (decide (a1.f0 = 15))) :: (30, .bool (decide (a1.f0 = 15))) :: (21, .bool false) :: E7) ?_
            refine oS 21 (fun hb => ?_) (fun hb => ?_)
            ·refine oL 2 g16p8 [(21, .bool true)] ?_
             refine ok_cut [] [⟨e25 a1, 0, false⟩] (by kernel_rfl) rfl (by kernel_rfl) trivial ?_
             exact hj1 true
            ·refine oR 6 g16p28 ((21, .bool (decide (a1.f0 = 17))) :: (31, .bool (decide (a1.f0 = 17))) :: (21, .bool false) :: (21, .bool (decide (a1.f0 = 15))) :: (30, .bool (decide (a1.f0 = 15))) :: (21, .bool false) :: E7) ?_
             refine oS 21 (fun hb => ?_) (fun hb => ?_)
             ·refine oL 2 g16p8 [(21, .bool true)] ?_
              refine ok_cut [] [⟨e25 a1, 0, false⟩] (by kernel_rfl) rfl (by kernel_rfl) trivial ?_
              exact hj1 true
             ·refine oL 6 g16p30 [(20, .i a1.f0), (21, .bool (decide (a1.f0 = 18)))] ?_
              let E9 : Env := [(20, .i a1.f0), (21, .bool (decide (a1.f0 = 18)))]
              refine oS 21 (fun hb => ?_) (fun hb => ?_)
              ·refine oL 2 g16p8 [(21, .bool true)] ?_
               refine ok_cut [] [⟨e25 a1, 0, false⟩] (by kernel_rfl) rfl (by kernel_rfl) trivial ?_
               exact hj1 true
              ·refine oR 6 g16p32 ((21, .bool (decide (a1.f0 = 19))) :: (33, .bool (decide (a1.f0 = 19))) :: (21, .bool false) :: E9) ?_
               refine oS 21 (fun hb => ?_) (fun hb => ?_)
               ·refine oL 2 g16p8 [(21, .bool true)] ?_
                refine ok_cut [] [⟨e25 a1, 0, false⟩] (by kernel_rfl) rfl (by kernel_rfl) trivial ?_
                exact hj1 true
               ·refine oR 6 g16p34 ((21, .bool (decide (a1.f0 = 20))) :: (34, .bool (decide (a1.f0 = 20))) :: (21, .bool false) :: (21, .bool (decide (a1.f0 = 19))) :: (33, .bool (decide (a1.f0 = 19))) :: (21, .bool false) :: E9) ?_
                refine oS 21 (fun hb => ?_) (fun hb => ?_)
                ·refine oL 2 g16p8 [(21, .bool true)] ?_
                 refine ok_cut [] [⟨e25 a1, 0, false⟩] (by kernel_rfl) rfl (by kernel_rfl) trivial ?_
                 exact hj1 true
                ·refine oL 5 g16p8 [(21, .bool (decide (a1.f0 = 21)))] ?_
                 refine ok_cut [] [⟨e25 a1, 0, false⟩] (by kernel_rfl) rfl (by kernel_rfl) trivial ?_
                 exact hj1 (decide (a1.f0 = 21))
 ·refine oS 7 (fun hb => ?_) (fun hb => ?_)
  ·let E11 : Env := ((11, .bool (!(eqL a0 [58, 58]))) :: (10, .bool (!(eqL a0 [58, 58]))) :: (9, .bool (!(eqL a0 [58, 58]))) :: (8, .str a0) :: (7, .bool true) :: E1)
   refine oH 4 (atN 7 (ctl1 g16p1)) E11 (mkH [⟨e25 a1, 0, false⟩]) ?_
   refine oS 11 (fun hb => ?_) (fun hb => ?_)
   ·refine oR 4 (atN 11 (ctl1 g16p1)) ((15, .bool (!(eqL a0 [61, 62]))) :: (14, .bool (!(eqL a0 [61, 62]))) :: (13, .bool (!(eqL a0 [61, 62]))) :: (12, .str a0) :: (11, .bool true) :: E11) ?_
    refine oS 15 (fun hb => ?_) (fun hb => ?_)
    ·refine oL 4 g16p2 [(3, .ptr 0 7 0), (18, .bool (!(eqL a0 [58, 61])))] ?_
     exact hj0 (!(eqL a0 [58, 61]))
    ·refine oL 4 g16p2 [(3, .ptr 0 7 0), (18, .bool false)] ?_
     exact hj0 false
   ·refine oL 8 g16p2 [(3, .ptr 0 7 0), (18, .bool false)] ?_
    exact hj0 false
  ·refine oLH 12 g16p2 [(3, .ptr 0 7 0), (18, .bool false)] (mkH [⟨e25 a1, 0, false⟩]) ?_
   exact hj0 false
end
end Go.Proofs.Ytbmijiibfaacmaa.Am
set_option maxRecDepth 100000
set_option linter.unusedVariables false
namespace Go.Proofs.Ytbmijiibfaacmaa.Am
noncomputable section
open Go
def Xg18 : Fx Bool := ⟨Try.prog, cx, Try.f18, fun r => .bool r, 0, fun _ => H0, cxTi, cxOrd, fun _ => none, false⟩
def g18p0 : Pt := nav [0] (bodyAt Try.f18)
def g18p1 : Pt := nav [0, 0, 0, 0] g18p0
def g18p2 : Pt := nav [0, 0, 0, 0] g18p1
def g18p3 : Pt := nav [0, 0] g18p2
def g18p4 : Pt := nav [1, 0] g18p3
def g18p5 : Pt := nav [2, 0, 0] g18p3
def g18p7 : Pt := nav [0, 0] g18p5
def g18p8 : Pt := nav [1, 0] g18p7
def g18p9 : Pt := nav [2, 0] g18p7
def g18p12 : Pt := nav [0, 0] g18p9
def g18p13 : Pt := nav [2, 0] g18p12
def g18p14 : Pt := nav [0, 0] g18p13
def g18p15 : Pt := nav [2, 0] g18p14
def g18p16 : Pt := nav [0, 0] g18p15
def g18p17 : Pt := nav [2, 0] g18p16
def g18p18 : Pt := nav [0, 0] g18p17
def g18p19 : Pt := nav [2, 0] g18p18
def g18p20 : Pt := nav [0, 0] g18p19
def g18 (k : Nat) (a0 : S24) : Option Bool :=
 if (decide (a0.f0 = 1)) then (if (!(eqL a0.f1 [])) then ((nthS a0.f1 0).bind fun x0_6 => if (decide (48 ≤ x0_6)) then ((nthS a0.f1 0).bind fun x0_11 => if (!(decide (x0_11 ≤ 57))) then ((nthS a0.f1 0).bind fun x0_19 => if (!decide (x0_19 = 36)) then ((nthS a0.f1 0).bind fun x0_25 => some (!decide (x0_25 = 34))) else (some false)) else (some false)) else ((nthS a0.f1 0).bind fun x0_19 => if (!decide (x0_19 = 36)) then ((nthS a0.f1 0).bind fun x0_25 => some (!decide (x0_25 = 34))) else (some false))) else (some false)) else (jn (fun (z1 : Bool) => if z1 then (some true) else (some false)) (fun j1 => if (decide (a0.f0 = 2)) then (j1 true) else (if (decide (a0.f0 = 3)) then (j1 true) else (if (decide (a0.f0 = 8)) then (j1 true) else (if (decide (a0.f0 = 9)) then (j1 true) else (if (decide (a0.f0 = 10)) then (j1 true) else (if (decide (a0.f0 = 11)) then (j1 true) else (j1 (decide (a0.f0 = 12))))))))))
theorem g18_ok (k : Nat) (a0 : S24) (r : Bool) (h : g18 k a0 = some r) : PureOk Try.prog 18 [.agg [.i a0.f0, .str a0.f1, q25 a0.f2, .bool a0.f3, .bool a0.f4, w9 a0.f5, w9 a0.f6]] (.bool r) := by
 refine pure_of Xg18 (fun _ => ⟨rfl, rfl⟩) Try.func18 (by decide +kernel) (by kernel_rfl) (t := g18 k a0) ?_ h
 unfold g18
 refine oE (eE := [(0, .agg [.i a0.f0, .str a0.f1, q25 a0.f2, .bool a0.f3, .bool a0.f4, w9 a0.f5, w9 a0.f6])]) (by kernel_rfl) ?_
 let E1 : Env := [(5, .bool (decide (a0.f0 = 1))), (6, .bool (decide (a0.f0 = 1))), (4, .i a0.f0), (3, .ptr 0 7 0), (2, .bool false), (1, .ptr 0 7 0), (0, n25 a0)]
 refine oH 17 g18p3 E1 (mkH [⟨e25 a0, 0, false⟩]) ?_
 refine oS 5 (fun hb => ?_) (fun hb => ?_)
 ·let E2 : Env := ((10, .bool (!(eqL a0.f1 []))) :: (9, .bool (!(eqL a0.f1 []))) :: (8, .str a0.f1) :: (7, .ptr 0 7 1) :: (5, .bool true) :: E1)
  refine oR 7 (atN 4 (ctl1 g18p4)) E2 ?_
  refine oS 10 (fun hb => ?_) (fun hb => ?_)
  ·refine oR 2 (atN 6 (ctl1 g18p4)) ((12, .str a0.f1) :: (11, .ptr 0 7 1) :: (10, .bool true) :: E2) ?_
   refine oC (fun (x0_6 : Int) => (.y x0_6, (mkH [⟨e25 a0, 0, false⟩]))) (atN 7 (ctl1 g18p4)) 13 (idxH (by kernel_rfl)) fun x0_6 hx0_6 => ?_
   let E3 : Env := ((15, .bool (decide (48 ≤ x0_6))) :: (14, .bool (decide (48 ≤ x0_6))) :: (13, .y x0_6) :: (12, .str a0.f1) :: (11, .ptr 0 7 1) :: (10, .bool true) :: E2)
   refine oH 2 (atN 9 (ctl1 g18p4)) E3 (mkH [⟨e25 a0, 0, false⟩]) ?_
   refine oS 15 (fun hb => ?_) (fun hb => ?_)
   ·refine oR 2 (atN 11 (ctl1 g18p4)) ((17, .str a0.f1) :: (16, .ptr 0 7 1) :: (15, .bool true) :: E3) ?_
    refine oC (fun (x0_11 : Int) => (.y x0_11, (mkH [⟨e25 a0, 0, false⟩]))) (atN 12 (ctl1 g18p4)) 18 (idxH (by kernel_rfl)) fun x0_11 hx0_11 => ?_
    let E4 : Env := ((23, .bool (!(decide (x0_11 ≤ 57)))) :: (22, .bool (!(decide (x0_11 ≤ 57)))) :: (21, .bool (!(decide (x0_11 ≤ 57)))) :: (20, .bool (decide (x0_11 ≤ 57))) :: (19, .bool (decide (x0_11 ≤ 57))) :: (18, .y x0_11) :: (17, .str a0.f1) :: (16, .ptr 0 7 1) :: (15, .bool true) :: E3)
    refine oH 5 (atN 17 (ctl1 g18p4)) E4 (mkH [⟨e25 a0, 0, false⟩]) ?_
    refine oS 23 (fun hb => ?_) (fun hb => ?_)
    ·refine oR 2 (atN 19 (ctl1 g18p4)) ((25, .str a0.f1) :: (24, .ptr 0 7 1) :: (23, .bool true) :: E4) ?_
     refine oC (fun (x0_19 : Int) => (.y x0_19, (mkH [⟨e25 a0, 0, false⟩]))) (atN 20 (ctl1 g18p4)) 26 (idxH (by kernel_rfl)) fun x0_19 hx0_19 => ?_
     let E5 : Env := ((29, .bool (!decide (x0_19 = 36))) :: (28, .bool (!decide (x0_19 = 36))) :: (27, .bool (!decide (x0_19 = 36))) :: (26, .y x0_19) :: (25, .str a0.f1) :: (24, .ptr 0 7 1) :: (23, .bool true) :: E4)
     refine oH 3 (atN 23 (ctl1 g18p4)) E5 (mkH [⟨e25 a0, 0, false⟩]) ?_
     refine oS 29 (fun hb => ?_) (fun hb => ?_)
     ·refine oR 2 (atN 25 (ctl1 g18p4)) ((31, .str a0.f1) :: (30, .ptr 0 7 1) :: (29, .bool true) :: E5) ?_
      refine oC (fun (x0_25 : Int) => (.y x0_25, (mkH [⟨e25 a0, 0, false⟩]))) (atN 26 (ctl1 g18p4)) 32 (idxH (by kernel_rfl)) fun x0_25 hx0_25 => ?_
      exact oQ 5
     ·exact oQ 8
    ·exact oQ 14
   ·let E9 : Env := ((25, .str a0.f1) :: (24, .ptr 0 7 1) :: (23, .bool true) :: (22, .bool true) :: (21, .bool true) :: (20, .bool false) :: (19, .tuple []) :: (18, .tuple []) :: (17, .tuple []) :: (16, .tuple []) :: (15, .bool false) :: E3)
    refine oR 10 (atN 19 (ctl1 g18p4)) E9 ?_
    refine oC (fun (x0_19 : Int) => (.y x0_19, (mkH [⟨e25 a0, 0, false⟩]))) (atN 20 (ctl1 g18p4)) 26 (idxH (by kernel_rfl)) fun x0_19 hx0_19 => ?_
    refine oH 3 (atN 23 (ctl1 g18p4)) ((29, .bool (!decide (x0_19 = 36))) :: (28, .bool (!decide (x0_19 = 36))) :: (27, .bool (!decide (x0_19 = 36))) :: (26, .y x0_19) :: E9) (mkH [⟨e25 a0, 0, false⟩]) ?_
    refine oS 29 (fun hb => ?_) (fun hb => ?_)
    ·refine oR 2 (atN 25 (ctl1 g18p4)) ((31, .str a0.f1) :: (30, .ptr 0 7 1) :: (29, .bool true) :: (29, .bool (!decide (x0_19 = 36))) :: (28, .bool (!decide (x0_19 = 36))) :: (27, .bool (!decide (x0_19 = 36))) :: (26, .y x0_19) :: E9) ?_
     refine oC (fun (x0_25 : Int) => (.y x0_25, (mkH [⟨e25 a0, 0, false⟩]))) (atN 26 (ctl1 g18p4)) 32 (idxH (by kernel_rfl)) fun x0_25 hx0_25 => ?_
     exact oQ 5
    ·exact oQ 8
  ·exact oQ 27
 ·refine oL 7 g18p7 [(4, .i a0.f0), (35, .bool (decide (a0.f0 = 2)))] ?_
  let E13 : Env := [(4, .i a0.f0), (35, .bool (decide (a0.f0 = 2)))]
  refine oJ g18p8 (fun (z1 : Bool) => [(35, .bool z1)]) (fun (z1 : Bool) => (mkH [])) (fun z1 => ?_) (fun j1 hj1 => ?_)
  ·refine oS 35 (fun hb => ?_) (fun hb => ?_)
   ·exact oQ 6
   ·exact oQ 7
  ·refine oS 35 (fun hb => ?_) (fun hb => ?_)
   ·refine oLH 2 g18p8 [(35, .bool true)] (mkH [⟨e25 a0, 0, false⟩]) ?_
    refine ok_cut [] [⟨e25 a0, 0, false⟩] (by kernel_rfl) rfl (by kernel_rfl) trivial ?_
    exact hj1 true
   ·refine oH 6 g18p12 ((35, .bool (decide (a0.f0 = 3))) :: (37, .bool (decide (a0.f0 = 3))) :: (35, .bool false) :: E13) (mkH [⟨e25 a0, 0, false⟩]) ?_
    refine oS 35 (fun hb => ?_) (fun hb => ?_)
    ·refine oL 2 g18p8 [(35, .bool true)] ?_
     refine ok_cut [] [⟨e25 a0, 0, false⟩] (by kernel_rfl) rfl (by kernel_rfl) trivial ?_
     exact hj1 true
    ·refine oR 6 g18p14 ((35, .bool (decide (a0.f0 = 8))) :: (38, .bool (decide (a0.f0 = 8))) :: (35, .bool false) :: (35, .bool (decide (a0.f0 = 3))) :: (37, .bool (decide (a0.f0 = 3))) :: (35, .bool false) :: E13) ?_
     refine oS 35 (fun hb => ?_) (fun hb => ?_)
     ·refine oL 2 g18p8 [(35, .bool true)] ?_
      refine ok_cut [] [⟨e25 a0, 0, false⟩] (by kernel_rfl) rfl (by kernel_rfl) trivial ?_
      exact hj1 true
     ·refine oL 6 g18p16 [(4, .i a0.f0), (35, .bool (decide (a0.f0 = 9)))] ?_
      let E15 : Env := [(4, .i a0.f0), (35, .bool (decide (a0.f0 = 9)))]
      refine oS 35 (fun hb => ?_) (fun hb => ?_)
      ·refine oL 2 g18p8 [(35, .bool true)] ?_
       refine ok_cut [] [⟨e25 a0, 0, false⟩] (by kernel_rfl) rfl (by kernel_rfl) trivial ?_
       exact hj1 true
      ·refine oR 6 g18p18 ((35, .bool (decide (a0.f0 = 10))) :: (40, .bool (decide (a0.f0 = 10))) :: (35, .bool false) :: E15) ?_
       refine oS 35 (fun hb => ?_) (fun hb => ?_)
       ·refine oL 2 g18p8 [(35, .bool true)] ?_
        refine ok_cut [] [⟨e25 a0, 0, false⟩] (by kernel_rfl) rfl (by kernel_rfl) trivial ?_
        exact hj1 true
       ·refine oR 6 g18p20 ((35, .bool (decide (a0.f0 = 11))) :: (41, .bool (decide (a0.f0 = 11))) :: (35, .bool false) :: (35, .bool (decide (a0.f0 = 10))) :: (40, .bool (decide (a0.f0 = 10))) :: (35, .bool false) :: E15) ?_
        refine oS 35 (fun hb => ?_) (fun hb => ?_)
        ·refine oL 2 g18p8 [(35, .bool true)] ?_
         refine ok_cut [] [⟨e25 a0, 0, false⟩] (by kernel_rfl) rfl (by kernel_rfl) trivial ?_
         exact hj1 true
        ·refine oL 5 g18p8 [(35, .bool (decide (a0.f0 = 12)))] ?_
         refine ok_cut [] [⟨e25 a0, 0, false⟩] (by kernel_rfl) rfl (by kernel_rfl) trivial ?_
         exact hj1 (decide (a0.f0 = 12))
end
end Go.Proofs.Ytbmijiibfaacmaa.Am
set_option maxRecDepth 100000
set_option linter.unusedVariables false
namespace Go.Proofs.Ytbmijiibfaacmaa.Am
noncomputable section
open Go
def Xg23 : Fx Int := ⟨Try.prog, cx, Try.f23, fun r => .i r, 0, fun _ => H0, cxTi, cxOrd, fun _ => none, false⟩
def g23c0 : List (List Nat) := [([61] : List Nat), ([33] : List Nat)]
def g23c1 : List Nat := [111, 114, 101, 108, 115, 101]
def g23c2 : List Nat := [97, 110, 100, 97, 108, 115, 111]
def g23c3 : List (List Nat) := [([61, 61] : List Nat), ([47, 61] : List Nat), ([61, 60] : List Nat), ([60] : List Nat), ([62, 61] : List Nat), ([62] : List Nat), ([61, 58, 61] : List Nat), ([61, 47, 61] : List Nat)]
def g23c4 : List (List Nat) := [([43, 43] : List Nat), ([45, 45] : List Nat)]
def g23c5 : List (List Nat) := [([43] : List Nat), ([45] : List Nat), ([98, 111, 114] : List Nat), ([98, 120, 111, 114] : List Nat), ([98, 115, 108] : List Nat), ([98, 115, 114] : List Nat), ([111, 114] : List Nat), ([120, 111, 114] : List Nat)]
def g23c6 : List (List Nat) := [([42] : List Nat), ([47] : List Nat), ([100, 105, 118] : List Nat), ([114, 101, 109] : List Nat), ([98, 97, 110, 100] : List Nat), ([97, 110, 100] : List Nat)]
def g23c7 : List (List (List Nat)) := [([] : List (List Nat)), ([([58, 58] : List Nat)] : List (List Nat)), ([([124] : List Nat)] : List (List Nat)), g23c0, ([g23c1] : List (List Nat)), ([g23c2] : List (List Nat)), g23c3, g23c4, g23c5, g23c6]
def g23p0 : Pt := nav [0] (bodyAt Try.f23)
def g23p1 : Pt := nav [0, 0, 0] g23p0
def g23p2 : Pt := nav [0, 0, 0, 0] g23p1
def g23p3 : Pt := nav [0, 0, 0, 0] g23p2
def g23p4 : Pt := nav [0, 0, 0] g23p3
def g23p5 : Pt := nav [0, 0] g23p4
def g23p6 : Pt := nav [1, 0, 0, 0, 0] g23p5
def g23p8 : Pt := nav [0, 0, 0, 0] g23p6
def g23p10 : Pt := nav [0, 0, 0] g23p8
def g23p11 : Pt := nav [0, 0] g23p10
def g23p12 : Pt := nav [1, 0, 0, 0, 0] g23p11
def g23p13 : Pt := nav [2, 0] g23p11
def g23p14 : Pt := nav [0, 0] g23p12
def g23_l3B (k : Nat) (c2 : Int → Option Int) (a0 : (List Nat)) (y2_0 : Int) (ih : Int → Int → Option Int) : Int → Int → Option Int :=
 fun (y3_0 : Int) (y3_1 : Int) => (nthL g23c7 y3_1).bind fun x0_3 => jn (fun (z4 : Int) => c2 (fW .i64 (z4 + 1))) (fun j4 => if (decide (y3_0 < (x0_3.length : Int))) then ((nthL g23c7 y3_1).bind fun x1_2 => (nthL x1_2 y3_0).bind fun x1_5 => if (eqL x1_5 a0) then (some y3_1) else (ih (fW .i64 (y3_0 + 1)) y3_1)) else (j4 y3_1))
def g23_l3 (k : Nat) (c2 : Int → Option Int) (a0 : (List Nat)) (y2_0 : Int) (n : Nat) : Int → Int → Option Int := lp (fun _ _ => none) (g23_l3B k c2 a0 y2_0) n
theorem g23_l3_ok (k : Nat)  (c2 : Int → Option Int) (a0 : (List Nat)) (y2_0 : Int) (hc2 : ∀ (y2_0 : Int), Ok Xg23 g23p3 [(0, .str a0), (3, w23 g23c7), (4, .i y2_0)] (mkH []) (c2 y2_0)) : ∀ (n : Nat) (y3_0 : Int) (y3_1 : Int), Ok Xg23 g23p8 [(0, .str a0), (3, w23 g23c7), (4, .i y3_1), (5, .i y3_0)] (mkH []) (g23_l3 k c2 a0 y2_0 n y3_0 y3_1) := by
 intro n
 induction n with
 | zero => intro y3_0 y3_1; exact ok_none
 | succ n ih =>
  intro y3_0 y3_1
  show Ok _ _ _ _ (g23_l3B k c2 a0 y2_0 (g23_l3 k c2 a0 y2_0 n) y3_0 y3_1)
  unfold g23_l3B
  refine ok_ent (p' := nav [0] g23p8) (by kernel_rfl) ?_
  let E13 : Env := [(25, .i y3_1), (24, w23 g23c7), (23, .i y3_0), (0, .str a0), (3, w23 g23c7), (4, .i y3_1), (5, .i y3_0)]
  refine oH 6 (atN 3 (ctl1 g23p10)) E13 (mkH []) ?_
  refine oC (fun (x0_3 : (List (List Nat))) => (.vptr [w9 x0_3], (mkH []))) (atN 4 (ctl1 g23p10)) 26 (vidxH (sz := 1) e23_len (by kernel_rfl)) fun x0_3 hx0_3 => ?_
  refine oH 4 g23p11 ((29, .bool (decide (y3_0 < (x0_3.length : Int)))) :: (28, .i (x0_3.length : Int)) :: (27, w9 x0_3) :: (26, .vptr [w9 x0_3]) :: E13) (mkH []) ?_
  refine oJ g23p13 (fun (z4 : Int) => [(0, .str a0), (3, w23 g23c7), (4, .i z4)]) (fun (z4 : Int) => (mkH [])) (fun z4 => ?_) (fun j4 hj4 => ?_)
  ·refine oLH 5 g23p3 [(0, .str a0), (3, w23 g23c7), (4, .i (fW .i64 (z4 + 1)))] (mkH []) ?_
   exact hc2 (fW .i64 (z4 + 1))
  ·refine oS 29 (fun hb => ?_) (fun hb => ?_)
   ·let E16 : Env := ((33, .i y3_1) :: (32, w23 g23c7) :: (29, .bool true) :: (29, .bool (decide (y3_0 < (x0_3.length : Int)))) :: (28, .i (x0_3.length : Int)) :: (27, w9 x0_3) :: (26, .vptr [w9 x0_3]) :: E13)
    refine oH 8 (atN 2 (ctl1 g23p12)) E16 (mkH []) ?_
    refine oC (fun (x1_2 : (List (List Nat))) => (.vptr [w9 x1_2], (mkH []))) (atN 3 (ctl1 g23p12)) 34 (vidxH (sz := 1) e23_len (by kernel_rfl)) fun x1_2 hx1_2 => ?_
    refine oH 2 (atN 5 (ctl1 g23p12)) ((36, .i y3_0) :: (35, w9 x1_2) :: (34, .vptr [w9 x1_2]) :: E16) (mkH []) ?_
    refine oC (fun (x1_5 : (List Nat)) => (.vptr [.str x1_5], (mkH []))) (atN 6 (ctl1 g23p12)) 37 (vidxH (sz := 1) e9_len (by kernel_rfl)) fun x1_5 hx1_5 => ?_
    refine oLH 4 g23p14 [(0, .str a0), (3, w23 g23c7), (4, .i y3_1), (5, .i y3_0), (40, .bool (eqL x1_5 a0))] (mkH []) ?_
    refine oS 40 (fun hb => ?_) (fun hb => ?_)
    ·exact oQ 7
    ·refine oL 7 g23p8 [(0, .str a0), (3, w23 g23c7), (4, .i y3_1), (5, .i (fW .i64 (y3_0 + 1)))] ?_
     exact ih (fW .i64 (y3_0 + 1)) y3_1
   ·refine oLH 2 g23p13 [(0, .str a0), (3, w23 g23c7), (4, .i y3_1)] (mkH []) ?_
    exact hj4 y3_1
def g23_l2B (k : Nat)  (a0 : (List Nat)) (ih : Int → Option Int) : Int → Option Int :=
 fun (y2_0 : Int) => if (decide (y2_0 < (g23c7.length : Int))) then (g23_l3 k ih a0 y2_0 k 0 y2_0) else (some (0 : Int))
def g23_l2 (k : Nat)  (a0 : (List Nat)) (n : Nat) : Int → Option Int := lp (fun _ => none) (g23_l2B k a0) n
theorem g23_l2_ok (k : Nat)   (a0 : (List Nat))  : ∀ (n : Nat) (y2_0 : Int), Ok Xg23 g23p3 [(0, .str a0), (3, w23 g23c7), (4, .i y2_0)] (mkH []) (g23_l2 k a0 n y2_0) := by
 intro n
 induction n with
 | zero => intro y2_0; exact ok_none
 | succ n ih =>
  intro y2_0
  show Ok _ _ _ _ (g23_l2B k a0 (g23_l2 k a0 n) y2_0)
  unfold g23_l2B
  refine ok_ent (p' := nav [0] g23p3) (by kernel_rfl) ?_
  refine oH 8 g23p5 [(20, .bool (decide (y2_0 < (g23c7.length : Int)))), (19, .i (g23c7.length : Int)), (18, w23 g23c7), (17, .i y2_0), (0, .str a0), (3, w23 g23c7), (4, .i y2_0)] (mkH []) ?_
  refine oS 20 (fun hb => ?_) (fun hb => ?_)
  ·refine oL 10 g23p8 [(0, .str a0), (3, w23 g23c7), (4, .i y2_0), (5, .i 0)] ?_
   exact (g23_l3_ok k (g23_l2 k a0 n) a0 y2_0 ih k) 0 y2_0
  ·exact oQ 7
def g23 (k : Nat) (a0 : (List Nat)) : Option Int :=
 g23_l2 k a0 k 0
theorem g23_ok (k : Nat) (a0 : (List Nat)) (r : Int) (h : g23 k a0 = some r) : PureOk Try.prog 23 [.str a0] (.i r) := by
 refine pure_of Xg23 (fun _ => ⟨rfl, rfl⟩) Try.func23 (by decide +kernel) (by kernel_rfl) (t := g23 k a0) ?_ h
 unfold g23
 refine oE (eE := [(0, .str a0)]) (by kernel_rfl) ?_
 refine oH 7 (atN 1 (ctl1 g23p1)) [(6, .slice 0 0 0 0 1), (2, .i 0), (0, .str a0)] (mkH [⟨[], 0, false⟩]) ?_
 refine oZ 6 0 0 1 [] [0, 2] [] trivial ?_
 refine oH 1 (atN 2 (ctl1 g23p1)) [(7, .slice 1 1 0 1 1), (6, w9 ([] : List (List Nat))), (0, .str a0), (2, .i 0)] (mkH [⟨[], 0, false⟩, ⟨[.str [58, 58]], 0, false⟩]) ?_
 refine oZ 7 1 1 1 [.str [58, 58]] [0, 2, 6] [] trivial ?_
 refine oH 1 (atN 3 (ctl1 g23p1)) [(8, .slice 2 1 0 1 1), (7, w9 ([([58, 58] : List Nat)] : List (List Nat))), (0, .str a0), (2, .i 0), (6, w9 ([] : List (List Nat)))] (mkH [⟨[], 0, false⟩, ⟨[], 0, false⟩, ⟨[.str [124]], 0, false⟩]) ?_
 refine oZ 8 2 1 1 [.str [124]] [0, 2, 6, 7] [] trivial ?_
 refine oH 1 (atN 4 (ctl1 g23p1)) [(9, .slice 3 2 0 2 1), (8, w9 ([([124] : List Nat)] : List (List Nat))), (0, .str a0), (2, .i 0), (6, w9 ([] : List (List Nat))), (7, w9 ([([58, 58] : List Nat)] : List (List Nat)))] (mkH [⟨[], 0, false⟩, ⟨[], 0, false⟩, ⟨[], 0, false⟩, ⟨[.str [61], .str [33]], 0, false⟩]) ?_
 refine oZ 9 3 2 1 [.str [61], .str [33]] [0, 2, 6, 7, 8] [] trivial ?_
 refine oH 1 (atN 5 (ctl1 g23p1)) [(10, .slice 4 1 0 1 1), (9, w9 g23c0), (0, .str a0), (2, .i 0), (6, w9 ([] : List (List Nat))), (7, w9 ([([58, 58] : List Nat)] : List (List Nat))), (8, w9 ([([124] : List Nat)] : List (List Nat)))] (mkH [⟨[], 0, false⟩, ⟨[], 0, false⟩, ⟨[], 0, false⟩, ⟨[], 0, false⟩, ⟨[.str g23c1], 0, false⟩]) ?_
 refine oZ 10 4 1 1 [.str g23c1] [0, 2, 6, 7, 8, 9] [] trivial ?_
 refine oH 1 (atN 6 (ctl1 g23p1)) [(11, .slice 5 1 0 1 1), (10, w9 ([g23c1] : List (List Nat))), (0, .str a0), (2, .i 0), (6, w9 ([] : List (List Nat))), (7, w9 ([([58, 58] : List Nat)] : List (List Nat))), (8, w9 ([([124] : List Nat)] : List (List Nat))), (9, w9 g23c0)] (mkH [⟨[], 0, false⟩, ⟨[], 0, false⟩, ⟨[], 0, false⟩, ⟨[], 0, false⟩, ⟨[], 0, false⟩, ⟨[.str g23c2], 0, false⟩]) ?_
 refine oZ 11 5 1 1 [.str g23c2] [0, 2, 6, 7, 8, 9, 10] [] trivial ?_
 refine oH 1 (atN 7 (ctl1 g23p1)) [(12, .slice 6 8 0 8 1), (11, w9 ([g23c2] : List (List Nat))), (0, .str a0), (2, .i 0), (6, w9 ([] : List (List Nat))), (7, w9 ([([58, 58] : List Nat)] : List (List Nat))), (8, w9 ([([124] : List Nat)] : List (List Nat))), (9, w9 g23c0), (10, w9 ([g23c1] : List (List Nat)))] (mkH [⟨[], 0, false⟩, ⟨[], 0, false⟩, ⟨[], 0, false⟩, ⟨[], 0, false⟩, ⟨[], 0, false⟩, ⟨[], 0, false⟩, ⟨[.str [61, 61], .str [47, 61], .str [61, 60], .str [60], .str [62, 61], .str [62], .str [61, 58, 61], .str [61, 47, 61]], 0, false⟩]) ?_
 refine oZ 12 6 8 1 [.str [61, 61], .str [47, 61], .str [61, 60], .str [60], .str [62, 61], .str [62], .str [61, 58, 61], .str [61, 47, 61]] [0, 2, 6, 7, 8, 9, 10, 11] [] trivial ?_
 refine oH 1 (atN 8 (ctl1 g23p1)) [(13, .slice 7 2 0 2 1), (12, w9 g23c3), (0, .str a0), (2, .i 0), (6, w9 ([] : List (List Nat))), (7, w9 ([([58, 58] : List Nat)] : List (List Nat))), (8, w9 ([([124] : List Nat)] : List (List Nat))), (9, w9 g23c0), (10, w9 ([g23c1] : List (List Nat))), (11, w9 ([g23c2] : List (List Nat)))] (mkH [⟨[], 0, false⟩, ⟨[], 0, false⟩, ⟨[], 0, false⟩, ⟨[], 0, false⟩, ⟨[], 0, false⟩, ⟨[], 0, false⟩, ⟨[], 0, false⟩, ⟨[.str [43, 43], .str [45, 45]], 0, false⟩]) ?_
 refine oZ 13 7 2 1 [.str [43, 43], .str [45, 45]] [0, 2, 6, 7, 8, 9, 10, 11, 12] [] trivial ?_
 refine oH 1 (atN 9 (ctl1 g23p1)) [(14, .slice 8 8 0 8 1), (13, w9 g23c4), (0, .str a0), (2, .i 0), (6, w9 ([] : List (List Nat))), (7, w9 ([([58, 58] : List Nat)] : List (List Nat))), (8, w9 ([([124] : List Nat)] : List (List Nat))), (9, w9 g23c0), (10, w9 ([g23c1] : List (List Nat))), (11, w9 ([g23c2] : List (List Nat))), (12, w9 g23c3)] (mkH [⟨[], 0, false⟩, ⟨[], 0, false⟩, ⟨[], 0, false⟩, ⟨[], 0, false⟩, ⟨[], 0, false⟩, ⟨[], 0, false⟩, ⟨[], 0, false⟩, ⟨[], 0, false⟩, ⟨[.str [43], .str [45], .str [98, 111, 114], .str [98, 120, 111, 114], .str [98, 115, 108], .str [98, 115, 114], .str [111, 114], .str [120, 111, 114]], 0, false⟩]) ?_
 refine oZ 14 8 8 1 [.str [43], .str [45], .str [98, 111, 114], .str [98, 120, 111, 114], .str [98, 115, 108], .str [98, 115, 114], .str [111, 114], .str [120, 111, 114]] [0, 2, 6, 7, 8, 9, 10, 11, 12, 13] [] trivial ?_
 refine oH 1 (atN 10 (ctl1 g23p1)) [(15, .slice 9 6 0 6 1), (14, w9 g23c5), (0, .str a0), (2, .i 0), (6, w9 ([] : List (List Nat))), (7, w9 ([([58, 58] : List Nat)] : List (List Nat))), (8, w9 ([([124] : List Nat)] : List (List Nat))), (9, w9 g23c0), (10, w9 ([g23c1] : List (List Nat))), (11, w9 ([g23c2] : List (List Nat))), (12, w9 g23c3), (13, w9 g23c4)] (mkH [⟨[], 0, false⟩, ⟨[], 0, false⟩, ⟨[], 0, false⟩, ⟨[], 0, false⟩, ⟨[], 0, false⟩, ⟨[], 0, false⟩, ⟨[], 0, false⟩, ⟨[], 0, false⟩, ⟨[], 0, false⟩, ⟨[.str [42], .str [47], .str [100, 105, 118], .str [114, 101, 109], .str [98, 97, 110, 100], .str [97, 110, 100]], 0, false⟩]) ?_
 refine oZ 15 9 6 1 [.str [42], .str [47], .str [100, 105, 118], .str [114, 101, 109], .str [98, 97, 110, 100], .str [97, 110, 100]] [0, 2, 6, 7, 8, 9, 10, 11, 12, 13, 14] [] trivial ?_
 refine oH 1 (atN 11 (ctl1 g23p1)) [(16, .slice 10 10 0 10 1), (15, w9 g23c6), (0, .str a0), (2, .i 0), (6, w9 ([] : List (List Nat))), (7, w9 ([([58, 58] : List Nat)] : List (List Nat))), (8, w9 ([([124] : List Nat)] : List (List Nat))), (9, w9 g23c0), (10, w9 ([g23c1] : List (List Nat))), (11, w9 ([g23c2] : List (List Nat))), (12, w9 g23c3), (13, w9 g23c4), (14, w9 g23c5)] (mkH [⟨[], 0, false⟩, ⟨[], 0, false⟩, ⟨[], 0, false⟩, ⟨[], 0, false⟩, ⟨[], 0, false⟩, ⟨[], 0, false⟩, ⟨[], 0, false⟩, ⟨[], 0, false⟩, ⟨[], 0, false⟩, ⟨[], 0, false⟩, ⟨[w9 ([] : List (List Nat)), w9 ([([58, 58] : List Nat)] : List (List Nat)), w9 ([([124] : List Nat)] : List (List Nat)), w9 g23c0, w9 ([g23c1] : List (List Nat)), w9 ([g23c2] : List (List Nat)), w9 g23c3, w9 g23c4, w9 g23c5, w9 g23c6], 0, false⟩]) ?_
 refine oZ 16 10 10 1 [w9 ([] : List (List Nat)), w9 ([([58, 58] : List Nat)] : List (List Nat)), w9 ([([124] : List Nat)] : List (List Nat)), w9 g23c0, w9 ([g23c1] : List (List Nat)), w9 ([g23c2] : List (List Nat)), w9 g23c3, w9 g23c4, w9 g23c5, w9 g23c6] [0, 2, 6, 7, 8, 9, 10, 11, 12, 13, 14, 15] [] trivial ?_
 let K1 : List Blk := [⟨[], 0, false⟩, ⟨[], 0, false⟩, ⟨[], 0, false⟩, ⟨[], 0, false⟩, ⟨[], 0, false⟩, ⟨[], 0, false⟩, ⟨[], 0, false⟩, ⟨[], 0, false⟩, ⟨[], 0, false⟩, ⟨[], 0, false⟩, ⟨[], 0, false⟩]
 refine oLH 4 g23p2 [(0, .str a0), (3, w23 g23c7)] (mkH K1) ?_
 refine oL 5 g23p3 [(0, .str a0), (3, w23 g23c7), (4, .i 0)] ?_
 refine ok_cut [] K1 (by kernel_rfl) rfl (by kernel_rfl) trivial ?_
 exact (g23_l2_ok k a0 k) 0
end
end Go.Proofs.Ytbmijiibfaacmaa.Am
set_option maxRecDepth 100000
set_option linter.unusedVariables false
namespace Go.Proofs.Ytbmijiibfaacmaa.Am
noncomputable section
open Go
def Xg20 : Fx Int := ⟨Try.prog, cx, Try.f20, fun r => .i r, 0, fun _ => H0, cxTi, cxOrd, fun _ => none, false⟩
def g20p0 : Pt := nav [0] (bodyAt Try.f20)
def g20p1 : Pt := nav [0, 0, 0, 0, 0] g20p0
def g20p2 : Pt := nav [0, 0] g20p1
def g20p4 : Pt := nav [2, 0] g20p2
def g20p6 : Pt := nav [0, 0] g20p4
def g20p8 : Pt := nav [2, 0] g20p6
def g20p9 : Pt := nav [0, 0] g20p8
def g20p10 : Pt := nav [1, 0] g20p9
def g20 (k : Nat) (a0 : S24) : Option Int :=
 jn (fun (z1 : Bool) => if z1 then (some (0 : Int)) else (if (decide (a0.f0 = 13)) then (some (10 : Int)) else (if (decide (a0.f0 = 14)) then ((g23 k a0.f1).bind fun x0_2 => some x0_2) else (some (11 : Int))))) (fun j1 => if (decide (a0.f0 = 13)) then (j1 (eqL a0.f1 [99, 97, 116, 99, 104])) else (j1 false))
theorem g20_ok (k : Nat) (a0 : S24) (r : Int) (h : g20 k a0 = some r) : PureOk Try.prog 20 [.agg [.i a0.f0, .str a0.f1, q25 a0.f2, .bool a0.f3, .bool a0.f4, w9 a0.f5, w9 a0.f6]] (.i r) := by
 refine pure_of Xg20 (fun _ => ⟨rfl, rfl⟩) Try.func20 (by decide +kernel) (by kernel_rfl) (t := g20 k a0) ?_ h
 unfold g20
 refine oE (eE := [(0, .agg [.i a0.f0, .str a0.f1, q25 a0.f2, .bool a0.f3, .bool a0.f4, w9 a0.f5, w9 a0.f6])]) (by kernel_rfl) ?_
 refine oH 13 (atN 4 (ctl1 g20p1)) [(7, .bool (decide (a0.f0 = 13))), (6, .bool (decide (a0.f0 = 13))), (5, .i a0.f0), (4, .ptr 0 7 0), (2, .i 0), (1, .ptr 0 7 0), (0, n25 a0)] (mkH [⟨e25 a0, 0, false⟩]) ?_
 refine oJ g20p2 (fun (z1 : Bool) => [(1, .ptr 0 7 0), (3, .bool z1)]) (fun (z1 : Bool) => (mkH [⟨e25 a0, 0, false⟩])) (fun z1 => ?_) (fun j1 hj1 => ?_)
 ·refine oS 3 (fun hb => ?_) (fun hb => ?_)
  ·exact oQ 6
  ·refine oH 8 g20p6 [(12, .bool (decide (a0.f0 = 13))), (15, .bool (decide (a0.f0 = 13))), (14, .i a0.f0), (13, .ptr 0 7 0), (3, .bool false), (1, .ptr 0 7 0), (3, .bool z1)] (mkH [⟨e25 a0, 0, false⟩]) ?_
   refine oS 12 (fun hb => ?_) (fun hb => ?_)
   ·exact oQ 6
   ·let E4 : Env := [(1, .ptr 0 7 0), (16, .bool (decide (a0.f0 = 14)))]
    refine oL 8 g20p9 E4 ?_
    refine oS 16 (fun hb => ?_) (fun hb => ?_)
    ·refine oR 5 (atN 2 (ctl1 g20p10)) ((21, .str a0.f1) :: (20, .ptr 0 7 1) :: (16, .bool true) :: E4) ?_
     refine oA (fun (x0_2 : Int) => .i x0_2) (atN 3 (ctl1 g20p10)) 22 [.str a0.f1] (g23_ok k a0.f1) fun x0_2 hx0_2 => ?_
     exact oQ 3
    ·exact oQ 7
 ·refine oS 7 (fun hb => ?_) (fun hb => ?_)
  ·refine oLH 6 g20p2 [(1, .ptr 0 7 0), (3, .bool (eqL a0.f1 [99, 97, 116, 99, 104]))] (mkH [⟨e25 a0, 0, false⟩]) ?_
   exact hj1 (eqL a0.f1 [99, 97, 116, 99, 104])
  ·refine oLH 6 g20p2 [(1, .ptr 0 7 0), (3, .bool false)] (mkH [⟨e25 a0, 0, false⟩]) ?_
   exact hj1 false
end
end Go.Proofs.Ytbmijiibfaacmaa.Am
set_option maxRecDepth 100000
set_option linter.unusedVariables false
namespace Go.Proofs.Ytbmijiibfaacmaa.Am
noncomputable section
open Go
def Xg22 : Fx Bool := ⟨Try.prog, cx, Try.f22, fun r => .bool r, 0, fun _ => H0, cxTi, cxOrd, fun _ => none, false⟩
def g22p0 : Pt := nav [0] (bodyAt Try.f22)
def g22p1 : Pt := nav [0, 0, 0] g22p0
def g22 (k : Nat) (a0 : S24) (a1 : Int) : Option Bool :=
 (g20 k (⟨a0.f0, a0.f1, a0.f2, a0.f3, a0.f4, a0.f5, a0.f6⟩ : S24)).bind fun x0_1 => some (decide (x0_1 < a1))
theorem g22_ok (k : Nat) (a0 : S24) (a1 : Int) (r : Bool) (h : g22 k a0 a1 = some r) : PureOk Try.prog 22 [.agg [.i a0.f0, .str a0.f1, q25 a0.f2, .bool a0.f3, .bool a0.f4, w9 a0.f5, w9 a0.f6], .i a1] (.bool r) := by
 refine pure_of Xg22 (fun _ => ⟨rfl, rfl⟩) Try.func22 (by decide +kernel) (by kernel_rfl) (t := g22 k a0 a1) ?_ h
 unfold g22
 refine oE (eE := [(0, .agg [.i a0.f0, .str a0.f1, q25 a0.f2, .bool a0.f3, .bool a0.f4, w9 a0.f5, w9 a0.f6]), (1, .i a1)]) (by kernel_rfl) ?_
 refine oH 8 (atN 1 (ctl1 g22p1)) [(5, n25 a0), (4, .bool false), (2, .ptr 0 7 0), (0, n25 a0), (1, .i a1)] (mkH [⟨e25 a0, 0, false⟩]) ?_
 refine oA (fun (x0_1 : Int) => .i x0_1) (atN 2 (ctl1 g22p1)) 6 [n25 a0] (g20_ok k a0) fun x0_1 hx0_1 => ?_
 exact oQ 5
end
end Go.Proofs.Ytbmijiibfaacmaa.Am
set_option maxRecDepth 100000
set_option linter.unusedVariables false
namespace Go.Proofs.Ytbmijiibfaacmaa.Am
noncomputable section
open Go
def Xg3 : Fx Bool := ⟨Try.prog, cx, Try.f3, fun r => .bool r, 0, fun _ => H0, cxTi, cxOrd, fun _ => none, false⟩
def g3p0 : Pt := nav [0] (bodyAt Try.f3)
def g3p1 : Pt := nav [0, 0, 0, 0] g3p0
def g3p2 : Pt := nav [0, 0] g3p1
def g3p3 : Pt := nav [1, 0] g3p2
def g3p4 : Pt := nav [2, 0, 0, 0] g3p2
def g3p6 : Pt := nav [0, 0, 0, 0] g3p4
def g3p7 : Pt := nav [0, 0, 0] g3p6
def g3p8 : Pt := nav [0, 0] g3p7
def g3p9 : Pt := nav [1, 0, 0, 0, 0] g3p8
def g3p10 : Pt := nav [2, 0, 0] g3p8
def g3p11 : Pt := nav [0, 0, 0] g3p9
def g3p12 : Pt := nav [0] g3p11
def g3_l4B (k : Nat)  (a0 : S24) (a1 : Int) (a2 : (List Nat)) (ih : Int → Option Bool) : Int → Option Bool :=
 fun (y4_0 : Int) => if (decide (y4_0 ≤ 31)) then (jn (fun (z5 : Bool × Int) => if z5.1 then (some false) else (ih (fW .i64 (z5.2 + 1)))) (fun j5 => if (!decide (y4_0 = 1)) then ((g15 k a2 (⟨y4_0, a0.f1, ⟨0, []⟩, false, false, ([] : List (List Nat)), ([] : List (List Nat))⟩ : S24)).bind fun x1_5 => (g16 k a2 (⟨y4_0, a0.f1, ⟨0, []⟩, false, false, ([] : List (List Nat)), ([] : List (List Nat))⟩ : S24)).bind fun x1_8 => if (!(x1_5 == x1_8)) then (j5 (true, y4_0)) else ((g17 k (⟨y4_0, a0.f1, ⟨0, []⟩, false, false, ([] : List (List Nat)), ([] : List (List Nat))⟩ : S24)).bind fun x1_12 => (g18 k (⟨y4_0, a0.f1, ⟨0, []⟩, false, false, ([] : List (List Nat)), ([] : List (List Nat))⟩ : S24)).bind fun x1_14 => if (!(x1_12 == x1_14)) then (j5 (true, y4_0)) else ((g19 k (⟨y4_0, a0.f1, ⟨0, []⟩, false, false, ([] : List (List Nat)), ([] : List (List Nat))⟩ : S24)).bind fun x1_19 => (g20 k (⟨y4_0, a0.f1, ⟨0, []⟩, false, false, ([] : List (List Nat)), ([] : List (List Nat))⟩ : S24)).bind fun x1_21 => j5 (!decide (x1_19 = x1_21), y4_0)))) else (j5 (false, y4_0)))) else ((g14 k).bind fun x2_0 => if x2_0 then ((g19 k a0).bind fun x2_3 => (g20 k a0).bind fun x2_5 => if (decide (x2_3 = x2_5)) then ((g21 k a0 a1).bind fun x2_11 => (g22 k a0 a1).bind fun x2_14 => if (x2_11 == x2_14) then ((g17 k a0).bind fun x2_19 => (g18 k a0).bind fun x2_21 => if (x2_19 == x2_21) then ((g15 k a2 a0).bind fun x2_27 => (g16 k a2 a0).bind fun x2_30 => some (x2_27 == x2_30)) else (some false)) else (some false)) else (some false)) else (some false))
def g3_l4 (k : Nat)  (a0 : S24) (a1 : Int) (a2 : (List Nat)) (n : Nat) : Int → Option Bool := lp (fun _ => none) (g3_l4B k a0 a1 a2) n
theorem g3_l4_s (k : Nat)  (a0 : S24) (a1 : Int) (a2 : (List Nat)) (n : Nat) (y4_0 : Int) : g3_l4 k a0 a1 a2 (n + 1) y4_0 = (if (decide (y4_0 ≤ 31)) then (jn (fun (z5 : Bool × Int) => if z5.1 then (some false) else ((g3_l4 k a0 a1 a2 n) (fW .i64 (z5.2 + 1)))) (fun j5 => if (!decide (y4_0 = 1)) then ((g15 k a2 (⟨y4_0, a0.f1, ⟨0, []⟩, false, false, ([] : List (List Nat)), ([] : List (List Nat))⟩ : S24)).bind fun x1_5 => (g16 k a2 (⟨y4_0, a0.f1, ⟨0, []⟩, false, false, ([] : List (List Nat)), ([] : List (List Nat))⟩ : S24)).bind fun x1_8 => if (!(x1_5 == x1_8)) then (j5 (true, y4_0)) else ((g17 k (⟨y4_0, a0.f1, ⟨0, []⟩, false, false, ([] : List (List Nat)), ([] : List (List Nat))⟩ : S24)).bind fun x1_12 => (g18 k (⟨y4_0, a0.f1, ⟨0, []⟩, false, false, ([] : List (List Nat)), ([] : List (List Nat))⟩ : S24)).bind fun x1_14 => if (!(x1_12 == x1_14)) then (j5 (true, y4_0)) else ((g19 k (⟨y4_0, a0.f1, ⟨0, []⟩, false, false, ([] : List (List Nat)), ([] : List (List Nat))⟩ : S24)).bind fun x1_19 => (g20 k (⟨y4_0, a0.f1, ⟨0, []⟩, false, false, ([] : List (List Nat)), ([] : List (List Nat))⟩ : S24)).bind fun x1_21 => j5 (!decide (x1_19 = x1_21), y4_0)))) else (j5 (false, y4_0)))) else ((g14 k).bind fun x2_0 => if x2_0 then ((g19 k (⟨a0.f0, a0.f1, a0.f2, a0.f3, a0.f4, a0.f5, a0.f6⟩ : S24)).bind fun x2_3 => (g20 k (⟨a0.f0, a0.f1, a0.f2, a0.f3, a0.f4, a0.f5, a0.f6⟩ : S24)).bind fun x2_5 => if (decide (x2_3 = x2_5)) then ((g21 k (⟨a0.f0, a0.f1, a0.f2, a0.f3, a0.f4, a0.f5, a0.f6⟩ : S24) a1).bind fun x2_11 => (g22 k (⟨a0.f0, a0.f1, a0.f2, a0.f3, a0.f4, a0.f5, a0.f6⟩ : S24) a1).bind fun x2_14 => if (x2_11 == x2_14) then ((g17 k (⟨a0.f0, a0.f1, a0.f2, a0.f3, a0.f4, a0.f5, a0.f6⟩ : S24)).bind fun x2_19 => (g18 k (⟨a0.f0, a0.f1, a0.f2, a0.f3, a0.f4, a0.f5, a0.f6⟩ : S24)).bind fun x2_21 => if (x2_19 == x2_21) then ((g15 k a2 (⟨a0.f0, a0.f1, a0.f2, a0.f3, a0.f4, a0.f5, a0.f6⟩ : S24)).bind fun x2_27 => (g16 k a2 (⟨a0.f0, a0.f1, a0.f2, a0.f3, a0.f4, a0.f5, a0.f6⟩ : S24)).bind fun x2_30 => some (x2_27 == x2_30)) else (some false)) else (some false)) else (some false)) else (some false))) := rfl
theorem g3_l4_ok (k : Nat)   (a0 : S24) (a1 : Int) (a2 : (List Nat))  : ∀ (n : Nat) (y4_0 : Int), Ok Xg3 g3p6 [(1, .i a1), (2, .str a2), (3, .ptr 0 7 0), (7, .i y4_0)] (mkH [⟨[.i a0.f0, .str a0.f1, q25 a0.f2, .bool a0.f3, .bool a0.f4, w9 a0.f5, w9 a0.f6], 0, false⟩]) (g3_l4 k a0 a1 a2 n y4_0) := by
 intro n
 induction n with
 | zero => intro y4_0; exact ok_none
 | succ n ih =>
  intro y4_0
  show Ok _ _ _ _ (g3_l4B k a0 a1 a2 (g3_l4 k a0 a1 a2 n) y4_0)
  unfold g3_l4B
  refine ok_ent (p' := nav [0] g3p6) (by kernel_rfl) ?_
  let E4 : Env := [(30, .bool (decide (y4_0 ≤ 31))), (29, .i y4_0), (1, .i a1), (2, .str a2), (3, .ptr 0 7 0), (7, .i y4_0)]
  refine oH 6 g3p8 E4 (mkH [⟨e25 a0, 0, false⟩]) ?_
  refine oS 30 (fun hb => ?_) (fun hb => ?_)
  ·let Q1 : Blk := ⟨[.i y4_0, .str a0.f1, .nils, .bool false, .bool false, .nils, .nils], 7, false⟩
   refine oLH 14 g3p11 [(1, .i a1), (2, .str a2), (3, .ptr 0 7 0), (7, .i y4_0), (8, .ptr 1 7 0)] (mkH [⟨e25 a0, 0, false⟩, Q1]) ?_
   refine oJ g3p12 (fun (z5 : Bool × Int) => [(1, .i a1), (2, .str a2), (3, .ptr 0 7 0), (7, .i z5.2), (61, .bool z5.1)]) (fun (z5 : Bool × Int) => (mkH [⟨e25 a0, 0, false⟩])) (fun z5 => ?_) (fun j5 hj5 => ?_)
   ·refine oS 61 (fun hb => ?_) (fun hb => ?_)
    ·exact oQ 6
    ·refine oLH 7 g3p6 [(1, .i a1), (2, .str a2), (3, .ptr 0 7 0), (7, .i (fW .i64 (z5.2 + 1)))] (mkH [⟨e25 a0, 0, false⟩]) ?_
     exact ih (fW .i64 (z5.2 + 1))
   ·refine ok_if (fun hb6 => ?_) (fun hb6 => ?_)
    ·refine ok_bind (fun x1_5 hx1_5 => ?_)
     refine ok_bind (fun x1_8 hx1_8 => ?_)
     refine ok_if (fun hb7 => ?_) (fun hb7 => ?_)
     ·let E10 : Env := [(39, .bool (!decide (y4_0 = 1))), (38, .bool (!decide (y4_0 = 1))), (37, .i y4_0), (1, .i a1), (2, .str a2), (3, .ptr 0 7 0), (7, .i y4_0), (8, .ptr 1 7 0)]
      let E11 : Env := [(41, .agg [.i y4_0, .str a0.f1, .nils, .bool false, .bool false, .nils, .nils]), (40, .str a2), (39, .bool true), (38, .bool true), (37, .i y4_0), (1, .i a1), (2, .str a2), (3, .ptr 0 7 0), (7, .i y4_0), (8, .ptr 1 7 0)]
      let E12 : Env := ((47, .bool (!(x1_5 == x1_8))) :: (46, .bool (!(x1_5 == x1_8))) :: (45, .bool x1_8) :: (44, .agg [.i y4_0, .str a0.f1, .nils, .bool false, .bool false, .nils, .nils]) :: (43, .str a2) :: (42, .bool x1_5) :: E11)
      let E13 : Env := [(61, .bool true), (60, .bool true), (59, .tuple []), (58, .tuple []), (57, .tuple []), (56, .tuple []), (55, .tuple []), (54, .bool true), (53, .bool true), (52, .tuple []), (51, .tuple []), (50, .tuple []), (49, .tuple []), (48, .tuple []), (47, .bool true), (46, .bool true), (45, .bool x1_8), (44, .agg [.i y4_0, .str a0.f1, .nils, .bool false, .bool false, .nils, .nils]), (43, .str a2), (42, .bool x1_5), (41, .agg [.i y4_0, .str a0.f1, .nils, .bool false, .bool false, .nils, .nils]), (40, .str a2), (39, .bool true), (38, .bool true), (37, .i y4_0), (1, .i a1), (2, .str a2), (3, .ptr 0 7 0), (7, .i y4_0), (8, .ptr 1 7 0)]
      refine oD (H' := (mkH [⟨e25 a0, 0, false⟩, Q1])) (nav [0] g3p11) E13 [(mkH [⟨e25 a0, 0, false⟩, Q1]), (mkH [⟨e25 a0, 0, false⟩, Q1]), (mkH [⟨e25 a0, 0, false⟩, Q1]), (mkH [⟨e25 a0, 0, false⟩, Q1]), (mkH [⟨e25 a0, 0, false⟩, Q1]), (mkH [⟨e25 a0, 0, false⟩, Q1])] ⟨[], [(0, 0, 0), (1, 0, 0), (3, 0, 0), (7, 0, 0), (7, 0, 0), (31, 0, 0), (7, 0, 0), (7, 0, 1), (255, 0, 0), (511, 0, 0), (1023, 0, 0), (2047, 2, 2), (4095, 0, 0), (2047, 2, 3), (16383, 0, 0), (32767, 0, 0), (65535, 0, 0), (131071, 0, 0), (262143, 4, 4), (524287, 0, 0), (262143, 4, 5), (2097151, 0, 0), (4194303, 0, 0), (8388607, 0, 0), (16777215, 0, 0)], 25, thrown, [], H0⟩ (oDr 3 3 E10 (opsD_env (eE := [(39, .bool true), (38, .bool true), (37, .i y4_0), (1, .i a1), (2, .str a2), (3, .ptr 0 7 0), (7, .i y4_0), (8, .ptr 1 7 0)]) (congrArg (fun z : Bool => ([(39, .bool z), (38, .bool z), (37, .i y4_0), (1, .i a1), (2, .str a2), (3, .ptr 0 7 0), (7, .i y4_0), (8, .ptr 1 7 0)] : Env)) hb6) (oDr 2 5 E11 (opsD_callV (l' := (opsAt g3p11).toList.drop 6) (eE := ((42, .bool x1_5) :: E11)) (hs := [(mkH [⟨e25 a0, 0, false⟩, Q1])]) (fi := 15) (args := [.str a2, .agg [.i y4_0, .str a0.f1, .nils, .bool false, .bool false, .nils, .nils]]) (v := .bool x1_5) (by kernel_rfl) (dry_call (xs' := [.str a2, .agg [.i y4_0, .str a0.f1, .vec 0 7 [], .bool false, .bool false, .vec 0 1 [], .vec 0 1 []]]) (g15_ok k a2 (⟨y4_0, a0.f1, ⟨0, []⟩, false, false, ([] : List (List Nat)), ([] : List (List Nat))⟩ : S24) x1_5 hx1_5) (.cons (by kernel_rfl) (.agg (.cons (by kernel_rfl) (.cons (by kernel_rfl) (.nil (.cons (by kernel_rfl) (.cons (by kernel_rfl) (.nil (.nil (.pures (by kernel_rfl))))))))) (.pures (by kernel_rfl)))) (by kernel_rfl)) (by kernel_rfl) (oDr 2 8 ((44, .agg [.i y4_0, .str a0.f1, .nils, .bool false, .bool false, .nils, .nils]) :: (43, .str a2) :: (42, .bool x1_5) :: E11) (opsD_callV (l' := (opsAt g3p11).toList.drop 9) (eE := ((45, .bool x1_8) :: (44, .agg [.i y4_0, .str a0.f1, .nils, .bool false, .bool false, .nils, .nils]) :: (43, .str a2) :: (42, .bool x1_5) :: E11)) (hs := [(mkH [⟨e25 a0, 0, false⟩, Q1])]) (fi := 16) (args := [.str a2, .agg [.i y4_0, .str a0.f1, .nils, .bool false, .bool false, .nils, .nils]]) (v := .bool x1_8) (by kernel_rfl) (dry_call (xs' := [.str a2, .agg [.i y4_0, .str a0.f1, .vec 0 7 [], .bool false, .bool false, .vec 0 1 [], .vec 0 1 []]]) (g16_ok k a2 (⟨y4_0, a0.f1, ⟨0, []⟩, false, false, ([] : List (List Nat)), ([] : List (List Nat))⟩ : S24) x1_8 hx1_8) (.cons (by kernel_rfl) (.agg (.cons (by kernel_rfl) (.cons (by kernel_rfl) (.nil (.cons (by kernel_rfl) (.cons (by kernel_rfl) (.nil (.nil (.pures (by kernel_rfl))))))))) (.pures (by kernel_rfl)))) (by kernel_rfl)) (by kernel_rfl) (oDr 2 11 E12 (opsD_env (eE := [(47, .bool true), (46, .bool true), (45, .bool x1_8), (44, .agg [.i y4_0, .str a0.f1, .nils, .bool false, .bool false, .nils, .nils]), (43, .str a2), (42, .bool x1_5), (41, .agg [.i y4_0, .str a0.f1, .nils, .bool false, .bool false, .nils, .nils]), (40, .str a2), (39, .bool true), (38, .bool true), (37, .i y4_0), (1, .i a1), (2, .str a2), (3, .ptr 0 7 0), (7, .i y4_0), (8, .ptr 1 7 0)]) (congrArg (fun z : Bool => ([(47, .bool z), (46, .bool z), (45, .bool x1_8), (44, .agg [.i y4_0, .str a0.f1, .nils, .bool false, .bool false, .nils, .nils]), (43, .str a2), (42, .bool x1_5), (41, .agg [.i y4_0, .str a0.f1, .nils, .bool false, .bool false, .nils, .nils]), (40, .str a2), (39, .bool true), (38, .bool true), (37, .i y4_0), (1, .i a1), (2, .str a2), (3, .ptr 0 7 0), (7, .i y4_0), (8, .ptr 1 7 0)] : Env)) hb7) (oDh 14 25 E13 (mkH [⟨e25 a0, 0, false⟩, Q1]) [(mkH [⟨e25 a0, 0, false⟩, Q1]), (mkH [⟨e25 a0, 0, false⟩, Q1]), (mkH [⟨e25 a0, 0, false⟩, Q1]), (mkH [⟨e25 a0, 0, false⟩, Q1])] .nil))))))))) ?_
      refine oK [1, 2, 3, 7, 61] [(1, .i a1), (2, .str a2), (3, .ptr 0 7 0), (7, .i y4_0), (61, .bool true)] ?_
      refine ok_cut [⟨e25 a0, 0, false⟩] [Q1] (by kernel_rfl) rfl (by kernel_rfl) ⟨(by kernel_rfl), trivial⟩ ?_
      exact hj5 (true, y4_0)
     ·refine ok_bind (fun x1_12 hx1_12 => ?_)
      refine ok_bind (fun x1_14 hx1_14 => ?_)
      refine ok_if (fun hb8 => ?_) (fun hb8 => ?_)
      ·let E10 : Env := [(39, .bool (!decide (y4_0 = 1))), (38, .bool (!decide (y4_0 = 1))), (37, .i y4_0), (1, .i a1), (2, .str a2), (3, .ptr 0 7 0), (7, .i y4_0), (8, .ptr 1 7 0)]
       let E11 : Env := [(41, .agg [.i y4_0, .str a0.f1, .nils, .bool false, .bool false, .nils, .nils]), (40, .str a2), (39, .bool true), (38, .bool true), (37, .i y4_0), (1, .i a1), (2, .str a2), (3, .ptr 0 7 0), (7, .i y4_0), (8, .ptr 1 7 0)]
       let E12 : Env := ((47, .bool (!(x1_5 == x1_8))) :: (46, .bool (!(x1_5 == x1_8))) :: (45, .bool x1_8) :: (44, .agg [.i y4_0, .str a0.f1, .nils, .bool false, .bool false, .nils, .nils]) :: (43, .str a2) :: (42, .bool x1_5) :: E11)
       let E15 : Env := [(48, .agg [.i y4_0, .str a0.f1, .nils, .bool false, .bool false, .nils, .nils]), (47, .bool false), (46, .bool false), (45, .bool x1_8), (44, .agg [.i y4_0, .str a0.f1, .nils, .bool false, .bool false, .nils, .nils]), (43, .str a2), (42, .bool x1_5), (41, .agg [.i y4_0, .str a0.f1, .nils, .bool false, .bool false, .nils, .nils]), (40, .str a2), (39, .bool true), (38, .bool true), (37, .i y4_0), (1, .i a1), (2, .str a2), (3, .ptr 0 7 0), (7, .i y4_0), (8, .ptr 1 7 0)]
       let E16 : Env := ((54, .bool (!(x1_12 == x1_14))) :: (53, .bool (!(x1_12 == x1_14))) :: (52, .bool (!(x1_12 == x1_14))) :: (51, .bool x1_14) :: (50, .agg [.i y4_0, .str a0.f1, .nils, .bool false, .bool false, .nils, .nils]) :: (49, .bool x1_12) :: E15)
       let E17 : Env := [(61, .bool true), (60, .bool true), (59, .tuple []), (58, .tuple []), (57, .tuple []), (56, .tuple []), (55, .tuple []), (54, .bool true), (53, .bool true), (52, .bool true), (51, .bool x1_14), (50, .agg [.i y4_0, .str a0.f1, .nils, .bool false, .bool false, .nils, .nils]), (49, .bool x1_12), (48, .agg [.i y4_0, .str a0.f1, .nils, .bool false, .bool false, .nils, .nils]), (47, .bool false), (46, .bool false), (45, .bool x1_8), (44, .agg [.i y4_0, .str a0.f1, .nils, .bool false, .bool false, .nils, .nils]), (43, .str a2), (42, .bool x1_5), (41, .agg [.i y4_0, .str a0.f1, .nils, .bool false, .bool false, .nils, .nils]), (40, .str a2), (39, .bool true), (38, .bool true), (37, .i y4_0), (1, .i a1), (2, .str a2), (3, .ptr 0 7 0), (7, .i y4_0), (8, .ptr 1 7 0)]
       refine oD (H' := (mkH [⟨e25 a0, 0, false⟩, Q1])) (nav [0] g3p11) E17 [(mkH [⟨e25 a0, 0, false⟩, Q1]), (mkH [⟨e25 a0, 0, false⟩, Q1]), (mkH [⟨e25 a0, 0, false⟩, Q1]), (mkH [⟨e25 a0, 0, false⟩, Q1]), (mkH [⟨e25 a0, 0, false⟩, Q1]), (mkH [⟨e25 a0, 0, false⟩, Q1])] ⟨[], [(0, 0, 0), (1, 0, 0), (3, 0, 0), (7, 0, 0), (7, 0, 0), (31, 0, 0), (7, 0, 0), (7, 0, 1), (255, 0, 0), (511, 0, 0), (1023, 0, 0), (2047, 2, 2), (4095, 0, 0), (2047, 2, 3), (16383, 0, 0), (32767, 0, 0), (65535, 0, 0), (131071, 0, 0), (262143, 4, 4), (524287, 0, 0), (262143, 4, 5), (2097151, 0, 0), (4194303, 0, 0), (8388607, 0, 0), (16777215, 0, 0)], 25, thrown, [], H0⟩ (oDr 3 3 E10 (opsD_env (eE := [(39, .bool true), (38, .bool true), (37, .i y4_0), (1, .i a1), (2, .str a2), (3, .ptr 0 7 0), (7, .i y4_0), (8, .ptr 1 7 0)]) (congrArg (fun z : Bool => ([(39, .bool z), (38, .bool z), (37, .i y4_0), (1, .i a1), (2, .str a2), (3, .ptr 0 7 0), (7, .i y4_0), (8, .ptr 1 7 0)] : Env)) hb6) (oDr 2 5 E11 (opsD_callV (l' := (opsAt g3p11).toList.drop 6) (eE := ((42, .bool x1_5) :: E11)) (hs := [(mkH [⟨e25 a0, 0, false⟩, Q1])]) (fi := 15) (args := [.str a2, .agg [.i y4_0, .str a0.f1, .nils, .bool false, .bool false, .nils, .nils]]) (v := .bool x1_5) (by kernel_rfl) (dry_call (xs' := [.str a2, .agg [.i y4_0, .str a0.f1, .vec 0 7 [], .bool false, .bool false, .vec 0 1 [], .vec 0 1 []]]) (g15_ok k a2 (⟨y4_0, a0.f1, ⟨0, []⟩, false, false, ([] : List (List Nat)), ([] : List (List Nat))⟩ : S24) x1_5 hx1_5) (.cons (by kernel_rfl) (.agg (.cons (by kernel_rfl) (.cons (by kernel_rfl) (.nil (.cons (by kernel_rfl) (.cons (by kernel_rfl) (.nil (.nil (.pures (by kernel_rfl))))))))) (.pures (by kernel_rfl)))) (by kernel_rfl)) (by kernel_rfl) (oDr 2 8 ((44, .agg [.i y4_0, .str a0.f1, .nils, .bool false, .bool false, .nils, .nils]) :: (43, .str a2) :: (42, .bool x1_5) :: E11) (opsD_callV (l' := (opsAt g3p11).toList.drop 9) (eE := ((45, .bool x1_8) :: (44, .agg [.i y4_0, .str a0.f1, .nils, .bool false, .bool false, .nils, .nils]) :: (43, .str a2) :: (42, .bool x1_5) :: E11)) (hs := [(mkH [⟨e25 a0, 0, false⟩, Q1])]) (fi := 16) (args := [.str a2, .agg [.i y4_0, .str a0.f1, .nils, .bool false, .bool false, .nils, .nils]]) (v := .bool x1_8) (by kernel_rfl) (dry_call (xs' := [.str a2, .agg [.i y4_0, .str a0.f1, .vec 0 7 [], .bool false, .bool false, .vec 0 1 [], .vec 0 1 []]]) (g16_ok k a2 (⟨y4_0, a0.f1, ⟨0, []⟩, false, false, ([] : List (List Nat)), ([] : List (List Nat))⟩ : S24) x1_8 hx1_8) (.cons (by kernel_rfl) (.agg (.cons (by kernel_rfl) (.cons (by kernel_rfl) (.nil (.cons (by kernel_rfl) (.cons (by kernel_rfl) (.nil (.nil (.pures (by kernel_rfl))))))))) (.pures (by kernel_rfl)))) (by kernel_rfl)) (by kernel_rfl) (oDr 2 11 E12 (opsD_env (eE := [(47, .bool false), (46, .bool false), (45, .bool x1_8), (44, .agg [.i y4_0, .str a0.f1, .nils, .bool false, .bool false, .nils, .nils]), (43, .str a2), (42, .bool x1_5), (41, .agg [.i y4_0, .str a0.f1, .nils, .bool false, .bool false, .nils, .nils]), (40, .str a2), (39, .bool true), (38, .bool true), (37, .i y4_0), (1, .i a1), (2, .str a2), (3, .ptr 0 7 0), (7, .i y4_0), (8, .ptr 1 7 0)]) (congrArg (fun z : Bool => ([(47, .bool z), (46, .bool z), (45, .bool x1_8), (44, .agg [.i y4_0, .str a0.f1, .nils, .bool false, .bool false, .nils, .nils]), (43, .str a2), (42, .bool x1_5), (41, .agg [.i y4_0, .str a0.f1, .nils, .bool false, .bool false, .nils, .nils]), (40, .str a2), (39, .bool true), (38, .bool true), (37, .i y4_0), (1, .i a1), (2, .str a2), (3, .ptr 0 7 0), (7, .i y4_0), (8, .ptr 1 7 0)] : Env)) hb7) (oDr 1 12 E15 (opsD_callV (l' := (opsAt g3p11).toList.drop 13) (eE := ((49, .bool x1_12) :: E15)) (hs := [(mkH [⟨e25 a0, 0, false⟩, Q1])]) (fi := 17) (args := [.agg [.i y4_0, .str a0.f1, .nils, .bool false, .bool false, .nils, .nils]]) (v := .bool x1_12) (by kernel_rfl) (dry_call (xs' := [.agg [.i y4_0, .str a0.f1, .vec 0 7 [], .bool false, .bool false, .vec 0 1 [], .vec 0 1 []]]) (g17_ok k (⟨y4_0, a0.f1, ⟨0, []⟩, false, false, ([] : List (List Nat)), ([] : List (List Nat))⟩ : S24) x1_12 hx1_12) (.agg (.cons (by kernel_rfl) (.cons (by kernel_rfl) (.nil (.cons (by kernel_rfl) (.cons (by kernel_rfl) (.nil (.nil (.pures (by kernel_rfl))))))))) (.pures (by kernel_rfl))) (by kernel_rfl)) (by kernel_rfl) (oDr 1 14 ((50, .agg [.i y4_0, .str a0.f1, .nils, .bool false, .bool false, .nils, .nils]) :: (49, .bool x1_12) :: E15) (opsD_callV (l' := (opsAt g3p11).toList.drop 15) (eE := ((51, .bool x1_14) :: (50, .agg [.i y4_0, .str a0.f1, .nils, .bool false, .bool false, .nils, .nils]) :: (49, .bool x1_12) :: E15)) (hs := [(mkH [⟨e25 a0, 0, false⟩, Q1])]) (fi := 18) (args := [.agg [.i y4_0, .str a0.f1, .nils, .bool false, .bool false, .nils, .nils]]) (v := .bool x1_14) (by kernel_rfl) (dry_call (xs' := [.agg [.i y4_0, .str a0.f1, .vec 0 7 [], .bool false, .bool false, .vec 0 1 [], .vec 0 1 []]]) (g18_ok k (⟨y4_0, a0.f1, ⟨0, []⟩, false, false, ([] : List (List Nat)), ([] : List (List Nat))⟩ : S24) x1_14 hx1_14) (.agg (.cons (by kernel_rfl) (.cons (by kernel_rfl) (.nil (.cons (by kernel_rfl) (.cons (by kernel_rfl) (.nil (.nil (.pures (by kernel_rfl))))))))) (.pures (by kernel_rfl))) (by kernel_rfl)) (by kernel_rfl) (oDr 3 18 E16 (opsD_env (eE := [(54, .bool true), (53, .bool true), (52, .bool true), (51, .bool x1_14), (50, .agg [.i y4_0, .str a0.f1, .nils, .bool false, .bool false, .nils, .nils]), (49, .bool x1_12), (48, .agg [.i y4_0, .str a0.f1, .nils, .bool false, .bool false, .nils, .nils]), (47, .bool false), (46, .bool false), (45, .bool x1_8), (44, .agg [.i y4_0, .str a0.f1, .nils, .bool false, .bool false, .nils, .nils]), (43, .str a2), (42, .bool x1_5), (41, .agg [.i y4_0, .str a0.f1, .nils, .bool false, .bool false, .nils, .nils]), (40, .str a2), (39, .bool true), (38, .bool true), (37, .i y4_0), (1, .i a1), (2, .str a2), (3, .ptr 0 7 0), (7, .i y4_0), (8, .ptr 1 7 0)]) (congrArg (fun z : Bool => ([(54, .bool z), (53, .bool z), (52, .bool z), (51, .bool x1_14), (50, .agg [.i y4_0, .str a0.f1, .nils, .bool false, .bool false, .nils, .nils]), (49, .bool x1_12), (48, .agg [.i y4_0, .str a0.f1, .nils, .bool false, .bool false, .nils, .nils]), (47, .bool false), (46, .bool false), (45, .bool x1_8), (44, .agg [.i y4_0, .str a0.f1, .nils, .bool false, .bool false, .nils, .nils]), (43, .str a2), (42, .bool x1_5), (41, .agg [.i y4_0, .str a0.f1, .nils, .bool false, .bool false, .nils, .nils]), (40, .str a2), (39, .bool true), (38, .bool true), (37, .i y4_0), (1, .i a1), (2, .str a2), (3, .ptr 0 7 0), (7, .i y4_0), (8, .ptr 1 7 0)] : Env)) hb8) (oDh 7 25 E17 (mkH [⟨e25 a0, 0, false⟩, Q1]) [(mkH [⟨e25 a0, 0, false⟩, Q1]), (mkH [⟨e25 a0, 0, false⟩, Q1])] .nil))))))))))))))) ?_
       refine oK [1, 2, 3, 7, 61] [(1, .i a1), (2, .str a2), (3, .ptr 0 7 0), (7, .i y4_0), (61, .bool true)] ?_
       refine ok_cut [⟨e25 a0, 0, false⟩] [Q1] (by kernel_rfl) rfl (by kernel_rfl) ⟨(by kernel_rfl), trivial⟩ ?_
       exact hj5 (true, y4_0)
      ·refine ok_bind (fun x1_19 hx1_19 => ?_)
       refine ok_bind (fun x1_21 hx1_21 => ?_)
       let E10 : Env := [(39, .bool (!decide (y4_0 = 1))), (38, .bool (!decide (y4_0 = 1))), (37, .i y4_0), (1, .i a1), (2, .str a2), (3, .ptr 0 7 0), (7, .i y4_0), (8, .ptr 1 7 0)]
       let E11 : Env := [(41, .agg [.i y4_0, .str a0.f1, .nils, .bool false, .bool false, .nils, .nils]), (40, .str a2), (39, .bool true), (38, .bool true), (37, .i y4_0), (1, .i a1), (2, .str a2), (3, .ptr 0 7 0), (7, .i y4_0), (8, .ptr 1 7 0)]
       let E12 : Env := ((47, .bool (!(x1_5 == x1_8))) :: (46, .bool (!(x1_5 == x1_8))) :: (45, .bool x1_8) :: (44, .agg [.i y4_0, .str a0.f1, .nils, .bool false, .bool false, .nils, .nils]) :: (43, .str a2) :: (42, .bool x1_5) :: E11)
       let E15 : Env := [(48, .agg [.i y4_0, .str a0.f1, .nils, .bool false, .bool false, .nils, .nils]), (47, .bool false), (46, .bool false), (45, .bool x1_8), (44, .agg [.i y4_0, .str a0.f1, .nils, .bool false, .bool false, .nils, .nils]), (43, .str a2), (42, .bool x1_5), (41, .agg [.i y4_0, .str a0.f1, .nils, .bool false, .bool false, .nils, .nils]), (40, .str a2), (39, .bool true), (38, .bool true), (37, .i y4_0), (1, .i a1), (2, .str a2), (3, .ptr 0 7 0), (7, .i y4_0), (8, .ptr 1 7 0)]
       let E16 : Env := ((54, .bool (!(x1_12 == x1_14))) :: (53, .bool (!(x1_12 == x1_14))) :: (52, .bool (!(x1_12 == x1_14))) :: (51, .bool x1_14) :: (50, .agg [.i y4_0, .str a0.f1, .nils, .bool false, .bool false, .nils, .nils]) :: (49, .bool x1_12) :: E15)
       let E19 : Env := [(55, .agg [.i y4_0, .str a0.f1, .nils, .bool false, .bool false, .nils, .nils]), (54, .bool false), (53, .bool false), (52, .bool false), (51, .bool x1_14), (50, .agg [.i y4_0, .str a0.f1, .nils, .bool false, .bool false, .nils, .nils]), (49, .bool x1_12), (48, .agg [.i y4_0, .str a0.f1, .nils, .bool false, .bool false, .nils, .nils]), (47, .bool false), (46, .bool false), (45, .bool x1_8), (44, .agg [.i y4_0, .str a0.f1, .nils, .bool false, .bool false, .nils, .nils]), (43, .str a2), (42, .bool x1_5), (41, .agg [.i y4_0, .str a0.f1, .nils, .bool false, .bool false, .nils, .nils]), (40, .str a2), (39, .bool true), (38, .bool true), (37, .i y4_0), (1, .i a1), (2, .str a2), (3, .ptr 0 7 0), (7, .i y4_0), (8, .ptr 1 7 0)]
       let E20 : Env := ((61, .bool (!decide (x1_19 = x1_21))) :: (60, .bool (!decide (x1_19 = x1_21))) :: (59, .bool (!decide (x1_19 = x1_21))) :: (58, .i x1_21) :: (57, .agg [.i y4_0, .str a0.f1, .nils, .bool false, .bool false, .nils, .nils]) :: (56, .i x1_19) :: E19)
       refine oD (H' := (mkH [⟨e25 a0, 0, false⟩, Q1])) (nav [0] g3p11) E20 [(mkH [⟨e25 a0, 0, false⟩, Q1]), (mkH [⟨e25 a0, 0, false⟩, Q1]), (mkH [⟨e25 a0, 0, false⟩, Q1]), (mkH [⟨e25 a0, 0, false⟩, Q1]), (mkH [⟨e25 a0, 0, false⟩, Q1]), (mkH [⟨e25 a0, 0, false⟩, Q1])] ⟨[], [(0, 0, 0), (1, 0, 0), (3, 0, 0), (7, 0, 0), (7, 0, 0), (31, 0, 0), (7, 0, 0), (7, 0, 1), (255, 0, 0), (511, 0, 0), (1023, 0, 0), (2047, 2, 2), (4095, 0, 0), (2047, 2, 3), (16383, 0, 0), (32767, 0, 0), (65535, 0, 0), (131071, 0, 0), (262143, 4, 4), (524287, 0, 0), (262143, 4, 5), (2097151, 0, 0), (4194303, 0, 0), (8388607, 0, 0), (16777215, 0, 0)], 25, thrown, [], H0⟩ (oDr 3 3 E10 (opsD_env (eE := [(39, .bool true), (38, .bool true), (37, .i y4_0), (1, .i a1), (2, .str a2), (3, .ptr 0 7 0), (7, .i y4_0), (8, .ptr 1 7 0)]) (congrArg (fun z : Bool => ([(39, .bool z), (38, .bool z), (37, .i y4_0), (1, .i a1), (2, .str a2), (3, .ptr 0 7 0), (7, .i y4_0), (8, .ptr 1 7 0)] : Env)) hb6) (oDr 2 5 E11 (opsD_callV (l' := (opsAt g3p11).toList.drop 6) (eE := ((42, .bool x1_5) :: E11)) (hs := [(mkH [⟨e25 a0, 0, false⟩, Q1])]) (fi := 15) (args := [.str a2, .agg [.i y4_0, .str a0.f1, .nils, .bool false, .bool false, .nils, .nils]]) (v := .bool x1_5) (by kernel_rfl) (dry_call (xs' := [.str a2, .agg [.i y4_0, .str a0.f1, .vec 0 7 [], .bool false, .bool false, .vec 0 1 [], .vec 0 1 []]]) (g15_ok k a2 (⟨y4_0, a0.f1, ⟨0, []⟩, false, false, ([] : List (List Nat)), ([] : List (List Nat))⟩ : S24) x1_5 hx1_5) (.cons (by kernel_rfl) (.agg (.cons (by kernel_rfl) (.cons (by kernel_rfl) (.nil (.cons (by kernel_rfl) (.cons (by kernel_rfl) (.nil (.nil (.pures (by kernel_rfl))))))))) (.pures (by kernel_rfl)))) (by kernel_rfl)) (by kernel_rfl) (oDr 2 8 ((44, .agg [.i y4_0, .str a0.f1, .nils, .bool false, .bool false, .nils, .nils]) :: (43, .str a2) :: (42, .bool x1_5) :: E11) (opsD_callV (l' := (opsAt g3p11).toList.drop 9) (eE := ((45, .bool x1_8) :: (44, .agg [.i y4_0, .str a0.f1, .nils, .bool false, .bool false, .nils, .nils]) :: (43, .str a2) :: (42, .bool x1_5) :: E11)) (hs := [(mkH [⟨e25 a0, 0, false⟩, Q1])]) (fi := 16) (args := [.str a2, .agg [.i y4_0, .str a0.f1, .nils, .bool false, .bool false, .nils, .nils]]) (v := .bool x1_8) (by kernel_rfl) (dry_call (xs' := [.str a2, .agg [.i y4_0, .str a0.f1, .vec 0 7 [], .bool false, .bool false, .vec 0 1 [], .vec 0 1 []]]) (g16_ok k a2 (⟨y4_0, a0.f1, ⟨0, []⟩, false, false, ([] : List (List Nat)), ([] : List (List Nat))⟩ : S24) x1_8 hx1_8) (.cons (by kernel_rfl) (.agg (.cons (by kernel_rfl) (.cons (by kernel_rfl) (.nil (.cons (by kernel_rfl) (.cons (by kernel_rfl) (.nil (.nil (.pures (by kernel_rfl))))))))) (.pures (by kernel_rfl)))) (by kernel_rfl)) (by kernel_rfl) (oDr 2 11 E12 (opsD_env (eE := [(47, .bool false), (46, .bool false), (45, .bool x1_8), (44, .agg [.i y4_0, .str a0.f1, .nils, .bool false, .bool false, .nils, .nils]), (43, .str a2), (42, .bool x1_5), (41, .agg [.i y4_0, .str a0.f1, .nils, .bool false, .bool false, .nils, .nils]), (40, .str a2), (39, .bool true), (38, .bool true), (37, .i y4_0), (1, .i a1), (2, .str a2), (3, .ptr 0 7 0), (7, .i y4_0), (8, .ptr 1 7 0)]) (congrArg (fun z : Bool => ([(47, .bool z), (46, .bool z), (45, .bool x1_8), (44, .agg [.i y4_0, .str a0.f1, .nils, .bool false, .bool false, .nils, .nils]), (43, .str a2), (42, .bool x1_5), (41, .agg [.i y4_0, .str a0.f1, .nils, .bool false, .bool false, .nils, .nils]), (40, .str a2), (39, .bool true), (38, .bool true), (37, .i y4_0), (1, .i a1), (2, .str a2), (3, .ptr 0 7 0), (7, .i y4_0), (8, .ptr 1 7 0)] : Env)) hb7) (oDr 1 12 E15 (opsD_callV (l' := (opsAt g3p11).toList.drop 13) (eE := ((49, .bool x1_12) :: E15)) (hs := [(mkH [⟨e25 a0, 0, false⟩, Q1])]) (fi := 17) (args := [.agg [.i y4_0, .str a0.f1, .nils, .bool false, .bool false, .nils, .nils]]) (v := .bool x1_12) (by kernel_rfl) (dry_call (xs' := [.agg [.i y4_0, .str a0.f1, .vec 0 7 [], .bool false, .bool false, .vec 0 1 [], .vec 0 1 []]]) (g17_ok k (⟨y4_0, a0.f1, ⟨0, []⟩, false, false, ([] : List (List Nat)), ([] : List (List Nat))⟩ : S24) x1_12 hx1_12) (.agg (.cons (by kernel_rfl) (.cons (by kernel_rfl) (.nil (.cons (by kernel_rfl) (.cons (by kernel_rfl) (.nil (.nil (.pures (by kernel_rfl))))))))) (.pures (by kernel_rfl))) (by kernel_rfl)) (by kernel_rfl) (oDr 1 14 ((50, .agg [.i y4_0, .str a0.f1, .nils, .bool false, .bool false, .nils, .nils]) :: (49, .bool x1_12) :: E15) (opsD_callV (l' := (opsAt g3p11).toList.drop 15) (eE := ((51, .bool x1_14) :: (50, .agg [.i y4_0, .str a0.f1, .nils, .bool false, .bool false, .nils, .nils]) :: (49, .bool x1_12) :: E15)) (hs := [(mkH [⟨e25 a0, 0, false⟩, Q1])]) (fi := 18) (args := [.agg [.i y4_0, .str a0.f1, .nils, .bool false, .bool false, .nils, .nils]]) (v := .bool x1_14) (by kernel_rfl) (dry_call (xs' := [.agg [.i y4_0, .str a0.f1, .vec 0 7 [], .bool false, .bool false, .vec 0 1 [], .vec 0 1 []]]) (g18_ok k (⟨y4_0, a0.f1, ⟨0, []⟩, false, false, ([] : List (List Nat)), ([] : List (List Nat))⟩ : S24) x1_14 hx1_14) (.agg (.cons (by kernel_rfl) (.cons (by kernel_rfl) (.nil (.cons (by kernel_rfl) (.cons (by kernel_rfl) (.nil (.nil (.pures (by kernel_rfl))))))))) (.pures (by kernel_rfl))) (by kernel_rfl)) (by kernel_rfl) (oDr 3 18 E16 (opsD_env (eE := [(54, .bool false), (53, .bool false), (52, .bool false), (51, .bool x1_14), (50, .agg [.i y4_0, .str a0.f1, .nils, .bool false, .bool false, .nils, .nils]), (49, .bool x1_12), (48, .agg [.i y4_0, .str a0.f1, .nils, .bool false, .bool false, .nils, .nils]), (47, .bool false), (46, .bool false), (45, .bool x1_8), (44, .agg [.i y4_0, .str a0.f1, .nils, .bool false, .bool false, .nils, .nils]), (43, .str a2), (42, .bool x1_5), (41, .agg [.i y4_0, .str a0.f1, .nils, .bool false, .bool false, .nils, .nils]), (40, .str a2), (39, .bool true), (38, .bool true), (37, .i y4_0), (1, .i a1), (2, .str a2), (3, .ptr 0 7 0), (7, .i y4_0), (8, .ptr 1 7 0)]) (congrArg (fun z : Bool => ([(54, .bool z), (53, .bool z), (52, .bool z), (51, .bool x1_14), (50, .agg [.i y4_0, .str a0.f1, .nils, .bool false, .bool false, .nils, .nils]), (49, .bool x1_12), (48, .agg [.i y4_0, .str a0.f1, .nils, .bool false, .bool false, .nils, .nils]), (47, .bool false), (46, .bool false), (45, .bool x1_8), (44, .agg [.i y4_0, .str a0.f1, .nils, .bool false, .bool false, .nils, .nils]), (43, .str a2), (42, .bool x1_5), (41, .agg [.i y4_0, .str a0.f1, .nils, .bool false, .bool false, .nils, .nils]), (40, .str a2), (39, .bool true), (38, .bool true), (37, .i y4_0), (1, .i a1), (2, .str a2), (3, .ptr 0 7 0), (7, .i y4_0), (8, .ptr 1 7 0)] : Env)) hb8) (oDr 1 19 E19 (opsD_callV (l' := (opsAt g3p11).toList.drop 20) (eE := ((56, .i x1_19) :: E19)) (hs := [(mkH [⟨e25 a0, 0, false⟩, Q1])]) (fi := 19) (args := [.agg [.i y4_0, .str a0.f1, .nils, .bool false, .bool false, .nils, .nils]]) (v := .i x1_19) (by kernel_rfl) (dry_call (xs' := [.agg [.i y4_0, .str a0.f1, .vec 0 7 [], .bool false, .bool false, .vec 0 1 [], .vec 0 1 []]]) (g19_ok k (⟨y4_0, a0.f1, ⟨0, []⟩, false, false, ([] : List (List Nat)), ([] : List (List Nat))⟩ : S24) x1_19 hx1_19) (.agg (.cons (by kernel_rfl) (.cons (by kernel_rfl) (.nil (.cons (by kernel_rfl) (.cons (by kernel_rfl) (.nil (.nil (.pures (by kernel_rfl))))))))) (.pures (by kernel_rfl))) (by kernel_rfl)) (by kernel_rfl) (oDr 1 21 ((57, .agg [.i y4_0, .str a0.f1, .nils, .bool false, .bool false, .nils, .nils]) :: (56, .i x1_19) :: E19) (opsD_callV (l' := (opsAt g3p11).toList.drop 22) (eE := ((58, .i x1_21) :: (57, .agg [.i y4_0, .str a0.f1, .nils, .bool false, .bool false, .nils, .nils]) :: (56, .i x1_19) :: E19)) (hs := [(mkH [⟨e25 a0, 0, false⟩, Q1])]) (fi := 20) (args := [.agg [.i y4_0, .str a0.f1, .nils, .bool false, .bool false, .nils, .nils]]) (v := .i x1_21) (by kernel_rfl) (dry_call (xs' := [.agg [.i y4_0, .str a0.f1, .vec 0 7 [], .bool false, .bool false, .vec 0 1 [], .vec 0 1 []]]) (g20_ok k (⟨y4_0, a0.f1, ⟨0, []⟩, false, false, ([] : List (List Nat)), ([] : List (List Nat))⟩ : S24) x1_21 hx1_21) (.agg (.cons (by kernel_rfl) (.cons (by kernel_rfl) (.nil (.cons (by kernel_rfl) (.cons (by kernel_rfl) (.nil (.nil (.pures (by kernel_rfl))))))))) (.pures (by kernel_rfl))) (by kernel_rfl)) (by kernel_rfl) (oDr 3 25 E20 .nil))))))))))))))))))) ?_
       refine oK [1, 2, 3, 7, 61] [(1, .i a1), (2, .str a2), (3, .ptr 0 7 0), (7, .i y4_0), (61, .bool (!decide (x1_19 = x1_21)))] ?_
       refine ok_cut [⟨e25 a0, 0, false⟩] [Q1] (by kernel_rfl) rfl (by kernel_rfl) ⟨(by kernel_rfl), trivial⟩ ?_
       exact hj5 (!decide (x1_19 = x1_21), y4_0)
    ·let E10 : Env := [(39, .bool (!decide (y4_0 = 1))), (38, .bool (!decide (y4_0 = 1))), (37, .i y4_0), (1, .i a1), (2, .str a2), (3, .ptr 0 7 0), (7, .i y4_0), (8, .ptr 1 7 0)]
     let E22 : Env := [(61, .bool false), (60, .tuple []), (59, .tuple []), (58, .tuple []), (57, .tuple []), (56, .tuple []), (55, .tuple []), (54, .tuple []), (53, .tuple []), (52, .tuple []), (51, .tuple []), (50, .tuple []), (49, .tuple []), (48, .tuple []), (47, .tuple []), (46, .tuple []), (45, .tuple []), (44, .tuple []), (43, .tuple []), (42, .tuple []), (41, .tuple []), (40, .tuple []), (39, .bool false), (38, .bool false), (37, .i y4_0), (1, .i a1), (2, .str a2), (3, .ptr 0 7 0), (7, .i y4_0), (8, .ptr 1 7 0)]
     refine oD (H' := (mkH [⟨e25 a0, 0, false⟩, Q1])) (nav [0] g3p11) E22 [(mkH [⟨e25 a0, 0, false⟩, Q1]), (mkH [⟨e25 a0, 0, false⟩, Q1]), (mkH [⟨e25 a0, 0, false⟩, Q1]), (mkH [⟨e25 a0, 0, false⟩, Q1]), (mkH [⟨e25 a0, 0, false⟩, Q1]), (mkH [⟨e25 a0, 0, false⟩, Q1])] ⟨[], [(0, 0, 0), (1, 0, 0), (3, 0, 0), (7, 0, 0), (7, 0, 0), (31, 0, 0), (7, 0, 0), (7, 0, 1), (255, 0, 0), (511, 0, 0), (1023, 0, 0), (2047, 2, 2), (4095, 0, 0), (2047, 2, 3), (16383, 0, 0), (32767, 0, 0), (65535, 0, 0), (131071, 0, 0), (262143, 4, 4), (524287, 0, 0), (262143, 4, 5), (2097151, 0, 0), (4194303, 0, 0), (8388607, 0, 0), (16777215, 0, 0)], 25, thrown, [], H0⟩ (oDr 3 3 E10 (opsD_env (eE := [(39, .bool false), (38, .bool false), (37, .i y4_0), (1, .i a1), (2, .str a2), (3, .ptr 0 7 0), (7, .i y4_0), (8, .ptr 1 7 0)]) (congrArg (fun z : Bool => ([(39, .bool z), (38, .bool z), (37, .i y4_0), (1, .i a1), (2, .str a2), (3, .ptr 0 7 0), (7, .i y4_0), (8, .ptr 1 7 0)] : Env)) hb6) (oDh 22 25 E22 (mkH [⟨e25 a0, 0, false⟩, Q1]) [(mkH [⟨e25 a0, 0, false⟩, Q1]), (mkH [⟨e25 a0, 0, false⟩, Q1]), (mkH [⟨e25 a0, 0, false⟩, Q1]), (mkH [⟨e25 a0, 0, false⟩, Q1]), (mkH [⟨e25 a0, 0, false⟩, Q1]), (mkH [⟨e25 a0, 0, false⟩, Q1])] .nil))) ?_
     refine oK [1, 2, 3, 7, 61] [(1, .i a1), (2, .str a2), (3, .ptr 0 7 0), (7, .i y4_0), (61, .bool false)] ?_
     refine ok_cut [⟨e25 a0, 0, false⟩] [Q1] (by kernel_rfl) rfl (by kernel_rfl) ⟨(by kernel_rfl), trivial⟩ ?_
     exact hj5 (false, y4_0)
  ·refine oR 3 g3p10 ((30, .bool false) :: E4) ?_
   refine ok_bind (fun x2_0 hx2_0 => ?_)
   refine ok_if (fun hb5 => ?_) (fun hb5 => ?_)
   ·refine ok_bind (fun x2_3 hx2_3 => ?_)
    refine ok_bind (fun x2_5 hx2_5 => ?_)
    refine ok_if (fun hb6 => ?_) (fun hb6 => ?_)
    ·refine ok_bind (fun x2_11 hx2_11 => ?_)
     refine ok_bind (fun x2_14 hx2_14 => ?_)
     refine ok_if (fun hb7 => ?_) (fun hb7 => ?_)
     ·refine ok_bind (fun x2_19 hx2_19 => ?_)
      refine ok_bind (fun x2_21 hx2_21 => ?_)
      refine ok_if (fun hb8 => ?_) (fun hb8 => ?_)
      ·refine ok_bind (fun x2_27 hx2_27 => ?_)
       refine ok_bind (fun x2_30 hx2_30 => ?_)
       let E24 : Env := [(62, .bool x2_0), (30, .bool false), (30, .bool (decide (y4_0 ≤ 31))), (29, .i y4_0), (1, .i a1), (2, .str a2), (3, .ptr 0 7 0), (7, .i y4_0)]
       let E25 : Env := [(64, n25 a0), (63, .bool true), (62, .bool true), (30, .bool false), (30, .bool (decide (y4_0 ≤ 31))), (29, .i y4_0), (1, .i a1), (2, .str a2), (3, .ptr 0 7 0), (7, .i y4_0)]
       let E26 : Env := ((70, .bool (decide (x2_3 = x2_5))) :: (69, .bool (decide (x2_3 = x2_5))) :: (68, .bool (decide (x2_3 = x2_5))) :: (67, .i x2_5) :: (66, n25 a0) :: (65, .i x2_3) :: E25)
       let E27 : Env := [(72, .i a1), (71, n25 a0), (70, .bool true), (69, .bool true), (68, .bool true), (67, .i x2_5), (66, n25 a0), (65, .i x2_3), (64, n25 a0), (63, .bool true), (62, .bool true), (30, .bool false), (30, .bool (decide (y4_0 ≤ 31))), (29, .i y4_0), (1, .i a1), (2, .str a2), (3, .ptr 0 7 0), (7, .i y4_0)]
       let E28 : Env := ((79, .bool (x2_11 == x2_14)) :: (78, .bool (x2_11 == x2_14)) :: (77, .bool (x2_11 == x2_14)) :: (76, .bool x2_14) :: (75, .i a1) :: (74, n25 a0) :: (73, .bool x2_11) :: E27)
       let E29 : Env := [(80, n25 a0), (79, .bool true), (78, .bool true), (77, .bool true), (76, .bool x2_14), (75, .i a1), (74, n25 a0), (73, .bool x2_11), (72, .i a1), (71, n25 a0), (70, .bool true), (69, .bool true), (68, .bool true), (67, .i x2_5), (66, n25 a0), (65, .i x2_3), (64, n25 a0), (63, .bool true), (62, .bool true), (30, .bool false), (30, .bool (decide (y4_0 ≤ 31))), (29, .i y4_0), (1, .i a1), (2, .str a2), (3, .ptr 0 7 0), (7, .i y4_0)]
       let E30 : Env := ((86, .bool (x2_19 == x2_21)) :: (85, .bool (x2_19 == x2_21)) :: (84, .bool (x2_19 == x2_21)) :: (83, .bool x2_21) :: (82, n25 a0) :: (81, .bool x2_19) :: E29)
       let E31 : Env := [(88, n25 a0), (87, .str a2), (86, .bool true), (85, .bool true), (84, .bool true), (83, .bool x2_21), (82, n25 a0), (81, .bool x2_19), (80, n25 a0), (79, .bool true), (78, .bool true), (77, .bool true), (76, .bool x2_14), (75, .i a1), (74, n25 a0), (73, .bool x2_11), (72, .i a1), (71, n25 a0), (70, .bool true), (69, .bool true), (68, .bool true), (67, .i x2_5), (66, n25 a0), (65, .i x2_3), (64, n25 a0), (63, .bool true), (62, .bool true), (30, .bool false), (30, .bool (decide (y4_0 ≤ 31))), (29, .i y4_0), (1, .i a1), (2, .str a2), (3, .ptr 0 7 0), (7, .i y4_0)]
       let E32 : Env := ((6, .bool (x2_27 == x2_30)) :: (94, .bool (x2_27 == x2_30)) :: (93, .bool (x2_27 == x2_30)) :: (92, .bool x2_30) :: (91, n25 a0) :: (90, .str a2) :: (89, .bool x2_27) :: E31)
       refine oD (H' := (mkH [⟨e25 a0, 0, false⟩])) (nav [0] g3p10) E32 [(mkH [⟨e25 a0, 0, false⟩]), (mkH [⟨e25 a0, 0, false⟩]), (mkH [⟨e25 a0, 0, false⟩]), (mkH [⟨e25 a0, 0, false⟩]), (mkH [⟨e25 a0, 0, false⟩]), (mkH [⟨e25 a0, 0, false⟩]), (mkH [⟨e25 a0, 0, false⟩]), (mkH [⟨e25 a0, 0, false⟩]), (mkH [⟨e25 a0, 0, false⟩])] ⟨[], [(0, 0, 0), (1, 0, 0), (3, 1, 1), (7, 0, 0), (3, 1, 2), (31, 0, 0), (63, 0, 0), (127, 0, 0), (255, 0, 0), (511, 3, 3), (511, 0, 0), (2047, 0, 0), (511, 3, 4), (511, 0, 0), (16383, 0, 0), (32767, 0, 0), (65535, 0, 0), (131071, 0, 0), (262143, 5, 5), (524287, 0, 0), (262143, 5, 6), (2097151, 0, 0), (4194303, 0, 0), (8388607, 0, 0), (16777215, 0, 0), (33554431, 0, 0), (33554431, 7, 7), (134217727, 0, 0), (33554431, 0, 0), (33554431, 7, 8), (1073741823, 0, 0), (2147483647, 0, 0), (4294967295, 0, 0), (8589934591, 0, 0)], 34, thrown, [], H0⟩ (opsD_call (l' := (opsAt g3p10).toList.drop 1) (eE := E24) (hs := [(mkH [⟨e25 a0, 0, false⟩])]) (fi := 14) (args := []) (v := .bool x2_0) (by kernel_rfl) (by kernel_rfl) (by kernel_rfl) (g14_ok k  x2_0 hx2_0) (by kernel_rfl) (oDr 1 2 ((63, .bool x2_0) :: E24) (opsD_env (eE := [(63, .bool true), (62, .bool true), (30, .bool false), (30, .bool (decide (y4_0 ≤ 31))), (29, .i y4_0), (1, .i a1), (2, .str a2), (3, .ptr 0 7 0), (7, .i y4_0)]) (congrArg (fun z : Bool => ([(63, .bool z), (62, .bool z), (30, .bool false), (30, .bool (decide (y4_0 ≤ 31))), (29, .i y4_0), (1, .i a1), (2, .str a2), (3, .ptr 0 7 0), (7, .i y4_0)] : Env)) hb5) (oDr 1 3 E25 (opsD_call (l' := (opsAt g3p10).toList.drop 4) (eE := ((65, .i x2_3) :: E25)) (hs := [(mkH [⟨e25 a0, 0, false⟩])]) (fi := 19) (args := [n25 a0]) (v := .i x2_3) (by kernel_rfl) (by kernel_rfl) (by kernel_rfl) (g19_ok k a0 x2_3 hx2_3) (by kernel_rfl) (oDr 1 5 ((66, n25 a0) :: (65, .i x2_3) :: E25) (opsD_call (l' := (opsAt g3p10).toList.drop 6) (eE := ((67, .i x2_5) :: (66, n25 a0) :: (65, .i x2_3) :: E25)) (hs := [(mkH [⟨e25 a0, 0, false⟩])]) (fi := 20) (args := [n25 a0]) (v := .i x2_5) (by kernel_rfl) (by kernel_rfl) (by kernel_rfl) (g20_ok k a0 x2_5 hx2_5) (by kernel_rfl) (oDr 3 9 E26 (opsD_env (eE := [(70, .bool true), (69, .bool true), (68, .bool true), (67, .i x2_5), (66, n25 a0), (65, .i x2_3), (64, n25 a0), (63, .bool true), (62, .bool true), (30, .bool false), (30, .bool (decide (y4_0 ≤ 31))), (29, .i y4_0), (1, .i a1), (2, .str a2), (3, .ptr 0 7 0), (7, .i y4_0)]) (congrArg (fun z : Bool => ([(70, .bool z), (69, .bool z), (68, .bool z), (67, .i x2_5), (66, n25 a0), (65, .i x2_3), (64, n25 a0), (63, .bool true), (62, .bool true), (30, .bool false), (30, .bool (decide (y4_0 ≤ 31))), (29, .i y4_0), (1, .i a1), (2, .str a2), (3, .ptr 0 7 0), (7, .i y4_0)] : Env)) hb6) (oDr 2 11 E27 (opsD_call (l' := (opsAt g3p10).toList.drop 12) (eE := ((73, .bool x2_11) :: E27)) (hs := [(mkH [⟨e25 a0, 0, false⟩])]) (fi := 21) (args := [n25 a0, .i a1]) (v := .bool x2_11) (by kernel_rfl) (by kernel_rfl) (by kernel_rfl) (g21_ok k a0 a1 x2_11 hx2_11) (by kernel_rfl) (oDr 2 14 ((75, .i a1) :: (74, n25 a0) :: (73, .bool x2_11) :: E27) (opsD_call (l' := (opsAt g3p10).toList.drop 15) (eE := ((76, .bool x2_14) :: (75, .i a1) :: (74, n25 a0) :: (73, .bool x2_11) :: E27)) (hs := [(mkH [⟨e25 a0, 0, false⟩])]) (fi := 22) (args := [n25 a0, .i a1]) (v := .bool x2_14) (by kernel_rfl) (by kernel_rfl) (by kernel_rfl) (g22_ok k a0 a1 x2_14 hx2_14) (by kernel_rfl) (oDr 3 18 E28 (opsD_env (eE := [(79, .bool true), (78, .bool true), (77, .bool true), (76, .bool x2_14), (75, .i a1), (74, n25 a0), (73, .bool x2_11), (72, .i a1), (71, n25 a0), (70, .bool true), (69, .bool true), (68, .bool true), (67, .i x2_5), (66, n25 a0), (65, .i x2_3), (64, n25 a0), (63, .bool true), (62, .bool true), (30, .bool false), (30, .bool (decide (y4_0 ≤ 31))), (29, .i y4_0), (1, .i a1), (2, .str a2), (3, .ptr 0 7 0), (7, .i y4_0)]) (congrArg (fun z : Bool => ([(79, .bool z), (78, .bool z), (77, .bool z), (76, .bool x2_14), (75, .i a1), (74, n25 a0), (73, .bool x2_11), (72, .i a1), (71, n25 a0), (70, .bool true), (69, .bool true), (68, .bool true), (67, .i x2_5), (66, n25 a0), (65, .i x2_3), (64, n25 a0), (63, .bool true), (62, .bool true), (30, .bool false), (30, .bool (decide (y4_0 ≤ 31))), (29, .i y4_0), (1, .i a1), (2, .str a2), (3, .ptr 0 7 0), (7, .i y4_0)] : Env)) hb7) (oDr 1 19 E29 (opsD_call (l' := (opsAt g3p10).toList.drop 20) (eE := ((81, .bool x2_19) :: E29)) (hs := [(mkH [⟨e25 a0, 0, false⟩])]) (fi := 17) (args := [n25 a0]) (v := .bool x2_19) (by kernel_rfl) (by kernel_rfl) (by kernel_rfl) (g17_ok k a0 x2_19 hx2_19) (by kernel_rfl) (oDr 1 21 ((82, n25 a0) :: (81, .bool x2_19) :: E29) (opsD_call (l' := (opsAt g3p10).toList.drop 22) (eE := ((83, .bool x2_21) :: (82, n25 a0) :: (81, .bool x2_19) :: E29)) (hs := [(mkH [⟨e25 a0, 0, false⟩])]) (fi := 18) (args := [n25 a0]) (v := .bool x2_21) (by kernel_rfl) (by kernel_rfl) (by kernel_rfl) (g18_ok k a0 x2_21 hx2_21) (by kernel_rfl) (oDr 3 25 E30 (opsD_env (eE := [(86, .bool true), (85, .bool true), (84, .bool true), (83, .bool x2_21), (82, n25 a0), (81, .bool x2_19), (80, n25 a0), (79, .bool true), (78, .bool true), (77, .bool true), (76, .bool x2_14), (75, .i a1), (74, n25 a0), (73, .bool x2_11), (72, .i a1), (71, n25 a0), (70, .bool true), (69, .bool true), (68, .bool true), (67, .i x2_5), (66, n25 a0), (65, .i x2_3), (64, n25 a0), (63, .bool true), (62, .bool true), (30, .bool false), (30, .bool (decide (y4_0 ≤ 31))), (29, .i y4_0), (1, .i a1), (2, .str a2), (3, .ptr 0 7 0), (7, .i y4_0)]) (congrArg (fun z : Bool => ([(86, .bool z), (85, .bool z), (84, .bool z), (83, .bool x2_21), (82, n25 a0), (81, .bool x2_19), (80, n25 a0), (79, .bool true), (78, .bool true), (77, .bool true), (76, .bool x2_14), (75, .i a1), (74, n25 a0), (73, .bool x2_11), (72, .i a1), (71, n25 a0), (70, .bool true), (69, .bool true), (68, .bool true), (67, .i x2_5), (66, n25 a0), (65, .i x2_3), (64, n25 a0), (63, .bool true), (62, .bool true), (30, .bool false), (30, .bool (decide (y4_0 ≤ 31))), (29, .i y4_0), (1, .i a1), (2, .str a2), (3, .ptr 0 7 0), (7, .i y4_0)] : Env)) hb8) (oDr 2 27 E31 (opsD_call (l' := (opsAt g3p10).toList.drop 28) (eE := ((89, .bool x2_27) :: E31)) (hs := [(mkH [⟨e25 a0, 0, false⟩])]) (fi := 15) (args := [.str a2, n25 a0]) (v := .bool x2_27) (by kernel_rfl) (by kernel_rfl) (by kernel_rfl) (g15_ok k a2 a0 x2_27 hx2_27) (by kernel_rfl) (oDr 2 30 ((91, n25 a0) :: (90, .str a2) :: (89, .bool x2_27) :: E31) (opsD_call (l' := (opsAt g3p10).toList.drop 31) (eE := ((92, .bool x2_30) :: (91, n25 a0) :: (90, .str a2) :: (89, .bool x2_27) :: E31)) (hs := [(mkH [⟨e25 a0, 0, false⟩])]) (fi := 16) (args := [.str a2, n25 a0]) (v := .bool x2_30) (by kernel_rfl) (by kernel_rfl) (by kernel_rfl) (g16_ok k a2 a0 x2_30 hx2_30) (by kernel_rfl) (oDr 3 34 E32 .nil)))))))))))))))))))))))))) ?_
       exact oQ 1
      ·let E24 : Env := [(62, .bool x2_0), (30, .bool false), (30, .bool (decide (y4_0 ≤ 31))), (29, .i y4_0), (1, .i a1), (2, .str a2), (3, .ptr 0 7 0), (7, .i y4_0)]
       let E25 : Env := [(64, n25 a0), (63, .bool true), (62, .bool true), (30, .bool false), (30, .bool (decide (y4_0 ≤ 31))), (29, .i y4_0), (1, .i a1), (2, .str a2), (3, .ptr 0 7 0), (7, .i y4_0)]
       let E26 : Env := ((70, .bool (decide (x2_3 = x2_5))) :: (69, .bool (decide (x2_3 = x2_5))) :: (68, .bool (decide (x2_3 = x2_5))) :: (67, .i x2_5) :: (66, n25 a0) :: (65, .i x2_3) :: E25)
       let E27 : Env := [(72, .i a1), (71, n25 a0), (70, .bool true), (69, .bool true), (68, .bool true), (67, .i x2_5), (66, n25 a0), (65, .i x2_3), (64, n25 a0), (63, .bool true), (62, .bool true), (30, .bool false), (30, .bool (decide (y4_0 ≤ 31))), (29, .i y4_0), (1, .i a1), (2, .str a2), (3, .ptr 0 7 0), (7, .i y4_0)]
       let E28 : Env := ((79, .bool (x2_11 == x2_14)) :: (78, .bool (x2_11 == x2_14)) :: (77, .bool (x2_11 == x2_14)) :: (76, .bool x2_14) :: (75, .i a1) :: (74, n25 a0) :: (73, .bool x2_11) :: E27)
       let E29 : Env := [(80, n25 a0), (79, .bool true), (78, .bool true), (77, .bool true), (76, .bool x2_14), (75, .i a1), (74, n25 a0), (73, .bool x2_11), (72, .i a1), (71, n25 a0), (70, .bool true), (69, .bool true), (68, .bool true), (67, .i x2_5), (66, n25 a0), (65, .i x2_3), (64, n25 a0), (63, .bool true), (62, .bool true), (30, .bool false), (30, .bool (decide (y4_0 ≤ 31))), (29, .i y4_0), (1, .i a1), (2, .str a2), (3, .ptr 0 7 0), (7, .i y4_0)]
       let E30 : Env := ((86, .bool (x2_19 == x2_21)) :: (85, .bool (x2_19 == x2_21)) :: (84, .bool (x2_19 == x2_21)) :: (83, .bool x2_21) :: (82, n25 a0) :: (81, .bool x2_19) :: E29)
       let E33 : Env := [(6, .bool false), (94, .bool false), (93, .tuple []), (92, .tuple []), (91, .tuple []), (90, .tuple []), (89, .tuple []), (88, .tuple []), (87, .tuple []), (86, .bool false), (85, .bool false), (84, .bool false), (83, .bool x2_21), (82, n25 a0), (81, .bool x2_19), (80, n25 a0), (79, .bool true), (78, .bool true), (77, .bool true), (76, .bool x2_14), (75, .i a1), (74, n25 a0), (73, .bool x2_11), (72, .i a1), (71, n25 a0), (70, .bool true), (69, .bool true), (68, .bool true), (67, .i x2_5), (66, n25 a0), (65, .i x2_3), (64, n25 a0), (63, .bool true), (62, .bool true), (30, .bool false), (30, .bool (decide (y4_0 ≤ 31))), (29, .i y4_0), (1, .i a1), (2, .str a2), (3, .ptr 0 7 0), (7, .i y4_0)]
       refine oD (H' := (mkH [⟨e25 a0, 0, false⟩])) (nav [0] g3p10) E33 [(mkH [⟨e25 a0, 0, false⟩]), (mkH [⟨e25 a0, 0, false⟩]), (mkH [⟨e25 a0, 0, false⟩]), (mkH [⟨e25 a0, 0, false⟩]), (mkH [⟨e25 a0, 0, false⟩]), (mkH [⟨e25 a0, 0, false⟩]), (mkH [⟨e25 a0, 0, false⟩]), (mkH [⟨e25 a0, 0, false⟩]), (mkH [⟨e25 a0, 0, false⟩])] ⟨[], [(0, 0, 0), (1, 0, 0), (3, 1, 1), (7, 0, 0), (3, 1, 2), (31, 0, 0), (63, 0, 0), (127, 0, 0), (255, 0, 0), (511, 3, 3), (511, 0, 0), (2047, 0, 0), (511, 3, 4), (511, 0, 0), (16383, 0, 0), (32767, 0, 0), (65535, 0, 0), (131071, 0, 0), (262143, 5, 5), (524287, 0, 0), (262143, 5, 6), (2097151, 0, 0), (4194303, 0, 0), (8388607, 0, 0), (16777215, 0, 0), (33554431, 0, 0), (33554431, 7, 7), (134217727, 0, 0), (33554431, 0, 0), (33554431, 7, 8), (1073741823, 0, 0), (2147483647, 0, 0), (4294967295, 0, 0), (8589934591, 0, 0)], 34, thrown, [], H0⟩ (opsD_call (l' := (opsAt g3p10).toList.drop 1) (eE := E24) (hs := [(mkH [⟨e25 a0, 0, false⟩])]) (fi := 14) (args := []) (v := .bool x2_0) (by kernel_rfl) (by kernel_rfl) (by kernel_rfl) (g14_ok k  x2_0 hx2_0) (by kernel_rfl) (oDr 1 2 ((63, .bool x2_0) :: E24) (opsD_env (eE := [(63, .bool true), (62, .bool true), (30, .bool false), (30, .bool (decide (y4_0 ≤ 31))), (29, .i y4_0), (1, .i a1), (2, .str a2), (3, .ptr 0 7 0), (7, .i y4_0)]) (congrArg (fun z : Bool => ([(63, .bool z), (62, .bool z), (30, .bool false), (30, .bool (decide (y4_0 ≤ 31))), (29, .i y4_0), (1, .i a1), (2, .str a2), (3, .ptr 0 7 0), (7, .i y4_0)] : Env)) hb5) (oDr 1 3 E25 (opsD_call (l' := (opsAt g3p10).toList.drop 4) (eE := ((65, .i x2_3) :: E25)) (hs := [(mkH [⟨e25 a0, 0, false⟩])]) (fi := 19) (args := [n25 a0]) (v := .i x2_3) (by kernel_rfl) (by kernel_rfl) (by kernel_rfl) (g19_ok k a0 x2_3 hx2_3) (by kernel_rfl) (oDr 1 5 ((66, n25 a0) :: (65, .i x2_3) :: E25) (opsD_call (l' := (opsAt g3p10).toList.drop 6) (eE := ((67, .i x2_5) :: (66, n25 a0) :: (65, .i x2_3) :: E25)) (hs := [(mkH [⟨e25 a0, 0, false⟩])]) (fi := 20) (args := [n25 a0]) (v := .i x2_5) (by kernel_rfl) (by kernel_rfl) (by kernel_rfl) (g20_ok k a0 x2_5 hx2_5) (by kernel_rfl) (oDr 3 9 E26 (opsD_env (eE := [(70, .bool true), (69, .bool true), (68, .bool true), (67, .i x2_5), (66, n25 a0), (65, .i x2_3), (64, n25 a0), (63, .bool true), (62, .bool true), (30, .bool false), (30, .bool (decide (y4_0 ≤ 31))), (29, .i y4_0), (1, .i a1), (2, .str a2), (3, .ptr 0 7 0), (7, .i y4_0)]) (congrArg (fun z : Bool => ([(70, .bool z), (69, .bool z), (68, .bool z), (67, .i x2_5), (66, n25 a0), (65, .i x2_3), (64, n25 a0), (63, .bool true), (62, .bool true), (30, .bool false), (30, .bool (decide (y4_0 ≤ 31))), (29, .i y4_0), (1, .i a1), (2, .str a2), (3, .ptr 0 7 0), (7, .i y4_0)] : Env)) hb6) (oDr 2 11 E27 (opsD_call (l' := (opsAt g3p10).toList.drop 12) (eE := ((73, .bool x2_11) :: E27)) (hs := [(mkH [⟨e25 a0, 0, false⟩])]) (fi := 21) (args := [n25 a0, .i a1]) (v := .bool x2_11) (by kernel_rfl) (by kernel_rfl) (by kernel_rfl) (g21_ok k a0 a1 x2_11 hx2_11) (by kernel_rfl) (oDr 2 14 ((75, .i a1) :: (74, n25 a0) :: (73, .bool x2_11) :: E27) (opsD_call (l' := (opsAt g3p10).toList.drop 15) (eE := ((76, .bool x2_14) :: (75, .i a1) :: (74, n25 a0) :: (73, .bool x2_11) :: E27)) (hs := [(mkH [⟨e25 a0, 0, false⟩])]) (fi := 22) (args := [n25 a0, .i a1]) (v := .bool x2_14) (by kernel_rfl) (by kernel_rfl) (by kernel_rfl) (g22_ok k a0 a1 x2_14 hx2_14) (by kernel_rfl) (oDr 3 18 E28 (opsD_env (eE := [(79, .bool true), (78, .bool true), (77, .bool true), (76, .bool x2_14), (75, .i a1), (74, n25 a0), (73, .bool x2_11), (72, .i a1), (71, n25 a0), (70, .bool true), (69, .bool true), (68, .bool true), (67, .i x2_5), (66, n25 a0), (65, .i x2_3), (64, n25 a0), (63, .bool true), (62, .bool true), (30, .bool false), (30, .bool (decide (y4_0 ≤ 31))), (29, .i y4_0), (1, .i a1), (2, .str a2), (3, .ptr 0 7 0), (7, .i y4_0)]) (congrArg (fun z : Bool => ([(79, .bool z), (78, .bool z), (77, .bool z), (76, .bool x2_14), (75, .i a1), (74, n25 a0), (73, .bool x2_11), (72, .i a1), (71, n25 a0), (70, .bool true), (69, .bool true), (68, .bool true), (67, .i x2_5), (66, n25 a0), (65, .i x2_3), (64, n25 a0), (63, .bool true), (62, .bool true), (30, .bool false), (30, .bool (decide (y4_0 ≤ 31))), (29, .i y4_0), (1, .i a1), (2, .str a2), (3, .ptr 0 7 0), (7, .i y4_0)] : Env)) hb7) (oDr 1 19 E29 (opsD_call (l' := (opsAt g3p10).toList.drop 20) (eE := ((81, .bool x2_19) :: E29)) (hs := [(mkH [⟨e25 a0, 0, false⟩])]) (fi := 17) (args := [n25 a0]) (v := .bool x2_19) (by kernel_rfl) (by kernel_rfl) (by kernel_rfl) (g17_ok k a0 x2_19 hx2_19) (by kernel_rfl) (oDr 1 21 ((82, n25 a0) :: (81, .bool x2_19) :: E29) (opsD_call (l' := (opsAt g3p10).toList.drop 22) (eE := ((83, .bool x2_21) :: (82, n25 a0) :: (81, .bool x2_19) :: E29)) (hs := [(mkH [⟨e25 a0, 0, false⟩])]) (fi := 18) (args := [n25 a0]) (v := .bool x2_21) (by kernel_rfl) (by kernel_rfl) (by kernel_rfl) (g18_ok k a0 x2_21 hx2_21) (by kernel_rfl) (oDr 3 25 E30 (opsD_env (eE := [(86, .bool false), (85, .bool false), (84, .bool false), (83, .bool x2_21), (82, n25 a0), (81, .bool x2_19), (80, n25 a0), (79, .bool true), (78, .bool true), (77, .bool true), (76, .bool x2_14), (75, .i a1), (74, n25 a0), (73, .bool x2_11), (72, .i a1), (71, n25 a0), (70, .bool true), (69, .bool true), (68, .bool true), (67, .i x2_5), (66, n25 a0), (65, .i x2_3), (64, n25 a0), (63, .bool true), (62, .bool true), (30, .bool false), (30, .bool (decide (y4_0 ≤ 31))), (29, .i y4_0), (1, .i a1), (2, .str a2), (3, .ptr 0 7 0), (7, .i y4_0)]) (congrArg (fun z : Bool => ([(86, .bool z), (85, .bool z), (84, .bool z), (83, .bool x2_21), (82, n25 a0), (81, .bool x2_19), (80, n25 a0), (79, .bool true), (78, .bool true), (77, .bool true), (76, .bool x2_14), (75, .i a1), (74, n25 a0), (73, .bool x2_11), (72, .i a1), (71, n25 a0), (70, .bool true), (69, .bool true), (68, .bool true), (67, .i x2_5), (66, n25 a0), (65, .i x2_3), (64, n25 a0), (63, .bool true), (62, .bool true), (30, .bool false), (30, .bool (decide (y4_0 ≤ 31))), (29, .i y4_0), (1, .i a1), (2, .str a2), (3, .ptr 0 7 0), (7, .i y4_0)] : Env)) hb8) (oDh 9 34 E33 (mkH [⟨e25 a0, 0, false⟩]) [(mkH [⟨e25 a0, 0, false⟩]), (mkH [⟨e25 a0, 0, false⟩])] .nil)))))))))))))))))))))) ?_
       exact oQ 1
     ·let E24 : Env := [(62, .bool x2_0), (30, .bool false), (30, .bool (decide (y4_0 ≤ 31))), (29, .i y4_0), (1, .i a1), (2, .str a2), (3, .ptr 0 7 0), (7, .i y4_0)]
      let E25 : Env := [(64, n25 a0), (63, .bool true), (62, .bool true), (30, .bool false), (30, .bool (decide (y4_0 ≤ 31))), (29, .i y4_0), (1, .i a1), (2, .str a2), (3, .ptr 0 7 0), (7, .i y4_0)]
      let E26 : Env := ((70, .bool (decide (x2_3 = x2_5))) :: (69, .bool (decide (x2_3 = x2_5))) :: (68, .bool (decide (x2_3 = x2_5))) :: (67, .i x2_5) :: (66, n25 a0) :: (65, .i x2_3) :: E25)
      let E27 : Env := [(72, .i a1), (71, n25 a0), (70, .bool true), (69, .bool true), (68, .bool true), (67, .i x2_5), (66, n25 a0), (65, .i x2_3), (64, n25 a0), (63, .bool true), (62, .bool true), (30, .bool false), (30, .bool (decide (y4_0 ≤ 31))), (29, .i y4_0), (1, .i a1), (2, .str a2), (3, .ptr 0 7 0), (7, .i y4_0)]
      let E28 : Env := ((79, .bool (x2_11 == x2_14)) :: (78, .bool (x2_11 == x2_14)) :: (77, .bool (x2_11 == x2_14)) :: (76, .bool x2_14) :: (75, .i a1) :: (74, n25 a0) :: (73, .bool x2_11) :: E27)
      let E34 : Env := [(6, .bool false), (94, .bool false), (93, .tuple []), (92, .tuple []), (91, .tuple []), (90, .tuple []), (89, .tuple []), (88, .tuple []), (87, .tuple []), (86, .bool false), (85, .bool false), (84, .tuple []), (83, .tuple []), (82, .tuple []), (81, .tuple []), (80, .tuple []), (79, .bool false), (78, .bool false), (77, .bool false), (76, .bool x2_14), (75, .i a1), (74, n25 a0), (73, .bool x2_11), (72, .i a1), (71, n25 a0), (70, .bool true), (69, .bool true), (68, .bool true), (67, .i x2_5), (66, n25 a0), (65, .i x2_3), (64, n25 a0), (63, .bool true), (62, .bool true), (30, .bool false), (30, .bool (decide (y4_0 ≤ 31))), (29, .i y4_0), (1, .i a1), (2, .str a2), (3, .ptr 0 7 0), (7, .i y4_0)]
      refine oD (H' := (mkH [⟨e25 a0, 0, false⟩])) (nav [0] g3p10) E34 [(mkH [⟨e25 a0, 0, false⟩]), (mkH [⟨e25 a0, 0, false⟩]), (mkH [⟨e25 a0, 0, false⟩]), (mkH [⟨e25 a0, 0, false⟩]), (mkH [⟨e25 a0, 0, false⟩]), (mkH [⟨e25 a0, 0, false⟩]), (mkH [⟨e25 a0, 0, false⟩]), (mkH [⟨e25 a0, 0, false⟩]), (mkH [⟨e25 a0, 0, false⟩])] ⟨[], [(0, 0, 0), (1, 0, 0), (3, 1, 1), (7, 0, 0), (3, 1, 2), (31, 0, 0), (63, 0, 0), (127, 0, 0), (255, 0, 0), (511, 3, 3), (511, 0, 0), (2047, 0, 0), (511, 3, 4), (511, 0, 0), (16383, 0, 0), (32767, 0, 0), (65535, 0, 0), (131071, 0, 0), (262143, 5, 5), (524287, 0, 0), (262143, 5, 6), (2097151, 0, 0), (4194303, 0, 0), (8388607, 0, 0), (16777215, 0, 0), (33554431, 0, 0), (33554431, 7, 7), (134217727, 0, 0), (33554431, 0, 0), (33554431, 7, 8), (1073741823, 0, 0), (2147483647, 0, 0), (4294967295, 0, 0), (8589934591, 0, 0)], 34, thrown, [], H0⟩ (opsD_call (l' := (opsAt g3p10).toList.drop 1) (eE := E24) (hs := [(mkH [⟨e25 a0, 0, false⟩])]) (fi := 14) (args := []) (v := .bool x2_0) (by kernel_rfl) (by kernel_rfl) (by kernel_rfl) (g14_ok k  x2_0 hx2_0) (by kernel_rfl) (oDr 1 2 ((63, .bool x2_0) :: E24) (opsD_env (eE := [(63, .bool true), (62, .bool true), (30, .bool false), (30, .bool (decide (y4_0 ≤ 31))), (29, .i y4_0), (1, .i a1), (2, .str a2), (3, .ptr 0 7 0), (7, .i y4_0)]) (congrArg (fun z : Bool => ([(63, .bool z), (62, .bool z), (30, .bool false), (30, .bool (decide (y4_0 ≤ 31))), (29, .i y4_0), (1, .i a1), (2, .str a2), (3, .ptr 0 7 0), (7, .i y4_0)] : Env)) hb5) (oDr 1 3 E25 (opsD_call (l' := (opsAt g3p10).toList.drop 4) (eE := ((65, .i x2_3) :: E25)) (hs := [(mkH [⟨e25 a0, 0, false⟩])]) (fi := 19) (args := [n25 a0]) (v := .i x2_3) (by kernel_rfl) (by kernel_rfl) (by kernel_rfl) (g19_ok k a0 x2_3 hx2_3) (by kernel_rfl) (oDr 1 5 ((66, n25 a0) :: (65, .i x2_3) :: E25) (opsD_call (l' := (opsAt g3p10).toList.drop 6) (eE := ((67, .i x2_5) :: (66, n25 a0) :: (65, .i x2_3) :: E25)) (hs := [(mkH [⟨e25 a0, 0, false⟩])]) (fi := 20) (args := [n25 a0]) (v := .i x2_5) (by kernel_rfl) (by kernel_rfl) (by kernel_rfl) (g20_ok k a0 x2_5 hx2_5) (by kernel_rfl) (oDr 3 9 E26 (opsD_env (eE := [(70, .bool true), (69, .bool true), (68, .bool true), (67, .i x2_5), (66, n25 a0), (65, .i x2_3), (64, n25 a0), (63, .bool true), (62, .bool true), (30, .bool false), (30, .bool (decide (y4_0 ≤ 31))), (29, .i y4_0), (1, .i a1), (2, .str a2), (3, .ptr 0 7 0), (7, .i y4_0)]) (congrArg (fun z : Bool => ([(70, .bool z), (69, .bool z), (68, .bool z), (67, .i x2_5), (66, n25 a0), (65, .i x2_3), (64, n25 a0), (63, .bool true), (62, .bool true), (30, .bool false), (30, .bool (decide (y4_0 ≤ 31))), (29, .i y4_0), (1, .i a1), (2, .str a2), (3, .ptr 0 7 0), (7, .i y4_0)] : Env)) hb6) (oDr 2 11 E27 (opsD_call (l' := (opsAt g3p10).toList.drop 12) (eE := ((73, .bool x2_11) :: E27)) (hs := [(mkH [⟨e25 a0, 0, false⟩])]) (fi := 21) (args := [n25 a0, .i a1]) (v := .bool x2_11) (by kernel_rfl) (by kernel_rfl) (by kernel_rfl) (g21_ok k a0 a1 x2_11 hx2_11) (by kernel_rfl) (oDr 2 14 ((75, .i a1) :: (74, n25 a0) :: (73, .bool x2_11) :: E27) (opsD_call (l' := (opsAt g3p10).toList.drop 15) (eE := ((76, .bool x2_14) :: (75, .i a1) :: (74, n25 a0) :: (73, .bool x2_11) :: E27)) (hs := [(mkH [⟨e25 a0, 0, false⟩])]) (fi := 22) (args := [n25 a0, .i a1]) (v := .bool x2_14) (by kernel_rfl) (by kernel_rfl) (by kernel_rfl) (g22_ok k a0 a1 x2_14 hx2_14) (by kernel_rfl) (oDr 3 18 E28 (opsD_env (eE := [(79, .bool false), (78, .bool false), (77, .bool false), (76, .bool x2_14), (75, .i a1), (74, n25 a0), (73, .bool x2_11), (72, .i a1), (71, n25 a0), (70, .bool true), (69, .bool true), (68, .bool true), (67, .i x2_5), (66, n25 a0), (65, .i x2_3), (64, n25 a0), (63, .bool true), (62, .bool true), (30, .bool false), (30, .bool (decide (y4_0 ≤ 31))), (29, .i y4_0), (1, .i a1), (2, .str a2), (3, .ptr 0 7 0), (7, .i y4_0)]) (congrArg (fun z : Bool => ([(79, .bool z), (78, .bool z), (77, .bool z), (76, .bool x2_14), (75, .i a1), (74, n25 a0), (73, .bool x2_11), (72, .i a1), (71, n25 a0), (70, .bool true), (69, .bool true), (68, .bool true), (67, .i x2_5), (66, n25 a0), (65, .i x2_3), (64, n25 a0), (63, .bool true), (62, .bool true), (30, .bool false), (30, .bool (decide (y4_0 ≤ 31))), (29, .i y4_0), (1, .i a1), (2, .str a2), (3, .ptr 0 7 0), (7, .i y4_0)] : Env)) hb7) (oDh 16 34 E34 (mkH [⟨e25 a0, 0, false⟩]) [(mkH [⟨e25 a0, 0, false⟩]), (mkH [⟨e25 a0, 0, false⟩]), (mkH [⟨e25 a0, 0, false⟩]), (mkH [⟨e25 a0, 0, false⟩])] .nil)))))))))))))))) ?_
      exact oQ 1
    ·let E24 : Env := [(62, .bool x2_0), (30, .bool false), (30, .bool (decide (y4_0 ≤ 31))), (29, .i y4_0), (1, .i a1), (2, .str a2), (3, .ptr 0 7 0), (7, .i y4_0)]
     let E25 : Env := [(64, n25 a0), (63, .bool true), (62, .bool true), (30, .bool false), (30, .bool (decide (y4_0 ≤ 31))), (29, .i y4_0), (1, .i a1), (2, .str a2), (3, .ptr 0 7 0), (7, .i y4_0)]
     let E26 : Env := ((70, .bool (decide (x2_3 = x2_5))) :: (69, .bool (decide (x2_3 = x2_5))) :: (68, .bool (decide (x2_3 = x2_5))) :: (67, .i x2_5) :: (66, n25 a0) :: (65, .i x2_3) :: E25)
     let E35 : Env := [(6, .bool false), (94, .bool false), (93, .tuple []), (92, .tuple []), (91, .tuple []), (90, .tuple []), (89, .tuple []), (88, .tuple []), (87, .tuple []), (86, .bool false), (85, .bool false), (84, .tuple []), (83, .tuple []), (82, .tuple []), (81, .tuple []), (80, .tuple []), (79, .bool false), (78, .bool false), (77, .tuple []), (76, .tuple []), (75, .tuple []), (74, .tuple []), (73, .tuple []), (72, .tuple []), (71, .tuple []), (70, .bool false), (69, .bool false), (68, .bool false), (67, .i x2_5), (66, n25 a0), (65, .i x2_3), (64, n25 a0), (63, .bool true), (62, .bool true), (30, .bool false), (30, .bool (decide (y4_0 ≤ 31))), (29, .i y4_0), (1, .i a1), (2, .str a2), (3, .ptr 0 7 0), (7, .i y4_0)]
     refine oD (H' := (mkH [⟨e25 a0, 0, false⟩])) (nav [0] g3p10) E35 [(mkH [⟨e25 a0, 0, false⟩]), (mkH [⟨e25 a0, 0, false⟩]), (mkH [⟨e25 a0, 0, false⟩]), (mkH [⟨e25 a0, 0, false⟩]), (mkH [⟨e25 a0, 0, false⟩]), (mkH [⟨e25 a0, 0, false⟩]), (mkH [⟨e25 a0, 0, false⟩]), (mkH [⟨e25 a0, 0, false⟩]), (mkH [⟨e25 a0, 0, false⟩])] ⟨[], [(0, 0, 0), (1, 0, 0), (3, 1, 1), (7, 0, 0), (3, 1, 2), (31, 0, 0), (63, 0, 0), (127, 0, 0), (255, 0, 0), (511, 3, 3), (511, 0, 0), (2047, 0, 0), (511, 3, 4), (511, 0, 0), (16383, 0, 0), (32767, 0, 0), (65535, 0, 0), (131071, 0, 0), (262143, 5, 5), (524287, 0, 0), (262143, 5, 6), (2097151, 0, 0), (4194303, 0, 0), (8388607, 0, 0), (16777215, 0, 0), (33554431, 0, 0), (33554431, 7, 7), (134217727, 0, 0), (33554431, 0, 0), (33554431, 7, 8), (1073741823, 0, 0), (2147483647, 0, 0), (4294967295, 0, 0), (8589934591, 0, 0)], 34, thrown, [], H0⟩ (opsD_call (l' := (opsAt g3p10).toList.drop 1) (eE := E24) (hs := [(mkH [⟨e25 a0, 0, false⟩])]) (fi := 14) (args := []) (v := .bool x2_0) (by kernel_rfl) (by kernel_rfl) (by kernel_rfl) (g14_ok k  x2_0 hx2_0) (by kernel_rfl) (oDr 1 2 ((63, .bool x2_0) :: E24) (opsD_env (eE := [(63, .bool true), (62, .bool true), (30, .bool false), (30, .bool (decide (y4_0 ≤ 31))), (29, .i y4_0), (1, .i a1), (2, .str a2), (3, .ptr 0 7 0), (7, .i y4_0)]) (congrArg (fun z : Bool => ([(63, .bool z), (62, .bool z), (30, .bool false), (30, .bool (decide (y4_0 ≤ 31))), (29, .i y4_0), (1, .i a1), (2, .str a2), (3, .ptr 0 7 0), (7, .i y4_0)] : Env)) hb5) (oDr 1 3 E25 (opsD_call (l' := (opsAt g3p10).toList.drop 4) (eE := ((65, .i x2_3) :: E25)) (hs := [(mkH [⟨e25 a0, 0, false⟩])]) (fi := 19) (args := [n25 a0]) (v := .i x2_3) (by kernel_rfl) (by kernel_rfl) (by kernel_rfl) (g19_ok k a0 x2_3 hx2_3) (by kernel_rfl) (oDr 1 5 ((66, n25 a0) :: (65, .i x2_3) :: E25) (opsD_call (l' := (opsAt g3p10).toList.drop 6) (eE := ((67, .i x2_5) :: (66, n25 a0) :: (65, .i x2_3) :: E25)) (hs := [(mkH [⟨e25 a0, 0, false⟩])]) (fi := 20) (args := [n25 a0]) (v := .i x2_5) (by kernel_rfl) (by kernel_rfl) (by kernel_rfl) (g20_ok k a0 x2_5 hx2_5) (by kernel_rfl) (oDr 3 9 E26 (opsD_env (eE := [(70, .bool false), (69, .bool false), (68, .bool false), (67, .i x2_5), (66, n25 a0), (65, .i x2_3), (64, n25 a0), (63, .bool true), (62, .bool true), (30, .bool false), (30, .bool (decide (y4_0 ≤ 31))), (29, .i y4_0), (1, .i a1), (2, .str a2), (3, .ptr 0 7 0), (7, .i y4_0)]) (congrArg (fun z : Bool => ([(70, .bool z), (69, .bool z), (68, .bool z), (67, .i x2_5), (66, n25 a0), (65, .i x2_3), (64, n25 a0), (63, .bool true), (62, .bool true), (30, .bool false), (30, .bool (decide (y4_0 ≤ 31))), (29, .i y4_0), (1, .i a1), (2, .str a2), (3, .ptr 0 7 0), (7, .i y4_0)] : Env)) hb6) (oDh 25 34 E35 (mkH [⟨e25 a0, 0, false⟩]) [(mkH [⟨e25 a0, 0, false⟩]), (mkH [⟨e25 a0, 0, false⟩]), (mkH [⟨e25 a0, 0, false⟩]), (mkH [⟨e25 a0, 0, false⟩]), (mkH [⟨e25 a0, 0, false⟩]), (mkH [⟨e25 a0, 0, false⟩])] .nil)))))))))) ?_
     exact oQ 1
   ·let E24 : Env := [(62, .bool x2_0), (30, .bool false), (30, .bool (decide (y4_0 ≤ 31))), (29, .i y4_0), (1, .i a1), (2, .str a2), (3, .ptr 0 7 0), (7, .i y4_0)]
    let E36 : Env := [(6, .bool false), (94, .bool false), (93, .tuple []), (92, .tuple []), (91, .tuple []), (90, .tuple []), (89, .tuple []), (88, .tuple []), (87, .tuple []), (86, .bool false), (85, .bool false), (84, .tuple []), (83, .tuple []), (82, .tuple []), (81, .tuple []), (80, .tuple []), (79, .bool false), (78, .bool false), (77, .tuple []), (76, .tuple []), (75, .tuple []), (74, .tuple []), (73, .tuple []), (72, .tuple []), (71, .tuple []), (70, .bool false), (69, .bool false), (68, .tuple []), (67, .tuple []), (66, .tuple []), (65, .tuple []), (64, .tuple []), (63, .bool false), (62, .bool false), (30, .bool false), (30, .bool (decide (y4_0 ≤ 31))), (29, .i y4_0), (1, .i a1), (2, .str a2), (3, .ptr 0 7 0), (7, .i y4_0)]
    refine oD (H' := (mkH [⟨e25 a0, 0, false⟩])) (nav [0] g3p10) E36 [(mkH [⟨e25 a0, 0, false⟩]), (mkH [⟨e25 a0, 0, false⟩]), (mkH [⟨e25 a0, 0, false⟩]), (mkH [⟨e25 a0, 0, false⟩]), (mkH [⟨e25 a0, 0, false⟩]), (mkH [⟨e25 a0, 0, false⟩]), (mkH [⟨e25 a0, 0, false⟩]), (mkH [⟨e25 a0, 0, false⟩]), (mkH [⟨e25 a0, 0, false⟩])] ⟨[], [(0, 0, 0), (1, 0, 0), (3, 1, 1), (7, 0, 0), (3, 1, 2), (31, 0, 0), (63, 0, 0), (127, 0, 0), (255, 0, 0), (511, 3, 3), (511, 0, 0), (2047, 0, 0), (511, 3, 4), (511, 0, 0), (16383, 0, 0), (32767, 0, 0), (65535, 0, 0), (131071, 0, 0), (262143, 5, 5), (524287, 0, 0), (262143, 5, 6), (2097151, 0, 0), (4194303, 0, 0), (8388607, 0, 0), (16777215, 0, 0), (33554431, 0, 0), (33554431, 7, 7), (134217727, 0, 0), (33554431, 0, 0), (33554431, 7, 8), (1073741823, 0, 0), (2147483647, 0, 0), (4294967295, 0, 0), (8589934591, 0, 0)], 34, thrown, [], H0⟩ (opsD_call (l' := (opsAt g3p10).toList.drop 1) (eE := E24) (hs := [(mkH [⟨e25 a0, 0, false⟩])]) (fi := 14) (args := []) (v := .bool x2_0) (by kernel_rfl) (by kernel_rfl) (by kernel_rfl) (g14_ok k  x2_0 hx2_0) (by kernel_rfl) (oDr 1 2 ((63, .bool x2_0) :: E24) (opsD_env (eE := [(63, .bool false), (62, .bool false), (30, .bool false), (30, .bool (decide (y4_0 ≤ 31))), (29, .i y4_0), (1, .i a1), (2, .str a2), (3, .ptr 0 7 0), (7, .i y4_0)]) (congrArg (fun z : Bool => ([(63, .bool z), (62, .bool z), (30, .bool false), (30, .bool (decide (y4_0 ≤ 31))), (29, .i y4_0), (1, .i a1), (2, .str a2), (3, .ptr 0 7 0), (7, .i y4_0)] : Env)) hb5) (oDh 32 34 E36 (mkH [⟨e25 a0, 0, false⟩]) [(mkH [⟨e25 a0, 0, false⟩]), (mkH [⟨e25 a0, 0, false⟩]), (mkH [⟨e25 a0, 0, false⟩]), (mkH [⟨e25 a0, 0, false⟩]), (mkH [⟨e25 a0, 0, false⟩]), (mkH [⟨e25 a0, 0, false⟩]), (mkH [⟨e25 a0, 0, false⟩]), (mkH [⟨e25 a0, 0, false⟩])] .nil)))) ?_
    exact oQ 1
def g3 (k : Nat) (a0 : S24) (a1 : Int) (a2 : (List Nat)) : Option Bool :=
 jn (fun (z3 : Bool) => if z3 then ((g14 k).bind fun x0_0 => some x0_0) else (g3_l4 k a0 a1 a2 k 0)) (fun j3 => if (decide (100 < (a0.f1.length : Int))) then (j3 true) else (if (decide (20 < (a2.length : Int))) then (j3 true) else (if (decide (a0.f0 = 1)) then (j3 (eqL a0.f1 [])) else (j3 false))))
theorem g3_ok (k : Nat) (a0 : S24) (a1 : Int) (a2 : (List Nat)) (r : Bool) (h : g3 k a0 a1 a2 = some r) : PureOk Try.prog 3 [.agg [.i a0.f0, .str a0.f1, q25 a0.f2, .bool a0.f3, .bool a0.f4, w9 a0.f5, w9 a0.f6], .i a1, .str a2] (.bool r) := by
 refine pure_of Xg3 (fun _ => ⟨rfl, rfl⟩) Try.func3 (by decide +kernel) (by kernel_rfl) (t := g3 k a0 a1 a2) ?_ h
 unfold g3
 refine oE (eE := [(0, .agg [.i a0.f0, .str a0.f1, q25 a0.f2, .bool a0.f3, .bool a0.f4, w9 a0.f5, w9 a0.f6]), (1, .i a1), (2, .str a2)]) (by kernel_rfl) ?_
 let E1 : Env := [(13, .bool (decide (100 < (a0.f1.length : Int)))), (12, .bool (decide (100 < (a0.f1.length : Int)))), (11, .i (a0.f1.length : Int)), (10, .str a0.f1), (9, .ptr 0 7 1), (6, .bool false), (3, .ptr 0 7 0), (0, n25 a0), (1, .i a1), (2, .str a2)]
 refine oH 13 (atN 5 (ctl1 g3p1)) E1 (mkH [⟨e25 a0, 0, false⟩]) ?_
 refine oJ g3p2 (fun (z3 : Bool) => [(1, .i a1), (2, .str a2), (3, .ptr 0 7 0), (27, .bool z3)]) (fun (z3 : Bool) => (mkH [⟨e25 a0, 0, false⟩])) (fun z3 => ?_) (fun j3 hj3 => ?_)
 ·refine oS 27 (fun hb => ?_) (fun hb => ?_)
  ·refine oH 3 (atN 0 (ctl1 g3p3)) [(27, .bool true), (1, .i a1), (2, .str a2), (3, .ptr 0 7 0), (27, .bool z3)] (mkH [⟨e25 a0, 0, false⟩]) ?_
   refine oA (fun (x0_0 : Bool) => .bool x0_0) (atN 1 (ctl1 g3p3)) 28 [] (g14_ok k ) fun x0_0 hx0_0 => ?_
   exact oQ 3
  ·refine oLH 9 g3p6 [(1, .i a1), (2, .str a2), (3, .ptr 0 7 0), (7, .i 0)] (mkH [⟨e25 a0, 0, false⟩]) ?_
   exact (g3_l4_ok k a0 a1 a2 k) 0
 ·refine oS 13 (fun hb => ?_) (fun hb => ?_)
  ·refine oLH 15 g3p2 [(1, .i a1), (2, .str a2), (3, .ptr 0 7 0), (27, .bool true)] (mkH [⟨e25 a0, 0, false⟩]) ?_
   exact hj3 true
  ·let E40 : Env := ((18, .bool (decide (20 < (a2.length : Int)))) :: (17, .bool (decide (20 < (a2.length : Int)))) :: (16, .bool (decide (20 < (a2.length : Int)))) :: (15, .i (a2.length : Int)) :: (14, .str a2) :: (13, .bool false) :: E1)
   refine oH 5 (atN 10 (ctl1 g3p1)) E40 (mkH [⟨e25 a0, 0, false⟩]) ?_
   refine oS 18 (fun hb => ?_) (fun hb => ?_)
   ·refine oL 10 g3p2 [(1, .i a1), (2, .str a2), (3, .ptr 0 7 0), (27, .bool true)] ?_
    exact hj3 true
   ·refine oR 4 (atN 14 (ctl1 g3p1)) ((22, .bool (decide (a0.f0 = 1))) :: (21, .bool (decide (a0.f0 = 1))) :: (20, .i a0.f0) :: (19, .ptr 0 7 0) :: (18, .bool false) :: E40) ?_
    refine oS 22 (fun hb => ?_) (fun hb => ?_)
    ·refine oL 6 g3p2 [(1, .i a1), (2, .str a2), (3, .ptr 0 7 0), (27, .bool (eqL a0.f1 []))] ?_
     exact hj3 (eqL a0.f1 [])
    ·refine oL 6 g3p2 [(1, .i a1), (2, .str a2), (3, .ptr 0 7 0), (27, .bool false)] ?_
     exact hj3 false
end
end Go.Proofs.Ytbmijiibfaacmaa.Am
set_option linter.unusedVariables false
namespace Go.Proofs.Ytbmijiibfaacmaa.Am
open Go Go.ChangeShapes Go.WideShapes
def mpOf (fz : List (Nat × List AV)) : Mp := ⟨fun _ _ => none, fun i => fz[i]?⟩
theorem law_walk_fz {P : Program} {n : Nat} {xs : List AV} {args : Array Value} (h : PureOk P n xs (.bool true)) (w : World) (fz : List (Nat × List AV)) (hargs : VRs (mpOf fz) xs args.toList)
 (hfz : ∀ p ∈ fz, ∃ cs ty fr, w.heap[p.1]? = some (.cells cs ty fr) ∧ p.2.length ≤ cs.size ∧ VRs (mpOf fz) p.2 (cs.toList.take p.2.length)) :
 Calls P n args w fun e W' => e = .returned (.bool true) ∧ RowKit.Below w.heap.size w W' := by
 refine Calls.mono (h.1 (mpOf fz) w args (fun _ _ => rfl) hargs ?_) ?_
 ·refine ⟨?_, ?_, ?_, fun _ _ => rfl, ?_, ?_, ?_, ⟨fz.length, fun i hi => List.getElem?_eq_none hi⟩, Nat.le_refl _, by show 0 ≤ roots; unfold roots; omega⟩
  ·intro r b v B N hb hm; cases hm
  ·intro r v B N hm; cases hm
  ·intro r v B N r' v' N' hm; cases hm
  ·intro r v B N hm; cases hm
  ·intro i B cells hi
   exact hfz (B, cells) (List.mem_of_getElem? hi)
  ·intro i B cells r v N b _ hm; cases hm
 ·rintro e w' ⟨m', c, rfl, q1, q2, q3⟩
  simp only [VR] at q3
  exact ⟨by rw [q3], q2.below (Nat.le_refl _)⟩
theorem VRs_all {m : Mp} : ∀ {xs : List AV} {cs : List Value}, xs.length = cs.length → (∀ (i : Nat) x c, xs[i]? = some x → cs[i]? = some c → VR m x c) → VRs m xs cs
 | [], [], _, _ => by simp only [VRs]
 | [], _ :: _, h, _ => by cases h
 | _ :: _, [], h, _ => by cases h
 | x :: xs, c :: cs, h, k => by
  simp only [VRs]
  exact ⟨c, cs, rfl, k 0 x c rfl rfl, VRs_all (by simpa using h) (fun i x' c' hx hc => k (i + 1) x' c' (by simpa using hx) (by simpa using hc))⟩
theorem cell_add {w : World} {x : Addr} {i : Nat} {v : Value} (h : w.cell? (x.add i) = some v) : ∃ cs ty fr, w.heap[x.block]? = some (.cells cs ty fr) ∧ cs[x.off + i]? = some v ∧ (i = 0 → x.spot = none) := by
 have hb : (x.add i).block = x.block := by unfold Addr.add; split <;> rfl
 have ho : (x.add i).off = x.off + i := by unfold Addr.add; split <;> simp_all
 have hs : i = 0 → (x.add i).spot = x.spot := by intro e; subst e; rfl
 unfold World.cell? at h
 rw [hb, ho] at h
 cases hw : w.heap[x.block]? with
 | none => rw [hw] at h; cases h
 | some o =>
  rw [hw] at h
  cases o with
  | cells cs ty fr =>
   simp only [] at h
   cases hsp : (x.add i).spot with
   | none => rw [hsp] at h; exact ⟨cs, ty, fr, rfl, by simpa using h, fun e => by rw [← hs e, hsp]⟩
   | some q => rw [hsp] at h; simp at h
  | _ => simp at h
section
variable {H : Type} {enc : TypeId × Value → H} {P : Program} {w : World} {base : Nat} {held : Bool}
end
end Go.Proofs.Ytbmijiibfaacmaa.Am
