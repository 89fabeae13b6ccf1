/- LawPlaceJoins, part 2: whatever the input, the law comes out true: our texts, joined by a tool, without what the claim does not name. -/
import Derived.Test.YtabhkocokojddaaPkPlaceJoins1
import Derived.KernelRfl
import Derived.Recover
import Derived.Lib.OthersKept
import Derived.Laws.RangeString
import Derived.Test.YtabhkocokojddaaProg
import Derived.Below
import Derived.Test.YtabhkocokojddaaRows
import Derived.WalkKit
import Derived.ProofKit
import Derived.OpenShut
import Derived.ShutString
import Derived.ChangeOld
import Derived.SizedLaws
set_option linter.unusedVariables false
set_option linter.unusedSimpArgs false
namespace Go.Proofs.Ytabhkocokojddaa.Am
open Go
theorem RW.still {m : Mp} {H : Hp} {w : World} {base : Nat} (h : RW m H w base) : RW m.still H0 w w.heap.size where
 blk := by intro r b v B N hb hm; cases hm
 dom := by intro r v B N hm; cases hm
 sep := by intro r v B N r' v' N' hm; cases hm
 fresh := by intro r _; rfl
 vle := by intro r v B N hm; cases hm
 frz := h.frz
 fsep := by intro i B cells r v N b _ hm; cases hm
 ffin := h.ffin
 base_le := Nat.le_refl _
 low := by show 0 ≤ roots; unfold roots; omega
def PureOk (P : Program) (f : Nat) (xs : List AV) (v : AV) : Prop :=
 (∀ (m0 : Mp) (w : World) (args : Array Value), (∀ r v, m0 r v = none) → VRs m0 xs args.toList → RW m0 H0 w w.heap.size → Calls P f args w fun x w' => ∃ m' c, x = .returned c ∧ RW m' H0 w' w.heap.size ∧ St m0 w w.heap.size m' w' ∧ VR m' v c) ∧
 (∃ fn, P.funcs[f]? = some fn ∧ (fn.name == "runtime.NumGoroutine") = false ∧ fn.body.isSome = true)
theorem pure_call {P : Program} {f : Nat} {xs : List AV} {v : AV} (h : PureOk P f xs v) (hx : purs xs = true) (hv : pur v = true) (H : Hp) : CallV P f xs H v H := by
 refine ⟨?_, h.2⟩
 intro m w base args hargs rw
 refine Calls.mono (h.1 m.still w args (fun _ _ => rfl) (purs_VR _ _ hx hargs) rw.still) ?_
 rintro x w' ⟨m', c, rfl, rw', st', hvc⟩
 have hnone : ∀ r v, m' r v = none := by
  intro r v
  cases e : m' r v with
  | none => rfl
  | some p =>
   obtain ⟨b, hb, _⟩ := rw'.dom r v p.1 p.2 e
   cases hb
 have hsame : ∀ B, B < w.heap.size → w'.heap[B]? = w.heap[B]? := fun B hB => st'.same B hB (fun _ _ _ hm => by cases hm)
 have hsub : Sub m ⟨m.map, m'.froz⟩ := ⟨fun _ _ _ h => h, st'.sub.2⟩
 refine ⟨⟨m.map, m'.froz⟩, c, rfl, ⟨?_, ?_, rw.sep, rw.fresh, rw.vle, rw'.frz, ?_, rw'.ffin, Nat.le_trans rw.base_le st'.size, rw.low⟩, ⟨hsub, fun r v B N e => .inl ⟨v, N, e⟩, ?_, st'.size, st'.os, st'.tape, st'.output, fun B hB _ => hsame B hB⟩, ?_⟩
 ·intro r b v B N hb hm h1 h2
  obtain ⟨cs, ty, fr, q1, q2, q3, q4, q5⟩ := rw.blk r b v B N hb hm h1 h2
  obtain ⟨_, _, _, hlt, _⟩ := rw.dom r v B N hm
  exact ⟨cs, ty, fr, by rw [hsame B hlt]; exact q1, q2, q3, q4, VRs.mono hsub _ _ q5⟩
 ·intro r v B N hm
  obtain ⟨b, q1, q2, q3, q4⟩ := rw.dom r v B N hm
  exact ⟨b, q1, q2, Nat.lt_of_lt_of_le q3 st'.size, q4⟩
 ·intro i B cells r v N b hi hm hb
  rcases st'.fext i B cells hi with hi' | ⟨hB, _⟩
  ·exact rw.fsep i B cells r v N b hi' hm hb
  ·obtain ⟨_, _, _, hlt, _⟩ := rw.dom r v B N hm
   omega
 ·intro i B cells e
  rcases st'.fext i B cells e with hi' | ⟨hB, _⟩
  ·exact .inl hi'
  ·exact .inr ⟨Nat.le_trans rw.base_le hB, .inr hB⟩
 ·have h1 := pur_VR v c hv hvc
  exact VR.mono (m := m'.still) (m' := ⟨m.map, m'.froz⟩) ⟨fun _ _ _ h => (by cases h), fun _ _ h => h⟩ v c h1
inductive Fr where
 | seq (b : Code) | block (id : Nat) | loop (b : Code) | scope (b : Code)
inductive Pt where
 | code (c : Code) (K : List Fr)
 | ops (o : Array Oper) (n : Nat) (K : List Fr)
 | loop (b : Code) (K : List Fr)
 | fin
def FinK (P : Program) (Q : Exit → Act → World → Prop) : List Fr → Exit → Act → World → Prop
 | [] => Q
 | .seq b :: K => Exit.then (b.wp P (FinK P Q K)) (FinK P Q K)
 | .block id :: K => Exit.inBlock id (FinK P Q K)
 | .loop b :: K => Exit.then (LoopWp P b (FinK P Q K)) (FinK P Q K)
 | .scope b :: K => fun e a w => match e with | .goto l => ∃ rest, findLabel b l = some rest ∧ ScopeWp P b rest (FinK P Q K) a w | e => FinK P Q K e a w
def At (P : Program) (Q : Exit → Act → World → Prop) : Pt → Act → World → Prop
 | .code c K, a, w => c.wp P (FinK P Q K) a w
 | .ops o n K, a, w => wpOps P o (FinK P Q K) (List.range' n (o.size - n)) a w
 | .loop b K, a, w => LoopWp P b (FinK P Q K) a w
 | .fin, a, w => Q .normal a w ∧ Q .ret a w
def resume : List Fr → Pt
 | [] => .fin
 | .seq b :: K => .code b K
 | .block _ :: K => resume K
 | .loop b :: K => .loop b K
 | .scope _ :: K => resume K
theorem resume_ok {P : Program} {Q : Exit → Act → World → Prop} {a : Act} {w : World} : ∀ {K : List Fr}, At P Q (resume K) a w → FinK P Q K .normal a w
 | [], h => h.1
 | .seq b :: K, h => h
 | .block id :: K, h => by show Exit.inBlock id (FinK P Q K) .normal a w; exact resume_ok (K := K) h
 | .loop b :: K, h => h
 | .scope b :: K, h => resume_ok (K := K) h
def exitK (id : Nat) : List Fr → Option Pt
 | [] => none
 | .block j :: K => if id = j then some (resume K) else exitK id K
 | .seq _ :: K => exitK id K
 | .loop _ :: K => exitK id K
 | .scope _ :: K => exitK id K
theorem exitK_ok {P : Program} {Q : Exit → Act → World → Prop} {a : Act} {w : World} {id : Nat} {p : Pt} : ∀ {K : List Fr}, exitK id K = some p → At P Q p a w → FinK P Q K (.exit id) a w
 | [], h, _ => by cases h
 | .seq b :: K, h, k => exitK_ok (K := K) h k
 | .loop b :: K, h, k => exitK_ok (K := K) h k
 | .scope b :: K, h, k => exitK_ok (K := K) h k
 | .block j :: K, h, k => by
  simp only [exitK] at h
  show Exit.inBlock j (FinK P Q K) (.exit id) a w
  simp only [Exit.inBlock]
  split at h
  ·rename_i e
   cases h
   rw [if_pos e]
   exact resume_ok k
  ·rename_i e
   rw [if_neg e]
   exact exitK_ok h k
def gotoK (l : Nat) : List Fr → Option Pt
 | [] => none
 | .scope b :: K => match findLabel b l with | some rest => some (.code rest (.scope b :: K)) | none => none
 | .block _ :: K => gotoK l K
 | .seq _ :: K => gotoK l K
 | .loop _ :: K => gotoK l K
theorem scope_ok {P : Program} {Q : Exit → Act → World → Prop} {a : Act} {w : World} {b c : Code} {K : List Fr} (h : c.wp P (FinK P Q (.scope b :: K)) a w) : ScopeWp P b c (FinK P Q K) a w :=
 ScopeWp.of (wp_mono h fun e a1 w1 he => by cases e <;> exact he)
theorem gotoK_ok {P : Program} {Q : Exit → Act → World → Prop} {a : Act} {w : World} {l : Nat} {p : Pt} : ∀ {K : List Fr}, gotoK l K = some p → At P Q p a w → FinK P Q K (.goto l) a w
 | [], h, _ => by cases h
 | .seq b :: K, h, k => gotoK_ok (K := K) h k
 | .loop b :: K, h, k => gotoK_ok (K := K) h k
 | .block b :: K, h, k => gotoK_ok (K := K) h k
 | .scope b :: K, h, k => by
  simp only [gotoK] at h
  split at h
  ·rename_i rest hf
   cases h
   exact ⟨rest, hf, scope_ok k⟩
  ·cases h
theorem retK_ok {P : Program} {Q : Exit → Act → World → Prop} {a : Act} {w : World} (h : Q .ret a w) : ∀ (K : List Fr), FinK P Q K .ret a w
 | [] => h
 | .seq b :: K => retK_ok h K
 | .loop b :: K => retK_ok h K
 | .block b :: K => retK_ok h K
 | .scope b :: K => retK_ok h K
inductive FzG (n0 : Nat) (H : Hp) : List AV → List AV → Prop where
 | pures {xs} : purs xs = true → FzG n0 H xs xs
 | cons {x xs ys} : pur x = true → FzG n0 H xs ys → FzG n0 H (x :: xs) (x :: ys)
 | nil {sz xs ys} : FzG n0 H xs ys → FzG n0 H (.nils :: xs) (.vec 0 sz [] :: ys)
 | own {r len sz cells cells' minv xs ys} : Nat.ble n0 r = true → H.t.get r = some ⟨cells, minv, false⟩ → cells.length = len * sz → minv ≤ len * sz → FzG n0 H cells cells' → FzG n0 H xs ys → FzG n0 H (.own r len sz :: xs) (.vec len sz cells' :: ys)
 | slice {r len sz v cells cells' minv xs ys} : Nat.ble n0 r = true → H.t.get r = some ⟨cells, minv, false⟩ → cells.length = len * sz → v = len * sz → minv ≤ len * sz → FzG n0 H cells cells' → FzG n0 H xs ys → FzG n0 H (.slice r v 0 len sz :: xs) (.vec len sz cells' :: ys)
 | agg {xs ys zs us} : FzG n0 H xs ys → FzG n0 H zs us → FzG n0 H (.agg xs :: zs) (.agg ys :: us)
 | tuple {xs ys zs us} : FzG n0 H xs ys → FzG n0 H zs us → FzG n0 H (.tuple xs :: zs) (.tuple ys :: us)
structure FOk (n0 : Nat) (m : Mp) (F : Nat → Option (Nat × List AV)) (w : World) (base : Nat) : Prop where
 ok : ∀ i B cells, F i = some (B, cells) → ∃ cs ty fr, w.heap[B]? = some (.cells cs ty fr) ∧ cells.length ≤ cs.size ∧ VRs ⟨fun _ _ => none, F⟩ cells (cs.toList.take cells.length)
 fin : ∃ n, ∀ i, n ≤ i → F i = none
 new : ∀ i B cells, F i = some (B, cells) → m.froz i = some (B, cells) ∨ base ≤ B ∧ ∃ r v N, n0 ≤ r ∧ m r v = some (B, N)
 sub : ∀ i p, m.froz i = some p → F i = some p
theorem FzG.length {n0 : Nat} {H : Hp} {xs ys : List AV} (h : FzG n0 H xs ys) : ys.length = xs.length := by
 induction h <;> simp_all
theorem fOk_add {n0 : Nat} {m : Mp} {F : Nat → Option (Nat × List AV)} {w : World} {base B : Nat} {cells : List AV} {cs : Array Value} {ty : TypeId} {fr : Nat × Nat} (h : FOk n0 m F w base) (hB : base ≤ B) (hmB : ∃ r v N, n0 ≤ r ∧ m r v = some (B, N)) (hw : w.heap[B]? = some (.cells cs ty fr)) (hl : cells.length ≤ cs.size) (hv : VRs ⟨fun _ _ => none, F⟩ cells (cs.toList.take cells.length)) :
 ∃ F' i, FOk n0 m F' w base ∧ F' i = some (B, cells) ∧ (∀ i p, F i = some p → F' i = some p) := by
 obtain ⟨n, hn⟩ := h.fin
 have hsub : ∀ i p, F i = some p → (fun i => if i = n then some (B, cells) else F i) i = some p := by
  intro i p hi
  simp only
  rw [if_neg]
  ·exact hi
  ·rintro rfl; rw [hn _ (Nat.le_refl _)] at hi; cases hi
 have hS : Sub ⟨fun _ _ => none, F⟩ ⟨fun _ _ => none, fun i => if i = n then some (B, cells) else F i⟩ := ⟨fun _ _ _ e => (by cases e), hsub⟩
 refine ⟨fun i => if i = n then some (B, cells) else F i, n, ⟨?_, ⟨n + 1, fun i hi => ?_⟩, ?_, fun i p hi => hsub i p (h.sub i p hi)⟩, by simp, hsub⟩
 ·intro i B' cells' hi
  by_cases e : i = n
  ·simp only [e, if_true] at hi
   cases hi
   exact ⟨cs, ty, fr, hw, hl, VRs.mono hS _ _ hv⟩
  ·simp only [e, if_false] at hi
   obtain ⟨cs2, ty2, fr2, h1, h2, h3⟩ := h.ok i B' cells' hi
   exact ⟨cs2, ty2, fr2, h1, h2, VRs.mono hS _ _ h3⟩
 ·have hne : ¬ i = n := by omega
  show (if i = n then some (B, cells) else F i) = none
  rw [if_neg hne]
  exact hn i (by omega)
 ·intro i B' cells' hi
  by_cases e : i = n
  ·simp only [e, if_true] at hi
   cases hi
   exact .inr ⟨hB, hmB⟩
  ·simp only [e, if_false] at hi
   exact h.new i B' cells' hi
theorem vec_nil (m : Mp) (sz : Nat) : VR m (.vec 0 sz []) (.slice none 0 0) := by
 simp only [VR]
 exact ⟨by simp, none, 0, rfl, Nat.le_refl _, by simp, by simp⟩
theorem fz_ok {n0 : Nat} {m : Mp} {H : Hp} {w : World} {base : Nat} (rw : RW m H w base) {xs ys : List AV} (h : FzG n0 H xs ys) : ∀ {cs : List Value} {F : Nat → Option (Nat × List AV)}, FOk n0 m F w base → VRs m xs cs → ∃ F', FOk n0 m F' w base ∧ (∀ i p, F i = some p → F' i = some p) ∧ VRs ⟨fun _ _ => none, F'⟩ ys cs := by
 have still : ∀ {F : Nat → Option (Nat × List AV)}, FOk n0 m F w base → Sub m.still ⟨fun _ _ => none, F⟩ := fun hF => ⟨fun _ _ _ e => (by cases e), hF.sub⟩
 have grow : ∀ {F F' : Nat → Option (Nat × List AV)}, (∀ i p, F i = some p → F' i = some p) → Sub ⟨fun _ _ => none, F⟩ ⟨fun _ _ => none, F'⟩ := fun h => ⟨fun _ _ _ e => (by cases e), h⟩
 have block : ∀ {r len sz minv cap B N : Nat} {cells cells' : List AV}, Nat.ble n0 r = true → H.t.get r = some ⟨cells, minv, false⟩ → cells.length = len * sz → minv ≤ len * sz → cells'.length = cells.length →
  (∀ {cs : List Value} {F : Nat → Option (Nat × List AV)}, FOk n0 m F w base → VRs m cells cs → ∃ F', FOk n0 m F' w base ∧ (∀ i p, F i = some p → F' i = some p) ∧ VRs ⟨fun _ _ => none, F'⟩ cells' cs) →
  ∀ {F : Nat → Option (Nat × List AV)}, FOk n0 m F w base → m r (len * sz) = some (B, N) → len ≤ cap → ∃ F', FOk n0 m F' w base ∧ (∀ i p, F i = some p → F' i = some p) ∧ VR ⟨fun _ _ => none, F'⟩ (.vec len sz cells') (.slice (some ⟨B, 0, none⟩) len cap) := by
  intro r len sz minv cap B N cells cells' h0r hb hl hmin hl' ih F hF hm hcap
  obtain ⟨cs, ty, fr, q1, q2, q3, q4, q5⟩ := rw.blk _ _ _ _ _ hb hm hmin (by rw [hl]; exact Nat.le_refl _)
  obtain ⟨b0, hb0, _, _, hbase⟩ := rw.dom _ _ _ _ hm
  rw [hb] at hb0
  cases hb0
  simp only at q5
  rw [List.take_of_length_le (by omega)] at q5
  obtain ⟨F1, h1, h2, h3⟩ := ih hF q5
  obtain ⟨F2, i, g1, g2, g3⟩ := fOk_add h1 (hbase rfl) ⟨r, _, _, Nat.le_of_ble_eq_true h0r, hm⟩ q1 (cells := cells') (by omega) (by rw [hl', hl]; exact h3)
  refine ⟨F2, g1, fun i p hi => g3 i p (h2 i p hi), ?_⟩
  simp only [VR]
  refine ⟨by omega, _, cap, rfl, hcap, fun e => (by cases e), fun _ => ⟨i, B, 0, cells', g2, rfl, ?_, by omega⟩⟩
  rw [List.drop_zero, List.take_of_length_le (by omega)]
 induction h with
 | pures hp =>
  intro cs F hF hv
  exact ⟨F, hF, fun _ _ h => h, VRs.mono (still hF) _ _ (purs_VR _ _ hp hv)⟩
 | cons hp _ ih =>
  intro cs F hF hv
  simp only [VRs] at hv ⊢
  obtain ⟨y, ys, rfl, h1, h2⟩ := hv
  obtain ⟨F', g1, g2, g3⟩ := ih hF h2
  exact ⟨F', g1, g2, y, ys, rfl, VR.mono (still g1) _ _ (pur_VR _ _ hp h1), g3⟩
 | nil _ ih =>
  intro cs F hF hv
  simp only [VRs] at hv ⊢
  obtain ⟨y, ys, rfl, h1, h2⟩ := hv
  obtain ⟨F', g1, g2, g3⟩ := ih hF h2
  simp only [VR] at h1
  subst h1
  exact ⟨F', g1, g2, _, ys, rfl, vec_nil _ _, g3⟩
 | @own r len sz cells cells' minv xs ys h0r hb hl hmin hc _ ih1 ih2 =>
  intro cs F hF hv
  simp only [VRs] at hv
  obtain ⟨c, cs', rfl, h1, h2⟩ := hv
  simp only [VR] at h1
  rcases h1 with ⟨h0, rfl⟩ | ⟨B, N, cap, hm, hcap, hN, rfl⟩
  ·obtain ⟨F', g1, g2, g3⟩ := ih2 hF h2
   refine ⟨F', g1, g2, ?_⟩
   subst h0
   obtain rfl : cells' = [] := List.length_eq_zero_iff.1 (by rw [hc.length]; omega)
   simp only [VRs]
   exact ⟨_, _, rfl, vec_nil _ _, g3⟩
  ·obtain ⟨F1, g1, g2, g3⟩ := block h0r hb hl hmin hc.length ih1 hF hm hcap
   obtain ⟨F', e1, e2, e3⟩ := ih2 g1 h2
   refine ⟨F', e1, fun i p hi => e2 i p (g2 i p hi), ?_⟩
   simp only [VRs]
   exact ⟨_, _, rfl, VR.mono (grow e2) _ _ g3, e3⟩
 | @slice r len sz v cells cells' minv xs ys h0r hb hl hv0 hmin hc _ ih1 ih2 =>
  intro cs F hF hv
  simp only [VRs] at hv
  obtain ⟨c, cs', rfl, h1, h2⟩ := hv
  simp only [VR] at h1
  obtain ⟨B, N, cap, hm, _, hcap, hN, rfl⟩ := h1
  subst hv0
  obtain ⟨F1, g1, g2, g3⟩ := block h0r hb hl hmin hc.length ih1 hF hm hcap
  obtain ⟨F', e1, e2, e3⟩ := ih2 g1 h2
  refine ⟨F', e1, fun i p hi => e2 i p (g2 i p hi), ?_⟩
  simp only [VRs]
  exact ⟨_, _, rfl, VR.mono (grow e2) _ _ g3, e3⟩
 | agg _ _ ih1 ih2 =>
  intro cs F hF hv
  simp only [VRs, VR] at hv ⊢
  obtain ⟨c, cs', rfl, ⟨zs, rfl, h1⟩, h2⟩ := hv
  obtain ⟨F1, g1, g2, g3⟩ := ih1 hF h1
  obtain ⟨F', e1, e2, e3⟩ := ih2 g1 h2
  exact ⟨F', e1, fun i p hi => e2 i p (g2 i p hi), _, _, rfl, ⟨zs, rfl, VRs.mono (grow e2) _ _ g3⟩, e3⟩
 | tuple _ _ ih1 ih2 =>
  intro cs F hF hv
  simp only [VRs, VR] at hv ⊢
  obtain ⟨c, cs', rfl, ⟨zs, rfl, h1⟩, h2⟩ := hv
  obtain ⟨F1, g1, g2, g3⟩ := ih1 hF h1
  obtain ⟨F', e1, e2, e3⟩ := ih2 g1 h2
  exact ⟨F', e1, fun i p hi => e2 i p (g2 i p hi), _, _, rfl, ⟨zs, rfl, VRs.mono (grow e2) _ _ g3⟩, e3⟩
structure Fx (R : Type) where
 P : Program
 C : Cx
 fn : Func
 enc : R → AV
 n0 : Nat
 fin : R → Hp
 hti : ∀ t i, C.ti t = some i → mkTi P t = some i
 ord : P.follows .mixedOrders = true
 thr : R → Option (Value × List Nat)
 dfs : Bool
section
variable {R : Type} (X : Fx R)
def Ret (r : R) (m0 : Mp) (w0 : World) (b0 : Nat) : Exit → Act → World → Prop :=
 match X.dfs with
 | true => bodyPostD X.P X.fn (EndT (X.thr r) (X.enc r) (X.fin r) m0 w0 b0)
 | false => bodyPost X.P X.fn (EndT (X.thr r) (X.enc r) (X.fin r) m0 w0 b0)
theorem ret_ret {X : Fx R} {r : R} {m0 : Mp} {w0 : World} {b0 : Nat} {a : Act} {w : World} {c : Value} (hd : a.defers = []) (h1 : (results X.fn a.tmps).run X.P w = .ok c w) (h2 : EndT (X.thr r) (X.enc r) (X.fin r) m0 w0 b0 (.returned c) w) : Ret X r m0 w0 b0 .normal a w ∧ Ret X r m0 w0 b0 .ret a w := by
 have : Leaves X.P X.fn a.tmps (EndT (X.thr r) (X.enc r) (X.fin r) m0 w0 b0) a.defers .returning w := by rw [hd]; exact ⟨c, h1, h2⟩
 unfold Ret
 cases X.dfs
 ·exact ⟨⟨hd, c, h1, h2⟩, ⟨hd, c, h1, h2⟩⟩
 ·exact ⟨this, this⟩
theorem ret_calls {X : Fx R} {r : R} {m0 : Mp} {w0 : World} {b0 : Nat} {f : Nat} {c : Code} {args : Array Value} {w : World} (hf : X.P.funcs[f]? = some X.fn) (hc : X.fn.body = some c) (h : c.wp X.P (Ret X r m0 w0 b0) { tmps := args ++ Array.replicate (X.fn.ntmps - args.size) undef, defers := [] } w) : Calls X.P f args w (EndT (X.thr r) (X.enc r) (X.fin r) m0 w0 b0) := by
 unfold Ret at h
 cases hd : X.dfs with
 | true => rw [hd] at h; exact calls_of_wp_defers hf hc h
 | false => rw [hd] at h; exact calls_of_wp hf hc h
def Ok (p : Pt) (env : Env) (H : Hp) (t : Option R) : Prop := ∀ r, t = some r → ∀ (m0 : Mp) (w0 : World) (b0 : Nat) (m : Mp) (w : World) (a : Act), ((∀ r v p, m0 r v = some p → r < X.n0) ∧ b0 ≤ w0.heap.size) → FR m env a.tmps → X.fn.ntmps ≤ a.tmps.size → a.defers = [] → RW m H w b0 → St m0 w0 b0 m w → At X.P (Ret X r m0 w0 b0) p a w
end
section
variable {R : Type} {X : Fx R} {p p' : Pt} {env eE : Env} {H H' : Hp}
theorem ok_none : Ok X p env H none := by intro r h; cases h
theorem ok_bind {α : Type} {m : Option α} {f : α → Option R} (h : ∀ x, m = some x → Ok X p env H (f x)) : Ok X p env H (m.bind f) := by
 intro r hr
 cases hm : m with
 | none => rw [hm] at hr; cases hr
 | some x => rw [hm] at hr; exact h x hm r hr
theorem ok_less {t : Option R} (h : Less env eE) (k : Ok X p eE H t) : Ok X p env H t :=
 fun r hr m0 w0 b0 m w a h0 fr hn hd rw st => k r hr m0 w0 b0 m w a h0 (fr.less h) hn hd rw st
theorem ok_keep {t : Option R} (ks : List Nat) (h : keepOnly env ks = eE) (k : Ok X p eE H t) : Ok X p env H t :=
 ok_less (h ▸ less_keepOnly ks env) k
theorem oE {t : Option R} (h : env = eE) (k : Ok X p eE H t) : Ok X p env H t := h ▸ k
theorem less_put {d : Nat} {v : AV} (h : look env d = v) : Less env (putE env d v) := by
 intro t
 rw [look_put]
 split
 ·rename_i e; subst e; exact .inr h.symm
 ·exact .inr rfl
theorem ok_split {t1 t2 : Option R} (d : Nat) {b : Bool} (h : look env d = .bool b) (k1 : b = true → Ok X p ((d, .bool true) :: env) H t1) (k2 : b = false → Ok X p ((d, .bool false) :: env) H t2) : Ok X p env H (if b then t1 else t2) := by
 cases b with
 | true => exact ok_less (less_put h) (k1 rfl)
 | false => exact ok_less (less_put h) (k2 rfl)
abbrev jn {α R : Type} (f : α → Option R) (b : (α → Option R) → Option R) : Option R := b f
theorem oJ {α : Type} {f : α → Option R} {b : (α → Option R) → Option R} (pj : Pt) (E : α → Env) (G : α → Hp) (k1 : ∀ x, Ok X pj (E x) (G x) (f x)) (k2 : ∀ j : α → Option R, (∀ x, Ok X pj (E x) (G x) (j x)) → Ok X p env H (b j)) : Ok X p env H (jn f b) := k2 f k1
theorem ok_stp {t : Option R} {ops : Array Oper} {n : Nat} {K : List Fr} {o : Oper} {v : AV} (ho : ops[n]? = some o) (hd : dstOk X.fn.ntmps o = true) (hw : wantedV o ops.toList env = some true) (hs : Stp X.P X.C env H o v H') (k : Ok X (.ops ops (n + 1) K) (putV env o.dst v) H' t) : Ok X (.ops ops n K) env H t := by
 intro r hr m0 w0 b0 m w a h0 fr hn hdf rw st
 show wpOps X.P ops _ (List.range' n (ops.size - n)) a w
 have hlt : n < ops.size := (Array.getElem?_eq_some_iff.1 ho).1
 rw [show ops.size - n = (ops.size - (n + 1)) + 1 by omega, List.range'_succ]
 simp only [wpOps, ho]
 rw [wanted_ok hw fr]
 simp only [if_true]
 refine .inl ?_
 refine stp_ok X.hti hs fr rw _ _ fun m' w' c q1 q2 q3 => ?_
 obtain ⟨f1, f2, f3⟩ := act_put_frame (fr.mono q2.sub) hn hdf o hd v c q3
 exact k r hr m0 w0 b0 m' w' _ h0 f1 f2 f3 q1 (st.trans h0.2 q2)
theorem ok_skp {t : Option R} {ops : Array Oper} {n : Nat} {K : List Fr} {o : Oper} (ho : ops[n]? = some o) (hd : dstOk X.fn.ntmps o = true) (hw : wantedV o ops.toList env = some false) (k : Ok X (.ops ops (n + 1) K) (putV env o.dst (.tuple [])) H t) : Ok X (.ops ops n K) env H t := by
 intro r hr m0 w0 b0 m w a h0 fr hn hdf rw st
 show wpOps X.P ops _ (List.range' n (ops.size - n)) a w
 have hlt : n < ops.size := (Array.getElem?_eq_some_iff.1 ho).1
 rw [show ops.size - n = (ops.size - (n + 1)) + 1 by omega, List.range'_succ]
 simp only [wpOps, ho]
 rw [wanted_ok hw fr]
 simp only [Bool.false_eq_true, if_false]
 obtain ⟨f1, f2, f3⟩ := act_put_frame fr hn hdf o hd (.tuple []) undef (VR_undef _)
 exact k r hr m0 w0 b0 m w _ h0 f1 f2 f3 rw st
theorem ok_go {t : Option R} (h : ∀ (Q : Exit → Act → World → Prop) (a : Act) (w : World), True → At X.P Q p' a w → At X.P Q p a w) (k : Ok X p' env H t) : Ok X p env H t :=
 fun r hr m0 w0 b0 m w a h0 fr hn hd rw st => h _ a w trivial (k r hr m0 w0 b0 m w a h0 fr hn hd rw st)
end
end Go.Proofs.Ytabhkocokojddaa.Am
set_option linter.unusedVariables false
set_option linter.unusedSimpArgs false
namespace Go.Proofs.Ytabhkocokojddaa.Am
open Go
section
variable {R : Type} {X : Fx R} {p p' : Pt} {env eE : Env} {H H' : Hp}
noncomputable def stepV (C : Cx) (n : Nat) (p : Pt) (env : Env) (H : Hp) : Option (Pt × Env × Hp) :=
 match p with
 | .ops ops k K => match nth ops.toList k with
  | some o => bif dstOk n o then (match wantedV o ops.toList env with
   | some true => (match opV C env H o with | some (v, H') => some (.ops ops (k + 1) K, putV env o.dst v, H') | none => none)
   | some false => some (.ops ops (k + 1) K, putV env o.dst (.tuple []), H)
   | none => none) else none
  | none => some (resume K, env, H)
 | .code c K => match c with
  | .seq a b => some (.code a (.seq b :: K), env, H)
  | .skip => some (resume K, env, H)
  | .label _ => some (resume K, env, H)
  | .block id b => some (.code b (.block id :: K), env, H)
  | .scope b => some (.code b (.scope b :: K), env, H)
  | .loop b => some (.loop b K, env, H)
  | .exit id => match exitK id K with | some q => some (q, env, H) | none => none
  | .goto l => match gotoK l K with | some q => some (q, env, H) | none => none
  | .ret => some (.fin, env, H)
  | .region id ops draw => bif draw then none else some (.ops ops 0 K, env, H)
  | .cond c x y => match opnd env c with | .bool b => some (.code (bif b then x else y) K, env, H) | _ => none
  | _ => none
 | _ => none
theorem fin_ops {t : Option R} {ops : Array Oper} {n : Nat} {K : List Fr} (h : ops[n]? = none) (k : Ok X (resume K) env H t) : Ok X (.ops ops n K) env H t := by
 intro r hr m0 w0 b0 m w a h0 fr hn hd rw st
 show wpOps X.P ops _ (List.range' n (ops.size - n)) a w
 have hle : ops.size ≤ n := by
  rcases Nat.lt_or_ge n ops.size with h1 | h1
  ·rw [Array.getElem?_eq_getElem h1] at h; cases h
  ·exact h1
 rw [show ops.size - n = 0 by omega]
 exact resume_ok (k r hr m0 w0 b0 m w a h0 fr hn hd rw st)
theorem stepV_ok {t : Option R} (h : stepV X.C X.fn.ntmps p env H = some (p', eE, H')) (k : Ok X p' eE H' t) : Ok X p env H t := by
 cases p with
 | ops ops n K =>
  simp only [stepV] at h
  rw [nth_eq, Array.getElem?_toList] at h
  cases ho : ops[n]? with
  | none => rw [ho] at h; cases h; exact fin_ops ho k
  | some o =>
   rw [ho] at h
   simp only at h
   cases hd : dstOk X.fn.ntmps o with
   | false => rw [hd] at h; cases h
   | true =>
    rw [hd] at h
    simp only [cond_true] at h
    split at h
    ·rename_i hw
     split at h
     ·rename_i v H1 hv
      cases h
      exact ok_stp ho hd hw (.inl hv) k
     ·cases h
    ·rename_i hw
     cases h
     exact ok_skp ho hd hw k
    ·cases h
 | code c K =>
  cases c <;> simp only [stepV] at h
  case seq x y => cases h; exact ok_go (p' := .code x (.seq y :: K)) (fun Q a w _ hh => wp_seq (wp_mono hh fun e a w he => by cases e <;> exact he)) k
  case skip => cases h; exact ok_go (fun Q a w _ hh => wp_skip (resume_ok hh)) k
  case label => cases h; exact ok_go (fun Q a w _ hh => wp_label (resume_ok hh)) k
  case block id b => cases h; exact ok_go (p' := .code b (.block id :: K)) (fun Q a w _ hh => wp_block hh) k
  case scope b => cases h; exact ok_go (p' := .code b (.scope b :: K)) (fun Q a w _ hh => (scope_ok hh).wp) k
  case loop b => cases h; exact ok_go (p' := .loop _ _) (fun Q a w _ hh => LoopWp.wp hh) k
  case exit id =>
   split at h
   ·rename_i q hq
    cases h
    exact ok_go (fun Q a w _ hh => wp_exit (exitK_ok hq hh)) k
   ·cases h
  case goto l =>
   split at h
   ·rename_i q hq
    cases h
    exact ok_go (fun Q a w _ hh => wp_goto (gotoK_ok hq hh)) k
   ·cases h
  case ret => cases h; exact ok_go (p' := .fin) (fun Q a w _ hh => wp_ret (retK_ok hh.2 K)) k
  case region id ops draw =>
   cases draw with
   | true => cases h
   | false =>
    cases h
    refine ok_go (fun Q a w _ hh => wp_region ?_) k
    have hh' : wpOps X.P ops (FinK X.P Q K) (List.range' 0 (ops.size - 0)) a w := hh
    rw [List.range_eq_range']
    exact hh'
  case cond c x y =>
   split at h
   ·rename_i b hb
    cases h
    intro r hr m0 w0 b0 m w a h0 fr hn hd rw st
    have hc := opnd_ok fr c
    rw [hb] at hc
    simp only [VR] at hc
    refine wp_cond hc ?_
    have := k r hr m0 w0 b0 m w a h0 fr hn hd rw st
    cases b <;> exact this
   ·cases h
  all_goals cases h
 | loop b K => cases h
 | fin => cases h
noncomputable def runV (C : Cx) (n : Nat) (k : Nat) : Pt → Env → Hp → Option (Pt × Env × Hp) :=
 Nat.rec (motive := fun _ => Pt → Env → Hp → Option (Pt × Env × Hp)) (fun p env H => some (p, env, H))
  (fun _ ih p env H => match stepV C n p env H with | some (p', eE, H') => ih p' eE H' | none => none) k
theorem ok_run {t : Option R} : ∀ (k : Nat) {p : Pt} {env : Env} {H : Hp}, runV X.C X.fn.ntmps k p env H = some (p', eE, H') → Ok X p' eE H' t → Ok X p env H t
 | 0, p, env, H, h, g => by
  have h' : some (p, env, H) = some (p', eE, H') := h
  cases h'
  exact g
 | k + 1, p, env, H, h, g => by
  have h' : (match stepV X.C X.fn.ntmps p env H with | some (p', eE, H') => runV X.C X.fn.ntmps k p' eE H' | none => none) = some (p', eE, H') := h
  split at h'
  ·rename_i p1 env1 H1 hs
   exact stepV_ok hs (ok_run k h' g)
  ·cases h'
def entL : Pt → Option Pt
 | .loop b K => some (.code b (.loop b :: K))
 | _ => none
theorem ok_ent {t : Option R} (h : entL p = some p') (k : Ok X p' env H t) : Ok X p env H t := by
 cases p <;> simp only [entL] at h <;> cases h
 exact ok_go (p' := .code _ (.loop _ :: _)) (fun Q a w _ hh => LoopWp.of (wp_mono hh fun e a w he => by cases e <;> exact he)) k
noncomputable def operAt (n : Nat) (p : Pt) (env : Env) : Option Oper :=
 match p with
 | .ops ops k K => match nth ops.toList k with
  | some o => bif dstOk n o then (match wantedV o ops.toList env with | some true => some o | _ => none) else none
  | none => none
 | _ => none
def adv : Pt → Pt
 | .ops ops k K => .ops ops (k + 1) K
 | q => q
noncomputable def evalAt (C : Cx) (n : Nat) (p : Pt) (env : Env) (H : Hp) : Option (AV × Hp) :=
 match operAt n p env with | some o => opV C env H o | none => none
noncomputable def advE (n : Nat) (p : Pt) (env : Env) (v : AV) : Option (Pt × Env) :=
 match operAt n p env with | some o => some (adv p, putV env o.dst v) | none => none
noncomputable def callAt (n : Nat) (p : Pt) (env : Env) : Option (Nat × List AV) :=
 match operAt n p env with
 | some o => match o.op with
  | .call c => match c.callee with
   | .value g => match opnd env g with
    | .func f first caps => some (f, first ++ opnds env c.args.toList ++ caps)
    | _ => none
   | _ => none
  | _ => none
 | none => none
theorem operAt_spec {n : Nat} {o : Oper} (h : operAt n p env = some o) : ∃ ops k K, p = .ops ops k K ∧ ops[k]? = some o ∧ dstOk n o = true ∧ wantedV o ops.toList env = some true := by
 cases p <;> simp only [operAt] at h <;> try (cases h; done)
 rename_i ops k K
 rw [nth_eq, Array.getElem?_toList] at h
 cases ho : ops[k]? with
 | none => rw [ho] at h; cases h
 | some o' =>
  rw [ho] at h
  simp only at h
  cases hd : dstOk n o' with
  | false => rw [hd] at h; cases h
  | true =>
   rw [hd] at h
   simp only [cond_true] at h
   split at h
   ·rename_i hw
    cases h
    exact ⟨ops, k, K, rfl, ho, hd, hw⟩
   ·cases h
theorem ok_val {t : Option R} {v : AV} (h : evalAt X.C X.fn.ntmps p env H = some (v, H')) (ha : advE X.fn.ntmps p env v = some (p', eE)) (k : Ok X p' eE H' t) : Ok X p env H t := by
 unfold evalAt at h
 unfold advE at ha
 cases ho : operAt X.fn.ntmps p env with
 | none => rw [ho] at h; cases h
 | some o =>
  rw [ho] at h ha
  simp only at h ha
  cases ha
  obtain ⟨ops, n, K, rfl, h1, h2, h3⟩ := operAt_spec ho
  exact ok_stp h1 h2 h3 (.inl h) k
theorem ok_chk {α : Type} {m : Option α} {f : α → Option R} (g : α → AV × Hp) (p' : Pt) (E : α → Env) (h : evalAt X.C X.fn.ntmps p env H = m.map g) (ha : ∀ x, advE X.fn.ntmps p env (g x).1 = some (p', E x)) (k : ∀ x, m = some x → Ok X p' (E x) (g x).2 (f x)) : Ok X p env H (m.bind f) := by
 refine ok_bind fun x hx => ?_
 subst hx
 exact ok_val (v := (g x).1) (H' := (g x).2) h (ha x) (k x rfl)
theorem ok_call {α : Type} {m : Option α} {f : α → Option R} {fi : Nat} {args : List AV} (g : α → AV) (p' : Pt) (E : α → Env) (hc : callAt X.fn.ntmps p env = some (fi, args)) (hp : purs args = true) (hg : ∀ x, pur (g x) = true) (hf : ∀ x, m = some x → PureOk X.P fi args (g x)) (ha : ∀ x, advE X.fn.ntmps p env (g x) = some (p', E x)) (k : ∀ x, m = some x → Ok X p' (E x) H (f x)) : Ok X p env H (m.bind f) := by
 refine ok_bind fun x hx => ?_
 have hpo := pure_call (hf x hx) hp (hg x) H
 have hax := ha x
 unfold advE at hax
 unfold callAt at hc
 cases ho : operAt X.fn.ntmps p env with
 | none => rw [ho] at hax; cases hax
 | some o =>
  rw [ho] at hax hc
  simp only [Option.some.injEq, Prod.mk.injEq] at hax hc
  obtain ⟨e1, e2⟩ := hax
  obtain ⟨ops, n, K, rfl, h1, h2, h3⟩ := operAt_spec ho
  have kx := k x hx
  rw [← e1, ← e2] at kx
  split at hc
  ·rename_i c hoc
   split at hc
   ·rename_i q hq
    split at hc
    ·rename_i fi' first caps hfv
     cases hc
     exact ok_stp h1 h2 h3 (.inr ⟨c, q, fi, first, caps, hoc, hq, hfv, hpo⟩) kx
    ·cases hc
   ·cases hc
  ·cases hc
def drawAt : Pt → Option Pt
 | .code (.region _ _ true) K => some (resume K)
 | _ => none
def opsAt : Pt → Array Oper
 | .code (.region _ ops _) _ => ops
 | _ => #[]
noncomputable def rdOp (C : Cx) (env : Env) (hs : List Hp) (o : Oper) (j : Nat) : List (Option (AV × Hp) × Option (AV × Hp)) :=
 match nth hs j with
 | some H => [(opV C env H o, match o.dst with | some d => some (look env d, H) | none => opV C env H o)]
 | none => []
noncomputable def rdOps (C : Cx) (env : Env) (hs : List Hp) (o : Oper) : Nat → Nat → List (Option (AV × Hp) × Option (AV × Hp))
 | _, 0 => []
 | lo, n + 1 => rdOp C env hs o lo ++ rdOps C env hs o (lo + 1) n
noncomputable def rdL (C : Cx) (D : DP) (all : List Oper) (env : Env) (hs : List Hp) : Nat → List Oper → List (Nat × Nat × Nat) → List (Option (AV × Hp) × Option (AV × Hp))
 | c, o :: l, (mk, lo, hi) :: pl => (bif Nat.beq (clsS D.S o) 1 && !(mk.testBit D.tI) && !(Nat.beq lo c && Nat.beq hi c) then (match wantedV o all env with | some true => rdOps C env hs o lo (hi + 1 - lo) | _ => []) else []) ++ rdL C D all env hs (bif Nat.beq (clsS D.S o) 2 then c + 1 else c) l pl
 | _, _, _ => []
theorem rdOps_at {C : Cx} {env : Env} {hs : List Hp} {o : Oper} : ∀ (n lo j : Nat) (H : Hp), lo ≤ j → j < lo + n → hs[j]? = some H → (opV C env H o, match o.dst with | some d => some (look env d, H) | none => opV C env H o) ∈ rdOps C env hs o lo n
 | 0, lo, j, H, h1, h2, _ => by omega
 | n + 1, lo, j, H, h1, h2, h3 => by
  rw [rdOps, List.mem_append]
  by_cases e : lo = j
  ·subst e
   left
   unfold rdOp
   rw [nth_eq, h3]
   simp
  ·exact .inr (rdOps_at n (lo + 1) j H (by omega) (by omega) h3)
theorem rdL_at {C : Cx} {D : DP} {all : List Oper} {env : Env} {hs : List Hp} : ∀ (l : List Oper) (pl : List (Nat × Nat × Nat)) (c i : Nat) (o : Oper) (mk lo hi : Nat), l[i]? = some o → pl[i]? = some (mk, lo, hi) → mk.testBit D.tI = false → clsS D.S o = 1 → wantedV o all env = some true → ¬ (lo = c + (l.take i).countP (fun p => Nat.beq (clsS D.S p) 2) ∧ hi = c + (l.take i).countP (fun p => Nat.beq (clsS D.S p) 2)) → ∀ j, lo ≤ j → j ≤ hi → ∀ H, hs[j]? = some H → (opV C env H o, match o.dst with | some d => some (look env d, H) | none => opV C env H o) ∈ rdL C D all env hs c l pl
 | [], pl, c, i, o, mk, lo, hi, ho, _, _, _, _, _, j, _, _, H, _ => by simp at ho
 | p :: l, [], c, i, o, mk, lo, hi, ho, hp, _, _, _, _, j, _, _, H, _ => by simp at hp
 | p :: l, (mk0, lo0, hi0) :: pl, c, i, o, mk, lo, hi, ho, hp, hmk, hc, hw, hn, j, h1, h2, H, hj => by
  rw [rdL, List.mem_append]
  cases i with
  | zero =>
   simp at ho hp
   subst ho
   obtain ⟨rfl, rfl, rfl⟩ := hp
   left
   have e : Nat.beq (clsS D.S p) 1 = true := by rw [hc]; rfl
   have e2 : (Nat.beq lo0 c && Nat.beq hi0 c) = false := by
    cases h : (Nat.beq lo0 c && Nat.beq hi0 c) with
    | false => rfl
    | true =>
     simp only [Bool.and_eq_true] at h
     refine absurd (a := lo0 = c ∧ hi0 = c) ⟨Nat.eq_of_beq_eq_true h.1, Nat.eq_of_beq_eq_true h.2⟩ ?_
     simpa using hn
   rw [e, e2, hw, hmk]
   exact rdOps_at _ _ _ _ h1 (by omega) hj
  | succ i =>
   refine .inr (rdL_at l pl _ i o mk lo hi (by simpa using ho) (by simpa using hp) hmk hc hw ?_ j h1 h2 H hj)
   rw [List.take_succ_cons, List.countP_cons] at hn
   cases hb : Nat.beq (clsS D.S p) 2 with
   | true => rw [hb] at hn; simp only [if_true] at hn; simp only [cond_true]; omega
   | false => rw [hb] at hn; simp only [Bool.false_eq_true, if_false] at hn; simp only [cond_false]; omega
theorem alike_of {C : Cx} {D : DP} {ops : Array Oper} {env : Env} {hs : List Hp} (hsome : (rdL C D ops.toList env hs 0 ops.toList D.pl).all (fun q => q.1.isSome) = true) (h : (rdL C D ops.toList env hs 0 ops.toList D.pl).map (·.1) = (rdL C D ops.toList env hs 0 ops.toList D.pl).map (·.2)) : AlikeP C D ops env hs := by
 intro i o mk lo hi ho hp hmk hc hw hn j h1 h2 H hj
 have hm := rdL_at (C := C) (D := D) _ _ 0 i o mk lo hi ho hp hmk hc hw (by simpa using hn) j h1 h2 H hj
 have e : opV C env H o = (match o.dst with | some d => some (look env d, H) | none => opV C env H o) := by
  have key : ∀ l : List (Option (AV × Hp) × Option (AV × Hp)), l.map (·.1) = l.map (·.2) → ∀ q ∈ l, q.1 = q.2 := by
   intro l
   induction l with
   | nil => intro _ q hq; cases hq
   | cons x l ih =>
    intro hl q hq
    simp only [List.map_cons, List.cons.injEq] at hl
    rcases List.mem_cons.1 hq with rfl | hq
    ·exact hl.1
    ·exact ih hl.2 q hq
  exact key _ h _ hm
 have hs1 := List.all_eq_true.1 hsome _ hm
 cases hd : o.dst with
 | none =>
  simp only at hs1
  obtain ⟨⟨v, H1⟩, hv⟩ := Option.isSome_iff_exists.1 hs1
  have := opV_reads (by rw [← clsS_of (fzn_cls (S := D.S) (o := o) (by omega))]; exact hc) hv
  subst this
  exact ⟨v, hv, fun d hd => by cases hd⟩
 | some d =>
  rw [hd] at e
  exact ⟨_, e, fun d' hd' => by cases hd'; rfl⟩
theorem ok_draw {t : Option R} (D : DP) {hs : List Hp} (h : drawAt p = some p') (hti : Nat.ble (opsAt p).size D.tI = true) (hp : planOk D.S (opsAt p) D.pl = true) (hds : (opsAt p).toList.all (dstOk X.fn.ntmps) = true) (hD : OpsD X.P X.C D (opsAt p).toList (opsAt p).toList env H eE hs) (hsome : (rdL X.C D (opsAt p).toList eE (H :: hs) 0 (opsAt p).toList D.pl).all (fun q => q.1.isSome) = true) (hq : (rdL X.C D (opsAt p).toList eE (H :: hs) 0 (opsAt p).toList D.pl).map (·.1) = (rdL X.C D (opsAt p).toList eE (H :: hs) 0 (opsAt p).toList D.pl).map (·.2)) (hl : lastH H hs = H') (k : Ok X p' eE H' t) : Ok X p env H t := by
 subst hl
 unfold drawAt at h
 split at h
 ·rename_i id ops K
  cases h
  intro r hr m0 w0 b0 m w a h0 fr hn hd rw st
  have hge := Nat.le_of_ble_eq_true hti
  show (Code.region id ops true).wp X.P _ a w
  refine drawS_ok (id := id) X.hti X.ord hds hp hD (alike_of hsome hq) fr hn hd rw ?_ fun a m w w' hlt => absurd hlt (Nat.not_lt.2 hge)
  rintro a' w' _ ⟨_, m', q1, q2, q3, q4, q5⟩
  exact resume_ok (k r hr m0 w0 b0 m' w' a' h0 q3 q4 q5 q1 (st.trans h0.2 q2))
 ·cases h
noncomputable def runD (C : Cx) (D : DP) (all : List Oper) (k : Nat) : List Oper → Env → Hp → Option (List Oper × Env × Hp × List Hp) :=
 Nat.rec (motive := fun _ => List Oper → Env → Hp → Option (List Oper × Env × Hp × List Hp)) (fun l env H => some (l, env, H, []))
  (fun _ ih l env H => match l with
   | [] => none
   | o :: l => bif Nat.beq (all.length - (l.length + 1)) D.tI then none else match wantedV o all env with
    | none => none
    | some false => (match ih l (putV env o.dst (.tuple [])) H with
     | some (l', e, H', hs) => some (l', e, H', bif Nat.beq (clsS D.S o) 2 then H :: hs else hs)
     | none => none)
    | some true => (match evS C D.S env H o with
     | some (v, H1) => (match ih l (putV env o.dst v) H1 with
      | some (l', e, H', hs) => some (l', e, H', bif Nat.beq (clsS D.S o) 2 then H1 :: hs else hs)
      | none => none)
     | none => none)) k
theorem opsD_run {P : Program} {C : Cx} {D : DP} {all : List Oper} {e : Env} {hs2 : List Hp} : ∀ (k : Nat) {l l' : List Oper} {env eE : Env} {H H' : Hp} {hs : List Hp}, runD C D all k l env H = some (l', eE, H', hs) → OpsD P C D all l' eE H' e hs2 → OpsD P C D all l env H e (hs ++ hs2)
 | 0, l, l', env, eE, H, H', hs, h, g => by
  have h' : some (l, env, H, ([] : List Hp)) = some (l', eE, H', hs) := h
  cases h'
  exact g
 | k + 1, [], l', env, eE, H, H', hs, h, g => by cases h
 | k + 1, o :: l, l', env, eE, H, H', hs, h, g => by
  have h' : (bif Nat.beq (all.length - (l.length + 1)) D.tI then none else match wantedV o all env with
   | none => none
   | some false => (match runD C D all k l (putV env o.dst (.tuple [])) H with
    | some (l', e, H', hs) => some (l', e, H', bif Nat.beq (clsS D.S o) 2 then H :: hs else hs)
    | none => none)
   | some true => (match evS C D.S env H o with
    | some (v, H1) => (match runD C D all k l (putV env o.dst v) H1 with
     | some (l', e, H', hs) => some (l', e, H', bif Nat.beq (clsS D.S o) 2 then H1 :: hs else hs)
     | none => none)
    | none => none)) = some (l', eE, H', hs) := h
  cases hix : Nat.beq (all.length - (l.length + 1)) D.tI with
  | true => rw [hix] at h'; cases h'
  | false =>
  rw [hix] at h'
  simp only [cond_false] at h'
  split at h'
  ·cases h'
  ·rename_i hw
   split at h'
   ·rename_i hr
    cases h'
    have := OpsD.skip (P := P) hix hw (opsD_run k hr g)
    cases hc : Nat.beq (clsS D.S o) 2 <;> rw [hc] at this <;> exact this
   ·cases h'
  ·rename_i hw
   split at h'
   ·rename_i v H1 hv
    split at h'
    ·rename_i hr
     cases h'
     have := OpsD.val (P := P) hix hw (.inl hv) (opsD_run k hr g)
     cases hc : Nat.beq (clsS D.S o) 2 <;> rw [hc] at this <;> exact this
    ·cases h'
   ·cases h'
noncomputable def headO (all l : List Oper) (env : Env) : Option Oper := match l with | o :: _ => (match wantedV o all env with | some true => some o | _ => none) | [] => none
noncomputable def evalD (C : Cx) (D : DP) (all l : List Oper) (env : Env) (H : Hp) : Option (AV × Hp) := match headO all l env with | some o => evS C D.S env H o | none => none
noncomputable def advD (D : DP) (all l : List Oper) (env : Env) (v : AV) (H : Hp) : Option (List Oper × Env × List Hp) := bif Nat.beq (all.length - l.length) D.tI then none else match headO all l env with | some o => some (l.tail, putV env o.dst v, bif Nat.beq (clsS D.S o) 2 then [H] else []) | none => none
theorem headO_spec {all l : List Oper} {o : Oper} (h : headO all l env = some o) : ∃ r, l = o :: r ∧ wantedV o all env = some true := by
 unfold headO at h
 split at h
 ·rename_i o' r
  split at h
  ·rename_i hw; cases h; exact ⟨r, rfl, hw⟩
  ·cases h
 ·cases h
theorem opsD_one {P : Program} {C : Cx} {D : DP} {all l l' : List Oper} {e : Env} {hs hs2 : List Hp} {o : Oper} {v : AV} (ho : headO all l env = some o) (hs0 : StpS P C D.S env H o v H') (ha : advD D all l env v H' = some (l', eE, hs)) (g : OpsD P C D all l' eE H' e hs2) : OpsD P C D all l env H e (hs ++ hs2) := by
 unfold advD at ha
 cases hix : Nat.beq (all.length - l.length) D.tI with
 | true => rw [hix] at ha; cases ha
 | false =>
 rw [hix, ho] at ha
 cases ha
 obtain ⟨r, rfl, hw⟩ := headO_spec ho
 have := OpsD.val hix hw hs0 g
 cases hc : Nat.beq (clsS D.S o) 2 <;> rw [hc] at this <;> exact this
theorem opsD_chk {P : Program} {C : Cx} {D : DP} {all l l' : List Oper} {e : Env} {hs hs2 : List Hp} {α : Type} {m : Option α} {x : α} (g : α → AV × Hp) (h : evalD C D all l env H = m.map g) (hx : m = some x) (ha : advD D all l env (g x).1 (g x).2 = some (l', eE, hs)) (k : OpsD P C D all l' eE (g x).2 e hs2) : OpsD P C D all l env H e (hs ++ hs2) := by
 subst hx
 unfold evalD at h
 cases ho : headO all l env with
 | none => rw [ho] at h; cases h
 | some o =>
  rw [ho] at h
  exact opsD_one (v := (g x).1) ho (.inl h) ha k
noncomputable def mkT (n : Nat) (l : List Blk) : Tr :=
 List.rec (motive := fun _ => Nat → Tr) (fun _ => .nil) (fun b _ ih n => PT.set depth (ih (n + 1)) n b) l n
theorem mkT_nil (n : Nat) : mkT n [] = .nil := rfl
theorem mkT_cons (n : Nat) (b : Blk) (l : List Blk) : mkT n (b :: l) = PT.set depth (mkT (n + 1) l) n b := rfl
noncomputable def mkH (l : List Blk) : Hp := ⟨l.length, mkT 0 l⟩
theorem mkT_get : ∀ (l : List Blk) (n i : Nat), n + l.length ≤ roots → (mkT n l).get i = if n ≤ i then l[i - n]? else none
 | [], n, i, _ => by
  rw [mkT_nil]
  simp only [List.getElem?_nil, ite_self]
  exact PT.get_nil i
 | b :: l, n, i, h => by
  simp only [List.length_cons] at h
  by_cases e : n = i
  ·subst e
   rw [mkT_cons, Tr.get_set_eq _ _ _ _ (by unfold roots at h; unfold depth; omega)]
   simp
  ·rw [mkT_cons, Tr.get_set_ne _ _ _ _ _ e, mkT_get l (n + 1) i (by omega)]
   by_cases h1 : n ≤ i
   ·rw [if_pos (by omega), if_pos h1, show i - n = (i - (n + 1)) + 1 by omega, List.getElem?_cons_succ]
   ·rw [if_neg (by omega), if_neg h1]
mutual
def below (n : Nat) : AV → Bool
 | .ptr r _ _ => Nat.blt r n
 | .slice r _ _ _ _ => Nat.blt r n
 | .own r _ _ => Nat.blt r n
 | .agg xs => belows n xs
 | .tuple xs => belows n xs
 | .func _ a b => belows n a && belows n b
 | .iface _ v => below n v
 | _ => true
def belows (n : Nat) : List AV → Bool
 | [] => true
 | x :: xs => below n x && belows n xs
end
def Mp.cut (m : Mp) (n : Nat) : Mp := ⟨fun r v => if r < n then m r v else none, m.froz⟩
mutual
theorem below_VR {m : Mp} {n : Nat} : ∀ (x : AV) (c : Value), below n x = true → VR m x c → VR (m.cut n) x c
 | .top, _, _, _ => by simp only [VR]
 | .int .., _, _, e => by simpa only [VR] using e
 | .resid .., _, _, e => by simpa only [VR] using e
 | .bool _, _, _, e => by simpa only [VR] using e
 | .str _, _, _, e => by simpa only [VR] using e
 | .nilp, _, _, e => by simpa only [VR] using e
 | .nils, _, _, e => by simpa only [VR] using e
 | .nilf, _, _, e => by simpa only [VR] using e
 | .nili, _, _, e => by simpa only [VR] using e
 | .vec .., _, _, e => by simp only [VR] at e ⊢; exact e
 | .vptr .., _, _, e => by simp only [VR] at e ⊢; exact e
 | .ptr r v off, _, h, e => by
  simp only [VR, below, Nat.blt_eq] at e h ⊢
  obtain ⟨B, N, h1, h2⟩ := e
  exact ⟨B, N, by show (if r < n then m r v else none) = _; rw [if_pos h]; exact h1, h2⟩
 | .slice r v off len sz, _, h, e => by
  simp only [VR, below, Nat.blt_eq] at e h ⊢
  obtain ⟨B, N, cap, h1, h2⟩ := e
  exact ⟨B, N, cap, by show (if r < n then m r v else none) = _; rw [if_pos h]; exact h1, h2⟩
 | .own r len sz, _, h, e => by
  simp only [VR, below, Nat.blt_eq] at e h ⊢
  rcases e with e | ⟨B, N, cap, h1, h2⟩
  ·exact .inl e
  ·exact .inr ⟨B, N, cap, by show (if r < n then m r (len * sz) else none) = _; rw [if_pos h]; exact h1, h2⟩
 | .agg xs, c, h, e => by
  simp only [VR] at e ⊢
  obtain ⟨ys, h1, h2⟩ := e
  exact ⟨ys, h1, belows_VR xs _ (by simpa only [below] using h) h2⟩
 | .tuple xs, c, h, e => by
  simp only [VR] at e ⊢
  obtain ⟨ys, h1, h2⟩ := e
  exact ⟨ys, h1, belows_VR xs _ (by simpa only [below] using h) h2⟩
 | .func f a b, c, h, e => by
  simp only [VR] at e ⊢
  simp only [below, Bool.and_eq_true] at h
  obtain ⟨ys, zs, h1, h2, h3⟩ := e
  exact ⟨ys, zs, h1, belows_VR a _ h.1 h2, belows_VR b _ h.2 h3⟩
 | .iface t v, c, h, e => by
  simp only [VR] at e ⊢
  obtain ⟨d, h1, h2⟩ := e
  exact ⟨d, h1, below_VR v _ (by simpa only [below] using h) h2⟩
theorem belows_VR {m : Mp} {n : Nat} : ∀ (xs : List AV) (cs : List Value), belows n xs = true → VRs m xs cs → VRs (m.cut n) xs cs
 | [], _, _, e => by simpa only [VRs] using e
 | x :: xs, cs, h, e => by
  simp only [VRs] at e ⊢
  simp only [belows, Bool.and_eq_true] at h
  obtain ⟨y, ys, rfl, h1, h2⟩ := e
  exact ⟨y, ys, rfl, below_VR x y h.1 h1, belows_VR xs ys h.2 h2⟩
end
mutual
theorem pur_below {n : Nat} : ∀ x : AV, pur x = true → below n x = true
 | .top, _ | .int .., _ | .resid .., _ | .bool _, _ | .str _, _ | .nilp, _ | .nils, _ | .nilf, _ | .nili, _ | .vec .., _ | .vptr .., _ => by simp [below]
 | .ptr .., h | .slice .., h | .own .., h => by simp [pur] at h
 | .agg xs, h => by simp only [pur, below] at h ⊢; exact purs_belows xs h
 | .tuple xs, h => by simp only [pur, below] at h ⊢; exact purs_belows xs h
 | .func _ a b, h => by simp only [pur, below, Bool.and_eq_true] at h ⊢; exact ⟨purs_belows a h.1, purs_belows b h.2⟩
 | .iface _ v, h => by simp only [pur, below] at h ⊢; exact pur_below v h
theorem purs_belows {n : Nat} : ∀ xs : List AV, purs xs = true → belows n xs = true
 | [], _ => rfl
 | x :: xs, h => by simp only [purs, belows, Bool.and_eq_true] at h ⊢; exact ⟨pur_below x h.1, purs_belows xs h.2⟩
end
def belowE (n : Nat) : Env → Bool
 | [] => true
 | p :: l => below n p.2 && belowE n l
theorem belowE_look {n : Nat} : ∀ {e : Env} (t : Nat), belowE n e = true → below n (look e t) = true
 | [], t, _ => rfl
 | p :: l, t, h => by
  simp only [belowE, Bool.and_eq_true] at h
  rw [look_cons]
  split
  ·exact h.1
  ·exact belowE_look t h.2
def BB (n : Nat) : List Blk → Prop
 | [] => True
 | b :: l => belows n b.cells = true ∧ BB n l
theorem BB_get {n : Nat} : ∀ {l : List Blk} {i : Nat} {b : Blk}, BB n l → l[i]? = some b → belows n b.cells = true
 | [], i, b, _, h => by simp at h
 | b0 :: l, i, b, hb, h => by
  cases i with
  | zero => simp at h; subst h; exact hb.1
  | succ i => exact BB_get hb.2 (by simpa using h)
theorem belows_take {n : Nat} : ∀ {xs : List AV} (k : Nat), belows n xs = true → belows n (xs.take k) = true
 | [], k, _ => by simp [belows]
 | x :: xs, 0, _ => by simp [belows]
 | x :: xs, k + 1, h => by
  simp only [belows, List.take_succ_cons, Bool.and_eq_true] at h ⊢
  exact ⟨h.1, belows_take k h.2⟩
theorem ok_cut {t : Option R} (l l2 : List Blk) (hn0 : Nat.ble X.n0 l.length = true) (hn : Nat.ble (l.length + l2.length) roots = true) (he : belowE l.length env = true) (hb : BB l.length l) (k : Ok X p env (mkH l) t) : Ok X p env (mkH (l ++ l2)) t := by
 intro r hr m0 w0 b0 m w a h0 fr hnt hd rw st
 have hn : l.length + l2.length ≤ roots := Nat.le_of_ble_eq_true hn
 have hget : ∀ i, i < l.length → (mkH (l ++ l2)).t.get i = (mkH l).t.get i := by
  intro i hi
  show (mkT 0 (l ++ l2)).get i = (mkT 0 l).get i
  rw [mkT_get _ _ _ (by simp; omega), mkT_get _ _ _ (by omega)]
  simp [List.getElem?_append_left hi]
 have hcut : ∀ {r v q}, (m.cut l.length) r v = some q → r < l.length ∧ m r v = some q := by
  intro r v q h
  have h : (if r < l.length then m r v else none) = some q := h
  by_cases e : r < l.length
  ·rw [if_pos e] at h; exact ⟨e, h⟩
  ·rw [if_neg e] at h; cases h
 have hnone : ∀ i, l.length ≤ i → (mkH l).t.get i = none := by
  intro i hi
  show (mkT 0 l).get i = none
  rw [mkT_get _ _ _ (by omega)]
  simp [hi]
 refine k r hr m0 w0 b0 (m.cut l.length) w a h0 ?_ hnt hd ⟨?_, ?_, ?_, hnone, ?_, rw.frz, ?_, rw.ffin, rw.base_le, ?_⟩ ⟨⟨fun r v q hq => (by
  have h1 := h0.1 r v q hq
  have h2 := Nat.le_of_ble_eq_true hn0
  show (if r < l.length then m r v else none) = some q
  rw [if_pos (by omega)]
  exact st.sub.1 r v q hq), st.sub.2⟩, ?_, st.fext, st.size, st.os, st.tape, st.output, st.same⟩
 ·intro t ht
  obtain ⟨c, h1, h2⟩ := fr t ht
  exact ⟨c, h1, below_VR _ _ (belowE_look t he) h2⟩
 ·intro r b v B N hb' hm h1 h2
  obtain ⟨hlt, hm⟩ := hcut hm
  obtain ⟨cs, ty, fr', q1, q2, q3, q4, q5⟩ := rw.blk r b v B N (by rw [hget r hlt]; exact hb') hm h1 h2
  have hbl : l[r]? = some b := by
   have hb' : (mkT 0 l).get r = some b := hb'
   rw [mkT_get _ _ _ (by omega)] at hb'
   simpa using hb'
  exact ⟨cs, ty, fr', q1, q2, q3, q4, belows_VR _ _ (belows_take v (BB_get hb hbl)) q5⟩
 ·intro r v B N hm
  obtain ⟨hlt, hm⟩ := hcut hm
  rw [← hget r hlt]
  exact rw.dom r v B N hm
 ·intro r v B N r' v' N' hm hm' hB
  exact rw.sep _ _ _ _ _ _ _ (hcut hm).2 (hcut hm').2 hB
 ·intro r v B N hm
  exact rw.vle _ _ _ _ (hcut hm).2
 ·intro i B cells r v N b hi hm hb'
  obtain ⟨hlt, hm⟩ := hcut hm
  exact rw.fsep i B cells r v N b hi hm (by rw [hget r hlt]; exact hb')
 ·show l.length ≤ roots
  omega
 ·intro r v B N hm
  exact st.ext r v B N (hcut hm).2
theorem resV_ok {P : Program} {C : Cx} (hti : ∀ t i, C.ti t = some i → mkTi P t = some i) {m : Mp} {H : Hp} {w : World} {base : Nat} {env : Env} {a : Act} (fr : FR m env a.tmps) (rw : RW m H w base) (g : ResultVar → Sem Value) (hg1 : ∀ t, g (.tmp t) = pure (a.tmps.getD t undef)) (hg2 : ∀ p t, g (.cell p t) = do loadVar t (← asAddr (a.tmps.getD p undef))) : ∀ (l : List ResultVar) (xs : List AV), resV C env H l = some xs →
 ∃ vs : List Value, (l.mapM g).run P w = .ok vs w ∧ VRs m xs vs
 | [], xs, h => by simp only [resV] at h; cases h; exact ⟨[], by simp, by simp [VRs]⟩
 | .tmp t :: l, xs, h => by
  simp only [resV] at h
  cases hl : resV C env H l with
  | none => rw [hl] at h; cases h
  | some ys =>
   rw [hl] at h
   cases h
   obtain ⟨vs, h1, h2⟩ := resV_ok hti fr rw g hg1 hg2 l ys hl
   refine ⟨a.tmps.getD t undef :: vs, ?_, by simp only [VRs]; exact ⟨_, _, rfl, fr.getD t, h2⟩⟩
   simp only [List.mapM_cons, hg1, Sem.run_bind, Sem.run_pure, Result.andThen_ok, h1]
 | .cell p t :: l, xs, h => by
  simp only [resV] at h
  split at h
  ·rename_i i r v off ys ht hp hl
   split at h
   ·rename_i cs hcs
    split at h
    ·rename_i x hx
     cases h
     obtain ⟨vs, h1, h2⟩ := resV_ok hti fr rw g hg1 hg2 l ys hl
     have hv := fr.getD p
     rw [hp] at hv
     have hld : ∃ c, (loadVar t (match a.tmps.getD p undef with | .pointer (some b) => b | _ => default)).run P w = .ok c w ∧ VR m x c ∧ ∃ b, a.tmps.getD p undef = .pointer (some b) := by
      have hv' := hv
      simp only [VR] at hv'
      obtain ⟨B, N, hm, e⟩ := hv'
      obtain ⟨c, hc1, hc2⟩ := op_load_run (P := P) hti ht hv hcs hx rw
      rw [e] at hc1
      rw [e]
      exact ⟨c, hc1, hc2, _, rfl⟩
     obtain ⟨c, hc1, hc2, b, hb⟩ := hld
     rw [hb] at hc1
     refine ⟨c :: vs, ?_, by simp only [VRs]; exact ⟨_, _, rfl, hc2, h2⟩⟩
     simp only [List.mapM_cons, hg2, Sem.run_bind, hb, asAddr, Sem.run_pure, Result.andThen_ok, hc1, h1]
    ·cases h
   ·cases h
  ·cases h
theorem results_ok {P : Program} {C : Cx} (hti : ∀ t i, C.ti t = some i → mkTi P t = some i) {m : Mp} {H : Hp} {w : World} {base : Nat} {env : Env} {a : Act} {fn : Func} {xs : List AV} (fr : FR m env a.tmps) (rw : RW m H w base) (h : resV C env H fn.results.toList = some xs) :
 ∃ v, (results fn a.tmps).run P w = .ok v w ∧ VR m (oneRes xs) v := by
 have key : ∀ g : ResultVar → Sem Value, (∀ t, g (.tmp t) = pure (a.tmps.getD t undef)) → (∀ p t, g (.cell p t) = do loadVar t (← asAddr (a.tmps.getD p undef))) → ∃ vs : List Value, (fn.results.mapM g).run P w = .ok vs.toArray w ∧ VRs m xs vs := by
  intro g hg1 hg2
  obtain ⟨vs, h1, h2⟩ := resV_ok (P := P) hti fr rw g hg1 hg2 _ _ h
  exact ⟨vs, by rw [Array.mapM_eq_mapM_toList, Sem.run_map, h1]; rfl, h2⟩
 unfold results
 obtain ⟨vs, hm, h2⟩ := key (fun | .tmp t => pure (a.tmps.getD t undef) | .cell p t => do loadVar t (← asAddr (a.tmps.getD p undef))) (fun _ => rfl) (fun _ _ => rfl)
 have hlen := VRs.len h2
 refine ⟨if h : vs.toArray.size = 1 then vs.toArray[0] else .tuple vs.toArray, ?_, ?_⟩
 ·rw [Sem.run_bind]
  erw [hm]
  rfl
 ·unfold oneRes
  split
  ·simp only [VRs] at h2
   obtain ⟨y, ys, rfl, h3, rfl⟩ := h2
   simpa using h3
  ·rename_i hne
   have : ¬ vs.toArray.size = 1 := by
    intro e
    have e1 : xs.length = 1 := by simpa [hlen] using e
    obtain ⟨x, hx⟩ := List.length_eq_one_iff.1 e1
    exact hne x hx
   rw [dif_neg this]
   simp only [VR]
   exact ⟨_, rfl, by simpa using h2⟩
theorem ok_ret {r : R} {xs : List AV} {v : AV} (hn0 : X.n0 = 0) (hfin : X.fin r = H0) (ht : X.thr r = none) (hr : resV X.C env H X.fn.results.toList = some xs) (hz : FzG 0 H [oneRes xs] [v]) (hv : X.enc r = v) : Ok X .fin env H (some r) := by
 intro r' e m0 w0 b0 m w a h0 fr hnt hd rw st
 cases e
 have hnone : ∀ r v, m0 r v = none := by
  intro r v
  cases e : m0 r v with
  | none => rfl
  | some p => have := h0.1 r v p e; omega
 obtain ⟨c, h1, h2⟩ := results_ok (P := X.P) X.hti fr rw hr
 have hF : FOk 0 m m.froz w b0 := by
  refine ⟨fun i B cells hi => rw.frz i B cells hi, rw.ffin, fun i B cells h => .inl h, fun _ _ h => h⟩
 obtain ⟨F', g1, g2, g3⟩ := fz_ok rw hz hF (cs := [c]) (by simp only [VRs]; exact ⟨c, [], rfl, h2, rfl⟩)
 simp only [VRs] at g3
 obtain ⟨c', cs', e, g3, _⟩ := g3
 cases e
 have fin : ∃ m' c', Ending.returned c = .returned c' ∧ RW m' (X.fin r) w b0 ∧ St m0 w0 b0 m' w ∧ VR m' (X.enc r) c' := by
  rw [hfin]
  refine ⟨⟨fun _ _ => none, F'⟩, c, rfl, ⟨?_, ?_, ?_, fun _ _ => rfl, ?_, g1.ok, ?_, g1.fin, rw.base_le, by show 0 ≤ roots; unfold roots; omega⟩, ⟨⟨fun r v q hq => (by rw [hnone] at hq; cases hq), fun i p hp => g2 i p (st.sub.2 i p hp)⟩, ?_, ?_, st.size, st.os, st.tape, st.output, st.same⟩, by rw [hv]; exact g3⟩
  ·intro r b v B N hb hm; cases hm
  ·intro r v B N hm; cases hm
  ·intro r v B N r' v' N' hm; cases hm
  ·intro r v B N hm; cases hm
  ·intro i B cells r v N b _ hm; cases hm
  ·intro r v B N hm; cases hm
  ·intro i B cells hi
   rcases g1.new i B cells hi with h | h
   ·exact st.fext i B cells h
   ·obtain ⟨h1, r, v, N, _, hm⟩ := h
    rcases st.ext r v B N hm with ⟨v0, N0, e0⟩ | h2
    ·rw [hnone] at e0; cases e0
    ·exact .inr ⟨h1, .inr h2⟩
 have e : EndT (X.thr r) (X.enc r) (X.fin r) m0 w0 b0 (.returned c) w := by rw [ht]; exact fin
 exact ret_ret hd h1 e
theorem look_args0 : ∀ (xs : List AV) (i t : Nat), look (args0 i xs) t = if i ≤ t then (xs[t - i]?).getD .top else .top
 | [], i, t => by simp [args0, look_nil]
 | x :: xs, i, t => by
  rw [args0, look_put, look_args0 xs (i + 1) t]
  by_cases e : i = t
  ·subst e; simp
  ·rw [if_neg e]
   by_cases h : i ≤ t
   ·rw [if_pos (by omega), if_pos h, show t - i = (t - (i + 1)) + 1 by omega]; simp
   ·rw [if_neg (by omega), if_neg h]
theorem FR_args {m : Mp} {xs : List AV} {args rest : Array Value} (h : VRs m xs args.toList) : FR m (args0 0 xs) (args ++ rest) := by
 intro t ht
 rw [look_args0] at ht ⊢
 simp only [Nat.zero_le, if_true, Nat.sub_zero] at ht ⊢
 cases hx : xs[t]? with
 | none => rw [hx] at ht; exact absurd rfl ht
 | some x =>
  obtain ⟨c, hc, hv⟩ := VRs.get h t x hx
  rw [Array.getElem?_toList] at hc
  obtain ⟨hlt, _⟩ := Array.getElem?_eq_some_iff.1 hc
  exact ⟨c, by rw [Array.getElem?_append_left hlt]; exact hc, by simpa using hv⟩
def bodyAt (fn : Func) : Pt := match fn.body with | some c => .code c [] | none => .fin
theorem pure_of (X : Fx R) {f : Nat} (hfin : ∀ r, X.fin r = H0 ∧ X.thr r = none) (hf : X.P.funcs[f]? = some X.fn) (hn : (X.fn.name == "runtime.NumGoroutine") = false) (hb : X.fn.body.isSome = true) {xs : List AV} {t : Option R} (h : Ok X (bodyAt X.fn) (args0 0 xs) (mkH []) t) {r : R} (ht : t = some r) : PureOk X.P f xs (X.enc r) := by
 refine ⟨?_, X.fn, hf, hn, hb⟩
 intro m0 w args h0 hargs rw
 cases hc : X.fn.body with
 | none => rw [hc] at hb; cases hb
 | some c =>
  have e : bodyAt X.fn = .code c [] := by simp [bodyAt, hc]
  rw [e] at h
  have := h r ht m0 w w.heap.size m0 w { tmps := args ++ Array.replicate (X.fn.ntmps - args.size) undef, defers := [] } ⟨fun r v p e => (by rw [h0] at e; cases e), Nat.le_refl _⟩ (FR_args hargs) (by simp; omega) rfl rw (St.refl _ _ _)
  have e2 := ret_calls hf hc this
  rw [(hfin r).1, (hfin r).2] at e2
  exact e2
theorem callM_of (X : Fx R) {f : Nat} (hf : X.P.funcs[f]? = some X.fn) (hn : (X.fn.name == "runtime.NumGoroutine") = false) (hb : X.fn.body.isSome = true) {L : List Blk} (hn0 : X.n0 = L.length) {xs : List AV} {t : Option R} (h : Ok X (bodyAt X.fn) (args0 0 xs) (mkH L) t) {r : R} (ht : t = some r) : CallT X.P f xs (mkH L) (X.thr r) (X.enc r) (X.fin r) := by
 refine ⟨?_, X.fn, hf, hn, hb⟩
 intro m w base args hargs rw
 cases hc : X.fn.body with
 | none => rw [hc] at hb; cases hb
 | some c =>
  have e : bodyAt X.fn = .code c [] := by simp [bodyAt, hc]
  rw [e] at h
  have := h r ht m w base m w { tmps := args ++ Array.replicate (X.fn.ntmps - args.size) undef, defers := [] } ⟨fun r v p e => (by
   obtain ⟨b, hb, _⟩ := rw.dom r v p.1 p.2 e
   rw [hn0]
   exact rw.lt hb), rw.base_le⟩ (FR_args hargs) (by simp; omega) rfl rw (St.refl _ _ _)
  exact ret_calls hf hc this
theorem law_walk {P : Program} {n : Nat} {xs : List AV} {args : Array Value} (h : PureOk P n xs (.bool true)) (hargs : VRs ⟨fun _ _ => none, fun _ => none⟩ xs args.toList) (w : World) :
 Calls P n args w fun e W' => e = .returned (.bool true) ∧ RowKit.Below w.heap.size w W' := by
 refine Calls.mono (h.1 ⟨fun _ _ => none, fun _ => none⟩ w args (fun _ _ => rfl) hargs ?_) ?_
 ·refine ⟨?_, ?_, ?_, fun _ _ => rfl, ?_, ?_, ?_, ⟨0, fun _ _ => rfl⟩, Nat.le_refl _, by show 0 ≤ roots; unfold roots; omega⟩
  ·intro r b v B N hb hm; cases hm
  ·intro r v B N hm; cases hm
  ·intro r v B N r' v' N' hm; cases hm
  ·intro r v B N hm; cases hm
  ·intro i B cells hi; cases hi
  ·intro i B cells r v N b _ hm; cases hm
 ·rintro e w' ⟨m', c, rfl, q1, q2, q3⟩
  simp only [VR] at q3
  exact ⟨by rw [q3], q2.below (Nat.le_refl _)⟩
end
end Go.Proofs.Ytabhkocokojddaa.Am
set_option linter.unusedVariables false
set_option linter.unusedSimpArgs false
namespace Go.Proofs.Ytabhkocokojddaa.Am
open Go
def nthS (s : List Nat) (k : Int) : Option Int := if 0 ≤ k then (match s[k.toNat]? with | some b => some (b : Int) | none => none) else none
theorem idxH {e : Option (AV × Hp)} {s : List Nat} {k : Int} {H : Hp} (h : e = (if 0 ≤ k then (match s[k.toNat]? with | some b => some (AV.int .u8 (b : Int), H) | none => none) else none)) : e = (nthS s k).map fun c => (AV.int .u8 c, H) := by
 rw [h]; unfold nthS
 split
 ·cases s[k.toNat]? <;> rfl
 ·rfl
def bnd (x : Option Int) (y d : Nat) : Option Nat := match x with | none => some d | some i => if 0 ≤ i ∧ i ≤ y then some i.toNat else none
def subL {α : Type} (l : List α) (lo hi : Option Int) : Option (List α) :=
 match bnd hi l.length l.length with
 | some h => (match bnd lo h 0 with | some b => some ((l.take h).drop b) | none => none)
 | none => none
theorem boundO_bnd (x : Option Int) (k : IntKind) (y d : Nat) : boundO (x.map (AV.int k)) y d = bnd x y d := by cases x <;> rfl
theorem subH {e : Option (AV × Hp)} {s : List Nat} (lo hi : Option Int) {H : Hp} (h : e = (match boundO (hi.map (AV.int .i64)) s.length s.length with | some h => (match boundO (lo.map (AV.int .i64)) h 0 with | some l => some (AV.str ((s.take h).drop l)) | none => none) | none => none).map fun v => (v, H)) : e = (subL s lo hi).map fun x => (AV.str x, H) := by
 rw [h, boundO_bnd]; unfold subL
 cases bnd hi s.length s.length with
 | none => rfl
 | some h =>
  simp only
  rw [boundO_bnd]
  cases bnd lo h 0 <;> rfl
def catS (a b : List Nat) : Option (List Nat) := if a.length + b.length < 2 ^ 40 then some (a ++ b) else none
theorem catH {e : Option (AV × Hp)} {a b : List Nat} {H : Hp} (h : e = (if a.length + b.length < 2 ^ 40 then some (AV.str (a ++ b)) else none).map fun v => (v, H)) : e = (catS a b).map fun x => (AV.str x, H) := by
 rw [h]; unfold catS; split <;> rfl
def nthL {α : Type} (l : List α) (k : Int) : Option α := if 0 ≤ k then l[k.toNat]? else none
theorem flatMap_len {α : Type} {enc : α → List AV} {sz : Nat} (h : ∀ x, (enc x).length = sz) : ∀ l : List α, (l.flatMap enc).length = l.length * sz
 | [] => by simp
 | x :: l => by rw [List.flatMap_cons, List.length_append, h, flatMap_len h l, List.length_cons, Nat.add_mul]; omega
theorem flatMap_at {α : Type} {enc : α → List AV} {sz : Nat} (h : ∀ x, (enc x).length = sz) : ∀ (l : List α) (k : Nat) (x : α), l[k]? = some x → ((l.flatMap enc).drop (k * sz)).take sz = enc x
 | [], k, x, e => by simp at e
 | y :: l, k, x, e => by
  rw [List.flatMap_cons]
  cases k with
  | zero =>
   simp at e
   subst e
   rw [Nat.zero_mul, List.drop_zero, List.take_append_of_le_length (by rw [h]; exact Nat.le_refl _), List.take_of_length_le (by rw [h]; exact Nat.le_refl _)]
  | succ k =>
   rw [List.drop_append, List.drop_of_length_le (by rw [h, Nat.add_mul]; omega), List.nil_append, h, show (k + 1) * sz - sz = k * sz by rw [Nat.add_mul]; omega]
   exact flatMap_at h l k x (by simpa using e)
theorem vidxH {α : Type} {enc : α → List AV} {sz : Nat} (hsz : ∀ x, (enc x).length = sz) {e : Option (AV × Hp)} {l : List α} {k : Int} {H : Hp} (h : e = (if sz = sz ∧ 0 ≤ k ∧ k < ((l.length : Nat) : Int) then some (AV.vptr (((l.flatMap enc).drop (k.toNat * sz)).take sz), H) else none)) : e = (nthL l k).map fun x => (AV.vptr (enc x), H) := by
 rw [h]; unfold nthL
 by_cases h0 : 0 ≤ k
 ·rw [if_pos h0]
  by_cases h1 : k < (l.length : Int)
  ·rw [if_pos ⟨rfl, h0, h1⟩]
   have hlt : k.toNat < l.length := by omega
   rw [List.getElem?_eq_getElem hlt, flatMap_at hsz l k.toNat _ (List.getElem?_eq_getElem hlt)]
   rfl
  ·rw [if_neg (fun hh => h1 hh.2.2), List.getElem?_eq_none (by omega)]
   rfl
 ·rw [if_neg (fun hh => h0 hh.2.1), if_neg h0]; rfl
def nthA {α : Type} (l : List α) (n : Nat) (k : Int) : Option α := if 0 ≤ k ∧ k < (n : Int) then l[k.toNat]? else none
theorem aidxH {α : Type} (enc : α → AV) {e : Option (AV × Hp)} (l : List α) {n : Nat} {k : Int} {H : Hp} (h : e = (if 0 ≤ k ∧ k < (n : Int) then ((l.map enc)[k.toNat * 1]?).map fun v => (v, H) else none)) : e = (nthA l n k).map fun x => (enc x, H) := by
 rw [h]; unfold nthA
 split
 ·rw [Nat.mul_one, List.getElem?_map]
  cases l[k.toNat]? <;> rfl
 ·rfl
def remS (x y : Int) : Option Int := if y = 0 then none else some (x.tmod y)
theorem remH {e : Option (AV × Hp)} {k : IntKind} {x y : Int} {H : Hp} (h : e = (if y = 0 then none else some (AV.int k (x.tmod y))).map fun v => (v, H)) : e = (remS x y).map fun v => (AV.int k v, H) := by
 rw [h]; unfold remS; split <;> rfl
def shlC (k : IntKind) (x : Int) (n : Nat) : Int := fW k (x * 2 ^ n)
def shrC (x : Int) (n : Nat) : Int := x.fdiv (2 ^ n)
def andI (k : IntKind) (x y : Int) : Int := fW k (BitVec.ofInt k.bits x &&& BitVec.ofInt k.bits y).toNat
def orI (k : IntKind) (x y : Int) : Int := fW k (BitVec.ofInt k.bits x ||| BitVec.ofInt k.bits y).toNat
def maxI (x y : Int) : Int := if x < y then y else x
def minI (x y : Int) : Int := if y < x then y else x
def appS {α : Type} (bytes : Nat) (l x : List α) : Option (List α) := if (l.length + x.length) * bytes ≤ 2 ^ 40 ∧ l.length + x.length ≤ 2 ^ 40 then some (l ++ x) else none
theorem mkH_get {L : List Blk} {r : Nat} {b : Blk} (hl : Nat.ble L.length roots = true) (h : L[r]? = some b) : (mkH L).t.get r = some b := by
 show (mkT 0 L).get r = some b
 rw [mkT_get _ _ _ (by rw [Nat.zero_add]; exact Nat.le_of_ble_eq_true hl)]
 simpa using h
theorem PT.set_set {α : Type} : ∀ (k : Nat) (t : PT α) (n : Nat) (x y : α), PT.set k (PT.set k t n x) n y = PT.set k t n y
 | 0, _, _, _, _ => rfl
 | k + 1, t, n, x, y => by
  have ih := fun t n => PT.set_set k t n x y
  rw [PT.set_succ, PT.set_succ, PT.set_succ]
  by_cases h0 : n = 0
  ·simp only [h0, if_true]; rfl
  ·simp only [h0, if_false]
   by_cases h1 : n % 2 = 1
   ·simp only [h1, if_true]
    show PT.node (PT.set k (PT.set k t.left (n / 2) x) (n / 2) y) t.mid t.right = _
    rw [ih]
   ·simp only [h1, if_false]
    show PT.node t.left t.mid (PT.set k (PT.set k t.right (n / 2 - 1) x) (n / 2 - 1) y) = _
    rw [ih]
theorem PT.set_comm {α : Type} : ∀ (k : Nat) (t : PT α) (n m : Nat) (x y : α), n ≠ m → PT.set k (PT.set k t n x) m y = PT.set k (PT.set k t m y) n x
 | 0, _, _, _, _, _, _ => rfl
 | k + 1, t, n, m, x, y, h => by
  have ih := fun t n m h => PT.set_comm k t n m x y h
  rw [PT.set_succ, PT.set_succ, PT.set_succ, PT.set_succ]
  by_cases n0 : n = 0
  ·have m0 : m ≠ 0 := by omega
   simp only [n0, m0, if_true, if_false]
   by_cases m1 : m % 2 = 1 <;> simp only [m1, if_true, if_false] <;> rfl
  ·by_cases m0 : m = 0
   ·simp only [n0, m0, if_true, if_false]
    by_cases n1 : n % 2 = 1 <;> simp only [n1, if_true, if_false] <;> rfl
   ·simp only [n0, m0, if_false]
    by_cases n1 : n % 2 = 1
    ·by_cases m1 : m % 2 = 1
     ·simp only [n1, m1, if_true]
      show PT.node (PT.set k (PT.set k t.left (n / 2) x) (m / 2) y) t.mid t.right = PT.node (PT.set k (PT.set k t.left (m / 2) y) (n / 2) x) t.mid t.right
      rw [ih _ _ _ (by omega)]
     ·simp only [n1, m1, if_true, if_false]; rfl
    ·by_cases m1 : m % 2 = 1
     ·simp only [n1, m1, if_true, if_false]; rfl
     ·simp only [n1, m1, if_false]
      show PT.node t.left t.mid (PT.set k (PT.set k t.right (n / 2 - 1) x) (m / 2 - 1) y) = PT.node t.left t.mid (PT.set k (PT.set k t.right (m / 2 - 1) y) (n / 2 - 1) x)
      rw [ih _ _ _ (by omega)]
theorem mkT_set : ∀ (L : List Blk) (n r : Nat) (b : Blk), r < L.length → PT.set depth (mkT n L) (n + r) b = mkT n (L.set r b)
 | [], n, r, b, h => by simp at h
 | c :: L, n, 0, b, h => by
  rw [List.set_cons_zero, mkT_cons, mkT_cons]
  exact PT.set_set _ _ _ _ _
 | c :: L, n, r + 1, b, h => by
  rw [List.set_cons_succ, mkT_cons, mkT_cons, PT.set_comm _ _ _ _ _ _ (by omega), show n + (r + 1) = (n + 1) + r by omega, mkT_set L (n + 1) r b (by simpa using h)]
theorem mkH_set {L : List Blk} {r : Nat} {b : Blk} (h : r < L.length) : (⟨(mkH L).next, Tr.set depth (mkH L).t r b⟩ : Hp) = mkH (L.set r b) := by
 show (⟨L.length, PT.set depth (mkT 0 L) r b⟩ : Hp) = ⟨(L.set r b).length, mkT 0 (L.set r b)⟩
 have := mkT_set L 0 r b h
 rw [Nat.zero_add] at this
 rw [this, List.length_set]
theorem appH {α : Type} {enc : α → List AV} {sz : Nat} (hsz : ∀ x, (enc x).length = sz) (hpos : Nat.blt 0 sz = true) (hone : ∀ x, (enc x).all one1 = true) {e : Option (AV × Hp)} (L : List Blk) (r bytes : Nat) (l x : List α) (hl : Nat.ble L.length roots = true) (hr : L[r]? = some ⟨l.flatMap enc, 0, false⟩) (h : e = appW (mkH L) (.own r l.length sz) sz bytes x.length (x.flatMap enc)) : e = (appS bytes l x).map fun y => (AV.own r y.length sz, mkH (L.set r ⟨y.flatMap enc, 0, false⟩)) := by
 have hpos : 0 < sz := by simpa using hpos
 have hone' : (x.flatMap enc).all one1 = true := by
  rw [List.all_eq_true]
  intro a ha
  obtain ⟨y, _, hy⟩ := List.mem_flatMap.1 ha
  exact List.all_eq_true.1 (hone y) a hy
 have hlt : r < L.length := (List.getElem?_eq_some_iff.1 hr).1
 rw [h]
 unfold appW appV appS
 simp only [flatMap_len hsz, hpos, hone', true_and, and_true, if_true]
 by_cases hb : (l.length + x.length) * bytes ≤ 2 ^ 40 ∧ l.length + x.length ≤ 2 ^ 40
 ·rw [if_pos hb]
  by_cases hx : x.length = 0
  ·have : x = [] := List.length_eq_zero_iff.1 hx
   subst this
   simp only [List.length_nil, Nat.add_zero, List.append_nil, Option.map_some, if_true]
   rw [if_pos (by simpa using hb)]
   have : L.set r ⟨l.flatMap enc, 0, false⟩ = L := by
    apply List.ext_getElem?
    intro i
    rw [List.getElem?_set]
    split
    ·rename_i e; subst e; first | exact hr.symm | (rw [if_pos hlt]; exact hr.symm)
    ·rfl
   show some (AV.own r l.length sz, mkH L) = some (AV.own r l.length sz, mkH (L.set r ⟨l.flatMap enc, 0, false⟩))
   rw [this]
  ·simp only [hx, if_false]
   rw [mkH_get hl hr, if_pos hb]
   simp only [flatMap_len hsz, Nat.zero_le, true_and, and_self, if_true, Option.map_some]
   rw [mkH_set hlt, List.flatMap_append, List.length_append]
 ·rw [if_neg hb, if_neg hb]; rfl
theorem fz_own {α : Type} {enc : α → List AV} {sz : Nat} (hsz : ∀ x, (enc x).length = sz) (hpur : ∀ x, purs (enc x) = true) {L : List Blk} {r : Nat} {l : List α} {xs ys : List AV} {n0 : Nat} (hl : Nat.ble L.length roots = true) (hr : L[r]? = some ⟨l.flatMap enc, 0, false⟩) (h0 : Nat.ble n0 r = true) (h : FzG n0 (mkH L) xs ys) : FzG n0 (mkH L) (.own r l.length sz :: xs) (.vec l.length sz (l.flatMap enc) :: ys) :=
 .own h0 (mkH_get hl hr) (flatMap_len hsz l) (Nat.zero_le _) (.pures (purs_flatMap hpur l)) h
def ctl1 : Pt → Pt
 | .ops _ _ K => resume K
 | .loop b K => .code b (.loop b :: K)
 | .fin => .fin
 | .code c K => match c with
  | .seq a b => .code a (.seq b :: K)
  | .skip => resume K
  | .label _ => resume K
  | .block id b => .code b (.block id :: K)
  | .scope b => .code b (.scope b :: K)
  | .loop b => .loop b K
  | .exit id => match exitK id K with | some q => q | none => .fin
  | .goto l => match gotoK l K with | some q => q | none => .fin
  | .ret => .fin
  | .region id ops draw => bif draw then resume K else .ops ops 0 K
  | _ => .fin
def nav : List Nat → Pt → Pt
 | [], p => p
 | 0 :: l, p => nav l (ctl1 p)
 | 1 :: l, .code (.cond _ x _) K => nav l (.code x K)
 | _ :: l, .code (.cond _ _ y) K => nav l (.code y K)
 | _ :: _, p => p
def atN (n : Nat) : Pt → Pt
 | .ops ops _ K => .ops ops n K
 | p => p
theorem ok_sown {R : Type} {X : Fx R} {p : Pt} {env : Env} {H : Hp} {t : Option R} (d r0 v n sz : Nat) (h : look env d = .slice r0 v 0 n sz) (hv : v = n * sz) (k : Ok X p ((d, .own r0 n sz) :: env) H t) : Ok X p env H t := by
 intro r hr m0 w0 b0 m w a h0 fr hnt hd rw st
 refine k r hr m0 w0 b0 m w a h0 ?_ hnt hd rw st
 intro u hu
 by_cases e : d = u
 ·subst e
  obtain ⟨c, h1, h2⟩ := fr d (by rw [h]; intro e; cases e)
  rw [h] at h2
  refine ⟨_, h1, ?_⟩
  rw [look_cons, if_pos rfl]
  exact slice_own h2 hv
 ·have he : look ((d, AV.own r0 n sz) :: env) u = look env u := by rw [look_cons, if_neg e]
  rw [he] at hu ⊢
  exact fr u hu
mutual
def nref (n : Nat) : AV → Bool
 | .ptr r _ _ => !Nat.beq r n
 | .slice r _ _ _ _ => !Nat.beq r n
 | .own r _ _ => !Nat.beq r n
 | .agg xs => nrefs n xs
 | .tuple xs => nrefs n xs
 | .func _ a b => nrefs n a && nrefs n b
 | .iface _ v => nref n v
 | _ => true
def nrefs (n : Nat) : List AV → Bool
 | [] => true
 | x :: xs => nref n x && nrefs n xs
end
def Mp.out (m : Mp) (n : Nat) (F : Nat → Option (Nat × List AV)) : Mp := ⟨fun r v => if r = n then none else m r v, F⟩
theorem ok_callM {R : Type} {X : Fx R} {p : Pt} {env : Env} {H : Hp} {α : Type} {m : Option α} {f : α → Option R} {fi : Nat} {args : List AV} (g : α → AV) (G : α → Hp) (p' : Pt) (E : α → Env) (hc : callAt X.fn.ntmps p env = some (fi, args)) (hf : ∀ x, m = some x → CallV X.P fi args H (g x) (G x)) (ha : ∀ x, advE X.fn.ntmps p env (g x) = some (p', E x)) (k : ∀ x, m = some x → Ok X p' (E x) (G x) (f x)) : Ok X p env H (m.bind f) := by
 refine ok_bind fun x hx => ?_
 have hpo := hf x hx
 have hax := ha x
 unfold advE at hax
 unfold callAt at hc
 cases ho : operAt X.fn.ntmps p env with
 | none => rw [ho] at hax; cases hax
 | some o =>
  rw [ho] at hax hc
  simp only [Option.some.injEq, Prod.mk.injEq] at hax hc
  obtain ⟨e1, e2⟩ := hax
  obtain ⟨ops, n, K, rfl, h1, h2, h3⟩ := operAt_spec ho
  have kx := k x hx
  rw [← e1, ← e2] at kx
  split at hc
  ·rename_i c hoc
   split at hc
   ·rename_i q hq
    split at hc
    ·rename_i fi' first caps hfv
     cases hc
     exact ok_stp h1 h2 h3 (.inr ⟨c, q, fi, first, caps, hoc, hq, hfv, hpo⟩) kx
    ·cases hc
   ·cases hc
  ·cases hc
end Go.Proofs.Ytabhkocokojddaa.Am
set_option linter.unusedVariables false
namespace Go.Proofs.Ytabhkocokojddaa.Am
open Go
def PT.allB {α : Type} (p : Nat → α → Bool) : PT α → (Nat → Nat) → Bool
 | .nil, _ => true
 | .node l b r, g => (match b with | some x => p (g 0) x | none => true) && l.allB p (fun n => g (2 * n + 1)) && r.allB p (fun n => g (2 * n + 2))
theorem PT.allB_get {α : Type} {p : Nat → α → Bool} : ∀ (t : PT α) (g : Nat → Nat), t.allB p g = true → ∀ (n : Nat) (x : α), t.get n = some x → p (g n) x = true
 | .nil, g, _, n, x, h => by cases h
 | .node l b r, g, hh, n, x, h => by
  simp only [PT.allB, Bool.and_eq_true] at hh
  obtain ⟨⟨h1, h2⟩, h3⟩ := hh
  rw [PT.get_node] at h
  by_cases h0 : n = 0
  ·rw [if_pos h0] at h
   subst h0
   subst h
   exact h1
  ·rw [if_neg h0] at h
   by_cases hm : n % 2 = 1
   ·rw [if_pos hm] at h
    have := PT.allB_get l _ h2 _ _ h
    rwa [show 2 * (n / 2) + 1 = n by omega] at this
   ·rw [if_neg hm] at h
    have := PT.allB_get r _ h3 _ _ h
    rwa [show 2 * (n / 2 - 1) + 2 = n by omega] at this
def beqZ : AV → AV → Bool
 | .top, .top => true
 | .int k n, .int k' n' => decide (k = k') && decide (n = n')
 | .bool a, .bool b => a == b
 | .str a, .str b => eqL a b
 | .nilp, .nilp => true
 | .nils, .nils => true
 | .nilf, .nilf => true
 | .nili, .nili => true
 | _, _ => false
theorem beqZ_eq {x y : AV} (h : beqZ x y = true) : x = y := by
 cases x <;> cases y <;> simp [beqZ, eqL_iff] at h ⊢ <;> exact h
def beqZs : List AV → List AV → Bool
 | [], [] => true
 | a :: x, b :: y => beqZ a b && beqZs x y
 | _, _ => false
theorem beqZs_eq : ∀ (x y : List AV), beqZs x y = true → x = y
 | [], [], _ => rfl
 | [], _ :: _, h => by simp [beqZs] at h
 | _ :: _, [], h => by simp [beqZs] at h
 | a :: x, b :: y, h => by
  simp only [beqZs, Bool.and_eq_true] at h
  rw [beqZ_eq h.1, beqZs_eq x y h.2]
def beqTi (i j : Ti) : Bool :=
 Nat.beq i.size j.size && Nat.beq i.bytes j.bytes && (match i.zero, j.zero with | some a, some b => beqZs a b | none, none => true | _, _ => false) && decide (i.kind = j.kind) && decide (i.fields = j.fields) && Nat.beq i.elem j.elem && Nat.beq i.len j.len && decide (i.flat = j.flat)
theorem beqTi_eq {i j : Ti} (h : beqTi i j = true) : i = j := by
 obtain ⟨a1, a2, a3, a4, a5, a6, a7, a8⟩ := i
 obtain ⟨b1, b2, b3, b4, b5, b6, b7, b8⟩ := j
 simp only [beqTi, Bool.and_eq_true, decide_eq_true_eq] at h
 obtain ⟨⟨⟨⟨⟨⟨⟨h1, h2⟩, h3⟩, h4⟩, h5⟩, h6⟩, h7⟩, h8⟩ := h
 have h1 := Nat.eq_of_beq_eq_true h1
 have h2 := Nat.eq_of_beq_eq_true h2
 have h6 := Nat.eq_of_beq_eq_true h6
 have h7 := Nat.eq_of_beq_eq_true h7
 have h3' : a3 = b3 := by
  cases a3 <;> cases b3 <;> simp only at h3 <;> first | rfl | cases h3 | exact congrArg some (beqZs_eq _ _ h3)
 subst h1 h2 h3' h4 h5 h6 h7 h8
 rfl
def tiOk (P : Program) (t : Nat) (i : Ti) : Bool := match mkTi P t with | some j => beqTi i j | none => false
theorem tiOk_eq {P : Program} {t : Nat} {i : Ti} (h : tiOk P t i = true) : mkTi P t = some i := by
 unfold tiOk at h
 split at h
 ·rename_i j hj
  rw [hj, beqTi_eq h]
 ·cases h
end Go.Proofs.Ytabhkocokojddaa.Am
set_option linter.unusedVariables false
set_option linter.unusedSimpArgs false
namespace Go.Proofs.Ytabhkocokojddaa.Am
open Go
def It (d : Nat) (s : ByteArray) (pos base : Nat) (m : Mp) (w : World) (a : Act) : Prop :=
 ∃ B, a.tmps[d]? = some (.pointer (some ⟨B, 0, none⟩)) ∧ w.heap[B]? = some (.stringIter s pos) ∧ base ≤ B ∧ ∀ r v N, m r v ≠ some (B, N)
section
variable {R : Type} (X : Fx R)
end
section
variable {R : Type} {X : Fx R} {p p' : Pt} {env eE : Env} {H H' : Hp} {d pos : Nat} {s : ByteArray}
def dneq (o : Oper) (d : Nat) : Bool := match o.dst with | some e => !Nat.beq e d | none => true
theorem It.put {base : Nat} {m : Mp} {w : World} {a : Act} {o : Oper} (c : Value) (hd : dneq o d = true) (it : It d s pos base m w a) : It d s pos base m w (a.put o.dst c) := by
 obtain ⟨B, h1, h2, h3, h4⟩ := it
 refine ⟨B, ?_, h2, h3, h4⟩
 unfold dneq at hd
 cases ho : o.dst with
 | none => exact h1
 | some e =>
  rw [ho] at hd
  simp only [Act.put]
  rw [Array.getElem?_setIfInBounds_ne]
  ·exact h1
  ·rintro rfl; simp at hd
theorem It.step {base b0 : Nat} {m m' : Mp} {w w' : World} {a : Act} (st : St m w b0 m' w') (it : It d s pos base m w a) : It d s pos base m' w' a := by
 obtain ⟨B, h1, h2, h3, h4⟩ := it
 have hlt : B < w.heap.size := (Array.getElem?_eq_some_iff.1 h2).1
 refine ⟨B, h1, by rw [st.same B hlt (fun r v N e => absurd e (h4 r v N))]; exact h2, h3, ?_⟩
 intro r v N e
 rcases st.ext r v B N e with ⟨v0, N0, e0⟩ | hB
 ·exact h4 r v0 N0 e0
 ·omega
end
end Go.Proofs.Ytabhkocokojddaa.Am
set_option maxRecDepth 100000
namespace Go.Proofs.Ytabhkocokojddaa.Am
noncomputable section
open Go
def tyT : PT Ti := (.node (.node (.node (.node (.node (.node (.node .nil (some ⟨1, 8, (some [.nilf]), .other, [], 0, 0, none⟩) .nil) (some ⟨1, 8, (some [.nilf]), .other, [], 0, 0, none⟩) (.node .nil (some ⟨1, 4, (some [.int .i32 0]), .int .i32, [], 0, 0, none⟩) .nil)) (some ⟨1, 8, (some [.nilp]), .pointer, [], 86, 0, none⟩) (.node (.node .nil (some ⟨1, 8, (some [.nilf]), .other, [], 0, 0, none⟩) .nil) (some ⟨1, 8, (some [.nilf]), .other, [], 0, 0, none⟩) .nil)) (some ⟨4, 24, (some [.int .i64 0, .int .i64 0, .bool false, .int .u8 0]), .struct, [(0, 2), (1, 3), (2, 4), (3, 6)], 0, 0, (some [(.int .i64), (.int .i64), .bool, (.int .u8)])⟩) (.node (.node (.node .nil (some ⟨1, 0, (some [.top]), .other, [], 0, 0, none⟩) .nil) (some ⟨1, 8, (some [.nilf]), .other, [], 0, 0, none⟩) .nil) (some ⟨1, 8, (some [.nilf]), .other, [], 0, 0, none⟩) (.node (.node .nil (some ⟨0, 0, (some []), .array, [], 16, 0, (some (List.replicate 0 .pointer))⟩) .nil) (some ⟨1, 24, (some [.nils]), .slice, [], 9, 0, none⟩) .nil))) (some ⟨1, 8, (some [.int .i64 0]), .int .i64, [], 0, 0, none⟩) (.node (.node (.node (.node .nil (some ⟨1, 8, (some [.nilf]), .other, [], 0, 0, none⟩) .nil) (some ⟨1, 8, (some [.nilf]), .other, [], 0, 0, none⟩) .nil) (some ⟨1, 8, (some [.nilp]), .struct, [(0, 17)], 0, 0, none⟩) (.node (.node .nil (some ⟨1, 8, (some [.nilf]), .other, [], 0, 0, none⟩) .nil) (some ⟨1, 8, (some [.nilf]), .other, [], 0, 0, none⟩) .nil)) (some ⟨1, 16, (some [.str []]), .string, [], 0, 0, none⟩) (.node (.node (.node .nil (some ⟨9, 72, (some [.int .i64 0, .int .i64 0, .int .i64 0, .int .i64 0, .int .i64 0, .int .i64 0, .int .i64 0, .int .i64 0, .int .i64 0]), .array, [], 3, 9, (some (List.replicate 9 (.int .i64)))⟩) .nil) (some ⟨1, 8, (some [.nilf]), .other, [], 0, 0, none⟩) .nil) (some ⟨1, 8, (some [.nilf]), .other, [], 0, 0, none⟩) (.node (.node .nil (some ⟨1, 4, (some [.int .u32 0]), .int .u32, [], 0, 0, none⟩) .nil) (some ⟨1, 8, (some [.nilp]), .pointer, [], 62, 0, none⟩) .nil)))) (some ⟨1, 8, (some [.nilf]), .other, [], 0, 0, none⟩) (.node (.node (.node (.node (.node .nil (some ⟨1, 16, (some [.nili]), .iface, [], 0, 0, none⟩) .nil) (some ⟨1, 8, (some [.nilf]), .other, [], 0, 0, none⟩) (.node .nil (some ⟨11, 48, (some [.int .u64 0, .int .u64 0, .int .u32 0, .int .u8 0, .int .u8 0, .int .u8 0, .int .u8 0, .nilf, .nilp, .int .i32 0, .int .i32 0]), .struct, [(0, 12), (1, 12), (2, 91), (3, 92), (4, 5), (5, 5), (6, 93), (7, 94), (8, 77), (9, 95), (10, 96)], 0, 0, none⟩) .nil)) (some ⟨1, 8, (some [.nilp]), .pointer, [], 98, 0, none⟩) (.node (.node .nil (some ⟨1, 8, (some [.nilf]), .other, [], 0, 0, none⟩) .nil) (some ⟨1, 8, (some [.nilf]), .other, [], 0, 0, none⟩) .nil)) (some ⟨1, 16, (some [.str []]), .string, [], 0, 0, none⟩) (.node (.node (.node .nil (some ⟨1, 8, (some [.nilf]), .other, [], 0, 0, none⟩) .nil) (some ⟨1, 8, (some [.nilf]), .other, [], 0, 0, none⟩) .nil) (some ⟨1, 0, (some [.top]), .other, [], 0, 0, none⟩) (.node (.node .nil (some ⟨0, 0, (some []), .struct, [(0, 87)], 0, 0, none⟩) .nil) (some ⟨1, 8, (some [.nilf]), .other, [], 0, 0, none⟩) .nil))) (some ⟨1, 1, (some [.int .u8 0]), .int .u8, [], 0, 0, none⟩) (.node (.node (.node (.node .nil (some ⟨1, 8, (some [.nilf]), .other, [], 0, 0, none⟩) .nil) (some ⟨4, 56, (some [.int .i64 0, .int .i64 0, .str [], .nils]), .struct, [(0, 3), (1, 3), (2, 9), (3, 34)], 0, 0, (some [(.int .i64), (.int .i64), .string, .slice])⟩) .nil) (some ⟨1, 4, (some [.int .i32 0]), .int .i32, [], 0, 0, none⟩) (.node (.node .nil (some ⟨4, 40, (some [.nilp, .nilp, .nilp, .str []]), .struct, [(0, 17), (1, 17), (2, 17), (3, 9)], 0, 0, none⟩) .nil) (some ⟨1, 8, (some [.nilf]), .other, [], 0, 0, none⟩) .nil)) (some ⟨2, 24, (some [.str [], .int .u64 0]), .struct, [(0, 9), (1, 12)], 0, 0, none⟩) (.node (.node (.node .nil (some ⟨1, 8, (some [.nilp]), .pointer, [], 5, 0, none⟩) .nil) (some ⟨1, 0, (some [.top]), .other, [], 0, 0, none⟩) .nil) (some ⟨1, 24, (some [.nils]), .slice, [], 3, 0, none⟩) (.node (.node .nil (some ⟨1, 1, (some [.int .u8 0]), .int .u8, [], 0, 0, none⟩) .nil) (some ⟨2, 32, (some [.nilp, .nils]), .struct, [(0, 59), (1, 60)], 0, 0, (some [.pointer, .slice])⟩) .nil))))) (some ⟨1, 0, (some [.top]), .other, [], 0, 0, none⟩) (.node (.node (.node (.node (.node (.node .nil (some ⟨1, 16, (some [.nili]), .iface, [], 0, 0, none⟩) .nil) (some ⟨1, 8, (some [.nilf]), .other, [], 0, 0, none⟩) (.node .nil (some ⟨1, 4, (some [.int .i32 0]), .int .i32, [], 0, 0, none⟩) .nil)) (some ⟨1, 8, (some [.nilp]), .pointer, [], 89, 0, none⟩) (.node (.node .nil (some ⟨1, 8, (some [.nilf]), .other, [], 0, 0, none⟩) .nil) (some ⟨1, 0, (some [.top]), .other, [], 0, 0, none⟩) .nil)) (some ⟨4, 24, (some [.int .i64 0, .int .i64 0, .bool false, .int .u8 0]), .struct, [(0, 2), (1, 3), (2, 4), (3, 6)], 0, 0, (some [(.int .i64), (.int .i64), .bool, (.int .u8)])⟩) (.node (.node (.node .nil (some ⟨1, 8, (some [.nilf]), .other, [], 0, 0, none⟩) .nil) (some ⟨1, 8, (some [.nilf]), .other, [], 0, 0, none⟩) .nil) (some ⟨1, 8, (some [.int .u64 0]), .int .u64, [], 0, 0, none⟩) (.node (.node .nil (some ⟨0, 0, (some []), .struct, [(0, 87)], 0, 0, none⟩) .nil) (some ⟨1, 8, (some [.nilf]), .other, [], 0, 0, none⟩) .nil))) (some ⟨1, 1, (some [.bool false]), .bool, [], 0, 0, none⟩) (.node (.node (.node (.node .nil (some ⟨1, 8, (some [.nilf]), .other, [], 0, 0, none⟩) .nil) (some ⟨4, 56, (some [.int .i64 0, .int .i64 0, .str [], .nils]), .struct, [(0, 3), (1, 3), (2, 9), (3, 34)], 0, 0, (some [(.int .i64), (.int .i64), .string, .slice])⟩) .nil) (some ⟨1, 16, (some [.nili]), .iface, [], 0, 0, none⟩) (.node (.node .nil (some ⟨5, 40, (some [.int .i64 0, .int .i64 0, .int .i64 0, .int .i64 0, .int .i64 0]), .array, [], 3, 5, (some (List.replicate 5 (.int .i64)))⟩) .nil) (some ⟨1, 8, (some [.nilf]), .other, [], 0, 0, none⟩) .nil)) (some ⟨1, 8, (some [.int .u64 0]), .int .u64, [], 0, 0, none⟩) (.node (.node (.node .nil (some ⟨1, 8, (some [.nilf]), .other, [], 0, 0, none⟩) .nil) (some ⟨1, 8, (some [.int .u64 0]), .int .u64, [], 0, 0, none⟩) .nil) (some ⟨1, 8, (some [.nilf]), .other, [], 0, 0, none⟩) (.node (.node .nil (some ⟨1, 1, (some [.int .u8 0]), .int .u8, [], 0, 0, none⟩) .nil) (some ⟨1, 24, (some [.nils]), .slice, [], 5, 0, none⟩) .nil)))) (some ⟨1, 8, (some [.int .i64 0]), .int .i64, [], 0, 0, none⟩) (.node (.node (.node (.node (.node .nil (some ⟨1, 0, (some [.top]), .other, [], 0, 0, none⟩) .nil) (some ⟨1, 24, (some [.nils]), .slice, [], 37, 0, none⟩) (.node .nil (some ⟨11, 48, (some [.int .u64 0, .int .u64 0, .int .u32 0, .int .u8 0, .int .u8 0, .int .u8 0, .int .u8 0, .nilf, .nilp, .int .i32 0, .int .i32 0]), .struct, [(0, 12), (1, 12), (2, 91), (3, 92), (4, 5), (5, 5), (6, 93), (7, 94), (8, 77), (9, 95), (10, 96)], 0, 0, none⟩) .nil)) (some ⟨1, 8, (some [.nilp]), .struct, [(0, 17)], 0, 0, none⟩) (.node (.node .nil (some ⟨1, 8, (some [.nilp]), .other, [], 0, 0, none⟩) .nil) (some ⟨1, 8, (some [.nilf]), .other, [], 0, 0, none⟩) .nil)) (some ⟨1, 16, (some [.str []]), .string, [], 0, 0, none⟩) (.node (.node (.node .nil (some ⟨1, 8, (some [.nilf]), .other, [], 0, 0, none⟩) .nil) (some ⟨1, 8, (some [.nilf]), .other, [], 0, 0, none⟩) .nil) (some ⟨1, 8, (some [.nilf]), .other, [], 0, 0, none⟩) (.node (.node .nil (some ⟨1, 8, (some [.nilf]), .other, [], 0, 0, none⟩) .nil) (some ⟨1, 8, (some [.nilf]), .other, [], 0, 0, none⟩) .nil))) (some ⟨1, 1, (some [.int .u8 0]), .int .u8, [], 0, 0, none⟩) (.node (.node (.node (.node .nil (some ⟨1, 8, (some [.nilf]), .other, [], 0, 0, none⟩) .nil) (some ⟨1, 0, (some [.top]), .other, [], 0, 0, none⟩) .nil) (some ⟨1, 8, (some [.nilf]), .other, [], 0, 0, none⟩) (.node (.node .nil (some ⟨4, 40, (some [.nilp, .nilp, .nilp, .str []]), .struct, [(0, 17), (1, 17), (2, 17), (3, 9)], 0, 0, none⟩) .nil) (some ⟨1, 8, (some [.nilf]), .other, [], 0, 0, none⟩) .nil)) (some ⟨2, 24, (some [.str [], .int .u64 0]), .struct, [(0, 9), (1, 12)], 0, 0, none⟩) (.node (.node (.node .nil (some ⟨1, 8, (some [.nilf]), .other, [], 0, 0, none⟩) .nil) (some ⟨1, 8, (some [.nilf]), .other, [], 0, 0, none⟩) .nil) (some ⟨1, 8, (some [.nilf]), .other, [], 0, 0, none⟩) (.node (.node .nil (some ⟨1, 8, (some [.nilf]), .other, [], 0, 0, none⟩) .nil) (some ⟨2, 32, (some [.nilp, .nils]), .struct, [(0, 59), (1, 60)], 0, 0, (some [.pointer, .slice])⟩) .nil))))))
theorem tyOk : tyT.allB (tiOk Try.prog) id = true := by decide +kernel
def cx : Cx := ⟨tyT.get⟩
theorem cxTi : ∀ t i, cx.ti t = some i → mkTi Try.prog t = some i := fun t i h => tiOk_eq (PT.allB_get tyT id tyOk t i h)
theorem cxOrd : Try.prog.follows .mixedOrders = true := by decide +kernel
end
end Go.Proofs.Ytabhkocokojddaa.Am
set_option linter.unusedVariables false
set_option linter.unusedSimpArgs false
namespace Go.Proofs.Ytabhkocokojddaa.Am
open Go
mutual
def renV (ρ : Nat → Nat) : AV → AV
 | .ptr r v off => .ptr (ρ r) v off
 | .slice r v off len sz => .slice (ρ r) v off len sz
 | .own r len sz => .own (ρ r) len sz
 | .agg xs => .agg (renVs ρ xs)
 | .tuple xs => .tuple (renVs ρ xs)
 | .func f a b => .func f (renVs ρ a) (renVs ρ b)
 | .iface t v => .iface t (renV ρ v)
 | .top => .top
 | .int k n => .int k n
 | .resid k q r => .resid k q r
 | .bool b => .bool b
 | .str s => .str s
 | .nilp => .nilp
 | .nils => .nils
 | .nilf => .nilf
 | .nili => .nili
 | .vec n sz c => .vec n sz c
 | .vptr c => .vptr c
def renVs (ρ : Nat → Nat) : List AV → List AV
 | [] => []
 | x :: xs => renV ρ x :: renVs ρ xs
end
mutual
theorem ren_back {m m0 : Mp} {ρ : Nat → Nat} {n : Nat} (h : ∀ i v p, i < n → m (ρ i) v = some p → m0 i v = some p) (hf : ∀ i p, m.froz i = some p → m0.froz i = some p) : ∀ (x : AV) (c : Value), below n x = true → VR m (renV ρ x) c → VR m0 x c
 | .top, _, _, _ => by simp only [VR]
 | .int .., _, _, e => by simpa only [VR, renV] using e
 | .resid .., _, _, e => by simpa only [VR, renV] using e
 | .bool _, _, _, e => by simpa only [VR, renV] using e
 | .str _, _, _, e => by simpa only [VR, renV] using e
 | .nilp, _, _, e => by simpa only [VR, renV] using e
 | .nils, _, _, e => by simpa only [VR, renV] using e
 | .nilf, _, _, e => by simpa only [VR, renV] using e
 | .nili, _, _, e => by simpa only [VR, renV] using e
 | .vec .., _, _, e => by
  simp only [VR, renV] at e ⊢
  obtain ⟨h0, a, cap, h1, h2, h3, h4⟩ := e
  exact ⟨h0, a, cap, h1, h2, h3, fun hn => let ⟨i, B, off, all, q, r⟩ := h4 hn; ⟨i, B, off, all, hf _ _ q, r⟩⟩
 | .vptr .., _, _, e => by
  simp only [VR, renV] at e ⊢
  obtain ⟨i, B, off, all, q, r⟩ := e
  exact ⟨i, B, off, all, hf _ _ q, r⟩
 | .ptr r v off, _, hb, e => by
  simp only [VR, renV, below, Nat.blt_eq] at e hb ⊢
  obtain ⟨B, N, h1, h2⟩ := e
  exact ⟨B, N, h _ _ _ hb h1, h2⟩
 | .slice r v off len sz, _, hb, e => by
  simp only [VR, renV, below, Nat.blt_eq] at e hb ⊢
  obtain ⟨B, N, cap, h1, h2⟩ := e
  exact ⟨B, N, cap, h _ _ _ hb h1, h2⟩
 | .own r len sz, _, hb, e => by
  simp only [VR, renV, below, Nat.blt_eq] at e hb ⊢
  rcases e with e | ⟨B, N, cap, h1, h2⟩
  ·exact .inl e
  ·exact .inr ⟨B, N, cap, h _ _ _ hb h1, h2⟩
 | .agg xs, c, hb, e => by
  simp only [VR, renV] at e ⊢
  obtain ⟨ys, h1, h2⟩ := e
  exact ⟨ys, h1, rens_back h hf xs _ (by simpa only [below] using hb) h2⟩
 | .tuple xs, c, hb, e => by
  simp only [VR, renV] at e ⊢
  obtain ⟨ys, h1, h2⟩ := e
  exact ⟨ys, h1, rens_back h hf xs _ (by simpa only [below] using hb) h2⟩
 | .func f a b, c, hb, e => by
  simp only [VR, renV] at e ⊢
  simp only [below, Bool.and_eq_true] at hb
  obtain ⟨ys, zs, h1, h2, h3⟩ := e
  exact ⟨ys, zs, h1, rens_back h hf a _ hb.1 h2, rens_back h hf b _ hb.2 h3⟩
 | .iface t v, c, hb, e => by
  simp only [VR, renV] at e ⊢
  obtain ⟨d, h1, h2⟩ := e
  exact ⟨d, h1, ren_back h hf v _ (by simpa only [below] using hb) h2⟩
theorem rens_back {m m0 : Mp} {ρ : Nat → Nat} {n : Nat} (h : ∀ i v p, i < n → m (ρ i) v = some p → m0 i v = some p) (hf : ∀ i p, m.froz i = some p → m0.froz i = some p) : ∀ (xs : List AV) (cs : List Value), belows n xs = true → VRs m (renVs ρ xs) cs → VRs m0 xs cs
 | [], _, _, e => by simpa only [VRs, renVs] using e
 | x :: xs, cs, hb, e => by
  simp only [VRs, renVs] at e ⊢
  simp only [belows, Bool.and_eq_true] at hb
  obtain ⟨y, ys, rfl, h1, h2⟩ := e
  exact ⟨y, ys, rfl, ren_back h hf x y hb.1 h1, rens_back h hf xs ys hb.2 h2⟩
end
mutual
theorem ren_fwd {m m0 : Mp} {ρ : Nat → Nat} {n : Nat} (h : ∀ i v p, i < n → m0 i v = some p → m (ρ i) v = some p) (hf : ∀ i p, m0.froz i = some p → m.froz i = some p) : ∀ (x : AV) (c : Value), below n x = true → VR m0 x c → VR m (renV ρ x) c
 | .top, _, _, _ => by simp only [VR, renV]
 | .int .., _, _, e => by simpa only [VR, renV] using e
 | .resid .., _, _, e => by simpa only [VR, renV] using e
 | .bool _, _, _, e => by simpa only [VR, renV] using e
 | .str _, _, _, e => by simpa only [VR, renV] using e
 | .nilp, _, _, e => by simpa only [VR, renV] using e
 | .nils, _, _, e => by simpa only [VR, renV] using e
 | .nilf, _, _, e => by simpa only [VR, renV] using e
 | .nili, _, _, e => by simpa only [VR, renV] using e
 | .vec .., _, _, e => by
  simp only [VR, renV] at e ⊢
  obtain ⟨h0, a, cap, h1, h2, h3, h4⟩ := e
  exact ⟨h0, a, cap, h1, h2, h3, fun hn => let ⟨i, B, off, all, q, r⟩ := h4 hn; ⟨i, B, off, all, hf _ _ q, r⟩⟩
 | .vptr .., _, _, e => by
  simp only [VR, renV] at e ⊢
  obtain ⟨i, B, off, all, q, r⟩ := e
  exact ⟨i, B, off, all, hf _ _ q, r⟩
 | .ptr r v off, _, hb, e => by
  simp only [VR, renV, below, Nat.blt_eq] at e hb ⊢
  obtain ⟨B, N, h1, h2⟩ := e
  exact ⟨B, N, h _ _ _ hb h1, h2⟩
 | .slice r v off len sz, _, hb, e => by
  simp only [VR, renV, below, Nat.blt_eq] at e hb ⊢
  obtain ⟨B, N, cap, h1, h2⟩ := e
  exact ⟨B, N, cap, h _ _ _ hb h1, h2⟩
 | .own r len sz, _, hb, e => by
  simp only [VR, renV, below, Nat.blt_eq] at e hb ⊢
  rcases e with e | ⟨B, N, cap, h1, h2⟩
  ·exact .inl e
  ·exact .inr ⟨B, N, cap, h _ _ _ hb h1, h2⟩
 | .agg xs, c, hb, e => by
  simp only [VR, renV] at e ⊢
  obtain ⟨ys, h1, h2⟩ := e
  exact ⟨ys, h1, rens_fwd h hf xs _ (by simpa only [below] using hb) h2⟩
 | .tuple xs, c, hb, e => by
  simp only [VR, renV] at e ⊢
  obtain ⟨ys, h1, h2⟩ := e
  exact ⟨ys, h1, rens_fwd h hf xs _ (by simpa only [below] using hb) h2⟩
 | .func f a b, c, hb, e => by
  simp only [VR, renV] at e ⊢
  simp only [below, Bool.and_eq_true] at hb
  obtain ⟨ys, zs, h1, h2, h3⟩ := e
  exact ⟨ys, zs, h1, rens_fwd h hf a _ hb.1 h2, rens_fwd h hf b _ hb.2 h3⟩
 | .iface t v, c, hb, e => by
  simp only [VR, renV] at e ⊢
  obtain ⟨d, h1, h2⟩ := e
  exact ⟨d, h1, ren_fwd h hf v _ (by simpa only [below] using hb) h2⟩
theorem rens_fwd {m m0 : Mp} {ρ : Nat → Nat} {n : Nat} (h : ∀ i v p, i < n → m0 i v = some p → m (ρ i) v = some p) (hf : ∀ i p, m0.froz i = some p → m.froz i = some p) : ∀ (xs : List AV) (cs : List Value), belows n xs = true → VRs m0 xs cs → VRs m (renVs ρ xs) cs
 | [], _, _, e => by simpa only [VRs, renVs] using e
 | x :: xs, cs, hb, e => by
  simp only [VRs, renVs] at e ⊢
  simp only [belows, Bool.and_eq_true] at hb
  obtain ⟨y, ys, rfl, h1, h2⟩ := e
  exact ⟨y, ys, rfl, ren_fwd h hf x y hb.1 h1, rens_fwd h hf xs ys hb.2 h2⟩
end
theorem renVs_len (ρ : Nat → Nat) : ∀ xs : List AV, (renVs ρ xs).length = xs.length
 | [] => rfl
 | x :: xs => by simp only [renVs, List.length_cons, renVs_len ρ xs]
theorem renVs_take (ρ : Nat → Nat) : ∀ (xs : List AV) (k : Nat), (renVs ρ xs).take k = renVs ρ (xs.take k)
 | [], k => by simp [renVs]
 | x :: xs, 0 => by simp [renVs]
 | x :: xs, k + 1 => by simp only [renVs, List.take_succ_cons, renVs_take ρ xs k]
mutual
theorem pur_ren (ρ : Nat → Nat) : ∀ x : AV, pur x = true → renV ρ x = x
 | .top, _ | .int .., _ | .resid .., _ | .bool _, _ | .str _, _ | .nilp, _ | .nils, _ | .nilf, _ | .nili, _ | .vec .., _ | .vptr .., _ => by simp [renV]
 | .ptr .., h | .slice .., h | .own .., h => by simp [pur] at h
 | .agg xs, h => by simp only [pur, renV] at h ⊢; rw [purs_ren ρ xs h]
 | .tuple xs, h => by simp only [pur, renV] at h ⊢; rw [purs_ren ρ xs h]
 | .func _ a b, h => by simp only [pur, renV, Bool.and_eq_true] at h ⊢; rw [purs_ren ρ a h.1, purs_ren ρ b h.2]
 | .iface _ v, h => by simp only [pur, renV] at h ⊢; rw [pur_ren ρ v h]
theorem purs_ren (ρ : Nat → Nat) : ∀ xs : List AV, purs xs = true → renVs ρ xs = xs
 | [], _ => rfl
 | x :: xs, h => by simp only [purs, renVs, Bool.and_eq_true] at h ⊢; rw [pur_ren ρ x h.1, purs_ren ρ xs h.2]
end
noncomputable def at0 (rs : List Nat) (i : Nat) : Nat := match nth rs i with | some r => r | none => 0
def RB (rs : List Nat) (n : Nat) (b c : Blk) : Prop := b.ro = false ∧ ((c = b ∧ purs b.cells = true) ∨ (belows n b.cells = true ∧ c = ⟨renVs (at0 rs) b.cells, b.minv, false⟩))
def RBs (rs : List Nat) (n : Nat) (M : List Blk) : Nat → List Blk → Prop
 | _, [] => True
 | i, b :: L => (match nth M (at0 rs i) with | some c => RB rs n b c | none => False) ∧ RBs rs n M (i + 1) L
theorem RBs_get {rs : List Nat} {n : Nat} {M : List Blk} : ∀ {L : List Blk} {i j : Nat} {b : Blk}, RBs rs n M i L → L[j]? = some b → ∃ c, M[at0 rs (i + j)]? = some c ∧ RB rs n b c
 | [], i, j, b, _, h => by simp at h
 | b0 :: L, i, j, b, hr, h => by
  cases j with
  | zero =>
   simp at h
   subst h
   have h1 := hr.1
   split at h1
   ·rename_i c hc; exact ⟨c, by rw [← nth_eq]; exact hc, h1⟩
   ·exact h1.elim
  | succ j =>
   obtain ⟨c, h1, h2⟩ := RBs_get hr.2 (by simpa using h)
   exact ⟨c, by rw [show i + (j + 1) = i + 1 + j by omega]; exact h1, h2⟩
theorem RB.cells {rs : List Nat} {n : Nat} {b c : Blk} (h : RB rs n b c) : b.ro = false ∧ c.ro = false ∧ c.minv = b.minv ∧ belows n b.cells = true ∧ c.cells = renVs (at0 rs) b.cells := by
 obtain ⟨h0, ⟨rfl, h1⟩ | ⟨h1, rfl⟩⟩ := h
 ·exact ⟨h0, h0, rfl, purs_belows _ h1, (purs_ren _ _ h1).symm⟩
 ·exact ⟨h0, rfl, rfl, h1, rfl⟩
def SameB (rs : List Nat) : Nat → List Blk → List Blk → Prop
 | _, [], _ => True
 | _, _ :: _, [] => False
 | i, b :: M, c :: M' => (c = b ∨ (rs.any fun r => Nat.beq r i) = true) ∧ SameB rs (i + 1) M M'
theorem SameB_get {rs : List Nat} : ∀ {M M' : List Blk} {i j : Nat}, SameB rs i M M' → j < M.length → (∀ r ∈ rs, r ≠ i + j) → M'[j]? = M[j]?
 | [], _, i, j, _, h, _ => by simp at h
 | b :: M, [], i, j, h, _, _ => h.elim
 | b :: M, c :: M', i, j, h, hj, hn => by
  cases j with
  | zero =>
   rcases h.1 with h1 | h1
   ·rw [h1]; rfl
   ·obtain ⟨r, hr, he⟩ := List.any_eq_true.1 h1
    exact absurd (Nat.eq_of_beq_eq_true he) (hn r hr)
  | succ j =>
   simp only [List.getElem?_cons_succ]
   exact SameB_get h.2 (by simpa using hj) fun r hr => by rw [show i + 1 + j = i + (j + 1) by omega]; exact hn r hr
def frB (n k k' : Nat) : Nat → List Nat → Bool
 | _, [] => true
 | i, r :: l => (bif Nat.blt i n then Nat.blt r k else Nat.ble k r && Nat.blt r k') && (l.all fun s => !Nat.beq s r) && frB n k k' (i + 1) l
def frOk (n n' k k' : Nat) (rs : List Nat) : Bool := Nat.beq rs.length n' && Nat.ble n n' && Nat.ble k k' && Nat.ble k' roots && Nat.ble n' roots && frB n k k' 0 rs
theorem frB_spec {n k k' : Nat} : ∀ {l : List Nat} {i : Nat}, frB n k k' i l = true → (∀ (j r : Nat), l[j]? = some r → (i + j < n → r < k) ∧ (n ≤ i + j → k ≤ r ∧ r < k')) ∧ (∀ (j j' r : Nat), l[j]? = some r → l[j']? = some r → j = j')
 | [], i, _ => ⟨fun j r h => by simp at h, fun j j' r h => by simp at h⟩
 | r0 :: l, i, h => by
  simp only [frB, Bool.and_eq_true] at h
  obtain ⟨⟨h1, h2⟩, h3⟩ := h
  obtain ⟨g1, g2⟩ := frB_spec h3
  have hne : ∀ j : Nat, l[j]? ≠ some r0 := by
   intro j hj
   have := List.all_eq_true.1 h2 r0 (List.mem_of_getElem? hj)
   simp at this
  refine ⟨?_, ?_⟩
  ·intro j r hj
   cases j with
   | zero =>
    simp at hj; subst hj
    refine ⟨fun hlt => ?_, fun hge => ?_⟩
    ·have : Nat.blt i n = true := by simpa using hlt
     rw [this] at h1; simpa using h1
    ·have : Nat.blt i n = false := by
      cases hq : Nat.blt i n with
      | false => rfl
      | true => rw [Nat.blt_eq] at hq; omega
     rw [this] at h1; simpa using h1
   | succ j =>
    have := g1 j r (by simpa using hj)
    rw [show i + (j + 1) = i + 1 + j by omega]
    exact this
  ·intro j j' r hj hj'
   cases j with
   | zero =>
    cases j' with
    | zero => rfl
    | succ j' => simp at hj hj'; subst hj; exact absurd hj' (hne j')
   | succ j =>
    cases j' with
    | zero => simp at hj hj'; subst hj'; exact absurd hj (hne j)
    | succ j' => rw [g2 j j' r (by simpa using hj) (by simpa using hj')]
theorem mkH_at {L : List Blk} (hl : L.length ≤ roots) (r : Nat) : (mkH L).t.get r = L[r]? := by
 show (mkT 0 L).get r = _
 rw [mkT_get _ _ _ (by omega)]; simp
theorem frame {P : Program} {g : Nat} {ys : List AV} {L L' : List Blk} {v : AV} (h : CallT P g ys (mkH L) none v (mkH L')) (rs : List Nat) (M M' : List Blk)
 (hc : frOk L.length L'.length M.length M'.length rs = true) (hys : belows L.length ys = true) (hL : RBs rs L.length M 0 L) (hL' : RBs rs L'.length M' 0 L') (hv : below L'.length v = true) (hS : SameB rs 0 M M') :
 CallT P g (renVs (at0 rs) ys) (mkH M) none (renV (at0 rs) v) (mkH M') := by
 refine ⟨?_, h.2⟩
 intro m w base args hargs rw
 simp only [frOk, Bool.and_eq_true, Nat.beq_eq, Nat.ble_eq] at hc
 obtain ⟨⟨⟨⟨⟨c1, c2⟩, c3⟩, c4⟩, c6⟩, c5⟩ := hc
 obtain ⟨hbd, hinj⟩ := frB_spec c5
 have hat : ∀ i, i < L'.length → ∃ r, rs[i]? = some r ∧ at0 rs i = r := by
  intro i hi
  have hi' : i < rs.length := by omega
  refine ⟨rs[i], List.getElem?_eq_getElem hi', ?_⟩
  unfold at0
  rw [nth_eq, List.getElem?_eq_getElem hi']
 have hlow : ∀ i, i < L.length → at0 rs i < M.length := by
  intro i hi
  obtain ⟨r, h1, h2⟩ := hat i (by omega)
  rw [h2]
  exact (hbd i r h1).1 (by omega)
 have hhigh : ∀ i, L.length ≤ i → i < L'.length → M.length ≤ at0 rs i := by
  intro i hi hi'
  obtain ⟨r, h1, h2⟩ := hat i hi'
  rw [h2]
  exact ((hbd i r h1).2 (by omega)).1
 have hinj' : ∀ i j, i < L'.length → j < L'.length → at0 rs i = at0 rs j → i = j := by
  intro i j hi hj e
  obtain ⟨r, h1, h2⟩ := hat i hi
  obtain ⟨s, h3, h4⟩ := hat j hj
  rw [h2, h4] at e
  subst e
  exact hinj i j r h1 h3
 have hMget := mkH_at (L := M) (by omega)
 have hM'get := mkH_at (L := M') c4
 have hroomL : L.length ≤ roots ∧ L'.length ≤ roots := by omega
 have hLget := mkH_at (L := L) hroomL.1
 have hL'get := mkH_at (L := L') hroomL.2
 have hnoM : ∀ r v, M.length ≤ r → m r v = none := by
  intro r v hr
  cases e : m r v with
  | none => rfl
  | some p =>
   obtain ⟨b, hb, _⟩ := rw.dom r v p.1 p.2 e
   rw [hMget, List.getElem?_eq_none hr] at hb; cases hb
 let m0 : Mp := ⟨fun i v => if i < L.length then m (at0 rs i) v else none, m.froz⟩
 have hm0 : ∀ {i v p}, m0 i v = some p → i < L.length ∧ m (at0 rs i) v = some p := by
  intro i v p e
  have e : (if i < L.length then m (at0 rs i) v else none) = some p := e
  by_cases hi : i < L.length
  ·rw [if_pos hi] at e; exact ⟨hi, e⟩
  ·rw [if_neg hi] at e; cases e
 have hm0' : ∀ i v p, i < L.length → m (at0 rs i) v = some p → m0 i v = some p := by
  intro i v p hi e
  show (if i < L.length then m (at0 rs i) v else none) = some p
  rw [if_pos hi]; exact e
 have rw0 : RW m0 (mkH L) w base := by
  refine ⟨?_, ?_, ?_, ?_, ?_, rw.frz, ?_, rw.ffin, rw.base_le, hroomL.1⟩
  ·intro i b v B N hb hm h1 h2
   rw [hLget] at hb
   obtain ⟨hi, hm⟩ := hm0 hm
   obtain ⟨c, q1, q2⟩ := RBs_get hL hb
   rw [Nat.zero_add] at q1
   obtain ⟨e1, e2, e3, e4, e5⟩ := q2.cells
   obtain ⟨cs, ty, fr, p1, p2, p3, p4, p5⟩ := rw.blk (at0 rs i) c v B N (by rw [hMget]; exact q1) hm (by rw [e3]; exact h1) (by rw [e5, renVs_len]; exact h2)
   refine ⟨cs, ty, fr, p1, p2, p3, fun _ => p4 e2, ?_⟩
   rw [e5, renVs_take] at p5
   exact rens_back hm0' (fun _ _ h => h) _ _ (belows_take v e4) p5
  ·intro i v B N hm
   obtain ⟨hi, hm⟩ := hm0 hm
   obtain ⟨c0, g1, g2, g3, g4⟩ := rw.dom _ _ _ _ hm
   have hb : L[i]? = some L[i] := List.getElem?_eq_getElem hi
   obtain ⟨c, q1, q2⟩ := RBs_get hL hb
   rw [Nat.zero_add] at q1
   rw [hMget, q1] at g1
   cases g1
   obtain ⟨e1, e2, e3, e4, e5⟩ := q2.cells
   exact ⟨_, by rw [hLget]; exact hb, by rw [e5, renVs_len] at g2; exact g2, g3, fun _ => g4 e2⟩
  ·intro i v B N i' v' N' hm hm' hB
   obtain ⟨hi, hm⟩ := hm0 hm
   obtain ⟨hi', hm'⟩ := hm0 hm'
   exact hinj' i i' (by omega) (by omega) (rw.sep _ _ _ _ _ _ _ hm hm' hB)
  ·intro r hr
   have hr : L.length ≤ r := hr
   rw [hLget, List.getElem?_eq_none hr]
  ·intro i v B N hm
   exact rw.vle _ _ _ _ (hm0 hm).2
  ·intro i B cells r v N b hi hm hb
   obtain ⟨hr, hm⟩ := hm0 hm
   rw [hLget] at hb
   obtain ⟨c, q1, q2⟩ := RBs_get hL hb
   rw [Nat.zero_add] at q1
   obtain ⟨e1, e2, _⟩ := q2.cells
   have := rw.fsep i B cells _ v N c hi hm (by rw [hMget]; exact q1)
   rw [e2] at this; cases this
 have hargs0 : VRs m0 ys args.toList := rens_back hm0' (fun _ _ h => h) _ _ hys hargs
 refine Calls.mono (h.1 m0 w base args hargs0 rw0) ?_
 intro x w' hend
 have hsep : ∀ {r v B N}, m r v = some (B, N) → (∀ i, i < L.length → at0 rs i ≠ r) → ∀ i v' N', m0 i v' = some (B, N') → B < base := by
  intro r v B N hm hr i v' N' hi
  obtain ⟨hi, hm'⟩ := hm0 hi
  rcases Nat.lt_or_ge B base with hlt | hge
  ·exact hlt
  ·exact absurd (rw.sep _ _ _ _ _ _ _ hm' hm hge) (hr i hi)
 obtain ⟨m1, c, rfl, rw1, st, hvc⟩ := hend
 have hm1 : ∀ {i v p}, m1 i v = some p → i < L'.length := by
  intro i v p e
  obtain ⟨b, hb, _⟩ := rw1.dom i v p.1 p.2 e
  rw [hL'get] at hb
  exact (List.getElem?_eq_some_iff.1 hb).1
 have hσ : ∀ r, (∃ i, i < L'.length ∧ at0 rs i = r) ∨ (∀ i, i < L'.length → at0 rs i ≠ r) := by
  intro r
  rcases Classical.em (∃ i, i < L'.length ∧ at0 rs i = r) with h | h
  ·exact .inl h
  ·exact .inr fun i hi e => h ⟨i, hi, e⟩
 let m2 : Mp := ⟨fun r v => if h : ∃ i, i < L'.length ∧ at0 rs i = r then m1 (Classical.choose h) v else m r v, m1.froz⟩
 have hin : ∀ {i v}, i < L'.length → m2 (at0 rs i) v = m1 i v := by
  intro i v hi
  have hex : ∃ j, j < L'.length ∧ at0 rs j = at0 rs i := ⟨i, hi, rfl⟩
  show (if h : ∃ j, j < L'.length ∧ at0 rs j = at0 rs i then m1 (Classical.choose h) v else m (at0 rs i) v) = _
  rw [dif_pos hex]
  have hs := Classical.choose_spec hex
  rw [hinj' _ _ hs.1 hi hs.2]
 have hout : ∀ {r v}, (∀ i, i < L'.length → at0 rs i ≠ r) → m2 r v = m r v := by
  intro r v hr
  show (if h : ∃ j, j < L'.length ∧ at0 rs j = r then m1 (Classical.choose h) v else m r v) = _
  rw [dif_neg]
  rintro ⟨j, h1, h2⟩
  exact hr j h1 h2
 have hfwd : ∀ i v p, i < L'.length → m1 i v = some p → m2 (at0 rs i) v = some p := fun i v p hi e => by rw [hin hi]; exact e
 have hsub : Sub m m2 := by
  refine ⟨?_, fun i p hp => st.sub.2 i p hp⟩
  intro r v p hp
  rcases hσ r with ⟨i, hi, rfl⟩ | hr
  ·rw [hin hi]
   rcases Nat.lt_or_ge i L.length with h1 | h1
   ·exact st.sub.1 i v p (hm0' i v p h1 hp)
   ·have := hnoM _ v (hhigh i h1 hi)
    rw [this] at hp; cases hp
  ·rw [hout hr]; exact hp
 have hother : ∀ {r v B N}, (∀ i, i < L'.length → at0 rs i ≠ r) → m r v = some (B, N) → w'.heap[B]? = w.heap[B]? := by
  intro r v B N hr hm
  obtain ⟨b, q1, q2, q3, q4⟩ := rw.dom r v B N hm
  exact st.same B q3 fun i v' N' e => hsep hm (fun i hi => hr i (by omega)) i v' N' e
 have hsameM : ∀ {r b}, (∀ i, i < L'.length → at0 rs i ≠ r) → r < M.length → M'[r]? = some b → M[r]? = some b := by
  intro r b hr hlt hb
  rw [← SameB_get hS hlt]
  ·exact hb
  ·intro s hs
   obtain ⟨j, hj⟩ := List.mem_iff_getElem?.1 hs
   have hjl : j < L'.length := by
    have := (List.getElem?_eq_some_iff.1 hj).1
    omega
   obtain ⟨s', h1, h2⟩ := hat j hjl
   rw [hj] at h1
   cases h1
   rw [Nat.zero_add, ← h2]
   exact hr j hjl
 have hltM : ∀ {r v p}, m r v = some p → r < M.length := by
  intro r v p hm
  rcases Nat.lt_or_ge r M.length with h1 | h1
  ·exact h1
  ·rw [hnoM r v h1] at hm; cases hm
 have hsep2 : ∀ {i r v v' B N N'}, i < L'.length → (∀ i, i < L'.length → at0 rs i ≠ r) → m1 i v = some (B, N) → m r v' = some (B, N') → base ≤ B → False := by
  intro i r v v' B N N' hi hr h1 h2 hB
  rcases st.ext i v B N h1 with ⟨v0, N0, e0⟩ | hnew
  ·exact absurd (hsep h2 (fun i hi => hr i (by omega)) i v0 N0 e0) (by omega)
  ·obtain ⟨_, _, _, q3, _⟩ := rw.dom r v' B N' h2
   omega
 refine ⟨m2, c, rfl, ⟨?_, ?_, ?_, ?_, ?_, rw1.frz, ?_, rw1.ffin, rw1.base_le, c4⟩, ⟨hsub, ?_, ?_, st.size, st.os, st.tape, st.output, fun B hB hm => st.same B hB fun i v N e => hm _ v N (hm0 e).2⟩, ren_fwd hfwd (fun _ _ h => h) v c hv hvc⟩
 ·intro r b v B N hb hm h1 h2
  rw [hM'get] at hb
  rcases hσ r with ⟨i, hi, rfl⟩ | hr
  ·rw [hin hi] at hm
   have hbl : L'[i]? = some L'[i] := List.getElem?_eq_getElem hi
   obtain ⟨c', q1, q2⟩ := RBs_get hL' hbl
   rw [Nat.zero_add, hb] at q1
   cases q1
   obtain ⟨e1, e2, e3, e4, e5⟩ := q2.cells
   rw [e3] at h1
   rw [e5, renVs_len] at h2
   obtain ⟨cs, ty, fr, p1, p2, p3, p4, p5⟩ := rw1.blk i _ v B N (by rw [hL'get]; exact hbl) hm h1 h2
   refine ⟨cs, ty, fr, p1, p2, p3, fun _ => p4 e1, ?_⟩
   rw [e5, renVs_take]
   exact rens_fwd hfwd (fun _ _ h => h) _ _ (belows_take v e4) p5
  ·rw [hout hr] at hm
   have hbM := hsameM hr (hltM hm) hb
   obtain ⟨cs, ty, fr, p1, p2, p3, p4, p5⟩ := rw.blk r b v B N (by rw [hMget]; exact hbM) hm h1 h2
   exact ⟨cs, ty, fr, by rw [hother hr hm]; exact p1, p2, p3, p4, VRs.mono hsub _ _ p5⟩
 ·intro r v B N hm
  rcases hσ r with ⟨i, hi, rfl⟩ | hr
  ·rw [hin hi] at hm
   obtain ⟨b, q1, q2, q3, q4⟩ := rw1.dom i v B N hm
   rw [hL'get] at q1
   obtain ⟨c', g1, g2⟩ := RBs_get hL' q1
   rw [Nat.zero_add] at g1
   obtain ⟨e1, e2, e3, e4, e5⟩ := g2.cells
   exact ⟨c', by rw [hM'get]; exact g1, by rw [e5, renVs_len]; exact q2, q3, fun _ => q4 e1⟩
  ·rw [hout hr] at hm
   obtain ⟨b, q1, q2, q3, q4⟩ := rw.dom r v B N hm
   rw [hMget] at q1
   have hlt := (List.getElem?_eq_some_iff.1 q1).1
   have hM'r : M'[r]? = some b := by
    have hlt' : r < M'.length := by omega
    have := hsameM (b := M'[r]) hr hlt (List.getElem?_eq_getElem hlt')
    rw [q1] at this
    rw [List.getElem?_eq_getElem hlt', ← this]
   exact ⟨b, by rw [hM'get]; exact hM'r, q2, Nat.lt_of_lt_of_le q3 st.size, q4⟩
 ·intro r v B N r' v' N' hm hm' hB
  rcases hσ r with ⟨i, hi, rfl⟩ | hr
  ·rw [hin hi] at hm
   rcases hσ r' with ⟨j, hj, rfl⟩ | hr'
   ·rw [hin hj] at hm'
    rw [rw1.sep _ _ _ _ _ _ _ hm hm' hB]
   ·rw [hout hr'] at hm'
    exact (hsep2 hi hr' hm hm' hB).elim
  ·rw [hout hr] at hm
   rcases hσ r' with ⟨j, hj, rfl⟩ | hr'
   ·rw [hin hj] at hm'
    exact (hsep2 hj hr hm' hm hB).elim
   ·rw [hout hr'] at hm'
    exact rw.sep _ _ _ _ _ _ _ hm hm' hB
 ·intro r hr
  have hr : M'.length ≤ r := hr
  rw [hM'get, List.getElem?_eq_none hr]
 ·intro r v B N hm
  rcases hσ r with ⟨i, hi, rfl⟩ | hr
  ·rw [hin hi] at hm; exact rw1.vle _ _ _ _ hm
  ·rw [hout hr] at hm; exact rw.vle _ _ _ _ hm
 ·intro i B cells r v N b hi hm hb
  rw [hM'get] at hb
  rcases hσ r with ⟨j, hj, rfl⟩ | hr
  ·rw [hin hj] at hm
   have hbl : L'[j]? = some L'[j] := List.getElem?_eq_getElem hj
   have := rw1.fsep i B cells j v N _ hi hm (by rw [hL'get]; exact hbl)
   obtain ⟨c', q1, q2⟩ := RBs_get hL' hbl
   rw [q2.1] at this; cases this
  ·rw [hout hr] at hm
   have hbM := hsameM hr (hltM hm) hb
   rcases st.fext i B cells hi with hold | ⟨hB, ⟨j, v0, N0, hj⟩ | hnew⟩
   ·exact rw.fsep i B cells r v N b hold hm (by rw [hMget]; exact hbM)
   ·exact absurd (hsep hm (fun i hi => hr i (by omega)) j v0 N0 hj) (by omega)
   ·obtain ⟨_, _, _, q3, _⟩ := rw.dom r v B N hm
    omega
 ·intro r v B N hm
  rcases hσ r with ⟨i, hi, rfl⟩ | hr
  ·rw [hin hi] at hm
   rcases st.ext i v B N hm with ⟨v0, N0, e0⟩ | hnew
   ·exact .inl ⟨v0, N0, (hm0 e0).2⟩
   ·exact .inr hnew
  ·rw [hout hr] at hm
   exact .inl ⟨v, N, hm⟩
 ·intro i B cells hi
  rcases st.fext i B cells hi with hold | ⟨hB, ⟨j, v0, N0, hj⟩ | hnew⟩
  ·exact .inl hold
  ·exact .inr ⟨hB, .inl ⟨_, v0, N0, (hm0 hj).2⟩⟩
  ·exact .inr ⟨hB, .inr hnew⟩
end Go.Proofs.Ytabhkocokojddaa.Am
set_option linter.unusedVariables false
set_option linter.unusedSimpArgs false
namespace Go.Proofs.Ytabhkocokojddaa.Am
open Go
section
variable {R : Type} {X : Fx (Option R)} {p p' : Pt} {env eE : Env} {H H' : Hp}
theorem ok_callN {R : Type} {X : Fx R} {p : Pt} {env : Env} {H : Hp} {α : Type} {m : Option α} {f : α → Option R} {fi : Nat} {args : List AV} (g : α → AV) (G : α → Hp) (p' : Pt) (E : α → Env) (hc : callAt X.fn.ntmps p env = some (fi, args)) (hf : ∀ x, m = some x → CallT X.P fi args H none (g x) (G x)) (ha : ∀ x, advE X.fn.ntmps p env (g x) = some (p', E x)) (k : ∀ x, m = some x → Ok X p' (E x) (G x) (f x)) : Ok X p env H (m.bind f) :=
 ok_callM g G p' E hc (fun x h => (hf x h).v) ha k
end
inductive Wk : List AV → List AV → Prop where
 | refl {xs} : Wk xs xs
 | cons {x xs ys} : Wk xs ys → Wk (x :: xs) (x :: ys)
 | slice {r v len sz xs ys} : v = len * sz → Wk xs ys → Wk (.slice r v 0 len sz :: xs) (.own r len sz :: ys)
 | none {r sz xs ys} : Wk xs ys → Wk (.nils :: xs) (.own r 0 sz :: ys)
 | nil {sz xs ys} : Wk xs ys → Wk (.nils :: xs) (.vec 0 sz [] :: ys)
 | agg {xs ys zs us} : Wk xs ys → Wk zs us → Wk (.agg xs :: zs) (.agg ys :: us)
 | func {f a b a' b' zs us} : Wk a a' → Wk b b' → Wk zs us → Wk (.func f a b :: zs) (.func f a' b' :: us)
theorem CallT.args {P : Program} {g : Nat} {xs ys : List AV} {H H' : Hp} {tv : Option (Value × List Nat)} {v : AV} (h : CallT P g ys H tv v H') (k : xs = ys) : CallT P g xs H tv v H' := k ▸ h
theorem CallT.heap {P : Program} {g : Nat} {xs : List AV} {H H' H'' : Hp} {tv : Option (Value × List Nat)} {v v' : AV} (h : CallT P g xs H tv v H') (k : H' = H'') (kv : v = v') : CallT P g xs H tv v' H'' := k ▸ kv ▸ h
section
variable {R : Type} {X : Fx R} {p p' : Pt} {env eE : Env} {H H' : Hp}
theorem retF_end {r : R} {xs : List AV} {v : AV} {m0 m : Mp} {w0 w : World} {b0 : Nat} {a : Act} (h0 : (∀ r v p, m0 r v = some p → r < X.n0) ∧ b0 ≤ w0.heap.size) (L L2 : List Blk) (ht : X.thr r = none) (hr : resV X.C env (mkH (L ++ L2)) X.fn.results.toList = some xs) (hn : Nat.ble (L.length + L2.length) roots = true) (hn0 : Nat.ble X.n0 L.length = true)
 (hz : FzG L.length (mkH (L ++ L2)) [oneRes xs] [v]) (hb : BB L.length L) (hv : X.enc r = v) (hf : X.fin r = mkH L) (fr : FR m env a.tmps) (rw : RW m (mkH (L ++ L2)) w b0) (st : St m0 w0 b0 m w) :
 ∃ c, (results X.fn a.tmps).run X.P w = .ok c w ∧ EndT (X.thr r) (X.enc r) (X.fin r) m0 w0 b0 (.returned c) w := by
 obtain ⟨c, h1, h2⟩ := results_ok (P := X.P) X.hti fr rw hr
 have hF : FOk L.length m m.froz w b0 := ⟨fun i B cells hi => rw.frz i B cells hi, rw.ffin, fun i B cells h => .inl h, fun _ _ h => h⟩
 obtain ⟨F', g1, g2, g3⟩ := fz_ok rw hz hF (cs := [c]) (by simp only [VRs]; exact ⟨c, [], rfl, h2, rfl⟩)
 simp only [VRs] at g3
 obtain ⟨c', cs', e, g3, _⟩ := g3
 cases e
 have hn : L.length + L2.length ≤ roots := Nat.le_of_ble_eq_true hn
 have hget : ∀ i, i < L.length → (mkH (L ++ L2)).t.get i = (mkH L).t.get i := by
  intro i hi
  rw [mkH_at (by simp; omega), mkH_at (by omega)]
  simp [List.getElem?_append_left hi]
 let m1 : Mp := ⟨fun r v => if r < L.length then m r v else none, F'⟩
 have hcut : ∀ {r v q}, m1 r v = some q → r < L.length ∧ m r v = some q := by
  intro r v q h
  have h : (if r < L.length then m r v else none) = some q := h
  by_cases e : r < L.length
  ·rw [if_pos e] at h; exact ⟨e, h⟩
  ·rw [if_neg e] at h; cases h
 have hmono : Sub (m.cut L.length) m1 := ⟨fun r v p h => h, g1.sub⟩
 have hrw : RW m1 (mkH L) w b0 := by
  refine ⟨?_, ?_, ?_, ?_, ?_, g1.ok, ?_, g1.fin, rw.base_le, by show L.length ≤ roots; omega⟩
  ·intro r b v B N hb' hm q1 q2
   obtain ⟨hlt, hm⟩ := hcut hm
   obtain ⟨cs, ty, fr', p1, p2, p3, p4, p5⟩ := rw.blk r b v B N (by rw [hget r hlt]; exact hb') hm q1 q2
   have hbl : L[r]? = some b := by
    rw [mkH_at (by omega)] at hb'
    exact hb'
   exact ⟨cs, ty, fr', p1, p2, p3, p4, VRs.mono hmono _ _ (belows_VR _ _ (belows_take v (BB_get hb hbl)) p5)⟩
  ·intro r v B N hm
   obtain ⟨hlt, hm⟩ := hcut hm
   rw [← hget r hlt]
   exact rw.dom r v B N hm
  ·intro r v B N r' v' N' hm hm' hB
   exact rw.sep _ _ _ _ _ _ _ (hcut hm).2 (hcut hm').2 hB
  ·intro r hr
   have hr : L.length ≤ r := hr
   rw [mkH_at (by omega), List.getElem?_eq_none hr]
  ·intro r v B N hm
   exact rw.vle _ _ _ _ (hcut hm).2
  ·intro i B cells r v N b hi hm hb'
   obtain ⟨hlt, hm⟩ := hcut hm
   rw [← hget r hlt] at hb'
   rcases g1.new i B cells hi with h | ⟨hB, r2, v2, N2, hr2, hm2⟩
   ·exact rw.fsep i B cells r v N b h hm hb'
   ·have := rw.sep _ _ _ _ _ _ _ hm hm2 hB
    omega
 have hst : St m0 w0 b0 m1 w := by
  refine ⟨⟨fun r v q hq => ?_, fun i q hq => g2 i q (st.sub.2 i q hq)⟩, ?_, ?_, st.size, st.os, st.tape, st.output, st.same⟩
  ·have h1 := h0.1 r v q hq
   have h2 := Nat.le_of_ble_eq_true hn0
   show (if r < L.length then m r v else none) = some q
   rw [if_pos (by omega)]
   exact st.sub.1 r v q hq
  ·intro r v B N hm
   exact st.ext r v B N (hcut hm).2
  ·intro i B cells hi
   rcases g1.new i B cells hi with h | ⟨hB, r2, v2, N2, _, hm2⟩
   ·exact st.fext i B cells h
   ·rcases st.ext r2 v2 B N2 hm2 with ⟨v0, N0, e0⟩ | h2
    ·exact .inr ⟨hB, .inl ⟨r2, v0, N0, e0⟩⟩
    ·exact .inr ⟨hB, .inr h2⟩
 have hvc : VR m1 v c := VR.mono (m := ⟨fun _ _ => none, F'⟩) (m' := m1) ⟨fun _ _ _ h => (by cases h), fun _ _ h => h⟩ _ _ g3
 have e : EndT (X.thr r) (X.enc r) (X.fin r) m0 w0 b0 (.returned c) w := by rw [ht]; exact ⟨m1, c, rfl, by rw [hf]; exact hrw, hst, by rw [hv]; exact hvc⟩
 exact ⟨c, h1, e⟩
theorem ok_retF {r : R} {xs : List AV} {v : AV} (L L2 : List Blk) (ht : X.thr r = none) (hr : resV X.C env (mkH (L ++ L2)) X.fn.results.toList = some xs) (hn : Nat.ble (L.length + L2.length) roots = true) (hn0 : Nat.ble X.n0 L.length = true)
 (hz : FzG L.length (mkH (L ++ L2)) [oneRes xs] [v]) (hb : BB L.length L) (hv : X.enc r = v) (hf : X.fin r = mkH L) : Ok X .fin env (mkH (L ++ L2)) (some r) := by
 intro r' e m0 w0 b0 m w a h0 fr hnt hd rw st
 cases e
 obtain ⟨c, h1, e⟩ := retF_end h0 L L2 ht hr hn hn0 hz hb hv hf fr rw st
 exact ret_ret hd h1 e
end
def MinvLe : List Blk → List Blk → Prop
 | [], [] => True
 | b :: M, c :: M' => (c.cells = b.cells ∧ c.ro = b.ro ∧ b.minv ≤ c.minv) ∧ MinvLe M M'
 | _, _ => False
theorem MinvLe.get : ∀ {M M' : List Blk}, MinvLe M M' → M'.length = M.length ∧ ∀ (i : Nat) (c : Blk), M'[i]? = some c → ∃ b, M[i]? = some b ∧ c.cells = b.cells ∧ c.ro = b.ro ∧ b.minv ≤ c.minv
 | [], [], _ => ⟨rfl, fun i c h => by simp at h⟩
 | [], _ :: _, h => h.elim
 | _ :: _, [], h => h.elim
 | b :: M, c :: M', h => by
  obtain ⟨h1, h2⟩ := MinvLe.get h.2
  refine ⟨by simp [h1], fun i d hd => ?_⟩
  cases i with
  | zero => simp at hd; subst hd; exact ⟨b, rfl, h.1⟩
  | succ i => simpa using h2 i d (by simpa using hd)
theorem rw_minv {m : Mp} {w : World} {base : Nat} {M M' : List Blk} (h : MinvLe M M') (hr : M.length ≤ roots) (rw : RW m (mkH M) w base) : RW m (mkH M') w base := by
 obtain ⟨hl, hg⟩ := h.get
 have g1 := mkH_at (L := M) hr
 have g2 := mkH_at (L := M') (by omega)
 refine ⟨?_, ?_, rw.sep, ?_, rw.vle, rw.frz, ?_, rw.ffin, rw.base_le, by show M'.length ≤ roots; omega⟩
 ·intro r c v B N hb hm h1 h2
  rw [g2] at hb
  obtain ⟨b, q1, q2, q3, q4⟩ := hg r c hb
  rw [q2] at h2 ⊢
  rw [q3]
  exact rw.blk r b v B N (by rw [g1]; exact q1) hm (by omega) h2
 ·intro r v B N hm
  obtain ⟨b, q1, q2, q3, q4⟩ := rw.dom r v B N hm
  rw [g1] at q1
  have hlt : r < M'.length := by rw [hl]; exact (List.getElem?_eq_some_iff.1 q1).1
  obtain ⟨b', e1, e2, e3, e4⟩ := hg r _ (List.getElem?_eq_getElem hlt)
  rw [q1] at e1
  cases e1
  exact ⟨_, by rw [g2]; exact List.getElem?_eq_getElem hlt, by rw [e2]; exact q2, q3, by rw [e3]; exact q4⟩
 ·intro r hr'
  have hr' : M'.length ≤ r := hr'
  rw [g2, List.getElem?_eq_none hr']
 ·intro i B cells r v N c hi hm hb
  rw [g2] at hb
  obtain ⟨b, q1, q2, q3, q4⟩ := hg r c hb
  rw [q3]
  exact rw.fsep i B cells r v N b hi hm (by rw [g1]; exact q1)
theorem CallT.minv {P : Program} {g : Nat} {xs : List AV} {M M' : List Blk} {H' : Hp} {tv : Option (Value × List Nat)} {v : AV} (hr : M.length ≤ roots) (hm : MinvLe M M') (h : CallT P g xs (mkH M') tv v H') : CallT P g xs (mkH M) tv v H' :=
 ⟨fun m w base args ha rw => h.1 m w base args ha (rw_minv hm hr rw), h.2⟩
section
variable {R : Type} {X : Fx R} {p p' : Pt} {env eE : Env} {H H' : Hp}
theorem Wk.length {xs ys : List AV} (h : Wk xs ys) : ys.length = xs.length := by
 induction h <;> simp_all
end
def pI (k : IntKind) : List AV → Option (Int × List AV)
 | .int k' n :: r => if k' = k then some (n, r) else none
 | _ => none
def pB : List AV → Option (Bool × List AV)
 | .bool b :: r => some (b, r)
 | _ => none
inductive Fr1 (r0 n sz : Nat) (cells : List AV) : List AV → List AV → Prop where
 | refl {xs} : nrefs r0 xs = true → Fr1 r0 n sz cells xs xs
 | cons {x xs ys} : nref r0 x = true → Fr1 r0 n sz cells xs ys → Fr1 r0 n sz cells (x :: xs) (x :: ys)
 | own {xs ys} : Fr1 r0 n sz cells xs ys → Fr1 r0 n sz cells (.own r0 n sz :: xs) (.vec n sz cells :: ys)
 | agg {xs ys zs us} : Fr1 r0 n sz cells xs ys → Fr1 r0 n sz cells zs us → Fr1 r0 n sz cells (.agg xs :: zs) (.agg ys :: us)
theorem Fr1.length {r0 n sz : Nat} {cells xs ys : List AV} (h : Fr1 r0 n sz cells xs ys) : ys.length = xs.length := by
 induction h <;> simp_all
end Go.Proofs.Ytabhkocokojddaa.Am
set_option linter.unusedVariables false
set_option linter.unusedSimpArgs false
namespace Go.Proofs.Ytabhkocokojddaa.Am
open Go
def DfR (m : Mp) (f : Nat) (caps : List AV) (ds : List Deferred) : Prop := ∃ vals : Array Value, ds = [{ target := .fn (.func f) vals, args := #[] }] ∧ VRs m caps vals.toList
section
variable {R : Type} (X : Fx R)
end
section
variable {R : Type} {X : Fx R} {f : Nat} {caps : List AV} {p p' : Pt} {env eE : Env} {H H' : Hp}
theorem DfR.mono {m m' : Mp} {ds : List Deferred} (h : Sub m m') (k : DfR m f caps ds) : DfR m' f caps ds := let ⟨v, e, q⟩ := k; ⟨v, e, VRs.mono h _ _ q⟩
end
end Go.Proofs.Ytabhkocokojddaa.Am
set_option linter.unusedVariables false
set_option linter.unusedSimpArgs false
namespace Go.Proofs.Ytabhkocokojddaa.Am
open Go
noncomputable def lp {α : Type} (z : α) (f : α → α) (n : Nat) : α := Nat.rec (motive := fun _ => α) z (fun _ ih => f ih) n
abbrev AV.i (n : Int) : AV := .int .i64 n
abbrev AV.y (n : Int) : AV := .int .u8 n
section
variable {R : Type} {X : Fx R} {p : Pt} {env : Env} {H : Hp} {t : Option R}
theorem oLH (k : Nat) (p' : Pt) (eE : Env) (H' : Hp) (g : Ok X p' eE H' t) (h : (runV X.C X.fn.ntmps k p env H).map (fun x => (x.1, keepOnly x.2.1 (eE.map Prod.fst), x.2.2)) = some (p', eE, H') := by kernel_rfl) : Ok X p env H t := by
 cases hr : runV X.C X.fn.ntmps k p env H with
 | none => rw [hr] at h; cases h
 | some x =>
  obtain ⟨q, e, G⟩ := x
  rw [hr] at h
  simp only [Option.map_some, Option.some.injEq, Prod.mk.injEq] at h
  obtain ⟨rfl, h2, rfl⟩ := h
  exact ok_run k hr (ok_keep _ h2 g)
theorem oL (k : Nat) (p' : Pt) (eE : Env) (g : Ok X p' eE H t) (h : (runV X.C X.fn.ntmps k p env H).map (fun x => (x.1, keepOnly x.2.1 (eE.map Prod.fst), x.2.2)) = some (p', eE, H) := by kernel_rfl) : Ok X p env H t := oLH k p' eE H g h
theorem oR (k : Nat) (p' : Pt) (eE : Env) (g : Ok X p' eE H t) (h : runV X.C X.fn.ntmps k p env H = some (p', eE, H) := by kernel_rfl) : Ok X p env H t := ok_run k h g
theorem oH (k : Nat) (p' : Pt) (eE : Env) (H' : Hp) (g : Ok X p' eE H' t) (h : runV X.C X.fn.ntmps k p env H = some (p', eE, H') := by kernel_rfl) : Ok X p env H t := ok_run k h g
theorem oK0 (ks : List Nat) (k : Ok X p (keepOnly env ks) H t) : Ok X p env H t := ok_keep ks rfl k
theorem oK (ks : List Nat) (eE : Env) (k : Ok X p eE H t) (h : keepOnly env ks = eE := by kernel_rfl) : Ok X p env H t := ok_keep ks h k
theorem oS {t1 t2 : Option R} (d : Nat) {b : Bool} (k1 : b = true → Ok X p ((d, .bool true) :: env) H t1) (k2 : b = false → Ok X p ((d, .bool false) :: env) H t2) (h : look env d = .bool b := by kernel_rfl) : Ok X p env H (if b then t1 else t2) := ok_split d h k1 k2
theorem oC {α : Type} {m : Option α} {f : α → Option R} (g : α → AV × Hp) (p' : Pt) (d : Nat) (h : evalAt X.C X.fn.ntmps p env H = m.map g) (k : ∀ x, m = some x → Ok X p' ((d, (g x).1) :: env) (g x).2 (f x)) (ha : ∀ x, advE X.fn.ntmps p env (g x).1 = some (p', (d, (g x).1) :: env) := by exact fun _ => by kernel_rfl) : Ok X p env H (m.bind f) := ok_chk g p' (fun x => (d, (g x).1) :: env) h ha k
theorem oRem {f : Int → Option R} {a b : Int} (k : IntKind) (s d : Nat) (p' : Pt) (kk : ∀ z, remS a b = some z → Ok X p' ((d, .int k z) :: env) H (f z)) (hs : look env s = .int k b := by kernel_rfl)
 (h : ∀ y, evalAt X.C X.fn.ntmps p ((s, .int k y) :: env) H = (if y = 0 then none else some (AV.int k (a.tmod y))).map fun v => (v, H) := by exact fun _ => by kernel_rfl)
 (ha : ∀ y z, advE X.fn.ntmps p ((s, .int k y) :: env) (.int k z) = some (p', (d, .int k z) :: (s, .int k y) :: env) := by exact fun _ _ => by kernel_rfl) : Ok X p env H ((remS a b).bind f) := by
 refine ok_less (less_put hs) (ok_chk (fun z => (.int k z, H)) p' (fun z => (d, .int k z) :: (s, .int k b) :: env) (remH (h b)) (ha b) fun z hz => ok_less ?_ (kk z hz))
 intro t
 simp only [look_cons]
 by_cases e : d = t
 ·simp [e]
 ·by_cases e2 : s = t
  ·subst e2; simp [e, hs]
  ·simp [e, e2]
theorem oA {α : Type} {m : Option α} {f : α → Option R} {fi : Nat} (g : α → AV) (p' : Pt) (d : Nat) (args : List AV) (hf : ∀ x, m = some x → PureOk X.P fi args (g x)) (k : ∀ x, m = some x → Ok X p' ((d, g x) :: env) H (f x)) (hc : (callAt X.fn.ntmps p env, purs args) = (some (fi, args), true) := by kernel_rfl) (hg : ∀ x, (pur (g x), advE X.fn.ntmps p env (g x)) = (true, some (p', (d, g x) :: env)) := by exact fun _ => by kernel_rfl) : Ok X p env H (m.bind f) :=
 ok_call g p' (fun x => (d, g x) :: env) (congrArg Prod.fst hc) (congrArg Prod.snd hc) (fun x => congrArg Prod.fst (hg x)) hf (fun x => congrArg Prod.snd (hg x)) k
theorem oP {r : R} (h : (X.n0, X.fin r, X.thr r, (resV X.C env H X.fn.results.toList).map fun xs => (oneRes xs, purs [oneRes xs])) = (0, H0, none, some (X.enc r, true)) := by kernel_rfl) : Ok X .fin env H (some r) := by
 simp only [Prod.mk.injEq] at h
 obtain ⟨h1, h2, h3, h4⟩ := h
 cases hr : resV X.C env H X.fn.results.toList with
 | none => rw [hr] at h4; cases h4
 | some xs =>
  rw [hr] at h4
  simp only [Option.map_some, Option.some.injEq, Prod.mk.injEq] at h4
  exact ok_ret h1 h2 h3 hr (.pures h4.2) h4.1.symm
theorem oT {r : R} (xs : List AV) (v : AV) (hz : FzG 0 H [oneRes xs] [v]) (h : (X.n0, X.fin r, X.thr r, resV X.C env H X.fn.results.toList, X.enc r) = (0, H0, none, some xs, v) := by kernel_rfl) : Ok X .fin env H (some r) := by
 simp only [Prod.mk.injEq] at h
 obtain ⟨h1, h2, h3, h4, h5⟩ := h
 exact ok_ret h1 h2 h3 h4 hz h5
theorem oQ {r : R} (k : Nat) (h : (runV X.C X.fn.ntmps k p env H).map (fun x => (x.1, X.n0, X.fin r, X.thr r, (resV X.C x.2.1 x.2.2 X.fn.results.toList).map fun xs => (oneRes xs, purs [oneRes xs]))) = some (.fin, 0, H0, none, some (X.enc r, true)) := by kernel_rfl) : Ok X p env H (some r) := by
 cases hr : runV X.C X.fn.ntmps k p env H with
 | none => rw [hr] at h; cases h
 | some x =>
  obtain ⟨q, e, G⟩ := x
  rw [hr] at h
  simp only [Option.map_some, Option.some.injEq, Prod.mk.injEq] at h
  obtain ⟨rfl, h1, h2, h3, h4⟩ := h
  refine ok_run k hr (oP ?_)
  rw [h1, h2, h3, h4]
end
theorem FzG.ps {n0 : Nat} {H : Hp} {xs : List AV} (h : purs xs = true := by kernel_rfl) : FzG n0 H xs xs := .pures h
theorem FzG.cs {n0 : Nat} {H : Hp} {x : AV} {xs ys : List AV} (k : FzG n0 H xs ys) (h : pur x = true := by kernel_rfl) : FzG n0 H (x :: xs) (x :: ys) := .cons h k
def pickB : List Nat → List Blk → List Blk
 | 0 :: ms, _ :: l => pickB ms l
 | (_ + 1) :: ms, b :: l => b :: pickB ms l
 | _, _ => []
def PurA : List Blk → Prop
 | [] => True
 | b :: l => purs b.cells = true ∧ PurA l
def mk0 : List Nat → Bool
 | 0 :: _ => false
 | (_ + 1) :: _ => true
 | [] => false
theorem PurA.head {ms : List Nat} {b : Blk} {l : List Blk} (h : PurA (pickB ms (b :: l))) (hm : mk0 ms = true) : purs b.cells = true := by
 cases ms with
 | nil => cases hm
 | cons m ms => cases m with | zero => cases hm | succ m => exact h.1
theorem PurA.tail {ms : List Nat} {b : Blk} {l : List Blk} (h : PurA (pickB ms (b :: l))) : PurA (pickB ms.tail l) := by
 cases ms with
 | nil => cases l <;> (simp only [List.tail_nil, pickB]; exact trivial)
 | cons m ms => cases m with | zero => exact h | succ m => exact h.2
noncomputable def rbA (rs : List Nat) (n : Nat) : List Nat → List Blk → List (Bool × Option Blk)
 | _, [] => []
 | ms, b :: L => (bif mk0 ms then (!b.ro, some b) else (!b.ro && belows n b.cells, some ⟨renVs (at0 rs) b.cells, b.minv, false⟩)) :: rbA rs n ms.tail L
noncomputable def rbC (rs : List Nat) (M : List Blk) : Nat → List Blk → List (Bool × Option Blk)
 | _, [] => []
 | i, _ :: L => (true, nth M (at0 rs i)) :: rbC rs M (i + 1) L
theorem rbs_of {rs : List Nat} {n : Nat} {M : List Blk} : ∀ {L : List Blk} {ms : List Nat} {i : Nat}, rbA rs n ms L = rbC rs M i L → PurA (pickB ms L) → RBs rs n M i L
 | [], _, _, _, _ => trivial
 | b :: L, ms, i, h, hp => by
  simp only [rbA, rbC, List.cons.injEq] at h
  obtain ⟨h1, h2⟩ := h
  refine ⟨?_, rbs_of h2 hp.tail⟩
  cases hm : mk0 ms with
  | true =>
   rw [hm] at h1
   simp only [cond_true, Prod.mk.injEq] at h1
   rw [← h1.2]
   have hro : b.ro = false := by have := h1.1; revert this; cases b.ro <;> simp
   exact ⟨hro, .inl ⟨rfl, hp.head hm⟩⟩
  | false =>
   rw [hm] at h1
   simp only [cond_false, Prod.mk.injEq, Bool.and_eq_true] at h1
   rw [← h1.2]
   have hro : b.ro = false := by have := h1.1.1; revert this; cases b.ro <;> simp
   exact ⟨hro, .inr ⟨h1.1.2, rfl⟩⟩
def offs (rs : List Nat) : Nat → List Blk → List Blk
 | _, [] => []
 | i, b :: M => bif rs.any (fun r => Nat.beq r i) then offs rs (i + 1) M else b :: offs rs (i + 1) M
theorem same_of {rs : List Nat} : ∀ {M M' : List Blk} {i : Nat}, Nat.ble M.length M'.length = true → offs rs i M = offs rs i (M'.take M.length) → SameB rs i M M'
 | [], _, _, _, _ => trivial
 | b :: M, [], _, h, _ => by cases h
 | b :: M, c :: M', i, h, e => by
  have h' : Nat.ble M.length M'.length = true := h
  cases hr : rs.any (fun r => Nat.beq r i) with
  | true =>
   simp only [offs, List.length_cons, List.take_succ_cons, hr, cond_true] at e
   exact ⟨.inr hr, same_of h' e⟩
  | false =>
   simp only [offs, List.length_cons, List.take_succ_cons, hr, cond_false, List.cons.injEq] at e
   exact ⟨.inl e.1.symm, same_of h' e.2⟩
noncomputable def frB1 (L L' M M' : List Blk) (rs : List Nat) (ys : List AV) (v : AV) : Bool := frOk L.length L'.length M.length M'.length rs && belows L.length ys && below L'.length v && Nat.ble M.length M'.length
theorem frC {P : Program} {g : Nat} {ys xs : List AV} {L L' M M' : List Blk} {v v' : AV} {rs ms ms' : List Nat} (h : CallT P g ys (mkH L) none v (mkH L')) (hp : PurA (pickB ms L)) (hp' : PurA (pickB ms' L'))
 (he : (frB1 L L' M M' rs ys v, renVs (at0 rs) ys, renV (at0 rs) v, rbA rs L.length ms L, rbA rs L'.length ms' L', offs rs 0 M) = (true, xs, v', rbC rs M 0 L, rbC rs M' 0 L', offs rs 0 (M'.take M.length))) : CallT P g xs (mkH M) none v' (mkH M') := by
 simp only [Prod.mk.injEq, frB1, Bool.and_eq_true] at he
 obtain ⟨⟨⟨⟨c1, c2⟩, c3⟩, c4⟩, rfl, rfl, e3, e4, e5⟩ := he
 exact frame h rs M M' c1 c2 (rbs_of e3 hp) (rbs_of e4 hp') c3 (same_of c4 e5)
theorem oN {R : Type} {X : Fx R} {p : Pt} {env : Env} {α : Type} {m : Option α} {f : α → Option R} {fi : Nat} {ys : List AV} {L M : List Blk} {v : α → AV} {L' : α → List Blk} (g : α → AV) (M' : α → List Blk) (p' : Pt) (d : Nat) (rs ms ms' : List Nat) (args : List AV)
 (h : ∀ x, m = some x → CallT X.P fi ys (mkH L) none (v x) (mkH (L' x))) (hp : PurA (pickB ms L)) (hp' : ∀ x, PurA (pickB ms' (L' x))) (k : ∀ x, m = some x → Ok X p' ((d, g x) :: env) (mkH (M' x)) (f x))
 (hc : callAt X.fn.ntmps p env = some (fi, args) := by kernel_rfl)
 (he : ∀ x, (frB1 L (L' x) M (M' x) rs ys (v x), renVs (at0 rs) ys, renV (at0 rs) (v x), rbA rs L.length ms L, rbA rs (L' x).length ms' (L' x), offs rs 0 M) = (true, args, g x, rbC rs M 0 L, rbC rs (M' x) 0 (L' x), offs rs 0 ((M' x).take M.length)) := by exact fun _ => by kernel_rfl)
 (ha : ∀ x, advE X.fn.ntmps p env (g x) = some (p', (d, g x) :: env) := by exact fun _ => by kernel_rfl) : Ok X p env (mkH M) (m.bind f) :=
 ok_callN g (fun x => mkH (M' x)) p' (fun x => (d, g x) :: env) hc (fun x hx => frC (h x hx) hp (hp' x) (he x)) ha k
section
variable {R : Type} {X : Fx R} {p : Pt} {env : Env} {H : Hp} {t : Option R}
def bbB (n : Nat) : List Nat → List Blk → Bool
 | _, [] => true
 | ms, b :: L => (mk0 ms || belows n b.cells) && bbB n ms.tail L
theorem bb_of {n : Nat} : ∀ {L : List Blk} {ms : List Nat}, bbB n ms L = true → PurA (pickB ms L) → BB n L
 | [], _, _, _ => trivial
 | b :: L, ms, h, hp => by
  simp only [bbB, Bool.and_eq_true, Bool.or_eq_true] at h
  refine ⟨?_, bb_of h.2 hp.tail⟩
  rcases h.1 with h1 | h1
  ·exact purs_belows _ (hp.head h1)
  ·exact h1
theorem oF {r : R} {M : List Blk} (n : Nat) (ms : List Nat) (xs : List AV) (v : AV) (hz : FzG n (mkH M) [oneRes xs] [v]) (hp : PurA (pickB ms (M.take n)))
 (h : (X.thr r, resV X.C env (mkH M) X.fn.results.toList, Nat.ble M.length roots, Nat.ble X.n0 n, Nat.beq (M.take n).length n, bbB n ms (M.take n), X.enc r, X.fin r) = (none, some xs, true, true, true, true, v, mkH (M.take n)) := by kernel_rfl) : Ok X .fin env (mkH M) (some r) := by
 simp only [Prod.mk.injEq] at h
 obtain ⟨h1, h2, h3, h4, h5, h6, h7, h8⟩ := h
 have h5 : (M.take n).length = n := Nat.eq_of_beq_eq_true h5
 have key : Ok X .fin env (mkH (M.take n ++ M.drop n)) (some r) := by
  refine ok_retF (M.take n) (M.drop n) h1 (v := v) ?_ ?_ ?_ ?_ ?_ h7 h8 (xs := xs)
  ·rw [List.take_append_drop]; exact h2
  ·rw [← List.length_append, List.take_append_drop]; exact h3
  ·rw [h5]; exact h4
  ·rw [h5, List.take_append_drop]; exact hz
  ·rw [h5]; exact bb_of h6 hp
 rwa [List.take_append_drop] at key
theorem oQF {r : R} (k : Nat) (M : List Blk) (n : Nat) (ms : List Nat) (xs : List AV) (v : AV) (hz : FzG n (mkH M) [oneRes xs] [v]) (hp : PurA (pickB ms (M.take n)))
 (h0 : (runV X.C X.fn.ntmps k p env H).map (fun x => (x.1, resV X.C x.2.1 x.2.2 X.fn.results.toList, x.2.2)) = some (.fin, some xs, mkH M) := by kernel_rfl)
 (h : (X.thr r, Nat.ble M.length roots, Nat.ble X.n0 n, Nat.beq (M.take n).length n, bbB n ms (M.take n), X.enc r, X.fin r) = (none, true, true, true, true, v, mkH (M.take n)) := by kernel_rfl) : Ok X p env H (some r) := by
 cases hr : runV X.C X.fn.ntmps k p env H with
 | none => rw [hr] at h0; cases h0
 | some x =>
  obtain ⟨q, e, G⟩ := x
  rw [hr] at h0
  simp only [Option.map_some, Option.some.injEq, Prod.mk.injEq] at h0
  obtain ⟨rfl, h1, rfl⟩ := h0
  simp only [Prod.mk.injEq] at h
  obtain ⟨h2, h3, h4, h5, h6, h7, h8⟩ := h
  refine ok_run k hr (oF n ms xs v hz hp ?_)
  rw [h1, h2, h3, h4, h5, h6, h7, h8]
theorem oD {H' : Hp} (p' : Pt) (eE : Env) (hs : List Hp) (D : DP) (hD : OpsD X.P X.C D (opsAt p).toList (opsAt p).toList env H eE hs) (k : Ok X p' eE H' t) (h : (drawAt p, Nat.ble (opsAt p).size D.tI, planOk D.S (opsAt p) D.pl, (opsAt p).toList.all (dstOk X.fn.ntmps), lastH H hs) = (some p', true, true, true, H') := by kernel_rfl)
 (hsome : (rdL X.C D (opsAt p).toList eE (H :: hs) 0 (opsAt p).toList D.pl).all (fun q => q.1.isSome) = true := by kernel_rfl) (hq : (rdL X.C D (opsAt p).toList eE (H :: hs) 0 (opsAt p).toList D.pl).map (·.1) = (rdL X.C D (opsAt p).toList eE (H :: hs) 0 (opsAt p).toList D.pl).map (·.2) := by kernel_rfl) : Ok X p env H t := by
 simp only [Prod.mk.injEq] at h
 obtain ⟨h1, h2, h3, h4, h5⟩ := h
 exact ok_draw D h1 h2 h3 h4 hD hsome hq h5 k
end
theorem oDr {P : Program} {C : Cx} {D : DP} {all l : List Oper} {e env : Env} {H : Hp} {hs2 : List Hp} (k n : Nat) (eE : Env) (g : OpsD P C D all (all.drop n) eE H e hs2) (h : runD C D all k l env H = some (all.drop n, eE, H, []) := by kernel_rfl) : OpsD P C D all l env H e hs2 := opsD_run k (hs := []) h g
end Go.Proofs.Ytabhkocokojddaa.Am
set_option linter.unusedVariables false
namespace Go.Proofs.Ytabhkocokojddaa.Am
open Go
structure S7 where
 f0 : Int
 f1 : Int
 f2 : Bool
 f3 : Int
def e2 (x : Int) : List AV := [.int .i64 x]
def v2 (x : Int) : AV := .int .i64 x
abbrev w2 (x : List Int) : AV := .vec x.length 1 (x.flatMap e2)
def p2 : List AV → Option (Int × List AV) := pI .i64
def e3 (x : Int) : List AV := [.int .i64 x]
def v3 (x : Int) : AV := .int .i64 x
theorem e3_len : ∀ x, (e3 x).length = 1 := fun _ => rfl
theorem e3_pur : ∀ x, purs (e3 x) = true := fun _ => rfl
theorem u3 (l : List Int) : purs (l.flatMap e3) = true := purs_flatMap e3_pur l
theorem e3_one : ∀ x, (e3 x).all one1 = true := fun _ => rfl
abbrev w3 (x : List Int) : AV := .vec x.length 1 (x.flatMap e3)
def p3 : List AV → Option (Int × List AV) := pI .i64
def e4 (x : Bool) : List AV := [.bool x]
abbrev w4 (x : List Bool) : AV := .vec x.length 1 (x.flatMap e4)
def p4 : List AV → Option (Bool × List AV) := pB
def e5 (x : Int) : List AV := [.int .u8 x]
abbrev w5 (x : List Int) : AV := .vec x.length 1 (x.flatMap e5)
def p5 : List AV → Option (Int × List AV) := pI .u8
def e6 (x : Int) : List AV := [.int .u8 x]
def p6 : List AV → Option (Int × List AV) := pI .u8
def e7 (x : S7) : List AV := [.int .i64 x.f0, .int .i64 x.f1, .bool x.f2, .int .u8 x.f3]
def e8 (x : S7) : List AV := [.int .i64 x.f0, .int .i64 x.f1, .bool x.f2, .int .u8 x.f3]
theorem e8_pur : ∀ x, purs (e8 x) = true := fun _ => rfl
theorem u8 (l : List S7) : purs (l.flatMap e8) = true := purs_flatMap e8_pur l
def thrown : Value := .iface 0 (.agg #[])
end Go.Proofs.Ytabhkocokojddaa.Am
set_option linter.unusedVariables false
namespace Go.Proofs.Ytabhkocokojddaa.Am
open Go
theorem bytes_lt (a : ByteArray) : ∀ b ∈ a.data.toList.map (·.toNat), b < 256 := by
 intro b hb
 obtain ⟨c, _, rfl⟩ := List.mem_map.1 hb
 exact UInt8.toNat_lt c
theorem fw64 (n : Int) (h1 : -9223372036854775808 ≤ n) (h2 : n ≤ 9223372036854775807) : fW .i64 n = n := by
 have h1 : lo .i64 ≤ n := h1
 have h2 : n ≤ hi .i64 := h2
 unfold fW
 rw [if_pos (by simp [h1, h2])]
theorem fwrap_u64 (n : Int) : fW .u64 n = n % 18446744073709551616 := by
 rw [fwrap_eq]; simp [IntKind.wrap, IntKind.bits, IntKind.signed]
theorem rem_at (a : Int) (q : Nat) (h0 : 0 < q) (hq : q < 18446744073709551616) : ∃ i : Nat, i < q ∧ remS (fW .u64 a) (fW .u64 (q : Int)) = some (i : Int) ∧ remS (fW .u64 (i : Int)) (fW .u64 (q : Int)) = some (i : Int) := by
 have e1 : fW .u64 (q : Int) = q := by rw [fwrap_u64]; omega
 have e2 : 0 ≤ fW .u64 a := by rw [fwrap_u64]; omega
 have hne : ¬ (q : Int) = 0 := by omega
 have h1 : 0 ≤ (fW .u64 a) % (q : Int) := Int.emod_nonneg _ hne
 have h2 : (fW .u64 a) % (q : Int) < q := Int.emod_lt_of_pos _ (by omega)
 refine ⟨((fW .u64 a) % (q : Int)).toNat, by omega, ?_, ?_⟩
 ·rw [e1]; unfold remS
  rw [if_neg hne, Int.tmod_eq_emod_of_nonneg e2]
  congr 1; omega
 ·rw [e1]; unfold remS
  have e3 : fW .u64 ((((fW .u64 a) % (q : Int)).toNat : Nat) : Int) = (fW .u64 a) % (q : Int) := by rw [fwrap_u64]; omega
  rw [e3, if_neg hne, Int.tmod_eq_emod_of_nonneg h1, Int.emod_emod_of_dvd _ (Int.dvd_refl _)]
  congr 1; omega
theorem andI64 (x : Int) (m : Nat) (hm : m ≤ 62) : andI .i64 x ((2 ^ m - 1 : Nat) : Int) = x % ((2 ^ m : Nat) : Int) := by
 have hp : 2 ^ m ≤ 2 ^ 62 := Nat.pow_le_pow_right (by decide) hm
 have h0 : 0 < 2 ^ m := Nat.two_pow_pos m
 have e1 : (BitVec.ofInt 64 x).toNat = (x % 18446744073709551616).toNat := by rw [BitVec.toNat_ofInt]; rfl
 have e2 : (BitVec.ofInt 64 ((2 ^ m - 1 : Nat) : Int)).toNat = 2 ^ m - 1 := by
  rw [BitVec.toNat_ofInt]
  omega
 have e3 : (((BitVec.ofInt 64 x &&& BitVec.ofInt 64 ((2 ^ m - 1 : Nat) : Int)).toNat : Nat) : Int) = x % ((2 ^ m : Nat) : Int) := by
  rw [BitVec.toNat_and, e1, e2, Nat.and_two_pow_sub_one_eq_mod]
  have h1 : 0 ≤ x % 18446744073709551616 := Int.emod_nonneg _ (by decide)
  have h2 : (((x % 18446744073709551616).toNat : Nat) : Int) = x % 18446744073709551616 := by omega
  rw [Int.natCast_emod, h2]
  refine Int.emod_emod_of_dvd x ?_
  have : (2 : Nat) ^ m ∣ 2 ^ 64 := Nat.pow_dvd_pow 2 (by omega)
  have := Int.natCast_dvd_natCast.2 this
  exact this
 unfold andI
 show fW .i64 (((BitVec.ofInt 64 x &&& BitVec.ofInt 64 ((2 ^ m - 1 : Nat) : Int)).toNat : Nat) : Int) = _
 rw [e3]
 have h3 : 0 ≤ x % ((2 ^ m : Nat) : Int) := Int.emod_nonneg _ (by omega)
 have h4 : x % ((2 ^ m : Nat) : Int) < ((2 ^ m : Nat) : Int) := Int.emod_lt_of_pos _ (by omega)
 exact fw64 _ (by omega) (by omega)
end Go.Proofs.Ytabhkocokojddaa.Am
set_option linter.unusedVariables false
set_option linter.unusedSimpArgs false
namespace Go.Proofs.Ytabhkocokojddaa.Am
open Go
theorem dT {p : Prop} [Decidable p] (h : p) : decide p = true := decide_eq_true h
theorem dF {p : Prop} [Decidable p] (h : ¬ p) : decide p = false := decide_eq_false h
theorem fwI {n : Int} (h1 : -9223372036854775808 ≤ n) (h2 : n ≤ 9223372036854775807) : fW .i64 n = n := fw64 n h1 h2
theorem bS {α β : Type} {x : Option α} {a : α} {f : α → Option β} {r : Option β} (h : x = some a) (k : f a = r) : x.bind f = r := by rw [h]; exact k
theorem jS {α β : Type} {f : α → Option β} {g : (α → Option β) → Option β} {v : α} (h : ∀ j : α → Option β, g j = j v) : jn f g = f v := h f
theorem iT {α : Type} {c : Bool} {A B r : α} (h : c = true) (k : A = r) : (if c then A else B) = r := by rw [h]; exact k
theorem iF {α : Type} {c : Bool} {A B r : α} (h : c = false) (k : B = r) : (if c then A else B) = r := by rw [h]; exact k
theorem fw_s {n : Nat} (h : n < 300000000000000) : fW .i64 ((n : Int) + 1) = ((n + 1 : Nat) : Int) := by rw [fwI (by omega) (by omega)]; omega
theorem fw_a {n m : Nat} (h : n < 300000000000000) (h2 : m < 300000000000000) : fW .i64 ((n : Int) + (m : Int)) = ((n + m : Nat) : Int) := by rw [fwI (by omega) (by omega)]; omega
theorem fw_p {n : Nat} (h2 : n < 300000000000000) : fW .i64 (((n + 1 : Nat) : Int) - 1) = (n : Int) := by rw [fwI (by omega) (by omega)]; omega
abbrev By (s : List Nat) : Prop := ∀ b ∈ s, b < 256
theorem By.drop {s : List Nat} (h : By s) (n : Nat) : By (s.drop n) := fun b hb => h b (List.mem_of_mem_drop hb)
theorem By.take {s : List Nat} (h : By s) (n : Nat) : By (s.take n) := fun b hb => h b (List.mem_of_mem_take hb)
theorem By.tail {c : Nat} {r : List Nat} (h : By (c :: r)) : By r := fun b hb => h b (List.mem_cons_of_mem _ hb)
theorem By.head {c : Nat} {r : List Nat} (h : By (c :: r)) : c < 256 := h c List.mem_cons_self
theorem nthX {s : List Nat} {x : Int} {i b : Nat} {r : List Nat} (hx : x = (i : Int)) (h : s.drop i = b :: r) : nthS s x = some (b : Int) := by
 subst hx
 have e : s[i]? = some b := by
  have := List.getElem?_drop (xs := s) (i := i) (j := 0)
  rw [h] at this
  simpa using this.symm
 unfold nthS
 rw [if_pos (by omega)]
 simp [e]
theorem subMid {s : List Nat} {x y : Int} {i j : Nat} (hx : x = (i : Int)) (hy : y = (j : Int)) (h1 : i ≤ j) (h2 : j ≤ s.length) : subL s (some x) (some y) = some ((s.take j).drop i) := by
 subst hx hy; unfold subL bnd; simp [h1, h2]
theorem drop_step {s : List Nat} {i c : Nat} {r : List Nat} (h : s.drop i = c :: r) : s.drop (i + 1) = r := by
 rw [← List.drop_drop, h]; rfl
theorem drop_len {s : List Nat} {i c : Nat} {r : List Nat} (h : s.drop i = c :: r) : r.length + i + 1 = s.length := by
 have := congrArg List.length h
 rw [List.length_drop, List.length_cons] at this; omega
end Go.Proofs.Ytabhkocokojddaa.Am
set_option maxRecDepth 100000
set_option linter.unusedVariables false
namespace Go.Proofs.Ytabhkocokojddaa.Am
noncomputable section
open Go
def Xg19 : Fx (List Int) := ⟨Try.prog, cx, Try.f19, fun r => w3 r, 0, fun _ => H0, cxTi, cxOrd, fun _ => none, false⟩
def g19p0 : Pt := nav [0] (bodyAt Try.f19)
def g19p1 : Pt := nav [0, 0, 0] g19p0
def g19p2 : Pt := nav [0, 0, 0, 0] g19p1
def g19p3 : Pt := nav [0, 0, 0, 0] g19p2
def g19p4 : Pt := nav [0, 0] g19p3
def g19p5 : Pt := nav [0, 0, 0] g19p4
def g19p6 : Pt := nav [1, 0, 0, 0, 0] g19p5
def g19p8 : Pt := nav [0, 0, 0] g19p6
def g19p10 : Pt := nav [0, 0] g19p8
def g19p11 : Pt := nav [1] g19p10
def g19p12 : Pt := nav [2, 0] g19p10
def g19_l2B (k : Nat)  (a0 : (List Nat)) (ih : Int → (List Int) → Option (List Int)) : Int → (List Int) → Option (List Int) :=
 fun (y2_0 : Int) (y2_1 : (List Int)) => if (decide (y2_0 < (a0.length : Int))) then ((nthS a0 y2_0).bind fun x0_2 => jn (fun (z3 : (List Int) × Int) => ih (fW .i64 (z3.2 + 1)) z3.1) (fun j3 => if (decide (x0_2 = 10)) then ((appS 8 y2_1 ([fW .i64 (y2_0 + 1)] : List Int)).bind fun x1_4 => j3 (x1_4, y2_0)) else (j3 (y2_1, y2_0)))) else (some y2_1)
def g19_l2 (k : Nat)  (a0 : (List Nat)) (n : Nat) : Int → (List Int) → Option (List Int) := lp (fun _ _ => none) (g19_l2B k a0) n
theorem g19_l2_s (k : Nat)  (a0 : (List Nat)) (n : Nat) (y2_0 : Int) (y2_1 : (List Int)) : g19_l2 k a0 (n + 1) y2_0 y2_1 = (if (decide (y2_0 < (a0.length : Int))) then ((nthS a0 y2_0).bind fun x0_2 => jn (fun (z3 : (List Int) × Int) => (g19_l2 k a0 n) (fW .i64 (z3.2 + 1)) z3.1) (fun j3 => if (decide (x0_2 = 10)) then ((appS 8 y2_1 ([fW .i64 (y2_0 + 1)] : List Int)).bind fun x1_4 => j3 (x1_4, y2_0)) else (j3 (y2_1, y2_0)))) else (some y2_1)) := rfl
theorem g19_l2_ok (k : Nat)   (a0 : (List Nat))  : ∀ (n : Nat) (y2_0 : Int) (y2_1 : (List Int)), Ok Xg19 g19p3 [(0, .str a0), (3, .own 0 (y2_1).length 1), (7, .i (a0.length : Int)), (8, .i y2_0)] (mkH [⟨(y2_1).flatMap e3, 0, false⟩]) (g19_l2 k a0 n y2_0 y2_1) := by
 intro n
 induction n with
 | zero => intro y2_0 y2_1; exact ok_none
 | succ n ih =>
  intro y2_0 y2_1
  show Ok _ _ _ _ (g19_l2B k a0 (g19_l2 k a0 n) y2_0 y2_1)
  unfold g19_l2B
  refine ok_ent (p' := nav [0] g19p3) (by kernel_rfl) ?_
  let E2 : Env := [(9, .bool (decide (y2_0 < (a0.length : Int)))), (0, .str a0), (3, .own 0 (y2_1).length 1), (7, .i (a0.length : Int)), (8, .i y2_0)]
  let Q1 : Blk := ⟨(y2_1).flatMap e3, 0, false⟩
  refine oH 5 g19p5 E2 (mkH [Q1]) ?_
  refine oS 9 (fun hb => ?_) (fun hb => ?_)
  ·let E3 : Env := ((12, .i y2_0) :: (11, .str a0) :: (4, .i y2_0) :: (10, .i y2_0) :: (9, .bool true) :: E2)
   refine oR 13 (atN 2 (ctl1 g19p8)) E3 ?_
   refine oC (fun (x0_2 : Int) => (.y x0_2, (mkH [Q1]))) (atN 3 (ctl1 g19p8)) 13 (idxH (by kernel_rfl)) fun x0_2 hx0_2 => ?_
   refine oH 2 g19p10 ((14, .bool (decide (x0_2 = 10))) :: (13, .y x0_2) :: E3) (mkH [Q1]) ?_
   refine oJ g19p12 (fun (z3 : (List Int) × Int) => [(0, .str a0), (3, .own 0 (z3.1).length 1), (7, .i (a0.length : Int)), (8, .i z3.2)]) (fun (z3 : (List Int) × Int) => (mkH [⟨(z3.1).flatMap e3, 0, false⟩])) (fun z3 => ?_) (fun j3 hj3 => ?_)
   ·refine oLH 4 g19p3 [(0, .str a0), (3, .own 0 (z3.1).length 1), (7, .i (a0.length : Int)), (8, .i (fW .i64 (z3.2 + 1)))] (mkH [⟨(z3.1).flatMap e3, 0, false⟩]) ?_
    exact ih (fW .i64 (z3.2 + 1)) z3.1
   ·refine oS 14 (fun hb => ?_) (fun hb => ?_)
    ·let Q2 : Blk := ⟨[.i (fW .i64 (y2_0 + 1))], 0, false⟩
     refine oH 6 (atN 4 (ctl1 g19p11)) ((18, .slice 1 1 0 1 1) :: (17, .i (fW .i64 (y2_0 + 1))) :: (16, .i y2_0) :: (15, .own 0 (y2_1).length 1) :: (14, .bool true) :: (14, .bool (decide (x0_2 = 10))) :: (13, .y x0_2) :: E3) (mkH [Q1, Q2]) ?_
     refine oC (fun (x1_4 : (List Int)) => (.own 0 (x1_4).length 1, (mkH [⟨(x1_4).flatMap e3, 0, false⟩, Q2]))) (atN 5 (ctl1 g19p11)) 19 (appH (sz := 1) e3_len rfl e3_one [Q1, Q2] 0 8 y2_1 ([fW .i64 (y2_0 + 1)] : List Int) rfl rfl (by kernel_rfl)) fun x1_4 hx1_4 => ?_
     let Q3 : Blk := ⟨(x1_4).flatMap e3, 0, false⟩
     refine oLH 2 g19p12 [(0, .str a0), (3, .own 0 (x1_4).length 1), (7, .i (a0.length : Int)), (8, .i y2_0)] (mkH [Q3, Q2]) ?_
     refine ok_cut [Q3] [Q2] (by kernel_rfl) rfl (by kernel_rfl) ⟨(purs_belows _ (u3 _)), trivial⟩ ?_
     exact hj3 (x1_4, y2_0)
    ·refine oLH 2 g19p12 [(0, .str a0), (3, .own 0 (y2_1).length 1), (7, .i (a0.length : Int)), (8, .i y2_0)] (mkH [Q1]) ?_
     exact hj3 (y2_1, y2_0)
  ·refine oR 8 .fin ((2, .own 0 (y2_1).length 1) :: (21, .own 0 (y2_1).length 1) :: (9, .bool false) :: E2) ?_
   exact oT [.own 0 (y2_1).length 1] (w3 y2_1) (fz_own e3_len e3_pur rfl rfl rfl .ps)
def g19 (k : Nat) (a0 : (List Nat)) : Option (List Int) :=
 g19_l2 k a0 k 0 ([(0 : Int)] : List Int)
theorem g19_ok (k : Nat) (a0 : (List Nat)) (r : (List Int)) (h : g19 k a0 = some r) : PureOk Try.prog 19 [.str a0] (w3 r) := by
 refine pure_of Xg19 (fun _ => ⟨rfl, rfl⟩) Try.func19 (by decide +kernel) (by kernel_rfl) (t := g19 k a0) ?_ h
 unfold g19
 refine oE (eE := [(0, .str a0)]) (by kernel_rfl) ?_
 refine oH 7 (atN 1 (ctl1 g19p1)) [(5, .slice 0 1 0 1 1), (2, .nils), (0, .str a0)] (mkH [⟨[.i 0], 0, false⟩]) ?_
 refine ok_sown 5 0 1 1 1 (by kernel_rfl) rfl ?_
 refine oLH 11 g19p3 [(0, .str a0), (3, .own 0 (([(0 : Int)] : List Int)).length 1), (7, .i (a0.length : Int)), (8, .i 0)] (mkH [⟨(([(0 : Int)] : List Int)).flatMap e3, 0, false⟩]) ?_
 exact (g19_l2_ok k a0 k) 0 ([(0 : Int)] : List Int)
end
end Go.Proofs.Ytabhkocokojddaa.Am
set_option maxRecDepth 100000
set_option linter.unusedVariables false
namespace Go.Proofs.Ytabhkocokojddaa.Am
noncomputable section
open Go
def Xg51 : Fx Int := ⟨Try.prog, cx, Try.f51, fun r => .i r, 0, fun _ => H0, cxTi, cxOrd, fun _ => none, false⟩
def g51 (k : Nat) (a0 : (List Nat)) (a1 : Int) : Option Int :=
 some (minI (maxI a1 0) (a0.length : Int))
theorem g51_ok (k : Nat) (a0 : (List Nat)) (a1 : Int) (r : Int) (h : g51 k a0 a1 = some r) : PureOk Try.prog 51 [.str a0, .i a1] (.i r) := by
 refine pure_of Xg51 (fun _ => ⟨rfl, rfl⟩) Try.func51 (by decide +kernel) (by kernel_rfl) (t := g51 k a0 a1) ?_ h
 unfold g51
 refine oE (eE := [(0, .str a0), (1, .i a1)]) (by kernel_rfl) ?_
 exact oQ 14
end
end Go.Proofs.Ytabhkocokojddaa.Am
set_option maxRecDepth 100000
set_option linter.unusedVariables false
namespace Go.Proofs.Ytabhkocokojddaa.Am
noncomputable section
open Go
abbrev Ti5 : Type := Int → Int → (List Int) → Option Bool
def Pi5 (f : Ti5) : Prop := ∀ (a0 : Int) (a1 : Int) (a2 : (List Int)), ∀ (x : Bool), f a0 a1 a2 = some x → CallT Try.prog 53 [.i a0, .ptr 1 1 0, .ptr 0 1 0] (mkH [⟨[.i a1], 1, false⟩, ⟨[w3 a2], 1, false⟩]) none (.bool x) (mkH [⟨[.i a1], 1, false⟩, ⟨[w3 a2], 1, false⟩])
def Xi5 (a0 : Int) (a1 : Int) (a2 : (List Int)) : Fx Bool := ⟨Try.prog, cx, Try.f53, fun r => .bool r, 2, fun r => (mkH [⟨[.i a1], 1, false⟩, ⟨[w3 a2], 1, false⟩]), cxTi, cxOrd, fun _ => none, false⟩
def i5p0 : Pt := nav [0] (bodyAt Try.f53)
def i5p1 : Pt := nav [0, 0, 0] i5p0
def i5 (k : Nat) (a0 : Int) (a1 : Int) (a2 : (List Int)) : Option Bool :=
 (nthL a2 a0).bind fun x0_2 => some (decide (a1 < x0_2))
theorem i5_all (k : Nat) (a0 : Int) (a1 : Int) (a2 : (List Int)) (r : Bool) (h : i5 k a0 a1 a2 = some r) : CallT Try.prog 53 [.i a0, .ptr 1 1 0, .ptr 0 1 0] (mkH [⟨[.i a1], 1, false⟩, ⟨[w3 a2], 1, false⟩]) ((Xi5 a0 a1 a2).thr r) ((Xi5 a0 a1 a2).enc r) ((Xi5 a0 a1 a2).fin r) := by
 refine callM_of (Xi5 a0 a1 a2) Try.func53 (by kernel_rfl) (by kernel_rfl) rfl (t := i5 k a0 a1 a2) ?_ h
 unfold i5
 refine oE (eE := [(0, .i a0), (1, .ptr 1 1 0), (2, .ptr 0 1 0)]) (by kernel_rfl) ?_
 let K1 : List Blk := [⟨[.i a1], 1, false⟩, ⟨[w3 a2], 1, false⟩]
 refine oH 5 i5p1 [(4, .bool false), (0, .i a0), (1, .ptr 1 1 0), (2, .ptr 0 1 0)] (mkH K1) ?_
 refine ok_bind (fun x0_2 hx0_2 => ?_)
 let E1 : Env := [(6, .i a0), (5, w3 a2), (4, .bool false), (0, .i a0), (1, .ptr 1 1 0), (2, .ptr 0 1 0)]
 let E2 : Env := ((4, .bool (decide (a1 < x0_2))) :: (10, .bool (decide (a1 < x0_2))) :: (9, .i a1) :: (8, .i x0_2) :: (7, .vptr [.i x0_2]) :: E1)
 refine oD (H' := (mkH K1)) (nav [0] i5p1) E2 [] ⟨[], [(0, 0, 0), (0, 0, 0), (3, 0, 0), (7, 0, 0), (0, 0, 0), (31, 0, 0), (63, 0, 0)], 7, thrown, [], H0⟩ (oDr 2 2 E1 (opsD_chk (l' := (opsAt i5p1).toList.drop 3) (eE := ((7, .vptr [.i x0_2]) :: E1)) (hs := []) (x := x0_2) (fun (x0_2 : Int) => (.vptr [.i x0_2], (mkH K1))) (vidxH (sz := 1) e3_len (by kernel_rfl)) hx0_2 (by kernel_rfl) (oDr 4 7 E2 .nil))) ?_
 exact oQF 1 K1 2 [] [.bool (decide (a1 < x0_2))] (.bool (decide (a1 < x0_2))) .ps trivial
theorem i5_ok (k : Nat) : Pi5 (i5 k) := fun a0 a1 a2 x h => i5_all k a0 a1 a2 x h
end
end Go.Proofs.Ytabhkocokojddaa.Am
set_option maxRecDepth 100000
set_option linter.unusedVariables false
namespace Go.Proofs.Ytabhkocokojddaa.Am
noncomputable section
open Go
abbrev Ti0 : Type := Int → Int → (List Int) → Option Int
def Pi0 (f : Ti0) : Prop := ∀ (a0 : Int) (a1 : Int) (a2 : (List Int)), ∀ (x : Int), f a0 a1 a2 = some x → CallT Try.prog 52 [.i a0, .func 53 [] [.ptr 1 1 0, .ptr 0 1 0]] (mkH [⟨[.i a1], 1, false⟩, ⟨[w3 a2], 1, false⟩]) none (.i x) (mkH [⟨[.i a1], 1, false⟩, ⟨[w3 a2], 1, false⟩])
def Xi0 (a0 : Int) (a1 : Int) (a2 : (List Int)) : Fx Int := ⟨Try.prog, cx, Try.f52, fun r => .i r, 2, fun r => (mkH [⟨[.i a1], 1, false⟩, ⟨[w3 a2], 1, false⟩]), cxTi, cxOrd, fun _ => none, false⟩
def i0p0 : Pt := nav [0] (bodyAt Try.f52)
def i0p1 : Pt := nav [0, 0, 0] i0p0
def i0p2 : Pt := nav [0, 0, 0, 0, 0] i0p1
def i0p3 : Pt := nav [0, 0, 0] i0p2
def i0p4 : Pt := nav [0, 0] i0p3
def i0p5 : Pt := nav [1, 0, 0, 0] i0p4
def i0p7 : Pt := nav [0, 0, 0] i0p5
def i0p9 : Pt := nav [0, 0] i0p7
def i0_l1B (k : Nat)  (a1 : Int) (a2 : (List Int)) (ih : Int → Int → Option Int) : Int → Int → Option Int :=
 fun (y1_0 : Int) (y1_1 : Int) => if (decide (y1_0 < y1_1)) then ((i5 k (fW .i64 (shrC (fW .u64 (fW .i64 (y1_0 + y1_1))) 1)) a1 a2).bind fun x0_2 => if (!x0_2) then (ih (fW .i64 (fW .i64 (shrC (fW .u64 (fW .i64 (y1_0 + y1_1))) 1) + 1)) y1_1) else (ih y1_0 (fW .i64 (shrC (fW .u64 (fW .i64 (y1_0 + y1_1))) 1)))) else (some y1_0)
def i0_l1 (k : Nat)  (a1 : Int) (a2 : (List Int)) (n : Nat) : Int → Int → Option Int := lp (fun _ _ => none) (i0_l1B k a1 a2) n
theorem i0_l1_s (k : Nat)  (a1 : Int) (a2 : (List Int)) (n : Nat) (y1_0 : Int) (y1_1 : Int) : i0_l1 k a1 a2 (n + 1) y1_0 y1_1 = (if (decide (y1_0 < y1_1)) then ((i5 k (fW .i64 (shrC (fW .u64 (fW .i64 (y1_0 + y1_1))) 1)) a1 a2).bind fun x0_2 => if (!x0_2) then ((i0_l1 k a1 a2 n) (fW .i64 (fW .i64 (shrC (fW .u64 (fW .i64 (y1_0 + y1_1))) 1) + 1)) y1_1) else ((i0_l1 k a1 a2 n) y1_0 (fW .i64 (shrC (fW .u64 (fW .i64 (y1_0 + y1_1))) 1)))) else (some y1_0)) := rfl
theorem i0_l1_ok (k : Nat) (a0 : Int) (a1 : Int) (a2 : (List Int))    : ∀ (n : Nat) (y1_0 : Int) (y1_1 : Int), Ok (Xi0 a0 a1 a2) i0p2 [(1, .func 53 [] [.ptr 1 1 0, .ptr 0 1 0]), (5, .i y1_0), (6, .i y1_1)] (mkH [⟨[.i a1], 1, false⟩, ⟨[w3 a2], 1, false⟩]) (i0_l1 k a1 a2 n y1_0 y1_1) := by
 intro n
 induction n with
 | zero => intro y1_0 y1_1; exact ok_none
 | succ n ih =>
  intro y1_0 y1_1
  show Ok _ _ _ _ (i0_l1B k a1 a2 (i0_l1 k a1 a2 n) y1_0 y1_1)
  unfold i0_l1B
  refine ok_ent (p' := nav [0] i0p2) (by kernel_rfl) ?_
  let K1 : List Blk := [⟨[.i a1], 1, false⟩, ⟨[w3 a2], 1, false⟩]
  refine oH 7 i0p4 [(11, .bool (decide (y1_0 < y1_1))), (10, .i y1_1), (9, .i y1_0), (1, .func 53 [] [.ptr 1 1 0, .ptr 0 1 0]), (5, .i y1_0), (6, .i y1_1)] (mkH K1) ?_
  refine oS 11 (fun hb => ?_) (fun hb => ?_)
  ·let E4 : Env := [(1, .func 53 [] [.ptr 1 1 0, .ptr 0 1 0]), (5, .i y1_0), (6, .i y1_1), (7, .i (fW .i64 (shrC (fW .u64 (fW .i64 (y1_0 + y1_1))) 1)))]
   refine oL 14 i0p7 E4 ?_
   refine oR 3 (atN 2 (ctl1 i0p7)) ((19, .i (fW .i64 (shrC (fW .u64 (fW .i64 (y1_0 + y1_1))) 1))) :: (18, .func 53 [] [.ptr 1 1 0, .ptr 0 1 0]) :: E4) ?_
   refine oN (fun (x0_2 : Bool) => .bool x0_2) (fun x0_2 => K1) (atN 3 (ctl1 i0p7)) 20 [0, 1] [] [] [.i (fW .i64 (shrC (fW .u64 (fW .i64 (y1_0 + y1_1))) 1)), .ptr 1 1 0, .ptr 0 1 0] (i5_ok k (fW .i64 (shrC (fW .u64 (fW .i64 (y1_0 + y1_1))) 1)) a1 a2) trivial (fun _ => trivial) fun x0_2 hx0_2 => ?_
   refine oR 2 i0p9 ((21, .bool (!x0_2)) :: (20, .bool x0_2) :: (19, .i (fW .i64 (shrC (fW .u64 (fW .i64 (y1_0 + y1_1))) 1))) :: (18, .func 53 [] [.ptr 1 1 0, .ptr 0 1 0]) :: E4) ?_
   refine oS 21 (fun hb => ?_) (fun hb => ?_)
   ·refine oL 6 i0p2 [(1, .func 53 [] [.ptr 1 1 0, .ptr 0 1 0]), (5, .i (fW .i64 (fW .i64 (shrC (fW .u64 (fW .i64 (y1_0 + y1_1))) 1) + 1))), (6, .i y1_1)] ?_
    exact ih (fW .i64 (fW .i64 (shrC (fW .u64 (fW .i64 (y1_0 + y1_1))) 1) + 1)) y1_1
   ·refine oL 5 i0p2 [(1, .func 53 [] [.ptr 1 1 0, .ptr 0 1 0]), (5, .i y1_0), (6, .i (fW .i64 (shrC (fW .u64 (fW .i64 (y1_0 + y1_1))) 1)))] ?_
    exact ih y1_0 (fW .i64 (shrC (fW .u64 (fW .i64 (y1_0 + y1_1))) 1))
  ·exact oQF 8 K1 2 [] [.i y1_0] (.i y1_0) .ps trivial
def i0 (k : Nat) (a0 : Int) (a1 : Int) (a2 : (List Int)) : Option Int :=
 i0_l1 k a1 a2 k 0 a0
theorem i0_all (k : Nat) (a0 : Int) (a1 : Int) (a2 : (List Int)) (r : Int) (h : i0 k a0 a1 a2 = some r) : CallT Try.prog 52 [.i a0, .func 53 [] [.ptr 1 1 0, .ptr 0 1 0]] (mkH [⟨[.i a1], 1, false⟩, ⟨[w3 a2], 1, false⟩]) ((Xi0 a0 a1 a2).thr r) ((Xi0 a0 a1 a2).enc r) ((Xi0 a0 a1 a2).fin r) := by
 refine callM_of (Xi0 a0 a1 a2) Try.func52 (by kernel_rfl) (by kernel_rfl) rfl (t := i0 k a0 a1 a2) ?_ h
 unfold i0
 refine oE (eE := [(0, .i a0), (1, .func 53 [] [.ptr 1 1 0, .ptr 0 1 0])]) (by kernel_rfl) ?_
 refine oLH 13 i0p2 [(1, .func 53 [] [.ptr 1 1 0, .ptr 0 1 0]), (5, .i 0), (6, .i a0)] (mkH [⟨[.i a1], 1, false⟩, ⟨[w3 a2], 1, false⟩]) ?_
 exact (i0_l1_ok k a0 a1 a2 k) 0 a0
theorem i0_ok (k : Nat) : Pi0 (i0 k) := fun a0 a1 a2 x h => i0_all k a0 a1 a2 x h
end
end Go.Proofs.Ytabhkocokojddaa.Am
set_option maxRecDepth 100000
set_option linter.unusedVariables false
namespace Go.Proofs.Ytabhkocokojddaa.Am
noncomputable section
open Go
def Xg18 : Fx Int := ⟨Try.prog, cx, Try.f18, fun r => .i r, 0, fun _ => H0, cxTi, cxOrd, fun _ => none, false⟩
def g18p0 : Pt := nav [0] (bodyAt Try.f18)
def g18p1 : Pt := nav [0, 0, 0] g18p0
def g18p2 : Pt := nav [0, 0, 0] g18p1
def g18p3 : Pt := nav [0, 0, 0] g18p2
def g18 (k : Nat) (a0 : (List Nat)) (a1 : Int) : Option Int :=
 (g51 k a0 a1).bind fun x0_2 => (g19 k a0).bind fun x1_1 => (i0 k (x1_1.length : Int) x0_2 x1_1).bind fun x2_3 => some x2_3
theorem g18_ok (k : Nat) (a0 : (List Nat)) (a1 : Int) (r : Int) (h : g18 k a0 a1 = some r) : PureOk Try.prog 18 [.str a0, .i a1] (.i r) := by
 refine pure_of Xg18 (fun _ => ⟨rfl, rfl⟩) Try.func18 (by decide +kernel) (by kernel_rfl) (t := g18 k a0 a1) ?_ h
 unfold g18
 refine oE (eE := [(0, .str a0), (1, .i a1)]) (by kernel_rfl) ?_
 let E1 : Env := [(7, .i a1), (6, .str a0), (4, .i 0), (3, .ptr 0 1 0), (0, .str a0), (1, .i a1)]
 refine oH 9 (atN 2 (ctl1 g18p1)) E1 (mkH [⟨[.i a1], 0, false⟩]) ?_
 refine oA (fun (x0_2 : Int) => .i x0_2) (atN 3 (ctl1 g18p1)) 8 [.str a0, .i a1] (g51_ok k a0 a1) fun x0_2 hx0_2 => ?_
 let Q1 : Blk := ⟨[.i x0_2], 1, false⟩
 refine oH 5 (atN 1 (ctl1 g18p2)) ((9, .str a0) :: (8, .i x0_2) :: E1) (mkH [Q1]) ?_
 refine oA (fun (x1_1 : (List Int)) => w3 x1_1) (atN 2 (ctl1 g18p2)) 10 [.str a0] (g19_ok k a0) fun x1_1 hx1_1 => ?_
 refine oLH 4 g18p3 [(3, .ptr 0 1 0), (5, .ptr 1 1 0)] (mkH [Q1, ⟨[w3 x1_1], 1, false⟩]) ?_
 refine oR 4 (atN 3 (ctl1 g18p3)) ((13, .func 53 [] [.ptr 1 1 0, .ptr 0 1 0]) :: (12, .i (x1_1.length : Int)) :: (11, w3 x1_1) :: [(3, .ptr 0 1 0), (5, .ptr 1 1 0)]) ?_
 refine oN (fun (x2_3 : Int) => .i x2_3) (fun x2_3 => [Q1, ⟨[w3 x1_1], 1, false⟩]) (atN 4 (ctl1 g18p3)) 14 [0, 1] [] [] [.i (x1_1.length : Int), .func 53 [] [.ptr 1 1 0, .ptr 0 1 0]] (i0_ok k (x1_1.length : Int) x0_2 x1_1) trivial (fun _ => trivial) fun x2_3 hx2_3 => ?_
 exact oQ 3
end
end Go.Proofs.Ytabhkocokojddaa.Am
set_option maxRecDepth 100000
set_option linter.unusedVariables false
namespace Go.Proofs.Ytabhkocokojddaa.Am
noncomputable section
open Go
def Xg17 : Fx (Int × Int) := ⟨Try.prog, cx, Try.f17, fun r => .tuple [.i r.1, .i r.2], 0, fun _ => H0, cxTi, cxOrd, fun _ => none, false⟩
def g17p0 : Pt := nav [0] (bodyAt Try.f17)
def g17p1 : Pt := nav [0, 0, 0] g17p0
def g17p2 : Pt := nav [0, 0, 0, 0] g17p1
def g17p3 : Pt := nav [0, 0] g17p2
def g17p5 : Pt := nav [2, 0, 0] g17p3
def g17 (k : Nat) (a0 : (List Nat)) (a1 : Int) : Option (Int × Int) :=
 (g19 k a0).bind fun x0_1 => jn (fun (z2 : Bool) => if z2 then (some ((0 : Int), (6 : Int))) else ((nthL x0_1 (fW .i64 (a1 - 1))).bind fun x1_3 => some (x1_3, (0 : Int)))) (fun j2 => if (decide (a1 < 1)) then (j2 true) else (j2 (decide ((x0_1.length : Int) < a1))))
theorem g17_ok (k : Nat) (a0 : (List Nat)) (a1 : Int) (r : (Int × Int)) (h : g17 k a0 a1 = some r) : PureOk Try.prog 17 [.str a0, .i a1] (.tuple [.i r.1, .i r.2]) := by
 refine pure_of Xg17 (fun _ => ⟨rfl, rfl⟩) Try.func17 (by decide +kernel) (by kernel_rfl) (t := g17 k a0 a1) ?_ h
 unfold g17
 refine oE (eE := [(0, .str a0), (1, .i a1)]) (by kernel_rfl) ?_
 let E1 : Env := [(7, .str a0), (5, .i 0), (4, .i 0), (0, .str a0), (1, .i a1)]
 refine oH 8 (atN 1 (ctl1 g17p1)) E1 (mkH []) ?_
 refine oA (fun (x0_1 : (List Int)) => w3 x0_1) (atN 2 (ctl1 g17p1)) 8 [.str a0] (g19_ok k a0) fun x0_1 hx0_1 => ?_
 refine oR 8 (atN 3 (ctl1 g17p2)) ((11, .bool (decide (a1 < 1))) :: (10, .bool (decide (a1 < 1))) :: (9, .i a1) :: (6, w3 x0_1) :: (8, w3 x0_1) :: E1) ?_
 refine oJ g17p3 (fun (z2 : Bool) => [(1, .i a1), (6, w3 x0_1), (16, .bool z2)]) (fun (z2 : Bool) => (mkH [])) (fun z2 => ?_) (fun j2 hj2 => ?_)
 ·refine oS 16 (fun hb => ?_) (fun hb => ?_)
  ·exact oQ 7
  ·refine oH 7 (atN 3 (ctl1 g17p5)) [(19, .i (fW .i64 (a1 - 1))), (18, .i a1), (17, w3 x0_1), (16, .bool false), (1, .i a1), (6, w3 x0_1), (16, .bool z2)] (mkH []) ?_
   refine oC (fun (x1_3 : Int) => (.vptr [.i x1_3], (mkH []))) (atN 4 (ctl1 g17p5)) 20 (vidxH (sz := 1) e3_len (by kernel_rfl)) fun x1_3 hx1_3 => ?_
   exact oQ 5
 ·refine oS 11 (fun hb => ?_) (fun hb => ?_)
  ·refine oLH 6 g17p3 [(1, .i a1), (6, w3 x0_1), (16, .bool true)] (mkH []) ?_
   exact hj2 true
  ·refine oLH 6 g17p3 [(1, .i a1), (6, w3 x0_1), (16, .bool (decide ((x0_1.length : Int) < a1)))] (mkH []) ?_
   exact hj2 (decide ((x0_1.length : Int) < a1))
end
end Go.Proofs.Ytabhkocokojddaa.Am
set_option maxRecDepth 100000
set_option linter.unusedVariables false
namespace Go.Proofs.Ytabhkocokojddaa.Am
noncomputable section
open Go
def Xg16 : Fx Int := ⟨Try.prog, cx, Try.f16, fun r => .i r, 0, fun _ => H0, cxTi, cxOrd, fun _ => none, false⟩
def g16p0 : Pt := nav [0] (bodyAt Try.f16)
def g16p1 : Pt := nav [0, 0, 0] g16p0
def g16 (k : Nat) (a0 : (List Nat)) : Option Int :=
 (g19 k a0).bind fun x0_1 => some (fW .i64 ((x0_1.length : Int) - 1))
theorem g16_ok (k : Nat) (a0 : (List Nat)) (r : Int) (h : g16 k a0 = some r) : PureOk Try.prog 16 [.str a0] (.i r) := by
 refine pure_of Xg16 (fun _ => ⟨rfl, rfl⟩) Try.func16 (by decide +kernel) (by kernel_rfl) (t := g16 k a0) ?_ h
 unfold g16
 refine oE (eE := [(0, .str a0)]) (by kernel_rfl) ?_
 refine oH 7 (atN 1 (ctl1 g16p1)) [(3, .str a0), (2, .i 0), (0, .str a0)] (mkH []) ?_
 refine oA (fun (x0_1 : (List Int)) => w3 x0_1) (atN 2 (ctl1 g16p1)) 4 [.str a0] (g19_ok k a0) fun x0_1 hx0_1 => ?_
 exact oQ 5
end
end Go.Proofs.Ytabhkocokojddaa.Am
set_option linter.unusedVariables false
set_option linter.unusedSimpArgs false
namespace Go.Proofs.Ytabhkocokojddaa.Am
open Go
def ln : Nat → List Nat → List Int
 | _, [] => []
 | i, c :: r => if c = 10 then ((i + 1 : Nat) : Int) :: ln (i + 1) r else ln (i + 1) r
theorem ln_len : ∀ (r : List Nat) (i : Nat), (ln i r).length = r.count 10
 | [], i => rfl
 | c :: r, i => by
  by_cases h : c = 10
  ·subst h; simp [ln, ln_len r]
  ·have h' : ¬ 10 = c := fun e => h e.symm
   rw [List.count_cons_of_ne h]; simp [ln, ln_len r, h]
theorem app8 {l x : List Int} (h : l.length + x.length ≤ 1000000000) : appS 8 l x = some (l ++ x) := by
 unfold appS
 rw [if_pos ⟨by omega, by omega⟩]
theorem lines_l (k : Nat) (s : List Nat) (hs : s.length < 100000000) : ∀ (r : List Nat) (i : Nat) (acc : List Int) (n : Nat), s.drop i = r → i ≤ s.length → acc.length ≤ i + 1 → r.length < n → g19_l2 k s n (i : Int) acc = some (acc ++ ln i r)
 | [], i, acc, n, h, hi, ha, hn => by
  cases n with
  | zero => omega
  | succ n =>
   have : s.length ≤ i := List.drop_eq_nil_iff.1 h
   rw [g19_l2_s]
   exact iF (dF (by omega)) (by simp [ln])
 | c :: r, i, acc, n, h, hi, ha, hn => by
  cases n with
  | zero => simp at hn
  | succ n =>
   have hl := drop_len h
   have hn : r.length < n := by simpa using hn
   rw [g19_l2_s]
   refine iT (dT (by omega)) (bS (nthX rfl h) ?_)
   by_cases hc : c = 10
   ·refine (jS (v := (acc ++ [((i + 1 : Nat) : Int)], (i : Int))) (fun j => ?_)).trans ?_
    ·refine iT (dT (by omega)) (bS ?_ rfl)
     rw [fw_s (by omega)]
     exact app8 (by simp; omega)
    ·show g19_l2 k s n (fW .i64 ((i : Int) + 1)) (acc ++ [((i + 1 : Nat) : Int)]) = _
     rw [fw_s (by omega), lines_l k s hs r (i + 1) _ n (drop_step h) (by omega) (by simp; omega) hn]
     simp [ln, hc]
   ·refine (jS (v := (acc, (i : Int))) (fun j => iF (dF (by omega)) rfl)).trans ?_
    show g19_l2 k s n (fW .i64 ((i : Int) + 1)) acc = _
    rw [fw_s (by omega), lines_l k s hs r (i + 1) _ n (drop_step h) (by omega) (by omega) hn]
    simp [ln, hc]
def lns (s : List Nat) : List Int := 0 :: ln 0 s
theorem lines_at {k : Nat} {s : List Nat} (hs : s.length < 100000000) (hk : s.length < k) : g19 k s = some (lns s) := by
 unfold g19
 exact lines_l k s hs s 0 [0] k rfl (by omega) (by simp) hk
theorem lns_len (s : List Nat) : (lns s).length = s.count 10 + 1 := by simp [lns, ln_len]
theorem cnt_le (s : List Nat) : s.count 10 ≤ s.length := List.count_le_length
theorem ends_at {k : Nat} {s : List Nat} (hs : s.length < 100000000) (hk : s.length < k) : g16 k s = some ((s.count 10 : Nat) : Int) := by
 unfold g16
 have := cnt_le s
 refine bS (lines_at hs hk) ?_
 rw [lns_len, fw_p (by omega)]
theorem ln_gt : ∀ (r : List Nat) (i : Nat) (x : Int), x ∈ ln i r → (i : Int) < x
 | [], i, x, h => by simp [ln] at h
 | c :: r, i, x, h => by
  by_cases hc : c = 10
  ·simp only [ln, hc, if_true, List.mem_cons] at h
   rcases h with rfl | h
   ·omega
   ·have := ln_gt r (i + 1) x h; omega
  ·simp only [ln, hc, if_false] at h
   have := ln_gt r (i + 1) x h; omega
theorem ln_iff (a : Nat) : ∀ (r : List Nat) (i j : Nat) (x : Int), i ≤ a → (ln i r)[j]? = some x → (j < (r.take (a - i)).count 10 ↔ x ≤ (a : Int))
 | [], i, j, x, hi, h => by simp [ln] at h
 | c :: r, i, j, x, hi, h => by
  by_cases hia : i = a
  ·subst hia
   have hx := ln_gt (c :: r) i x (List.mem_of_getElem? h)
   simp; omega
  ·obtain ⟨m, hm⟩ : ∃ m, a - i = m + 1 := ⟨a - i - 1, by omega⟩
   have hm' : a - (i + 1) = m := by omega
   rw [hm, List.take_succ_cons]
   by_cases hc : c = 10
   ·subst hc
    simp only [ln, if_true] at h
    simp only [List.count_cons_self]
    cases j with
    | zero =>
     simp only [List.getElem?_cons_zero, Option.some.injEq] at h
     subst h
     constructor
     ·intro _; omega
     ·intro _; omega
    | succ j =>
     simp only [List.getElem?_cons_succ] at h
     have := ln_iff a r (i + 1) j x (by omega) h
     rw [hm'] at this
     rw [← this]; omega
   ·simp only [ln, hc, if_false] at h
    have := ln_iff a r (i + 1) j x (by omega) h
    rw [hm'] at this
    have hc' : ¬ 10 = c := fun e => hc e.symm
    rw [List.count_cons_of_ne hc]
    exact this
theorem lns_iff {s : List Nat} {a j : Nat} {x : Int} (h : (lns s)[j]? = some x) : j < (s.take a).count 10 + 1 ↔ x ≤ (a : Int) := by
 cases j with
 | zero => simp only [lns, List.getElem?_cons_zero, Option.some.injEq] at h; subst h; constructor <;> intro _ <;> omega
 | succ j =>
  simp only [lns, List.getElem?_cons_succ] at h
  have := ln_iff a s 0 j x (by omega) h
  simp only [Nat.sub_zero] at this
  rw [← this]; omega
theorem ln_back : ∀ (r : List Nat) (i j : Nat) (x : Int), (ln i r)[j]? = some x → ∃ p : Nat, x = ((i + p + 1 : Nat) : Int) ∧ r[p]? = some 10 ∧ (r.take (p + 1)).count 10 = j + 1
 | [], i, j, x, h => by simp [ln] at h
 | c :: r, i, j, x, h => by
  by_cases hc : c = 10
  ·subst hc
   simp only [ln, if_true] at h
   cases j with
   | zero =>
    simp only [List.getElem?_cons_zero, Option.some.injEq] at h
    exact ⟨0, by omega, rfl, by simp⟩
   | succ j =>
    simp only [List.getElem?_cons_succ] at h
    obtain ⟨p, h1, h2, h3⟩ := ln_back r (i + 1) j x h
    exact ⟨p + 1, by rw [h1]; omega, by simpa using h2, by rw [List.take_succ_cons, List.count_cons_self, h3]⟩
  ·simp only [ln, hc, if_false] at h
   obtain ⟨p, h1, h2, h3⟩ := ln_back r (i + 1) j x h
   exact ⟨p + 1, by rw [h1]; omega, by simpa using h2, by rw [List.take_succ_cons, List.count_cons_of_ne hc, h3]⟩
end Go.Proofs.Ytabhkocokojddaa.Am
set_option linter.unusedVariables false
set_option linter.unusedSimpArgs false
namespace Go.Proofs.Ytabhkocokojddaa.Am
open Go
theorem nthLI {α : Type} {l : List α} {x : Int} {i : Nat} (hx : x = (i : Int)) : nthL l x = l[i]? := by
 subst hx
 unfold nthL
 rw [if_pos (by omega), Int.toNat_natCast]
theorem half_at {a b : Nat} (h : a + b < 300000000000000) : fW .i64 (shrC (fW .u64 (fW .i64 ((a : Int) + (b : Int)))) 1) = (((a + b) / 2 : Nat) : Int) := by
 rw [fw_a (by omega) (by omega), fwrap_u64]
 unfold shrC
 rw [Int.fdiv_eq_ediv_of_nonneg _ (by decide), fwI (by omega) (by omega)]
 omega
theorem srch (k : Nat) (l : List Int) (a : Int) (c : Nat) (hl : l.length < 1000000000) (hc : c ≤ l.length) (h : ∀ (j : Nat) (x : Int), l[j]? = some x → (j < c ↔ x ≤ a)) : ∀ (n y0 y1 : Nat), y1 - y0 < n → y0 ≤ c → c ≤ y1 → y1 ≤ l.length → i0_l1 k a l n (y0 : Int) (y1 : Int) = some (c : Int) := by
 intro n
 induction n with
 | zero => intro y0 y1 hn; omega
 | succ n ih =>
  intro y0 y1 hn h0 h1 h2
  rw [i0_l1_s]
  by_cases hy : y0 < y1
  ·refine iT (dT (by omega)) ?_
   rw [half_at (by omega)]
   obtain ⟨x, hx⟩ : ∃ x, l[(y0 + y1) / 2]? = some x := ⟨_, List.getElem?_eq_getElem (by omega)⟩
   have hq := h _ x hx
   refine bS (a := decide (a < x)) ?_ ?_
   ·unfold i5
    exact bS ((nthLI rfl).trans hx) rfl
   ·by_cases hax : a < x
    ·refine iF (by simp [hax]) ?_
     exact ih y0 ((y0 + y1) / 2) (by omega) h0 (by omega) (by omega)
    ·refine iT (by simp [hax]) ?_
     rw [fw_s (by omega)]
     exact ih ((y0 + y1) / 2 + 1) y1 (by omega) (by omega) h1 h2
  ·refine iF (dF (by omega)) ?_
   rw [show y0 = c by omega]
def wi (s : List Nat) (a : Int) : Nat := min a.toNat s.length
theorem within_at (k : Nat) (s : List Nat) (a : Int) : g51 k s a = some ((wi s a : Nat) : Int) := by
 unfold g51 wi
 congr 1
 unfold minI maxI
 split <;> split <;> omega
theorem wi_at {s : List Nat} {i : Nat} (h : i ≤ s.length) : wi s (i : Int) = i := by unfold wi; omega
theorem take_cnt (s : List Nat) (i : Nat) : (s.take i).count 10 ≤ s.count 10 := (List.take_sublist i s).count_le 10
theorem line_at {k : Nat} {s : List Nat} (hs : s.length < 100000000) (hk : s.length + 1 < k) (a : Int) : g18 k s a = some (((s.take (wi s a)).count 10 + 1 : Nat) : Int) := by
 unfold g18
 have hc := cnt_le s
 have ht := take_cnt s (wi s a)
 refine bS (within_at k s a) (bS (lines_at hs (by omega)) (bS ?_ rfl))
 unfold i0
 have hl := lns_len s
 exact srch k (lns s) _ _ (by omega) (by omega) (fun j x hx => lns_iff hx) k 0 _ (by omega) (by omega) (by omega) (by omega)
end Go.Proofs.Ytabhkocokojddaa.Am
set_option maxRecDepth 100000
set_option linter.unusedVariables false
namespace Go.Proofs.Ytabhkocokojddaa.Am
noncomputable section
open Go
def Xg91 : Fx (Int × Int) := ⟨Try.prog, cx, Try.f91, fun r => .tuple [.i r.1, .i r.2], 0, fun _ => H0, cxTi, cxOrd, fun _ => none, false⟩
def g91p0 : Pt := nav [0] (bodyAt Try.f91)
def g91p1 : Pt := nav [0, 0, 0, 0, 0] g91p0
def g91p2 : Pt := nav [0, 0] g91p1
def g91p4 : Pt := nav [2, 0] g91p2
def g91p6 : Pt := nav [0, 0] g91p4
def g91p8 : Pt := nav [2, 0] g91p6
def g91p9 : Pt := nav [0, 0] g91p8
def g91p11 : Pt := nav [2, 0] g91p9
def g91p12 : Pt := nav [0, 0] g91p11
def g91 (k : Nat) (a0 : Int) : Option (Int × Int) :=
 if (decide (a0 < 128)) then (some ((1 : Int), fW .i64 a0)) else (if (decide (shrC a0 5 = 6)) then (some ((2 : Int), fW .i64 (andI .u8 a0 31))) else (if (decide (shrC a0 4 = 14)) then (some ((3 : Int), fW .i64 (andI .u8 a0 15))) else (if (decide (shrC a0 3 = 30)) then (some ((4 : Int), fW .i64 (andI .u8 a0 7))) else (some ((0 : Int), (0 : Int))))))
theorem g91_ok (k : Nat) (a0 : Int) (r : (Int × Int)) (h : g91 k a0 = some r) : PureOk Try.prog 91 [.y a0] (.tuple [.i r.1, .i r.2]) := by
 refine pure_of Xg91 (fun _ => ⟨rfl, rfl⟩) Try.func91 (by decide +kernel) (by kernel_rfl) (t := g91 k a0) ?_ h
 unfold g91
 refine oE (eE := [(0, .y a0)]) (by kernel_rfl) ?_
 refine oH 13 g91p2 [(4, .bool (decide (a0 < 128))), (6, .bool (decide (a0 < 128))), (5, .y a0), (3, .i 0), (2, .i 0), (0, .y a0)] (mkH []) ?_
 refine oS 4 (fun hb => ?_) (fun hb => ?_)
 ·exact oQ 9
 ·let E4 : Env := [(0, .y a0), (9, .bool (decide (shrC a0 5 = 6)))]
  refine oL 8 g91p6 E4 ?_
  refine oS 9 (fun hb => ?_) (fun hb => ?_)
  ·exact oQ 10
  ·refine oR 8 g91p9 ((16, .bool (decide (shrC a0 4 = 14))) :: (19, .bool (decide (shrC a0 4 = 14))) :: (18, .y (shrC a0 4)) :: (17, .y a0) :: (9, .bool false) :: E4) ?_
   refine oS 16 (fun hb => ?_) (fun hb => ?_)
   ·exact oQ 10
   ·refine oL 8 g91p12 [(0, .y a0), (23, .bool (decide (shrC a0 3 = 30)))] ?_
    refine oS 23 (fun hb => ?_) (fun hb => ?_)
    ·exact oQ 10
    ·exact oQ 8
end
end Go.Proofs.Ytabhkocokojddaa.Am
set_option maxRecDepth 100000
set_option linter.unusedVariables false
namespace Go.Proofs.Ytabhkocokojddaa.Am
noncomputable section
open Go
def Xg92 : Fx Int := ⟨Try.prog, cx, Try.f92, fun r => .i r, 0, fun _ => H0, cxTi, cxOrd, fun _ => none, false⟩
def g92c0 : List Int := [(0 : Int), (0 : Int), (128 : Int), (2048 : Int), (65536 : Int)]
def g92p0 : Pt := nav [0] (bodyAt Try.f92)
def g92p1 : Pt := nav [0, 0, 0] g92p0
def g92 (k : Nat) (a0 : Int) : Option Int :=
 (nthA g92c0 5 a0).bind fun x0_2 => some x0_2
theorem g92_ok (k : Nat) (a0 : Int) (r : Int) (h : g92 k a0 = some r) : PureOk Try.prog 92 [.i a0] (.i r) := by
 refine pure_of Xg92 (fun _ => ⟨rfl, rfl⟩) Try.func92 (by decide +kernel) (by kernel_rfl) (t := g92 k a0) ?_ h
 unfold g92
 refine oE (eE := [(0, .i a0)]) (by kernel_rfl) ?_
 refine oH 8 (atN 2 (ctl1 g92p1)) [(4, .i a0), (3, .agg [.i 0, .i 0, .i 128, .i 2048, .i 65536]), (2, .i 0), (0, .i a0)] (mkH []) ?_
 refine oC (fun (x0_2 : Int) => (.i x0_2, (mkH []))) (atN 3 (ctl1 g92p1)) 5 (aidxH v3 g92c0 (by kernel_rfl)) fun x0_2 hx0_2 => ?_
 exact oQ 3
end
end Go.Proofs.Ytabhkocokojddaa.Am
set_option maxRecDepth 100000
set_option linter.unusedVariables false
namespace Go.Proofs.Ytabhkocokojddaa.Am
noncomputable section
open Go
def Xg93 : Fx Bool := ⟨Try.prog, cx, Try.f93, fun r => .bool r, 0, fun _ => H0, cxTi, cxOrd, fun _ => none, false⟩
def g93p0 : Pt := nav [0] (bodyAt Try.f93)
def g93p1 : Pt := nav [0, 0, 0] g93p0
def g93 (k : Nat) (a0 : Int) : Option Bool :=
 if (decide (0 ≤ a0)) then (if (decide (a0 ≤ 1114111)) then (some (!decide (shrC a0 11 = 27))) else (some false)) else (some false)
theorem g93_ok (k : Nat) (a0 : Int) (r : Bool) (h : g93 k a0 = some r) : PureOk Try.prog 93 [.i a0] (.bool r) := by
 refine pure_of Xg93 (fun _ => ⟨rfl, rfl⟩) Try.func93 (by decide +kernel) (by kernel_rfl) (t := g93 k a0) ?_ h
 unfold g93
 refine oE (eE := [(0, .i a0)]) (by kernel_rfl) ?_
 let E1 : Env := [(5, .bool (decide (0 ≤ a0))), (4, .bool (decide (0 ≤ a0))), (3, .i a0), (2, .bool false), (0, .i a0)]
 refine oH 9 (atN 3 (ctl1 g93p1)) E1 (mkH []) ?_
 refine oS 5 (fun hb => ?_) (fun hb => ?_)
 ·refine oR 4 (atN 7 (ctl1 g93p1)) ((9, .bool (decide (a0 ≤ 1114111))) :: (8, .bool (decide (a0 ≤ 1114111))) :: (7, .bool (decide (a0 ≤ 1114111))) :: (6, .i a0) :: (5, .bool true) :: E1) ?_
  refine oS 9 (fun hb => ?_) (fun hb => ?_)
  ·exact oQ 7
  ·exact oQ 7
 ·exact oQ 11
end
end Go.Proofs.Ytabhkocokojddaa.Am
set_option maxRecDepth 100000
set_option linter.unusedVariables false
namespace Go.Proofs.Ytabhkocokojddaa.Am
noncomputable section
open Go
def Xg78 : Fx (Int × Int) := ⟨Try.prog, cx, Try.f78, fun r => .tuple [.i r.1, .i r.2], 0, fun _ => H0, cxTi, cxOrd, fun _ => none, false⟩
def g78p0 : Pt := nav [0] (bodyAt Try.f78)
def g78p1 : Pt := nav [0, 0, 0, 0] g78p0
def g78p2 : Pt := nav [0, 0] g78p1
def g78p4 : Pt := nav [2, 0, 0] g78p2
def g78p6 : Pt := nav [0, 0, 0, 0] g78p4
def g78p7 : Pt := nav [0, 0] g78p6
def g78p9 : Pt := nav [2, 0, 0, 0] g78p7
def g78p10 : Pt := nav [0, 0, 0, 0] g78p9
def g78p11 : Pt := nav [0, 0, 0] g78p10
def g78p12 : Pt := nav [0, 0] g78p11
def g78p13 : Pt := nav [1, 0, 0, 0, 0] g78p12
def g78p14 : Pt := nav [2, 0, 0, 0] g78p12
def g78p15 : Pt := nav [0, 0, 0, 0] g78p13
def g78p16 : Pt := nav [0, 0] g78p14
def g78p17 : Pt := nav [0, 0] g78p15
def g78p21 : Pt := nav [2, 0] g78p17
def g78p22 : Pt := nav [0, 0] g78p21
def g78_l5B (k : Nat)  (a0 : (List Nat)) (a1 : Int) (x0_3 : (Int × Int)) (ih : Int → Int → Option (Int × Int)) : Int → Int → Option (Int × Int) :=
 fun (y5_0 : Int) (y5_1 : Int) => if (decide (y5_1 < x0_3.1)) then ((nthS a0 (fW .i64 (a1 + y5_1))).bind fun x1_4 => if (!decide (shrC x1_4 6 = 2)) then (some (((-1) : Int), (1 : Int))) else (ih (orI .i64 (shlC .i64 y5_0 6) (fW .i64 (andI .u8 x1_4 63))) (fW .i64 (y5_1 + 1)))) else ((g92 k x0_3.1).bind fun x2_2 => jn (fun (z6 : Bool × Int) => if z6.1 then (some (((-1) : Int), (1 : Int))) else (some (z6.2, x0_3.1))) (fun j6 => if (decide (y5_0 < x2_2)) then (j6 (true, y5_0)) else ((g93 k y5_0).bind fun x2_6 => j6 (!x2_6, y5_0))))
def g78_l5 (k : Nat)  (a0 : (List Nat)) (a1 : Int) (x0_3 : (Int × Int)) (n : Nat) : Int → Int → Option (Int × Int) := lp (fun _ _ => none) (g78_l5B k a0 a1 x0_3) n
theorem g78_l5_s (k : Nat)  (a0 : (List Nat)) (a1 : Int) (x0_3 : (Int × Int)) (n : Nat) (y5_0 : Int) (y5_1 : Int) : g78_l5 k a0 a1 x0_3 (n + 1) y5_0 y5_1 = (if (decide (y5_1 < x0_3.1)) then ((nthS a0 (fW .i64 (a1 + y5_1))).bind fun x1_4 => if (!decide (shrC x1_4 6 = 2)) then (some (((-1) : Int), (1 : Int))) else ((g78_l5 k a0 a1 x0_3 n) (orI .i64 (shlC .i64 y5_0 6) (fW .i64 (andI .u8 x1_4 63))) (fW .i64 (y5_1 + 1)))) else ((g92 k x0_3.1).bind fun x2_2 => jn (fun (z6 : Bool × Int) => if z6.1 then (some (((-1) : Int), (1 : Int))) else (some (z6.2, x0_3.1))) (fun j6 => if (decide (y5_0 < x2_2)) then (j6 (true, y5_0)) else ((g93 k y5_0).bind fun x2_6 => j6 (!x2_6, y5_0))))) := rfl
theorem g78_l5_ok (k : Nat)   (a0 : (List Nat)) (a1 : Int) (x0_3 : (Int × Int))  : ∀ (n : Nat) (y5_0 : Int) (y5_1 : Int), Ok Xg78 g78p10 [(0, .str a0), (1, .i a1), (6, .i x0_3.1), (7, .i y5_0), (8, .i y5_1)] (mkH []) (g78_l5 k a0 a1 x0_3 n y5_0 y5_1) := by
 intro n
 induction n with
 | zero => intro y5_0 y5_1; exact ok_none
 | succ n ih =>
  intro y5_0 y5_1
  show Ok _ _ _ _ (g78_l5B k a0 a1 x0_3 (g78_l5 k a0 a1 x0_3 n) y5_0 y5_1)
  unfold g78_l5B
  refine ok_ent (p' := nav [0] g78p10) (by kernel_rfl) ?_
  let E8 : Env := [(37, .bool (decide (y5_1 < x0_3.1))), (36, .i x0_3.1), (35, .i y5_1), (0, .str a0), (1, .i a1), (6, .i x0_3.1), (7, .i y5_0), (8, .i y5_1)]
  refine oH 7 g78p12 E8 (mkH []) ?_
  refine oS 37 (fun hb => ?_) (fun hb => ?_)
  ·let E9 : Env := ((43, .i (fW .i64 (a1 + y5_1))) :: (42, .i y5_1) :: (41, .i a1) :: (40, .str a0) :: (37, .bool true) :: E8)
   refine oR 10 (atN 4 (ctl1 g78p13)) E9 ?_
   refine oC (fun (x1_4 : Int) => (.y x1_4, (mkH []))) (atN 5 (ctl1 g78p13)) 44 (idxH (by kernel_rfl)) fun x1_4 hx1_4 => ?_
   refine oH 4 g78p15 ((9, .y x1_4) :: (44, .y x1_4) :: E9) (mkH []) ?_
   refine oK0 [0, 1, 6, 7, 8, 9] ?_
   refine oR 5 g78p17 ((47, .bool (!decide (shrC x1_4 6 = 2))) :: (46, .y (shrC x1_4 6)) :: (45, .y x1_4) :: (keepOnly ((9, .y x1_4) :: (44, .y x1_4) :: E9) [0, 1, 6, 7, 8, 9])) ?_
   refine oS 47 (fun hb => ?_) (fun hb => ?_)
   ·exact oQ 7
   ·let E13 : Env := [(0, .str a0), (1, .i a1), (6, .i x0_3.1), (7, .i (orI .i64 (shlC .i64 y5_0 6) (fW .i64 (andI .u8 x1_4 63)))), (8, .i y5_1)]
    refine oL 11 g78p22 E13 ?_
    refine oR 5 g78p10 ((8, .i (fW .i64 (y5_1 + 1))) :: (39, .i (fW .i64 (y5_1 + 1))) :: (38, .i y5_1) :: E13) ?_
    refine oK [0, 1, 6, 7, 8] [(0, .str a0), (1, .i a1), (6, .i x0_3.1), (7, .i (orI .i64 (shlC .i64 y5_0 6) (fW .i64 (andI .u8 x1_4 63)))), (8, .i (fW .i64 (y5_1 + 1)))] ?_
    exact ih (orI .i64 (shlC .i64 y5_0 6) (fW .i64 (andI .u8 x1_4 63))) (fW .i64 (y5_1 + 1))
  ·refine oR 7 (atN 2 (ctl1 g78p14)) ((55, .i x0_3.1) :: (54, .i y5_0) :: (37, .bool false) :: E8) ?_
   refine oA (fun (x2_2 : Int) => .i x2_2) (atN 3 (ctl1 g78p14)) 56 [.i x0_3.1] (g92_ok k x0_3.1) fun x2_2 hx2_2 => ?_
   let E15 : Env := ((58, .bool (decide (y5_0 < x2_2))) :: (57, .bool (decide (y5_0 < x2_2))) :: (56, .i x2_2) :: (55, .i x0_3.1) :: (54, .i y5_0) :: (37, .bool false) :: E8)
   refine oR 2 (atN 5 (ctl1 g78p14)) E15 ?_
   refine oJ g78p16 (fun (z6 : Bool × Int) => [(6, .i x0_3.1), (7, .i z6.2), (62, .bool z6.1)]) (fun (z6 : Bool × Int) => (mkH [])) (fun z6 => ?_) (fun j6 hj6 => ?_)
   ·refine oS 62 (fun hb => ?_) (fun hb => ?_)
    ·exact oQ 7
    ·exact oQ 10
   ·refine oS 58 (fun hb => ?_) (fun hb => ?_)
    ·refine oLH 5 g78p16 [(6, .i x0_3.1), (7, .i y5_0), (62, .bool true)] (mkH []) ?_
     exact hj6 (true, y5_0)
    ·refine oH 1 (atN 6 (ctl1 g78p14)) ((59, .i y5_0) :: (58, .bool false) :: E15) (mkH []) ?_
     refine oA (fun (x2_6 : Bool) => .bool x2_6) (atN 7 (ctl1 g78p14)) 60 [.i y5_0] (g93_ok k y5_0) fun x2_6 hx2_6 => ?_
     refine oL 3 g78p16 [(6, .i x0_3.1), (7, .i y5_0), (62, .bool (!x2_6))] ?_
     exact hj6 (!x2_6, y5_0)
def g78 (k : Nat) (a0 : (List Nat)) (a1 : Int) : Option (Int × Int) :=
 jn (fun (z3 : Bool) => if z3 then (some ((0 : Int), (0 : Int))) else ((nthS a0 a1).bind fun x0_2 => (g91 k x0_2).bind fun x0_3 => jn (fun (z4 : Bool) => if z4 then (some (((-1) : Int), (1 : Int))) else (g78_l5 k a0 a1 x0_3 k x0_3.2 1)) (fun j4 => if (decide (x0_3.1 = 0)) then (j4 true) else (j4 (decide (fW .i64 ((a0.length : Int) - a1) < x0_3.1)))))) (fun j3 => if (decide (a1 < 0)) then (j3 true) else (j3 (decide ((a0.length : Int) ≤ a1))))
theorem g78_ok (k : Nat) (a0 : (List Nat)) (a1 : Int) (r : (Int × Int)) (h : g78 k a0 a1 = some r) : PureOk Try.prog 78 [.str a0, .i a1] (.tuple [.i r.1, .i r.2]) := by
 refine pure_of Xg78 (fun _ => ⟨rfl, rfl⟩) Try.func78 (by decide +kernel) (by kernel_rfl) (t := g78 k a0 a1) ?_ h
 unfold g78
 refine oE (eE := [(0, .str a0), (1, .i a1)]) (by kernel_rfl) ?_
 refine oH 11 (atN 3 (ctl1 g78p1)) [(12, .bool (decide (a1 < 0))), (11, .bool (decide (a1 < 0))), (10, .i a1), (5, .i 0), (4, .i 0), (0, .str a0), (1, .i a1)] (mkH []) ?_
 refine oJ g78p2 (fun (z3 : Bool) => [(0, .str a0), (1, .i a1), (17, .bool z3)]) (fun (z3 : Bool) => (mkH [])) (fun z3 => ?_) (fun j3 hj3 => ?_)
 ·refine oS 17 (fun hb => ?_) (fun hb => ?_)
  ·exact oQ 7
  ·refine oH 6 (atN 2 (ctl1 g78p4)) [(20, .i a1), (19, .str a0), (17, .bool false), (0, .str a0), (1, .i a1), (17, .bool z3)] (mkH []) ?_
   refine oC (fun (x0_2 : Int) => (.y x0_2, (mkH []))) (atN 3 (ctl1 g78p4)) 21 (idxH (by kernel_rfl)) fun x0_2 hx0_2 => ?_
   refine oA (fun (x0_3 : (Int × Int)) => .tuple [.i x0_3.1, .i x0_3.2]) (atN 4 (ctl1 g78p4)) 22 [.y x0_2] (g91_ok k x0_2) fun x0_3 hx0_3 => ?_
   let E5 : Env := [(0, .str a0), (1, .i a1), (6, .i x0_3.1), (7, .i x0_3.2)]
   refine oLH 8 g78p6 E5 (mkH []) ?_
   refine oR 4 (atN 3 (ctl1 g78p6)) ((27, .bool (decide (x0_3.1 = 0))) :: (26, .bool (decide (x0_3.1 = 0))) :: (25, .i x0_3.1) :: E5) ?_
   refine oJ g78p7 (fun (z4 : Bool) => [(0, .str a0), (1, .i a1), (6, .i x0_3.1), (7, .i x0_3.2), (34, .bool z4)]) (fun (z4 : Bool) => (mkH [])) (fun z4 => ?_) (fun j4 hj4 => ?_)
   ·refine oS 34 (fun hb => ?_) (fun hb => ?_)
    ·exact oQ 7
    ·refine oLH 9 g78p10 [(0, .str a0), (1, .i a1), (6, .i x0_3.1), (7, .i x0_3.2), (8, .i 1)] (mkH []) ?_
     exact (g78_l5_ok k a0 a1 x0_3 k) x0_3.2 1
   ·refine oS 27 (fun hb => ?_) (fun hb => ?_)
    ·refine oLH 8 g78p7 [(0, .str a0), (1, .i a1), (6, .i x0_3.1), (7, .i x0_3.2), (34, .bool true)] (mkH []) ?_
     exact hj4 true
    ·refine oLH 8 g78p7 [(0, .str a0), (1, .i a1), (6, .i x0_3.1), (7, .i x0_3.2), (34, .bool (decide (fW .i64 ((a0.length : Int) - a1) < x0_3.1)))] (mkH []) ?_
     exact hj4 (decide (fW .i64 ((a0.length : Int) - a1) < x0_3.1))
 ·refine oS 12 (fun hb => ?_) (fun hb => ?_)
  ·refine oLH 6 g78p2 [(0, .str a0), (1, .i a1), (17, .bool true)] (mkH []) ?_
   exact hj3 true
  ·refine oLH 6 g78p2 [(0, .str a0), (1, .i a1), (17, .bool (decide ((a0.length : Int) ≤ a1)))] (mkH []) ?_
   exact hj3 (decide ((a0.length : Int) ≤ a1))
end
end Go.Proofs.Ytabhkocokojddaa.Am
set_option maxRecDepth 100000
set_option linter.unusedVariables false
namespace Go.Proofs.Ytabhkocokojddaa.Am
noncomputable section
open Go
def Xg55 : Fx Int := ⟨Try.prog, cx, Try.f55, fun r => .i r, 0, fun _ => H0, cxTi, cxOrd, fun _ => none, false⟩
def g55p0 : Pt := nav [0] (bodyAt Try.f55)
def g55p1 : Pt := nav [0, 0, 0] g55p0
def g55p2 : Pt := nav [0, 0, 0, 0] g55p1
def g55p3 : Pt := nav [0, 0, 0, 0] g55p2
def g55p4 : Pt := nav [0, 0, 0] g55p3
def g55p5 : Pt := nav [0, 0] g55p4
def g55p6 : Pt := nav [1, 0, 0, 0, 0] g55p5
def g55p8 : Pt := nav [0, 0] g55p6
def g55_l1B (k : Nat)  (a0 : (List Nat)) (ih : Int → Int → Option Int) : Int → Int → Option Int :=
 fun (y1_0 : Int) (y1_1 : Int) => if (decide (y1_1 < (a0.length : Int))) then ((g78 k a0 y1_1).bind fun x0_2 => ih (fW .i64 (y1_0 + 1)) (fW .i64 (y1_1 + x0_2.2))) else (some y1_0)
def g55_l1 (k : Nat)  (a0 : (List Nat)) (n : Nat) : Int → Int → Option Int := lp (fun _ _ => none) (g55_l1B k a0) n
theorem g55_l1_s (k : Nat)  (a0 : (List Nat)) (n : Nat) (y1_0 : Int) (y1_1 : Int) : g55_l1 k a0 (n + 1) y1_0 y1_1 = (if (decide (y1_1 < (a0.length : Int))) then ((g78 k a0 y1_1).bind fun x0_2 => (g55_l1 k a0 n) (fW .i64 (y1_0 + 1)) (fW .i64 (y1_1 + x0_2.2))) else (some y1_0)) := rfl
theorem g55_l1_ok (k : Nat)   (a0 : (List Nat))  : ∀ (n : Nat) (y1_0 : Int) (y1_1 : Int), Ok Xg55 g55p3 [(0, .str a0), (3, .i y1_0), (4, .i y1_1)] (mkH []) (g55_l1 k a0 n y1_0 y1_1) := by
 intro n
 induction n with
 | zero => intro y1_0 y1_1; exact ok_none
 | succ n ih =>
  intro y1_0 y1_1
  show Ok _ _ _ _ (g55_l1B k a0 (g55_l1 k a0 n) y1_0 y1_1)
  unfold g55_l1B
  refine ok_ent (p' := nav [0] g55p3) (by kernel_rfl) ?_
  let E1 : Env := [(10, .bool (decide (y1_1 < (a0.length : Int)))), (9, .i (a0.length : Int)), (8, .str a0), (7, .i y1_1), (0, .str a0), (3, .i y1_0), (4, .i y1_1)]
  refine oH 8 g55p5 E1 (mkH []) ?_
  refine oS 10 (fun hb => ?_) (fun hb => ?_)
  ·refine oR 8 (atN 2 (ctl1 g55p6)) ((15, .i y1_1) :: (14, .str a0) :: (10, .bool true) :: E1) ?_
   refine oA (fun (x0_2 : (Int × Int)) => .tuple [.i x0_2.1, .i x0_2.2]) (atN 3 (ctl1 g55p6)) 16 [.str a0, .i y1_1] (g78_ok k a0 y1_1) fun x0_2 hx0_2 => ?_
   refine oL 6 g55p8 [(0, .str a0), (3, .i y1_0), (4, .i y1_1), (6, .i x0_2.2)] ?_
   refine oL 11 g55p3 [(0, .str a0), (3, .i (fW .i64 (y1_0 + 1))), (4, .i (fW .i64 (y1_1 + x0_2.2)))] ?_
   exact ih (fW .i64 (y1_0 + 1)) (fW .i64 (y1_1 + x0_2.2))
  ·exact oQ 8
def g55 (k : Nat) (a0 : (List Nat)) : Option Int :=
 g55_l1 k a0 k 0 0
theorem g55_ok (k : Nat) (a0 : (List Nat)) (r : Int) (h : g55 k a0 = some r) : PureOk Try.prog 55 [.str a0] (.i r) := by
 refine pure_of Xg55 (fun _ => ⟨rfl, rfl⟩) Try.func55 (by decide +kernel) (by kernel_rfl) (t := g55 k a0) ?_ h
 unfold g55
 refine oE (eE := [(0, .str a0)]) (by kernel_rfl) ?_
 refine oLH 15 g55p3 [(0, .str a0), (3, .i 0), (4, .i 0)] (mkH []) ?_
 exact (g55_l1_ok k a0 k) 0 0
end
end Go.Proofs.Ytabhkocokojddaa.Am
set_option maxRecDepth 100000
set_option linter.unusedVariables false
namespace Go.Proofs.Ytabhkocokojddaa.Am
noncomputable section
open Go
def Xg22 : Fx Int := ⟨Try.prog, cx, Try.f22, fun r => .i r, 0, fun _ => H0, cxTi, cxOrd, fun _ => none, false⟩
def g22p0 : Pt := nav [0] (bodyAt Try.f22)
def g22p1 : Pt := nav [0, 0, 0] g22p0
def g22p2 : Pt := nav [0, 0, 0] g22p1
def g22 (k : Nat) (a0 : (List Nat)) (a1 : Int) : Option Int :=
 (g51 k a0 a1).bind fun x0_2 => (g19 k a0).bind fun x1_2 => (g18 k a0 x0_2).bind fun x1_5 => (nthL x1_2 (fW .i64 (x1_5 - 1))).bind fun x1_7 => (subL a0 (some x1_7) (some x0_2)).bind fun x1_10 => (g55 k x1_10).bind fun x1_11 => some x1_11
theorem g22_ok (k : Nat) (a0 : (List Nat)) (a1 : Int) (r : Int) (h : g22 k a0 a1 = some r) : PureOk Try.prog 22 [.str a0, .i a1] (.i r) := by
 refine pure_of Xg22 (fun _ => ⟨rfl, rfl⟩) Try.func22 (by decide +kernel) (by kernel_rfl) (t := g22 k a0 a1) ?_ h
 unfold g22
 refine oE (eE := [(0, .str a0), (1, .i a1)]) (by kernel_rfl) ?_
 let E1 : Env := [(6, .i a1), (5, .str a0), (4, .i 0), (0, .str a0), (1, .i a1)]
 refine oH 8 (atN 2 (ctl1 g22p1)) E1 (mkH []) ?_
 refine oA (fun (x0_2 : Int) => .i x0_2) (atN 3 (ctl1 g22p1)) 7 [.str a0, .i a1] (g51_ok k a0 a1) fun x0_2 hx0_2 => ?_
 refine oR 6 (atN 2 (ctl1 g22p2)) ((9, .str a0) :: (8, .str a0) :: (1, .i x0_2) :: (7, .i x0_2) :: E1) ?_
 refine oA (fun (x1_2 : (List Int)) => w3 x1_2) (atN 3 (ctl1 g22p2)) 10 [.str a0] (g19_ok k a0) fun x1_2 hx1_2 => ?_
 let E2 : Env := ((12, .i x0_2) :: (11, .str a0) :: (10, w3 x1_2) :: (9, .str a0) :: (8, .str a0) :: (1, .i x0_2) :: (7, .i x0_2) :: E1)
 refine oR 2 (atN 5 (ctl1 g22p2)) E2 ?_
 refine oA (fun (x1_5 : Int) => .i x1_5) (atN 6 (ctl1 g22p2)) 13 [.str a0, .i x0_2] (g18_ok k a0 x0_2) fun x1_5 hx1_5 => ?_
 refine oR 1 (atN 7 (ctl1 g22p2)) ((14, .i (fW .i64 (x1_5 - 1))) :: (13, .i x1_5) :: E2) ?_
 refine oC (fun (x1_7 : Int) => (.vptr [.i x1_7], (mkH []))) (atN 8 (ctl1 g22p2)) 15 (vidxH (sz := 1) e3_len (by kernel_rfl)) fun x1_7 hx1_7 => ?_
 refine oH 2 (atN 10 (ctl1 g22p2)) ((17, .i x0_2) :: (16, .i x1_7) :: (15, .vptr [.i x1_7]) :: (14, .i (fW .i64 (x1_5 - 1))) :: (13, .i x1_5) :: E2) (mkH []) ?_
 refine oC (fun (x1_10 : (List Nat)) => (.str x1_10, (mkH []))) (atN 11 (ctl1 g22p2)) 18 (subH (some x1_7) (some x0_2) (by kernel_rfl)) fun x1_10 hx1_10 => ?_
 refine oA (fun (x1_11 : Int) => .i x1_11) (atN 12 (ctl1 g22p2)) 19 [.str x1_10] (g55_ok k x1_10) fun x1_11 hx1_11 => ?_
 exact oQ 3
end
end Go.Proofs.Ytabhkocokojddaa.Am
set_option maxRecDepth 100000
set_option linter.unusedVariables false
namespace Go.Proofs.Ytabhkocokojddaa.Am
noncomputable section
open Go
def Xg15 : Fx Bool := ⟨Try.prog, cx, Try.f15, fun r => .bool r, 0, fun _ => H0, cxTi, cxOrd, fun _ => none, false⟩
def g15p0 : Pt := nav [0] (bodyAt Try.f15)
def g15p1 : Pt := nav [0, 0, 0] g15p0
def g15p2 : Pt := nav [0, 0, 0] g15p1
def g15p3 : Pt := nav [0, 0, 0] g15p2
def g15p4 : Pt := nav [0, 0, 0] g15p3
def g15 (k : Nat)  : Option Bool :=
 (g19 k ([97, 10, 98, 10] : List Nat)).bind fun x0_0 => (g17 k ([97, 10, 98] : List Nat) (2 : Int)).bind fun x1_0 => (g17 k ([97] : List Nat) (2 : Int)).bind fun x2_0 => if (decide ((x0_0.length : Int) = 3)) then ((nthL x0_0 1).bind fun x3_5 => if (decide (x3_5 = 2)) then ((nthL x0_0 2).bind fun x3_11 => if (decide (x3_11 = 4)) then ((g18 k ([97, 10, 98] : List Nat) (2 : Int)).bind fun x3_16 => if (decide (x3_16 = 2)) then ((g22 k ([97, 10, 195, 169, 98] : List Nat) (4 : Int)).bind fun x3_20 => if (decide (x3_20 = 1)) then (if (decide (x1_0.2 = 0)) then (if (decide (x1_0.1 = 2)) then (if (decide (x2_0.2 = 6)) then ((g16 k ([97, 10, 10] : List Nat)).bind fun x3_36 => some (decide (x3_36 = 2))) else (some false)) else (some false)) else (some false)) else (some false)) else (some false)) else (some false)) else (some false)) else (some false)
theorem g15_ok (k : Nat)  (r : Bool) (h : g15 k  = some r) : PureOk Try.prog 15 [] (.bool r) := by
 refine pure_of Xg15 (fun _ => ⟨rfl, rfl⟩) Try.func15 (by decide +kernel) (by kernel_rfl) (t := g15 k ) ?_ h
 unfold g15
 refine oE (eE := []) (by kernel_rfl) ?_
 refine oH 6 (atN 0 (ctl1 g15p1)) [(0, .bool false)] (mkH []) ?_
 refine oA (fun (x0_0 : (List Int)) => w3 x0_0) (atN 1 (ctl1 g15p1)) 6 [.str [97, 10, 98, 10]] (g19_ok k ([97, 10, 98, 10] : List Nat)) fun x0_0 hx0_0 => ?_
 refine oR 4 (atN 0 (ctl1 g15p2)) [(1, w3 x0_0), (6, w3 x0_0), (0, .bool false)] ?_
 refine oA (fun (x1_0 : (Int × Int)) => .tuple [.i x1_0.1, .i x1_0.2]) (atN 1 (ctl1 g15p2)) 8 [.str [97, 10, 98], .i 2] (g17_ok k ([97, 10, 98] : List Nat) (2 : Int)) fun x1_0 hx1_0 => ?_
 refine oR 8 (atN 0 (ctl1 g15p3)) [(3, .i x1_0.2), (2, .i x1_0.1), (10, .i x1_0.2), (9, .i x1_0.1), (7, .tuple [.i x1_0.1, .i x1_0.2]), (8, .tuple [.i x1_0.1, .i x1_0.2]), (1, w3 x0_0), (6, w3 x0_0), (0, .bool false)] ?_
 refine oA (fun (x2_0 : (Int × Int)) => .tuple [.i x2_0.1, .i x2_0.2]) (atN 1 (ctl1 g15p3)) 12 [.str [97], .i 2] (g17_ok k ([97] : List Nat) (2 : Int)) fun x2_0 hx2_0 => ?_
 let E3 : Env := [(1, w3 x0_0), (2, .i x1_0.1), (3, .i x1_0.2), (5, .i x2_0.2)]
 refine oL 7 g15p4 E3 ?_
 refine oR 5 (atN 4 (ctl1 g15p4)) ((18, .bool (decide ((x0_0.length : Int) = 3))) :: (17, .bool (decide ((x0_0.length : Int) = 3))) :: (16, .i (x0_0.length : Int)) :: (15, w3 x0_0) :: E3) ?_
 refine oS 18 (fun hb => ?_) (fun hb => ?_)
 ·let E4 : Env := ((19, w3 x0_0) :: (18, .bool true) :: (18, .bool (decide ((x0_0.length : Int) = 3))) :: (17, .bool (decide ((x0_0.length : Int) = 3))) :: (16, .i (x0_0.length : Int)) :: (15, w3 x0_0) :: E3)
  refine oR 1 (atN 5 (ctl1 g15p4)) E4 ?_
  refine oC (fun (x3_5 : Int) => (.vptr [.i x3_5], (mkH []))) (atN 6 (ctl1 g15p4)) 20 (vidxH (sz := 1) e3_len (by kernel_rfl)) fun x3_5 hx3_5 => ?_
  let E5 : Env := ((24, .bool (decide (x3_5 = 2))) :: (23, .bool (decide (x3_5 = 2))) :: (22, .bool (decide (x3_5 = 2))) :: (21, .i x3_5) :: (20, .vptr [.i x3_5]) :: E4)
  refine oH 4 (atN 10 (ctl1 g15p4)) E5 (mkH []) ?_
  refine oS 24 (fun hb => ?_) (fun hb => ?_)
  ·refine oR 1 (atN 11 (ctl1 g15p4)) ((25, w3 x0_0) :: (24, .bool true) :: E5) ?_
   refine oC (fun (x3_11 : Int) => (.vptr [.i x3_11], (mkH []))) (atN 12 (ctl1 g15p4)) 26 (vidxH (sz := 1) e3_len (by kernel_rfl)) fun x3_11 hx3_11 => ?_
   let E6 : Env := ((30, .bool (decide (x3_11 = 4))) :: (29, .bool (decide (x3_11 = 4))) :: (28, .bool (decide (x3_11 = 4))) :: (27, .i x3_11) :: (26, .vptr [.i x3_11]) :: (25, w3 x0_0) :: (24, .bool true) :: E5)
   refine oH 4 (atN 16 (ctl1 g15p4)) E6 (mkH []) ?_
   refine oS 30 (fun hb => ?_) (fun hb => ?_)
   ·refine oA (fun (x3_16 : Int) => .i x3_16) (atN 17 (ctl1 g15p4)) 31 [.str [97, 10, 98], .i 2] (g18_ok k ([97, 10, 98] : List Nat) (2 : Int)) fun x3_16 hx3_16 => ?_
    let E7 : Env := ((34, .bool (decide (x3_16 = 2))) :: (33, .bool (decide (x3_16 = 2))) :: (32, .bool (decide (x3_16 = 2))) :: (31, .i x3_16) :: (30, .bool true) :: E6)
    refine oR 3 (atN 20 (ctl1 g15p4)) E7 ?_
    refine oS 34 (fun hb => ?_) (fun hb => ?_)
    ·refine oA (fun (x3_20 : Int) => .i x3_20) (atN 21 (ctl1 g15p4)) 35 [.str [97, 10, 195, 169, 98], .i 4] (g22_ok k ([97, 10, 195, 169, 98] : List Nat) (4 : Int)) fun x3_20 hx3_20 => ?_
     let E8 : Env := ((38, .bool (decide (x3_20 = 1))) :: (37, .bool (decide (x3_20 = 1))) :: (36, .bool (decide (x3_20 = 1))) :: (35, .i x3_20) :: (34, .bool true) :: E7)
     refine oR 3 (atN 24 (ctl1 g15p4)) E8 ?_
     refine oS 38 (fun hb => ?_) (fun hb => ?_)
     ·let E9 : Env := ((42, .bool (decide (x1_0.2 = 0))) :: (41, .bool (decide (x1_0.2 = 0))) :: (40, .bool (decide (x1_0.2 = 0))) :: (39, .i x1_0.2) :: (38, .bool true) :: E8)
      refine oR 4 (atN 28 (ctl1 g15p4)) E9 ?_
      refine oS 42 (fun hb => ?_) (fun hb => ?_)
      ·let E10 : Env := ((46, .bool (decide (x1_0.1 = 2))) :: (45, .bool (decide (x1_0.1 = 2))) :: (44, .bool (decide (x1_0.1 = 2))) :: (43, .i x1_0.1) :: (42, .bool true) :: E9)
       refine oR 4 (atN 32 (ctl1 g15p4)) E10 ?_
       refine oS 46 (fun hb => ?_) (fun hb => ?_)
       ·refine oR 4 (atN 36 (ctl1 g15p4)) ((50, .bool (decide (x2_0.2 = 6))) :: (49, .bool (decide (x2_0.2 = 6))) :: (48, .bool (decide (x2_0.2 = 6))) :: (47, .i x2_0.2) :: (46, .bool true) :: E10) ?_
        refine oS 50 (fun hb => ?_) (fun hb => ?_)
        ·refine oA (fun (x3_36 : Int) => .i x3_36) (atN 37 (ctl1 g15p4)) 51 [.str [97, 10, 10]] (g16_ok k ([97, 10, 10] : List Nat)) fun x3_36 hx3_36 => ?_
         exact oQ 5
        ·exact oQ 6
       ·exact oQ 10
      ·exact oQ 14
     ·exact oQ 18
    ·exact oQ 22
   ·exact oQ 26
  ·exact oQ 32
 ·exact oQ 38
end
end Go.Proofs.Ytabhkocokojddaa.Am
set_option maxRecDepth 100000
set_option linter.unusedVariables false
namespace Go.Proofs.Ytabhkocokojddaa.Am
noncomputable section
open Go
def g3 (k : Nat) (a0 : (List Nat)) (a1 : Int) : Option Bool :=
 if (decide (300 < (a0.length : Int))) then ((g15 k).bind fun x0_0 => some x0_0) else ((g16 k a0).bind fun x1_1 => (remS (fW .u64 a1) (fW .u64 (fW .i64 (x1_1 + 1)))).bind fun x2_4 => (g17 k a0 (fW .i64 (1 + fW .i64 x2_4))).bind fun x3_2 => (g17 k a0 (fW .i64 (fW .i64 (x1_1 + 1) + 1))).bind fun x4_3 => (g17 k a0 (0 : Int)).bind fun x5_1 => (g17 k a0 (fW .i64 (0 - (fW .i64 (1 + fW .i64 x2_4))))).bind fun x6_3 => jn (fun (z10 : Bool) => if z10 then (some false) else ((g17 k a0 (fW .i64 (fW .i64 (1 + fW .i64 x2_4) - 1))).bind fun x8_3 => (g15 k).bind fun x9_0 => if x9_0 then (if (decide (fW .i64 (1 + fW .i64 x2_4) = 1)) then (some true) else (if (decide (x8_3.2 = 0)) then (if (decide (x8_3.1 < x3_2.1)) then ((nthS a0 (fW .i64 (x3_2.1 - 1))).bind fun x9_16 => some (decide (x9_16 = 10))) else (some false)) else (some false))) else (some false))) (fun j10 => if (!decide (x3_2.2 = 0)) then (j10 true) else (if (!decide (x4_3.2 = 6)) then (j10 true) else (if (!decide (x5_1.2 = 6)) then (j10 true) else (if (!decide (x6_3.2 = 6)) then (j10 true) else (if (!decide (x4_3.1 = 0)) then (j10 true) else ((g18 k a0 x3_2.1).bind fun x7_21 => j10 (!decide (x7_21 = fW .i64 (1 + fW .i64 x2_4))))))))))
end
end Go.Proofs.Ytabhkocokojddaa.Am
set_option linter.unusedVariables false
set_option linter.unusedSimpArgs false
namespace Go.Proofs.Ytabhkocokojddaa.Am
open Go
theorem told2 (k : Nat) : g15 (k + 60) = some true := by kernel_rfl
theorem lns_back {s : List Nat} {j : Nat} {x : Int} (h : (lns s)[j]? = some x) : ∃ p : Nat, x = (p : Int) ∧ p ≤ s.length ∧ (s.take p).count 10 = j ∧ (j = 0 ∧ p = 0 ∨ ∃ q, p = q + 1 ∧ s[q]? = some 10) := by
 cases j with
 | zero =>
  simp only [lns, List.getElem?_cons_zero, Option.some.injEq] at h
  exact ⟨0, by omega, by omega, by simp, .inl ⟨rfl, rfl⟩⟩
 | succ j =>
  simp only [lns, List.getElem?_cons_succ] at h
  obtain ⟨p, h1, h2, h3⟩ := ln_back s 0 j x h
  have := (List.getElem?_eq_some_iff.1 h2).1
  exact ⟨p + 1, by omega, by omega, h3, .inr ⟨p, rfl, h2⟩⟩
theorem lns_get {s : List Nat} {j : Nat} (h : j < s.count 10 + 1) : ∃ x, (lns s)[j]? = some x := ⟨_, List.getElem?_eq_getElem (by rw [lns_len]; exact h)⟩
end Go.Proofs.Ytabhkocokojddaa.Am
set_option linter.unusedVariables false
set_option linter.unusedSimpArgs false
namespace Go.Proofs.Ytabhkocokojddaa.Am
open Go
theorem take_suc {s : List Nat} {i b : Nat} (h : s[i]? = some b) : (s.take (i + 1)).count 10 = (s.take i).count 10 + if b = 10 then 1 else 0 := by
 rw [List.take_add_one, h, Option.toList_some, List.count_append]
 congr 1
 by_cases hb : b = 10
 ·subst hb; rfl
 ·rw [if_neg hb, List.count_cons_of_ne hb]; rfl
end Go.Proofs.Ytabhkocokojddaa.Am
set_option maxRecDepth 100000
set_option linter.unusedVariables false
namespace Go.Proofs.Ytabhkocokojddaa.Am
noncomputable section
open Go
def g82 (k : Nat) (a0 : Int) : Option Bool :=
 if (decide (0 ≤ a0)) then (if (decide (a0 ≤ 1114111)) then (if (decide (a0 < 55296)) then (some true) else (some (decide (57343 < a0)))) else (some false)) else (some false)
end
end Go.Proofs.Ytabhkocokojddaa.Am
set_option maxRecDepth 100000
set_option linter.unusedVariables false
namespace Go.Proofs.Ytabhkocokojddaa.Am
noncomputable section
open Go
def g72_l9B (k : Nat)  (a0 : (List Nat)) (a1 : Int) (z6 : Int × Int × Int) (ih : Int → Int → Option (Int × Int)) : Int → Int → Option (Int × Int) :=
 fun (y9_0 : Int) (y9_1 : Int) => if (decide (y9_1 < z6.2.1)) then ((nthS a0 (fW .i64 (a1 + y9_1))).bind fun x1_4 => if (!decide (andI .u8 x1_4 192 = 128)) then (some (((-1) : Int), (1 : Int))) else ((nthS a0 (fW .i64 (a1 + y9_1))).bind fun x2_6 => ih (fW .i64 (fW .i64 (y9_0 * 64) + fW .i64 (andI .u8 x2_6 63))) (fW .i64 (y9_1 + 1)))) else (jn (fun (z10 : Bool × Int) => if z10.1 then (some (((-1) : Int), (1 : Int))) else (some (z10.2, z6.2.1))) (fun j10 => if (decide (y9_0 < z6.2.2)) then (j10 (true, y9_0)) else ((g82 k y9_0).bind fun x3_5 => j10 (!x3_5, y9_0))))
def g72_l9 (k : Nat)  (a0 : (List Nat)) (a1 : Int) (z6 : Int × Int × Int) (n : Nat) : Int → Int → Option (Int × Int) := lp (fun _ _ => none) (g72_l9B k a0 a1 z6) n
theorem g72_l9_s (k : Nat)  (a0 : (List Nat)) (a1 : Int) (z6 : Int × Int × Int) (n : Nat) (y9_0 : Int) (y9_1 : Int) : g72_l9 k a0 a1 z6 (n + 1) y9_0 y9_1 = (if (decide (y9_1 < z6.2.1)) then ((nthS a0 (fW .i64 (a1 + y9_1))).bind fun x1_4 => if (!decide (andI .u8 x1_4 192 = 128)) then (some (((-1) : Int), (1 : Int))) else ((nthS a0 (fW .i64 (a1 + y9_1))).bind fun x2_6 => (g72_l9 k a0 a1 z6 n) (fW .i64 (fW .i64 (y9_0 * 64) + fW .i64 (andI .u8 x2_6 63))) (fW .i64 (y9_1 + 1)))) else (jn (fun (z10 : Bool × Int) => if z10.1 then (some (((-1) : Int), (1 : Int))) else (some (z10.2, z6.2.1))) (fun j10 => if (decide (y9_0 < z6.2.2)) then (j10 (true, y9_0)) else ((g82 k y9_0).bind fun x3_5 => j10 (!x3_5, y9_0))))) := rfl
def g72 (k : Nat) (a0 : (List Nat)) (a1 : Int) : Option (Int × Int) :=
 jn (fun (z4 : Bool) => if z4 then (some ((0 : Int), (0 : Int))) else ((nthS a0 a1).bind fun x0_2 => if (decide (fW .i64 x0_2 < 128)) then (some (fW .i64 x0_2, (1 : Int))) else (jn (fun (z5 : Bool) => jn (fun (z6 : Int × Int × Int) => if (decide (fW .i64 ((a0.length : Int) - a1) < z6.2.1)) then (some (((-1) : Int), (1 : Int))) else (g72_l9 k a0 a1 z6 k z6.1 1)) (fun j6 => if z5 then (j6 (andI .i64 (fW .i64 x0_2) 31, 2, 128)) else (jn (fun (z7 : Bool) => if z7 then (j6 (andI .i64 (fW .i64 x0_2) 15, 3, 2048)) else (jn (fun (z8 : Bool) => if z8 then (j6 (andI .i64 (fW .i64 x0_2) 7, 4, 65536)) else (some (((-1) : Int), (1 : Int)))) (fun j8 => if (decide (240 ≤ fW .i64 x0_2)) then (j8 (decide (fW .i64 x0_2 < 248))) else (j8 false)))) (fun j7 => if (decide (224 ≤ fW .i64 x0_2)) then (j7 (decide (fW .i64 x0_2 < 240))) else (j7 false))))) (fun j5 => if (decide (192 ≤ fW .i64 x0_2)) then (j5 (decide (fW .i64 x0_2 < 224))) else (j5 false))))) (fun j4 => if (decide (a1 < 0)) then (j4 true) else (j4 (decide ((a0.length : Int) ≤ a1))))
end
end Go.Proofs.Ytabhkocokojddaa.Am
set_option maxRecDepth 100000
set_option linter.unusedVariables false
namespace Go.Proofs.Ytabhkocokojddaa.Am
open Go
theorem nthS_at {s : List Nat} {i b : Nat} {r : List Nat} (h : s.drop i = b :: r) : nthS s (i : Int) = some (b : Int) := by
 have e : s[i]? = some b := by
  have := List.getElem?_drop (xs := s) (i := i) (j := 0)
  rw [h] at this
  simpa using this.symm
 unfold nthS
 rw [if_pos (by omega)]
 simp [e]
theorem drop_cons {s : List Nat} {i : Nat} (h : i < s.length) : ∃ b r, s.drop i = b :: r ∧ s.drop (i + 1) = r ∧ b ∈ s := by
 refine ⟨s[i], s.drop (i + 1), ?_, rfl, List.getElem_mem h⟩
 exact List.drop_eq_getElem_cons h
def byteOk (b : Nat) : Bool := decide (andI .u8 (b : Int) 63 = ((b % 64 : Nat) : Int)) && decide (andI .u8 (b : Int) 31 = ((b % 32 : Nat) : Int)) && decide (andI .u8 (b : Int) 15 = ((b % 16 : Nat) : Int)) && decide (andI .u8 (b : Int) 7 = ((b % 8 : Nat) : Int)) && (decide (andI .u8 (b : Int) 192 = 128) == decide (b / 64 = 2))
theorem byteOk_all : ((List.range 256).all byteOk) = true := by decide +kernel
theorem byte_ok {b : Nat} (h : b < 256) : andI .u8 (b : Int) 63 = ((b % 64 : Nat) : Int) ∧ andI .u8 (b : Int) 31 = ((b % 32 : Nat) : Int) ∧ andI .u8 (b : Int) 15 = ((b % 16 : Nat) : Int) ∧ andI .u8 (b : Int) 7 = ((b % 8 : Nat) : Int) ∧ (andI .u8 (b : Int) 192 = 128 ↔ b / 64 = 2) := by
 have w := List.all_eq_true.1 byteOk_all b (List.mem_range.2 h)
 simp only [byteOk, Bool.and_eq_true, decide_eq_true_eq, beq_iff_eq] at w
 obtain ⟨⟨⟨⟨w1, w2⟩, w3⟩, w4⟩, w5⟩ := w
 refine ⟨w1, w2, w3, w4, ?_⟩
 constructor
 ·intro h
  rw [decide_eq_true h] at w5
  exact of_decide_eq_true w5.symm
 ·intro h
  rw [decide_eq_true h] at w5
  exact of_decide_eq_true w5
theorem shrC_nat (x : Nat) (n : Nat) : shrC (x : Int) n = ((x / 2 ^ n : Nat) : Int) := by
 unfold shrC
 rw [Int.fdiv_eq_ediv_of_nonneg _ (by exact Int.le_of_lt (Int.pow_pos (by decide)))]
 push_cast
 rfl
theorem fwn (x : Nat) (h : x ≤ 9223372036854775807) : fW .i64 (x : Int) = x := fw64 _ (by omega) (by omega)
theorem or_add (y m : Nat) (hy : y < 1125899906842624) (hm : m < 64) : orI .i64 (shlC .i64 (y : Int) 6) (m : Int) = ((y * 64 + m : Nat) : Int) := by
 have e1 : shlC .i64 (y : Int) 6 = ((y * 64 : Nat) : Int) := by
  unfold shlC
  have : (y : Int) * 2 ^ 6 = ((y * 64 : Nat) : Int) := by push_cast; omega
  rw [this, fwn _ (by omega)]
 rw [e1]
 unfold orI
 have e2 : ∀ x : Nat, x < 2 ^ 63 → (BitVec.ofInt IntKind.i64.bits (x : Int)).toNat = x := by
  intro x hx
  show (BitVec.ofInt 64 (x : Int)).toNat = x
  rw [BitVec.toNat_ofInt]
  omega
 rw [BitVec.toNat_or, e2 _ (by omega), e2 _ (by omega)]
 have e3 : y * 64 ||| m = y * 64 + m := by
  have h := Nat.two_pow_add_eq_or_of_lt (i := 6) hm y
  rw [Nat.mul_comm y 64]
  exact h.symm
 rw [e3, fwn _ (by omega)]
def leadN (c : Nat) : Nat × Nat := if c < 128 then (1, c) else if c / 32 = 6 then (2, c % 32) else if c / 16 = 14 then (3, c % 16) else if c / 8 = 30 then (4, c % 8) else (0, 0)
def moreN : Nat → Nat → List Nat → Option Nat
 | 0, c, _ => some c
 | _ + 1, _, [] => none
 | n + 1, c, b :: r => if b / 64 = 2 then moreN n (c * 64 + b % 64) r else none
def leastN (n : Nat) : Nat := if n = 2 then 128 else if n = 3 then 2048 else if n = 4 then 65536 else 0
def cpN (c : Nat) : Bool := decide (c ≤ 1114111) && !(decide (55296 ≤ c) && decide (c ≤ 57343))
def fitN (n : Nat) : Option Nat → Int × Int
 | none => (-1, 1)
 | some y => if leastN n ≤ y ∧ cpN y = true then ((y : Int), (n : Int)) else (-1, 1)
def dec : List Nat → Int × Int
 | [] => (0, 0)
 | c :: r => if (leadN c).1 = 0 then (-1, 1) else fitN (leadN c).1 (moreN ((leadN c).1 - 1) (leadN c).2 r)
theorem moreN_none : ∀ (n c : Nat) (r : List Nat), r.length < n → moreN n c r = none
 | 0, c, r, h => by omega
 | n + 1, c, [], h => rfl
 | n + 1, c, b :: r, h => by
  unfold moreN
  split
  ·exact moreN_none n _ r (by simp at h; omega)
  ·rfl
theorem lead_at {k c : Nat} (h : c < 256) : g91 k (c : Int) = some (((leadN c).1 : Int), ((leadN c).2 : Int)) := by
 obtain ⟨-, b31, b15, b7, -⟩ := byte_ok h
 unfold g91 leadN
 simp only [shrC_nat, b31, b15, b7]
 have p5 : (2 : Nat) ^ 5 = 32 := rfl
 have p4 : (2 : Nat) ^ 4 = 16 := rfl
 have p3 : (2 : Nat) ^ 3 = 8 := rfl
 rw [p5, p4, p3]
 repeat' split
 all_goals first | (simp only [decide_eq_true_eq] at *; omega) | (simp only []; rw [fwn _ (by omega)]; try rfl) | rfl
theorem cp_at {k c : Nat} : g93 k (c : Int) = some (cpN c) := by
 unfold g93 cpN
 simp only [shrC_nat]
 have p : (2 : Nat) ^ 11 = 2048 := rfl
 rw [p]
 by_cases h1 : c ≤ 1114111
 ·have e1 : decide ((0 : Int) ≤ (c : Int)) = true := by simp
  have e2 : decide ((c : Int) ≤ 1114111) = true := by simp; omega
  have e3 : decide (((c / 2048 : Nat) : Int) = 27) = (decide (55296 ≤ c) && decide (c ≤ 57343)) := by
   rw [Bool.eq_iff_iff]; simp; omega
  rw [e1, e2, e3, decide_eq_true h1]
  rfl
 ·have e2 : decide ((c : Int) ≤ 1114111) = false := by simp; omega
  simp [e2, h1]
theorem point_at {k c : Nat} : g82 k (c : Int) = some (cpN c) := by
 unfold g82 cpN
 by_cases h1 : c ≤ 1114111
 ·by_cases h2 : c < 55296
  ·have : ¬ 55296 ≤ c := by omega
   have e2 : decide ((c : Int) ≤ 1114111) = true := by simp; omega
   have e3 : decide ((c : Int) < 55296) = true := by simp; omega
   simp [e2, e3, h1, this]
  ·have : 55296 ≤ c := by omega
   have e2 : decide ((c : Int) ≤ 1114111) = true := by simp; omega
   have e3 : decide ((c : Int) < 55296) = false := by simp; omega
   simp [e2, e3, h1, this]
   rw [Bool.eq_iff_iff]; simp; omega
 ·have e2 : decide ((c : Int) ≤ 1114111) = false := by simp; omega
  simp [e2, h1]
theorem least_at {k n : Nat} (h : n ≤ 4) : g92 k (n : Int) = some ((leastN n : Nat) : Int) := by
 have : n = 0 ∨ n = 1 ∨ n = 2 ∨ n = 3 ∨ n = 4 := by omega
 obtain rfl | rfl | rfl | rfl | rfl := this <;> rfl
end Go.Proofs.Ytabhkocokojddaa.Am
set_option maxRecDepth 100000
set_option linter.unusedVariables false
set_option linter.unusedSimpArgs false
namespace Go.Proofs.Ytabhkocokojddaa.Am
open Go
theorem pow64_le {i : Nat} (h : i ≤ 3) : 64 ^ i ≤ 262144 := by
 have : i = 0 ∨ i = 1 ∨ i = 2 ∨ i = 3 := by omega
 obtain rfl | rfl | rfl | rfl := this <;> decide
theorem pow64_step {y i b : Nat} (h : y < 64 ^ i) : y * 64 + b % 64 < 64 ^ (i + 1) := by
 rw [Nat.pow_succ]
 have := Nat.mod_lt b (by decide : 0 < 64)
 generalize 64 ^ i = P at h ⊢
 omega
theorem next_l (k : Nat) (s : List Nat) (hs : ∀ b ∈ s, b < 256) (hl : s.length ≤ 140737488351232) (at' n q : Nat) (hn : n ≤ 4) (hat : at' + n ≤ s.length) : ∀ (d m i y : Nat), i + d = n → 1 ≤ i → y < 64 ^ i →
 g78_l5 k s (at' : Int) ((n : Int), (q : Int)) (d + 1 + m) (y : Int) (i : Int) = some (fitN n (moreN d y (s.drop (at' + i))))
 | 0, m, i, y, hi, h1, hy => by
  rw [show 0 + 1 + m = m + 1 from by omega, g78_l5_s]
  have e1 : decide ((i : Int) < (n : Int)) = false := by simp; omega
  simp only [e1, least_at hn, cp_at, moreN, fitN, Option.bind_some, jn]
  by_cases h : leastN n ≤ y
  ·have e2 : decide ((y : Int) < ((leastN n : Nat) : Int)) = false := by simp; omega
   cases hc : cpN y <;> simp [e2, h, hc]
  ·have e2 : decide ((y : Int) < ((leastN n : Nat) : Int)) = true := by simp; omega
   simp [e2, h]
 | d + 1, m, i, y, hi, h1, hy => by
  rw [show d + 1 + 1 + m = (d + 1 + m) + 1 from by omega, g78_l5_s]
  have e1 : decide ((i : Int) < (n : Int)) = true := by simp; omega
  obtain ⟨b, r, hb, hr, hm⟩ := drop_cons (s := s) (i := at' + i) (by omega)
  have e2 : fW .i64 ((at' : Int) + (i : Int)) = ((at' + i : Nat) : Int) := by
   have : (at' : Int) + (i : Int) = ((at' + i : Nat) : Int) := by push_cast; rfl
   rw [this, fwn _ (by omega)]
  obtain ⟨b63, -, -, -, -⟩ := byte_ok (hs b hm)
  have hi4 : i ≤ 3 := by omega
  have a1 : i + 1 + d = n := by rw [← hi]; exact Nat.add_right_comm i 1 d
  have a2 : 1 ≤ i + 1 := Nat.le_add_left 1 i
  have a3 : y * 64 + b % 64 < 64 ^ (i + 1) := pow64_step hy
  have hp : 64 ^ i ≤ 262144 := pow64_le hi4
  have e3 : fW .i64 ((i : Int) + 1) = ((i + 1 : Nat) : Int) := by
   have : (i : Int) + 1 = ((i + 1 : Nat) : Int) := by push_cast; rfl
   rw [this, fwn _ (by omega)]
  have p6 : (2 : Nat) ^ 6 = 64 := rfl
  simp only [e1, e2, nthS_at hb, Option.bind_some, shrC_nat, p6, b63, if_true]
  by_cases h : b / 64 = 2
  ·have e4 : decide (((b / 64 : Nat) : Int) = 2) = true := by simp; omega
   have ih := next_l k s hs hl at' n q hn hat d m (i + 1) (y * 64 + b % 64) a1 a2 a3
   rw [e4, fwn _ (by omega : b % 64 ≤ 9223372036854775807), or_add _ _ (by omega) (by omega), e3, ih, hb, show at' + (i + 1) = at' + i + 1 from by omega, hr]
   simp [moreN, h]
  ·have e4 : decide (((b / 64 : Nat) : Int) = 2) = false := by simp; omega
   rw [e4, hb]
   simp [moreN, h, fitN]
theorem rnext_l (k : Nat) (s : List Nat) (hs : ∀ b ∈ s, b < 256) (hl : s.length ≤ 140737488351232) (at' n q : Nat) (hn : n ≤ 4) (hat : at' + n ≤ s.length) : ∀ (d m i y : Nat), i + d = n → 1 ≤ i → y < 64 ^ i →
 g72_l9 k s (at' : Int) ((q : Int), (n : Int), ((leastN n : Nat) : Int)) (d + 1 + m) (y : Int) (i : Int) = some (fitN n (moreN d y (s.drop (at' + i))))
 | 0, m, i, y, hi, h1, hy => by
  rw [show 0 + 1 + m = m + 1 from by omega, g72_l9_s]
  have e1 : decide ((i : Int) < (n : Int)) = false := by simp; omega
  simp only [e1, point_at, moreN, fitN, Option.bind_some, jn]
  by_cases h : leastN n ≤ y
  ·have e2 : decide ((y : Int) < ((leastN n : Nat) : Int)) = false := by simp; omega
   cases hc : cpN y <;> simp [e2, h, hc]
  ·have e2 : decide ((y : Int) < ((leastN n : Nat) : Int)) = true := by simp; omega
   simp [e2, h]
 | d + 1, m, i, y, hi, h1, hy => by
  rw [show d + 1 + 1 + m = (d + 1 + m) + 1 from by omega, g72_l9_s]
  have e1 : decide ((i : Int) < (n : Int)) = true := by simp; omega
  obtain ⟨b, r, hb, hr, hm⟩ := drop_cons (s := s) (i := at' + i) (by omega)
  have e2 : fW .i64 ((at' : Int) + (i : Int)) = ((at' + i : Nat) : Int) := by
   have : (at' : Int) + (i : Int) = ((at' + i : Nat) : Int) := by push_cast; rfl
   rw [this, fwn _ (by omega)]
  obtain ⟨b63, -, -, -, b192⟩ := byte_ok (hs b hm)
  have hi4 : i ≤ 3 := by omega
  have a1 : i + 1 + d = n := by rw [← hi]; exact Nat.add_right_comm i 1 d
  have a2 : 1 ≤ i + 1 := Nat.le_add_left 1 i
  have a3 : y * 64 + b % 64 < 64 ^ (i + 1) := pow64_step hy
  have hp : 64 ^ i ≤ 262144 := pow64_le hi4
  have e3 : fW .i64 ((i : Int) + 1) = ((i + 1 : Nat) : Int) := by
   have : (i : Int) + 1 = ((i + 1 : Nat) : Int) := by push_cast; rfl
   rw [this, fwn _ (by omega)]
  have e5 : fW .i64 (fW .i64 ((y : Int) * 64) + ((b % 64 : Nat) : Int)) = ((y * 64 + b % 64 : Nat) : Int) := by
   have : (y : Int) * 64 = ((y * 64 : Nat) : Int) := by push_cast; rfl
   rw [this, fwn _ (by omega)]
   have : ((y * 64 : Nat) : Int) + ((b % 64 : Nat) : Int) = ((y * 64 + b % 64 : Nat) : Int) := by push_cast; rfl
   rw [this, fwn _ (by omega)]
  simp only [e1, e2, nthS_at hb, Option.bind_some, b63, if_true]
  by_cases h : b / 64 = 2
  ·have e4 : decide (andI .u8 (b : Int) 192 = 128) = true := decide_eq_true (b192.2 h)
   have ih := rnext_l k s hs hl at' n q hn hat d m (i + 1) (y * 64 + b % 64) a1 a2 a3
   rw [e4, fwn _ (by omega : b % 64 ≤ 9223372036854775807), e5, e3, ih, hb, show at' + (i + 1) = at' + i + 1 from by omega, hr]
   simp [moreN, h]
  ·have e4 : decide (andI .u8 (b : Int) 192 = 128) = false := decide_eq_false (fun w => h (b192.1 w))
   rw [e4, hb]
   simp [moreN, h, fitN]
end Go.Proofs.Ytabhkocokojddaa.Am
set_option maxRecDepth 100000
set_option linter.unusedVariables false
namespace Go.Proofs.Ytabhkocokojddaa.Am
noncomputable section
open Go
def g35_l1B (k : Nat)  (a0 : (List Nat)) (ih : Int → Int → Option Int) : Int → Int → Option Int :=
 fun (y1_0 : Int) (y1_1 : Int) => if (decide (y1_1 < (a0.length : Int))) then ((g72 k a0 y1_1).bind fun x0_2 => ih (fW .i64 (y1_0 + 1)) (fW .i64 (y1_1 + x0_2.2))) else (some y1_0)
def g35_l1 (k : Nat)  (a0 : (List Nat)) (n : Nat) : Int → Int → Option Int := lp (fun _ _ => none) (g35_l1B k a0) n
theorem g35_l1_s (k : Nat)  (a0 : (List Nat)) (n : Nat) (y1_0 : Int) (y1_1 : Int) : g35_l1 k a0 (n + 1) y1_0 y1_1 = (if (decide (y1_1 < (a0.length : Int))) then ((g72 k a0 y1_1).bind fun x0_2 => (g35_l1 k a0 n) (fW .i64 (y1_0 + 1)) (fW .i64 (y1_1 + x0_2.2))) else (some y1_0)) := rfl
def g35 (k : Nat) (a0 : (List Nat)) : Option Int :=
 g35_l1 k a0 k 0 0
end
end Go.Proofs.Ytabhkocokojddaa.Am
set_option maxRecDepth 100000
set_option linter.unusedVariables false
set_option linter.unusedSimpArgs false
namespace Go.Proofs.Ytabhkocokojddaa.Am
open Go
theorem lead_le (c : Nat) : (leadN c).1 ≤ 4 := by
 unfold leadN; repeat' split
 all_goals simp
theorem lead_lt {c : Nat} (h : 2 ≤ (leadN c).1) : (leadN c).2 < 64 ^ 1 := by
 unfold leadN at *
 split at h
 ·simp at h
 ·rename_i h1
  rw [if_neg h1]
  repeat' split
  all_goals (simp only []; omega)
theorem next_at {k : Nat} (hk : 6 ≤ k) {s : List Nat} (hs : ∀ b ∈ s, b < 256) (hl : s.length ≤ 140737488351232) (i : Nat) : g78 k s (i : Int) = some (dec (s.drop i)) := by
 unfold g78
 have e0 : decide ((i : Int) < 0) = false := decide_eq_false (by omega)
 by_cases hi : i < s.length
 ·have e1 : decide ((s.length : Int) ≤ (i : Int)) = false := by simp; omega
  obtain ⟨c, r, hc, hr, hm⟩ := drop_cons hi
  have hc' := hs c hm
  have hrl : r.length + i + 1 = s.length := by rw [← hr, List.length_drop]; omega
  have e2 : fW .i64 ((s.length : Int) - (i : Int)) = ((r.length + 1 : Nat) : Int) := by
   have : (s.length : Int) - (i : Int) = ((r.length + 1 : Nat) : Int) := by omega
   rw [this, fwn _ (by omega)]
  simp only [e0, e1, nthS_at hc, lead_at hc', Option.bind_some, jn, e2, hc, dec]
  have l4 := lead_le c
  by_cases h0 : (leadN c).1 = 0
  ·simp [h0]
  ·have e3 : decide ((((leadN c).1 : Nat) : Int) = 0) = false := by simp; omega
   rw [if_neg h0, e3]
   by_cases h1 : r.length + 1 < (leadN c).1
   ·have e4 : decide (((r.length + 1 : Nat) : Int) < (((leadN c).1 : Nat) : Int)) = true := by simp only [decide_eq_true_eq]; omega
    rw [e4, moreN_none _ _ _ (by omega)]
    rfl
   ·have e4 : decide (((r.length + 1 : Nat) : Int) < (((leadN c).1 : Nat) : Int)) = false := by simp only [decide_eq_false_iff_not]; omega
    rw [e4]
    simp only [if_false, Bool.false_eq_true]
    by_cases h2 : (leadN c).1 = 1
    ·have w := next_l k s hs hl i 1 (leadN c).2 (by decide) (by omega) 0 (k - 1) 1
     obtain ⟨k', rfl⟩ : ∃ k', k = k' + 1 := ⟨k - 1, by omega⟩
     rw [h2, g78_l5_s]
     have e5 : decide ((1 : Int) < ((1 : Nat) : Int)) = false := by decide
     simp only [e5, least_at (by decide : 1 ≤ 4), cp_at, Option.bind_some, jn, moreN, fitN]
     have e6 : decide ((((leadN c).2 : Nat) : Int) < ((leastN 1 : Nat) : Int)) = false := by simp [leastN]
     rw [e6]
     have e7 : leastN 1 ≤ (leadN c).2 := by simp [leastN]
     cases hcp : cpN (leadN c).2 <;> simp [e7, moreN, hcp]
    ·have w := next_l k s hs hl i (leadN c).1 (leadN c).2 l4 (by omega) ((leadN c).1 - 1) (k - (leadN c).1) 1 (leadN c).2 (by omega) (by decide) (lead_lt (by omega))
     rw [show (leadN c).1 - 1 + 1 + (k - (leadN c).1) = k from by omega, hr] at w
     exact w
 ·have e1 : decide ((s.length : Int) ≤ (i : Int)) = true := by simp; omega
  rw [e0, e1, List.drop_eq_nil_of_le (by omega)]
  rfl
theorem rnext_at {k : Nat} (hk : 6 ≤ k) {s : List Nat} (hs : ∀ b ∈ s, b < 256) (hl : s.length ≤ 140737488351232) (i : Nat) : g72 k s (i : Int) = some (dec (s.drop i)) := by
 unfold g72
 have e0 : decide ((i : Int) < 0) = false := decide_eq_false (by omega)
 by_cases hi : i < s.length
 ·have e1 : decide ((s.length : Int) ≤ (i : Int)) = false := by simp; omega
  obtain ⟨c, r, hc, hr, hm⟩ := drop_cons hi
  have hc' := hs c hm
  have hrl : r.length + i + 1 = s.length := by rw [← hr, List.length_drop]; omega
  have e2 : fW .i64 ((s.length : Int) - (i : Int)) = ((r.length + 1 : Nat) : Int) := by
   have : (s.length : Int) - (i : Int) = ((r.length + 1 : Nat) : Int) := by omega
   rw [this, fwn _ (by omega)]
  have a31 : andI .i64 (c : Int) 31 = ((c % 32 : Nat) : Int) := by have := andI64 (c : Int) 5 (by decide); exact this
  have a15 : andI .i64 (c : Int) 15 = ((c % 16 : Nat) : Int) := by have := andI64 (c : Int) 4 (by decide); exact this
  have a7 : andI .i64 (c : Int) 7 = ((c % 8 : Nat) : Int) := by have := andI64 (c : Int) 3 (by decide); exact this
  simp only [e0, e1, nthS_at hc, Option.bind_some, jn, e2, hc, dec, fwn c (by omega), a31, a15, a7]
  have step : ∀ (n q : Nat), 2 ≤ n → n ≤ 4 → q < 64 ^ 1 → leadN c = (n, q) →
   (if decide (((r.length + 1 : Nat) : Int) < (n : Int)) then some ((-1 : Int), (1 : Int)) else g72_l9 k s (i : Int) ((q : Int), (n : Int), ((leastN n : Nat) : Int)) k (q : Int) 1) = some (fitN n (moreN (n - 1) q r)) := by
   intro n q hn hn4 hq hlead
   by_cases h1 : r.length + 1 < n
   ·rw [if_pos (by simp only [decide_eq_true_eq]; omega), moreN_none _ _ _ (by omega)]
    rfl
   ·rw [if_neg (by simp only [decide_eq_true_eq]; omega)]
    have w := rnext_l k s hs hl i n q hn4 (by omega) (n - 1) (k - n) 1 q (by omega) (by decide) hq
    rw [show n - 1 + 1 + (k - n) = k from by omega, hr] at w
    exact w
  by_cases c1 : c < 128
  ·have : leadN c = (1, c) := by unfold leadN; rw [if_pos c1]
   have hcp : cpN c = true := by unfold cpN; simp; omega
   rw [this, decide_eq_true (show (c : Int) < 128 by omega)]
   simp [moreN, fitN, leastN, hcp]
  ·rw [decide_eq_false (show ¬ (c : Int) < 128 by omega)]
   simp only [Bool.false_eq_true, if_false]
   by_cases c2 : 192 ≤ c ∧ c < 224
   ·have hL : leadN c = (2, c % 32) := by unfold leadN; rw [if_neg c1, if_pos (by omega)]
    rw [decide_eq_true (show (192 : Int) ≤ (c : Int) by omega), decide_eq_true (show (c : Int) < 224 by omega), hL]
    exact step 2 (c % 32) (by decide) (by decide) (by omega) hL
   ·have n1 : ¬ c / 32 = 6 := by omega
    by_cases c3 : 224 ≤ c ∧ c < 240
    ·have hL : leadN c = (3, c % 16) := by unfold leadN; rw [if_neg c1, if_neg n1, if_pos (by omega)]
     rw [decide_eq_true (show (192 : Int) ≤ (c : Int) by omega), decide_eq_false (show ¬ (c : Int) < 224 by omega), decide_eq_true (show (224 : Int) ≤ (c : Int) by omega), decide_eq_true (show (c : Int) < 240 by omega), hL]
     exact step 3 (c % 16) (by decide) (by decide) (by omega) hL
    ·have n2 : ¬ c / 16 = 14 := by omega
     by_cases c4 : 240 ≤ c ∧ c < 248
     ·have hL : leadN c = (4, c % 8) := by unfold leadN; rw [if_neg c1, if_neg n1, if_neg n2, if_pos (by omega)]
      rw [decide_eq_true (show (192 : Int) ≤ (c : Int) by omega), decide_eq_false (show ¬ (c : Int) < 224 by omega), decide_eq_true (show (224 : Int) ≤ (c : Int) by omega), decide_eq_false (show ¬ (c : Int) < 240 by omega), decide_eq_true (show (240 : Int) ≤ (c : Int) by omega), decide_eq_true (show (c : Int) < 248 by omega), hL]
      exact step 4 (c % 8) (by decide) (by decide) (by omega) hL
     ·have n3 : ¬ c / 8 = 30 := by omega
      have hL : leadN c = (0, 0) := by unfold leadN; rw [if_neg c1, if_neg n1, if_neg n2, if_neg n3]
      rw [hL]
      by_cases d1 : 192 ≤ c
      ·rw [decide_eq_true (show (192 : Int) ≤ (c : Int) by omega), decide_eq_false (show ¬ (c : Int) < 224 by omega), decide_eq_true (show (224 : Int) ≤ (c : Int) by omega), decide_eq_false (show ¬ (c : Int) < 240 by omega), decide_eq_true (show (240 : Int) ≤ (c : Int) by omega), decide_eq_false (show ¬ (c : Int) < 248 by omega)]
       rfl
      ·rw [decide_eq_false (show ¬ (192 : Int) ≤ (c : Int) by omega), decide_eq_false (show ¬ (224 : Int) ≤ (c : Int) by omega), decide_eq_false (show ¬ (240 : Int) ≤ (c : Int) by omega)]
       rfl
 ·have e1 : decide ((s.length : Int) ≤ (i : Int)) = true := by simp; omega
  rw [e0, e1, List.drop_eq_nil_of_le (by omega)]
  rfl
theorem dec_size {s : List Nat} (h : s ≠ []) : ∃ n : Nat, (dec s).2 = (n : Int) ∧ 1 ≤ n ∧ n ≤ 4 ∧ n ≤ s.length ∧ ((dec s).1 < 0 → n = 1) := by
 cases s with
 | nil => exact absurd rfl h
 | cons c r =>
  have hd : dec (c :: r) = if (leadN c).1 = 0 then (-1, 1) else fitN (leadN c).1 (moreN ((leadN c).1 - 1) (leadN c).2 r) := rfl
  rw [hd]
  by_cases h0 : (leadN c).1 = 0
  ·rw [if_pos h0]
   exact ⟨1, rfl, by decide, by decide, by simp, fun _ => rfl⟩
  ·rw [if_neg h0]
   cases hm : moreN ((leadN c).1 - 1) (leadN c).2 r with
   | none => exact ⟨1, rfl, by decide, by decide, by simp, fun _ => rfl⟩
   | some y =>
    unfold fitN
    simp only []
    split
    ·have := lead_le c
     refine ⟨(leadN c).1, rfl, by omega, this, ?_, ?_⟩
     ·rcases Nat.lt_or_ge r.length ((leadN c).1 - 1) with hlt | hge
      ·rw [moreN_none _ _ _ hlt] at hm; cases hm
      ·simp; omega
     ·intro hneg
      simp at hneg
      omega
    ·exact ⟨1, rfl, by decide, by decide, by simp, fun _ => rfl⟩
def cpc : Nat → List Nat → Nat
 | _, [] => 0
 | 0, _ => 0
 | n + 1, s => cpc n (s.drop (dec s).2.toNat) + 1
theorem drop_lt {s : List Nat} {i : Nat} (h : i < s.length) : s.drop i ≠ [] := by
 intro e
 have := congrArg List.length e
 simp at this
 omega
theorem count_l {k : Nat} (hk : 6 ≤ k) {s : List Nat} (hs : ∀ b ∈ s, b < 256) (hl : s.length ≤ 140737488351232) : ∀ (d m i q : Nat), s.length ≤ i + d → i ≤ s.length → q ≤ i → g55_l1 k s (d + 1 + m) (q : Int) (i : Int) = some ((q + cpc d (s.drop i) : Nat) : Int) ∧ g35_l1 k s (d + 1 + m) (q : Int) (i : Int) = some ((q + cpc d (s.drop i) : Nat) : Int) := by
 intro d
 induction d with
 | zero =>
  intro m i q h1 h2 hq
  have e : s.drop i = [] := List.drop_eq_nil_of_le (by omega)
  rw [show 0 + 1 + m = m + 1 from by omega, g55_l1_s, g35_l1_s, e, decide_eq_false (show ¬ (i : Int) < (s.length : Int) by omega)]
  exact ⟨rfl, rfl⟩
 | succ d ih =>
  intro m i q h1 h2 hq
  rw [show d + 1 + 1 + m = (d + 1 + m) + 1 from by omega, g55_l1_s, g35_l1_s]
  by_cases hi : i < s.length
  ·rw [decide_eq_true (show (i : Int) < (s.length : Int) by omega)]
   obtain ⟨c, r, hc, -, -⟩ := drop_cons hi
   obtain ⟨n, n1, n2, n3, n4, n5⟩ := dec_size (drop_lt hi)
   rw [List.length_drop] at n4
   have b1 : s.length ≤ i + n + d := by clear n1; omega
   have b2 : i + n ≤ s.length := by clear n1; omega
   have b3 : q + 1 ≤ i + n := by clear n1; omega
   simp only [next_at hk hs hl, rnext_at hk hs hl, Option.bind_some, if_true]
   have hv : cpc (d + 1) (s.drop i) = cpc d ((s.drop i).drop (dec (s.drop i)).2.toNat) + 1 := by
    rw [hc]; rfl
   rw [hv, n1, List.drop_drop]
   have e3 : fW .i64 ((i : Int) + (n : Int)) = ((i + n : Nat) : Int) := by
    have : (i : Int) + (n : Int) = ((i + n : Nat) : Int) := by omega
    rw [this, fwn _ (by omega)]
   have e4 : fW .i64 ((q : Int) + 1) = ((q + 1 : Nat) : Int) := by
    have : (q : Int) + 1 = ((q + 1 : Nat) : Int) := by omega
    rw [this, fwn _ (by omega)]
   rw [e3, e4]
   have := ih m (i + n) (q + 1) b1 b2 b3
   rw [show q + 1 + cpc d (s.drop (i + n)) = q + (cpc d (s.drop (i + n)) + 1) from by omega] at this
   exact this
  ·have e : s.drop i = [] := List.drop_eq_nil_of_le (by omega)
   rw [e, decide_eq_false (show ¬ (i : Int) < (s.length : Int) by omega)]
   exact ⟨rfl, rfl⟩
theorem count_at {k : Nat} {s : List Nat} (hk : s.length + 6 ≤ k) (hs : ∀ b ∈ s, b < 256) (hl : s.length ≤ 140737488351232) : g55 k s = some ((cpc s.length s : Nat) : Int) ∧ g35 k s = some ((cpc s.length s : Nat) : Int) := by
 have h := count_l (k := k) (by omega) hs hl s.length (k - (s.length + 1)) 0 0 (by omega) (by omega) (by omega)
 rw [show s.length + 1 + (k - (s.length + 1)) = k from by omega, Nat.zero_add] at h
 exact h
end Go.Proofs.Ytabhkocokojddaa.Am
set_option maxRecDepth 100000
set_option linter.unusedVariables false
namespace Go.Proofs.Ytabhkocokojddaa.Am
noncomputable section
open Go
def g20_l2B (k : Nat)  (a0 : (List Nat)) (ih : Int → (List Int) → Option (List Int)) : Int → (List Int) → Option (List Int) :=
 fun (y2_0 : Int) (y2_1 : (List Int)) => if (decide (y2_0 < (a0.length : Int))) then ((nthS a0 y2_0).bind fun x0_2 => jn (fun (z3 : (List Int) × Int) => ih (fW .i64 (z3.2 + 1)) z3.1) (fun j3 => if (decide (x0_2 = 10)) then ((appS 8 y2_1 ([fW .i64 (y2_0 + 1)] : List Int)).bind fun x1_4 => j3 (x1_4, y2_0)) else (j3 (y2_1, y2_0)))) else (some y2_1)
def g20_l2 (k : Nat)  (a0 : (List Nat)) (n : Nat) : Int → (List Int) → Option (List Int) := lp (fun _ _ => none) (g20_l2B k a0) n
def g20 (k : Nat) (a0 : (List Nat)) : Option (List Int) :=
 g20_l2 k a0 k 0 ([(0 : Int)] : List Int)
end
end Go.Proofs.Ytabhkocokojddaa.Am
set_option maxRecDepth 100000
set_option linter.unusedVariables false
namespace Go.Proofs.Ytabhkocokojddaa.Am
noncomputable section
open Go
def g54 (k : Nat) (a0 : (List Nat)) (a1 : Int) : Option Int :=
 some (minI (maxI a1 0) (a0.length : Int))
end
end Go.Proofs.Ytabhkocokojddaa.Am
set_option maxRecDepth 100000
set_option linter.unusedVariables false
namespace Go.Proofs.Ytabhkocokojddaa.Am
noncomputable section
open Go
def g21_l2B (k : Nat)  (a0 : (List Nat)) (a1 : Int) (ih : Int → Int → Option Int) : Int → Int → Option Int :=
 fun (y2_0 : Int) (y2_1 : Int) => (g54 k a0 a1).bind fun x0_3 => if (decide (y2_1 < x0_3)) then ((nthS a0 y2_1).bind fun x1_2 => jn (fun (z3 : Int × Int) => ih z3.1 (fW .i64 (z3.2 + 1))) (fun j3 => if (decide (x1_2 = 10)) then (j3 (fW .i64 (y2_0 + 1), y2_1)) else (j3 (y2_0, y2_1)))) else (some y2_0)
def g21_l2 (k : Nat)  (a0 : (List Nat)) (a1 : Int) (n : Nat) : Int → Int → Option Int := lp (fun _ _ => none) (g21_l2B k a0 a1) n
def g21 (k : Nat) (a0 : (List Nat)) (a1 : Int) : Option Int :=
 g21_l2 k a0 a1 k 1 0
end
end Go.Proofs.Ytabhkocokojddaa.Am
set_option maxRecDepth 100000
set_option linter.unusedVariables false
namespace Go.Proofs.Ytabhkocokojddaa.Am
noncomputable section
open Go
def g23_l3B (k : Nat)  (a0 : (List Nat)) (x0_2 : Int) (ih : Int → Option Int) : Int → Option Int :=
 fun (y3_0 : Int) => jn (fun (z4 : Bool × Int) => if z4.1 then (ih (fW .i64 (z4.2 - 1))) else ((subL a0 (some z4.2) (some x0_2)).bind fun x2_3 => (g35 k x2_3).bind fun x2_4 => some x2_4)) (fun j4 => if (decide (0 < y3_0)) then ((nthS a0 (fW .i64 (y3_0 - 1))).bind fun x1_6 => j4 (!decide (x1_6 = 10), y3_0)) else (j4 (false, y3_0)))
def g23_l3 (k : Nat)  (a0 : (List Nat)) (x0_2 : Int) (n : Nat) : Int → Option Int := lp (fun _ => none) (g23_l3B k a0 x0_2) n
def g23 (k : Nat) (a0 : (List Nat)) (a1 : Int) : Option Int :=
 (g54 k a0 a1).bind fun x0_2 => g23_l3 k a0 x0_2 k x0_2
end
end Go.Proofs.Ytabhkocokojddaa.Am
set_option maxRecDepth 100000
set_option linter.unusedVariables false
namespace Go.Proofs.Ytabhkocokojddaa.Am
noncomputable section
open Go
def g4_l8B (k : Nat)  (a0 : (List Nat)) (a1 : Int) (a2 : Int) (x1_1 : (List Int)) (x1_3 : (List Int)) (ih : Int → Option Bool) : Int → Option Bool :=
 fun (y8_0 : Int) => if (decide (y8_0 < (x1_3.length : Int))) then ((nthL x1_1 y8_0).bind fun x3_2 => (nthL x1_3 y8_0).bind fun x3_6 => if (!decide (x3_2 = x3_6)) then (some false) else (ih (fW .i64 (y8_0 + 1)))) else ((g17 k a0 a2).bind fun x4_2 => jn (fun (z9 : Bool) => jn (fun (z10 : Bool) => if z10 then (some false) else ((g15 k).bind fun x6_0 => if x6_0 then ((g18 k a0 a1).bind fun x6_4 => (g21 k a0 a1).bind fun x6_7 => if (decide (x6_4 = x6_7)) then ((g22 k a0 a1).bind fun x6_13 => (g23 k a0 a1).bind fun x6_16 => some (decide (x6_13 = x6_16))) else (some false)) else (some false))) (fun j10 => if (!(decide (x4_2.2 = 0) == z9)) then (j10 true) else (if z9 then ((nthL x1_3 (fW .i64 (a2 - 1))).bind fun x5_11 => if (!decide (x4_2.1 = x5_11)) then (j10 true) else (if (!z9) then (if (!decide (x4_2.2 = 6)) then (j10 true) else (j10 (!decide (x4_2.1 = 0)))) else (j10 false))) else (if (!z9) then (if (!decide (x4_2.2 = 6)) then (j10 true) else (j10 (!decide (x4_2.1 = 0)))) else (j10 false))))) (fun j9 => if (decide (1 ≤ a2)) then (j9 (decide (a2 ≤ (x1_3.length : Int)))) else (j9 false)))
def g4_l8 (k : Nat)  (a0 : (List Nat)) (a1 : Int) (a2 : Int) (x1_1 : (List Int)) (x1_3 : (List Int)) (n : Nat) : Int → Option Bool := lp (fun _ => none) (g4_l8B k a0 a1 a2 x1_1 x1_3) n
def g4 (k : Nat) (a0 : (List Nat)) (a1 : Int) (a2 : Int) : Option Bool :=
 if (decide (600 < (a0.length : Int))) then ((g15 k).bind fun x0_0 => some x0_0) else ((g19 k a0).bind fun x1_1 => (g20 k a0).bind fun x1_3 => jn (fun (z7 : Bool) => if z7 then (some false) else (g4_l8 k a0 a1 a2 x1_1 x1_3 k 0)) (fun j7 => if (!decide ((x1_1.length : Int) = (x1_3.length : Int))) then (j7 true) else ((g16 k a0).bind fun x2_7 => j7 (!decide (x2_7 = fW .i64 ((x1_3.length : Int) - 1))))))
end
end Go.Proofs.Ytabhkocokojddaa.Am
set_option linter.unusedVariables false
set_option linter.unusedSimpArgs false
namespace Go.Proofs.Ytabhkocokojddaa.Am
open Go
theorem take_mono (s : List Nat) {i j : Nat} (h : i ≤ j) : (s.take i).count 10 ≤ (s.take j).count 10 := by
 have : s.take i = (s.take j).take i := by rw [List.take_take, Nat.min_eq_left h]
 rw [this]
 exact take_cnt _ i
end Go.Proofs.Ytabhkocokojddaa.Am
set_option maxRecDepth 100000
set_option linter.unusedVariables false
namespace Go.Proofs.Ytabhkocokojddaa.Am
noncomputable section
open Go
def Xg6 : Fx Bool := ⟨Try.prog, cx, Try.f6, fun r => .bool r, 0, fun _ => H0, cxTi, cxOrd, fun _ => none, false⟩
def g6p0 : Pt := nav [0] (bodyAt Try.f6)
def g6p1 : Pt := nav [0, 0, 0, 0] g6p0
def g6p2 : Pt := nav [0, 0] g6p1
def g6p3 : Pt := nav [1, 0] g6p2
def g6p4 : Pt := nav [2, 0, 0] g6p2
def g6p6 : Pt := nav [0, 0, 0] g6p4
def g6p7 : Pt := nav [0, 0, 0, 0] g6p6
def g6p8 : Pt := nav [0, 0] g6p7
def g6p10 : Pt := nav [2, 0, 0] g6p8
def g6 (k : Nat) (a0 : (List Nat)) (a1 : (List Nat)) (a2 : Int) : Option Bool :=
 jn (fun (z5 : Bool) => if z5 then ((g15 k).bind fun x0_0 => some x0_0) else ((remS (fW .u64 a2) (fW .u64 (fW .i64 ((a1.length : Int) + 1)))).bind fun x1_6 => (g16 k a0).bind fun x2_1 => (catS a0 a1).bind fun x3_2 => (g16 k x3_2).bind fun x3_3 => (g16 k a1).bind fun x3_6 => jn (fun (z6 : Bool) => if z6 then (some false) else ((g15 k).bind fun x4_0 => if x4_0 then ((catS a0 ([10] : List Nat)).bind fun x4_3 => (catS x4_3 a1).bind fun x4_5 => (g22 k x4_5 (fW .i64 (fW .i64 ((a0.length : Int) + 1) + fW .i64 x1_6))).bind fun x4_11 => (g22 k a1 (fW .i64 x1_6)).bind fun x4_14 => if (decide (x4_11 = x4_14)) then ((catS a0 ([10] : List Nat)).bind fun x4_19 => (g19 k x4_19).bind fun x4_20 => some (decide ((x4_20.length : Int) = fW .i64 (x2_1 + 2)))) else (some false)) else (some false))) (fun j6 => if (!decide (x3_3 = fW .i64 (x2_1 + x3_6))) then (j6 true) else ((catS a0 a1).bind fun x3_12 => (g18 k x3_12 (fW .i64 ((a0.length : Int) + fW .i64 x1_6))).bind fun x3_17 => (g18 k a1 (fW .i64 x1_6)).bind fun x3_21 => j6 (!decide (x3_17 = fW .i64 (x2_1 + x3_21))))))) (fun j5 => if (decide (300 < (a0.length : Int))) then (j5 true) else (j5 (decide (300 < (a1.length : Int)))))
theorem g6_ok (k : Nat) (a0 : (List Nat)) (a1 : (List Nat)) (a2 : Int) (r : Bool) (h : g6 k a0 a1 a2 = some r) : PureOk Try.prog 6 [.str a0, .str a1, .i a2] (.bool r) := by
 refine pure_of Xg6 (fun _ => ⟨rfl, rfl⟩) Try.func6 (by decide +kernel) (by kernel_rfl) (t := g6 k a0 a1 a2) ?_ h
 unfold g6
 refine oE (eE := [(0, .str a0), (1, .str a1), (2, .i a2)]) (by kernel_rfl) ?_
 refine oH 11 (atN 4 (ctl1 g6p1)) [(12, .bool (decide (300 < (a0.length : Int)))), (11, .bool (decide (300 < (a0.length : Int)))), (10, .i (a0.length : Int)), (9, .str a0), (6, .bool false), (0, .str a0), (1, .str a1), (2, .i a2)] (mkH []) ?_
 refine oJ g6p2 (fun (z5 : Bool) => [(0, .str a0), (1, .str a1), (2, .i a2), (16, .bool z5)]) (fun (z5 : Bool) => (mkH [])) (fun z5 => ?_) (fun j5 hj5 => ?_)
 ·refine oS 16 (fun hb => ?_) (fun hb => ?_)
  ·refine oH 3 (atN 0 (ctl1 g6p3)) [(16, .bool true), (0, .str a0), (1, .str a1), (2, .i a2), (16, .bool z5)] (mkH []) ?_
   refine oA (fun (x0_0 : Bool) => .bool x0_0) (atN 1 (ctl1 g6p3)) 17 [] (g15_ok k ) fun x0_0 hx0_0 => ?_
   exact oQ 3
  ·refine oH 10 (atN 6 (ctl1 g6p4)) [(23, .int .u64 (fW .u64 (fW .i64 ((a1.length : Int) + 1)))), (22, .i (fW .i64 ((a1.length : Int) + 1))), (21, .i (a1.length : Int)), (20, .str a1), (19, .int .u64 (fW .u64 a2)), (18, .i a2), (16, .bool false), (0, .str a0), (1, .str a1), (2, .i a2), (16, .bool z5)] (mkH []) ?_
   refine oRem .u64 23 24 (atN 7 (ctl1 g6p4)) fun x1_6 hx1_6 => ?_
   refine oLH 4 g6p6 [(0, .str a0), (1, .str a1), (7, .i (fW .i64 x1_6))] (mkH []) ?_
   let E4 : Env := [(0, .str a0), (1, .str a1), (7, .i (fW .i64 x1_6))]
   refine oR 2 (atN 1 (ctl1 g6p6)) ((26, .str a0) :: E4) ?_
   refine oA (fun (x2_1 : Int) => .i x2_1) (atN 2 (ctl1 g6p6)) 27 [.str a0] (g16_ok k a0) fun x2_1 hx2_1 => ?_
   let E5 : Env := ((29, .str a1) :: (28, .str a0) :: (8, .i x2_1) :: (27, .i x2_1) :: (26, .str a0) :: E4)
   refine oR 7 (atN 2 (ctl1 g6p7)) E5 ?_
   refine oC (fun (x3_2 : (List Nat)) => (.str x3_2, (mkH []))) (atN 3 (ctl1 g6p7)) 30 (catH (by kernel_rfl)) fun x3_2 hx3_2 => ?_
   refine oA (fun (x3_3 : Int) => .i x3_3) (atN 4 (ctl1 g6p7)) 31 [.str x3_2] (g16_ok k x3_2) fun x3_3 hx3_3 => ?_
   refine oH 2 (atN 6 (ctl1 g6p7)) ((33, .str a1) :: (32, .i x2_1) :: (31, .i x3_3) :: (30, .str x3_2) :: E5) (mkH []) ?_
   refine oA (fun (x3_6 : Int) => .i x3_6) (atN 7 (ctl1 g6p7)) 34 [.str a1] (g16_ok k a1) fun x3_6 hx3_6 => ?_
   let E6 : Env := ((37, .bool (!decide (x3_3 = fW .i64 (x2_1 + x3_6)))) :: (36, .bool (!decide (x3_3 = fW .i64 (x2_1 + x3_6)))) :: (35, .i (fW .i64 (x2_1 + x3_6))) :: (34, .i x3_6) :: (33, .str a1) :: (32, .i x2_1) :: (31, .i x3_3) :: (30, .str x3_2) :: E5)
   refine oR 3 (atN 10 (ctl1 g6p7)) E6 ?_
   refine oJ g6p8 (fun (z6 : Bool) => [(0, .str a0), (1, .str a1), (7, .i (fW .i64 x1_6)), (8, .i x2_1), (52, .bool z6)]) (fun (z6 : Bool) => (mkH [])) (fun z6 => ?_) (fun j6 hj6 => ?_)
   ·refine oS 52 (fun hb => ?_) (fun hb => ?_)
    ·exact oQ 6
    ·let E8 : Env := [(52, .bool false), (0, .str a0), (1, .str a1), (7, .i (fW .i64 x1_6)), (8, .i x2_1), (52, .bool z6)]
     refine oH 4 (atN 0 (ctl1 g6p10)) E8 (mkH []) ?_
     refine oA (fun (x4_0 : Bool) => .bool x4_0) (atN 1 (ctl1 g6p10)) 53 [] (g15_ok k ) fun x4_0 hx4_0 => ?_
     refine oR 1 (atN 2 (ctl1 g6p10)) ((54, .bool x4_0) :: (53, .bool x4_0) :: E8) ?_
     refine oS 54 (fun hb => ?_) (fun hb => ?_)
     ·refine oR 1 (atN 3 (ctl1 g6p10)) ((55, .str a0) :: (54, .bool true) :: (54, .bool x4_0) :: (53, .bool x4_0) :: E8) ?_
      refine oC (fun (x4_3 : (List Nat)) => (.str x4_3, (mkH []))) (atN 4 (ctl1 g6p10)) 56 (catH (by kernel_rfl)) fun x4_3 hx4_3 => ?_
      let E9 : Env := ((57, .str a1) :: (56, .str x4_3) :: (55, .str a0) :: (54, .bool true) :: (54, .bool x4_0) :: (53, .bool x4_0) :: E8)
      refine oH 1 (atN 5 (ctl1 g6p10)) E9 (mkH []) ?_
      refine oC (fun (x4_5 : (List Nat)) => (.str x4_5, (mkH []))) (atN 6 (ctl1 g6p10)) 58 (catH (by kernel_rfl)) fun x4_5 hx4_5 => ?_
      let E10 : Env := ((63, .i (fW .i64 (fW .i64 ((a0.length : Int) + 1) + fW .i64 x1_6))) :: (62, .i (fW .i64 x1_6)) :: (61, .i (fW .i64 ((a0.length : Int) + 1))) :: (60, .i (a0.length : Int)) :: (59, .str a0) :: (58, .str x4_5) :: E9)
      refine oH 5 (atN 11 (ctl1 g6p10)) E10 (mkH []) ?_
      refine oA (fun (x4_11 : Int) => .i x4_11) (atN 12 (ctl1 g6p10)) 64 [.str x4_5, .i (fW .i64 (fW .i64 ((a0.length : Int) + 1) + fW .i64 x1_6))] (g22_ok k x4_5 (fW .i64 (fW .i64 ((a0.length : Int) + 1) + fW .i64 x1_6))) fun x4_11 hx4_11 => ?_
      refine oR 2 (atN 14 (ctl1 g6p10)) ((66, .i (fW .i64 x1_6)) :: (65, .str a1) :: (64, .i x4_11) :: E10) ?_
      refine oA (fun (x4_14 : Int) => .i x4_14) (atN 15 (ctl1 g6p10)) 67 [.str a1, .i (fW .i64 x1_6)] (g22_ok k a1 (fW .i64 x1_6)) fun x4_14 hx4_14 => ?_
      let E11 : Env := ((70, .bool (decide (x4_11 = x4_14))) :: (69, .bool (decide (x4_11 = x4_14))) :: (68, .bool (decide (x4_11 = x4_14))) :: (67, .i x4_14) :: (66, .i (fW .i64 x1_6)) :: (65, .str a1) :: (64, .i x4_11) :: E10)
      refine oR 3 (atN 18 (ctl1 g6p10)) E11 ?_
      refine oS 70 (fun hb => ?_) (fun hb => ?_)
      ·refine oR 1 (atN 19 (ctl1 g6p10)) ((71, .str a0) :: (70, .bool true) :: E11) ?_
       refine oC (fun (x4_19 : (List Nat)) => (.str x4_19, (mkH []))) (atN 20 (ctl1 g6p10)) 72 (catH (by kernel_rfl)) fun x4_19 hx4_19 => ?_
       refine oA (fun (x4_20 : (List Int)) => w3 x4_20) (atN 21 (ctl1 g6p10)) 73 [.str x4_19] (g19_ok k x4_19) fun x4_20 hx4_20 => ?_
       exact oQ 8
      ·exact oQ 11
     ·exact oQ 27
   ·refine oS 37 (fun hb => ?_) (fun hb => ?_)
    ·refine oLH 16 g6p8 [(0, .str a0), (1, .str a1), (7, .i (fW .i64 x1_6)), (8, .i x2_1), (52, .bool true)] (mkH []) ?_
     exact hj6 true
    ·refine oH 2 (atN 12 (ctl1 g6p7)) ((39, .str a1) :: (38, .str a0) :: (37, .bool false) :: E6) (mkH []) ?_
     refine oC (fun (x3_12 : (List Nat)) => (.str x3_12, (mkH []))) (atN 13 (ctl1 g6p7)) 40 (catH (by kernel_rfl)) fun x3_12 hx3_12 => ?_
     let E17 : Env := ((44, .i (fW .i64 ((a0.length : Int) + fW .i64 x1_6))) :: (43, .i (fW .i64 x1_6)) :: (42, .i (a0.length : Int)) :: (41, .str a0) :: (40, .str x3_12) :: (39, .str a1) :: (38, .str a0) :: (37, .bool false) :: E6)
     refine oH 4 (atN 17 (ctl1 g6p7)) E17 (mkH []) ?_
     refine oA (fun (x3_17 : Int) => .i x3_17) (atN 18 (ctl1 g6p7)) 45 [.str x3_12, .i (fW .i64 ((a0.length : Int) + fW .i64 x1_6))] (g18_ok k x3_12 (fW .i64 ((a0.length : Int) + fW .i64 x1_6))) fun x3_17 hx3_17 => ?_
     refine oR 3 (atN 21 (ctl1 g6p7)) ((48, .i (fW .i64 x1_6)) :: (47, .str a1) :: (46, .i x2_1) :: (45, .i x3_17) :: E17) ?_
     refine oA (fun (x3_21 : Int) => .i x3_21) (atN 22 (ctl1 g6p7)) 49 [.str a1, .i (fW .i64 x1_6)] (g18_ok k a1 (fW .i64 x1_6)) fun x3_21 hx3_21 => ?_
     refine oL 4 g6p8 [(0, .str a0), (1, .str a1), (7, .i (fW .i64 x1_6)), (8, .i x2_1), (52, .bool (!decide (x3_17 = fW .i64 (x2_1 + x3_21))))] ?_
     exact hj6 (!decide (x3_17 = fW .i64 (x2_1 + x3_21)))
 ·refine oS 12 (fun hb => ?_) (fun hb => ?_)
  ·refine oLH 5 g6p2 [(0, .str a0), (1, .str a1), (2, .i a2), (16, .bool true)] (mkH []) ?_
   exact hj5 true
  ·refine oLH 5 g6p2 [(0, .str a0), (1, .str a1), (2, .i a2), (16, .bool (decide (300 < (a1.length : Int))))] (mkH []) ?_
   exact hj5 (decide (300 < (a1.length : Int)))
end
end Go.Proofs.Ytabhkocokojddaa.Am
set_option maxRecDepth 100000
set_option linter.unusedVariables false
set_option linter.unusedSimpArgs false
namespace Go.Proofs.Ytabhkocokojddaa.Am
open Go
theorem catJ {a b : List Nat} (h : a.length + b.length < 100000000) : catS a b = some (a ++ b) := by
 unfold catS
 rw [if_pos (by omega)]
theorem begin_one {t : List Nat} {p q : Nat} (hp : (t.take p).count 10 = t.count 10) (hq : (t.take q).count 10 = t.count 10) (hqq : q = 0 ∨ ∃ r, q = r + 1 ∧ t[r]? = some 10) (hlt : p < q) : False := by
 rcases hqq with rfl | ⟨r, rfl, hr⟩
 ·omega
 ·have h1 := take_suc hr
  rw [if_pos rfl] at h1
  have h2 := take_mono t (i := p) (j := r) (by omega)
  omega
theorem begin_eq {t : List Nat} {p q : Nat} (hp : (t.take p).count 10 = t.count 10) (hpp : p = 0 ∨ ∃ r, p = r + 1 ∧ t[r]? = some 10) (hq : (t.take q).count 10 = t.count 10) (hqq : q = 0 ∨ ∃ r, q = r + 1 ∧ t[r]? = some 10) : p = q := by
 rcases Nat.lt_trichotomy p q with h | h | h
 ·exact (begin_one hp hq hqq h).elim
 ·exact h
 ·exact (begin_one hq hp hpp h).elim
theorem col_at {k : Nat} {s : List Nat} (hb : ∀ b ∈ s, b < 256) (hs : s.length < 100000000) (hk : s.length + 6 < k) {i : Nat} (hi : i ≤ s.length) : ∃ p, p ≤ i ∧ ((s.take i).take p).count 10 = (s.take i).count 10 ∧ (p = 0 ∨ ∃ q, p = q + 1 ∧ (s.take i)[q]? = some 10) ∧ g22 k s (i : Int) = some ((cpc ((s.take i).drop p).length ((s.take i).drop p) : Nat) : Int) := by
 have hn := cnt_le s
 have ht := take_cnt s i
 obtain ⟨x, hx⟩ := lns_get (s := s) (j := (s.take i).count 10) (by omega)
 obtain ⟨p, rfl, hp, hcp, hpq⟩ := lns_back hx
 have hpw : p ≤ i := by have := (lns_iff (a := i) hx).1 (by omega); omega
 have hd : ∀ b ∈ (s.take i).drop p, b < 256 := fun b h => hb b (List.mem_of_mem_take (List.mem_of_mem_drop h))
 have hdl : ((s.take i).drop p).length ≤ s.length := by simp; omega
 obtain ⟨c1, c2⟩ := count_at (k := k) (s := (s.take i).drop p) (by omega) hd (by omega)
 refine ⟨p, hpw, by rw [List.take_take, Nat.min_eq_left hpw]; exact hcp, ?_, ?_⟩
 ·rcases hpq with ⟨-, h⟩ | ⟨q, rfl, hq⟩
  ·exact .inl h
  ·exact .inr ⟨q, rfl, by rw [List.getElem?_take_of_lt (by omega)]; exact hq⟩
 ·unfold g22
  refine bS (within_at _ s _) (bS (lines_at hs (by omega)) ?_)
  rw [wi_at hi]
  refine bS (line_at hs (by omega) _) ?_
  rw [wi_at hi, fw_p (by omega)]
  exact bS ((nthLI rfl).trans hx) (bS (subMid rfl rfl hpw hi) (bS c1 rfl))
theorem col_join {k : Nat} {a b : List Nat} (ha : ∀ c ∈ a, c < 256) (hb : ∀ c ∈ b, c < 256) (h1 : a.length ≤ 300) (h2 : b.length ≤ 300) (hk : 700 < k) {i : Nat} (hi : i ≤ b.length) : ∃ v, g22 k (a ++ [10] ++ b) ((a.length + 1 + i : Nat) : Int) = some v ∧ g22 k b (i : Int) = some v := by
 have hl : (a ++ [10] ++ b).length = a.length + 1 + b.length := by simp; omega
 have htk : (a ++ [10] ++ b).take (a.length + 1 + i) = a ++ [10] ++ b.take i := by
  rw [List.take_append, List.take_of_length_le (by simp)]
  congr 1
  simp
 obtain ⟨p, p1, p2, p3, p4⟩ := col_at (k := k) (s := a ++ [10] ++ b) (i := a.length + 1 + i) (fun c hc => by
  rcases List.mem_append.1 hc with hc | hc
  ·rcases List.mem_append.1 hc with hc | hc
   ·exact ha c hc
   ·rw [List.mem_singleton.1 hc]; decide
  ·exact hb c hc) (by omega) (by omega) (by omega)
 obtain ⟨q, q1, q2, q3, q4⟩ := col_at (k := k) (s := b) (i := i) hb (by omega) (by omega) hi
 rw [htk] at p2 p3 p4
 have hpq : p = a.length + 1 + q := by
  refine begin_eq p2 p3 (q := a.length + 1 + q) ?_ (.inr ⟨a.length + q, by omega, ?_⟩)
  ·rw [List.take_append, List.take_of_length_le (l := a ++ [10]) (by simp), List.count_append, List.count_append (l₁ := a ++ [10]) (l₂ := b.take i)]
   congr 1
   rw [← q2]
   congr 2
   simp
  ·rcases q3 with rfl | ⟨r, rfl, hr⟩
   ·simp
   ·rw [List.getElem?_append_right (by simp)]
    have e : a.length + (r + 1) - (a ++ [10]).length = r := by rw [List.length_append]; simp only [List.length_cons, List.length_nil]; omega
    rw [e]
    exact hr
 subst hpq
 have hdr : (a ++ [10] ++ b.take i).drop (a.length + 1 + q) = (b.take i).drop q := by
  rw [List.drop_append, List.drop_eq_nil_of_le (by simp), List.nil_append]
  congr 1
  simp
 rw [hdr] at p4
 exact ⟨_, p4, q4⟩
theorem placeJoins_true (a b : List Nat) (at' : Int) (ha : ∀ c ∈ a, c < 256) (hla : a.length ≤ 140737488351232) (hb : ∀ c ∈ b, c < 256) (hlb : b.length ≤ 140737488351232) : ∃ k, g6 k a b at' = some true := by
 refine ⟨700 + 60, ?_⟩
 unfold g6
 by_cases h1 : 300 < a.length
 ·exact (jS (v := true) (fun j => iT (dT (by omega)) rfl)).trans (iT rfl (bS (told2 700) rfl))
 by_cases h2 : 300 < b.length
 ·exact (jS (v := true) (fun j => iF (dF (by omega)) (by rw [dT (by omega)]))).trans (iT rfl (bS (told2 700) rfl))
 refine (jS (v := false) (fun j => iF (dF (by omega)) (by rw [dF (by omega)]))).trans (iF rfl ?_)
 have hl : (a ++ b).length = a.length + b.length := List.length_append
 have hc : (a ++ b).count 10 = a.count 10 + b.count 10 := List.count_append
 have hca := cnt_le a
 have hcb := cnt_le b
 rw [fw_s (n := b.length) (by omega)]
 obtain ⟨i, hi, e1, -⟩ := rem_at at' (b.length + 1) (by omega) (by omega)
 refine bS e1 ?_
 have hfi : fW .i64 (i : Int) = (i : Int) := fwI (by omega) (by omega)
 have hcbi := take_cnt b i
 have hE1 : g16 (700 + 60) a = some ((a.count 10 : Nat) : Int) := ends_at (by omega) (by omega)
 have hE2 : g16 (700 + 60) (a ++ b) = some (((a ++ b).count 10 : Nat) : Int) := ends_at (by omega) (by omega)
 have hE3 : g16 (700 + 60) b = some ((b.count 10 : Nat) : Int) := ends_at (by omega) (by omega)
 have hcat : catS a b = some (a ++ b) := catJ (by omega)
 have hcat2 : catS a [10] = some (a ++ [10]) := catJ (by simp; omega)
 have hcat3 : catS (a ++ [10]) b = some (a ++ [10] ++ b) := catJ (by simp; omega)
 refine bS hE1 (bS hcat (bS hE2 (bS hE3 ?_)))
 have htk : ((a ++ b).take (a.length + i)).count 10 = a.count 10 + (b.take i).count 10 := by
  have e : a.length + i - a.length = i := by omega
  rw [List.take_append, List.take_of_length_le (l := a) (by omega), List.count_append, e]
 have hL1 : g18 (700 + 60) (a ++ b) ((a.length + i : Nat) : Int) = some ((a.count 10 + (b.take i).count 10 + 1 : Nat) : Int) := by rw [line_at (by omega) (by omega), wi_at (by omega), htk]
 have hL2 : g18 (700 + 60) b (i : Int) = some (((b.take i).count 10 + 1 : Nat) : Int) := by rw [line_at (by omega) (by omega), wi_at (by omega)]
 refine (jS (v := false) (fun j => ?_)).trans ?_
 ·rw [fw_a (by omega) (by omega), hc]
  refine iF (by simp) (bS hcat ?_)
  rw [hfi, fw_a (by omega) (by omega)]
  refine bS hL1 (bS hL2 ?_)
  rw [fw_a (n := a.count 10) (m := (b.take i).count 10 + 1) (by omega) (by omega)]
  rw [dT (by omega)]
  rfl
 ·refine iF rfl (bS (told2 700) (iT rfl (bS hcat2 (bS hcat3 ?_))))
  obtain ⟨v, c1, c2⟩ := col_join (k := 700 + 60) ha hb (by omega) (by omega) (by omega) (i := i) (by omega)
  rw [hfi, fw_s (n := a.length) (by omega), fw_a (n := a.length + 1) (m := i) (by omega) (by omega)]
  refine bS c1 (bS c2 (iT (by simp) (bS hcat2 ?_)))
  have hcn : (a ++ [10]).count 10 = a.count 10 + 1 := by simp [List.count_append]
  refine bS (lines_at (by simp; omega) (by simp; omega)) ?_
  rw [lns_len, hcn, fwI (n := ((a.count 10 : Nat) : Int) + 2) (by omega) (by omega)]
  rw [dT (by omega)]
end Go.Proofs.Ytabhkocokojddaa.Am
set_option linter.unusedVariables false
set_option linter.unusedSimpArgs false
namespace Go.Proofs.Ytabhkocokojddaa.Am
open Go
theorem placeJoins_walk (a0 : ByteArray) (a1 : ByteArray) (a2 : Int) (W : World) (w0 : a0.size ≤ 140737488351232) (w1 : a1.size ≤ 140737488351232) (w2 : (Lit.int .i64 a2).wf = true) : Calls Try.prog 6 #[.string a0, .string a1, .int .i64 a2] W fun e W' => e = .returned (.bool true) ∧ RowKit.Below W.heap.size W W' := by
 obtain ⟨k, h⟩ := placeJoins_true (a0.data.toList.map (·.toNat)) (a1.data.toList.map (·.toNat)) a2 (bytes_lt a0) (by simpa using w0) (bytes_lt a1) (by simpa using w1)
 exact law_walk (g6_ok k _ _ _ true h) (by simp only [VRs, VR, AV.i, AV.y]; exact ⟨_, _, rfl, ⟨a0, rfl, rfl⟩, ⟨_, _, rfl, ⟨a1, rfl, rfl⟩, ⟨_, _, rfl, rfl, rfl⟩⟩⟩) W
end Go.Proofs.Ytabhkocokojddaa.Am
namespace Go.Proofs.Ytabhkocokojddaa.placeJoins
open Go.ChangeShapes Go.WideShapes Go.ChangeAt Go.RowKit
open Go.ChangeMaps (open_string shut_string)
set_option linter.unusedVariables false
theorem own : ownKnob Try.prog.godebug = none := by kernel_rfl
set_option maxRecDepth 100000 in
theorem lifted (os : Os) (started : os.Started) (H : Type) (enc : TypeId × Value → H) :
 ReturnsInHanded {} Try.checked os 6 .any (Rows.placeJoinsSpec.pre6 enc Try.prog Try.f6 Rows.placeJoinsRow.domain false) (Rows.placeJoinsSpec.post enc Try.prog Try.f6 false true false false) := by
 refine returnsInHanded_of_change_sized (C := Try.checked) own started (by kernel_rfl) Try.func6
  (ChangeSpec.witness6 (enc := enc) (C := Try.checked) false ⟨#[], #[.string ByteArray.empty, .string ByteArray.empty, .int .i64 0], []⟩ 8 (by kernel_rfl) (by kernel_rfl) (by kernel_rfl) (by kernel_rfl)) ?_
 intro W base args ds gs before hval0 hW hcnd hsz0 _
 have hsz : (DataW.weightsEach Try.prog (Try.f6.params.toList ++ Rows.placeJoinsSpec.plain.varTypes Try.prog) (ds ++ gs)).all (· ≤ reachBytes) = true := hsz0
 have hval : ∀ (j : Nat) t v, Try.f6.params[j]? = some t → args[j]? = some v → Value.okWide Try.prog W .any base t v := hval0
 have hW' := hW
 obtain ⟨p, q, hA0, hV, rfl, hfz, hnd⟩ := hW
 have hA : DataW.TrodAll enc Try.prog W 0 (fun _ => true) true Try.f6.params.toList args.toList ds p := hA0
 rw [Try.params6] at hA hval hsz
 obtain ⟨v0, vs0, d0, ds0, p0, q0, hargs, rfl, rfl, h0, r0⟩ := trodAll_cons hA
 obtain ⟨v1, vs1, d1, ds1, p1, q1, rfl, rfl, rfl, h1, r1⟩ := trodAll_cons r0
 obtain ⟨v2, vs2, d2, ds2, p2, q2, rfl, rfl, rfl, h2, r2⟩ := trodAll_cons r1
 obtain ⟨rfl, rfl, rfl⟩ := trodAll_nil r2
 obtain rfl : args = #[v0, v1, v2] := by cases args; simp_all
 obtain ⟨rfl, rfl⟩ := trodVars_none hV
 obtain ⟨a0, rfl, rfl, rfl, y0⟩ := open_string Try.underlying9 (hval 0 9 v0 rfl rfl) h0
 have w0 : a0.size ≤ 140737488351232 := by
  have z := sized_string hsz (j := 0) (t := 9) rfl rfl
  rw [Array.length_toList] at z
  exact z
 obtain ⟨a1, rfl, rfl, rfl, y1⟩ := open_string Try.underlying9 (hval 1 9 v1 rfl rfl) h1
 have w1 : a1.size ≤ 140737488351232 := by
  have z := sized_string hsz (j := 1) (t := 9) rfl rfl
  rw [Array.length_toList] at z
  exact z
 obtain ⟨a2, rfl, rfl, rfl, w2⟩ := open_int Try.underlying3 (hval 2 3 v2 rfl rfl) h2
 clear hA0 hval0 hsz0 hsz
 refine (Am.placeJoins_walk a0 a1 a2 W w0 w1 w2).mono fun e W' ⟨he, bel⟩ => ?_
 subst he
 exact ⟨_, rfl, _, _, _, [], _, [], hW', trodAll_mk1 (shut_bool Try.underlying4 _), (trodAll_cons_mk (shut_string Try.underlying9 y0) (trodAll_cons_mk (shut_string Try.underlying9 y1) (trodAll_cons_mk (shut_int Try.underlying3 w2) trodAll_mk0))), rfl, bel.frame _, fun h => by cases h⟩
theorem over : Rows.placeJoinsRow.holds Try.pinned (OpenSpec.ofChange Rows.placeJoinsSpec) :=
 OpenClaim.holds_of_wide 6 Try.f6 rfl rfl rfl rfl rfl rfl rfl ⟨rfl, rfl, rfl, rfl, rfl⟩ rfl rfl rfl rfl rfl (by kernel_rfl) Try.func6 (by kernel_rfl)
  (of_decide_eq_true (by kernel_rfl)) (by unfold Func.isWrapper; first | (rw [if_pos (by decide +kernel)]; kernel_rfl) | (rw [if_neg (by decide +kernel)]; exact ⟨rfl, rfl⟩))
  (fun os started H enc _ => lifted os started H enc)
theorem proved : Rows.PlaceJoinsSaid := over
#print axioms proved
end Go.Proofs.Ytabhkocokojddaa.placeJoins
namespace Go.Proofs.Ytabhkocokojddaa
theorem placeJoins_holds : Rows.PlaceJoinsSaid := placeJoins.proved
end Go.Proofs.Ytabhkocokojddaa
