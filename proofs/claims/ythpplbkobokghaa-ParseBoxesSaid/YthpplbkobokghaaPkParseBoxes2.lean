/- LawParseBoxes, part 2: whatever the input, the law comes out true: our texts, joined by a tool, without what the claim does not name. -/
import Derived.Test.YthpplbkobokghaaPkParseBoxes1
import Derived.KernelRfl
import Derived.Recover
import Derived.Lib.OthersKept
import Derived.Laws.RangeString
import Derived.Test.YthpplbkobokghaaProg
set_option maxRecDepth 100000
set_option linter.unusedVariables false
set_option linter.unusedSimpArgs false
set_option linter.unusedVariables false
set_option linter.unusedSimpArgs false
namespace Go.Proofs.Ythpplbkobokghaa.Am
open Go
theorem RW.still {m:Mp} {H:Hp} {w:World} {base:Nat} (h:RW m H w base):RW m.still H0 w w.heap.size where
 blk:=by intro r b v B N hb hm; cases hm
 dom:=by intro r v B N hm; cases hm
 sep:=by intro r v B N r' v' N' hm; cases hm
 fresh:=by intro r _; rfl
 vle:=by intro r v B N hm; cases hm
 frz:=h.frz
 fsep:=by intro i B cells r v N b _ hm; cases hm
 ffin:=h.ffin
 base_le:=Nat.le_refl _
 low:=by show 0 ≤ roots; unfold roots; omega
def PureOk (P:Program) (f:Nat) (xs:List AV) (v:AV):Prop :=
 (∀ (m0:Mp) (w:World) (args:Array Value),(∀ r v,m0 r v = none) → VRs m0 xs args.toList → RW m0 H0 w w.heap.size → Calls P f args w fun x w' => ∃ m' c,x = .returned c ∧ RW m' H0 w' w.heap.size ∧ St m0 w w.heap.size m' w' ∧ VR m' v c) ∧
 (∃ fn,P.funcs[f]? = some fn ∧ (fn.name == "runtime.NumGoroutine") = false ∧ fn.body.isSome = true)
theorem qGp {P:Program} {f:Nat} {xs:List AV} {v:AV} (h:PureOk P f xs v) (hx:purs xs = true) (hv:pur v = true) (H:Hp):CallV P f xs H v H:=by
 refine ⟨?_,h.2⟩
 intro m w base args hargs rw
 refine Calls.mono (h.1 m.still w args (fun _ _=>rfl) (qB7 _ _ hx hargs) rw.still) ?_
 rintro x w' ⟨m',c,rfl,rw',st',hvc⟩
 have hnone:∀ r v,m' r v = none:=by
  intro r v
  cases e:m' r v with
  | none=>rfl
  | some p =>
   obtain ⟨b,hb,_⟩:=rw'.dom r v p.1 p.2 e
   cases hb
 have hsame:∀ B,B < w.heap.size → w'.heap[B]? = w.heap[B]? := fun B hB=>st'.same B hB (fun _ _ _ hm=>by cases hm)
 have hsub:Sub m ⟨m.map,m'.froz⟩:=⟨fun _ _ _ h=>h,st'.sub.2⟩
 refine ⟨⟨m.map,m'.froz⟩,c,rfl,⟨?_,?_,rw.sep,rw.fresh,rw.vle,rw'.frz,?_,rw'.ffin,Nat.le_trans rw.base_le st'.size,rw.low⟩,⟨hsub,fun r v B N e => .inl ⟨v,N,e⟩,?_,st'.size,st'.os,st'.tape,st'.output,fun B hB _=>hsame B hB⟩,?_⟩
 ·intro r b v B N hb hm h1 h2
  obtain ⟨cs,ty,fr,q1,q2,q3,q4,q5⟩:=rw.blk r b v B N hb hm h1 h2
  obtain ⟨_,_,_,hlt,_⟩:=rw.dom r v B N hm
  exact ⟨cs,ty,fr,by rw [hsame B hlt]; exact q1,q2,q3,q4,VRs.mono hsub _ _ q5⟩
 ·intro r v B N hm
  obtain ⟨b,q1,q2,q3,q4⟩:=rw.dom r v B N hm
  exact ⟨b,q1,q2,Nat.lt_of_lt_of_le q3 st'.size,q4⟩
 ·intro i B cells r v N b hi hm hb
  rcases st'.fext i B cells hi with hi' | ⟨hB,_⟩
  ·exact rw.fsep i B cells r v N b hi' hm hb
  ·obtain ⟨_,_,_,hlt,_⟩:=rw.dom r v B N hm
   omega
 ·intro i B cells e
  rcases st'.fext i B cells e with hi' | ⟨hB,_⟩
  ·exact .inl hi'
  ·exact .inr ⟨Nat.le_trans rw.base_le hB,.inr hB⟩
 ·have h1:=qJm v c hv hvc
  exact VR.mono (m:=m'.still) (m':=⟨m.map,m'.froz⟩) ⟨fun _ _ _ h=>(by cases h),fun _ _ h=>h⟩ v c h1
inductive Fr where
 | seq (b:Code) | block (id:Nat) | loop (b:Code) | scope (b:Code)
inductive Pt where
 | code (c:Code) (K:List Fr)
 | ops (o:Array Oper) (n:Nat) (K:List Fr)
 | loop (b:Code) (K:List Fr)
 | fin
def FinK (P : Program) (Q : Exit → Act → World → Prop) : List Fr → Exit → Act → World → Prop
 | []=>Q
 | .seq b :: K=>Exit.then (b.wp P (FinK P Q K)) (FinK P Q K)
 | .block id :: K=>Exit.inBlock id (FinK P Q K)
 | .loop b :: K=>Exit.then (LoopWp P b (FinK P Q K)) (FinK P Q K)
 | .scope b :: K=>fun e a w=>match e with | .goto l => ∃ rest,findLabel b l = some rest ∧ ScopeWp P b rest (FinK P Q K) a w | e=>FinK P Q K e a w
def At (P : Program) (Q : Exit → Act → World → Prop) : Pt → Act → World → Prop
 | .code c K,a,w=>c.wp P (FinK P Q K) a w
 | .ops o n K,a,w=>wpOps P o (FinK P Q K) (List.range' n (o.size - n)) a w
 | .loop b K,a,w=>LoopWp P b (FinK P Q K) a w
 | .fin,a,w=>Q .normal a w ∧ Q .ret a w
def resume : List Fr → Pt
 | [] => .fin
 | .seq b :: K => .code b K
 | .block _ :: K=>resume K
 | .loop b :: K => .loop b K
 | .scope _ :: K=>resume K
theorem qAw {P : Program} {Q : Exit → Act → World → Prop} {a : Act} {w : World} : ∀ {K : List Fr}, At P Q (resume K) a w → FinK P Q K .normal a w
 | [],h=>h.1
 | .seq b :: K,h=>h
 | .block id :: K,h=>by show Exit.inBlock id (FinK P Q K) .normal a w; exact qAw (K:=K) h
 | .loop b :: K,h=>h
 | .scope b :: K,h=>qAw (K:=K) h
def exitK (id : Nat) : List Fr → Option Pt
 | []=>none
 | .block j :: K=>if id = j then some (resume K) else exitK id K
 | .seq _ :: K=>exitK id K
 | .loop _ :: K=>exitK id K
 | .scope _ :: K=>exitK id K
theorem qCi {P : Program} {Q : Exit → Act → World → Prop} {a : Act} {w : World} {id : Nat} {p : Pt} : ∀ {K : List Fr}, exitK id K = some p → At P Q p a w → FinK P Q K (.exit id) a w
 | [],h,_=>by cases h
 | .seq b :: K,h,k=>qCi (K:=K) h k
 | .loop b :: K,h,k=>qCi (K:=K) h k
 | .scope b :: K,h,k=>qCi (K:=K) h k
 | .block j :: K,h,k=>by
  simp only [exitK] at h
  show Exit.inBlock j (FinK P Q K) (.exit id) a w
  simp only [Exit.inBlock]
  split at h
  ·rename_i e
   cases h
   rw [if_pos e]
   exact qAw k
  ·rename_i e
   rw [if_neg e]
   exact qCi h k
def gotoK (l : Nat) : List Fr → Option Pt
 | []=>none
 | .scope b :: K=>match findLabel b l with | some rest=>some (.code rest (.scope b :: K)) | none=>none
 | .block _ :: K=>gotoK l K
 | .seq _ :: K=>gotoK l K
 | .loop _ :: K=>gotoK l K
theorem qFp {P:Program} {Q:Exit → Act → World → Prop} {a:Act} {w:World} {b c:Code} {K:List Fr} (h:c.wp P (FinK P Q (.scope b :: K)) a w):ScopeWp P b c (FinK P Q K) a w :=
 ScopeWp.of (wp_mono h fun e a1 w1 he=>by cases e <;> exact he)
theorem qD0 {P : Program} {Q : Exit → Act → World → Prop} {a : Act} {w : World} {l : Nat} {p : Pt} : ∀ {K : List Fr}, gotoK l K = some p → At P Q p a w → FinK P Q K (.goto l) a w
 | [],h,_=>by cases h
 | .seq b :: K,h,k=>qD0 (K:=K) h k
 | .loop b :: K,h,k=>qD0 (K:=K) h k
 | .block b :: K,h,k=>qD0 (K:=K) h k
 | .scope b :: K,h,k=>by
  simp only [gotoK] at h
  split at h
  ·rename_i rest hf
   cases h
   exact ⟨rest,hf,qFp k⟩
  ·cases h
theorem qD9 {P : Program} {Q : Exit → Act → World → Prop} {a : Act} {w : World} (h : Q .ret a w) : ∀ (K : List Fr), FinK P Q K .ret a w
 | []=>h
 | .seq b :: K=>qD9 h K
 | .loop b :: K=>qD9 h K
 | .block b :: K=>qD9 h K
 | .scope b :: K=>qD9 h K
inductive FzG (n0:Nat) (H:Hp):List AV → List AV → Prop where
 | pures {xs}:purs xs = true → FzG n0 H xs xs
 | cons {x xs ys}:pur x = true → FzG n0 H xs ys → FzG n0 H (x :: xs) (x :: ys)
 | nil {sz xs ys}:FzG n0 H xs ys → FzG n0 H (.nils :: xs) (.vec 0 sz [] :: ys)
 | own {r len sz cells cells' minv xs ys}:Nat.ble n0 r = true → H.t.get r = some ⟨cells,minv,false⟩ → cells.length = len * sz → minv ≤ len * sz → FzG n0 H cells cells' → FzG n0 H xs ys → FzG n0 H (.own r len sz :: xs) (.vec len sz cells' :: ys)
 | slice {r len sz v cells cells' minv xs ys}:Nat.ble n0 r = true → H.t.get r = some ⟨cells,minv,false⟩ → cells.length = len * sz → v = len * sz → minv ≤ len * sz → FzG n0 H cells cells' → FzG n0 H xs ys → FzG n0 H (.slice r v 0 len sz :: xs) (.vec len sz cells' :: ys)
 | agg {xs ys zs us}:FzG n0 H xs ys → FzG n0 H zs us → FzG n0 H (.agg xs :: zs) (.agg ys :: us)
 | tuple {xs ys zs us}:FzG n0 H xs ys → FzG n0 H zs us → FzG n0 H (.tuple xs :: zs) (.tuple ys :: us)
structure FOk (n0:Nat) (m:Mp) (F:Nat → Option (Nat × List AV)) (w:World) (base:Nat):Prop where
 ok:∀ i B cells,F i = some (B,cells) → ∃ cs ty fr,w.heap[B]? = some (.cells cs ty fr) ∧ cells.length ≤ cs.size ∧ VRs ⟨fun _ _=>none,F⟩ cells (cs.toList.take cells.length)
 fin:∃ n,∀ i,n ≤ i → F i = none
 new:∀ i B cells,F i = some (B,cells) → m.froz i = some (B,cells) ∨ base ≤ B ∧ ∃ r v N,n0 ≤ r ∧ m r v = some (B,N)
 sub:∀ i p,m.froz i = some p → F i = some p
theorem FzG.length {n0:Nat} {H:Hp} {xs ys:List AV} (h:FzG n0 H xs ys):ys.length = xs.length:=by
 induction h <;> simp_all
theorem qIw {n0 : Nat} {m : Mp} {F : Nat → Option (Nat × List AV)} {w : World} {base B : Nat} {cells : List AV} {cs : Array Value} {ty : TypeId} {fr : Nat × Nat} (h : FOk n0 m F w base) (hB : base ≤ B) (hmB : ∃ r v N, n0 ≤ r ∧ m r v = some (B, N)) (hw : w.heap[B]? = some (.cells cs ty fr)) (hl : cells.length ≤ cs.size) (hv : VRs ⟨fun _ _ => none, F⟩ cells (cs.toList.take cells.length)) :
 ∃ F' i,FOk n0 m F' w base ∧ F' i = some (B,cells) ∧ (∀ i p,F i = some p → F' i = some p):=by
 obtain ⟨n,hn⟩:=h.fin
 have hsub:∀ i p,F i = some p → (fun i=>if i = n then some (B,cells) else F i) i = some p:=by
  intro i p hi
  simp only
  rw [if_neg]
  ·exact hi
  ·rintro rfl; rw [hn _ (Nat.le_refl _)] at hi; cases hi
 have hS:Sub ⟨fun _ _=>none,F⟩ ⟨fun _ _=>none,fun i=>if i = n then some (B,cells) else F i⟩:=⟨fun _ _ _ e=>(by cases e),hsub⟩
 refine ⟨fun i=>if i = n then some (B,cells) else F i,n,⟨?_,⟨n + 1,fun i hi=>?_⟩,?_,fun i p hi=>hsub i p (h.sub i p hi)⟩,by simp,hsub⟩
 ·intro i B' cells' hi
  by_cases e:i = n
  ·simp only [e,if_true] at hi
   cases hi
   exact ⟨cs,ty,fr,hw,hl,VRs.mono hS _ _ hv⟩
  ·simp only [e,if_false] at hi
   obtain ⟨cs2,ty2,fr2,h1,h2,h3⟩:=h.ok i B' cells' hi
   exact ⟨cs2,ty2,fr2,h1,h2,VRs.mono hS _ _ h3⟩
 ·have hne:¬ i = n:=by omega
  show (if i = n then some (B,cells) else F i) = none
  rw [if_neg hne]
  exact hn i (by omega)
 ·intro i B' cells' hi
  by_cases e:i = n
  ·simp only [e,if_true] at hi
   cases hi
   exact .inr ⟨hB,hmB⟩
  ·simp only [e,if_false] at hi
   exact h.new i B' cells' hi
theorem qD4 (m:Mp) (sz:Nat):VR m (.vec 0 sz []) (.slice none 0 0):=by
 simp only [VR]
 exact ⟨by simp,none,0,rfl,Nat.le_refl _,by simp,by simp⟩
theorem fz_ok {n0:Nat} {m:Mp} {H:Hp} {w:World} {base:Nat} (rw:RW m H w base) {xs ys:List AV} (h:FzG n0 H xs ys):∀ {cs:List Value} {F:Nat → Option (Nat × List AV)},FOk n0 m F w base → VRs m xs cs → ∃ F',FOk n0 m F' w base ∧ (∀ i p,F i = some p → F' i = some p) ∧ VRs ⟨fun _ _=>none,F'⟩ ys cs:=by
 have still:∀ {F:Nat → Option (Nat × List AV)},FOk n0 m F w base → Sub m.still ⟨fun _ _=>none,F⟩:=fun hF=>⟨fun _ _ _ e=>(by cases e),hF.sub⟩
 have grow:∀ {F F':Nat → Option (Nat × List AV)},(∀ i p,F i = some p → F' i = some p) → Sub ⟨fun _ _=>none,F⟩ ⟨fun _ _=>none,F'⟩:=fun h=>⟨fun _ _ _ e=>(by cases e),h⟩
 have block : ∀ {r len sz minv cap B N : Nat} {cells cells' : List AV}, Nat.ble n0 r = true → H.t.get r = some ⟨cells, minv, false⟩ → cells.length = len * sz → minv ≤ len * sz → cells'.length = cells.length →
  (∀ {cs:List Value} {F:Nat → Option (Nat × List AV)},FOk n0 m F w base → VRs m cells cs → ∃ F',FOk n0 m F' w base ∧ (∀ i p,F i = some p → F' i = some p) ∧ VRs ⟨fun _ _=>none,F'⟩ cells' cs) →
  ∀ {F:Nat → Option (Nat × List AV)},FOk n0 m F w base → m r (len * sz) = some (B,N) → len ≤ cap → ∃ F',FOk n0 m F' w base ∧ (∀ i p,F i = some p → F' i = some p) ∧ VR ⟨fun _ _=>none,F'⟩ (.vec len sz cells') (.slice (some ⟨B,0,none⟩) len cap):=by
  intro r len sz minv cap B N cells cells' h0r hb hl hmin hl' ih F hF hm hcap
  obtain ⟨cs,ty,fr,q1,q2,q3,q4,q5⟩:=rw.blk _ _ _ _ _ hb hm hmin (by rw [hl]; exact Nat.le_refl _)
  obtain ⟨b0,hb0,_,_,hbase⟩:=rw.dom _ _ _ _ hm
  rw [hb] at hb0
  cases hb0
  simp only at q5
  rw [List.take_of_length_le (by omega)] at q5
  obtain ⟨F1,h1,h2,h3⟩:=ih hF q5
  obtain ⟨F2,i,g1,g2,g3⟩:=qIw h1 (hbase rfl) ⟨r,_,_,Nat.le_of_ble_eq_true h0r,hm⟩ q1 (cells:=cells') (by omega) (by rw [hl',hl]; exact h3)
  refine ⟨F2,g1,fun i p hi=>g3 i p (h2 i p hi),?_⟩
  simp only [VR]
  refine ⟨by omega,_,cap,rfl,hcap,fun e=>(by cases e),fun _=>⟨i,B,0,cells',g2,rfl,?_,by omega⟩⟩
  rw [List.drop_zero,List.take_of_length_le (by omega)]
 induction h with
 | pures hp =>
  intro cs F hF hv
  exact ⟨F,hF,fun _ _ h=>h,VRs.mono (still hF) _ _ (qB7 _ _ hp hv)⟩
 | cons hp _ ih =>
  intro cs F hF hv
  simp only [VRs] at hv ⊢
  obtain ⟨y,ys,rfl,h1,h2⟩:=hv
  obtain ⟨F',g1,g2,g3⟩:=ih hF h2
  exact ⟨F',g1,g2,y,ys,rfl,VR.mono (still g1) _ _ (qJm _ _ hp h1),g3⟩
 | nil _ ih =>
  intro cs F hF hv
  simp only [VRs] at hv ⊢
  obtain ⟨y,ys,rfl,h1,h2⟩:=hv
  obtain ⟨F',g1,g2,g3⟩:=ih hF h2
  simp only [VR] at h1
  subst h1
  exact ⟨F',g1,g2,_,ys,rfl,qD4 _ _,g3⟩
 | @own r len sz cells cells' minv xs ys h0r hb hl hmin hc _ ih1 ih2 =>
  intro cs F hF hv
  simp only [VRs] at hv
  obtain ⟨c,cs',rfl,h1,h2⟩:=hv
  simp only [VR] at h1
  rcases h1 with ⟨h0,rfl⟩ | ⟨B,N,cap,hm,hcap,hN,rfl⟩
  ·obtain ⟨F',g1,g2,g3⟩:=ih2 hF h2
   refine ⟨F',g1,g2,?_⟩
   subst h0
   obtain rfl:cells' = []:=List.length_eq_zero_iff.1 (by rw [hc.length]; omega)
   simp only [VRs]
   exact ⟨_,_,rfl,qD4 _ _,g3⟩
  ·obtain ⟨F1,g1,g2,g3⟩:=block h0r hb hl hmin hc.length ih1 hF hm hcap
   obtain ⟨F',e1,e2,e3⟩:=ih2 g1 h2
   refine ⟨F',e1,fun i p hi=>e2 i p (g2 i p hi),?_⟩
   simp only [VRs]
   exact ⟨_,_,rfl,VR.mono (grow e2) _ _ g3,e3⟩
 | @slice r len sz v cells cells' minv xs ys h0r hb hl hv0 hmin hc _ ih1 ih2 =>
  intro cs F hF hv
  simp only [VRs] at hv
  obtain ⟨c,cs',rfl,h1,h2⟩:=hv
  simp only [VR] at h1
  obtain ⟨B,N,cap,hm,_,hcap,hN,rfl⟩:=h1
  subst hv0
  obtain ⟨F1,g1,g2,g3⟩:=block h0r hb hl hmin hc.length ih1 hF hm hcap
  obtain ⟨F',e1,e2,e3⟩:=ih2 g1 h2
  refine ⟨F',e1,fun i p hi=>e2 i p (g2 i p hi),?_⟩
  simp only [VRs]
  exact ⟨_,_,rfl,VR.mono (grow e2) _ _ g3,e3⟩
 | agg _ _ ih1 ih2 =>
  intro cs F hF hv
  simp only [VRs,VR] at hv ⊢
  obtain ⟨c,cs',rfl,⟨zs,rfl,h1⟩,h2⟩:=hv
  obtain ⟨F1,g1,g2,g3⟩:=ih1 hF h1
  obtain ⟨F',e1,e2,e3⟩:=ih2 g1 h2
  exact ⟨F',e1,fun i p hi=>e2 i p (g2 i p hi),_,_,rfl,⟨zs,rfl,VRs.mono (grow e2) _ _ g3⟩,e3⟩
 | tuple _ _ ih1 ih2 =>
  intro cs F hF hv
  simp only [VRs,VR] at hv ⊢
  obtain ⟨c,cs',rfl,⟨zs,rfl,h1⟩,h2⟩:=hv
  obtain ⟨F1,g1,g2,g3⟩:=ih1 hF h1
  obtain ⟨F',e1,e2,e3⟩:=ih2 g1 h2
  exact ⟨F',e1,fun i p hi=>e2 i p (g2 i p hi),_,_,rfl,⟨zs,rfl,VRs.mono (grow e2) _ _ g3⟩,e3⟩
structure Fx (R:Type) where
 P:Program
 C:Cx
 fn:Func
 enc:R → AV
 n0:Nat
 fin:R → Hp
 hti:∀ t i,C.ti t = some i → mkTi P t = some i
 ord:P.follows .mixedOrders = true
 thr:R → Option (Value × List Nat)
 dfs:Bool
section
variable {R:Type} (X:Fx R)
def Ret (r:R) (m0:Mp) (w0:World) (b0:Nat):Exit → Act → World → Prop :=
 match X.dfs with
 | true=>bodyPostD X.P X.fn (EndT (X.thr r) (X.enc r) (X.fin r) m0 w0 b0)
 | false=>bodyPost X.P X.fn (EndT (X.thr r) (X.enc r) (X.fin r) m0 w0 b0)
theorem qFr {X:Fx R} {r:R} {m0:Mp} {w0:World} {b0:Nat} {a:Act} {w:World} {c:Value} (hd:a.defers = []) (h1:(results X.fn a.tmps).run X.P w = .ok c w) (h2:EndT (X.thr r) (X.enc r) (X.fin r) m0 w0 b0 (.returned c) w):Ret X r m0 w0 b0 .normal a w ∧ Ret X r m0 w0 b0 .ret a w:=by
 have:Leaves X.P X.fn a.tmps (EndT (X.thr r) (X.enc r) (X.fin r) m0 w0 b0) a.defers .returning w:=by rw [hd]; exact ⟨c,h1,h2⟩
 unfold Ret
 cases X.dfs
 ·exact ⟨⟨hd,c,h1,h2⟩,⟨hd,c,h1,h2⟩⟩
 ·exact ⟨this,this⟩
theorem qMg {X:Fx R} {r:R} {m0:Mp} {w0:World} {b0:Nat} {a:Act} {w:World} {ch:List PanicEntry} (hd:a.defers = []) (h2:EndT (X.thr r) (X.enc r) (X.fin r) m0 w0 b0 (.panicked ch) w):Ret X r m0 w0 b0 (.panic ch) a w:=by
 have:Leaves X.P X.fn a.tmps (EndT (X.thr r) (X.enc r) (X.fin r) m0 w0 b0) a.defers (.panicking ch) w:=by rw [hd]; exact h2
 unfold Ret
 cases X.dfs
 ·exact ⟨hd,h2⟩
 ·exact this
theorem qGo {X:Fx R} {r:R} {m0:Mp} {w0:World} {b0:Nat} {f:Nat} {c:Code} {args:Array Value} {w:World} (hf:X.P.funcs[f]? = some X.fn) (hc:X.fn.body = some c) (h:c.wp X.P (Ret X r m0 w0 b0) { tmps:=args ++ Array.replicate (X.fn.ntmps - args.size) undef,defers:=[] } w):Calls X.P f args w (EndT (X.thr r) (X.enc r) (X.fin r) m0 w0 b0):=by
 unfold Ret at h
 cases hd:X.dfs with
 | true=>rw [hd] at h; exact calls_of_wp_defers hf hc h
 | false=>rw [hd] at h; exact calls_of_wp hf hc h
def Ok (p:Pt) (env:Env) (H:Hp) (t:Option R):Prop := ∀ r,t = some r → ∀ (m0:Mp) (w0:World) (b0:Nat) (m:Mp) (w:World) (a:Act),((∀ r v p,m0 r v = some p → r < X.n0) ∧ b0 ≤ w0.heap.size) → FR m env a.tmps → X.fn.ntmps ≤ a.tmps.size → a.defers = [] → RW m H w b0 → St m0 w0 b0 m w → At X.P (Ret X r m0 w0 b0) p a w
end
section
variable {R:Type} {X:Fx R} {p p':Pt} {env eE:Env} {H H':Hp}
theorem ok_none:Ok X p env H none:=by intro r h; cases h
theorem qA7 {α:Type} {m:Option α} {f:α → Option R} (h:∀ x,m = some x → Ok X p env H (f x)):Ok X p env H (m.bind f):=by
 intro r hr
 cases hm:m with
 | none=>rw [hm] at hr; cases hr
 | some x=>rw [hm] at hr; exact h x hm r hr
theorem qHs {t:Option R} (h:Less env eE) (k:Ok X p eE H t):Ok X p env H t :=
 fun r hr m0 w0 b0 m w a h0 fr hn hd rw st=>k r hr m0 w0 b0 m w a h0 (fr.less h) hn hd rw st
theorem qHt {t:Option R} (ks:List Nat) (h:keepOnly env ks = eE) (k:Ok X p eE H t):Ok X p env H t :=
 qHs (h ▸ qBg ks env) k
theorem ok_heap {t:Option R} (h:H = H') (k:Ok X p env H' t):Ok X p env H t:=h ▸ k
theorem qA {t:Option R} (h:env = eE) (k:Ok X p eE H t):Ok X p env H t:=h ▸ k
theorem qJv {d:Nat} {v:AV} (h:look env d = v):Less env (putE env d v):=by
 intro t
 rw [qB5]
 split
 ·rename_i e; subst e; exact .inr h.symm
 ·exact .inr rfl
theorem ok_split {t1 t2:Option R} (d:Nat) {b:Bool} (h:look env d = .bool b) (k1:b = true → Ok X p ((d,.bool true) :: env) H t1) (k2:b = false → Ok X p ((d,.bool false) :: env) H t2):Ok X p env H (if b then t1 else t2):=by
 cases b with
 | true=>exact qHs (qJv h) (k1 rfl)
 | false=>exact qHs (qJv h) (k2 rfl)
abbrev jn {α R:Type} (f:α → Option R) (b:(α → Option R) → Option R):Option R:=b f
theorem oJ {α:Type} {f:α → Option R} {b:(α → Option R) → Option R} (pj:Pt) (E:α → Env) (G:α → Hp) (k1:∀ x,Ok X pj (E x) (G x) (f x)) (k2:∀ j:α → Option R,(∀ x,Ok X pj (E x) (G x) (j x)) → Ok X p env H (b j)):Ok X p env H (jn f b):=k2 f k1
theorem qGz {t:Option R} {ops:Array Oper} {n:Nat} {K:List Fr} {o:Oper} {v:AV} (ho:ops[n]? = some o) (hd:dstOk X.fn.ntmps o = true) (hw:wantedV o ops.toList env = some true) (hs:Stp X.P X.C env H o v H') (k:Ok X (.ops ops (n + 1) K) (putV env o.dst v) H' t):Ok X (.ops ops n K) env H t:=by
 intro r hr m0 w0 b0 m w a h0 fr hn hdf rw st
 show wpOps X.P ops _ (List.range' n (ops.size - n)) a w
 have hlt:n < ops.size:=(Array.getElem?_eq_some_iff.1 ho).1
 rw [show ops.size - n = (ops.size - (n + 1)) + 1 by omega,List.range'_succ]
 simp only [wpOps,ho]
 rw [qB2 hw fr]
 simp only [if_true]
 refine .inl ?_
 refine qM6 X.hti hs fr rw _ _ fun m' w' c q1 q2 q3=>?_
 obtain ⟨f1,f2,f3⟩:=qBh (fr.mono q2.sub) hn hdf o hd v c q3
 exact k r hr m0 w0 b0 m' w' _ h0 f1 f2 f3 q1 (st.trans h0.2 q2)
theorem ok_skp {t:Option R} {ops:Array Oper} {n:Nat} {K:List Fr} {o:Oper} (ho:ops[n]? = some o) (hd:dstOk X.fn.ntmps o = true) (hw:wantedV o ops.toList env = some false) (k:Ok X (.ops ops (n + 1) K) (putV env o.dst (.tuple [])) H t):Ok X (.ops ops n K) env H t:=by
 intro r hr m0 w0 b0 m w a h0 fr hn hdf rw st
 show wpOps X.P ops _ (List.range' n (ops.size - n)) a w
 have hlt:n < ops.size:=(Array.getElem?_eq_some_iff.1 ho).1
 rw [show ops.size - n = (ops.size - (n + 1)) + 1 by omega,List.range'_succ]
 simp only [wpOps,ho]
 rw [qB2 hw fr]
 simp only [Bool.false_eq_true,if_false]
 obtain ⟨f1,f2,f3⟩:=qBh fr hn hdf o hd (.tuple []) undef (qGj _)
 exact k r hr m0 w0 b0 m w _ h0 f1 f2 f3 rw st
theorem qE6 {t:Option R} (h:∀ (Q:Exit → Act → World → Prop) (a:Act) (w:World),True → At X.P Q p' a w → At X.P Q p a w) (k:Ok X p' env H t):Ok X p env H t :=
 fun r hr m0 w0 b0 m w a h0 fr hn hd rw st=>h _ a w trivial (k r hr m0 w0 b0 m w a h0 fr hn hd rw st)
end
section
variable {R:Type} {X:Fx R} {p p':Pt} {env eE:Env} {H H':Hp}
noncomputable def stepV (C:Cx) (n:Nat) (p:Pt) (env:Env) (H:Hp):Option (Pt × Env × Hp) :=
 match p with
 | .ops ops k K=>match nth ops.toList k with
  | some o=>bif dstOk n o then (match wantedV o ops.toList env with
   | some true=>(match opV C env H o with | some (v,H')=>some (.ops ops (k + 1) K,putV env o.dst v,H') | none=>none)
   | some false=>some (.ops ops (k + 1) K,putV env o.dst (.tuple []),H)
   | none=>none) else none
  | none=>some (resume K,env,H)
 | .code c K=>match c with
  | .seq a b=>some (.code a (.seq b :: K),env,H)
  | .skip=>some (resume K,env,H)
  | .label _=>some (resume K,env,H)
  | .block id b=>some (.code b (.block id :: K),env,H)
  | .scope b=>some (.code b (.scope b :: K),env,H)
  | .loop b=>some (.loop b K,env,H)
  | .exit id=>match exitK id K with | some q=>some (q,env,H) | none=>none
  | .goto l=>match gotoK l K with | some q=>some (q,env,H) | none=>none
  | .ret=>some (.fin,env,H)
  | .region id ops draw=>bif draw then none else some (.ops ops 0 K,env,H)
  | .cond c x y=>match opnd env c with | .bool b=>some (.code (bif b then x else y) K,env,H) | _=>none
  | _=>none
 | _=>none
theorem fin_ops {t:Option R} {ops:Array Oper} {n:Nat} {K:List Fr} (h:ops[n]? = none) (k:Ok X (resume K) env H t):Ok X (.ops ops n K) env H t:=by
 intro r hr m0 w0 b0 m w a h0 fr hn hd rw st
 show wpOps X.P ops _ (List.range' n (ops.size - n)) a w
 have hle:ops.size ≤ n:=by
  rcases Nat.lt_or_ge n ops.size with h1 | h1
  ·rw [Array.getElem?_eq_getElem h1] at h; cases h
  ·exact h1
 rw [show ops.size - n = 0 by omega]
 exact qAw (k r hr m0 w0 b0 m w a h0 fr hn hd rw st)
theorem stepV_ok {t:Option R} (h:stepV X.C X.fn.ntmps p env H = some (p',eE,H')) (k:Ok X p' eE H' t):Ok X p env H t:=by
 cases p with
 | ops ops n K =>
  simp only [stepV] at h
  rw [qC8,Array.getElem?_toList] at h
  cases ho:ops[n]? with
  | none=>rw [ho] at h; cases h; exact fin_ops ho k
  | some o =>
   rw [ho] at h
   simp only at h
   cases hd:dstOk X.fn.ntmps o with
   | false=>rw [hd] at h; cases h
   | true =>
    rw [hd] at h
    simp only [cond_true] at h
    split at h
    ·rename_i hw
     split at h
     ·rename_i v H1 hv
      cases h
      exact qGz ho hd hw (.inl hv) k
     ·cases h
    ·rename_i hw
     cases h
     exact ok_skp ho hd hw k
    ·cases h
 | code c K =>
  cases c <;> simp only [stepV] at h
  case seq x y=>cases h; exact qE6 (p' := .code x (.seq y :: K)) (fun Q a w _ hh=>wp_seq (wp_mono hh fun e a w he=>by cases e <;> exact he)) k
  case skip=>cases h; exact qE6 (fun Q a w _ hh=>wp_skip (qAw hh)) k
  case label=>cases h; exact qE6 (fun Q a w _ hh=>wp_label (qAw hh)) k
  case block id b=>cases h; exact qE6 (p' := .code b (.block id :: K)) (fun Q a w _ hh=>wp_block hh) k
  case scope b=>cases h; exact qE6 (p' := .code b (.scope b :: K)) (fun Q a w _ hh=>(qFp hh).wp) k
  case loop b=>cases h; exact qE6 (p' := .loop _ _) (fun Q a w _ hh=>LoopWp.wp hh) k
  case exit id =>
   split at h
   ·rename_i q hq
    cases h
    exact qE6 (fun Q a w _ hh=>wp_exit (qCi hq hh)) k
   ·cases h
  case goto l =>
   split at h
   ·rename_i q hq
    cases h
    exact qE6 (fun Q a w _ hh=>wp_goto (qD0 hq hh)) k
   ·cases h
  case ret=>cases h; exact qE6 (p' := .fin) (fun Q a w _ hh=>wp_ret (qD9 hh.2 K)) k
  case region id ops draw =>
   cases draw with
   | true=>cases h
   | false =>
    cases h
    refine qE6 (fun Q a w _ hh=>wp_region ?_) k
    have hh':wpOps X.P ops (FinK X.P Q K) (List.range' 0 (ops.size - 0)) a w:=hh
    rw [List.range_eq_range']
    exact hh'
  case cond c x y =>
   split at h
   ·rename_i b hb
    cases h
    intro r hr m0 w0 b0 m w a h0 fr hn hd rw st
    have hc:=qBz fr c
    rw [hb] at hc
    simp only [VR] at hc
    refine wp_cond hc ?_
    have:=k r hr m0 w0 b0 m w a h0 fr hn hd rw st
    cases b <;> exact this
   ·cases h
  all_goals cases h
 | loop b K=>cases h
 | fin=>cases h
noncomputable def runV (C:Cx) (n:Nat) (k:Nat):Pt → Env → Hp → Option (Pt × Env × Hp) :=
 Nat.rec (motive := fun _ => Pt → Env → Hp → Option (Pt × Env × Hp)) (fun p env H => some (p, env, H))
  (fun _ ih p env H=>match stepV C n p env H with | some (p',eE,H')=>ih p' eE H' | none=>none) k
theorem qEw {t : Option R} : ∀ (k : Nat) {p : Pt} {env : Env} {H : Hp}, runV X.C X.fn.ntmps k p env H = some (p', eE, H') → Ok X p' eE H' t → Ok X p env H t
 | 0,p,env,H,h,g=>by
  have h':some (p,env,H) = some (p',eE,H'):=h
  cases h'
  exact g
 | k + 1,p,env,H,h,g=>by
  have h':(match stepV X.C X.fn.ntmps p env H with | some (p',eE,H')=>runV X.C X.fn.ntmps k p' eE H' | none=>none) = some (p',eE,H'):=h
  split at h'
  ·rename_i p1 env1 H1 hs
   exact stepV_ok hs (qEw k h' g)
  ·cases h'
def entL : Pt → Option Pt
 | .loop b K=>some (.code b (.loop b :: K))
 | _=>none
theorem qAf {t:Option R} (h:entL p = some p') (k:Ok X p' env H t):Ok X p env H t:=by
 cases p <;> simp only [entL] at h <;> cases h
 exact qE6 (p' := .code _ (.loop _ :: _)) (fun Q a w _ hh=>LoopWp.of (wp_mono hh fun e a w he=>by cases e <;> exact he)) k
noncomputable def operAt (n:Nat) (p:Pt) (env:Env):Option Oper :=
 match p with
 | .ops ops k K=>match nth ops.toList k with
  | some o=>bif dstOk n o then (match wantedV o ops.toList env with | some true=>some o | _=>none) else none
  | none=>none
 | _=>none
def adv : Pt → Pt
 | .ops ops k K => .ops ops (k + 1) K
 | q=>q
noncomputable def evalAt (C:Cx) (n:Nat) (p:Pt) (env:Env) (H:Hp):Option (AV × Hp) :=
 match operAt n p env with | some o=>opV C env H o | none=>none
noncomputable def advE (n:Nat) (p:Pt) (env:Env) (v:AV):Option (Pt × Env) :=
 match operAt n p env with | some o=>some (adv p,putV env o.dst v) | none=>none
noncomputable def callAt (n:Nat) (p:Pt) (env:Env):Option (Nat × List AV) :=
 match operAt n p env with
 | some o=>match o.op with
  | .call c=>match c.callee with
   | .value g=>match opnd env g with
    | .func f first caps=>some (f,first ++ opnds env c.args.toList ++ caps)
    | _=>none
   | _=>none
  | _=>none
 | none=>none
theorem qAs {n:Nat} {o:Oper} (h:operAt n p env = some o):∃ ops k K,p = .ops ops k K ∧ ops[k]? = some o ∧ dstOk n o = true ∧ wantedV o ops.toList env = some true:=by
 cases p <;> simp only [operAt] at h <;> try (cases h; done)
 rename_i ops k K
 rw [qC8,Array.getElem?_toList] at h
 cases ho:ops[k]? with
 | none=>rw [ho] at h; cases h
 | some o' =>
  rw [ho] at h
  simp only at h
  cases hd:dstOk n o' with
  | false=>rw [hd] at h; cases h
  | true =>
   rw [hd] at h
   simp only [cond_true] at h
   split at h
   ·rename_i hw
    cases h
    exact ⟨ops,k,K,rfl,ho,hd,hw⟩
   ·cases h
theorem ok_val {t:Option R} {v:AV} (h:evalAt X.C X.fn.ntmps p env H = some (v,H')) (ha:advE X.fn.ntmps p env v = some (p',eE)) (k:Ok X p' eE H' t):Ok X p env H t:=by
 unfold evalAt at h
 unfold advE at ha
 cases ho:operAt X.fn.ntmps p env with
 | none=>rw [ho] at h; cases h
 | some o =>
  rw [ho] at h ha
  simp only at h ha
  cases ha
  obtain ⟨ops,n,K,rfl,h1,h2,h3⟩:=qAs ho
  exact qGz h1 h2 h3 (.inl h) k
theorem ok_chk {α:Type} {m:Option α} {f:α → Option R} (g:α → AV × Hp) (p':Pt) (E:α → Env) (h:evalAt X.C X.fn.ntmps p env H = m.map g) (ha:∀ x,advE X.fn.ntmps p env (g x).1 = some (p',E x)) (k:∀ x,m = some x → Ok X p' (E x) (g x).2 (f x)):Ok X p env H (m.bind f):=by
 refine qA7 fun x hx=>?_
 subst hx
 exact ok_val (v:=(g x).1) (H':=(g x).2) h (ha x) (k x rfl)
theorem qN {α:Type} {m:Option α} {f:α → Option R} {fi:Nat} {args:List AV} (g:α → AV) (p':Pt) (E:α → Env) (hc:callAt X.fn.ntmps p env = some (fi,args)) (hp:purs args = true) (hg:∀ x,pur (g x) = true) (hf:∀ x,m = some x → PureOk X.P fi args (g x)) (ha:∀ x,advE X.fn.ntmps p env (g x) = some (p',E x)) (k:∀ x,m = some x → Ok X p' (E x) H (f x)):Ok X p env H (m.bind f):=by
 refine qA7 fun x hx=>?_
 have hpo:=qGp (hf x hx) hp (hg x) H
 have hax:=ha x
 unfold advE at hax
 unfold callAt at hc
 cases ho:operAt X.fn.ntmps p env with
 | none=>rw [ho] at hax; cases hax
 | some o =>
  rw [ho] at hax hc
  simp only [Option.some.injEq,Prod.mk.injEq] at hax hc
  obtain ⟨e1,e2⟩:=hax
  obtain ⟨ops,n,K,rfl,h1,h2,h3⟩:=qAs ho
  have kx:=k x hx
  rw [← e1,← e2] at kx
  split at hc
  ·rename_i c hoc
   split at hc
   ·rename_i q hq
    split at hc
    ·rename_i fi' first caps hfv
     cases hc
     exact qGz h1 h2 h3 (.inr ⟨c,q,fi,first,caps,hoc,hq,hfv,hpo⟩) kx
    ·cases hc
   ·cases hc
  ·cases hc
def drawAt : Pt → Option Pt
 | .code (.region _ _ true) K=>some (resume K)
 | _=>none
def opsAt : Pt → Array Oper
 | .code (.region _ ops _) _=>ops
 | _ => #[]
noncomputable def rdOp (C:Cx) (env:Env) (hs:List Hp) (o:Oper) (j:Nat):List (Option (AV × Hp) × Option (AV × Hp)) :=
 match nth hs j with
 | some H=>[(opV C env H o,match o.dst with | some d=>some (look env d,H) | none=>opV C env H o)]
 | none=>[]
noncomputable def rdOps (C : Cx) (env : Env) (hs : List Hp) (o : Oper) : Nat → Nat → List (Option (AV × Hp) × Option (AV × Hp))
 | _,0=>[]
 | lo,n + 1=>rdOp C env hs o lo ++ rdOps C env hs o (lo + 1) n
noncomputable def rdL (C : Cx) (D : DP) (all : List Oper) (env : Env) (hs : List Hp) : Nat → List Oper → List (Nat × Nat × Nat) → List (Option (AV × Hp) × Option (AV × Hp))
 | c,o :: l,(mk,lo,hi) :: pl=>(bif Nat.beq (clsS D.S o) 1 && !(mk.testBit D.tI) && !(Nat.beq lo c && Nat.beq hi c) then (match wantedV o all env with | some true=>rdOps C env hs o lo (hi + 1 - lo) | _=>[]) else []) ++ rdL C D all env hs (bif Nat.beq (clsS D.S o) 2 then c + 1 else c) l pl
 | _,_,_=>[]
theorem qJj {C : Cx} {env : Env} {hs : List Hp} {o : Oper} : ∀ (n lo j : Nat) (H : Hp), lo ≤ j → j < lo + n → hs[j]? = some H → (opV C env H o, match o.dst with | some d => some (look env d, H) | none => opV C env H o) ∈ rdOps C env hs o lo n
 | 0,lo,j,H,h1,h2,_=>by omega
 | n + 1,lo,j,H,h1,h2,h3=>by
  rw [rdOps,List.mem_append]
  by_cases e:lo = j
  ·subst e
   left
   unfold rdOp
   rw [qC8,h3]
   simp
  ·exact .inr (qJj n (lo + 1) j H (by omega) (by omega) h3)
theorem rdL_at {C : Cx} {D : DP} {all : List Oper} {env : Env} {hs : List Hp} : ∀ (l : List Oper) (pl : List (Nat × Nat × Nat)) (c i : Nat) (o : Oper) (mk lo hi : Nat), l[i]? = some o → pl[i]? = some (mk, lo, hi) → mk.testBit D.tI = false → clsS D.S o = 1 → wantedV o all env = some true → ¬ (lo = c + (l.take i).countP (fun p => Nat.beq (clsS D.S p) 2) ∧ hi = c + (l.take i).countP (fun p => Nat.beq (clsS D.S p) 2)) → ∀ j, lo ≤ j → j ≤ hi → ∀ H, hs[j]? = some H → (opV C env H o, match o.dst with | some d => some (look env d, H) | none => opV C env H o) ∈ rdL C D all env hs c l pl
 | [],pl,c,i,o,mk,lo,hi,ho,_,_,_,_,_,j,_,_,H,_=>by simp at ho
 | p :: l,[],c,i,o,mk,lo,hi,ho,hp,_,_,_,_,j,_,_,H,_=>by simp at hp
 | p :: l,(mk0,lo0,hi0) :: pl,c,i,o,mk,lo,hi,ho,hp,hmk,hc,hw,hn,j,h1,h2,H,hj=>by
  rw [rdL,List.mem_append]
  cases i with
  | zero =>
   simp at ho hp
   subst ho
   obtain ⟨rfl,rfl,rfl⟩:=hp
   left
   have e:Nat.beq (clsS D.S p) 1 = true:=by rw [hc]; rfl
   have e2:(Nat.beq lo0 c && Nat.beq hi0 c) = false:=by
    cases h:(Nat.beq lo0 c && Nat.beq hi0 c) with
    | false=>rfl
    | true =>
     simp only [Bool.and_eq_true] at h
     refine absurd (a:=lo0 = c ∧ hi0 = c) ⟨Nat.eq_of_beq_eq_true h.1,Nat.eq_of_beq_eq_true h.2⟩ ?_
     simpa using hn
   rw [e,e2,hw,hmk]
   exact qJj _ _ _ _ h1 (by omega) hj
  | succ i =>
   refine .inr (rdL_at l pl _ i o mk lo hi (by simpa using ho) (by simpa using hp) hmk hc hw ?_ j h1 h2 H hj)
   rw [List.take_succ_cons,List.countP_cons] at hn
   cases hb:Nat.beq (clsS D.S p) 2 with
   | true=>rw [hb] at hn; simp only [if_true] at hn; simp only [cond_true]; omega
   | false=>rw [hb] at hn; simp only [Bool.false_eq_true,if_false] at hn; simp only [cond_false]; omega
theorem qL6 {C:Cx} {D:DP} {ops:Array Oper} {env:Env} {hs:List Hp} (hsome:(rdL C D ops.toList env hs 0 ops.toList D.pl).all (fun q=>q.1.isSome) = true) (h:(rdL C D ops.toList env hs 0 ops.toList D.pl).map (·.1) = (rdL C D ops.toList env hs 0 ops.toList D.pl).map (·.2)):AlikeP C D ops env hs:=by
 intro i o mk lo hi ho hp hmk hc hw hn j h1 h2 H hj
 have hm:=rdL_at (C:=C) (D:=D) _ _ 0 i o mk lo hi ho hp hmk hc hw (by simpa using hn) j h1 h2 H hj
 have e:opV C env H o = (match o.dst with | some d=>some (look env d,H) | none=>opV C env H o):=by
  have key:∀ l:List (Option (AV × Hp) × Option (AV × Hp)),l.map (·.1) = l.map (·.2) → ∀ q ∈ l,q.1 = q.2:=by
   intro l
   induction l with
   | nil=>intro _ q hq; cases hq
   | cons x l ih =>
    intro hl q hq
    simp only [List.map_cons,List.cons.injEq] at hl
    rcases List.mem_cons.1 hq with rfl | hq
    ·exact hl.1
    ·exact ih hl.2 q hq
  exact key _ h _ hm
 have hs1:=List.all_eq_true.1 hsome _ hm
 cases hd:o.dst with
 | none =>
  simp only at hs1
  obtain ⟨⟨v,H1⟩,hv⟩:=Option.isSome_iff_exists.1 hs1
  have:=qGw (by rw [← qDd (qIu (S:=D.S) (o:=o) (by omega))]; exact hc) hv
  subst this
  exact ⟨v,hv,fun d hd=>by cases hd⟩
 | some d =>
  rw [hd] at e
  exact ⟨_,e,fun d' hd'=>by cases hd'; rfl⟩
theorem ok_draw {t:Option R} (D:DP) {hs:List Hp} (h:drawAt p = some p') (hti:Nat.ble (opsAt p).size D.tI = true) (hp:planOk D.S (opsAt p) D.pl = true) (hds:(opsAt p).toList.all (dstOk X.fn.ntmps) = true) (hD:OpsD X.P X.C D (opsAt p).toList (opsAt p).toList env H eE hs) (hsome:(rdL X.C D (opsAt p).toList eE (H :: hs) 0 (opsAt p).toList D.pl).all (fun q=>q.1.isSome) = true) (hq:(rdL X.C D (opsAt p).toList eE (H :: hs) 0 (opsAt p).toList D.pl).map (·.1) = (rdL X.C D (opsAt p).toList eE (H :: hs) 0 (opsAt p).toList D.pl).map (·.2)) (hl:lastH H hs = H') (k:Ok X p' eE H' t):Ok X p env H t:=by
 subst hl
 unfold drawAt at h
 split at h
 ·rename_i id ops K
  cases h
  intro r hr m0 w0 b0 m w a h0 fr hn hd rw st
  have hge:=Nat.le_of_ble_eq_true hti
  show (Code.region id ops true).wp X.P _ a w
  refine qL3 (id:=id) X.hti X.ord hds hp hD (qL6 hsome hq) fr hn hd rw ?_ fun a m w w' hlt=>absurd hlt (Nat.not_lt.2 hge)
  rintro a' w' _ ⟨_,m',q1,q2,q3,q4,q5⟩
  exact qAw (k r hr m0 w0 b0 m' w' a' h0 q3 q4 q5 q1 (st.trans h0.2 q2))
 ·cases h
noncomputable def runD (C:Cx) (D:DP) (all:List Oper) (k:Nat):List Oper → Env → Hp → Option (List Oper × Env × Hp × List Hp) :=
 Nat.rec (motive := fun _ => List Oper → Env → Hp → Option (List Oper × Env × Hp × List Hp)) (fun l env H => some (l, env, H, []))
  (fun _ ih l env H=>match l with
   | []=>none
   | o :: l=>bif Nat.beq (all.length - (l.length + 1)) D.tI then none else match wantedV o all env with
    | none=>none
    | some false=>(match ih l (putV env o.dst (.tuple [])) H with
     | some (l',e,H',hs)=>some (l',e,H',bif Nat.beq (clsS D.S o) 2 then H :: hs else hs)
     | none=>none)
    | some true=>(match evS C D.S env H o with
     | some (v,H1)=>(match ih l (putV env o.dst v) H1 with
      | some (l',e,H',hs)=>some (l',e,H',bif Nat.beq (clsS D.S o) 2 then H1 :: hs else hs)
      | none=>none)
     | none=>none)) k
theorem qA8 {P : Program} {C : Cx} {D : DP} {all : List Oper} {e : Env} {hs2 : List Hp} : ∀ (k : Nat) {l l' : List Oper} {env eE : Env} {H H' : Hp} {hs : List Hp}, runD C D all k l env H = some (l', eE, H', hs) → OpsD P C D all l' eE H' e hs2 → OpsD P C D all l env H e (hs ++ hs2)
 | 0,l,l',env,eE,H,H',hs,h,g=>by
  have h':some (l,env,H,([]:List Hp)) = some (l',eE,H',hs):=h
  cases h'
  exact g
 | k + 1,[],l',env,eE,H,H',hs,h,g=>by cases h
 | k + 1,o :: l,l',env,eE,H,H',hs,h,g=>by
  have h':(bif Nat.beq (all.length - (l.length + 1)) D.tI then none else match wantedV o all env with
   | none=>none
   | some false=>(match runD C D all k l (putV env o.dst (.tuple [])) H with
    | some (l',e,H',hs)=>some (l',e,H',bif Nat.beq (clsS D.S o) 2 then H :: hs else hs)
    | none=>none)
   | some true=>(match evS C D.S env H o with
    | some (v,H1)=>(match runD C D all k l (putV env o.dst v) H1 with
     | some (l',e,H',hs)=>some (l',e,H',bif Nat.beq (clsS D.S o) 2 then H1 :: hs else hs)
     | none=>none)
    | none=>none)) = some (l',eE,H',hs):=h
  cases hix:Nat.beq (all.length - (l.length + 1)) D.tI with
  | true=>rw [hix] at h'; cases h'
  | false =>
  rw [hix] at h'
  simp only [cond_false] at h'
  split at h'
  ·cases h'
  ·rename_i hw
   split at h'
   ·rename_i hr
    cases h'
    have:=OpsD.skip (P:=P) hix hw (qA8 k hr g)
    cases hc:Nat.beq (clsS D.S o) 2 <;> rw [hc] at this <;> exact this
   ·cases h'
  ·rename_i hw
   split at h'
   ·rename_i v H1 hv
    split at h'
    ·rename_i hr
     cases h'
     have:=OpsD.val (P:=P) hix hw (.inl hv) (qA8 k hr g)
     cases hc:Nat.beq (clsS D.S o) 2 <;> rw [hc] at this <;> exact this
    ·cases h'
   ·cases h'
noncomputable def headO (all l:List Oper) (env:Env):Option Oper:=match l with | o :: _=>(match wantedV o all env with | some true=>some o | _=>none) | []=>none
noncomputable def evalD (C:Cx) (D:DP) (all l:List Oper) (env:Env) (H:Hp):Option (AV × Hp):=match headO all l env with | some o=>evS C D.S env H o | none=>none
noncomputable def advD (D:DP) (all l:List Oper) (env:Env) (v:AV) (H:Hp):Option (List Oper × Env × List Hp):=bif Nat.beq (all.length - l.length) D.tI then none else match headO all l env with | some o=>some (l.tail,putV env o.dst v,bif Nat.beq (clsS D.S o) 2 then [H] else []) | none=>none
noncomputable def callD (all l:List Oper) (env:Env):Option (Nat × List AV) :=
 match headO all l env with
 | some o=>match o.op with
  | .call c=>match c.callee with
   | .value g=>match opnd env g with
    | .func f first caps=>some (f,first ++ opnds env c.args.toList ++ caps)
    | _=>none
   | _=>none
  | _=>none
 | none=>none
theorem qF6 {all l:List Oper} {o:Oper} (h:headO all l env = some o):∃ r,l = o :: r ∧ wantedV o all env = some true:=by
 unfold headO at h
 split at h
 ·rename_i o' r
  split at h
  ·rename_i hw; cases h; exact ⟨r,rfl,hw⟩
  ·cases h
 ·cases h
theorem qFw {P:Program} {C:Cx} {D:DP} {all l l':List Oper} {e:Env} {hs hs2:List Hp} {o:Oper} {v:AV} (ho:headO all l env = some o) (hs0:StpS P C D.S env H o v H') (ha:advD D all l env v H' = some (l',eE,hs)) (g:OpsD P C D all l' eE H' e hs2):OpsD P C D all l env H e (hs ++ hs2):=by
 unfold advD at ha
 cases hix:Nat.beq (all.length - l.length) D.tI with
 | true=>rw [hix] at ha; cases ha
 | false =>
 rw [hix,ho] at ha
 cases ha
 obtain ⟨r,rfl,hw⟩:=qF6 ho
 have:=OpsD.val hix hw hs0 g
 cases hc:Nat.beq (clsS D.S o) 2 <;> rw [hc] at this <;> exact this
theorem qA9 {P:Program} {C:Cx} {D:DP} {all l l':List Oper} {e:Env} {hs hs2:List Hp} {α:Type} {m:Option α} {x:α} (g:α → AV × Hp) (h:evalD C D all l env H = m.map g) (hx:m = some x) (ha:advD D all l env (g x).1 (g x).2 = some (l',eE,hs)) (k:OpsD P C D all l' eE (g x).2 e hs2):OpsD P C D all l env H e (hs ++ hs2):=by
 subst hx
 unfold evalD at h
 cases ho:headO all l env with
 | none=>rw [ho] at h; cases h
 | some o =>
  rw [ho] at h
  exact qFw (v:=(g x).1) ho (.inl h) ha k
theorem qAn {P:Program} {C:Cx} {D:DP} {all l l':List Oper} {e:Env} {hs hs2:List Hp} {fi:Nat} {args:List AV} {v:AV} (hc:callD all l env = some (fi,args)) (hp:purs args = true) (hv:pur v = true) (hf:PureOk P fi args v) (ha:advD D all l env v H = some (l',eE,hs)) (k:OpsD P C D all l' eE H e hs2):OpsD P C D all l env H e (hs ++ hs2):=by
 have hpo:=qGp hf hp hv H
 unfold callD at hc
 cases ho:headO all l env with
 | none=>rw [ho] at hc; cases hc
 | some o =>
  rw [ho] at hc
  simp only at hc
  split at hc
  ·rename_i c hoc
   split at hc
   ·rename_i q hq
    split at hc
    ·rename_i fi' first caps hfv
     cases hc
     exact qFw (v:=v) ho (.inr ⟨c,q,fi,first,caps,hoc,hq,hfv,hpo⟩) ha k
    ·cases hc
   ·cases hc
  ·cases hc
noncomputable def mkT (n:Nat) (l:List Blk):Tr :=
 List.rec (motive:=fun _=>Nat → Tr) (fun _ => .nil) (fun b _ ih n=>PT.set depth (ih (n + 1)) n b) l n
theorem qHv (n:Nat):mkT n [] = .nil:=rfl
theorem qBf (n:Nat) (b:Blk) (l:List Blk):mkT n (b :: l) = PT.set depth (mkT (n + 1) l) n b:=rfl
noncomputable def mkH (l:List Blk):Hp:=⟨l.length,mkT 0 l⟩
theorem qB4 : ∀ (l : List Blk) (n i : Nat), n + l.length ≤ roots → (mkT n l).get i = if n ≤ i then l[i - n]? else none
 | [],n,i,_=>by
  rw [qHv]
  simp only [List.getElem?_nil,ite_self]
  exact PT.get_nil i
 | b :: l,n,i,h=>by
  simp only [List.length_cons] at h
  by_cases e:n = i
  ·subst e
   rw [qBf,Tr.get_set_eq _ _ _ _ (by unfold roots at h; unfold depth; omega)]
   simp
  ·rw [qBf,Tr.get_set_ne _ _ _ _ _ e,qB4 l (n + 1) i (by omega)]
   by_cases h1:n ≤ i
   ·rw [if_pos (by omega),if_pos h1,show i - n = (i - (n + 1)) + 1 by omega,List.getElem?_cons_succ]
   ·rw [if_neg (by omega),if_neg h1]
mutual
def below (n : Nat) : AV → Bool
 | .ptr r _ _=>Nat.blt r n
 | .slice r _ _ _ _=>Nat.blt r n
 | .own r _ _=>Nat.blt r n
 | .agg xs=>belows n xs
 | .tuple xs=>belows n xs
 | .func _ a b=>belows n a && belows n b
 | .iface _ v=>below n v
 | _=>true
def belows (n : Nat) : List AV → Bool
 | []=>true
 | x :: xs=>below n x && belows n xs
end
def Mp.cut (m:Mp) (n:Nat):Mp:=⟨fun r v=>if r < n then m r v else none,m.froz⟩
mutual
theorem qDt {m : Mp} {n : Nat} : ∀ (x : AV) (c : Value), below n x = true → VR m x c → VR (m.cut n) x c
 | .top,_,_,_=>by simp only [VR]
 | .int ..,_,_,e=>by simpa only [VR] using e
 | .resid ..,_,_,e=>by simpa only [VR] using e
 | .bool _,_,_,e=>by simpa only [VR] using e
 | .str _,_,_,e=>by simpa only [VR] using e
 | .nilp,_,_,e=>by simpa only [VR] using e
 | .nils,_,_,e=>by simpa only [VR] using e
 | .nilf,_,_,e=>by simpa only [VR] using e
 | .nili,_,_,e=>by simpa only [VR] using e
 | .vec ..,_,_,e=>by simp only [VR] at e ⊢; exact e
 | .vptr ..,_,_,e=>by simp only [VR] at e ⊢; exact e
 | .ptr r v off,_,h,e=>by
  simp only [VR,below,Nat.blt_eq] at e h ⊢
  obtain ⟨B,N,h1,h2⟩:=e
  exact ⟨B,N,by show (if r < n then m r v else none) = _; rw [if_pos h]; exact h1,h2⟩
 | .slice r v off len sz,_,h,e=>by
  simp only [VR,below,Nat.blt_eq] at e h ⊢
  obtain ⟨B,N,cap,h1,h2⟩:=e
  exact ⟨B,N,cap,by show (if r < n then m r v else none) = _; rw [if_pos h]; exact h1,h2⟩
 | .own r len sz,_,h,e=>by
  simp only [VR,below,Nat.blt_eq] at e h ⊢
  rcases e with e | ⟨B,N,cap,h1,h2⟩
  ·exact .inl e
  ·exact .inr ⟨B,N,cap,by show (if r < n then m r (len * sz) else none) = _; rw [if_pos h]; exact h1,h2⟩
 | .agg xs,c,h,e=>by
  simp only [VR] at e ⊢
  obtain ⟨ys,h1,h2⟩:=e
  exact ⟨ys,h1,qBc xs _ (by simpa only [below] using h) h2⟩
 | .tuple xs,c,h,e=>by
  simp only [VR] at e ⊢
  obtain ⟨ys,h1,h2⟩:=e
  exact ⟨ys,h1,qBc xs _ (by simpa only [below] using h) h2⟩
 | .func f a b,c,h,e=>by
  simp only [VR] at e ⊢
  simp only [below,Bool.and_eq_true] at h
  obtain ⟨ys,zs,h1,h2,h3⟩:=e
  exact ⟨ys,zs,h1,qBc a _ h.1 h2,qBc b _ h.2 h3⟩
 | .iface t v,c,h,e=>by
  simp only [VR] at e ⊢
  obtain ⟨d,h1,h2⟩:=e
  exact ⟨d,h1,qDt v _ (by simpa only [below] using h) h2⟩
theorem qBc {m : Mp} {n : Nat} : ∀ (xs : List AV) (cs : List Value), belows n xs = true → VRs m xs cs → VRs (m.cut n) xs cs
 | [],_,_,e=>by simpa only [VRs] using e
 | x :: xs,cs,h,e=>by
  simp only [VRs] at e ⊢
  simp only [belows,Bool.and_eq_true] at h
  obtain ⟨y,ys,rfl,h1,h2⟩:=e
  exact ⟨y,ys,rfl,qDt x y h.1 h1,qBc xs ys h.2 h2⟩
end
mutual
theorem qGq {n : Nat} : ∀ x : AV, pur x = true → below n x = true
 | .top,_ | .int ..,_ | .resid ..,_ | .bool _,_ | .str _,_ | .nilp,_ | .nils,_ | .nilf,_ | .nili,_ | .vec ..,_ | .vptr ..,_=>by simp [below]
 | .ptr ..,h | .slice ..,h | .own ..,h=>by simp [pur] at h
 | .agg xs,h=>by simp only [pur,below] at h ⊢; exact qA3 xs h
 | .tuple xs,h=>by simp only [pur,below] at h ⊢; exact qA3 xs h
 | .func _ a b,h=>by simp only [pur,below,Bool.and_eq_true] at h ⊢; exact ⟨qA3 a h.1,qA3 b h.2⟩
 | .iface _ v,h=>by simp only [pur,below] at h ⊢; exact qGq v h
theorem qA3 {n : Nat} : ∀ xs : List AV, purs xs = true → belows n xs = true
 | [],_=>rfl
 | x :: xs,h=>by simp only [purs,belows,Bool.and_eq_true] at h ⊢; exact ⟨qGq x h.1,qA3 xs h.2⟩
end
def belowE (n : Nat) : Env → Bool
 | []=>true
 | p :: l=>below n p.2 && belowE n l
theorem qCr {n : Nat} : ∀ {e : Env} (t : Nat), belowE n e = true → below n (look e t) = true
 | [],t,_=>rfl
 | p :: l,t,h=>by
  simp only [belowE,Bool.and_eq_true] at h
  rw [qAo]
  split
  ·exact h.1
  ·exact qCr t h.2
def BB (n : Nat) : List Blk → Prop
 | []=>True
 | b :: l=>belows n b.cells = true ∧ BB n l
theorem qL9 {n : Nat} : ∀ {l : List Blk} {i : Nat} {b : Blk}, BB n l → l[i]? = some b → belows n b.cells = true
 | [],i,b,_,h=>by simp at h
 | b0 :: l,i,b,hb,h=>by
  cases i with
  | zero=>simp at h; subst h; exact hb.1
  | succ i=>exact qL9 hb.2 (by simpa using h)
theorem qB0 {n : Nat} : ∀ {xs : List AV} (k : Nat), belows n xs = true → belows n (xs.take k) = true
 | [],k,_=>by simp [belows]
 | x :: xs,0,_=>by simp [belows]
 | x :: xs,k + 1,h=>by
  simp only [belows,List.take_succ_cons,Bool.and_eq_true] at h ⊢
  exact ⟨h.1,qB0 k h.2⟩
theorem qAa {t:Option R} (l l2:List Blk) (hn0:Nat.ble X.n0 l.length = true) (hn:Nat.ble (l.length + l2.length) roots = true) (he:belowE l.length env = true) (hb:BB l.length l) (k:Ok X p env (mkH l) t):Ok X p env (mkH (l ++ l2)) t:=by
 intro r hr m0 w0 b0 m w a h0 fr hnt hd rw st
 have hn:l.length + l2.length ≤ roots:=Nat.le_of_ble_eq_true hn
 have hget:∀ i,i < l.length → (mkH (l ++ l2)).t.get i = (mkH l).t.get i:=by
  intro i hi
  show (mkT 0 (l ++ l2)).get i = (mkT 0 l).get i
  rw [qB4 _ _ _ (by simp; omega),qB4 _ _ _ (by omega)]
  simp [List.getElem?_append_left hi]
 have hcut:∀ {r v q},(m.cut l.length) r v = some q → r < l.length ∧ m r v = some q:=by
  intro r v q h
  have h:(if r < l.length then m r v else none) = some q:=h
  by_cases e:r < l.length
  ·rw [if_pos e] at h; exact ⟨e,h⟩
  ·rw [if_neg e] at h; cases h
 have hnone:∀ i,l.length ≤ i → (mkH l).t.get i = none:=by
  intro i hi
  show (mkT 0 l).get i = none
  rw [qB4 _ _ _ (by omega)]
  simp [hi]
 refine k r hr m0 w0 b0 (m.cut l.length) w a h0 ?_ hnt hd ⟨?_,?_,?_,hnone,?_,rw.frz,?_,rw.ffin,rw.base_le,?_⟩ ⟨⟨fun r v q hq=>(by
  have h1:=h0.1 r v q hq
  have h2:=Nat.le_of_ble_eq_true hn0
  show (if r < l.length then m r v else none) = some q
  rw [if_pos (by omega)]
  exact st.sub.1 r v q hq),st.sub.2⟩,?_,st.fext,st.size,st.os,st.tape,st.output,st.same⟩
 ·intro t ht
  obtain ⟨c,h1,h2⟩:=fr t ht
  exact ⟨c,h1,qDt _ _ (qCr t he) h2⟩
 ·intro r b v B N hb' hm h1 h2
  obtain ⟨hlt,hm⟩:=hcut hm
  obtain ⟨cs,ty,fr',q1,q2,q3,q4,q5⟩:=rw.blk r b v B N (by rw [hget r hlt]; exact hb') hm h1 h2
  have hbl:l[r]? = some b:=by
   have hb':(mkT 0 l).get r = some b:=hb'
   rw [qB4 _ _ _ (by omega)] at hb'
   simpa using hb'
  exact ⟨cs,ty,fr',q1,q2,q3,q4,qBc _ _ (qB0 v (qL9 hb hbl)) q5⟩
 ·intro r v B N hm
  obtain ⟨hlt,hm⟩:=hcut hm
  rw [← hget r hlt]
  exact rw.dom r v B N hm
 ·intro r v B N r' v' N' hm hm' hB
  exact rw.sep _ _ _ _ _ _ _ (hcut hm).2 (hcut hm').2 hB
 ·intro r v B N hm
  exact rw.vle _ _ _ _ (hcut hm).2
 ·intro i B cells r v N b hi hm hb'
  obtain ⟨hlt,hm⟩:=hcut hm
  exact rw.fsep i B cells r v N b hi hm (by rw [hget r hlt]; exact hb')
 ·show l.length ≤ roots
  omega
 ·intro r v B N hm
  exact st.ext r v B N (hcut hm).2
theorem qEx {t:Option R} (l:List Blk) (d sz:Nat) (hn:Nat.blt l.length roots = true) (h:look env d = .nils) (k:Ok X p ((d,.own l.length 0 sz) :: env) (mkH (l ++ [⟨[],0,false⟩])) t):Ok X p env (mkH l) t:=by
 intro r hr m0 w0 b0 m w a h0 fr hnt hd rw st
 have hn:l.length < roots:=by simpa using hn
 have hg:RW m ⟨l.length + 1,Tr.set depth (mkH l).t l.length ⟨[],0,false⟩⟩ w b0:=rw.ghost hn
 have hH:RW m (mkH (l ++ [⟨[],0,false⟩])) w b0:=by
  have e:∀ i,(mkH (l ++ [⟨[],0,false⟩])).t.get i = (Tr.set depth (mkH l).t l.length ⟨[],0,false⟩).get i:=by
   intro i
   show (mkT 0 (l ++ [⟨[],0,false⟩])).get i = (Tr.set depth (mkT 0 l) l.length ⟨[],0,false⟩).get i
   rw [qB4 _ _ _ (by simp; omega)]
   by_cases ei:l.length = i
   ·subst ei
    rw [Tr.get_set_eq _ _ _ _ (by unfold roots at hn; unfold depth; omega)]
    simp
   ·rw [Tr.get_set_ne _ _ _ _ _ ei,qB4 _ _ _ (by omega)]
    by_cases h1:i < l.length
    ·simp [List.getElem?_append_left h1]
    ·rw [List.getElem?_eq_none (by simp; omega),List.getElem?_eq_none (by omega)]
  have en:(mkH (l ++ [⟨[],0,false⟩])).next = l.length + 1:=by simp [mkH]
  refine ⟨fun r b v B N hb=>hg.blk r b v B N (by rw [← e]; exact hb),fun r v B N hm=>by rw [e]; exact hg.dom r v B N hm,hg.sep,fun r hr=>by rw [e]; exact hg.fresh r (by rw [en] at hr; exact hr),hg.vle,hg.frz,fun i B cells r v N b hi hm hb=>hg.fsep i B cells r v N b hi hm (by rw [← e]; exact hb),hg.ffin,hg.base_le,by rw [en]; exact hn⟩
 refine k r hr m0 w0 b0 m w a h0 ?_ hnt hd hH st
 intro t ht
 by_cases e:d = t
 ·subst e
  obtain ⟨c,h1,h2⟩:=fr d (by rw [h]; intro e; cases e)
  rw [h] at h2
  simp only [VR] at h2
  refine ⟨c,h1,?_⟩
  rw [qAo,if_pos rfl]
  unfold VR
  exact .inl ⟨rfl,h2⟩
 ·have he:look ((d,AV.own l.length 0 sz) :: env) t = look env t:=by rw [qAo,if_neg e]
  rw [he] at ht ⊢
  exact fr t ht
theorem qHl {P : Program} {C : Cx} (hti : ∀ t i, C.ti t = some i → mkTi P t = some i) {m : Mp} {H : Hp} {w : World} {base : Nat} {env : Env} {a : Act} (fr : FR m env a.tmps) (rw : RW m H w base) (g : ResultVar → Sem Value) (hg1 : ∀ t, g (.tmp t) = pure (a.tmps.getD t undef)) (hg2 : ∀ p t, g (.cell p t) = do loadVar t (← asAddr (a.tmps.getD p undef))) : ∀ (l : List ResultVar) (xs : List AV), resV C env H l = some xs →
 ∃ vs:List Value,(l.mapM g).run P w = .ok vs w ∧ VRs m xs vs
 | [],xs,h=>by simp only [resV] at h; cases h; exact ⟨[],by simp,by simp [VRs]⟩
 | .tmp t :: l,xs,h=>by
  simp only [resV] at h
  cases hl:resV C env H l with
  | none=>rw [hl] at h; cases h
  | some ys =>
   rw [hl] at h
   cases h
   obtain ⟨vs,h1,h2⟩:=qHl hti fr rw g hg1 hg2 l ys hl
   refine ⟨a.tmps.getD t undef :: vs,?_,by simp only [VRs]; exact ⟨_,_,rfl,fr.getD t,h2⟩⟩
   simp only [List.mapM_cons,hg1,Sem.run_bind,Sem.run_pure,Result.andThen_ok,h1]
 | .cell p t :: l,xs,h=>by
  simp only [resV] at h
  split at h
  ·rename_i i r v off ys ht hp hl
   split at h
   ·rename_i cs hcs
    split at h
    ·rename_i x hx
     cases h
     obtain ⟨vs,h1,h2⟩:=qHl hti fr rw g hg1 hg2 l ys hl
     have hv:=fr.getD p
     rw [hp] at hv
     have hld:∃ c,(loadVar t (match a.tmps.getD p undef with | .pointer (some b)=>b | _=>default)).run P w = .ok c w ∧ VR m x c ∧ ∃ b,a.tmps.getD p undef = .pointer (some b):=by
      have hv':=hv
      simp only [VR] at hv'
      obtain ⟨B,N,hm,e⟩:=hv'
      obtain ⟨c,hc1,hc2⟩:=qHq (P:=P) hti ht hv hcs hx rw
      rw [e] at hc1
      rw [e]
      exact ⟨c,hc1,hc2,_,rfl⟩
     obtain ⟨c,hc1,hc2,b,hb⟩:=hld
     rw [hb] at hc1
     refine ⟨c :: vs,?_,by simp only [VRs]; exact ⟨_,_,rfl,hc2,h2⟩⟩
     simp only [List.mapM_cons,hg2,Sem.run_bind,hb,asAddr,Sem.run_pure,Result.andThen_ok,hc1,h1]
    ·cases h
   ·cases h
  ·cases h
theorem qCe {P : Program} {C : Cx} (hti : ∀ t i, C.ti t = some i → mkTi P t = some i) {m : Mp} {H : Hp} {w : World} {base : Nat} {env : Env} {a : Act} {fn : Func} {xs : List AV} (fr : FR m env a.tmps) (rw : RW m H w base) (h : resV C env H fn.results.toList = some xs) :
 ∃ v,(results fn a.tmps).run P w = .ok v w ∧ VR m (oneRes xs) v:=by
 have key:∀ g:ResultVar → Sem Value,(∀ t,g (.tmp t) = pure (a.tmps.getD t undef)) → (∀ p t,g (.cell p t) = do loadVar t (← asAddr (a.tmps.getD p undef))) → ∃ vs:List Value,(fn.results.mapM g).run P w = .ok vs.toArray w ∧ VRs m xs vs:=by
  intro g hg1 hg2
  obtain ⟨vs,h1,h2⟩:=qHl (P:=P) hti fr rw g hg1 hg2 _ _ h
  exact ⟨vs,by rw [Array.mapM_eq_mapM_toList,Sem.run_map,h1]; rfl,h2⟩
 unfold results
 obtain ⟨vs,hm,h2⟩:=key (fun | .tmp t=>pure (a.tmps.getD t undef) | .cell p t=>do loadVar t (← asAddr (a.tmps.getD p undef))) (fun _=>rfl) (fun _ _=>rfl)
 have hlen:=VRs.len h2
 refine ⟨if h:vs.toArray.size = 1 then vs.toArray[0] else .tuple vs.toArray,?_,?_⟩
 ·rw [Sem.run_bind]
  erw [hm]
  rfl
 ·unfold oneRes
  split
  ·simp only [VRs] at h2
   obtain ⟨y,ys,rfl,h3,rfl⟩:=h2
   simpa using h3
  ·rename_i hne
   have:¬ vs.toArray.size = 1:=by
    intro e
    have e1:xs.length = 1:=by simpa [hlen] using e
    obtain ⟨x,hx⟩:=List.length_eq_one_iff.1 e1
    exact hne x hx
   rw [dif_neg this]
   simp only [VR]
   exact ⟨_,rfl,by simpa using h2⟩
theorem ok_ret {r:R} {xs:List AV} {v:AV} (hn0:X.n0 = 0) (hfin:X.fin r = H0) (ht:X.thr r = none) (hr:resV X.C env H X.fn.results.toList = some xs) (hz:FzG 0 H [oneRes xs] [v]) (hv:X.enc r = v):Ok X .fin env H (some r):=by
 intro r' e m0 w0 b0 m w a h0 fr hnt hd rw st
 cases e
 have hnone:∀ r v,m0 r v = none:=by
  intro r v
  cases e:m0 r v with
  | none=>rfl
  | some p=>have:=h0.1 r v p e; omega
 obtain ⟨c,h1,h2⟩:=qCe (P:=X.P) X.hti fr rw hr
 have hF:FOk 0 m m.froz w b0:=by
  refine ⟨fun i B cells hi=>rw.frz i B cells hi,rw.ffin,fun i B cells h => .inl h,fun _ _ h=>h⟩
 obtain ⟨F',g1,g2,g3⟩:=fz_ok rw hz hF (cs:=[c]) (by simp only [VRs]; exact ⟨c,[],rfl,h2,rfl⟩)
 simp only [VRs] at g3
 obtain ⟨c',cs',e,g3,_⟩:=g3
 cases e
 have fin:∃ m' c',Ending.returned c = .returned c' ∧ RW m' (X.fin r) w b0 ∧ St m0 w0 b0 m' w ∧ VR m' (X.enc r) c':=by
  rw [hfin]
  refine ⟨⟨fun _ _=>none,F'⟩,c,rfl,⟨?_,?_,?_,fun _ _=>rfl,?_,g1.ok,?_,g1.fin,rw.base_le,by show 0 ≤ roots; unfold roots; omega⟩,⟨⟨fun r v q hq=>(by rw [hnone] at hq; cases hq),fun i p hp=>g2 i p (st.sub.2 i p hp)⟩,?_,?_,st.size,st.os,st.tape,st.output,st.same⟩,by rw [hv]; exact g3⟩
  ·intro r b v B N hb hm; cases hm
  ·intro r v B N hm; cases hm
  ·intro r v B N r' v' N' hm; cases hm
  ·intro r v B N hm; cases hm
  ·intro i B cells r v N b _ hm; cases hm
  ·intro r v B N hm; cases hm
  ·intro i B cells hi
   rcases g1.new i B cells hi with h | h
   ·exact st.fext i B cells h
   ·obtain ⟨h1,r,v,N,_,hm⟩:=h
    rcases st.ext r v B N hm with ⟨v0,N0,e0⟩ | h2
    ·rw [hnone] at e0; cases e0
    ·exact .inr ⟨h1,.inr h2⟩
 have e:EndT (X.thr r) (X.enc r) (X.fin r) m0 w0 b0 (.returned c) w:=by rw [ht]; exact fin
 exact qFr hd h1 e
theorem qF : ∀ (xs : List AV) (i t : Nat), look (args0 i xs) t = if i ≤ t then (xs[t - i]?).getD .top else .top
 | [],i,t=>by simp [args0,look_nil]
 | x :: xs,i,t=>by
  rw [args0,qB5,qF xs (i + 1) t]
  by_cases e:i = t
  ·subst e; simp
  ·rw [if_neg e]
   by_cases h:i ≤ t
   ·rw [if_pos (by omega),if_pos h,show t - i = (t - (i + 1)) + 1 by omega]; simp
   ·rw [if_neg (by omega),if_neg h]
theorem qJc {m:Mp} {xs:List AV} {args rest:Array Value} (h:VRs m xs args.toList):FR m (args0 0 xs) (args ++ rest):=by
 intro t ht
 rw [qF] at ht ⊢
 simp only [Nat.zero_le,if_true,Nat.sub_zero] at ht ⊢
 cases hx:xs[t]? with
 | none=>rw [hx] at ht; exact absurd rfl ht
 | some x =>
  obtain ⟨c,hc,hv⟩:=VRs.get h t x hx
  rw [Array.getElem?_toList] at hc
  obtain ⟨hlt,_⟩:=Array.getElem?_eq_some_iff.1 hc
  exact ⟨c,by rw [Array.getElem?_append_left hlt]; exact hc,by simpa using hv⟩
def bodyAt (fn:Func):Pt:=match fn.body with | some c => .code c [] | none => .fin
theorem qA4 (X:Fx R) {f:Nat} (hfin:∀ r,X.fin r = H0 ∧ X.thr r = none) (hf:X.P.funcs[f]? = some X.fn) (hn:(X.fn.name == "runtime.NumGoroutine") = false) (hb:X.fn.body.isSome = true) {xs:List AV} {t:Option R} (h:Ok X (bodyAt X.fn) (args0 0 xs) (mkH []) t) {r:R} (ht:t = some r):PureOk X.P f xs (X.enc r):=by
 refine ⟨?_,X.fn,hf,hn,hb⟩
 intro m0 w args h0 hargs rw
 cases hc:X.fn.body with
 | none=>rw [hc] at hb; cases hb
 | some c =>
  have e:bodyAt X.fn = .code c []:=by simp [bodyAt,hc]
  rw [e] at h
  have:=h r ht m0 w w.heap.size m0 w { tmps:=args ++ Array.replicate (X.fn.ntmps - args.size) undef,defers:=[] } ⟨fun r v p e=>(by rw [h0] at e; cases e),Nat.le_refl _⟩ (qJc hargs) (by simp; omega) rfl rw (St.refl _ _ _)
  have e2:=qGo hf hc this
  rw [(hfin r).1,(hfin r).2] at e2
  exact e2
theorem qA2 (X:Fx R) {f:Nat} (hf:X.P.funcs[f]? = some X.fn) (hn:(X.fn.name == "runtime.NumGoroutine") = false) (hb:X.fn.body.isSome = true) {L:List Blk} (hn0:X.n0 = L.length) {xs:List AV} {t:Option R} (h:Ok X (bodyAt X.fn) (args0 0 xs) (mkH L) t) {r:R} (ht:t = some r):CallT X.P f xs (mkH L) (X.thr r) (X.enc r) (X.fin r):=by
 refine ⟨?_,X.fn,hf,hn,hb⟩
 intro m w base args hargs rw
 cases hc:X.fn.body with
 | none=>rw [hc] at hb; cases hb
 | some c =>
  have e:bodyAt X.fn = .code c []:=by simp [bodyAt,hc]
  rw [e] at h
  have:=h r ht m w base m w { tmps:=args ++ Array.replicate (X.fn.ntmps - args.size) undef,defers:=[] } ⟨fun r v p e=>(by
   obtain ⟨b,hb,_⟩:=rw.dom r v p.1 p.2 e
   rw [hn0]
   exact rw.lt hb),rw.base_le⟩ (qJc hargs) (by simp; omega) rfl rw (St.refl _ _ _)
  exact qGo hf hc this
end
def nthS (s:List Nat) (k:Int):Option Int:=if 0 ≤ k then (match s[k.toNat]? with | some b=>some (b:Int) | none=>none) else none
theorem idxH {e:Option (AV × Hp)} {s:List Nat} {k:Int} {H:Hp} (h:e = (if 0 ≤ k then (match s[k.toNat]? with | some b=>some (AV.int .u8 (b:Int),H) | none=>none) else none)):e = (nthS s k).map fun c=>(AV.int .u8 c,H):=by
 rw [h]; unfold nthS
 split
 ·cases s[k.toNat]? <;> rfl
 ·rfl
def bnd (x:Option Int) (y d:Nat):Option Nat:=match x with | none=>some d | some i=>if 0 ≤ i ∧ i ≤ y then some i.toNat else none
def subL {α:Type} (l:List α) (lo hi:Option Int):Option (List α) :=
 match bnd hi l.length l.length with
 | some h=>(match bnd lo h 0 with | some b=>some ((l.take h).drop b) | none=>none)
 | none=>none
theorem qFm (x:Option Int) (k:IntKind) (y d:Nat):boundO (x.map (AV.int k)) y d = bnd x y d:=by cases x <;> rfl
theorem subH {e:Option (AV × Hp)} {s:List Nat} (lo hi:Option Int) {H:Hp} (h:e = (match boundO (hi.map (AV.int .i64)) s.length s.length with | some h=>(match boundO (lo.map (AV.int .i64)) h 0 with | some l=>some (AV.str ((s.take h).drop l)) | none=>none) | none=>none).map fun v=>(v,H)):e = (subL s lo hi).map fun x=>(AV.str x,H):=by
 rw [h,qFm]; unfold subL
 cases bnd hi s.length s.length with
 | none=>rfl
 | some h =>
  simp only
  rw [qFm]
  cases bnd lo h 0 <;> rfl
def catS (a b:List Nat):Option (List Nat):=if a.length + b.length < 2 ^ 40 then some (a ++ b) else none
theorem catH {e:Option (AV × Hp)} {a b:List Nat} {H:Hp} (h:e = (if a.length + b.length < 2 ^ 40 then some (AV.str (a ++ b)) else none).map fun v=>(v,H)):e = (catS a b).map fun x=>(AV.str x,H):=by
 rw [h]; unfold catS; split <;> rfl
def nthL {α:Type} (l:List α) (k:Int):Option α:=if 0 ≤ k then l[k.toNat]? else none
theorem qAz {α : Type} {enc : α → List AV} {sz : Nat} (h : ∀ x, (enc x).length = sz) : ∀ l : List α, (l.flatMap enc).length = l.length * sz
 | []=>by simp
 | x :: l=>by rw [List.flatMap_cons,List.length_append,h,qAz h l,List.length_cons,Nat.add_mul]; omega
theorem qFg {α : Type} {enc : α → List AV} {sz : Nat} (h : ∀ x, (enc x).length = sz) : ∀ (l : List α) (k : Nat) (x : α), l[k]? = some x → ((l.flatMap enc).drop (k * sz)).take sz = enc x
 | [],k,x,e=>by simp at e
 | y :: l,k,x,e=>by
  rw [List.flatMap_cons]
  cases k with
  | zero =>
   simp at e
   subst e
   rw [Nat.zero_mul,List.drop_zero,List.take_append_of_le_length (by rw [h]; exact Nat.le_refl _),List.take_of_length_le (by rw [h]; exact Nat.le_refl _)]
  | succ k =>
   rw [List.drop_append,List.drop_of_length_le (by rw [h,Nat.add_mul]; omega),List.nil_append,h,show (k + 1) * sz - sz = k * sz by rw [Nat.add_mul]; omega]
   exact qFg h l k x (by simpa using e)
theorem vidxH {α:Type} {enc:α → List AV} {sz:Nat} (hsz:∀ x,(enc x).length = sz) {e:Option (AV × Hp)} {l:List α} {k:Int} {H:Hp} (h:e = (if sz = sz ∧ 0 ≤ k ∧ k < ((l.length:Nat):Int) then some (AV.vptr (((l.flatMap enc).drop (k.toNat * sz)).take sz),H) else none)):e = (nthL l k).map fun x=>(AV.vptr (enc x),H):=by
 rw [h]; unfold nthL
 by_cases h0:0 ≤ k
 ·rw [if_pos h0]
  by_cases h1:k < (l.length:Int)
  ·rw [if_pos ⟨rfl,h0,h1⟩]
   have hlt:k.toNat < l.length:=by omega
   rw [List.getElem?_eq_getElem hlt,qFg hsz l k.toNat _ (List.getElem?_eq_getElem hlt)]
   rfl
  ·rw [if_neg (fun hh=>h1 hh.2.2),List.getElem?_eq_none (by omega)]
   rfl
 ·rw [if_neg (fun hh=>h0 hh.2.1),if_neg h0]; rfl
def nthA {α:Type} (l:List α) (n:Nat) (k:Int):Option α:=if 0 ≤ k ∧ k < (n:Int) then l[k.toNat]? else none
theorem aidxH {α:Type} (enc:α → AV) {e:Option (AV × Hp)} (l:List α) {n:Nat} {k:Int} {H:Hp} (h:e = (if 0 ≤ k ∧ k < (n:Int) then ((l.map enc)[k.toNat * 1]?).map fun v=>(v,H) else none)):e = (nthA l n k).map fun x=>(enc x,H):=by
 rw [h]; unfold nthA
 split
 ·rw [Nat.mul_one,List.getElem?_map]
  cases l[k.toNat]? <;> rfl
 ·rfl
def remS (x y:Int):Option Int:=if y = 0 then none else some (x.tmod y)
def andI (k:IntKind) (x y:Int):Int:=fW k (BitVec.ofInt k.bits x &&& BitVec.ofInt k.bits y).toNat
def maxI (x y:Int):Int:=if x < y then y else x
def appS {α:Type} (bytes:Nat) (l x:List α):Option (List α):=if (l.length + x.length) * bytes ≤ 2 ^ 40 ∧ l.length + x.length ≤ 2 ^ 40 then some (l ++ x) else none
theorem qE8 {L:List Blk} {r:Nat} {b:Blk} (hl:Nat.ble L.length roots = true) (h:L[r]? = some b):(mkH L).t.get r = some b:=by
 show (mkT 0 L).get r = some b
 rw [qB4 _ _ _ (by rw [Nat.zero_add]; exact Nat.le_of_ble_eq_true hl)]
 simpa using h
theorem PT.set_set {α : Type} : ∀ (k : Nat) (t : PT α) (n : Nat) (x y : α), PT.set k (PT.set k t n x) n y = PT.set k t n y
 | 0,_,_,_,_=>rfl
 | k + 1,t,n,x,y=>by
  have ih:=fun t n=>PT.set_set k t n x y
  rw [PT.set_succ,PT.set_succ,PT.set_succ]
  by_cases h0:n = 0
  ·simp only [h0,if_true]; rfl
  ·simp only [h0,if_false]
   by_cases h1:n % 2 = 1
   ·simp only [h1,if_true]
    show PT.node (PT.set k (PT.set k t.left (n / 2) x) (n / 2) y) t.mid t.right = _
    rw [ih]
   ·simp only [h1,if_false]
    show PT.node t.left t.mid (PT.set k (PT.set k t.right (n / 2 - 1) x) (n / 2 - 1) y) = _
    rw [ih]
theorem PT.set_comm {α : Type} : ∀ (k : Nat) (t : PT α) (n m : Nat) (x y : α), n ≠ m → PT.set k (PT.set k t n x) m y = PT.set k (PT.set k t m y) n x
 | 0,_,_,_,_,_,_=>rfl
 | k + 1,t,n,m,x,y,h=>by
  have ih:=fun t n m h=>PT.set_comm k t n m x y h
  rw [PT.set_succ,PT.set_succ,PT.set_succ,PT.set_succ]
  by_cases n0:n = 0
  ·have m0:m ≠ 0:=by omega
   simp only [n0,m0,if_true,if_false]
   by_cases m1:m % 2 = 1 <;> simp only [m1,if_true,if_false] <;> rfl
  ·by_cases m0:m = 0
   ·simp only [n0,m0,if_true,if_false]
    by_cases n1:n % 2 = 1 <;> simp only [n1,if_true,if_false] <;> rfl
   ·simp only [n0,m0,if_false]
    by_cases n1:n % 2 = 1
    ·by_cases m1:m % 2 = 1
     ·simp only [n1,m1,if_true]
      show PT.node (PT.set k (PT.set k t.left (n / 2) x) (m / 2) y) t.mid t.right = PT.node (PT.set k (PT.set k t.left (m / 2) y) (n / 2) x) t.mid t.right
      rw [ih _ _ _ (by omega)]
     ·simp only [n1,m1,if_true,if_false]; rfl
    ·by_cases m1:m % 2 = 1
     ·simp only [n1,m1,if_true,if_false]; rfl
     ·simp only [n1,m1,if_false]
      show PT.node t.left t.mid (PT.set k (PT.set k t.right (n / 2 - 1) x) (m / 2 - 1) y) = PT.node t.left t.mid (PT.set k (PT.set k t.right (m / 2 - 1) y) (n / 2 - 1) x)
      rw [ih _ _ _ (by omega)]
theorem qN4 : ∀ (L : List Blk) (n r : Nat) (b : Blk), r < L.length → PT.set depth (mkT n L) (n + r) b = mkT n (L.set r b)
 | [],n,r,b,h=>by simp at h
 | c :: L,n,0,b,h=>by
  rw [List.set_cons_zero,qBf,qBf]
  exact PT.set_set _ _ _ _ _
 | c :: L,n,r + 1,b,h=>by
  rw [List.set_cons_succ,qBf,qBf,PT.set_comm _ _ _ _ _ _ (by omega),show n + (r + 1) = (n + 1) + r by omega,qN4 L (n + 1) r b (by simpa using h)]
theorem mkH_set {L:List Blk} {r:Nat} {b:Blk} (h:r < L.length):(⟨(mkH L).next,Tr.set depth (mkH L).t r b⟩:Hp) = mkH (L.set r b):=by
 show (⟨L.length,PT.set depth (mkT 0 L) r b⟩:Hp) = ⟨(L.set r b).length,mkT 0 (L.set r b)⟩
 have:=qN4 L 0 r b h
 rw [Nat.zero_add] at this
 rw [this,List.length_set]
theorem appH {α:Type} {enc:α → List AV} {sz:Nat} (hsz:∀ x,(enc x).length = sz) (hpos:Nat.blt 0 sz = true) (hone:∀ x,(enc x).all one1 = true) {e:Option (AV × Hp)} (L:List Blk) (r bytes:Nat) (l x:List α) (hl:Nat.ble L.length roots = true) (hr:L[r]? = some ⟨l.flatMap enc,0,false⟩) (h:e = appW (mkH L) (.own r l.length sz) sz bytes x.length (x.flatMap enc)):e = (appS bytes l x).map fun y=>(AV.own r y.length sz,mkH (L.set r ⟨y.flatMap enc,0,false⟩)):=by
 have hpos:0 < sz:=by simpa using hpos
 have hone':(x.flatMap enc).all one1 = true:=by
  rw [List.all_eq_true]
  intro a ha
  obtain ⟨y,_,hy⟩:=List.mem_flatMap.1 ha
  exact List.all_eq_true.1 (hone y) a hy
 have hlt:r < L.length:=(List.getElem?_eq_some_iff.1 hr).1
 rw [h]
 unfold appW appV appS
 simp only [qAz hsz,hpos,hone',true_and,and_true,if_true]
 by_cases hb:(l.length + x.length) * bytes ≤ 2 ^ 40 ∧ l.length + x.length ≤ 2 ^ 40
 ·rw [if_pos hb]
  by_cases hx:x.length = 0
  ·have:x = []:=List.length_eq_zero_iff.1 hx
   subst this
   simp only [List.length_nil,Nat.add_zero,List.append_nil,Option.map_some,if_true]
   rw [if_pos (by simpa using hb)]
   have:L.set r ⟨l.flatMap enc,0,false⟩ = L:=by
    apply List.ext_getElem?
    intro i
    rw [List.getElem?_set]
    split
    ·rename_i e; subst e; first | exact hr.symm | (rw [if_pos hlt]; exact hr.symm)
    ·rfl
   show some (AV.own r l.length sz,mkH L) = some (AV.own r l.length sz,mkH (L.set r ⟨l.flatMap enc,0,false⟩))
   rw [this]
  ·simp only [hx,if_false]
   rw [qE8 hl hr,if_pos hb]
   simp only [qAz hsz,Nat.zero_le,true_and,and_self,if_true,Option.map_some]
   rw [mkH_set hlt,List.flatMap_append,List.length_append]
 ·rw [if_neg hb,if_neg hb]; rfl
theorem appHV {α:Type} {enc:α → List AV} {sz:Nat} (hsz:∀ x,(enc x).length = sz) (hpos:Nat.blt 0 sz = true) (hone:∀ x,(enc x).all one1 = true) {e:Option (AV × Hp)} (L:List Blk) (r bytes:Nat) (l x:List α) (hl:Nat.ble L.length roots = true) (hr:L[r]? = some ⟨l.flatMap enc,0,false⟩) (h:e = (match (if sz = sz ∧ x.length ≤ x.length then some ((x.flatMap enc).take (x.length * sz)) else none) with | some new=>appW (mkH L) (.own r l.length sz) sz bytes x.length new | none=>none)):e = (appS bytes l x).map fun y=>(AV.own r y.length sz,mkH (L.set r ⟨y.flatMap enc,0,false⟩)):=by
 refine appH hsz hpos hone L r bytes l x hl hr ?_
 rw [h,if_pos ⟨rfl,Nat.le_refl _⟩]
 simp only
 rw [List.take_of_length_le (by rw [qAz hsz]; exact Nat.le_refl _)]
theorem qAq {α:Type} {enc:α → List AV} {sz:Nat} (hsz:∀ x,(enc x).length = sz) (hpur:∀ x,purs (enc x) = true) {L:List Blk} {r:Nat} {l:List α} {xs ys:List AV} {n0:Nat} (hl:Nat.ble L.length roots = true) (hr:L[r]? = some ⟨l.flatMap enc,0,false⟩) (h0:Nat.ble n0 r = true) (h:FzG n0 (mkH L) xs ys):FzG n0 (mkH L) (.own r l.length sz :: xs) (.vec l.length sz (l.flatMap enc) :: ys) :=
 .own h0 (qE8 hl hr) (qAz hsz l) (Nat.zero_le _) (.pures (qBa hpur l)) h
def ctl1 : Pt → Pt
 | .ops _ _ K=>resume K
 | .loop b K => .code b (.loop b :: K)
 | .fin => .fin
 | .code c K=>match c with
  | .seq a b => .code a (.seq b :: K)
  | .skip=>resume K
  | .label _=>resume K
  | .block id b => .code b (.block id :: K)
  | .scope b => .code b (.scope b :: K)
  | .loop b => .loop b K
  | .exit id=>match exitK id K with | some q=>q | none => .fin
  | .goto l=>match gotoK l K with | some q=>q | none => .fin
  | .ret => .fin
  | .region id ops draw=>bif draw then resume K else .ops ops 0 K
  | _ => .fin
def nav : List Nat → Pt → Pt
 | [],p=>p
 | 0 :: l,p=>nav l (ctl1 p)
 | 1 :: l,.code (.cond _ x _) K=>nav l (.code x K)
 | _ :: l,.code (.cond _ _ y) K=>nav l (.code y K)
 | _ :: _,p=>p
def atN (n : Nat) : Pt → Pt
 | .ops ops _ K => .ops ops n K
 | p=>p
theorem qCp {R:Type} {X:Fx R} {p:Pt} {env:Env} {H:Hp} {t:Option R} (d r0 v n sz:Nat) (h:look env d = .slice r0 v 0 n sz) (hv:v = n * sz) (k:Ok X p ((d,.own r0 n sz) :: env) H t):Ok X p env H t:=by
 intro r hr m0 w0 b0 m w a h0 fr hnt hd rw st
 refine k r hr m0 w0 b0 m w a h0 ?_ hnt hd rw st
 intro u hu
 by_cases e:d = u
 ·subst e
  obtain ⟨c,h1,h2⟩:=fr d (by rw [h]; intro e; cases e)
  rw [h] at h2
  refine ⟨_,h1,?_⟩
  rw [qAo,if_pos rfl]
  exact qGl h2 hv
 ·have he:look ((d,AV.own r0 n sz) :: env) u = look env u:=by rw [qAo,if_neg e]
  rw [he] at hu ⊢
  exact fr u hu
mutual
def nref (n : Nat) : AV → Bool
 | .ptr r _ _ => !Nat.beq r n
 | .slice r _ _ _ _ => !Nat.beq r n
 | .own r _ _ => !Nat.beq r n
 | .agg xs=>nrefs n xs
 | .tuple xs=>nrefs n xs
 | .func _ a b=>nrefs n a && nrefs n b
 | .iface _ v=>nref n v
 | _=>true
def nrefs (n : Nat) : List AV → Bool
 | []=>true
 | x :: xs=>nref n x && nrefs n xs
end
def Mp.out (m:Mp) (n:Nat) (F:Nat → Option (Nat × List AV)):Mp:=⟨fun r v=>if r = n then none else m r v,F⟩
theorem qMn {m:Mp} {n:Nat} {F:Nat → Option (Nat × List AV)} {r v:Nat} (h:(!Nat.beq r n) = true):(m.out n F) r v = m r v:=by
 show (if r = n then none else m r v) = m r v
 rw [if_neg]
 rintro rfl
 simp at h
mutual
theorem qG2 {m : Mp} {n : Nat} {F : Nat → Option (Nat × List AV)} (hF : ∀ i p, m.froz i = some p → F i = some p) : ∀ (x : AV) (c : Value), nref n x = true → VR m x c → VR (m.out n F) x c
 | .top,_,_,_=>by simp only [VR]
 | .int ..,_,_,e=>by simpa only [VR] using e
 | .resid ..,_,_,e=>by simpa only [VR] using e
 | .bool _,_,_,e=>by simpa only [VR] using e
 | .str _,_,_,e=>by simpa only [VR] using e
 | .nilp,_,_,e=>by simpa only [VR] using e
 | .nils,_,_,e=>by simpa only [VR] using e
 | .nilf,_,_,e=>by simpa only [VR] using e
 | .nili,_,_,e=>by simpa only [VR] using e
 | .vec ..,_,_,e=>by
  simp only [VR] at e ⊢
  obtain ⟨h0,a,cap,h1,h2,h3,h4⟩:=e
  exact ⟨h0,a,cap,h1,h2,h3,fun hn=>let ⟨i,B,off,all,q,r⟩:=h4 hn; ⟨i,B,off,all,hF _ _ q,r⟩⟩
 | .vptr ..,_,_,e=>by
  simp only [VR] at e ⊢
  obtain ⟨i,B,off,all,q,r⟩:=e
  exact ⟨i,B,off,all,hF _ _ q,r⟩
 | .ptr r v off,_,h,e=>by
  simp only [VR] at e ⊢
  obtain ⟨B,N,h1,h2⟩:=e
  exact ⟨B,N,by rw [qMn (by simpa only [nref] using h)]; exact h1,h2⟩
 | .slice r v off len sz,_,h,e=>by
  simp only [VR] at e ⊢
  obtain ⟨B,N,cap,h1,h2⟩:=e
  exact ⟨B,N,cap,by rw [qMn (by simpa only [nref] using h)]; exact h1,h2⟩
 | .own r len sz,_,h,e=>by
  simp only [VR] at e ⊢
  rcases e with e | ⟨B,N,cap,h1,h2⟩
  ·exact .inl e
  ·exact .inr ⟨B,N,cap,by rw [qMn (by simpa only [nref] using h)]; exact h1,h2⟩
 | .agg xs,c,h,e=>by
  simp only [VR] at e ⊢
  obtain ⟨ys,h1,h2⟩:=e
  exact ⟨ys,h1,qC hF xs _ (by simpa only [nref] using h) h2⟩
 | .tuple xs,c,h,e=>by
  simp only [VR] at e ⊢
  obtain ⟨ys,h1,h2⟩:=e
  exact ⟨ys,h1,qC hF xs _ (by simpa only [nref] using h) h2⟩
 | .func f a b,c,h,e=>by
  simp only [VR] at e ⊢
  simp only [nref,Bool.and_eq_true] at h
  obtain ⟨ys,zs,h1,h2,h3⟩:=e
  exact ⟨ys,zs,h1,qC hF a _ h.1 h2,qC hF b _ h.2 h3⟩
 | .iface t v,c,h,e=>by
  simp only [VR] at e ⊢
  obtain ⟨d,h1,h2⟩:=e
  exact ⟨d,h1,qG2 hF v _ (by simpa only [nref] using h) h2⟩
theorem qC {m : Mp} {n : Nat} {F : Nat → Option (Nat × List AV)} (hF : ∀ i p, m.froz i = some p → F i = some p) : ∀ (xs : List AV) (cs : List Value), nrefs n xs = true → VRs m xs cs → VRs (m.out n F) xs cs
 | [],_,_,e=>by simpa only [VRs] using e
 | x :: xs,cs,h,e=>by
  simp only [VRs] at e ⊢
  simp only [nrefs,Bool.and_eq_true] at h
  obtain ⟨y,ys,rfl,h1,h2⟩:=e
  exact ⟨y,ys,rfl,qG2 hF x y h.1 h1,qC hF xs ys h.2 h2⟩
end
theorem qDa {n : Nat} : ∀ {xs : List AV} (k : Nat), nrefs n xs = true → nrefs n (xs.take k) = true
 | [],k,_=>by simp [nrefs]
 | x :: xs,0,_=>by simp [nrefs]
 | x :: xs,k + 1,h=>by
  simp only [nrefs,List.take_succ_cons,Bool.and_eq_true] at h ⊢
  exact ⟨h.1,qDa k h.2⟩
def nrefE (n : Nat) : Env → Bool
 | []=>true
 | p :: l=>nref n p.2 && nrefE n l
theorem qEy {n : Nat} : ∀ {e : Env} (t : Nat), nrefE n e = true → nref n (look e t) = true
 | [],t,_=>rfl
 | p :: l,t,h=>by
  simp only [nrefE,Bool.and_eq_true] at h
  rw [qAo]
  split
  ·exact h.1
  ·exact qEy t h.2
mutual
theorem qJl {n : Nat} : ∀ x : AV, pur x = true → nref n x = true
 | .top,_ | .int ..,_ | .resid ..,_ | .bool _,_ | .str _,_ | .nilp,_ | .nils,_ | .nilf,_ | .nili,_ | .vec ..,_ | .vptr ..,_=>by simp [nref]
 | .ptr ..,h | .slice ..,h | .own ..,h=>by simp [pur] at h
 | .agg xs,h=>by simp only [pur,nref] at h ⊢; exact qBi xs h
 | .tuple xs,h=>by simp only [pur,nref] at h ⊢; exact qBi xs h
 | .func _ a b,h=>by simp only [pur,nref,Bool.and_eq_true] at h ⊢; exact ⟨qBi a h.1,qBi b h.2⟩
 | .iface _ v,h=>by simp only [pur,nref] at h ⊢; exact qJl v h
theorem qBi {n : Nat} : ∀ xs : List AV, purs xs = true → nrefs n xs = true
 | [],_=>rfl
 | x :: xs,h=>by simp only [purs,nrefs,Bool.and_eq_true] at h ⊢; exact ⟨qJl x h.1,qBi xs h.2⟩
end
def NB (n : Nat) : Nat → List Blk → Prop
 | _,[]=>True
 | i,b :: l=>(i = n ∨ nrefs n b.cells = true) ∧ NB n (i + 1) l
theorem NB_get {n : Nat} : ∀ {l : List Blk} {i j : Nat} {b : Blk}, NB n i l → l[j]? = some b → i + j ≠ n → nrefs n b.cells = true
 | [],i,j,b,_,h,_=>by simp at h
 | b0 :: l,i,j,b,hb,h,hne=>by
  cases j with
  | zero=>simp at h; subst h; exact hb.1.resolve_left (by omega)
  | succ j=>exact NB_get hb.2 (by simpa using h) (by omega)
theorem ok_frz {R:Type} {X:Fx R} {p:Pt} {env env0:Env} {t:Option R} (L:List Blk) (d r0 n sz minv:Nat) (cells:List AV) (ks:List Nat) (hn0:Nat.ble X.n0 r0 = true) (hl:Nat.ble L.length roots = true) (hd0:look env d = .slice r0 (n * sz) 0 n sz ∨ look env d = .own r0 n sz) (hr:L[r0]? = some ⟨cells,minv,false⟩) (hc:cells.length = n * sz) (hmin:minv ≤ n * sz) (hp:purs cells = true) (hk:keepOnly env ks = env0) (hne:nrefE r0 env0 = true) (hnb:NB r0 0 L) (k:Ok X p ((d,.vec n sz cells) :: env0) (mkH (L.set r0 ⟨[],0,false⟩)) t):Ok X p env (mkH L) t:=by
 intro r hr' m0 w0 b0 m w a h0 fr0 hnt hd rw st
 have fr:FR m env0 a.tmps:=fr0.less (hk ▸ qBg ks env)
 have hroot:(mkH L).t.get r0 = some ⟨cells,minv,false⟩:=qE8 hl hr
 have hlt:r0 < L.length:=(List.getElem?_eq_some_iff.1 hr).1
 obtain ⟨c,hc1,hc2⟩:=fr0 d (by rcases hd0 with h | h <;> (rw [h]; intro e; cases e))
 have hcase:c = .slice none 0 0 ∧ n = 0 ∨ ∃ B N cap,m r0 (n * sz) = some (B,N) ∧ n ≤ cap ∧ c = .slice (some ⟨B,0,none⟩) n cap:=by
  rcases hd0 with h | h <;> rw [h] at hc2 <;> simp only [VR] at hc2
  ·obtain ⟨B,N,cap,h1,h2,h3,h4,h5⟩:=hc2
   exact .inr ⟨B,N,cap,h1,h3,h5⟩
  ·rcases hc2 with ⟨h1,h2⟩ | ⟨B,N,cap,h1,h2,h3,h4⟩
   ·exact .inl ⟨h2,h1⟩
   ·exact .inr ⟨B,N,cap,h1,h2,h4⟩
 have hF0:FOk 0 m m.froz w b0:=⟨fun i B cells hi=>rw.frz i B cells hi,rw.ffin,fun i B cells h => .inl h,fun _ _ h=>h⟩
 have key:∃ F,FOk 0 m F w b0 ∧ (∀ i B cs,F i = some (B,cs) → m.froz i = some (B,cs) ∨ ∃ v N,m r0 v = some (B,N)) ∧ VR ⟨fun _ _=>none,F⟩ (.vec n sz cells) c:=by
  rcases hcase with ⟨rfl,rfl⟩ | ⟨B,N,cap,hm,hcap,rfl⟩
  ·have:cells = []:=List.length_eq_zero_iff.1 (by omega)
   subst this
   exact ⟨m.froz,hF0,fun i B cs h => .inl h,qD4 _ _⟩
  ·obtain ⟨cs,ty,fr',q1,q2,q3,q4,q5⟩:=rw.blk _ _ _ _ _ hroot hm hmin (by show n * sz ≤ cells.length; omega)
   obtain ⟨b0,hb0,_,_,hbase⟩:=rw.dom _ _ _ _ hm
   rw [hroot] at hb0
   cases hb0
   simp only at q5
   rw [List.take_of_length_le (by omega)] at q5
   obtain ⟨nf,hnf⟩:=rw.ffin
   have q6:=qB7 _ _ hp q5
   obtain ⟨F,i,g1,g2,g3⟩:=qIw hF0 (hbase rfl) ⟨_,_,_,Nat.zero_le _,hm⟩ q1 (cells:=cells) (by omega) (by rw [hc]; exact q6)
   refine ⟨fun j=>if j = nf then some (B,cells) else m.froz j,?_,?_,?_⟩
   ·refine ⟨?_,⟨nf + 1,fun j hj=>by show (if j = nf then some (B,cells) else m.froz j) = none; rw [if_neg (by omega)]; exact hnf j (by omega)⟩,?_,?_⟩
    ·intro j B' cells' hj
     have hS:Sub m.still ⟨fun _ _=>none,fun j=>if j = nf then some (B,cells) else m.froz j⟩:=⟨fun _ _ _ e=>(by cases e),fun j q hq=>by
      show (if j = nf then some (B,cells) else m.froz j) = some q
      rw [if_neg]
      ·exact hq
      ·rintro rfl
       have hq:m.froz j = some q:=hq
       rw [hnf _ (Nat.le_refl _)] at hq; cases hq⟩
     by_cases e:j = nf
     ·simp only [e,if_true] at hj
      cases hj
      exact ⟨cs,ty,fr',q1,by omega,by rw [hc]; exact VRs.mono hS _ _ q6⟩
     ·simp only [e,if_false] at hj
      obtain ⟨cs2,ty2,fr2,e1,e2,e3⟩:=rw.frz j B' cells' hj
      exact ⟨cs2,ty2,fr2,e1,e2,VRs.mono hS _ _ e3⟩
    ·intro j B' cells' hj
     by_cases e:j = nf
     ·simp only [e,if_true] at hj
      cases hj
      exact .inr ⟨hbase rfl,_,_,_,Nat.zero_le _,hm⟩
     ·simp only [e,if_false] at hj
      exact .inl hj
    ·intro j q hq
     show (if j = nf then some (B,cells) else m.froz j) = some q
     rw [if_neg]
     ·exact hq
     ·rintro rfl; rw [hnf _ (Nat.le_refl _)] at hq; cases hq
   ·intro j B' cells' hj
    by_cases e:j = nf
    ·simp only [e,if_true] at hj
     cases hj
     exact .inr ⟨_,_,hm⟩
    ·simp only [e,if_false] at hj
     exact .inl hj
   ·simp only [VR]
    refine ⟨hc,_,cap,rfl,hcap,fun e=>(by cases e),fun _=>⟨nf,B,0,cells,by simp,rfl,?_,by omega⟩⟩
    rw [List.drop_zero,List.take_of_length_le (by omega)]
 obtain ⟨F,hFok,hFnew,hvec⟩:=key
 have hget:∀ i,i ≠ r0 → (mkH (L.set r0 ⟨[],0,false⟩)).t.get i = (mkH L).t.get i:=by
  intro i hi
  show (mkT 0 (L.set r0 ⟨[],0,false⟩)).get i = (mkT 0 L).get i
  have hl':L.length ≤ roots:=Nat.le_of_ble_eq_true hl
  rw [qB4 _ _ _ (by rw [List.length_set]; omega),qB4 _ _ _ (by omega)]
  simp only [Nat.zero_le,if_true,Nat.sub_zero]
  rw [List.getElem?_set,if_neg (fun e=>hi e.symm)]
 have hout:∀ {r v q},(m.out r0 F) r v = some q → r ≠ r0 ∧ m r v = some q:=by
  intro r v q h
  have h:(if r = r0 then none else m r v) = some q:=h
  by_cases e:r = r0
  ·rw [if_pos e] at h; cases h
  ·rw [if_neg e] at h; exact ⟨e,h⟩
 refine k r hr' m0 w0 b0 (m.out r0 F) w a h0 ?_ hnt hd ⟨?_,?_,?_,?_,?_,hFok.ok,?_,hFok.fin,rw.base_le,?_⟩ ⟨⟨fun r v q hq=>(by
  have h1:=h0.1 r v q hq
  have h2:=Nat.le_of_ble_eq_true hn0
  show (if r = r0 then none else m r v) = some q
  rw [if_neg (by omega)]
  exact st.sub.1 r v q hq),fun i q hq=>hFok.sub i q (st.sub.2 i q hq)⟩,?_,?_,st.size,st.os,st.tape,st.output,st.same⟩
 ·intro u hu
  by_cases e:d = u
  ·subst e
   refine ⟨c,hc1,?_⟩
   rw [qAo,if_pos rfl]
   exact VR.mono (m:=⟨fun _ _=>none,F⟩) (m':=m.out r0 F) ⟨fun _ _ _ h=>(by cases h),fun _ _ h=>h⟩ _ _ hvec
  ·have he:look ((d,AV.vec n sz cells) :: env0) u = look env0 u:=by rw [qAo,if_neg e]
   rw [he] at hu ⊢
   obtain ⟨c,h1,h2⟩:=fr u hu
   exact ⟨c,h1,qG2 hFok.sub _ _ (qEy u hne) h2⟩
 ·intro r b v B N hb hm h1 h2
  obtain ⟨hne',hm⟩:=hout hm
  rw [hget r hne'] at hb
  obtain ⟨cs,ty,fr',q1,q2,q3,q4,q5⟩:=rw.blk r b v B N hb hm h1 h2
  have hbl:L[r]? = some b:=by
   have hb':(mkT 0 L).get r = some b:=hb
   rw [qB4 _ _ _ (by rw [Nat.zero_add]; exact Nat.le_of_ble_eq_true hl)] at hb'
   simpa using hb'
  exact ⟨cs,ty,fr',q1,q2,q3,q4,qC hFok.sub _ _ (qDa v (NB_get hnb hbl (by omega))) q5⟩
 ·intro r v B N hm
  obtain ⟨hne',hm⟩:=hout hm
  rw [hget r hne']
  exact rw.dom r v B N hm
 ·intro r v B N r' v' N' hm hm' hB
  exact rw.sep _ _ _ _ _ _ _ (hout hm).2 (hout hm').2 hB
 ·intro r hr
  have hr:L.length ≤ r:=by
   have:(mkH (L.set r0 ⟨[],0,false⟩)).next = L.length:=by simp [mkH]
   rw [this] at hr; exact hr
  rw [hget r (by omega)]
  exact rw.fresh r hr
 ·intro r v B N hm
  exact rw.vle _ _ _ _ (hout hm).2
 ·intro i B cs r v N b hi hm hb
  obtain ⟨hne',hm⟩:=hout hm
  rw [hget r hne'] at hb
  rcases hFnew i B cs hi with h | ⟨v',N',h⟩
  ·exact rw.fsep i B cs r v N b h hm hb
  ·obtain ⟨b0,hb0,_,_,hbase⟩:=rw.dom _ _ _ _ h
   rw [hroot] at hb0
   cases hb0
   exact absurd (rw.sep _ _ _ _ _ _ _ h hm (hbase rfl)).symm hne'
 ·show (L.set r0 ⟨[],0,false⟩).length ≤ roots
  rw [List.length_set]; exact Nat.le_of_ble_eq_true hl
 ·intro r v B N hm
  exact st.ext r v B N (hout hm).2
 ·intro i B cs hi
  rcases hFok.new i B cs hi with h | h
  ·exact st.fext i B cs h
  ·obtain ⟨h1,r,v,N,_,hm⟩:=h
   rcases st.ext r v B N hm with ⟨v0,N0,e0⟩ | h2
   ·exact .inr ⟨h1,.inl ⟨r,v0,N0,e0⟩⟩
   ·exact .inr ⟨h1,.inr h2⟩
theorem qEr {R:Type} {X:Fx R} {p:Pt} {env:Env} {H:Hp} {b:Bool} {t1 t2:Option R} (k1:b = true → Ok X p env H t1) (k2:b = false → Ok X p env H t2):Ok X p env H (if b then t1 else t2):=by
 cases b with
 | true=>exact k1 rfl
 | false=>exact k2 rfl
theorem qJk {α : Type} {f : α → AV} (h : ∀ x, pur (f x) = true) : ∀ l : List α, purs (l.map f) = true
 | []=>rfl
 | x :: l=>by simp only [List.map_cons,purs,Bool.and_eq_true]; exact ⟨h x,qJk h l⟩
theorem arr_pur {α:Type} {f:α → AV} (h:∀ x,pur (f x) = true) (l:List α):pur (.agg (l.map f)) = true:=by simp only [pur]; exact qJk h l
theorem qMz {R:Type} {X:Fx R} {p:Pt} {env:Env} {H:Hp} {α:Type} {m:Option α} {f:α → Option R} (g:α → AV × Hp) (p':Pt) (E:α → Env) (h:∀ x,m = some x → evalAt X.C X.fn.ntmps p env H = some (g x)) (ha:∀ x,advE X.fn.ntmps p env (g x).1 = some (p',E x)) (k:∀ x,m = some x → Ok X p' (E x) (g x).2 (f x)):Ok X p env H (m.bind f) :=
 qA7 fun x hx=>ok_val (v:=(g x).1) (H':=(g x).2) (h x hx) (ha x) (k x hx)
theorem qE3 {P:Program} {C:Cx} {D:DP} {all l l':List Oper} {env eE e:Env} {H:Hp} {hs hs2:List Hp} {α:Type} {x:α} (g:α → AV × Hp) (h:evalD C D all l env H = some (g x)) (ha:advD D all l env (g x).1 (g x).2 = some (l',eE,hs)) (k:OpsD P C D all l' eE (g x).2 e hs2):OpsD P C D all l env H e (hs ++ hs2) :=
 qA9 (m:=some x) g h rfl ha k
theorem qJt : ∀ (L : List Blk) (n : Nat) (b : Blk), mkT n (L ++ [b]) = PT.set depth (mkT n L) (n + L.length) b
 | [],n,b=>by rw [List.nil_append,qBf,qHv,qHv]; rfl
 | c :: L,n,b=>by
  rw [List.cons_append,qBf,qBf,qJt L (n + 1) b,PT.set_comm _ _ _ _ _ _ (by omega),List.length_cons,show n + (L.length + 1) = n + 1 + L.length by omega]
theorem qJu (L:List Blk) (b:Blk):(⟨(mkH L).next + 1,Tr.set depth (mkH L).t (mkH L).next b⟩:Hp) = mkH (L ++ [b]):=by
 show (⟨L.length + 1,PT.set depth (mkT 0 L) L.length b⟩:Hp) = ⟨(L ++ [b]).length,mkT 0 (L ++ [b])⟩
 rw [qJt,Nat.zero_add,List.length_append]
 rfl
theorem qMx {R:Type} {X:Fx R} {p:Pt} {env:Env} {t:Option R} (L:List Blk) (r0:Nat) (cells:List AV) (minv minv':Nat) (hl:Nat.ble L.length roots = true) (hr:L[r0]? = some ⟨cells,minv,false⟩) (hm:minv ≤ minv') (k:Ok X p env (mkH (L.set r0 ⟨cells,minv',false⟩)) t):Ok X p env (mkH L) t:=by
 intro r hr' m0 w0 b0 m w a h0 fr hnt hd rw st
 have hroot:(mkH L).t.get r0 = some ⟨cells,minv,false⟩:=qE8 hl hr
 have hlt:r0 < L.length:=(List.getElem?_eq_some_iff.1 hr).1
 have hl':L.length ≤ roots:=Nat.le_of_ble_eq_true hl
 have hget:∀ i,i ≠ r0 → (mkH (L.set r0 ⟨cells,minv',false⟩)).t.get i = (mkH L).t.get i:=by
  intro i hi
  show (mkT 0 (L.set r0 ⟨cells,minv',false⟩)).get i = (mkT 0 L).get i
  rw [qB4 _ _ _ (by rw [List.length_set]; omega),qB4 _ _ _ (by omega)]
  simp only [Nat.zero_le,if_true,Nat.sub_zero]
  rw [List.getElem?_set,if_neg (fun e=>hi e.symm)]
 have hget0:(mkH (L.set r0 ⟨cells,minv',false⟩)).t.get r0 = some ⟨cells,minv',false⟩:=qE8 (by rw [List.length_set]; exact hl) (by rw [List.getElem?_set,if_pos rfl,if_pos hlt])
 refine k r hr' m0 w0 b0 m w a h0 fr hnt hd ⟨?_,?_,rw.sep,?_,rw.vle,rw.frz,?_,rw.ffin,rw.base_le,?_⟩ st
 ·intro r b v B N hb hm' h1 h2
  by_cases e:r = r0
  ·subst e
   rw [hget0] at hb
   cases hb
   exact rw.blk r ⟨cells,minv,false⟩ v B N hroot hm' (Nat.le_trans hm h1) h2
  ·rw [hget r e] at hb
   exact rw.blk r b v B N hb hm' h1 h2
 ·intro r v B N hm'
  obtain ⟨b,q1,q2,q3,q4⟩:=rw.dom r v B N hm'
  by_cases e:r = r0
  ·subst e
   rw [hroot] at q1
   cases q1
   exact ⟨_,hget0,q2,q3,q4⟩
  ·exact ⟨b,by rw [hget r e]; exact q1,q2,q3,q4⟩
 ·intro r hr
  have hr:L.length ≤ r:=by
   have:(mkH (L.set r0 ⟨cells,minv',false⟩)).next = L.length:=by simp [mkH]
   rw [this] at hr; exact hr
  rw [hget r (by omega)]
  exact rw.fresh r hr
 ·intro i B cs r v N b hi hm' hb
  by_cases e:r = r0
  ·subst e
   have:=rw.fsep i B cs r v N _ hi hm' hroot
   cases this
  ·rw [hget r e] at hb
   exact rw.fsep i B cs r v N b hi hm' hb
 ·show (L.set r0 ⟨cells,minv',false⟩).length ≤ roots
  rw [List.length_set]; exact hl'
theorem ok_callM {R:Type} {X:Fx R} {p:Pt} {env:Env} {H:Hp} {α:Type} {m:Option α} {f:α → Option R} {fi:Nat} {args:List AV} (g:α → AV) (G:α → Hp) (p':Pt) (E:α → Env) (hc:callAt X.fn.ntmps p env = some (fi,args)) (hf:∀ x,m = some x → CallV X.P fi args H (g x) (G x)) (ha:∀ x,advE X.fn.ntmps p env (g x) = some (p',E x)) (k:∀ x,m = some x → Ok X p' (E x) (G x) (f x)):Ok X p env H (m.bind f):=by
 refine qA7 fun x hx=>?_
 have hpo:=hf x hx
 have hax:=ha x
 unfold advE at hax
 unfold callAt at hc
 cases ho:operAt X.fn.ntmps p env with
 | none=>rw [ho] at hax; cases hax
 | some o =>
  rw [ho] at hax hc
  simp only [Option.some.injEq,Prod.mk.injEq] at hax hc
  obtain ⟨e1,e2⟩:=hax
  obtain ⟨ops,n,K,rfl,h1,h2,h3⟩:=qAs ho
  have kx:=k x hx
  rw [← e1,← e2] at kx
  split at hc
  ·rename_i c hoc
   split at hc
   ·rename_i q hq
    split at hc
    ·rename_i fi' first caps hfv
     cases hc
     exact qGz h1 h2 h3 (.inr ⟨c,q,fi,first,caps,hoc,hq,hfv,hpo⟩) kx
    ·cases hc
   ·cases hc
  ·cases hc
theorem qA5 {P:Program} {C:Cx} {D:DP} {all l l':List Oper} {env eE e:Env} {H H':Hp} {hs hs2:List Hp} {fi:Nat} {args:List AV} {v:AV} (hc:callD all l env = some (fi,args)) (hpo:CallV P fi args H v H') (ha:advD D all l env v H' = some (l',eE,hs)) (k:OpsD P C D all l' eE H' e hs2):OpsD P C D all l env H e (hs ++ hs2):=by
 unfold callD at hc
 cases ho:headO all l env with
 | none=>rw [ho] at hc; cases hc
 | some o =>
  rw [ho] at hc
  simp only at hc
  split at hc
  ·rename_i c hoc
   split at hc
   ·rename_i q hq
    split at hc
    ·rename_i fi' first caps hfv
     cases hc
     exact qFw (v:=v) ho (.inr ⟨c,q,fi,first,caps,hoc,hq,hfv,hpo⟩) ha k
    ·cases hc
   ·cases hc
  ·cases hc
def PT.allB {α : Type} (p : Nat → α → Bool) : PT α → (Nat → Nat) → Bool
 | .nil,_=>true
 | .node l b r,g=>(match b with | some x=>p (g 0) x | none=>true) && l.allB p (fun n=>g (2 * n + 1)) && r.allB p (fun n=>g (2 * n + 2))
theorem PT.allB_get {α : Type} {p : Nat → α → Bool} : ∀ (t : PT α) (g : Nat → Nat), t.allB p g = true → ∀ (n : Nat) (x : α), t.get n = some x → p (g n) x = true
 | .nil,g,_,n,x,h=>by cases h
 | .node l b r,g,hh,n,x,h=>by
  simp only [PT.allB,Bool.and_eq_true] at hh
  obtain ⟨⟨h1,h2⟩,h3⟩:=hh
  rw [PT.get_node] at h
  by_cases h0:n = 0
  ·rw [if_pos h0] at h
   subst h0
   subst h
   exact h1
  ·rw [if_neg h0] at h
   by_cases hm:n % 2 = 1
   ·rw [if_pos hm] at h
    have:=PT.allB_get l _ h2 _ _ h
    rwa [show 2 * (n / 2) + 1 = n by omega] at this
   ·rw [if_neg hm] at h
    have:=PT.allB_get r _ h3 _ _ h
    rwa [show 2 * (n / 2 - 1) + 2 = n by omega] at this
def beqZ : AV → AV → Bool
 | .top,.top=>true
 | .int k n,.int k' n'=>decide (k = k') && decide (n = n')
 | .bool a,.bool b=>a == b
 | .str a,.str b=>eqL a b
 | .nilp,.nilp=>true
 | .nils,.nils=>true
 | .nilf,.nilf=>true
 | .nili,.nili=>true
 | _,_=>false
theorem beqZ_eq {x y:AV} (h:beqZ x y = true):x = y:=by
 cases x <;> cases y <;> simp [beqZ,qEi] at h ⊢ <;> exact h
def beqZs : List AV → List AV → Bool
 | [],[]=>true
 | a :: x,b :: y=>beqZ a b && beqZs x y
 | _,_=>false
theorem qL5 : ∀ (x y : List AV), beqZs x y = true → x = y
 | [],[],_=>rfl
 | [],_ :: _,h=>by simp [beqZs] at h
 | _ :: _,[],h=>by simp [beqZs] at h
 | a :: x,b :: y,h=>by
  simp only [beqZs,Bool.and_eq_true] at h
  rw [beqZ_eq h.1,qL5 x y h.2]
def beqTi (i j:Ti):Bool :=
 Nat.beq i.size j.size && Nat.beq i.bytes j.bytes && (match i.zero,j.zero with | some a,some b=>beqZs a b | none,none=>true | _,_=>false) && decide (i.kind = j.kind) && decide (i.fields = j.fields) && Nat.beq i.elem j.elem && Nat.beq i.len j.len && decide (i.flat = j.flat)
theorem beqTi_eq {i j:Ti} (h:beqTi i j = true):i = j:=by
 obtain ⟨a1,a2,a3,a4,a5,a6,a7,a8⟩:=i
 obtain ⟨b1,b2,b3,b4,b5,b6,b7,b8⟩:=j
 simp only [beqTi,Bool.and_eq_true,decide_eq_true_eq] at h
 obtain ⟨⟨⟨⟨⟨⟨⟨h1,h2⟩,h3⟩,h4⟩,h5⟩,h6⟩,h7⟩,h8⟩:=h
 have h1:=Nat.eq_of_beq_eq_true h1
 have h2:=Nat.eq_of_beq_eq_true h2
 have h6:=Nat.eq_of_beq_eq_true h6
 have h7:=Nat.eq_of_beq_eq_true h7
 have h3':a3 = b3:=by
  cases a3 <;> cases b3 <;> simp only at h3 <;> first | rfl | cases h3 | exact congrArg some (qL5 _ _ h3)
 subst h1 h2 h3' h4 h5 h6 h7 h8
 rfl
def tiOk (P:Program) (t:Nat) (i:Ti):Bool:=match mkTi P t with | some j=>beqTi i j | none=>false
theorem tiOk_eq {P:Program} {t:Nat} {i:Ti} (h:tiOk P t i = true):mkTi P t = some i:=by
 unfold tiOk at h
 split at h
 ·rename_i j hj
  rw [hj,beqTi_eq h]
 ·cases h
def It (d:Nat) (s:ByteArray) (pos base:Nat) (m:Mp) (w:World) (a:Act):Prop :=
 ∃ B,a.tmps[d]? = some (.pointer (some ⟨B,0,none⟩)) ∧ w.heap[B]? = some (.stringIter s pos) ∧ base ≤ B ∧ ∀ r v N,m r v ≠ some (B,N)
section
variable {R:Type} (X:Fx R)
end
section
variable {R:Type} {X:Fx R} {p p':Pt} {env eE:Env} {H H':Hp} {d pos:Nat} {s:ByteArray}
def dneq (o:Oper) (d:Nat):Bool:=match o.dst with | some e => !Nat.beq e d | none=>true
theorem It.put {base:Nat} {m:Mp} {w:World} {a:Act} {o:Oper} (c:Value) (hd:dneq o d = true) (it:It d s pos base m w a):It d s pos base m w (a.put o.dst c):=by
 obtain ⟨B,h1,h2,h3,h4⟩:=it
 refine ⟨B,?_,h2,h3,h4⟩
 unfold dneq at hd
 cases ho:o.dst with
 | none=>exact h1
 | some e =>
  rw [ho] at hd
  simp only [Act.put]
  rw [Array.getElem?_setIfInBounds_ne]
  ·exact h1
  ·rintro rfl; simp at hd
theorem It.step {base b0:Nat} {m m':Mp} {w w':World} {a:Act} (st:St m w b0 m' w') (it:It d s pos base m w a):It d s pos base m' w' a:=by
 obtain ⟨B,h1,h2,h3,h4⟩:=it
 have hlt:B < w.heap.size:=(Array.getElem?_eq_some_iff.1 h2).1
 refine ⟨B,h1,by rw [st.same B hlt (fun r v N e=>absurd e (h4 r v N))]; exact h2,h3,?_⟩
 intro r v N e
 rcases st.ext r v B N e with ⟨v0,N0,e0⟩ | hB
 ·exact h4 r v0 N0 e0
 ·omega
end
end Go.Proofs.Ythpplbkobokghaa.Am
set_option maxRecDepth 100000
namespace Go.Proofs.Ythpplbkobokghaa.Am
noncomputable section
open Go
def tyT:PT Ti:=(.node (.node (.node (.node (.node (.node (.node .nil (some ⟨1,8,(some [.nilf]),.other,[],0,0,none⟩) .nil) (some ⟨1,8,(some [.nilf]),.other,[],0,0,none⟩) (.node .nil (some ⟨1,8,(some [.nilf]),.other,[],0,0,none⟩) .nil)) (some ⟨1,8,(some [.nilp]),.pointer,[],107,0,none⟩) (.node (.node .nil (some ⟨1,8,(some [.nilf]),.other,[],0,0,none⟩) .nil) (some ⟨1,24,(some [.nils]),.slice,[],5,0,none⟩) (.node .nil (some ⟨1,8,(some [.nilf]),.other,[],0,0,none⟩) .nil))) (some ⟨4,24,(some [.int .i64 0,.int .i64 0,.bool false,.int .u8 0]),.struct,[(0,2),(1,3),(2,4),(3,6)],0,0,(some [(.int .i64),(.int .i64),.bool,(.int .u8)])⟩) (.node (.node (.node .nil (some ⟨0,0,(some []),.struct,[],0,0,(some [])⟩) .nil) (some ⟨1,8,(some [.nilf]),.other,[],0,0,none⟩) (.node .nil (some ⟨1,8,(some [.nilf]),.other,[],0,0,none⟩) .nil)) (some ⟨1,8,(some [.int .u64 0]),.int .u64,[],0,0,none⟩) (.node (.node .nil (some ⟨1,8,(some [.nilf]),.other,[],0,0,none⟩) .nil) (some ⟨1,0,(some [.top]),.other,[],0,0,none⟩) (.node .nil (some ⟨11,48,(some [.int .u64 0,.int .u64 0,.int .u32 0,.int .u8 0,.int .u8 0,.int .u8 0,.int .u8 0,.nilf,.nilp,.int .i32 0,.int .i32 0]),.struct,[(0,12),(1,12),(2,112),(3,113),(4,5),(5,5),(6,114),(7,115),(8,116),(9,117),(10,118)],0,0,none⟩) .nil)))) (some ⟨1,8,(some [.int .i64 0]),.int .i64,[],0,0,none⟩) (.node (.node (.node (.node .nil (some ⟨1,8,(some [.nilf]),.other,[],0,0,none⟩) .nil) (some ⟨1,8,(some [.nilf]),.other,[],0,0,none⟩) (.node .nil (some ⟨1,8,(some [.nilf]),.other,[],0,0,none⟩) .nil)) (some ⟨1,8,(some [.nilp]),.struct,[(0,17)],0,0,none⟩) (.node (.node .nil (some ⟨9,216,(some [.nils,.nils,.nils,.nils,.nils,.nils,.nils,.nils,.nils]),.array,[],22,9,(some (List.replicate 9 .slice))⟩) .nil) (some ⟨1,8,(some [.nilf]),.other,[],0,0,none⟩) (.node .nil (some ⟨1,8,(some [.nilf]),.other,[],0,0,none⟩) .nil))) (some ⟨1,16,(some [.str []]),.string,[],0,0,none⟩) (.node (.node (.node .nil (some ⟨1,8,(some [.nilf]),.other,[],0,0,none⟩) .nil) (some ⟨1,8,(some [.nilf]),.other,[],0,0,none⟩) (.node .nil (some ⟨4,40,(some [.nilp,.nilp,.nilp,.str []]),.struct,[(0,17),(1,17),(2,17),(3,9)],0,0,none⟩) .nil)) (some ⟨1,24,(some [.nils]),.slice,[],29,0,none⟩) (.node (.node .nil (some ⟨1,8,(some [.nilf]),.other,[],0,0,none⟩) .nil) (some ⟨1,8,(some [.nilf]),.other,[],0,0,none⟩) .nil)))) (some ⟨1,8,(some [.nilf]),.other,[],0,0,none⟩) (.node (.node (.node (.node (.node .nil (some ⟨1,8,(some [.nilf]),.other,[],0,0,none⟩) .nil) (some ⟨3,32,(some [.int .i64 0,.str [],.int .i64 0]),.struct,[(0,3),(1,9),(2,3)],0,0,(some [(.int .i64),.string,(.int .i64)])⟩) (.node .nil (some ⟨1,8,(some [.nilf]),.other,[],0,0,none⟩) .nil)) (some ⟨1,8,(some [.nilp]),.pointer,[],120,0,none⟩) (.node (.node .nil (some ⟨1,8,(some [.nilf]),.other,[],0,0,none⟩) .nil) (some ⟨1,8,(some [.nilf]),.other,[],0,0,none⟩) (.node .nil (some ⟨1,1,(some [.int .u8 0]),.int .u8,[],0,0,none⟩) .nil))) (some ⟨1,16,(some [.str []]),.string,[],0,0,none⟩) (.node (.node (.node .nil (some ⟨1,0,(some [.top]),.other,[],0,0,none⟩) .nil) (some ⟨1,8,(some [.nilf]),.other,[],0,0,none⟩) (.node .nil (some ⟨1,8,(some [.nilf]),.other,[],0,0,none⟩) .nil)) (some ⟨1,0,(some [.top]),.other,[],0,0,none⟩) (.node (.node .nil (some ⟨1,8,(some [.nilf]),.other,[],0,0,none⟩) .nil) (some ⟨1,8,(some [.nilp]),.pointer,[],70,0,none⟩) (.node .nil (some ⟨1,8,(some [.nilp]),.other,[],0,0,none⟩) .nil)))) (some ⟨1,1,(some [.int .u8 0]),.int .u8,[],0,0,none⟩) (.node (.node (.node (.node .nil (some ⟨4,56,(some [.str [],.nils,.int .i64 0,.int .i64 0]),.struct,[(0,9),(1,24),(2,3),(3,3)],0,0,(some [.string,.slice,(.int .i64),(.int .i64)])⟩) .nil) (some ⟨1,0,(some [.top]),.other,[],0,0,none⟩) (.node .nil (some ⟨1,8,(some [.nilf]),.other,[],0,0,none⟩) .nil)) (some ⟨1,4,(some [.int .i32 0]),.int .i32,[],0,0,none⟩) (.node (.node .nil (some ⟨1,8,(some [.nilf]),.other,[],0,0,none⟩) .nil) (some ⟨1,0,(some [.top]),.other,[],0,0,none⟩) (.node .nil (some ⟨1,4,(some [.int .i32 0]),.int .i32,[],0,0,none⟩) .nil))) (some ⟨2,24,(some [.str [],.int .u64 0]),.struct,[(0,9),(1,12)],0,0,none⟩) (.node (.node (.node .nil (some ⟨1,8,(some [.nilf]),.other,[],0,0,none⟩) .nil) (some ⟨1,8,(some [.nilf]),.other,[],0,0,none⟩) (.node .nil (some ⟨0,0,(some []),.struct,[(0,108)],0,0,none⟩) .nil)) (some ⟨7,104,(some [.int .i64 0,.str [],.nils,.bool false,.bool false,.nils,.nils]),.struct,[(0,3),(1,9),(2,27),(3,4),(4,4),(5,22),(6,22)],0,0,(some [(.int .i64),.string,.slice,.bool,.bool,.slice,.slice])⟩) (.node (.node .nil (some ⟨1,8,(some [.nilf]),.other,[],0,0,none⟩) .nil) (some ⟨1,24,(some [.nils]),.slice,[],22,0,none⟩) .nil))))) (some ⟨1,0,(some [.top]),.other,[],0,0,none⟩) (.node (.node (.node (.node (.node (.node .nil (some ⟨1,8,(some [.nilf]),.other,[],0,0,none⟩) .nil) (some ⟨1,8,(some [.nilf]),.other,[],0,0,none⟩) (.node .nil (some ⟨1,8,(some [.nilf]),.other,[],0,0,none⟩) .nil)) (some ⟨1,8,(some [.nilp]),.pointer,[],110,0,none⟩) (.node (.node .nil (some ⟨1,0,(some [.top]),.other,[],0,0,none⟩) .nil) (some ⟨1,8,(some [.nilf]),.other,[],0,0,none⟩) (.node .nil (some ⟨1,4,(some [.int .u32 0]),.int .u32,[],0,0,none⟩) .nil))) (some ⟨4,24,(some [.int .i64 0,.int .i64 0,.bool false,.int .u8 0]),.struct,[(0,2),(1,3),(2,4),(3,6)],0,0,(some [(.int .i64),(.int .i64),.bool,(.int .u8)])⟩) (.node (.node (.node .nil (some ⟨0,0,(some []),.struct,[],0,0,(some [])⟩) .nil) (some ⟨1,8,(some [.nilf]),.other,[],0,0,none⟩) (.node .nil (some ⟨1,8,(some [.nilf]),.other,[],0,0,none⟩) .nil)) (some ⟨1,24,(some [.nils]),.slice,[],34,0,none⟩) (.node (.node .nil (some ⟨1,8,(some [.nilf]),.other,[],0,0,none⟩) .nil) (some ⟨1,8,(some [.nilf]),.other,[],0,0,none⟩) (.node .nil (some ⟨11,48,(some [.int .u64 0,.int .u64 0,.int .u32 0,.int .u8 0,.int .u8 0,.int .u8 0,.int .u8 0,.nilf,.nilp,.int .i32 0,.int .i32 0]),.struct,[(0,12),(1,12),(2,112),(3,113),(4,5),(5,5),(6,114),(7,115),(8,116),(9,117),(10,118)],0,0,none⟩) .nil)))) (some ⟨1,1,(some [.bool false]),.bool,[],0,0,none⟩) (.node (.node (.node (.node .nil (some ⟨1,8,(some [.nilf]),.other,[],0,0,none⟩) .nil) (some ⟨1,8,(some [.nilf]),.other,[],0,0,none⟩) (.node .nil (some ⟨1,8,(some [.nilf]),.other,[],0,0,none⟩) .nil)) (some ⟨1,16,(some [.nili]),.iface,[],0,0,none⟩) (.node (.node .nil (some ⟨1,8,(some [.nilf]),.other,[],0,0,none⟩) .nil) (some ⟨1,8,(some [.nilf]),.other,[],0,0,none⟩) (.node .nil (some ⟨1,8,(some [.nilp]),.pointer,[],5,0,none⟩) .nil))) (some ⟨1,8,(some [.int .u64 0]),.int .u64,[],0,0,none⟩) (.node (.node (.node .nil (some ⟨1,8,(some [.nilf]),.other,[],0,0,none⟩) .nil) (some ⟨1,24,(some [.nils]),.slice,[],3,0,none⟩) (.node .nil (some ⟨0,0,(some []),.array,[],16,0,(some (List.replicate 0 .pointer))⟩) .nil)) (some ⟨7,104,(some [.int .i64 0,.str [],.nils,.bool false,.bool false,.nils,.nils]),.struct,[(0,3),(1,9),(2,27),(3,4),(4,4),(5,22),(6,22)],0,0,(some [(.int .i64),.string,.slice,.bool,.bool,.slice,.slice])⟩) (.node (.node .nil (some ⟨1,8,(some [.nilf]),.other,[],0,0,none⟩) .nil) (some ⟨1,8,(some [.nilf]),.other,[],0,0,none⟩) .nil)))) (some ⟨1,8,(some [.int .i64 0]),.int .i64,[],0,0,none⟩) (.node (.node (.node (.node (.node .nil (some ⟨1,8,(some [.nilf]),.other,[],0,0,none⟩) .nil) (some ⟨3,32,(some [.int .i64 0,.str [],.int .i64 0]),.struct,[(0,3),(1,9),(2,3)],0,0,(some [(.int .i64),.string,(.int .i64)])⟩) (.node .nil (some ⟨1,8,(some [.nilf]),.other,[],0,0,none⟩) .nil)) (some ⟨1,8,(some [.nilp]),.struct,[(0,17)],0,0,none⟩) (.node (.node .nil (some ⟨1,8,(some [.nilf]),.other,[],0,0,none⟩) .nil) (some ⟨1,8,(some [.nilf]),.other,[],0,0,none⟩) (.node .nil (some ⟨1,1,(some [.int .u8 0]),.int .u8,[],0,0,none⟩) .nil))) (some ⟨1,16,(some [.str []]),.string,[],0,0,none⟩) (.node (.node (.node .nil (some ⟨1,8,(some [.nilf]),.other,[],0,0,none⟩) .nil) (some ⟨1,8,(some [.nilf]),.other,[],0,0,none⟩) (.node .nil (some ⟨4,40,(some [.nilp,.nilp,.nilp,.str []]),.struct,[(0,17),(1,17),(2,17),(3,9)],0,0,none⟩) .nil)) (some ⟨1,8,(some [.nilf]),.other,[],0,0,none⟩) (.node (.node .nil (some ⟨1,8,(some [.nilf]),.other,[],0,0,none⟩) .nil) (some ⟨1,8,(some [.nilf]),.other,[],0,0,none⟩) .nil))) (some ⟨1,1,(some [.int .u8 0]),.int .u8,[],0,0,none⟩) (.node (.node (.node (.node .nil (some ⟨4,56,(some [.str [],.nils,.int .i64 0,.int .i64 0]),.struct,[(0,9),(1,24),(2,3),(3,3)],0,0,(some [.string,.slice,(.int .i64),(.int .i64)])⟩) .nil) (some ⟨1,8,(some [.nilf]),.other,[],0,0,none⟩) (.node .nil (some ⟨1,8,(some [.nilf]),.other,[],0,0,none⟩) .nil)) (some ⟨1,24,(some [.nils]),.slice,[],9,0,none⟩) (.node (.node .nil (some ⟨1,8,(some [.nilf]),.other,[],0,0,none⟩) .nil) (some ⟨1,8,(some [.nilf]),.other,[],0,0,none⟩) (.node .nil (some ⟨1,4,(some [.int .i32 0]),.int .i32,[],0,0,none⟩) .nil))) (some ⟨2,24,(some [.str [],.int .u64 0]),.struct,[(0,9),(1,12)],0,0,none⟩) (.node (.node (.node .nil (some ⟨1,8,(some [.nilf]),.other,[],0,0,none⟩) .nil) (some ⟨1,24,(some [.nils]),.slice,[],4,0,none⟩) (.node .nil (some ⟨0,0,(some []),.struct,[(0,108)],0,0,none⟩) .nil)) (some ⟨1,0,(some [.top]),.other,[],0,0,none⟩) (.node (.node .nil (some ⟨10,80,(some [.int .i64 0,.int .i64 0,.int .i64 0,.int .i64 0,.int .i64 0,.int .i64 0,.int .i64 0,.int .i64 0,.int .i64 0,.int .i64 0]),.array,[],3,10,(some (List.replicate 10 (.int .i64)))⟩) .nil) (some ⟨1,8,(some [.nilf]),.other,[],0,0,none⟩) .nil))))))
theorem tyOk:tyT.allB (tiOk Try.prog) id = true:=by decide +kernel
def cx:Cx:=⟨tyT.get⟩
theorem cxTi:∀ t i,cx.ti t = some i → mkTi Try.prog t = some i:=fun t i h=>tiOk_eq (PT.allB_get tyT id tyOk t i h)
theorem cxOrd:Try.prog.follows .mixedOrders = true:=by decide +kernel
end
mutual
def renV (ρ : Nat → Nat) : AV → AV
 | .ptr r v off => .ptr (ρ r) v off
 | .slice r v off len sz => .slice (ρ r) v off len sz
 | .own r len sz => .own (ρ r) len sz
 | .agg xs => .agg (renVs ρ xs)
 | .tuple xs => .tuple (renVs ρ xs)
 | .func f a b => .func f (renVs ρ a) (renVs ρ b)
 | .iface t v => .iface t (renV ρ v)
 | .top => .top
 | .int k n => .int k n
 | .resid k q r => .resid k q r
 | .bool b => .bool b
 | .str s => .str s
 | .nilp => .nilp
 | .nils => .nils
 | .nilf => .nilf
 | .nili => .nili
 | .vec n sz c => .vec n sz c
 | .vptr c => .vptr c
def renVs (ρ : Nat → Nat) : List AV → List AV
 | []=>[]
 | x :: xs=>renV ρ x :: renVs ρ xs
end
mutual
theorem qFs {m m0 : Mp} {ρ : Nat → Nat} {n : Nat} (h : ∀ i v p, i < n → m (ρ i) v = some p → m0 i v = some p) (hf : ∀ i p, m.froz i = some p → m0.froz i = some p) : ∀ (x : AV) (c : Value), below n x = true → VR m (renV ρ x) c → VR m0 x c
 | .top,_,_,_=>by simp only [VR]
 | .int ..,_,_,e=>by simpa only [VR,renV] using e
 | .resid ..,_,_,e=>by simpa only [VR,renV] using e
 | .bool _,_,_,e=>by simpa only [VR,renV] using e
 | .str _,_,_,e=>by simpa only [VR,renV] using e
 | .nilp,_,_,e=>by simpa only [VR,renV] using e
 | .nils,_,_,e=>by simpa only [VR,renV] using e
 | .nilf,_,_,e=>by simpa only [VR,renV] using e
 | .nili,_,_,e=>by simpa only [VR,renV] using e
 | .vec ..,_,_,e=>by
  simp only [VR,renV] at e ⊢
  obtain ⟨h0,a,cap,h1,h2,h3,h4⟩:=e
  exact ⟨h0,a,cap,h1,h2,h3,fun hn=>let ⟨i,B,off,all,q,r⟩:=h4 hn; ⟨i,B,off,all,hf _ _ q,r⟩⟩
 | .vptr ..,_,_,e=>by
  simp only [VR,renV] at e ⊢
  obtain ⟨i,B,off,all,q,r⟩:=e
  exact ⟨i,B,off,all,hf _ _ q,r⟩
 | .ptr r v off,_,hb,e=>by
  simp only [VR,renV,below,Nat.blt_eq] at e hb ⊢
  obtain ⟨B,N,h1,h2⟩:=e
  exact ⟨B,N,h _ _ _ hb h1,h2⟩
 | .slice r v off len sz,_,hb,e=>by
  simp only [VR,renV,below,Nat.blt_eq] at e hb ⊢
  obtain ⟨B,N,cap,h1,h2⟩:=e
  exact ⟨B,N,cap,h _ _ _ hb h1,h2⟩
 | .own r len sz,_,hb,e=>by
  simp only [VR,renV,below,Nat.blt_eq] at e hb ⊢
  rcases e with e | ⟨B,N,cap,h1,h2⟩
  ·exact .inl e
  ·exact .inr ⟨B,N,cap,h _ _ _ hb h1,h2⟩
 | .agg xs,c,hb,e=>by
  simp only [VR,renV] at e ⊢
  obtain ⟨ys,h1,h2⟩:=e
  exact ⟨ys,h1,qAx h hf xs _ (by simpa only [below] using hb) h2⟩
 | .tuple xs,c,hb,e=>by
  simp only [VR,renV] at e ⊢
  obtain ⟨ys,h1,h2⟩:=e
  exact ⟨ys,h1,qAx h hf xs _ (by simpa only [below] using hb) h2⟩
 | .func f a b,c,hb,e=>by
  simp only [VR,renV] at e ⊢
  simp only [below,Bool.and_eq_true] at hb
  obtain ⟨ys,zs,h1,h2,h3⟩:=e
  exact ⟨ys,zs,h1,qAx h hf a _ hb.1 h2,qAx h hf b _ hb.2 h3⟩
 | .iface t v,c,hb,e=>by
  simp only [VR,renV] at e ⊢
  obtain ⟨d,h1,h2⟩:=e
  exact ⟨d,h1,qFs h hf v _ (by simpa only [below] using hb) h2⟩
theorem qAx {m m0 : Mp} {ρ : Nat → Nat} {n : Nat} (h : ∀ i v p, i < n → m (ρ i) v = some p → m0 i v = some p) (hf : ∀ i p, m.froz i = some p → m0.froz i = some p) : ∀ (xs : List AV) (cs : List Value), belows n xs = true → VRs m (renVs ρ xs) cs → VRs m0 xs cs
 | [],_,_,e=>by simpa only [VRs,renVs] using e
 | x :: xs,cs,hb,e=>by
  simp only [VRs,renVs] at e ⊢
  simp only [belows,Bool.and_eq_true] at hb
  obtain ⟨y,ys,rfl,h1,h2⟩:=e
  exact ⟨y,ys,rfl,qFs h hf x y hb.1 h1,qAx h hf xs ys hb.2 h2⟩
end
mutual
theorem qHm {m m0 : Mp} {ρ : Nat → Nat} {n : Nat} (h : ∀ i v p, i < n → m0 i v = some p → m (ρ i) v = some p) (hf : ∀ i p, m0.froz i = some p → m.froz i = some p) : ∀ (x : AV) (c : Value), below n x = true → VR m0 x c → VR m (renV ρ x) c
 | .top,_,_,_=>by simp only [VR,renV]
 | .int ..,_,_,e=>by simpa only [VR,renV] using e
 | .resid ..,_,_,e=>by simpa only [VR,renV] using e
 | .bool _,_,_,e=>by simpa only [VR,renV] using e
 | .str _,_,_,e=>by simpa only [VR,renV] using e
 | .nilp,_,_,e=>by simpa only [VR,renV] using e
 | .nils,_,_,e=>by simpa only [VR,renV] using e
 | .nilf,_,_,e=>by simpa only [VR,renV] using e
 | .nili,_,_,e=>by simpa only [VR,renV] using e
 | .vec ..,_,_,e=>by
  simp only [VR,renV] at e ⊢
  obtain ⟨h0,a,cap,h1,h2,h3,h4⟩:=e
  exact ⟨h0,a,cap,h1,h2,h3,fun hn=>let ⟨i,B,off,all,q,r⟩:=h4 hn; ⟨i,B,off,all,hf _ _ q,r⟩⟩
 | .vptr ..,_,_,e=>by
  simp only [VR,renV] at e ⊢
  obtain ⟨i,B,off,all,q,r⟩:=e
  exact ⟨i,B,off,all,hf _ _ q,r⟩
 | .ptr r v off,_,hb,e=>by
  simp only [VR,renV,below,Nat.blt_eq] at e hb ⊢
  obtain ⟨B,N,h1,h2⟩:=e
  exact ⟨B,N,h _ _ _ hb h1,h2⟩
 | .slice r v off len sz,_,hb,e=>by
  simp only [VR,renV,below,Nat.blt_eq] at e hb ⊢
  obtain ⟨B,N,cap,h1,h2⟩:=e
  exact ⟨B,N,cap,h _ _ _ hb h1,h2⟩
 | .own r len sz,_,hb,e=>by
  simp only [VR,renV,below,Nat.blt_eq] at e hb ⊢
  rcases e with e | ⟨B,N,cap,h1,h2⟩
  ·exact .inl e
  ·exact .inr ⟨B,N,cap,h _ _ _ hb h1,h2⟩
 | .agg xs,c,hb,e=>by
  simp only [VR,renV] at e ⊢
  obtain ⟨ys,h1,h2⟩:=e
  exact ⟨ys,h1,qCf h hf xs _ (by simpa only [below] using hb) h2⟩
 | .tuple xs,c,hb,e=>by
  simp only [VR,renV] at e ⊢
  obtain ⟨ys,h1,h2⟩:=e
  exact ⟨ys,h1,qCf h hf xs _ (by simpa only [below] using hb) h2⟩
 | .func f a b,c,hb,e=>by
  simp only [VR,renV] at e ⊢
  simp only [below,Bool.and_eq_true] at hb
  obtain ⟨ys,zs,h1,h2,h3⟩:=e
  exact ⟨ys,zs,h1,qCf h hf a _ hb.1 h2,qCf h hf b _ hb.2 h3⟩
 | .iface t v,c,hb,e=>by
  simp only [VR,renV] at e ⊢
  obtain ⟨d,h1,h2⟩:=e
  exact ⟨d,h1,qHm h hf v _ (by simpa only [below] using hb) h2⟩
theorem qCf {m m0 : Mp} {ρ : Nat → Nat} {n : Nat} (h : ∀ i v p, i < n → m0 i v = some p → m (ρ i) v = some p) (hf : ∀ i p, m0.froz i = some p → m.froz i = some p) : ∀ (xs : List AV) (cs : List Value), belows n xs = true → VRs m0 xs cs → VRs m (renVs ρ xs) cs
 | [],_,_,e=>by simpa only [VRs,renVs] using e
 | x :: xs,cs,hb,e=>by
  simp only [VRs,renVs] at e ⊢
  simp only [belows,Bool.and_eq_true] at hb
  obtain ⟨y,ys,rfl,h1,h2⟩:=e
  exact ⟨y,ys,rfl,qHm h hf x y hb.1 h1,qCf h hf xs ys hb.2 h2⟩
end
mutual
theorem qHn : ∀ x : AV, renV id x = x
 | .top | .int .. | .resid .. | .bool _ | .str _ | .nilp | .nils | .nilf | .nili | .vec .. | .vptr .. | .ptr .. | .slice .. | .own .. => by simp [renV]
 | .agg xs=>by simp only [renV]; rw [qCg xs]
 | .tuple xs=>by simp only [renV]; rw [qCg xs]
 | .func _ a b=>by simp only [renV]; rw [qCg a,qCg b]
 | .iface _ v=>by simp only [renV]; rw [qHn v]
theorem qCg : ∀ xs : List AV, renVs id xs = xs
 | []=>rfl
 | x :: xs=>by simp only [renVs]; rw [qHn x,qCg xs]
end
theorem qB9 (ρ : Nat → Nat) : ∀ xs : List AV, (renVs ρ xs).length = xs.length
 | []=>rfl
 | x :: xs=>by simp only [renVs,List.length_cons,qB9 ρ xs]
theorem qBt (ρ : Nat → Nat) : ∀ (xs : List AV) (k : Nat), (renVs ρ xs).take k = renVs ρ (xs.take k)
 | [],k=>by simp [renVs]
 | x :: xs,0=>by simp [renVs]
 | x :: xs,k + 1=>by simp only [renVs,List.take_succ_cons,qBt ρ xs k]
mutual
theorem qMj (ρ : Nat → Nat) : ∀ x : AV, pur x = true → renV ρ x = x
 | .top,_ | .int ..,_ | .resid ..,_ | .bool _,_ | .str _,_ | .nilp,_ | .nils,_ | .nilf,_ | .nili,_ | .vec ..,_ | .vptr ..,_=>by simp [renV]
 | .ptr ..,h | .slice ..,h | .own ..,h=>by simp [pur] at h
 | .agg xs,h=>by simp only [pur,renV] at h ⊢; rw [qBw ρ xs h]
 | .tuple xs,h=>by simp only [pur,renV] at h ⊢; rw [qBw ρ xs h]
 | .func _ a b,h=>by simp only [pur,renV,Bool.and_eq_true] at h ⊢; rw [qBw ρ a h.1,qBw ρ b h.2]
 | .iface _ v,h=>by simp only [pur,renV] at h ⊢; rw [qMj ρ v h]
theorem qBw (ρ : Nat → Nat) : ∀ xs : List AV, purs xs = true → renVs ρ xs = xs
 | [],_=>rfl
 | x :: xs,h=>by simp only [purs,renVs,Bool.and_eq_true] at h ⊢; rw [qMj ρ x h.1,qBw ρ xs h.2]
end
noncomputable def at0 (rs:List Nat) (i:Nat):Nat:=match nth rs i with | some r=>r | none=>0
def RB (rs:List Nat) (n:Nat) (b c:Blk):Prop:=b.ro = false ∧ ((c = b ∧ purs b.cells = true) ∨ (belows n b.cells = true ∧ c = ⟨renVs (at0 rs) b.cells,b.minv,false⟩))
def RBs (rs : List Nat) (n : Nat) (M : List Blk) : Nat → List Blk → Prop
 | _,[]=>True
 | i,b :: L=>(match nth M (at0 rs i) with | some c=>RB rs n b c | none=>False) ∧ RBs rs n M (i + 1) L
theorem qBe {rs : List Nat} {n : Nat} {M : List Blk} : ∀ {L : List Blk} {i j : Nat} {b : Blk}, RBs rs n M i L → L[j]? = some b → ∃ c, M[at0 rs (i + j)]? = some c ∧ RB rs n b c
 | [],i,j,b,_,h=>by simp at h
 | b0 :: L,i,j,b,hr,h=>by
  cases j with
  | zero =>
   simp at h
   subst h
   have h1:=hr.1
   split at h1
   ·rename_i c hc; exact ⟨c,by rw [← qC8]; exact hc,h1⟩
   ·exact h1.elim
  | succ j =>
   obtain ⟨c,h1,h2⟩:=qBe hr.2 (by simpa using h)
   exact ⟨c,by rw [show i + (j + 1) = i + 1 + j by omega]; exact h1,h2⟩
theorem RB.cells {rs:List Nat} {n:Nat} {b c:Blk} (h:RB rs n b c):b.ro = false ∧ c.ro = false ∧ c.minv = b.minv ∧ belows n b.cells = true ∧ c.cells = renVs (at0 rs) b.cells:=by
 obtain ⟨h0,⟨rfl,h1⟩ | ⟨h1,rfl⟩⟩:=h
 ·exact ⟨h0,h0,rfl,qA3 _ h1,(qBw _ _ h1).symm⟩
 ·exact ⟨h0,rfl,rfl,h1,rfl⟩
def SameB (rs : List Nat) : Nat → List Blk → List Blk → Prop
 | _,[],_=>True
 | _,_ :: _,[]=>False
 | i,b :: M,c :: M'=>(c = b ∨ (rs.any fun r=>Nat.beq r i) = true) ∧ SameB rs (i + 1) M M'
theorem qHi {rs : List Nat} : ∀ {M M' : List Blk} {i j : Nat}, SameB rs i M M' → j < M.length → (∀ r ∈ rs, r ≠ i + j) → M'[j]? = M[j]?
 | [],_,i,j,_,h,_=>by simp at h
 | b :: M,[],i,j,h,_,_=>h.elim
 | b :: M,c :: M',i,j,h,hj,hn=>by
  cases j with
  | zero =>
   rcases h.1 with h1 | h1
   ·rw [h1]; rfl
   ·obtain ⟨r,hr,he⟩:=List.any_eq_true.1 h1
    exact absurd (Nat.eq_of_beq_eq_true he) (hn r hr)
  | succ j =>
   simp only [List.getElem?_cons_succ]
   exact qHi h.2 (by simpa using hj) fun r hr=>by rw [show i + 1 + j = i + (j + 1) by omega]; exact hn r hr
def frB (n k k' : Nat) : Nat → List Nat → Bool
 | _,[]=>true
 | i,r :: l=>(bif Nat.blt i n then Nat.blt r k else Nat.ble k r && Nat.blt r k') && (l.all fun s => !Nat.beq s r) && frB n k k' (i + 1) l
def frOk (n n' k k':Nat) (rs:List Nat):Bool:=Nat.beq rs.length n' && Nat.ble n n' && Nat.ble k k' && Nat.ble k' roots && Nat.ble n' roots && frB n k k' 0 rs
theorem qGc {n k k' : Nat} : ∀ {l : List Nat} {i : Nat}, frB n k k' i l = true → (∀ (j r : Nat), l[j]? = some r → (i + j < n → r < k) ∧ (n ≤ i + j → k ≤ r ∧ r < k')) ∧ (∀ (j j' r : Nat), l[j]? = some r → l[j']? = some r → j = j')
 | [],i,_=>⟨fun j r h=>by simp at h,fun j j' r h=>by simp at h⟩
 | r0 :: l,i,h=>by
  simp only [frB,Bool.and_eq_true] at h
  obtain ⟨⟨h1,h2⟩,h3⟩:=h
  obtain ⟨g1,g2⟩:=qGc h3
  have hne:∀ j:Nat,l[j]? ≠ some r0:=by
   intro j hj
   have:=List.all_eq_true.1 h2 r0 (List.mem_of_getElem? hj)
   simp at this
  refine ⟨?_,?_⟩
  ·intro j r hj
   cases j with
   | zero =>
    simp at hj; subst hj
    refine ⟨fun hlt=>?_,fun hge=>?_⟩
    ·have:Nat.blt i n = true:=by simpa using hlt
     rw [this] at h1; simpa using h1
    ·have:Nat.blt i n = false:=by
      cases hq:Nat.blt i n with
      | false=>rfl
      | true=>rw [Nat.blt_eq] at hq; omega
     rw [this] at h1; simpa using h1
   | succ j =>
    have:=g1 j r (by simpa using hj)
    rw [show i + (j + 1) = i + 1 + j by omega]
    exact this
  ·intro j j' r hj hj'
   cases j with
   | zero =>
    cases j' with
    | zero=>rfl
    | succ j'=>simp at hj hj'; subst hj; exact absurd hj' (hne j')
   | succ j =>
    cases j' with
    | zero=>simp at hj hj'; subst hj'; exact absurd hj (hne j)
    | succ j'=>rw [g2 j j' r (by simpa using hj) (by simpa using hj')]
theorem qAr {L:List Blk} (hl:L.length ≤ roots) (r:Nat):(mkH L).t.get r = L[r]? := by
 show (mkT 0 L).get r = _
 rw [qB4 _ _ _ (by omega)]; simp
theorem frame {P : Program} {g : Nat} {ys : List AV} {L L' : List Blk} {v : AV} (h : CallT P g ys (mkH L) none v (mkH L')) (rs : List Nat) (M M' : List Blk)
 (hc:frOk L.length L'.length M.length M'.length rs = true) (hys:belows L.length ys = true) (hL:RBs rs L.length M 0 L) (hL':RBs rs L'.length M' 0 L') (hv:below L'.length v = true) (hS:SameB rs 0 M M') :
 CallT P g (renVs (at0 rs) ys) (mkH M) none (renV (at0 rs) v) (mkH M'):=by
 refine ⟨?_,h.2⟩
 intro m w base args hargs rw
 simp only [frOk,Bool.and_eq_true,Nat.beq_eq,Nat.ble_eq] at hc
 obtain ⟨⟨⟨⟨⟨c1,c2⟩,c3⟩,c4⟩,c6⟩,c5⟩:=hc
 obtain ⟨hbd,hinj⟩:=qGc c5
 have hat:∀ i,i < L'.length → ∃ r,rs[i]? = some r ∧ at0 rs i = r:=by
  intro i hi
  have hi':i < rs.length:=by omega
  refine ⟨rs[i],List.getElem?_eq_getElem hi',?_⟩
  unfold at0
  rw [qC8,List.getElem?_eq_getElem hi']
 have hlow:∀ i,i < L.length → at0 rs i < M.length:=by
  intro i hi
  obtain ⟨r,h1,h2⟩:=hat i (by omega)
  rw [h2]
  exact (hbd i r h1).1 (by omega)
 have hhigh:∀ i,L.length ≤ i → i < L'.length → M.length ≤ at0 rs i:=by
  intro i hi hi'
  obtain ⟨r,h1,h2⟩:=hat i hi'
  rw [h2]
  exact ((hbd i r h1).2 (by omega)).1
 have hinj':∀ i j,i < L'.length → j < L'.length → at0 rs i = at0 rs j → i = j:=by
  intro i j hi hj e
  obtain ⟨r,h1,h2⟩:=hat i hi
  obtain ⟨s,h3,h4⟩:=hat j hj
  rw [h2,h4] at e
  subst e
  exact hinj i j r h1 h3
 have hMget:=qAr (L:=M) (by omega)
 have hM'get:=qAr (L:=M') c4
 have hroomL:L.length ≤ roots ∧ L'.length ≤ roots:=by omega
 have hLget:=qAr (L:=L) hroomL.1
 have hL'get:=qAr (L:=L') hroomL.2
 have hnoM:∀ r v,M.length ≤ r → m r v = none:=by
  intro r v hr
  cases e:m r v with
  | none=>rfl
  | some p =>
   obtain ⟨b,hb,_⟩:=rw.dom r v p.1 p.2 e
   rw [hMget,List.getElem?_eq_none hr] at hb; cases hb
 let m0:Mp:=⟨fun i v=>if i < L.length then m (at0 rs i) v else none,m.froz⟩
 have hm0:∀ {i v p},m0 i v = some p → i < L.length ∧ m (at0 rs i) v = some p:=by
  intro i v p e
  have e:(if i < L.length then m (at0 rs i) v else none) = some p:=e
  by_cases hi:i < L.length
  ·rw [if_pos hi] at e; exact ⟨hi,e⟩
  ·rw [if_neg hi] at e; cases e
 have hm0':∀ i v p,i < L.length → m (at0 rs i) v = some p → m0 i v = some p:=by
  intro i v p hi e
  show (if i < L.length then m (at0 rs i) v else none) = some p
  rw [if_pos hi]; exact e
 have rw0:RW m0 (mkH L) w base:=by
  refine ⟨?_,?_,?_,?_,?_,rw.frz,?_,rw.ffin,rw.base_le,hroomL.1⟩
  ·intro i b v B N hb hm h1 h2
   rw [hLget] at hb
   obtain ⟨hi,hm⟩:=hm0 hm
   obtain ⟨c,q1,q2⟩:=qBe hL hb
   rw [Nat.zero_add] at q1
   obtain ⟨e1,e2,e3,e4,e5⟩:=q2.cells
   obtain ⟨cs,ty,fr,p1,p2,p3,p4,p5⟩:=rw.blk (at0 rs i) c v B N (by rw [hMget]; exact q1) hm (by rw [e3]; exact h1) (by rw [e5,qB9]; exact h2)
   refine ⟨cs,ty,fr,p1,p2,p3,fun _=>p4 e2,?_⟩
   rw [e5,qBt] at p5
   exact qAx hm0' (fun _ _ h=>h) _ _ (qB0 v e4) p5
  ·intro i v B N hm
   obtain ⟨hi,hm⟩:=hm0 hm
   obtain ⟨c0,g1,g2,g3,g4⟩:=rw.dom _ _ _ _ hm
   have hb:L[i]? = some L[i]:=List.getElem?_eq_getElem hi
   obtain ⟨c,q1,q2⟩:=qBe hL hb
   rw [Nat.zero_add] at q1
   rw [hMget,q1] at g1
   cases g1
   obtain ⟨e1,e2,e3,e4,e5⟩:=q2.cells
   exact ⟨_,by rw [hLget]; exact hb,by rw [e5,qB9] at g2; exact g2,g3,fun _=>g4 e2⟩
  ·intro i v B N i' v' N' hm hm' hB
   obtain ⟨hi,hm⟩:=hm0 hm
   obtain ⟨hi',hm'⟩:=hm0 hm'
   exact hinj' i i' (by omega) (by omega) (rw.sep _ _ _ _ _ _ _ hm hm' hB)
  ·intro r hr
   have hr:L.length ≤ r:=hr
   rw [hLget,List.getElem?_eq_none hr]
  ·intro i v B N hm
   exact rw.vle _ _ _ _ (hm0 hm).2
  ·intro i B cells r v N b hi hm hb
   obtain ⟨hr,hm⟩:=hm0 hm
   rw [hLget] at hb
   obtain ⟨c,q1,q2⟩:=qBe hL hb
   rw [Nat.zero_add] at q1
   obtain ⟨e1,e2,_⟩:=q2.cells
   have:=rw.fsep i B cells _ v N c hi hm (by rw [hMget]; exact q1)
   rw [e2] at this; cases this
 have hargs0:VRs m0 ys args.toList:=qAx hm0' (fun _ _ h=>h) _ _ hys hargs
 refine Calls.mono (h.1 m0 w base args hargs0 rw0) ?_
 intro x w' hend
 have hsep:∀ {r v B N},m r v = some (B,N) → (∀ i,i < L.length → at0 rs i ≠ r) → ∀ i v' N',m0 i v' = some (B,N') → B < base:=by
  intro r v B N hm hr i v' N' hi
  obtain ⟨hi,hm'⟩:=hm0 hi
  rcases Nat.lt_or_ge B base with hlt | hge
  ·exact hlt
  ·exact absurd (rw.sep _ _ _ _ _ _ _ hm' hm hge) (hr i hi)
 obtain ⟨m1,c,rfl,rw1,st,hvc⟩:=hend
 have hm1:∀ {i v p},m1 i v = some p → i < L'.length:=by
  intro i v p e
  obtain ⟨b,hb,_⟩:=rw1.dom i v p.1 p.2 e
  rw [hL'get] at hb
  exact (List.getElem?_eq_some_iff.1 hb).1
 have hσ:∀ r,(∃ i,i < L'.length ∧ at0 rs i = r) ∨ (∀ i,i < L'.length → at0 rs i ≠ r):=by
  intro r
  rcases Classical.em (∃ i,i < L'.length ∧ at0 rs i = r) with h | h
  ·exact .inl h
  ·exact .inr fun i hi e=>h ⟨i,hi,e⟩
 let m2:Mp:=⟨fun r v=>if h:∃ i,i < L'.length ∧ at0 rs i = r then m1 (Classical.choose h) v else m r v,m1.froz⟩
 have hin:∀ {i v},i < L'.length → m2 (at0 rs i) v = m1 i v:=by
  intro i v hi
  have hex:∃ j,j < L'.length ∧ at0 rs j = at0 rs i:=⟨i,hi,rfl⟩
  show (if h:∃ j,j < L'.length ∧ at0 rs j = at0 rs i then m1 (Classical.choose h) v else m (at0 rs i) v) = _
  rw [dif_pos hex]
  have hs:=Classical.choose_spec hex
  rw [hinj' _ _ hs.1 hi hs.2]
 have hout:∀ {r v},(∀ i,i < L'.length → at0 rs i ≠ r) → m2 r v = m r v:=by
  intro r v hr
  show (if h:∃ j,j < L'.length ∧ at0 rs j = r then m1 (Classical.choose h) v else m r v) = _
  rw [dif_neg]
  rintro ⟨j,h1,h2⟩
  exact hr j h1 h2
 have hfwd:∀ i v p,i < L'.length → m1 i v = some p → m2 (at0 rs i) v = some p:=fun i v p hi e=>by rw [hin hi]; exact e
 have hsub:Sub m m2:=by
  refine ⟨?_,fun i p hp=>st.sub.2 i p hp⟩
  intro r v p hp
  rcases hσ r with ⟨i,hi,rfl⟩ | hr
  ·rw [hin hi]
   rcases Nat.lt_or_ge i L.length with h1 | h1
   ·exact st.sub.1 i v p (hm0' i v p h1 hp)
   ·have:=hnoM _ v (hhigh i h1 hi)
    rw [this] at hp; cases hp
  ·rw [hout hr]; exact hp
 have hother:∀ {r v B N},(∀ i,i < L'.length → at0 rs i ≠ r) → m r v = some (B,N) → w'.heap[B]? = w.heap[B]? := by
  intro r v B N hr hm
  obtain ⟨b,q1,q2,q3,q4⟩:=rw.dom r v B N hm
  exact st.same B q3 fun i v' N' e=>hsep hm (fun i hi=>hr i (by omega)) i v' N' e
 have hsameM:∀ {r b},(∀ i,i < L'.length → at0 rs i ≠ r) → r < M.length → M'[r]? = some b → M[r]? = some b:=by
  intro r b hr hlt hb
  rw [← qHi hS hlt]
  ·exact hb
  ·intro s hs
   obtain ⟨j,hj⟩:=List.mem_iff_getElem?.1 hs
   have hjl:j < L'.length:=by
    have:=(List.getElem?_eq_some_iff.1 hj).1
    omega
   obtain ⟨s',h1,h2⟩:=hat j hjl
   rw [hj] at h1
   cases h1
   rw [Nat.zero_add,← h2]
   exact hr j hjl
 have hltM:∀ {r v p},m r v = some p → r < M.length:=by
  intro r v p hm
  rcases Nat.lt_or_ge r M.length with h1 | h1
  ·exact h1
  ·rw [hnoM r v h1] at hm; cases hm
 have hsep2:∀ {i r v v' B N N'},i < L'.length → (∀ i,i < L'.length → at0 rs i ≠ r) → m1 i v = some (B,N) → m r v' = some (B,N') → base ≤ B → False:=by
  intro i r v v' B N N' hi hr h1 h2 hB
  rcases st.ext i v B N h1 with ⟨v0,N0,e0⟩ | hnew
  ·exact absurd (hsep h2 (fun i hi=>hr i (by omega)) i v0 N0 e0) (by omega)
  ·obtain ⟨_,_,_,q3,_⟩:=rw.dom r v' B N' h2
   omega
 refine ⟨m2,c,rfl,⟨?_,?_,?_,?_,?_,rw1.frz,?_,rw1.ffin,rw1.base_le,c4⟩,⟨hsub,?_,?_,st.size,st.os,st.tape,st.output,fun B hB hm=>st.same B hB fun i v N e=>hm _ v N (hm0 e).2⟩,qHm hfwd (fun _ _ h=>h) v c hv hvc⟩
 ·intro r b v B N hb hm h1 h2
  rw [hM'get] at hb
  rcases hσ r with ⟨i,hi,rfl⟩ | hr
  ·rw [hin hi] at hm
   have hbl:L'[i]? = some L'[i]:=List.getElem?_eq_getElem hi
   obtain ⟨c',q1,q2⟩:=qBe hL' hbl
   rw [Nat.zero_add,hb] at q1
   cases q1
   obtain ⟨e1,e2,e3,e4,e5⟩:=q2.cells
   rw [e3] at h1
   rw [e5,qB9] at h2
   obtain ⟨cs,ty,fr,p1,p2,p3,p4,p5⟩:=rw1.blk i _ v B N (by rw [hL'get]; exact hbl) hm h1 h2
   refine ⟨cs,ty,fr,p1,p2,p3,fun _=>p4 e1,?_⟩
   rw [e5,qBt]
   exact qCf hfwd (fun _ _ h=>h) _ _ (qB0 v e4) p5
  ·rw [hout hr] at hm
   have hbM:=hsameM hr (hltM hm) hb
   obtain ⟨cs,ty,fr,p1,p2,p3,p4,p5⟩:=rw.blk r b v B N (by rw [hMget]; exact hbM) hm h1 h2
   exact ⟨cs,ty,fr,by rw [hother hr hm]; exact p1,p2,p3,p4,VRs.mono hsub _ _ p5⟩
 ·intro r v B N hm
  rcases hσ r with ⟨i,hi,rfl⟩ | hr
  ·rw [hin hi] at hm
   obtain ⟨b,q1,q2,q3,q4⟩:=rw1.dom i v B N hm
   rw [hL'get] at q1
   obtain ⟨c',g1,g2⟩:=qBe hL' q1
   rw [Nat.zero_add] at g1
   obtain ⟨e1,e2,e3,e4,e5⟩:=g2.cells
   exact ⟨c',by rw [hM'get]; exact g1,by rw [e5,qB9]; exact q2,q3,fun _=>q4 e1⟩
  ·rw [hout hr] at hm
   obtain ⟨b,q1,q2,q3,q4⟩:=rw.dom r v B N hm
   rw [hMget] at q1
   have hlt:=(List.getElem?_eq_some_iff.1 q1).1
   have hM'r:M'[r]? = some b:=by
    have hlt':r < M'.length:=by omega
    have:=hsameM (b:=M'[r]) hr hlt (List.getElem?_eq_getElem hlt')
    rw [q1] at this
    rw [List.getElem?_eq_getElem hlt',← this]
   exact ⟨b,by rw [hM'get]; exact hM'r,q2,Nat.lt_of_lt_of_le q3 st.size,q4⟩
 ·intro r v B N r' v' N' hm hm' hB
  rcases hσ r with ⟨i,hi,rfl⟩ | hr
  ·rw [hin hi] at hm
   rcases hσ r' with ⟨j,hj,rfl⟩ | hr'
   ·rw [hin hj] at hm'
    rw [rw1.sep _ _ _ _ _ _ _ hm hm' hB]
   ·rw [hout hr'] at hm'
    exact (hsep2 hi hr' hm hm' hB).elim
  ·rw [hout hr] at hm
   rcases hσ r' with ⟨j,hj,rfl⟩ | hr'
   ·rw [hin hj] at hm'
    exact (hsep2 hj hr hm' hm hB).elim
   ·rw [hout hr'] at hm'
    exact rw.sep _ _ _ _ _ _ _ hm hm' hB
 ·intro r hr
  have hr:M'.length ≤ r:=hr
  rw [hM'get,List.getElem?_eq_none hr]
 ·intro r v B N hm
  rcases hσ r with ⟨i,hi,rfl⟩ | hr
  ·rw [hin hi] at hm; exact rw1.vle _ _ _ _ hm
  ·rw [hout hr] at hm; exact rw.vle _ _ _ _ hm
 ·intro i B cells r v N b hi hm hb
  rw [hM'get] at hb
  rcases hσ r with ⟨j,hj,rfl⟩ | hr
  ·rw [hin hj] at hm
   have hbl:L'[j]? = some L'[j]:=List.getElem?_eq_getElem hj
   have:=rw1.fsep i B cells j v N _ hi hm (by rw [hL'get]; exact hbl)
   obtain ⟨c',q1,q2⟩:=qBe hL' hbl
   rw [q2.1] at this; cases this
  ·rw [hout hr] at hm
   have hbM:=hsameM hr (hltM hm) hb
   rcases st.fext i B cells hi with hold | ⟨hB,⟨j,v0,N0,hj⟩ | hnew⟩
   ·exact rw.fsep i B cells r v N b hold hm (by rw [hMget]; exact hbM)
   ·exact absurd (hsep hm (fun i hi=>hr i (by omega)) j v0 N0 hj) (by omega)
   ·obtain ⟨_,_,_,q3,_⟩:=rw.dom r v B N hm
    omega
 ·intro r v B N hm
  rcases hσ r with ⟨i,hi,rfl⟩ | hr
  ·rw [hin hi] at hm
   rcases st.ext i v B N hm with ⟨v0,N0,e0⟩ | hnew
   ·exact .inl ⟨v0,N0,(hm0 e0).2⟩
   ·exact .inr hnew
  ·rw [hout hr] at hm
   exact .inl ⟨v,N,hm⟩
 ·intro i B cells hi
  rcases st.fext i B cells hi with hold | ⟨hB,⟨j,v0,N0,hj⟩ | hnew⟩
  ·exact .inl hold
  ·exact .inr ⟨hB,.inl ⟨_,v0,N0,(hm0 hj).2⟩⟩
  ·exact .inr ⟨hB,.inr hnew⟩
mutual
theorem qE0 (ρ : Nat → Nat) : ∀ x : AV, pur (renV ρ x) = true → pur x = true
 | .top,_ | .int ..,_ | .resid ..,_ | .bool _,_ | .str _,_ | .nilp,_ | .nils,_ | .nilf,_ | .nili,_ | .vec ..,_ | .vptr ..,_=>by simp [pur]
 | .ptr ..,h | .slice ..,h | .own ..,h=>by simp [pur,renV] at h
 | .agg xs,h=>by simp only [pur,renV] at h ⊢; exact qBj ρ xs h
 | .tuple xs,h=>by simp only [pur,renV] at h ⊢; exact qBj ρ xs h
 | .func _ a b,h=>by simp only [pur,renV,Bool.and_eq_true] at h ⊢; exact ⟨qBj ρ a h.1,qBj ρ b h.2⟩
 | .iface _ v,h=>by simp only [pur,renV] at h ⊢; exact qE0 ρ v h
theorem qBj (ρ : Nat → Nat) : ∀ xs : List AV, purs (renVs ρ xs) = true → purs xs = true
 | [],_=>rfl
 | x :: xs,h=>by simp only [purs,renVs,Bool.and_eq_true] at h ⊢; exact ⟨qE0 ρ x h.1,qBj ρ xs h.2⟩
end
def dOk (rs D0 D : List Nat) : Nat → List Blk → Prop
 | _,[]=>True
 | r,b :: M=>((D.any fun s=>Nat.beq s r) = true ∨ (purs b.cells = true ∧ (D0.all fun i => !Nat.beq (at0 rs i) r) = true)) ∧ dOk rs D0 D (r + 1) M
theorem qJ {rs D0 D : List Nat} : ∀ {M : List Blk} {r j : Nat} {b : Blk}, dOk rs D0 D r M → M[j]? = some b → r + j ∉ D → purs b.cells = true ∧ ∀ i ∈ D0, at0 rs i ≠ r + j
 | [],r,j,b,_,h,_=>by simp at h
 | b0 :: M,r,j,b,h,hj,hn=>by
  cases j with
  | zero =>
   simp at hj
   subst hj
   rcases h.1 with h1 | ⟨h1,h2⟩
   ·obtain ⟨s,hs,he⟩:=List.any_eq_true.1 h1
    have:=Nat.eq_of_beq_eq_true he
    subst this
    exact absurd hs hn
   ·refine ⟨h1,fun i hi e=>?_⟩
    have:=List.all_eq_true.1 h2 i hi
    rw [e] at this
    simp at this
  | succ j =>
   have:=qJ h.2 (j:=j) (b:=b) (by simpa using hj) (by rw [show r + 1 + j = r + (j + 1) by omega]; exact hn)
   rw [show r + (j + 1) = r + 1 + j by omega]
   exact this
theorem frameTh {P : Program} {g : Nat} {ys : List AV} {L : List Blk} {t : Value} {D0 : List Nat} {v : AV} (h : CallT P g ys (mkH L) (some (t, D0)) v (mkH L)) (rs : List Nat) (M : List Blk) (D : List Nat)
 (hc:frOk L.length L.length M.length M.length rs = true) (hys:belows L.length ys = true) (hL:RBs rs L.length M 0 L) (hD:dOk rs D0 D 0 M) (v':AV) :
 CallT P g (renVs (at0 rs) ys) (mkH M) (some (t,D)) v' (mkH M):=by
 refine ⟨?_,h.2⟩
 intro m w base args hargs rw
 simp only [frOk,Bool.and_eq_true,Nat.beq_eq,Nat.ble_eq] at hc
 obtain ⟨⟨⟨⟨⟨c1,c2⟩,c3⟩,c4⟩,c6⟩,c5⟩:=hc
 obtain ⟨hbd,hinj⟩:=qGc c5
 have hat:∀ i,i < L.length → ∃ r,rs[i]? = some r ∧ at0 rs i = r:=by
  intro i hi
  have hi':i < rs.length:=by omega
  refine ⟨rs[i],List.getElem?_eq_getElem hi',?_⟩
  unfold at0
  rw [qC8,List.getElem?_eq_getElem hi']
 have hlow:∀ i,i < L.length → at0 rs i < M.length:=by
  intro i hi
  obtain ⟨r,h1,h2⟩:=hat i (by omega)
  rw [h2]
  exact (hbd i r h1).1 (by omega)
 have hhigh:∀ i,L.length ≤ i → i < L.length → M.length ≤ at0 rs i:=by
  intro i hi hi'
  obtain ⟨r,h1,h2⟩:=hat i hi'
  rw [h2]
  exact ((hbd i r h1).2 (by omega)).1
 have hinj':∀ i j,i < L.length → j < L.length → at0 rs i = at0 rs j → i = j:=by
  intro i j hi hj e
  obtain ⟨r,h1,h2⟩:=hat i hi
  obtain ⟨s,h3,h4⟩:=hat j hj
  rw [h2,h4] at e
  subst e
  exact hinj i j r h1 h3
 have hMget:=qAr (L:=M) (by omega)
 have hMget:=qAr (L:=M) c4
 have hroomL:L.length ≤ roots ∧ L.length ≤ roots:=by omega
 have hLget:=qAr (L:=L) hroomL.1
 have hLget:=qAr (L:=L) hroomL.2
 have hnoM:∀ r v,M.length ≤ r → m r v = none:=by
  intro r v hr
  cases e:m r v with
  | none=>rfl
  | some p =>
   obtain ⟨b,hb,_⟩:=rw.dom r v p.1 p.2 e
   rw [hMget,List.getElem?_eq_none hr] at hb; cases hb
 let m0:Mp:=⟨fun i v=>if i < L.length then m (at0 rs i) v else none,m.froz⟩
 have hm0:∀ {i v p},m0 i v = some p → i < L.length ∧ m (at0 rs i) v = some p:=by
  intro i v p e
  have e:(if i < L.length then m (at0 rs i) v else none) = some p:=e
  by_cases hi:i < L.length
  ·rw [if_pos hi] at e; exact ⟨hi,e⟩
  ·rw [if_neg hi] at e; cases e
 have hm0':∀ i v p,i < L.length → m (at0 rs i) v = some p → m0 i v = some p:=by
  intro i v p hi e
  show (if i < L.length then m (at0 rs i) v else none) = some p
  rw [if_pos hi]; exact e
 have rw0:RW m0 (mkH L) w base:=by
  refine ⟨?_,?_,?_,?_,?_,rw.frz,?_,rw.ffin,rw.base_le,hroomL.1⟩
  ·intro i b v B N hb hm h1 h2
   rw [hLget] at hb
   obtain ⟨hi,hm⟩:=hm0 hm
   obtain ⟨c,q1,q2⟩:=qBe hL hb
   rw [Nat.zero_add] at q1
   obtain ⟨e1,e2,e3,e4,e5⟩:=q2.cells
   obtain ⟨cs,ty,fr,p1,p2,p3,p4,p5⟩:=rw.blk (at0 rs i) c v B N (by rw [hMget]; exact q1) hm (by rw [e3]; exact h1) (by rw [e5,qB9]; exact h2)
   refine ⟨cs,ty,fr,p1,p2,p3,fun _=>p4 e2,?_⟩
   rw [e5,qBt] at p5
   exact qAx hm0' (fun _ _ h=>h) _ _ (qB0 v e4) p5
  ·intro i v B N hm
   obtain ⟨hi,hm⟩:=hm0 hm
   obtain ⟨c0,g1,g2,g3,g4⟩:=rw.dom _ _ _ _ hm
   have hb:L[i]? = some L[i]:=List.getElem?_eq_getElem hi
   obtain ⟨c,q1,q2⟩:=qBe hL hb
   rw [Nat.zero_add] at q1
   rw [hMget,q1] at g1
   cases g1
   obtain ⟨e1,e2,e3,e4,e5⟩:=q2.cells
   exact ⟨_,by rw [hLget]; exact hb,by rw [e5,qB9] at g2; exact g2,g3,fun _=>g4 e2⟩
  ·intro i v B N i' v' N' hm hm' hB
   obtain ⟨hi,hm⟩:=hm0 hm
   obtain ⟨hi',hm'⟩:=hm0 hm'
   exact hinj' i i' (by omega) (by omega) (rw.sep _ _ _ _ _ _ _ hm hm' hB)
  ·intro r hr
   have hr:L.length ≤ r:=hr
   rw [hLget,List.getElem?_eq_none hr]
  ·intro i v B N hm
   exact rw.vle _ _ _ _ (hm0 hm).2
  ·intro i B cells r v N b hi hm hb
   obtain ⟨hr,hm⟩:=hm0 hm
   rw [hLget] at hb
   obtain ⟨c,q1,q2⟩:=qBe hL hb
   rw [Nat.zero_add] at q1
   obtain ⟨e1,e2,_⟩:=q2.cells
   have:=rw.fsep i B cells _ v N c hi hm (by rw [hMget]; exact q1)
   rw [e2] at this; cases this
 have hargs0:VRs m0 ys args.toList:=qAx hm0' (fun _ _ h=>h) _ _ hys hargs
 refine Calls.mono (h.1 m0 w base args hargs0 rw0) ?_
 intro x w' hend
 have hsep:∀ {r v B N},m r v = some (B,N) → (∀ i,i < L.length → at0 rs i ≠ r) → ∀ i v' N',m0 i v' = some (B,N') → B < base:=by
  intro r v B N hm hr i v' N' hi
  obtain ⟨hi,hm'⟩:=hm0 hi
  rcases Nat.lt_or_ge B base with hlt | hge
  ·exact hlt
  ·exact absurd (rw.sep _ _ _ _ _ _ _ hm' hm hge) (hr i hi)
 obtain ⟨rfl,q,m1,d1,d2,d3,rw1⟩:=hend
 have hin:∀ {r v p},(if r ∈ D then none else m r v) = some p → r ∉ D ∧ m r v = some p ∧ ∀ i,i < L.length → at0 rs i = r → m1 i v = some p:=by
  intro r v p e
  by_cases hr:r ∈ D
  ·rw [if_pos hr] at e; cases e
  ·rw [if_neg hr] at e
   refine ⟨hr,e,fun i hi hir=>?_⟩
   subst hir
   have hlt:=hlow i hi
   obtain ⟨_,hne⟩:=qJ (b:=M[at0 rs i]) hD (List.getElem?_eq_getElem hlt) (by rw [Nat.zero_add]; exact hr)
   rw [d1,if_neg (fun hi2=>hne i hi2 (by rw [Nat.zero_add]))]
   exact hm0' i v p hi e
 have hltM:∀ {r v p},m r v = some p → r < M.length:=by
  intro r v p hm
  rcases Nat.lt_or_ge r M.length with h1 | h1
  ·exact h1
  ·rw [hnoM r v h1] at hm; cases hm
 refine ⟨rfl,⟨q.size,q.os,q.tape,q.output,fun B hB hm=>q.same B hB fun i v N e=>hm _ v N (hm0 e).2⟩,⟨fun r v=>if r ∈ D then none else m r v,m1.froz⟩,fun _ _=>rfl,d2,?_,?_⟩
 ·intro i B cells hi
  rcases d3 i B cells hi with h | ⟨hB,⟨r,v,N,hm⟩ | hn⟩
  ·exact .inl h
  ·exact .inr ⟨hB,.inl ⟨_,v,N,(hm0 hm).2⟩⟩
  ·exact .inr ⟨hB,.inr hn⟩
 ·refine ⟨?_,?_,?_,?_,?_,rw1.frz,?_,rw1.ffin,rw1.base_le,by show M.length ≤ roots; omega⟩
  ·intro r b v B N hb hm h1 h2
   rw [hMget] at hb
   obtain ⟨hr,hm,hcal⟩:=hin hm
   have hpur:=(qJ hD hb (by rw [Nat.zero_add]; exact hr)).1
   rcases Classical.em (∃ i,i < L.length ∧ at0 rs i = r) with ⟨i,hi,rfl⟩ | hno
   ·have hm1:=hcal i hi rfl
    have hbl:L[i]? = some L[i]:=List.getElem?_eq_getElem hi
    obtain ⟨c',q1,q2⟩:=qBe hL hbl
    rw [Nat.zero_add,hb] at q1
    cases q1
    obtain ⟨e1,e2,e3,e4,e5⟩:=q2.cells
    rw [e3] at h1
    rw [e5,qB9] at h2
    obtain ⟨cs,ty,fr,p1,p2,p3,p4,p5⟩:=rw1.blk i _ v B N (by rw [hLget]; exact hbl) hm1 h1 h2
    refine ⟨cs,ty,fr,p1,p2,p3,fun _=>p4 e1,?_⟩
    have hp0:purs (L[i].cells.take v) = true:=by
     rcases q2.2 with ⟨hb1,hb2⟩ | ⟨hb1,hb2⟩
     ·exact qC4 _ v hb2
     ·rw [e5] at hpur
      exact qC4 _ v (qBj _ _ hpur)
    rw [e5,qBt,qBw _ _ hp0]
    exact VRs.mono (m:=m1.still) (m':=⟨fun r v=>if r ∈ D then none else m r v,m1.froz⟩) ⟨fun _ _ _ h=>(by cases h),fun _ _ h=>h⟩ _ _ (qB7 _ _ hp0 p5)
   ·have hout:∀ i,i < L.length → at0 rs i ≠ r:=fun i hi e=>hno ⟨i,hi,e⟩
    obtain ⟨cs,ty,fr,p1,p2,p3,p4,p5⟩:=rw.blk r b v B N (by rw [hMget]; exact hb) hm h1 h2
    obtain ⟨_,_,_,g3,_⟩:=rw.dom r v B N hm
    refine ⟨cs,ty,fr,by rw [q.same B g3 fun i v' N' e=>hsep hm hout i v' N' e]; exact p1,p2,p3,p4,?_⟩
    exact VRs.mono (m:=m.still) (m':=⟨fun r v=>if r ∈ D then none else m r v,m1.froz⟩) ⟨fun _ _ _ h=>(by cases h),fun i p h=>d2 i p h⟩ _ _ (qB7 _ _ (qC4 _ v hpur) p5)
  ·intro r v B N hm
   obtain ⟨hr,hm,_⟩:=hin hm
   obtain ⟨b,q1,q2,q3,q4⟩:=rw.dom r v B N hm
   exact ⟨b,q1,q2,Nat.lt_of_lt_of_le q3 q.size,q4⟩
  ·intro r v B N r' v' N' hm hm' hB
   exact rw.sep _ _ _ _ _ _ _ (hin hm).2.1 (hin hm').2.1 hB
  ·intro r hr
   have hr:M.length ≤ r:=hr
   rw [hMget,List.getElem?_eq_none hr]
  ·intro r v B N hm
   exact rw.vle _ _ _ _ (hin hm).2.1
  ·intro i B cells r v N b hi hm hb
   obtain ⟨hr,hm,hcal⟩:=hin hm
   rw [hMget] at hb
   rcases Classical.em (∃ i,i < L.length ∧ at0 rs i = r) with ⟨j,hj,rfl⟩ | hno
   ·have hm1:=hcal j hj rfl
    have hbl:L[j]? = some L[j]:=List.getElem?_eq_getElem hj
    have:=rw1.fsep i B cells j v N _ hi hm1 (by rw [hLget]; exact hbl)
    obtain ⟨c',q1,q2⟩:=qBe hL hbl
    rw [q2.1] at this; cases this
   ·have hout:∀ i,i < L.length → at0 rs i ≠ r:=fun i hi e=>hno ⟨i,hi,e⟩
    rcases d3 i B cells hi with hold | ⟨hB,⟨j,v0,N0,hj⟩ | hnew⟩
    ·exact rw.fsep i B cells r v N b hold hm (by rw [hMget]; exact hb)
    ·exact absurd (hsep hm hout j v0 N0 hj) (by omega)
    ·obtain ⟨_,_,_,q3,_⟩:=rw.dom r v B N hm
     omega
theorem qBk {P : Program} {Q : Exit → Act → World → Prop} {a : Act} {w : World} {ch : List PanicEntry} (h : Q (.panic ch) a w) : ∀ (K : List Fr), FinK P Q K (.panic ch) a w
 | []=>h
 | .seq b :: K=>qBk h K
 | .loop b :: K=>qBk h K
 | .block b :: K=>qBk h K
 | .scope b :: K=>qBk h K
noncomputable def advT (D:DP) (all l:List Oper) (env:Env) (H:Hp):Option (List Oper × Env × List Hp):=match headO all l env with | some o=>some (l.tail,putV env o.dst .top,bif Nat.beq (clsS D.S o) 2 then [H] else []) | none=>none
noncomputable def advN (D:DP) (l:List Oper) (env:Env) (H:Hp):Option (List Oper × Env × List Hp):=match l with | o :: l=>some (l,putV env o.dst .top,bif Nat.beq (clsS D.S o) 2 then [H] else []) | []=>none
abbrev bT {α R:Type} (m:Option (Option α)) (f:α → Option (Option R)):Option (Option R) :=
 m.bind fun x=>match x with | none=>some none | some y=>f y
section
variable {R:Type} {X:Fx (Option R)} {p p':Pt} {env eE:Env} {H H':Hp}
def keepOk (DX D : List Nat) : Nat → List Blk → List Blk → Prop
 | _,[],_=>True
 | _,_ :: _,[]=>False
 | r,b :: LX,c :: L=>((DX.any fun s=>Nat.beq s r) = true ∨ ((D.all fun s => !Nat.beq s r) = true ∧ c = b ∧ purs b.cells = true)) ∧ keepOk DX D (r + 1) LX L
theorem qF1 {DX D : List Nat} : ∀ {LX L : List Blk} {r j : Nat}, keepOk DX D r LX L → j < LX.length → r + j ∈ DX ∨ (r + j ∉ D ∧ ∃ b, L[j]? = some b ∧ LX[j]? = some b ∧ purs b.cells = true)
 | [],_,r,j,_,h=>by simp at h
 | b :: LX,[],r,j,h,_=>h.elim
 | b :: LX,c :: L,r,j,h,hj=>by
  cases j with
  | zero =>
   rcases h.1 with h1 | ⟨h1,rfl,h3⟩
   ·obtain ⟨s,hs,he⟩:=List.any_eq_true.1 h1
    have:=Nat.eq_of_beq_eq_true he
    subst this
    exact .inl hs
   ·refine .inr ⟨fun hD=>?_,_,rfl,rfl,h3⟩
    have:=List.all_eq_true.1 h1 _ hD
    simp at this
  | succ j =>
   rw [show r + (j + 1) = r + 1 + j by omega]
   simpa using qF1 h.2 (by simpa using hj)
theorem qM4 {tv : Value} {D DX : List Nat} {LX L : List Blk} {m0 m : Mp} {w0 w w' : World} {b0 : Nat} (hX : X.thr none = some (tv, DX)) (hF : X.fin none = mkH LX) (hn0 : X.n0 = LX.length) (hl : (Nat.ble LX.length roots && Nat.ble L.length roots) = true) (hk : keepOk DX D 0 LX L) (h0 : (∀ r v p, m0 r v = some p → r < X.n0) ∧ b0 ≤ w0.heap.size) (st : St m0 w0 b0 m w) (q : Thr D (mkH L) m w b0 w') :
 EndT (X.thr none) (X.enc none) (X.fin none) m0 w0 b0 (.panicked [{ v:=tv,recovered:=false }]) w':=by
 rw [hX,hF]
 simp only [Bool.and_eq_true,Nat.ble_eq] at hl
 have g1:=qAr (L:=LX) hl.1
 have g2:=qAr (L:=L) hl.2
 refine ⟨rfl,thr_up h0.2 st h0.1 q (fun r hr=>?_) (fun r hr=>?_) hl.1⟩
 ·rw [hn0] at hr
  have:=qF1 (j:=r) hk hr
  rw [Nat.zero_add] at this
  rw [g1,g2]
  exact this
 ·have hr:LX.length ≤ r:=hr
  rw [g1,List.getElem?_eq_none hr]
theorem qGy {tv:Value} {o:Oper} {D DX:List Nat} {LX L:List Blk} (hX:X.thr none = some (tv,DX)) (hF:X.fin none = mkH LX) (hn0:X.n0 = LX.length) (hl:(Nat.ble LX.length roots && Nat.ble L.length roots) = true) (hk:keepOk DX D 0 LX L) (ho:operAt X.fn.ntmps p env = some o) (h:ThrStp X.P env H o tv D (mkH L)):Ok X p env H (some none):=by
 obtain ⟨ops,n,K,rfl,h1,h2,h3⟩:=qAs ho
 intro r hr m0 w0 b0 m w a h0 fr hn hdf rw st
 cases hr
 show wpOps X.P ops _ (List.range' n (ops.size - n)) a w
 have hlt:n < ops.size:=(Array.getElem?_eq_some_iff.1 h1).1
 rw [show ops.size - n = (ops.size - (n + 1)) + 1 by omega,List.range'_succ]
 simp only [wpOps,h1]
 rw [qB2 h3 fr]
 simp only [if_true]
 refine .inl ?_
 refine qDw h fr rw _ _ fun w' q=>qBk ?_ K
 exact qMg hdf (qM4 hX hF hn0 hl hk h0 st q)
theorem ok_panic {tv:Value} {DX:List Nat} {LX L:List Blk} (hX:X.thr none = some (tv,DX)) (hF:X.fin none = mkH LX) (hn0:X.n0 = LX.length) (hl:(Nat.ble LX.length roots && Nat.ble L.length roots) = true) (hH:H = mkH L) (hk:keepOk DX [] 0 LX L) (h:(match operAt X.fn.ntmps p env with | some o=>thrV env o | none=>none) = some tv):Ok X p env H (some none):=by
 subst hH
 cases ho:operAt X.fn.ntmps p env with
 | none=>rw [ho] at h; cases h
 | some o=>rw [ho] at h; exact qGy hX hF hn0 hl hk ho (.inl ⟨h,rfl,rfl⟩)
theorem qC0 {n:Nat} {fi:Nat} {args:List AV} (h:callAt n p env = some (fi,args)):∃ o c g first caps,operAt n p env = some o ∧ o.op = .call c ∧ c.callee = .value g ∧ opnd env g = .func fi first caps ∧ args = first ++ opnds env c.args.toList ++ caps:=by
 unfold callAt at h
 cases ho:operAt n p env with
 | none=>rw [ho] at h; cases h
 | some o =>
  rw [ho] at h
  simp only at h
  split at h
  ·rename_i c hoc
   split at h
   ·rename_i q hq
    split at h
    ·rename_i fi' first caps hfv
     cases h
     exact ⟨o,c,q,first,caps,rfl,hoc,hq,hfv,rfl⟩
    ·cases h
   ·cases h
  ·cases h
theorem qJo {α : Type} {m : Option (Option α)} {f : α → Option (Option R)} {fi : Nat} {args : List AV} {tv : Value} {D DX : List Nat} {LX L : List Blk} (g : α → AV) (G : α → Hp) (p' : Pt) (E : α → Env) (hX : X.thr none = some (tv, DX)) (hF : X.fin none = mkH LX) (hn0 : X.n0 = LX.length) (hl : (Nat.ble LX.length roots && Nat.ble L.length roots) = true) (hk : keepOk DX D 0 LX L) (hc : callAt X.fn.ntmps p env = some (fi, args))
 (hf0:m = some none → ∃ v,CallT X.P fi args H (some (tv,D)) v (mkH L)) (hf:∀ x,m = some (some x) → CallT X.P fi args H none (g x) (G x)) (ha:∀ x,advE X.fn.ntmps p env (g x) = some (p',E x)) (k:∀ x,m = some (some x) → Ok X p' (E x) (G x) (f x)):Ok X p env H (bT m f):=by
 refine qA7 fun x hx=>?_
 cases x with
 | none =>
  obtain ⟨o,c,q,first,caps,ho,hoc,hq,hfv,hargs⟩:=qC0 hc
  obtain ⟨v,hcall⟩:=hf0 hx
  exact qGy hX hF hn0 hl hk ho (.inr ⟨c,q,fi,first,caps,v,hoc,hq,hfv,hargs ▸ hcall⟩)
 | some y =>
  obtain ⟨o,c,q,first,caps,ho,hoc,hq,hfv,hargs⟩:=qC0 hc
  have hay:=ha y
  unfold advE at hay
  rw [ho] at hay
  simp only [Option.some.injEq,Prod.mk.injEq] at hay
  obtain ⟨e1,e2⟩:=hay
  obtain ⟨ops,n,K,rfl,h1,h2,h3⟩:=qAs ho
  have ky:=k y hx
  rw [← e1,← e2] at ky
  exact qGz h1 h2 h3 (.inr ⟨c,q,fi,first,caps,hoc,hq,hfv,hargs ▸ (hf y hx).v⟩) ky
theorem qAj (D:DP) {hs:List Hp} {DX:List Nat} {LX L:List Blk} (hX:X.thr none = some (D.tv,DX)) (hF:X.fin none = mkH LX) (hn0:X.n0 = LX.length) (hl:(Nat.ble LX.length roots && Nat.ble L.length roots) = true) (hH:D.tH = mkH L) (hk:keepOk DX D.tD 0 LX L) (h:(drawAt p).isSome = true) (hti:Nat.blt D.tI (opsAt p).size = true) (hp:planOk D.S (opsAt p) D.pl = true) (hds:(opsAt p).toList.all (dstOk X.fn.ntmps) = true) (hD:OpsD X.P X.C D (opsAt p).toList (opsAt p).toList env H eE hs) (hsome:(rdL X.C D (opsAt p).toList eE (H :: hs) 0 (opsAt p).toList D.pl).all (fun q=>q.1.isSome) = true) (hq:(rdL X.C D (opsAt p).toList eE (H :: hs) 0 (opsAt p).toList D.pl).map (·.1) = (rdL X.C D (opsAt p).toList eE (H :: hs) 0 (opsAt p).toList D.pl).map (·.2)):Ok X p env H (some none):=by
 obtain ⟨id,ops,K,rfl⟩:∃ id ops K,p = .code (.region id ops true) K:=by
  unfold drawAt at h
  split at h
  ·exact ⟨_,_,_,rfl⟩
  ·cases h
 intro r hr m0 w0 b0 m w a h0 fr hn hd rw st
 cases hr
 have hlt:D.tI < ops.size:=by simpa [opsAt] using hti
 show (Code.region id ops true).wp X.P _ a w
 refine qL3 (id:=id) X.hti X.ord hds hp hD (qL6 hsome hq) fr hn hd rw (fun a w' h=>absurd hlt h) fun a' m' w1 w' _ hdf st1 q=>qBk ?_ K
 rw [hH] at q
 exact qMg hdf (qM4 hX hF hn0 hl hk h0 (st.trans h0.2 st1) q)
theorem qAi {P:Program} {C:Cx} {D:DP} {all l l':List Oper} {env eE e:Env} {H:Hp} {hs hs2:List Hp} {fi:Nat} {args:List AV} (hc:callD all l env = some (fi,args)) (hi:Nat.beq (all.length - l.length) D.tI = true) (hpo:∃ v,CallT P fi args H (some (D.tv,D.tD)) v D.tH) (ha:advT D all l env H = some (l',eE,hs)) (k:OpsD P C D all l' eE H e hs2):OpsD P C D all l env H e (hs ++ hs2):=by
 obtain ⟨v,hpo⟩:=hpo
 unfold callD at hc
 unfold advT at ha
 cases ho:headO all l env with
 | none=>rw [ho] at hc; cases hc
 | some o =>
  rw [ho] at hc ha
  simp only at hc
  cases ha
  obtain ⟨r,rfl,hw⟩:=qF6 ho
  split at hc
  ·rename_i c hoc
   split at hc
   ·rename_i q hq
    split at hc
    ·rename_i fi' first caps hfv
     cases hc
     have:=OpsD.thr (C:=C) (D:=D) hi hw (.inr ⟨c,q,fi,first,caps,v,hoc,hq,hfv,hpo⟩) k
     cases hc:Nat.beq (clsS D.S o) 2 <;> rw [hc] at this <;> exact this
    ·cases hc
   ·cases hc
  ·cases hc
theorem qA1 {P:Program} {C:Cx} {D:DP} {all l l':List Oper} {env eE e:Env} {H:Hp} {hs hs2:List Hp} (hi:(maskAt D.pl (all.length - l.length)).testBit D.tI = true) (ha:advN D l env H = some (l',eE,hs)) (k:OpsD P C D all l' eE H e hs2):OpsD P C D all l env H e (hs ++ hs2):=by
 unfold advN at ha
 split at ha
 ·rename_i o r
  cases ha
  have:=OpsD.dead (o:=o) hi k
  cases hc:Nat.beq (clsS D.S o) 2 <;> rw [hc] at this <;> exact this
 ·cases ha
theorem qG1 {R:Type} {X:Fx R} {p:Pt} {env:Env} {H:Hp} {α:Type} {m:Option α} {f:α → Option R} {fi:Nat} {args:List AV} (g:α → AV) (G:α → Hp) (p':Pt) (E:α → Env) (hc:callAt X.fn.ntmps p env = some (fi,args)) (hf:∀ x,m = some x → CallT X.P fi args H none (g x) (G x)) (ha:∀ x,advE X.fn.ntmps p env (g x) = some (p',E x)) (k:∀ x,m = some x → Ok X p' (E x) (G x) (f x)):Ok X p env H (m.bind f) :=
 ok_callM g G p' E hc (fun x h=>(hf x h).v) ha k
end
inductive Wk:List AV → List AV → Prop where
 | refl {xs}:Wk xs xs
 | cons {x xs ys}:Wk xs ys → Wk (x :: xs) (x :: ys)
 | slice {r v len sz xs ys}:v = len * sz → Wk xs ys → Wk (.slice r v 0 len sz :: xs) (.own r len sz :: ys)
 | none {r sz xs ys}:Wk xs ys → Wk (.nils :: xs) (.own r 0 sz :: ys)
 | nil {sz xs ys}:Wk xs ys → Wk (.nils :: xs) (.vec 0 sz [] :: ys)
 | agg {xs ys zs us}:Wk xs ys → Wk zs us → Wk (.agg xs :: zs) (.agg ys :: us)
 | func {f a b a' b' zs us}:Wk a a' → Wk b b' → Wk zs us → Wk (.func f a b :: zs) (.func f a' b' :: us)
theorem wk_ok {m:Mp} {xs ys:List AV} (h:Wk xs ys):∀ {cs:List Value},VRs m xs cs → VRs m ys cs:=by
 induction h with
 | refl=>exact fun h=>h
 | cons _ ih =>
  intro cs h
  simp only [VRs] at h ⊢
  obtain ⟨y,ys,rfl,h1,h2⟩:=h
  exact ⟨y,ys,rfl,h1,ih h2⟩
 | slice hv _ ih =>
  intro cs h
  simp only [VRs] at h ⊢
  obtain ⟨y,ys,rfl,h1,h2⟩:=h
  refine ⟨y,ys,rfl,?_,ih h2⟩
  simp only [VR] at h1 ⊢
  obtain ⟨B,N,cap,q1,q2,q3,q4,q5⟩:=h1
  subst hv
  exact .inr ⟨B,N,cap,q1,q3,by omega,q5⟩
 | none _ ih =>
  intro cs h
  simp only [VRs] at h ⊢
  obtain ⟨y,ys,rfl,h1,h2⟩:=h
  refine ⟨y,ys,rfl,?_,ih h2⟩
  simp only [VR] at h1 ⊢
  exact .inl ⟨trivial,h1⟩
 | nil _ ih =>
  intro cs h
  simp only [VRs] at h ⊢
  obtain ⟨y,ys,rfl,h1,h2⟩:=h
  refine ⟨y,ys,rfl,?_,ih h2⟩
  simp only [VR] at h1
  subst h1
  exact qD4 _ _
 | agg _ _ ih1 ih2 =>
  intro cs h
  simp only [VRs,VR] at h ⊢
  obtain ⟨y,ys,rfl,⟨zs,rfl,h1⟩,h2⟩:=h
  exact ⟨_,ys,rfl,⟨zs,rfl,ih1 h1⟩,ih2 h2⟩
 | func _ _ _ ih1 ih2 ih3 =>
  intro cs h
  simp only [VRs,VR] at h ⊢
  obtain ⟨y,ys,rfl,⟨zs,us,rfl,h1,h1'⟩,h2⟩:=h
  exact ⟨_,ys,rfl,⟨zs,us,rfl,ih1 h1,ih2 h1'⟩,ih3 h2⟩
theorem CallT.wk {P:Program} {g:Nat} {xs ys:List AV} {H H':Hp} {tv:Option (Value × List Nat)} {v:AV} (h:CallT P g ys H tv v H') (k:Wk xs ys):CallT P g xs H tv v H' :=
 ⟨fun m w base args ha rw=>h.1 m w base args (wk_ok k ha) rw,h.2⟩
theorem CallT.args {P:Program} {g:Nat} {xs ys:List AV} {H H':Hp} {tv:Option (Value × List Nat)} {v:AV} (h:CallT P g ys H tv v H') (k:xs = ys):CallT P g xs H tv v H':=k ▸ h
theorem CallT.heap {P:Program} {g:Nat} {xs:List AV} {H H' H'':Hp} {tv:Option (Value × List Nat)} {v v':AV} (h:CallT P g xs H tv v H') (k:H' = H'') (kv:v = v'):CallT P g xs H tv v' H'':=k ▸ kv ▸ h
theorem CallT.ghost {P:Program} {g:Nat} {xs:List AV} {L:List Blk} {H':Hp} {tv:Option (Value × List Nat)} {v:AV} (hn:Nat.blt L.length roots = true) (h:CallT P g xs (mkH (L ++ [⟨[],0,false⟩])) tv v H'):CallT P g xs (mkH L) tv v H':=by
 refine ⟨fun m w base args ha rw=>?_,h.2⟩
 have:=RW.ghost rw (by show L.length < roots; simpa using hn)
 rw [qJu] at this
 exact h.1 m w base args ha this
section
variable {R:Type} {X:Fx R} {p p':Pt} {env eE:Env} {H H':Hp}
theorem qJi {r : R} {xs : List AV} {v : AV} {m0 m : Mp} {w0 w : World} {b0 : Nat} {a : Act} (h0 : (∀ r v p, m0 r v = some p → r < X.n0) ∧ b0 ≤ w0.heap.size) (L L2 : List Blk) (ht : X.thr r = none) (hr : resV X.C env (mkH (L ++ L2)) X.fn.results.toList = some xs) (hn : Nat.ble (L.length + L2.length) roots = true) (hn0 : Nat.ble X.n0 L.length = true)
 (hz:FzG L.length (mkH (L ++ L2)) [oneRes xs] [v]) (hb:BB L.length L) (hv:X.enc r = v) (hf:X.fin r = mkH L) (fr:FR m env a.tmps) (rw:RW m (mkH (L ++ L2)) w b0) (st:St m0 w0 b0 m w) :
 ∃ c,(results X.fn a.tmps).run X.P w = .ok c w ∧ EndT (X.thr r) (X.enc r) (X.fin r) m0 w0 b0 (.returned c) w:=by
 obtain ⟨c,h1,h2⟩:=qCe (P:=X.P) X.hti fr rw hr
 have hF:FOk L.length m m.froz w b0:=⟨fun i B cells hi=>rw.frz i B cells hi,rw.ffin,fun i B cells h => .inl h,fun _ _ h=>h⟩
 obtain ⟨F',g1,g2,g3⟩:=fz_ok rw hz hF (cs:=[c]) (by simp only [VRs]; exact ⟨c,[],rfl,h2,rfl⟩)
 simp only [VRs] at g3
 obtain ⟨c',cs',e,g3,_⟩:=g3
 cases e
 have hn:L.length + L2.length ≤ roots:=Nat.le_of_ble_eq_true hn
 have hget:∀ i,i < L.length → (mkH (L ++ L2)).t.get i = (mkH L).t.get i:=by
  intro i hi
  rw [qAr (by simp; omega),qAr (by omega)]
  simp [List.getElem?_append_left hi]
 let m1:Mp:=⟨fun r v=>if r < L.length then m r v else none,F'⟩
 have hcut:∀ {r v q},m1 r v = some q → r < L.length ∧ m r v = some q:=by
  intro r v q h
  have h:(if r < L.length then m r v else none) = some q:=h
  by_cases e:r < L.length
  ·rw [if_pos e] at h; exact ⟨e,h⟩
  ·rw [if_neg e] at h; cases h
 have hmono:Sub (m.cut L.length) m1:=⟨fun r v p h=>h,g1.sub⟩
 have hrw:RW m1 (mkH L) w b0:=by
  refine ⟨?_,?_,?_,?_,?_,g1.ok,?_,g1.fin,rw.base_le,by show L.length ≤ roots; omega⟩
  ·intro r b v B N hb' hm q1 q2
   obtain ⟨hlt,hm⟩:=hcut hm
   obtain ⟨cs,ty,fr',p1,p2,p3,p4,p5⟩:=rw.blk r b v B N (by rw [hget r hlt]; exact hb') hm q1 q2
   have hbl:L[r]? = some b:=by
    rw [qAr (by omega)] at hb'
    exact hb'
   exact ⟨cs,ty,fr',p1,p2,p3,p4,VRs.mono hmono _ _ (qBc _ _ (qB0 v (qL9 hb hbl)) p5)⟩
  ·intro r v B N hm
   obtain ⟨hlt,hm⟩:=hcut hm
   rw [← hget r hlt]
   exact rw.dom r v B N hm
  ·intro r v B N r' v' N' hm hm' hB
   exact rw.sep _ _ _ _ _ _ _ (hcut hm).2 (hcut hm').2 hB
  ·intro r hr
   have hr:L.length ≤ r:=hr
   rw [qAr (by omega),List.getElem?_eq_none hr]
  ·intro r v B N hm
   exact rw.vle _ _ _ _ (hcut hm).2
  ·intro i B cells r v N b hi hm hb'
   obtain ⟨hlt,hm⟩:=hcut hm
   rw [← hget r hlt] at hb'
   rcases g1.new i B cells hi with h | ⟨hB,r2,v2,N2,hr2,hm2⟩
   ·exact rw.fsep i B cells r v N b h hm hb'
   ·have:=rw.sep _ _ _ _ _ _ _ hm hm2 hB
    omega
 have hst:St m0 w0 b0 m1 w:=by
  refine ⟨⟨fun r v q hq=>?_,fun i q hq=>g2 i q (st.sub.2 i q hq)⟩,?_,?_,st.size,st.os,st.tape,st.output,st.same⟩
  ·have h1:=h0.1 r v q hq
   have h2:=Nat.le_of_ble_eq_true hn0
   show (if r < L.length then m r v else none) = some q
   rw [if_pos (by omega)]
   exact st.sub.1 r v q hq
  ·intro r v B N hm
   exact st.ext r v B N (hcut hm).2
  ·intro i B cells hi
   rcases g1.new i B cells hi with h | ⟨hB,r2,v2,N2,_,hm2⟩
   ·exact st.fext i B cells h
   ·rcases st.ext r2 v2 B N2 hm2 with ⟨v0,N0,e0⟩ | h2
    ·exact .inr ⟨hB,.inl ⟨r2,v0,N0,e0⟩⟩
    ·exact .inr ⟨hB,.inr h2⟩
 have hvc:VR m1 v c:=VR.mono (m:=⟨fun _ _=>none,F'⟩) (m':=m1) ⟨fun _ _ _ h=>(by cases h),fun _ _ h=>h⟩ _ _ g3
 have e:EndT (X.thr r) (X.enc r) (X.fin r) m0 w0 b0 (.returned c) w:=by rw [ht]; exact ⟨m1,c,rfl,by rw [hf]; exact hrw,hst,by rw [hv]; exact hvc⟩
 exact ⟨c,h1,e⟩
theorem ok_retF {r : R} {xs : List AV} {v : AV} (L L2 : List Blk) (ht : X.thr r = none) (hr : resV X.C env (mkH (L ++ L2)) X.fn.results.toList = some xs) (hn : Nat.ble (L.length + L2.length) roots = true) (hn0 : Nat.ble X.n0 L.length = true)
 (hz:FzG L.length (mkH (L ++ L2)) [oneRes xs] [v]) (hb:BB L.length L) (hv:X.enc r = v) (hf:X.fin r = mkH L):Ok X .fin env (mkH (L ++ L2)) (some r):=by
 intro r' e m0 w0 b0 m w a h0 fr hnt hd rw st
 cases e
 obtain ⟨c,h1,e⟩:=qJi h0 L L2 ht hr hn hn0 hz hb hv hf fr rw st
 exact qFr hd h1 e
end
def MinvLe : List Blk → List Blk → Prop
 | [],[]=>True
 | b :: M,c :: M'=>(c.cells = b.cells ∧ c.ro = b.ro ∧ b.minv ≤ c.minv) ∧ MinvLe M M'
 | _,_=>False
theorem MinvLe.get : ∀ {M M' : List Blk}, MinvLe M M' → M'.length = M.length ∧ ∀ (i : Nat) (c : Blk), M'[i]? = some c → ∃ b, M[i]? = some b ∧ c.cells = b.cells ∧ c.ro = b.ro ∧ b.minv ≤ c.minv
 | [],[],_=>⟨rfl,fun i c h=>by simp at h⟩
 | [],_ :: _,h=>h.elim
 | _ :: _,[],h=>h.elim
 | b :: M,c :: M',h=>by
  obtain ⟨h1,h2⟩:=MinvLe.get h.2
  refine ⟨by simp [h1],fun i d hd=>?_⟩
  cases i with
  | zero=>simp at hd; subst hd; exact ⟨b,rfl,h.1⟩
  | succ i=>simpa using h2 i d (by simpa using hd)
theorem rw_minv {m:Mp} {w:World} {base:Nat} {M M':List Blk} (h:MinvLe M M') (hr:M.length ≤ roots) (rw:RW m (mkH M) w base):RW m (mkH M') w base:=by
 obtain ⟨hl,hg⟩:=h.get
 have g1:=qAr (L:=M) hr
 have g2:=qAr (L:=M') (by omega)
 refine ⟨?_,?_,rw.sep,?_,rw.vle,rw.frz,?_,rw.ffin,rw.base_le,by show M'.length ≤ roots; omega⟩
 ·intro r c v B N hb hm h1 h2
  rw [g2] at hb
  obtain ⟨b,q1,q2,q3,q4⟩:=hg r c hb
  rw [q2] at h2 ⊢
  rw [q3]
  exact rw.blk r b v B N (by rw [g1]; exact q1) hm (by omega) h2
 ·intro r v B N hm
  obtain ⟨b,q1,q2,q3,q4⟩:=rw.dom r v B N hm
  rw [g1] at q1
  have hlt:r < M'.length:=by rw [hl]; exact (List.getElem?_eq_some_iff.1 q1).1
  obtain ⟨b',e1,e2,e3,e4⟩:=hg r _ (List.getElem?_eq_getElem hlt)
  rw [q1] at e1
  cases e1
  exact ⟨_,by rw [g2]; exact List.getElem?_eq_getElem hlt,by rw [e2]; exact q2,q3,by rw [e3]; exact q4⟩
 ·intro r hr'
  have hr':M'.length ≤ r:=hr'
  rw [g2,List.getElem?_eq_none hr']
 ·intro i B cells r v N c hi hm hb
  rw [g2] at hb
  obtain ⟨b,q1,q2,q3,q4⟩:=hg r c hb
  rw [q3]
  exact rw.fsep i B cells r v N b hi hm (by rw [g1]; exact q1)
theorem CallT.minv {P:Program} {g:Nat} {xs:List AV} {M M':List Blk} {H':Hp} {tv:Option (Value × List Nat)} {v:AV} (hr:M.length ≤ roots) (hm:MinvLe M M') (h:CallT P g xs (mkH M') tv v H'):CallT P g xs (mkH M) tv v H' :=
 ⟨fun m w base args ha rw=>h.1 m w base args ha (rw_minv hm hr rw),h.2⟩
theorem CallT.ghosts {P : Program} {g : Nat} {xs : List AV} {H' : Hp} {tv : Option (Value × List Nat)} {v : AV} : ∀ (gh : Nat) (M0 M : List Blk), M0 ++ List.replicate gh ⟨[], 0, false⟩ = M → M.length ≤ roots → CallT P g xs (mkH M) tv v H' → CallT P g xs (mkH M0) tv v H'
 | 0,M0,M,hg,hr,h=>by
  have e:M0 = M:=by simpa using hg
  rw [e]; exact h
 | n + 1,M0,M,hg,hr,h=>by
  have hl:M0.length < M.length:=by rw [← hg]; simp
  refine CallT.ghost (by simpa using (by omega:M0.length < roots)) (CallT.ghosts n (M0 ++ [⟨[],0,false⟩]) M ?_ hr h)
  rw [← hg,List.replicate_succ,List.append_assoc]; rfl
theorem frameC {P : Program} {g : Nat} {ys : List AV} {L L' : List Blk} {v : AV} (h : CallT P g ys (mkH L) none v (mkH L')) (rs : List Nat) (gh : Nat) (M0 M1 M M' : List Blk) (xs xs' : List AV) {v' : AV} {H H' : Hp} (hH : mkH M0 = H) (hg : M0 ++ List.replicate gh ⟨[], 0, false⟩ = M1) (hm : MinvLe M1 M) (hw : Wk xs xs') (hx : renVs (at0 rs) ys = xs') (hv' : renV (at0 rs) v = v') (hH' : mkH M' = H')
 (hc:frOk L.length L'.length M.length M'.length rs = true) (hys:belows L.length ys = true) (hL:RBs rs L.length M 0 L) (hL':RBs rs L'.length M' 0 L') (hv:below L'.length v = true) (hS:SameB rs 0 M M'):CallT P g xs H none v' H':=by
 subst hH; subst hx; subst hv'; subst hH'
 have h1:=(frame h rs M M' hc hys hL hL' hv hS).wk hw
 simp only [frOk,Bool.and_eq_true,Nat.ble_eq] at hc
 have hr:M.length ≤ roots:=by omega
 have hl:=hm.get.1
 exact CallT.ghosts gh M0 M1 hg (by omega) (CallT.minv (by omega) hm h1)
theorem frameT {P : Program} {g : Nat} {ys : List AV} {L : List Blk} {t : Value} {D0 : List Nat} (h : ∃ v, CallT P g ys (mkH L) (some (t, D0)) v (mkH L)) (rs : List Nat) (D : List Nat) (gh : Nat) (M0 M1 M : List Blk) (xs xs' : List AV) {H : Hp} (hH : mkH M0 = H) (hg : M0 ++ List.replicate gh ⟨[], 0, false⟩ = M1) (hm : MinvLe M1 M) (hw : Wk xs xs') (hx : renVs (at0 rs) ys = xs')
 (hc:frOk L.length L.length M.length M.length rs = true) (hys:belows L.length ys = true) (hL:RBs rs L.length M 0 L) (hD:dOk rs D0 D 0 M):∃ v,CallT P g xs H (some (t,D)) v (mkH M):=by
 obtain ⟨v,h⟩:=h
 subst hH; subst hx
 have h1:=(frameTh h rs M D hc hys hL hD .top).wk hw
 simp only [frOk,Bool.and_eq_true,Nat.ble_eq] at hc
 have hr:M.length ≤ roots:=by omega
 have hl:=hm.get.1
 exact ⟨_,CallT.ghosts gh M0 M1 hg (by omega) (CallT.minv (by omega) hm h1)⟩
theorem qC6 {R:Type} {X:Fx (Option R)} {p:Pt} {env:Env} {H:Hp} {α:Type} {m:Option (Option α)} {f:α → Option (Option R)} (h0:m = some none → Ok X p env H (some none)) (h1:∀ y,m = some (some y) → Ok X p env H (f y)):Ok X p env H (bT m f):=by
 refine qA7 fun x hx=>?_
 cases x with
 | none=>exact h0 hx
 | some y=>exact h1 y hx
section
variable {R:Type} {X:Fx R} {p p':Pt} {env eE:Env} {H H':Hp}
theorem qG0 {t:Option R} (L:List Blk) (hn:Nat.blt L.length roots = true) (k:Ok X p env (mkH (L ++ [⟨[],0,false⟩])) t):Ok X p env (mkH L) t:=by
 intro r hr m0 w0 b0 m w a h0 fr hnt hd rw st
 have:=RW.ghost rw (by show L.length < roots; simpa using hn)
 rw [qJu] at this
 exact k r hr m0 w0 b0 m w a h0 fr hnt hd this st
theorem Wk.length {xs ys:List AV} (h:Wk xs ys):ys.length = xs.length:=by
 induction h <;> simp_all
theorem wk_take {m:Mp} {xs ys:List AV} (h:Wk xs ys):∀ (v:Nat) {cs:List Value},VRs m (xs.take v) cs → VRs m (ys.take v) cs:=by
 have one:∀ {x y:AV} {xs ys:List AV} (v:Nat) {cs:List Value},Wk [x] [y] → (∀ (v:Nat) {cs:List Value},VRs m (xs.take v) cs → VRs m (ys.take v) cs) → VRs m ((x :: xs).take v) cs → VRs m ((y :: ys).take v) cs:=by
  intro x y xs ys v cs h1 ih h
  cases v with
  | zero=>simpa using h
  | succ v =>
   simp only [List.take_succ_cons,VRs] at h ⊢
   obtain ⟨c,cs',rfl,q1,q2⟩:=h
   have:=wk_ok h1 (cs:=[c]) (by simp only [VRs]; exact ⟨c,[],rfl,q1,rfl⟩)
   simp only [VRs] at this
   obtain ⟨c',cs'',e1,h3,_⟩:=this
   cases e1
   exact ⟨c,cs',rfl,h3,ih v q2⟩
 induction h with
 | refl=>exact fun v cs h=>h
 | cons _ ih=>exact fun v cs h=>one v .refl (fun v cs=>ih v) h
 | slice hv _ ih=>exact fun v cs h=>one v (.slice hv .refl) (fun v cs=>ih v) h
 | none _ ih=>exact fun v cs h=>one v (.none .refl) (fun v cs=>ih v) h
 | nil _ ih=>exact fun v cs h=>one v (.nil .refl) (fun v cs=>ih v) h
 | agg h1 _ _ ih=>exact fun v cs h=>one v (.agg h1 .refl) (fun v cs=>ih v) h
 | func h1 h2 _ _ _ ih=>exact fun v cs h=>one v (.func h1 h2 .refl) (fun v cs=>ih v) h
theorem qCw {t:Option R} (L:List Blk) (r0 minv:Nat) (cells cells':List AV) (hl:Nat.ble L.length roots = true) (hr:L[r0]? = some ⟨cells,minv,false⟩) (hw:Wk cells cells') (k:Ok X p env (mkH (L.set r0 ⟨cells',minv,false⟩)) t):Ok X p env (mkH L) t:=by
 intro r hr' m0 w0 b0 m w a h0 fr hnt hd rw st
 have hl:L.length ≤ roots:=Nat.le_of_ble_eq_true hl
 have hlt:r0 < L.length:=(List.getElem?_eq_some_iff.1 hr).1
 have g1:=qAr (L:=L) hl
 have g2:=qAr (L:=L.set r0 ⟨cells',minv,false⟩) (by simpa using hl)
 have gne:∀ j,j ≠ r0 → (mkH (L.set r0 ⟨cells',minv,false⟩)).t.get j = (mkH L).t.get j:=by
  intro j hj
  rw [g1,g2,List.getElem?_set,if_neg (fun e=>hj e.symm)]
 have geq:(mkH (L.set r0 ⟨cells',minv,false⟩)).t.get r0 = some ⟨cells',minv,false⟩:=by
  rw [g2,List.getElem?_set,if_pos rfl,if_pos hlt]
 have hroot:(mkH L).t.get r0 = some ⟨cells,minv,false⟩:=by rw [g1]; exact hr
 have hlen:=hw.length
 have hnext:(mkH (L.set r0 ⟨cells',minv,false⟩)).next = L.length:=by simp [mkH]
 refine k r hr' m0 w0 b0 m w a h0 fr hnt hd ⟨?_,?_,rw.sep,?_,rw.vle,rw.frz,?_,rw.ffin,rw.base_le,by rw [hnext]; exact hl⟩ st
 ·intro r b v B N hb hm h1 h2
  by_cases e:r = r0
  ·subst e
   rw [geq] at hb
   cases hb
   simp only at h1 h2
   obtain ⟨cs,ty,fr',q1,q2,q3,q4,q5⟩:=rw.blk r ⟨cells,minv,false⟩ v B N hroot hm h1 (by show v ≤ cells.length; omega)
   exact ⟨cs,ty,fr',q1,q2,q3,q4,wk_take hw v q5⟩
  ·rw [gne r e] at hb
   exact rw.blk r b v B N hb hm h1 h2
 ·intro r v B N hm
  obtain ⟨b,q1,q2,q3,q4⟩:=rw.dom r v B N hm
  by_cases e:r = r0
  ·subst e
   rw [hroot] at q1
   cases q1
   exact ⟨_,geq,by show v ≤ cells'.length; rw [hlen]; exact q2,q3,q4⟩
  ·exact ⟨b,by rw [gne r e]; exact q1,q2,q3,q4⟩
 ·intro r hr
  rw [hnext] at hr
  rw [gne r (by omega)]
  exact rw.fresh r hr
 ·intro i B cs r v N b hi hm hb
  by_cases e:r = r0
  ·subst e
   rw [geq] at hb
   cases hb
   have:=rw.fsep i B cs r v N ⟨cells,minv,false⟩ hi hm hroot
   exact this
  ·rw [gne r e] at hb
   exact rw.fsep i B cs r v N b hi hm hb
theorem qBq {r : R} {xs : List AV} (L L2 : List Blk) (ht : X.thr r = none) (hr : resV X.C env (mkH (L ++ L2)) X.fn.results.toList = some xs) (hn : Nat.ble (L.length + L2.length) roots = true) (hn0 : Nat.ble X.n0 L.length = true)
 (hbe:below L.length (oneRes xs) = true) (hb:BB L.length L) (hv:X.enc r = oneRes xs) (hf:X.fin r = mkH L):Ok X .fin env (mkH (L ++ L2)) (some r):=by
 intro r' e m0 w0 b0 m w a h0 fr hnt hd rw st
 cases e
 obtain ⟨c,h1,h2⟩:=qCe (P:=X.P) X.hti fr rw hr
 have hn:L.length + L2.length ≤ roots:=Nat.le_of_ble_eq_true hn
 have hget:∀ i,i < L.length → (mkH (L ++ L2)).t.get i = (mkH L).t.get i:=by
  intro i hi
  rw [qAr (by simp; omega),qAr (by omega)]
  simp [List.getElem?_append_left hi]
 have hcut:∀ {r v q},(m.cut L.length) r v = some q → r < L.length ∧ m r v = some q:=by
  intro r v q h
  have h:(if r < L.length then m r v else none) = some q:=h
  by_cases e:r < L.length
  ·rw [if_pos e] at h; exact ⟨e,h⟩
  ·rw [if_neg e] at h; cases h
 have hrw:RW (m.cut L.length) (mkH L) w b0:=by
  refine ⟨?_,?_,?_,?_,?_,rw.frz,?_,rw.ffin,rw.base_le,by show L.length ≤ roots; omega⟩
  ·intro r b v B N hb' hm q1 q2
   obtain ⟨hlt,hm⟩:=hcut hm
   obtain ⟨cs,ty,fr',p1,p2,p3,p4,p5⟩:=rw.blk r b v B N (by rw [hget r hlt]; exact hb') hm q1 q2
   have hbl:L[r]? = some b:=by
    rw [qAr (by omega)] at hb'
    exact hb'
   exact ⟨cs,ty,fr',p1,p2,p3,p4,qBc _ _ (qB0 v (qL9 hb hbl)) p5⟩
  ·intro r v B N hm
   obtain ⟨hlt,hm⟩:=hcut hm
   rw [← hget r hlt]
   exact rw.dom r v B N hm
  ·intro r v B N r' v' N' hm hm' hB
   exact rw.sep _ _ _ _ _ _ _ (hcut hm).2 (hcut hm').2 hB
  ·intro r hr
   have hr:L.length ≤ r:=hr
   rw [qAr (by omega),List.getElem?_eq_none hr]
  ·intro r v B N hm
   exact rw.vle _ _ _ _ (hcut hm).2
  ·intro i B cells r v N b hi hm hb'
   obtain ⟨hlt,hm⟩:=hcut hm
   rw [← hget r hlt] at hb'
   exact rw.fsep i B cells r v N b hi hm hb'
 have hst:St m0 w0 b0 (m.cut L.length) w:=by
  refine ⟨⟨fun r v q hq=>?_,st.sub.2⟩,?_,st.fext,st.size,st.os,st.tape,st.output,st.same⟩
  ·have h1:=h0.1 r v q hq
   have h2:=Nat.le_of_ble_eq_true hn0
   show (if r < L.length then m r v else none) = some q
   rw [if_pos (by omega)]
   exact st.sub.1 r v q hq
  ·intro r v B N hm
   exact st.ext r v B N (hcut hm).2
 have e:EndT (X.thr r) (X.enc r) (X.fin r) m0 w0 b0 (.returned c) w:=by rw [ht]; exact ⟨m.cut L.length,c,rfl,by rw [hf]; exact hrw,hst,by rw [hv]; exact qDt _ _ hbe h2⟩
 exact qFr hd h1 e
theorem qG {r:R} {xs:List AV} (ht:X.thr r = none) (hr:resV X.C env H X.fn.results.toList = some xs) (hv:X.enc r = oneRes xs) (hf:X.fin r = H):Ok X .fin env H (some r):=by
 intro r' e m0 w0 b0 m w a h0 fr hnt hd rw st
 cases e
 obtain ⟨c,h1,h2⟩:=qCe (P:=X.P) X.hti fr rw hr
 have e:EndT (X.thr r) (X.enc r) (X.fin r) m0 w0 b0 (.returned c) w:=by rw [ht]; exact ⟨m,c,rfl,by rw [hf]; exact rw,st,by rw [hv]; exact h2⟩
 exact qFr hd h1 e
end
structure Raw where
 n:Nat
 cells:List AV
def nthR {α:Type} (d:List AV → Option α) (sz:Nat) (n:Nat) (cells:List AV) (k:Int):Option α:=if 0 ≤ k ∧ k < (n:Int) then d ((cells.drop (k.toNat * sz)).take sz) else none
theorem vidxR {α:Type} {enc:α → List AV} {d:List AV → Option α} {sz:Nat} (hd:∀ cs x,d cs = some x → cs = enc x) {e:Option (AV × Hp)} {n:Nat} {cells:List AV} {k:Int} {H:Hp} {x:α} (hx:nthR d sz n cells k = some x) (h:e = (if sz = sz ∧ 0 ≤ k ∧ k < ((n:Nat):Int) then some (AV.vptr ((cells.drop (k.toNat * sz)).take sz),H) else none)):e = some (AV.vptr (enc x),H):=by
 unfold nthR at hx
 by_cases h0:0 ≤ k ∧ k < (n:Int)
 ·rw [if_pos h0] at hx
  rw [h,if_pos ⟨rfl,h0.1,h0.2⟩,hd _ _ hx]
 ·rw [if_neg h0] at hx; cases hx
def pI (k : IntKind) : List AV → Option (Int × List AV)
 | .int k' n :: r=>if k' = k then some (n,r) else none
 | _=>none
def pB : List AV → Option (Bool × List AV)
 | .bool b :: r=>some (b,r)
 | _=>none
def pS : List AV → Option (List Nat × List AV)
 | .str s :: r=>some (s,r)
 | _=>none
def pN {α:Type} (p:List AV → Option (α × List AV)) (n:Nat) (cs:List AV):Option (List α × List AV) :=
 Nat.rec (motive:=fun _=>List AV → Option (List α × List AV)) (fun cs=>some ([],cs)) (fun _ ih cs=>match p cs with | some (x,r)=>(match ih r with | some (l,r')=>some (x :: l,r') | none=>none) | none=>none) n cs
def pV {α : Type} (p : List AV → Option (α × List AV)) (sz : Nat) : List AV → Option (List α × List AV)
 | .vec n s c :: r=>if s = sz then (match pN p n c with | some (l,[])=>some (l,r) | _=>none) else none
 | _=>none
theorem pI_ok {k:IntKind} {cs r:List AV} {x:Int} (h:pI k cs = some (x,r)):cs = [AV.int k x] ++ r:=by
 unfold pI at h
 split at h
 ·split at h
  ·rename_i e; cases h; subst e; rfl
  ·cases h
 ·cases h
theorem pB_ok {cs r:List AV} {x:Bool} (h:pB cs = some (x,r)):cs = [AV.bool x] ++ r:=by
 unfold pB at h
 split at h
 ·cases h; rfl
 ·cases h
theorem pS_ok {cs r:List AV} {x:List Nat} (h:pS cs = some (x,r)):cs = [AV.str x] ++ r:=by
 unfold pS at h
 split at h
 ·cases h; rfl
 ·cases h
theorem pN_ok {α : Type} {p : List AV → Option (α × List AV)} {enc : α → List AV} (hp : ∀ cs x r, p cs = some (x, r) → cs = enc x ++ r) : ∀ (n : Nat) (cs : List AV) (l : List α) (r : List AV), pN p n cs = some (l, r) → cs = l.flatMap enc ++ r ∧ l.length = n
 | 0,cs,l,r,h=>by
  have h:some (([]:List α),cs) = some (l,r):=h
  cases h
  exact ⟨rfl,rfl⟩
 | n + 1,cs,l,r,h=>by
  have h:(match p cs with | some (x,r)=>(match pN p n r with | some (l,r')=>some (x :: l,r') | none=>none) | none=>none) = some (l,r):=h
  cases h1:p cs with
  | none=>rw [h1] at h; cases h
  | some xr =>
   obtain ⟨x,r1⟩:=xr
   rw [h1] at h
   simp only at h
   cases h2:pN p n r1 with
   | none=>rw [h2] at h; cases h
   | some lr =>
    obtain ⟨l1,r2⟩:=lr
    rw [h2] at h
    cases h
    obtain ⟨q1,q2⟩:=pN_ok hp n r1 l1 r h2
    rw [hp _ _ _ h1,q1,List.flatMap_cons,List.append_assoc]
    exact ⟨rfl,by simp [q2]⟩
theorem pV_ok {α:Type} {p:List AV → Option (α × List AV)} {enc:α → List AV} {sz:Nat} (hp:∀ cs x r,p cs = some (x,r) → cs = enc x ++ r) {cs:List AV} {l:List α} {r:List AV} (h:pV p sz cs = some (l,r)):cs = [AV.vec l.length sz (l.flatMap enc)] ++ r:=by
 unfold pV at h
 split at h
 ·split at h
  ·rename_i e
   subst e
   split at h
   ·rename_i l1 h1
    cases h
    obtain ⟨q1,q2⟩:=pN_ok hp _ _ _ _ h1
    rw [List.append_nil] at q1
    rw [q1,q2]; rfl
   ·cases h
  ·cases h
 ·cases h
def pall {α:Type} (p:List AV → Option (α × List AV)) (cs:List AV):Option α:=match p cs with | some (x,[])=>some x | _=>none
theorem pall_ok {α:Type} {p:List AV → Option (α × List AV)} {enc:α → List AV} (hp:∀ cs x r,p cs = some (x,r) → cs = enc x ++ r) (cs:List AV) (x:α) (h:pall p cs = some x):cs = enc x:=by
 unfold pall at h
 split at h
 ·rename_i y hy
  cases h
  have:=hp _ _ _ hy
  simpa using this
 ·cases h
inductive Fr1 (r0 n sz:Nat) (cells:List AV):List AV → List AV → Prop where
 | refl {xs}:nrefs r0 xs = true → Fr1 r0 n sz cells xs xs
 | cons {x xs ys}:nref r0 x = true → Fr1 r0 n sz cells xs ys → Fr1 r0 n sz cells (x :: xs) (x :: ys)
 | own {xs ys}:Fr1 r0 n sz cells xs ys → Fr1 r0 n sz cells (.own r0 n sz :: xs) (.vec n sz cells :: ys)
 | agg {xs ys zs us}:Fr1 r0 n sz cells xs ys → Fr1 r0 n sz cells zs us → Fr1 r0 n sz cells (.agg xs :: zs) (.agg ys :: us)
theorem fr1_ok {r0 n sz:Nat} {cells:List AV} {m:Mp} {F:Nat → Option (Nat × List AV)} (hF:∀ i p,m.froz i = some p → F i = some p) (hvec:∀ c,VR m (.own r0 n sz) c → VR ⟨fun _ _=>none,F⟩ (.vec n sz cells) c) {xs ys:List AV} (h:Fr1 r0 n sz cells xs ys):∀ {cs:List Value},VRs m xs cs → VRs (m.out r0 F) ys cs:=by
 induction h with
 | refl h=>exact fun hv=>qC hF _ _ h hv
 | cons h _ ih =>
  intro cs hv
  simp only [VRs] at hv ⊢
  obtain ⟨y,ys,rfl,h1,h2⟩:=hv
  exact ⟨y,ys,rfl,qG2 hF _ _ h h1,ih h2⟩
 | own _ ih =>
  intro cs hv
  rw [VRs] at hv
  obtain ⟨y,ys,rfl,h1,h2⟩:=hv
  rw [VRs]
  exact ⟨y,ys,rfl,VR.mono (m:=⟨fun _ _=>none,F⟩) (m':=m.out r0 F) ⟨fun _ _ _ h=>(by cases h),fun _ _ h=>h⟩ _ _ (hvec y h1),ih h2⟩
 | agg _ _ ih1 ih2 =>
  intro cs hv
  simp only [VRs,VR] at hv ⊢
  obtain ⟨y,ys,rfl,⟨zs,rfl,h1⟩,h2⟩:=hv
  exact ⟨_,ys,rfl,⟨zs,rfl,ih1 h1⟩,ih2 h2⟩
theorem Fr1.length {r0 n sz:Nat} {cells xs ys:List AV} (h:Fr1 r0 n sz cells xs ys):ys.length = xs.length:=by
 induction h <;> simp_all
theorem fr1_take {r0 n sz:Nat} {cells xs ys:List AV} (h:Fr1 r0 n sz cells xs ys):∀ v,Fr1 r0 n sz cells (xs.take v) (ys.take v):=by
 induction h with
 | refl h=>exact fun v => .refl (qDa v h)
 | cons h _ ih=>intro v; cases v with
  | zero=>exact .refl rfl
  | succ v=>exact .cons h (ih v)
 | own _ ih=>intro v; cases v with
  | zero=>exact .refl rfl
  | succ v=>exact .own (ih v)
 | agg h1 _ _ ih=>intro v; cases v with
  | zero=>exact .refl rfl
  | succ v=>exact .agg h1 (ih v)
def FrE (r0 n sz : Nat) (cells : List AV) : Env → Env → Prop
 | [],[]=>True
 | p :: e,q :: e'=>(p.1 = q.1 ∧ Fr1 r0 n sz cells [p.2] [q.2]) ∧ FrE r0 n sz cells e e'
 | _,_=>False
theorem qL8 {r0 n sz : Nat} {cells : List AV} : ∀ {e e' : Env}, FrE r0 n sz cells e e' → ∀ t, look e' t ≠ .top → look e t ≠ .top ∧ Fr1 r0 n sz cells [look e t] [look e' t]
 | [],[],_,t,h=>absurd rfl h
 | [],_ :: _,h,_,_=>h.elim
 | _ :: _,[],h,_,_=>h.elim
 | (t1,v1) :: e,(t2,v2) :: e',h,t,hne=>by
  obtain ⟨⟨h1,h2⟩,h3⟩:=h
  simp only at h1 h2
  subst h1
  rw [qAo] at hne ⊢
  rw [qAo]
  by_cases et:t1 = t
  ·rw [if_pos et] at hne ⊢
   rw [if_pos et]
   refine ⟨?_,h2⟩
   rintro rfl
   cases h2 with
   | refl _=>exact hne rfl
   | cons _ _=>exact hne rfl
  ·rw [if_neg et] at hne ⊢
   rw [if_neg et]
   exact qL8 h3 t hne
def FrH (r0 n sz : Nat) (cells : List AV) : Nat → List Blk → List Blk → Prop
 | _,[],[]=>True
 | i,b :: L,c :: L'=>((i = r0 ∧ c = ⟨[],0,false⟩) ∨ (Nat.beq i r0 = false ∧ c.minv = b.minv ∧ c.ro = b.ro ∧ Fr1 r0 n sz cells b.cells c.cells)) ∧ FrH r0 n sz cells (i + 1) L L'
 | _,_,_=>False
theorem qPo {r0 n sz : Nat} {cells : List AV} : ∀ {L L' : List Blk} {i : Nat}, FrH r0 n sz cells i L L' → L'.length = L.length ∧ ∀ j c, L'[j]? = some c → ∃ b, L[j]? = some b ∧ ((i + j = r0 ∧ c = ⟨[], 0, false⟩) ∨ (i + j ≠ r0 ∧ c.minv = b.minv ∧ c.ro = b.ro ∧ Fr1 r0 n sz cells b.cells c.cells))
 | [],[],i,_=>⟨rfl,fun j c h=>by simp at h⟩
 | [],_ :: _,_,h=>h.elim
 | _ :: _,[],_,h=>h.elim
 | b :: L,c :: L',i,h=>by
  obtain ⟨h1,h2⟩:=qPo h.2
  refine ⟨by simp [h1],fun j d hd=>?_⟩
  cases j with
  | zero =>
   simp at hd; subst hd
   refine ⟨b,rfl,?_⟩
   rcases h.1 with ⟨e1,e2⟩ | ⟨e1,e2⟩
   ·exact .inl ⟨by omega,e2⟩
   ·refine .inr ⟨fun e=>?_,e2⟩
    have:i = r0:=by omega
    rw [this] at e1; simp at e1
  | succ j =>
   obtain ⟨b',q1,q2⟩:=h2 j d (by simpa using hd)
   refine ⟨b',by simpa using q1,?_⟩
   rw [show i + (j + 1) = i + 1 + j by omega]; exact q2
theorem qMy {R:Type} {X:Fx R} {p:Pt} {env env0 eE:Env} {t:Option R} (L L':List Blk) (r0 n sz minv:Nat) (cells:List AV) (ks:List Nat) (hn0:Nat.ble X.n0 r0 = true) (hl:Nat.ble L.length roots = true) (hr:L[r0]? = some ⟨cells,minv,false⟩) (hc:cells.length = n * sz) (hmin:minv ≤ n * sz) (hp:purs cells = true) (hk:keepOnly env ks = env0) (hE:FrE r0 n sz cells env0 eE) (hH:FrH r0 n sz cells 0 L L') (k:Ok X p eE (mkH L') t):Ok X p env (mkH L) t:=by
 intro r hr' m0 w0 b0 m w a h0 fr0 hnt hd rw st
 have fr:FR m env0 a.tmps:=fr0.less (hk ▸ qBg ks env)
 have hl:L.length ≤ roots:=Nat.le_of_ble_eq_true hl
 have gL:=qAr (L:=L) hl
 obtain ⟨hlen,hget⟩:=qPo hH
 have gL':=qAr (L:=L') (by omega)
 have hroot:(mkH L).t.get r0 = some ⟨cells,minv,false⟩:=by rw [gL]; exact hr
 have hF0:FOk 0 m m.froz w b0:=⟨fun i B cells hi=>rw.frz i B cells hi,rw.ffin,fun i B cells h => .inl h,fun _ _ h=>h⟩
 have key:∃ F,FOk 0 m F w b0 ∧ (∀ i B cs,F i = some (B,cs) → m.froz i = some (B,cs) ∨ ∃ v N,m r0 v = some (B,N)) ∧ (∀ c,VR m (.own r0 n sz) c → VR ⟨fun _ _=>none,F⟩ (.vec n sz cells) c):=by
  cases hm:m r0 (n * sz) with
  | none =>
   refine ⟨m.froz,hF0,fun i B cs h => .inl h,?_⟩
   intro c hv
   simp only [VR] at hv
   rcases hv with ⟨h1,h2⟩ | ⟨B,N,cap,h1,_⟩
   ·subst h1; subst h2
    have:cells = []:=List.length_eq_zero_iff.1 (by omega)
    subst this
    exact qD4 _ _
   ·rw [hm] at h1; cases h1
  | some BN =>
   obtain ⟨B,N⟩:=BN
   obtain ⟨cs,ty,fr',q1,q2,q3,q4,q5⟩:=rw.blk _ _ _ _ _ hroot hm hmin (by show n * sz ≤ cells.length; omega)
   obtain ⟨b0',hb0,_,_,hbase⟩:=rw.dom _ _ _ _ hm
   rw [hroot] at hb0
   cases hb0
   simp only at q5
   rw [List.take_of_length_le (by omega)] at q5
   have q6:=qB7 _ _ hp q5
   obtain ⟨F,i,g1,g2,g3⟩:=qIw hF0 (hbase rfl) ⟨_,_,_,Nat.zero_le _,hm⟩ q1 (cells:=cells) (by omega) (by rw [hc]; exact q6)
   obtain ⟨nf,hnf⟩:=rw.ffin
   have hmono:∀ j q,m.froz j = some q → (fun j=>if j = nf then some (B,cells) else m.froz j) j = some q:=by
    intro j q hq
    simp only
    rw [if_neg]
    ·exact hq
    ·rintro rfl; rw [hnf _ (Nat.le_refl _)] at hq; cases hq
   refine ⟨fun j=>if j = nf then some (B,cells) else m.froz j,?_,?_,?_⟩
   ·refine ⟨?_,⟨nf + 1,fun j hj=>by show (if j = nf then some (B,cells) else m.froz j) = none; rw [if_neg (by omega)]; exact hnf j (by omega)⟩,?_,hmono⟩
    ·intro j B' cells' hj
     have hS:Sub m.still ⟨fun _ _=>none,fun j=>if j = nf then some (B,cells) else m.froz j⟩:=⟨fun _ _ _ e=>(by cases e),hmono⟩
     by_cases e:j = nf
     ·simp only [e,if_true] at hj
      cases hj
      exact ⟨cs,ty,fr',q1,by omega,by rw [hc]; exact VRs.mono hS _ _ q6⟩
     ·simp only [e,if_false] at hj
      obtain ⟨cs2,ty2,fr2,e1,e2,e3⟩:=rw.frz j B' cells' hj
      exact ⟨cs2,ty2,fr2,e1,e2,VRs.mono hS _ _ e3⟩
    ·intro j B' cells' hj
     by_cases e:j = nf
     ·simp only [e,if_true] at hj
      cases hj
      exact .inr ⟨hbase rfl,_,_,_,Nat.zero_le _,hm⟩
     ·simp only [e,if_false] at hj
      exact .inl hj
   ·intro j B' cells' hj
    by_cases e:j = nf
    ·simp only [e,if_true] at hj
     cases hj
     exact .inr ⟨_,_,hm⟩
    ·simp only [e,if_false] at hj
     exact .inl hj
   ·intro c hv
    simp only [VR] at hv
    rcases hv with ⟨h1,h2⟩ | ⟨B2,N2,cap,h1,h2,h3,h4⟩
    ·subst h1; subst h2
     have:cells = []:=List.length_eq_zero_iff.1 (by omega)
     subst this
     exact qD4 _ _
    ·rw [hm] at h1
     cases h1
     subst h4
     simp only [VR]
     refine ⟨hc,_,cap,rfl,h2,fun e=>(by cases e),fun _=>⟨nf,B,0,cells,by simp,rfl,?_,by omega⟩⟩
     rw [List.drop_zero,List.take_of_length_le (by omega)]
 obtain ⟨F,hFok,hFnew,hvec⟩:=key
 have hout:∀ {r v q},(m.out r0 F) r v = some q → r ≠ r0 ∧ m r v = some q:=by
  intro r v q h
  have h:(if r = r0 then none else m r v) = some q:=h
  by_cases e:r = r0
  ·rw [if_pos e] at h; cases h
  ·rw [if_neg e] at h; exact ⟨e,h⟩
 have hblk:∀ {r c},r ≠ r0 → (mkH L').t.get r = some c → ∃ b,(mkH L).t.get r = some b ∧ c.minv = b.minv ∧ c.ro = b.ro ∧ Fr1 r0 n sz cells b.cells c.cells:=by
  intro r c hne hc'
  rw [gL'] at hc'
  obtain ⟨b,q1,q2⟩:=hget r c hc'
  rw [Nat.zero_add] at q2
  rcases q2 with ⟨e,_⟩ | ⟨_,q3⟩
  ·exact absurd e hne
  ·exact ⟨b,by rw [gL]; exact q1,q3⟩
 refine k r hr' m0 w0 b0 (m.out r0 F) w a h0 ?_ hnt hd ⟨?_,?_,?_,?_,?_,hFok.ok,?_,hFok.fin,rw.base_le,by show L'.length ≤ roots; omega⟩ ⟨⟨fun r v q hq=>(by
  have h1:=h0.1 r v q hq
  have h2:=Nat.le_of_ble_eq_true hn0
  show (if r = r0 then none else m r v) = some q
  rw [if_neg (by omega)]
  exact st.sub.1 r v q hq),fun i q hq=>hFok.sub i q (st.sub.2 i q hq)⟩,?_,?_,st.size,st.os,st.tape,st.output,st.same⟩
 ·intro u hu
  obtain ⟨hne,hf⟩:=qL8 hE u hu
  obtain ⟨c,h1,h2⟩:=fr u hne
  refine ⟨c,h1,?_⟩
  have:=fr1_ok hFok.sub hvec hf (cs:=[c]) (by simp only [VRs]; exact ⟨c,[],rfl,h2,rfl⟩)
  simp only [VRs] at this
  obtain ⟨c',cs',e1,h3,_⟩:=this
  cases e1
  exact h3
 ·intro r b v B N hb hm h1 h2
  obtain ⟨hne',hm⟩:=hout hm
  obtain ⟨b1,g1,g2,g3,g4⟩:=hblk hne' hb
  obtain ⟨cs,ty,fr',q1,q2,q3,q4,q5⟩:=rw.blk r b1 v B N g1 hm (by omega) (by rw [← g4.length]; exact h2)
  exact ⟨cs,ty,fr',q1,q2,q3,by rw [g3]; exact q4,fr1_ok hFok.sub hvec (fr1_take g4 v) q5⟩
 ·intro r v B N hm
  obtain ⟨hne',hm⟩:=hout hm
  obtain ⟨b,q1,q2,q3,q4⟩:=rw.dom r v B N hm
  rw [gL] at q1
  have hlt:r < L'.length:=by rw [hlen]; exact (List.getElem?_eq_some_iff.1 q1).1
  have hc':(mkH L').t.get r = some L'[r]:=by rw [gL']; exact List.getElem?_eq_getElem hlt
  obtain ⟨b1,g1,g2,g3,g4⟩:=hblk hne' hc'
  rw [gL,q1] at g1
  cases g1
  exact ⟨_,hc',by rw [g4.length]; exact q2,q3,by rw [g3]; exact q4⟩
 ·intro r v B N r' v' N' hm hm' hB
  exact rw.sep _ _ _ _ _ _ _ (hout hm).2 (hout hm').2 hB
 ·intro r hr
  have hr:L'.length ≤ r:=hr
  rw [gL',List.getElem?_eq_none hr]
 ·intro r v B N hm
  exact rw.vle _ _ _ _ (hout hm).2
 ·intro i B cs r v N b hi hm hb
  obtain ⟨hne',hm⟩:=hout hm
  obtain ⟨b1,g1,g2,g3,g4⟩:=hblk hne' hb
  rw [g3]
  rcases hFnew i B cs hi with h | ⟨v',N',h⟩
  ·exact rw.fsep i B cs r v N b1 h hm g1
  ·obtain ⟨b0,hb0,_,_,hbase⟩:=rw.dom _ _ _ _ h
   rw [hroot] at hb0
   cases hb0
   exact absurd (rw.sep _ _ _ _ _ _ _ h hm (hbase rfl)).symm hne'
 ·intro r v B N hm
  exact st.ext r v B N (hout hm).2
 ·intro i B cs hi
  rcases hFok.new i B cs hi with h | h
  ·exact st.fext i B cs h
  ·obtain ⟨h1,r,v,N,_,hm⟩:=h
   rcases st.ext r v B N hm with ⟨v0,N0,e0⟩ | h2
   ·exact .inr ⟨h1,.inl ⟨r,v0,N0,e0⟩⟩
   ·exact .inr ⟨h1,.inr h2⟩
def cT {α R:Type} (m:Option (Option α)) (tc:Option R) (f:α → Option R):Option R:=m.bind fun x=>match x with | none=>tc | some y=>f y
def DfR (m:Mp) (f:Nat) (caps:List AV) (ds:List Deferred):Prop := ∃ vals:Array Value,ds = [{ target := .fn (.func f) vals,args := #[] }] ∧ VRs m caps vals.toList
def DefT (P:Program) (f:Nat) (caps:List AV) (L:List Blk) (u:FrameMode) (L':List Blk):Prop :=
 (∀ (m:Mp) (w:World) (base:Nat) (vals:Array Value),VRs m caps vals.toList → RW m (mkH L) w base → CallsD P f vals u w fun e u' w'=>(∃ v,e = .returned v) ∧ settle u' = .returning ∧ ∃ m',RW m' (mkH L') w' base ∧ St m w base m' w') ∧
 (∃ fn,P.funcs[f]? = some fn ∧ (fn.name == "runtime.NumGoroutine") = false ∧ fn.body.isSome = true)
section
variable {R:Type} (X:Fx R)
def OkD (f:Nat) (caps:List AV) (p:Pt) (env:Env) (H:Hp) (t:Option R):Prop := ∀ r,t = some r → ∀ (m0:Mp) (w0:World) (b0:Nat) (m:Mp) (w:World) (a:Act),((∀ r v p,m0 r v = some p → r < X.n0) ∧ b0 ≤ w0.heap.size) → FR m env a.tmps → X.fn.ntmps ≤ a.tmps.size → DfR m f caps a.defers → RW m H w b0 → St m0 w0 b0 m w → At X.P (Ret X r m0 w0 b0) p a w
end
section
variable {R:Type} {X:Fx R} {f:Nat} {caps:List AV} {p p':Pt} {env eE:Env} {H H':Hp}
theorem put_defers (a:Act) (d:Option Nat) (c:Value):(a.put d c).defers = a.defers:=by cases d <;> rfl
theorem DfR.mono {m m':Mp} {ds:List Deferred} (h:Sub m m') (k:DfR m f caps ds):DfR m' f caps ds:=let ⟨v,e,q⟩:=k; ⟨v,e,VRs.mono h _ _ q⟩
theorem qL7 {m : Mp} {env : Env} {a : Act} {n : Nat} (fr : FR m env a.tmps) (hn : n ≤ a.tmps.size) (o : Oper) (ho : dstOk n o = true) (v : AV) (c : Value) (hv : VR m v c) :
 FR m (putV env o.dst v) (a.put o.dst c).tmps ∧ n ≤ (a.put o.dst c).tmps.size:=by
 obtain ⟨h1,h2,_⟩:=qBh (a := { a with defers:=[] }) fr hn rfl o ho v c hv
 cases h:o.dst <;> rw [h] at h1 h2 <;> exact ⟨h1,h2⟩
theorem okD_at {t:Option R} (h:p = p') (k:OkD X f caps p' env H t):OkD X f caps p env H t:=h ▸ k
theorem qN0 {t:Option R} {ops:Array Oper} {n:Nat} {K:List Fr} {o:Oper} {v:AV} (ho:ops[n]? = some o) (hd:dstOk X.fn.ntmps o = true) (hw:wantedV o ops.toList env = some true) (hs:Stp X.P X.C env H o v H') (k:OkD X f caps (.ops ops (n + 1) K) (putV env o.dst v) H' t):OkD X f caps (.ops ops n K) env H t:=by
 intro r hr m0 w0 b0 m w a h0 fr hn hdf rw st
 show wpOps X.P ops _ (List.range' n (ops.size - n)) a w
 have hlt:n < ops.size:=(Array.getElem?_eq_some_iff.1 ho).1
 rw [show ops.size - n = (ops.size - (n + 1)) + 1 by omega,List.range'_succ]
 simp only [wpOps,ho]
 rw [qB2 hw fr]
 simp only [if_true]
 refine .inl ?_
 refine qM6 X.hti hs fr rw _ _ fun m' w' c q1 q2 q3=>?_
 obtain ⟨f1,f2⟩:=qL7 (fr.mono q2.sub) hn o hd v c q3
 exact k r hr m0 w0 b0 m' w' _ h0 f1 f2 (by rw [put_defers]; exact hdf.mono q2.sub) q1 (st.trans h0.2 q2)
theorem okD_skp {t:Option R} {ops:Array Oper} {n:Nat} {K:List Fr} {o:Oper} (ho:ops[n]? = some o) (hd:dstOk X.fn.ntmps o = true) (hw:wantedV o ops.toList env = some false) (k:OkD X f caps (.ops ops (n + 1) K) (putV env o.dst (.tuple [])) H t):OkD X f caps (.ops ops n K) env H t:=by
 intro r hr m0 w0 b0 m w a h0 fr hn hdf rw st
 show wpOps X.P ops _ (List.range' n (ops.size - n)) a w
 have hlt:n < ops.size:=(Array.getElem?_eq_some_iff.1 ho).1
 rw [show ops.size - n = (ops.size - (n + 1)) + 1 by omega,List.range'_succ]
 simp only [wpOps,ho]
 rw [qB2 hw fr]
 simp only [Bool.false_eq_true,if_false]
 obtain ⟨f1,f2⟩:=qL7 fr hn o hd (.tuple []) undef (qGj _)
 exact k r hr m0 w0 b0 m w _ h0 f1 f2 (by rw [put_defers]; exact hdf) rw st
theorem qC7 {t:Option R} (h:∀ (Q:Exit → Act → World → Prop) (a:Act) (w:World),At X.P Q p' a w → At X.P Q p a w) (k:OkD X f caps p' env H t):OkD X f caps p env H t :=
 fun r hr m0 w0 b0 m w a h0 fr hn hd rw st=>h _ a w (k r hr m0 w0 b0 m w a h0 fr hn hd rw st)
theorem stepD_ok {t:Option R} (h:stepV X.C X.fn.ntmps p env H = some (p',eE,H')) (k:OkD X f caps p' eE H' t):OkD X f caps p env H t:=by
 cases p with
 | ops ops n K =>
  simp only [stepV] at h
  rw [qC8,Array.getElem?_toList] at h
  cases ho:ops[n]? with
  | none =>
   rw [ho] at h
   cases h
   refine qC7 (fun Q a w hh=>?_) k
   show wpOps X.P ops _ (List.range' n (ops.size - n)) a w
   have hle:ops.size ≤ n:=by
    rcases Nat.lt_or_ge n ops.size with h1 | h1
    ·rw [Array.getElem?_eq_getElem h1] at ho; cases ho
    ·exact h1
   rw [show ops.size - n = 0 by omega]
   exact qAw hh
  | some o =>
   rw [ho] at h
   simp only at h
   cases hd:dstOk X.fn.ntmps o with
   | false=>rw [hd] at h; cases h
   | true =>
    rw [hd] at h
    simp only [cond_true] at h
    split at h
    ·rename_i hw
     split at h
     ·rename_i v H1 hv
      cases h
      exact qN0 ho hd hw (.inl hv) k
     ·cases h
    ·rename_i hw
     cases h
     exact okD_skp ho hd hw k
    ·cases h
 | code c K =>
  cases c <;> simp only [stepV] at h
  case seq x y=>cases h; exact qC7 (p' := .code x (.seq y :: K)) (fun Q a w hh=>wp_seq (wp_mono hh fun e a w he=>by cases e <;> exact he)) k
  case skip=>cases h; exact qC7 (fun Q a w hh=>wp_skip (qAw hh)) k
  case label=>cases h; exact qC7 (fun Q a w hh=>wp_label (qAw hh)) k
  case block id b=>cases h; exact qC7 (p' := .code b (.block id :: K)) (fun Q a w hh=>wp_block hh) k
  case scope b=>cases h; exact qC7 (p' := .code b (.scope b :: K)) (fun Q a w hh=>(qFp hh).wp) k
  case loop b=>cases h; exact qC7 (p' := .loop _ _) (fun Q a w hh=>LoopWp.wp hh) k
  case exit id =>
   split at h
   ·rename_i q hq
    cases h
    exact qC7 (fun Q a w hh=>wp_exit (qCi hq hh)) k
   ·cases h
  case goto l =>
   split at h
   ·rename_i q hq
    cases h
    exact qC7 (fun Q a w hh=>wp_goto (qD0 hq hh)) k
   ·cases h
  case ret=>cases h; exact qC7 (p' := .fin) (fun Q a w hh=>wp_ret (qD9 hh.2 K)) k
  case region id ops draw =>
   cases draw with
   | true=>cases h
   | false =>
    cases h
    refine qC7 (p' := .ops ops 0 K) (fun Q a w hh=>wp_region ?_) k
    have hh':wpOps X.P ops (FinK X.P Q K) (List.range' 0 (ops.size - 0)) a w:=hh
    rw [List.range_eq_range']
    exact hh'
  case cond c x y =>
   split at h
   ·rename_i b hb
    cases h
    intro r hr m0 w0 b0 m w a h0 fr hn hd rw st
    have hc:=qBz fr c
    rw [hb] at hc
    simp only [VR] at hc
    refine wp_cond hc ?_
    have:=k r hr m0 w0 b0 m w a h0 fr hn hd rw st
    cases b <;> exact this
   ·cases h
  all_goals cases h
 | loop b K=>cases h
 | fin=>cases h
theorem qE7 {t : Option R} : ∀ (k : Nat) {p : Pt} {env : Env} {H : Hp}, runV X.C X.fn.ntmps k p env H = some (p', eE, H') → OkD X f caps p' eE H' t → OkD X f caps p env H t
 | 0,p,env,H,h,g=>by
  have h':some (p,env,H) = some (p',eE,H'):=h
  cases h'
  exact g
 | k + 1,p,env,H,h,g=>by
  have h':(match stepV X.C X.fn.ntmps p env H with | some (p',eE,H')=>runV X.C X.fn.ntmps k p' eE H' | none=>none) = some (p',eE,H'):=h
  split at h'
  ·rename_i p1 env1 H1 hs
   exact stepD_ok hs (qE7 k h' g)
  ·cases h'
noncomputable def deferAt (n:Nat) (p:Pt) (env:Env):Option (Nat × List AV) :=
 match operAt n p env with
 | some o=>match o.op,o.dst with
  | .defer c,none=>match c.callee,c.args.toList with
   | .value g,[]=>match opnd env g with
    | .func f [] caps=>some (f,caps)
    | _=>none
   | _,_=>none
  | _,_=>none
 | none=>none
theorem qJn {t:Option R} (h:deferAt X.fn.ntmps p env = some (f,caps)) (k:OkD X f caps (adv p) env H t):Ok X p env H t:=by
 unfold deferAt at h
 cases ho:operAt X.fn.ntmps p env with
 | none=>rw [ho] at h; cases h
 | some o =>
  rw [ho] at h
  simp only at h
  obtain ⟨ops,n,K,rfl,h1,h2,h3⟩:=qAs ho
  split at h
  ·rename_i c hop hdst
   split at h
   ·rename_i g hcal hargs
    split at h
    ·rename_i f' caps' hg
     cases h
     intro r hr m0 w0 b0 m w a h0 fr hn hdf rw st
     show wpOps X.P ops _ (List.range' n (ops.size - n)) a w
     have hlt:n < ops.size:=(Array.getElem?_eq_some_iff.1 h1).1
     rw [show ops.size - n = (ops.size - (n + 1)) + 1 by omega,List.range'_succ]
     simp only [wpOps,h1]
     rw [qB2 h3 fr]
     simp only [if_true]
     refine .inl ?_
     have hgv:=qBz fr g
     rw [hg] at hgv
     simp only [VR,VRs] at hgv
     obtain ⟨ys,zs,hgv,hy,hz⟩:=hgv
     have hys:ys = #[]:=Array.toList_eq_nil_iff.1 hy
     subst hys
     have ha:c.args = #[]:=Array.toList_eq_nil_iff.1 hargs
     have hexec:(execOp a.eval o).run X.P w = .ok (.defer { target := .fn (.func f) zs,args := #[] }) w:=by
      simp [execOp,hop,resolve,hcal,hgv,Deferred.ofValue,ha,Sem.run,Bind.bind,Sem.bind,Pure.pure,Sem.pure]
     unfold Oper.wp
     rw [hexec]
     show wpOps X.P ops _ (List.range' (n + 1) (ops.size - (n + 1))) ({ a with defers := { target := .fn (.func f) zs,args := #[] } :: a.defers }.put o.dst undef) w
     rw [hdst]
     refine k r hr m0 w0 b0 m w _ h0 fr hn ⟨zs,?_,hz⟩ rw st
     show { target := .fn (.func f) zs,args := #[] } :: a.defers = _
     rw [hdf]
    ·cases h
   ·cases h
  ·cases h
theorem qN9 {P:Program} {f:Nat} {vals:Array Value} {w:World} (h:∃ fn,P.funcs[f]? = some fn ∧ (fn.name == "runtime.NumGoroutine") = false ∧ fn.body.isSome = true):(invoke (.fn (.func f) vals) #[]).run P w = .ok (.enter f vals) w:=by
 obtain ⟨fn,e1,e2,e3⟩:=h
 have h2':¬ fn.name = "runtime.NumGoroutine" := by simpa using e2
 have h3':¬ fn.body = none:=by intro e; rw [e] at e3; cases e3
 simp [invoke,callFunc,e1,h2',h3']
theorem qF0 {r : R} {xs : List AV} {v : AV} {u : FrameMode} {m0 m : Mp} {w0 w : World} {b0 : Nat} {a : Act} (L0 L L2 : List Blk) (hu : u ≠ .run) (hdT : DefT X.P f caps L0 u (L ++ L2)) (ht : X.thr r = none) (hr : resV X.C env (mkH (L ++ L2)) X.fn.results.toList = some xs) (hn : Nat.ble (L.length + L2.length) roots = true) (hn0 : Nat.ble X.n0 L.length = true)
 (hz:FzG L.length (mkH (L ++ L2)) [oneRes xs] [v]) (hb:BB L.length L) (hv:X.enc r = v) (hf:X.fin r = mkH L) (h0:(∀ r v p,m0 r v = some p → r < X.n0) ∧ b0 ≤ w0.heap.size) (fr:FR m env a.tmps) (hd:DfR m f caps a.defers) (rw:RW m (mkH L0) w b0) (st:St m0 w0 b0 m w) :
 Leaves X.P X.fn a.tmps (EndT (X.thr r) (X.enc r) (X.fin r) m0 w0 b0) a.defers u w:=by
 obtain ⟨vals,hds,hvals⟩:=hd
 rw [hds]
 refine leaves_cons hu (qN9 hdT.2) (CallsD.mono (hdT.1 m w b0 vals hvals rw) ?_)
 rintro e u' w' ⟨⟨c,rfl⟩,hs,m',rw',st'⟩
 have st2:=st.trans h0.2 st'
 obtain ⟨c',h1,e⟩:=qJi (env:=env) (a:=a) h0 L L2 ht hr hn hn0 hz hb hv hf (fr.mono st'.sub) rw' st2
 show Leaves X.P X.fn a.tmps _ [] (settle u') w'
 rw [hs]
 exact ⟨c',h1,e⟩
theorem qN1 {r : R} {xs : List AV} {v : AV} (L0 L L2 : List Blk) (hX : X.dfs = true) (hH : H = mkH L0) (hdT : DefT X.P f caps L0 .returning (L ++ L2)) (ht : X.thr r = none) (hr : resV X.C env (mkH (L ++ L2)) X.fn.results.toList = some xs) (hn : Nat.ble (L.length + L2.length) roots = true) (hn0 : Nat.ble X.n0 L.length = true)
 (hz:FzG L.length (mkH (L ++ L2)) [oneRes xs] [v]) (hb:BB L.length L) (hv:X.enc r = v) (hf:X.fin r = mkH L):OkD X f caps .fin env H (some r):=by
 intro r' e m0 w0 b0 m w a h0 fr hnt hd rw st
 cases e
 subst hH
 have:=qF0 (u := .returning) L0 L L2 (by intro e; cases e) hdT ht hr hn hn0 hz hb hv hf h0 fr hd rw st
 show Ret X r m0 w0 b0 .normal a w ∧ Ret X r m0 w0 b0 .ret a w
 unfold Ret
 rw [hX]
 exact ⟨this,this⟩
theorem qJp {α : Type} {mm : Option (Option α)} {ff : α → Option R} {tc : Option R} {fi : Nat} {args : List AV} {tv : Value} {D : List Nat} {xs : List AV} {v : AV} {rc : R} (g : α → AV) (G : α → Hp) (p' : Pt) (E : α → Env) (L0 L L2 : List Blk) (env2 : Env) (ks : List Nat) (nk : Nat) (hX : X.dfs = true) (htc : tc = some rc) (hc : callAt X.fn.ntmps p env = some (fi, args))
 (hf0:mm = some none → ∃ v,CallT X.P fi args H (some (tv,D)) v (mkH L0)) (hD:(D.all fun r=>Nat.ble nk r && Nat.ble X.n0 r) = true) (hk:keepOnly env ks = env2) (hbe:belowE nk env2 = true) (hbc:belows nk caps = true)
 (hdT:DefT X.P f caps L0 (.panicking [{ v:=tv,recovered:=false }]) (L ++ L2)) (ht:X.thr rc = none) (hr:resV X.C env2 (mkH (L ++ L2)) X.fn.results.toList = some xs) (hn:Nat.ble (L.length + L2.length) roots = true) (hn0:Nat.ble X.n0 L.length = true)
 (hz:FzG L.length (mkH (L ++ L2)) [oneRes xs] [v]) (hb:BB L.length L) (hv:X.enc rc = v) (hff:X.fin rc = mkH L)
 (hf:∀ x,mm = some (some x) → CallT X.P fi args H none (g x) (G x)) (ha:∀ x,advE X.fn.ntmps p env (g x) = some (p',E x)) (k:∀ x,mm = some (some x) → OkD X f caps p' (E x) (G x) (ff x)):OkD X f caps p env H (cT mm tc ff):=by
 unfold cT
 intro r hr' m0 w0 b0 m w a h0 fr hnt hd rw st
 cases hmm:mm with
 | none=>rw [hmm] at hr'; cases hr'
 | some x =>
  rw [hmm] at hr'
  cases x with
  | some y =>
   obtain ⟨o,c,q,first,cps,ho,hoc,hq,hfv,hargs⟩:=qC0 hc
   have hay:=ha y
   unfold advE at hay
   rw [ho] at hay
   simp only [Option.some.injEq,Prod.mk.injEq] at hay
   obtain ⟨e1,e2⟩:=hay
   obtain ⟨ops,n,K,rfl,h1,h2,h3⟩:=qAs ho
   have ky:=k y hmm
   rw [← e1,← e2] at ky
   exact qN0 h1 h2 h3 (.inr ⟨c,q,fi,first,cps,hoc,hq,hfv,hargs ▸ (hf y hmm).v⟩) ky r hr' m0 w0 b0 m w a h0 fr hnt hd rw st
  | none =>
   obtain ⟨v0,hcall⟩:=hf0 hmm
   have hr':tc = some r:=hr'
   rw [htc] at hr'
   cases hr'
   obtain ⟨o,c,q,first,cps,ho,hoc,hq,hfv,hargs⟩:=qC0 hc
   obtain ⟨ops,n,K,rfl,h1,h2,h3⟩:=qAs ho
   show wpOps X.P ops _ (List.range' n (ops.size - n)) a w
   have hlt:n < ops.size:=(Array.getElem?_eq_some_iff.1 h1).1
   rw [show ops.size - n = (ops.size - (n + 1)) + 1 by omega,List.range'_succ]
   simp only [wpOps,h1]
   rw [qB2 h3 fr]
   simp only [if_true]
   refine .inl ?_
   refine qDw (.inr ⟨c,q,fi,first,cps,v0,hoc,hq,hfv,hargs ▸ hcall⟩) fr rw _ _ fun w' th=>qBk ?_ K
   obtain ⟨qt,m1,d1,d2,d3,rw1⟩:=th
   have hDk:∀ r ∈ D,nk ≤ r ∧ X.n0 ≤ r:=by
    intro r hr
    have:=List.all_eq_true.1 hD r hr
    simpa using this
   have hkeep:∀ i v p,i < nk → m i v = some p → m1 i v = some p:=by
    intro i v p hi e
    rw [d1,if_neg (fun h=>by have:=(hDk i h).1; omega)]
    exact e
   have fr2:FR m1 env2 a.tmps:=by
    intro t ht
    obtain ⟨c,g1,g2⟩:=(fr.less (hk ▸ qBg ks env)) t ht
    refine ⟨c,g1,?_⟩
    have:=qFs (m:=m) (m0:=m1) (ρ:=id) (n:=nk) (fun i v p hi e=>hkeep i v p hi e) d2 _ c (qCr t hbe)
    exact this (by rw [qHn]; exact g2)
   have hd2:DfR m1 f caps a.defers:=by
    obtain ⟨vals,e1,e2⟩:=hd
    refine ⟨vals,e1,?_⟩
    exact qAx (m:=m) (m0:=m1) (ρ:=id) (n:=nk) (fun i v p hi e=>hkeep i v p hi e) d2 _ _ hbc (by rw [qCg]; exact e2)
   have st2:St m0 w0 b0 m1 w':=by
    have q2:=st.qt h0.2 qt
    refine ⟨⟨fun r v p hp=>?_,fun i p hp=>d2 i p (st.sub.2 i p hp)⟩,?_,?_,q2.size,q2.os,q2.tape,q2.output,q2.same⟩
    ·rw [d1,if_neg (fun h=>by have:=(hDk r h).2; have:=h0.1 r v p hp; omega)]
     exact st.sub.1 r v p hp
    ·intro r v B N e
     rw [d1] at e
     split at e
     ·cases e
     ·exact st.ext r v B N e
    ·intro i B cells e
     rcases d3 i B cells e with h | ⟨hB,⟨r,v,N,hm⟩ | hn⟩
     ·exact st.fext i B cells h
     ·rcases st.ext r v B N hm with ⟨v0,N0,e0⟩ | hn
      ·exact .inr ⟨hB,.inl ⟨r,v0,N0,e0⟩⟩
      ·exact .inr ⟨hB,.inr hn⟩
     ·exact .inr ⟨hB,.inr (Nat.le_trans st.size hn)⟩
   have:=qF0 (env:=env2) (u := .panicking [{ v:=tv,recovered:=false }]) L0 L L2 (by intro e; cases e) hdT ht hr hn hn0 hz hb hv hff h0 fr2 hd2 rw1 st2
   unfold Ret
   rw [hX]
   exact this
end
theorem defT_of (Y : Fx Unit) {f : Nat} {L L' : List Blk} {caps : List AV} {id : Nat} {ops : Array Oper} {rest : Code} {o1 o2 : Oper} {d1 d2 : Nat} {u u' : FrameMode} {xv : Value} {x : AV} (hf : Y.P.funcs[f]? = some Y.fn) (hn : (Y.fn.name == "runtime.NumGoroutine") = false) (hb : Y.fn.body = some (.seq (.region id ops false) rest)) (hops : ops = #[o1, o2])
 (g1:o1.op = .call ⟨.builtin .recover,#[],#[]⟩) (g2:o1.dst = some d1) (g3:o1.guard = none) (g4:o2.op = .assign (.tmp d1)) (g5:o2.dst = some d2) (g6:o2.guard = none) (hd1:d1 < Y.fn.ntmps) (hd2:d2 < Y.fn.ntmps) (hdfs:Y.dfs = false) (hthr:Y.thr () = none) (hfin:Y.fin () = mkH L') (hn0:Y.n0 = L.length)
 (hx:∀ m,VR m x xv) (hu:∀ (c₀:Frame) (cs:List Frame),c₀.mode = u → (recoverD (c₀ :: cs) = some (xv,{ c₀ with mode:=u' } :: cs)) ∨ (recoverD (c₀ :: cs) = none ∧ xv = .nilIface ∧ u' = u)) (hset:settle u' = .returning)
 (h:Ok Y (.code rest []) ((d2,x) :: (d1,x) :: args0 0 caps) (mkH L) (some ())):DefT Y.P f caps L u L':=by
 refine ⟨?_,Y.fn,hf,hn,by rw [hb]; rfl⟩
 intro m w base vals hvals rw
 refine callsD_of_wpS hf hb fun c₀ cs hc=>?_
 let a0:Act := { tmps:=vals ++ Array.replicate (Y.fn.ntmps - vals.size) undef,defers:=[] }
 have hmid:∀ a1:Act,a1 = (a0.put (some d1) xv).put (some d2) xv → rest.wp Y.P (Ret Y () m w base) a1 w:=by
  rintro a1 rfl
  have f1:FR m (args0 0 caps) a0.tmps:=qJc hvals
  have hsz:Y.fn.ntmps ≤ a0.tmps.size:=by simp [a0]; omega
  have f2:=f1.put d1 x xv (hx m) (.inl (Nat.lt_of_lt_of_le hd1 hsz))
  have f3:=f2.put d2 x xv (hx m) (.inl (by simp; exact Nat.lt_of_lt_of_le hd2 hsz))
  refine h () rfl m w base m w ((a0.put (some d1) xv).put (some d2) xv) ⟨fun r v p e=>?_,rw.base_le⟩ ?_ (by simp [Act.put]; exact hsz) rfl rw (St.refl _ _ _)
  ·obtain ⟨b,hb,_⟩:=rw.dom r v p.1 p.2 e
   rw [hn0]
   exact rw.lt hb
  ·refine f3.less ?_
   intro t
   right
   rw [qB5,qAo]
   by_cases e:d2 = t
   ·rw [if_pos e,if_pos e]
   ·rw [if_neg e,if_neg e,qB5,qAo]
 have hend:∀ (a1:Act),a1 = (a0.put (some d1) xv).put (some d2) xv → rest.wpS Y.P (bodyPostS Y.P Y.fn c₀ cs fun e u1 w'=>(∃ v,e = .returned v) ∧ settle u1 = .returning ∧ ∃ m',RW m' (mkH L') w' base ∧ St m w base m' w') a1 ({ c₀ with mode:=u' } :: cs) w:=by
  intro a1 ha1
  refine wpS_of_wp (wp_mono (hmid a1 ha1) fun e a' w' he=>?_)
  have key:a'.defers = [] → (∃ v,(results Y.fn a'.tmps).run Y.P w' = .ok v w' ∧ EndT (Y.thr ()) (Y.enc ()) (Y.fin ()) m w base (.returned v) w') → a'.defers = [] ∧ ∃ u1,({ c₀ with mode:=u' } :: cs) = { c₀ with mode:=u1 } :: cs ∧ ∃ v,(results Y.fn a'.tmps).run Y.P w' = .ok v w' ∧ ((∃ v',Ending.returned v = .returned v') ∧ settle u1 = .returning ∧ ∃ m',RW m' (mkH L') w' base ∧ St m w base m' w'):=by
   rintro hd ⟨v,h1,h2⟩
   rw [hthr,hfin] at h2
   obtain ⟨m',c,e1,e2,e3,_⟩:=h2
   exact ⟨hd,u',rfl,v,h1,⟨v,rfl⟩,hset,m',e2,e3⟩
  unfold Ret at he
  rw [hdfs] at he
  cases e with
  | normal=>exact key he.1 he.2
  | ret=>exact key he.1 he.2
  | panic ch =>
   have h2:=he.2
   rw [hthr] at h2
   obtain ⟨m',c,e1,_⟩:=h2
   cases e1
  | exit id=>exact he.elim
  | goto l=>exact he.elim
  | outgrown =>
   have h2:EndT (Y.thr ()) (Y.enc ()) (Y.fin ()) m w base .outgrown w':=he
   rw [hthr] at h2
   obtain ⟨m',c,e1,_⟩:=h2
   cases e1
 refine wpS_seq (wpS_region ?_)
 subst hops
 have hw1:Region.wanted o1 (yielded #[o1,o2] a0.tmps) = true:=by simp [Region.wanted,g3]
 have hr1:(execOp a0.eval o1).run Y.P w = .ok .recover w:=by simp [execOp,g1,resolve,invoke,builtin,Sem.run,Bind.bind,Sem.bind,Pure.pure,Sem.pure]
 have hev:∀ a:Act,a = a0.put (some d1) xv → (execOp a.eval o2).run Y.P w = .ok (.value xv) w:=by
  rintro a rfl
  have hlt:d1 < a0.tmps.size:=by simp [a0]; omega
  simp [execOp,g4,Act.eval,Act.put,Sem.run,Pure.pure,Sem.pure,hlt]
 have hw2:∀ a:Act,Region.wanted o2 (yielded #[o1,o2] a.tmps) = true:=by intro a; simp [Region.wanted,g6]
 show wpOpsS Y.P #[o1,o2] _ [0,1] a0 (c₀ :: cs) w
 have step2:∀ (a:Act) (cs':List Frame),a = a0.put (some d1) xv → cs' = { c₀ with mode:=u' } :: cs → wpOpsS Y.P #[o1,o2] (Exit.thenS (rest.wpS Y.P (bodyPostS Y.P Y.fn c₀ cs fun e u1 w'=>(∃ v,e = .returned v) ∧ settle u1 = .returning ∧ ∃ m',RW m' (mkH L') w' base ∧ St m w base m' w')) (bodyPostS Y.P Y.fn c₀ cs fun e u1 w'=>(∃ v,e = .returned v) ∧ settle u1 = .returning ∧ ∃ m',RW m' (mkH L') w' base ∧ St m w base m' w')) [1] a cs' w:=by
  intro a cs' ha hcs
  subst hcs
  simp only [wpOpsS]
  rw [show (#[o1,o2]:Array Oper)[1]? = some o2 from rfl]
  simp only [hw2 a,if_true,hev a ha,Oper.upon,g5]
  exact hend _ (by rw [ha])
 rcases hu c₀ cs hc with hrec | ⟨hrec,hxv,huu⟩
 ·have:=step2 _ _ rfl rfl
  unfold wpOpsS
  rw [show (#[o1,o2]:Array Oper)[0]? = some o1 from rfl]
  simp only [hw1,if_true,hr1,g2,hrec]
  exact this
 ·have hcs:({ c₀ with mode:=u' } :: cs:List Frame) = c₀ :: cs:=by rw [huu,← hc]
  have:=step2 (a0.put (some d1) .nilIface) (c₀ :: cs) (by rw [hxv]) hcs.symm
  unfold wpOpsS
  rw [show (#[o1,o2]:Array Oper)[0]? = some o1 from rfl]
  simp only [hw1,if_true,hr1,g2,hrec]
  exact this
noncomputable def recAt (fn:Func) (d1 d2:Nat):Bool :=
 match fn.body with
 | some (.seq (.region _ ops false) _)=>match ops.toList with
  | [o1, o2] => (match o1.op with | .call ⟨.builtin .recover, as1, ts1⟩ => as1.toList.isEmpty && ts1.toList.isEmpty | _ => false) && (match o1.dst with | some d => Nat.beq d d1 | none => false) && o1.guard.isNone &&
   (match o2.op with | .assign (.tmp e)=>Nat.beq e d1 | _=>false) && (match o2.dst with | some d=>Nat.beq d d2 | none=>false) && o2.guard.isNone && Nat.blt d1 fn.ntmps && Nat.blt d2 fn.ntmps
  | _=>false
 | _=>false
def restAt (fn:Func):Pt:=match fn.body with | some (.seq _ rest) => .code rest [] | _ => .fin
structure Cat (u:FrameMode) (x:AV):Prop where
 ex:∃ u' xv,(∀ m,VR m x xv) ∧ (∀ (c₀:Frame) (cs:List Frame),c₀.mode = u → (recoverD (c₀ :: cs) = some (xv,{ c₀ with mode:=u' } :: cs)) ∨ (recoverD (c₀ :: cs) = none ∧ xv = .nilIface ∧ u' = u)) ∧ settle u' = .returning
theorem qDs (Y : Fx Unit) (d1 d2 : Nat) {f : Nat} {L L' : List Blk} {caps : List AV} {u : FrameMode} {x : AV} (hcat : Cat u x) (hf : Y.P.funcs[f]? = some Y.fn) (hn : (Y.fn.name == "runtime.NumGoroutine") = false) (hb : recAt Y.fn d1 d2 = true) (hdfs : Y.dfs = false) (hthr : Y.thr () = none) (hfin : Y.fin () = mkH L') (hn0 : Y.n0 = L.length)
 (h:Ok Y (restAt Y.fn) ((d2,x) :: (d1,x) :: args0 0 caps) (mkH L) (some ())):DefT Y.P f caps L u L':=by
 obtain ⟨u',xv,hx,hu,hset⟩:=hcat.ex
 unfold recAt at hb
 split at hb
 ·rename_i id ops rest hbody
  split at hb
  ·rename_i o1 o2 hops
   simp only [Bool.and_eq_true] at hb
   obtain ⟨⟨⟨⟨⟨⟨⟨q1,q2⟩,q3⟩,q4⟩,q5⟩,q6⟩,q7⟩,q8⟩:=hb
   have hr:restAt Y.fn = .code rest []:=by simp [restAt,hbody]
   rw [hr] at h
   refine defT_of Y (d1:=d1) (d2:=d2) hf hn hbody (by rw [← hops]) ?_ ?_ (by simpa using q3) ?_ ?_ (by simpa using q6) (by simpa using q7) (by simpa using q8) hdfs hthr hfin hn0 hx hu hset h
   ·split at q1
    ·rename_i as1 ts1 e
     simp only [Bool.and_eq_true,List.isEmpty_iff,Array.toList_eq_nil_iff] at q1
     rw [e,q1.1,q1.2]
    ·cases q1
   ·split at q2
    ·rename_i d e; rw [e,Nat.eq_of_beq_eq_true q2]
    ·cases q2
   ·split at q4
    ·rename_i d e; rw [e,Nat.eq_of_beq_eq_true q4]
    ·cases q4
   ·split at q5
    ·rename_i d e; rw [e,Nat.eq_of_beq_eq_true q5]
    ·cases q5
  ·cases hb
 ·cases hb
theorem qJr:Cat .returning .nili :=
 ⟨.returning,.nilIface,fun m=>by simp [VR],fun c₀ cs hc => .inr ⟨by simp [recoverD,hc],rfl,rfl⟩,rfl⟩
theorem qEt {t:Nat}:Cat (.panicking [{ v := .iface t (.agg #[]),recovered:=false }]) (.iface t (.agg [])) :=
 ⟨.panicking [{ v := .iface t (.agg #[]),recovered:=true }],.iface t (.agg #[]),fun m=>by simp [VR,VRs],fun c₀ cs hc => .inl (by simp [recoverD,hc]),rfl⟩
noncomputable def lp {α:Type} (z:α) (f:α → α) (n:Nat):α:=Nat.rec (motive:=fun _=>α) z (fun _ ih=>f ih) n
abbrev AV.i (n:Int):AV := .int .i64 n
abbrev AV.y (n:Int):AV := .int .u8 n
def PTh {R:Type} (X:Fx (Option R)) (fi:Nat) (xs:List AV) (m:Option (Option R)):Prop := ∀ x,m = some (some x) → CallT X.P fi xs (X.fin none) (X.thr (some x)) (X.enc (some x)) (X.fin (some x))
def QTh {R:Type} (X:Fx (Option R)) (fi:Nat) (xs:List AV) (m:Option (Option R)):Prop:=m = some none → ∃ v,CallT X.P fi xs (X.fin none) (X.thr none) v (X.fin none)
def PNh {R:Type} (X:Fx R) (fi:Nat) (xs:List AV) (H:Hp) (m:Option R):Prop := ∀ x,m = some x → CallT X.P fi xs H none (X.enc x) (X.fin x)
def PQh {R:Type} (X:Fx (Option R)) (fi:Nat) (xs:List AV) (m:Option (Option R)):Prop:=PTh X fi xs m ∧ QTh X fi xs m
noncomputable def DP.th (D:DP) (i:Nat) (v:Value) (ds:List Nat) (H:Hp):DP:=⟨D.S,D.pl,i,v,ds,H⟩
section
variable {R:Type} {X:Fx R} {p:Pt} {env:Env} {H:Hp} {t:Option R}
theorem oLH (k:Nat) (p':Pt) (eE:Env) (H':Hp) (g:Ok X p' eE H' t) (h:(runV X.C X.fn.ntmps k p env H).map (fun x=>(x.1,keepOnly x.2.1 (eE.map Prod.fst),x.2.2)) = some (p',eE,H'):=by kernel_rfl):Ok X p env H t:=by
 cases hr:runV X.C X.fn.ntmps k p env H with
 | none=>rw [hr] at h; cases h
 | some x =>
  obtain ⟨q,e,G⟩:=x
  rw [hr] at h
  simp only [Option.map_some,Option.some.injEq,Prod.mk.injEq] at h
  obtain ⟨rfl,h2,rfl⟩:=h
  exact qEw k hr (qHt _ h2 g)
theorem oL (k:Nat) (p':Pt) (eE:Env) (g:Ok X p' eE H t) (h:(runV X.C X.fn.ntmps k p env H).map (fun x=>(x.1,keepOnly x.2.1 (eE.map Prod.fst),x.2.2)) = some (p',eE,H):=by kernel_rfl):Ok X p env H t:=oLH k p' eE H g h
theorem oR (k:Nat) (p':Pt) (eE:Env) (g:Ok X p' eE H t) (h:runV X.C X.fn.ntmps k p env H = some (p',eE,H):=by kernel_rfl):Ok X p env H t:=qEw k h g
theorem oH (k:Nat) (p':Pt) (eE:Env) (H':Hp) (g:Ok X p' eE H' t) (h:runV X.C X.fn.ntmps k p env H = some (p',eE,H'):=by kernel_rfl):Ok X p env H t:=qEw k h g
theorem oK0 (ks:List Nat) (k:Ok X p (keepOnly env ks) H t):Ok X p env H t:=qHt ks rfl k
theorem oK (ks:List Nat) (eE:Env) (k:Ok X p eE H t) (h:keepOnly env ks = eE:=by kernel_rfl):Ok X p env H t:=qHt ks h k
theorem oE (eE:Env) (k:Ok X p eE H t) (h:env = eE:=by kernel_rfl):Ok X p env H t:=qA h k
theorem oHp (H':Hp) (k:Ok X p env H' t) (h:H = H':=by kernel_rfl):Ok X p env H t:=ok_heap h k
theorem oS {t1 t2:Option R} (d:Nat) {b:Bool} (k1:b = true → Ok X p ((d,.bool true) :: env) H t1) (k2:b = false → Ok X p ((d,.bool false) :: env) H t2) (h:look env d = .bool b:=by kernel_rfl):Ok X p env H (if b then t1 else t2):=ok_split d h k1 k2
theorem oC {α:Type} {m:Option α} {f:α → Option R} (g:α → AV × Hp) (p':Pt) (d:Nat) (h:evalAt X.C X.fn.ntmps p env H = m.map g) (k:∀ x,m = some x → Ok X p' ((d,(g x).1) :: env) (g x).2 (f x)) (ha:∀ x,advE X.fn.ntmps p env (g x).1 = some (p',(d,(g x).1) :: env):=by exact fun _=>by kernel_rfl):Ok X p env H (m.bind f):=ok_chk g p' (fun x=>(d,(g x).1) :: env) h ha k
theorem oA {α:Type} {m:Option α} {f:α → Option R} {fi:Nat} (g:α → AV) (p':Pt) (d:Nat) (args:List AV) (hf:∀ x,m = some x → PureOk X.P fi args (g x)) (k:∀ x,m = some x → Ok X p' ((d,g x) :: env) H (f x)) (hc:(callAt X.fn.ntmps p env,purs args) = (some (fi,args),true):=by kernel_rfl) (hg:∀ x,(pur (g x),advE X.fn.ntmps p env (g x)) = (true,some (p',(d,g x) :: env)):=by exact fun _=>by kernel_rfl):Ok X p env H (m.bind f) :=
 qN g p' (fun x=>(d,g x) :: env) (congrArg Prod.fst hc) (congrArg Prod.snd hc) (fun x=>congrArg Prod.fst (hg x)) hf (fun x=>congrArg Prod.snd (hg x)) k
theorem oAp {α:Type} {m:Option α} {f:α → Option R} {fi:Nat} (g:α → AV) (p':Pt) (d:Nat) (args:List AV) (hp:∀ x,pur (g x) = true) (hf:∀ x,m = some x → PureOk X.P fi args (g x)) (k:∀ x,m = some x → Ok X p' ((d,g x) :: env) H (f x)) (hc:(callAt X.fn.ntmps p env,purs args) = (some (fi,args),true):=by kernel_rfl) (hg:∀ x,advE X.fn.ntmps p env (g x) = some (p',(d,g x) :: env):=by exact fun _=>by kernel_rfl):Ok X p env H (m.bind f) :=
 qN g p' (fun x=>(d,g x) :: env) (congrArg Prod.fst hc) (congrArg Prod.snd hc) hp hf hg k
theorem oP {r:R} (h:(X.n0,X.fin r,X.thr r,(resV X.C env H X.fn.results.toList).map fun xs=>(oneRes xs,purs [oneRes xs])) = (0,H0,none,some (X.enc r,true)):=by kernel_rfl):Ok X .fin env H (some r):=by
 simp only [Prod.mk.injEq] at h
 obtain ⟨h1,h2,h3,h4⟩:=h
 cases hr:resV X.C env H X.fn.results.toList with
 | none=>rw [hr] at h4; cases h4
 | some xs =>
  rw [hr] at h4
  simp only [Option.map_some,Option.some.injEq,Prod.mk.injEq] at h4
  exact ok_ret h1 h2 h3 hr (.pures h4.2) h4.1.symm
theorem oT {r:R} (xs:List AV) (v:AV) (hz:FzG 0 H [oneRes xs] [v]) (h:(X.n0,X.fin r,X.thr r,resV X.C env H X.fn.results.toList,X.enc r) = (0,H0,none,some xs,v):=by kernel_rfl):Ok X .fin env H (some r):=by
 simp only [Prod.mk.injEq] at h
 obtain ⟨h1,h2,h3,h4,h5⟩:=h
 exact ok_ret h1 h2 h3 h4 hz h5
theorem oQ {r:R} (k:Nat) (h:(runV X.C X.fn.ntmps k p env H).map (fun x=>(x.1,X.n0,X.fin r,X.thr r,(resV X.C x.2.1 x.2.2 X.fn.results.toList).map fun xs=>(oneRes xs,purs [oneRes xs]))) = some (.fin,0,H0,none,some (X.enc r,true)):=by kernel_rfl):Ok X p env H (some r):=by
 cases hr:runV X.C X.fn.ntmps k p env H with
 | none=>rw [hr] at h; cases h
 | some x =>
  obtain ⟨q,e,G⟩:=x
  rw [hr] at h
  simp only [Option.map_some,Option.some.injEq,Prod.mk.injEq] at h
  obtain ⟨rfl,h1,h2,h3,h4⟩:=h
  refine qEw k hr (oP ?_)
  rw [h1,h2,h3,h4]
end
theorem FzG.ps {n0:Nat} {H:Hp} {xs:List AV} (h:purs xs = true:=by kernel_rfl):FzG n0 H xs xs := .pures h
theorem FzG.cs {n0:Nat} {H:Hp} {x:AV} {xs ys:List AV} (k:FzG n0 H xs ys) (h:pur x = true:=by kernel_rfl):FzG n0 H (x :: xs) (x :: ys) := .cons h k
def pickB : List Nat → List Blk → List Blk
 | 0 :: ms,_ :: l=>pickB ms l
 | (_ + 1) :: ms,b :: l=>b :: pickB ms l
 | _,_=>[]
def PurA : List Blk → Prop
 | []=>True
 | b :: l=>purs b.cells = true ∧ PurA l
def mk0 : List Nat → Bool
 | 0 :: _=>false
 | (_ + 1) :: _=>true
 | []=>false
theorem PurA.head {ms:List Nat} {b:Blk} {l:List Blk} (h:PurA (pickB ms (b :: l))) (hm:mk0 ms = true):purs b.cells = true:=by
 cases ms with
 | nil=>cases hm
 | cons m ms=>cases m with | zero=>cases hm | succ m=>exact h.1
theorem PurA.tail {ms:List Nat} {b:Blk} {l:List Blk} (h:PurA (pickB ms (b :: l))):PurA (pickB ms.tail l):=by
 cases ms with
 | nil=>cases l <;> (simp only [List.tail_nil,pickB]; exact trivial)
 | cons m ms=>cases m with | zero=>exact h | succ m=>exact h.2
noncomputable def rbA (rs : List Nat) (n : Nat) : List Nat → List Blk → List (Bool × Option Blk)
 | _,[]=>[]
 | ms,b :: L=>(bif mk0 ms then (!b.ro,some b) else (!b.ro && belows n b.cells,some ⟨renVs (at0 rs) b.cells,b.minv,false⟩)) :: rbA rs n ms.tail L
noncomputable def rbC (rs : List Nat) (M : List Blk) : Nat → List Blk → List (Bool × Option Blk)
 | _,[]=>[]
 | i,_ :: L=>(true,nth M (at0 rs i)) :: rbC rs M (i + 1) L
theorem qDy {rs : List Nat} {n : Nat} {M : List Blk} : ∀ {L : List Blk} {ms : List Nat} {i : Nat}, rbA rs n ms L = rbC rs M i L → PurA (pickB ms L) → RBs rs n M i L
 | [],_,_,_,_=>trivial
 | b :: L,ms,i,h,hp=>by
  simp only [rbA,rbC,List.cons.injEq] at h
  obtain ⟨h1,h2⟩:=h
  refine ⟨?_,qDy h2 hp.tail⟩
  cases hm:mk0 ms with
  | true =>
   rw [hm] at h1
   simp only [cond_true,Prod.mk.injEq] at h1
   rw [← h1.2]
   have hro:b.ro = false:=by have:=h1.1; revert this; cases b.ro <;> simp
   exact ⟨hro,.inl ⟨rfl,hp.head hm⟩⟩
  | false =>
   rw [hm] at h1
   simp only [cond_false,Prod.mk.injEq,Bool.and_eq_true] at h1
   rw [← h1.2]
   have hro:b.ro = false:=by have:=h1.1.1; revert this; cases b.ro <;> simp
   exact ⟨hro,.inr ⟨h1.1.2,rfl⟩⟩
def offs (rs : List Nat) : Nat → List Blk → List Blk
 | _,[]=>[]
 | i,b :: M=>bif rs.any (fun r=>Nat.beq r i) then offs rs (i + 1) M else b :: offs rs (i + 1) M
theorem qFq {rs : List Nat} : ∀ {M M' : List Blk} {i : Nat}, Nat.ble M.length M'.length = true → offs rs i M = offs rs i (M'.take M.length) → SameB rs i M M'
 | [],_,_,_,_=>trivial
 | b :: M,[],_,h,_=>by cases h
 | b :: M,c :: M',i,h,e=>by
  have h':Nat.ble M.length M'.length = true:=h
  cases hr:rs.any (fun r=>Nat.beq r i) with
  | true =>
   simp only [offs,List.length_cons,List.take_succ_cons,hr,cond_true] at e
   exact ⟨.inr hr,qFq h' e⟩
  | false =>
   simp only [offs,List.length_cons,List.take_succ_cons,hr,cond_false,List.cons.injEq] at e
   exact ⟨.inl e.1.symm,qFq h' e.2⟩
noncomputable def thB (rs D0 D : List Nat) : List Nat → Nat → List Blk → Bool
 | _,_,[]=>true
 | ms,r,b :: M=>((D.any fun s=>Nat.beq s r) || ((mk0 ms || purs b.cells) && (D0.all fun i => !Nat.beq (at0 rs i) r))) && thB rs D0 D ms.tail (r + 1) M
theorem qL4 {rs D0 D : List Nat} : ∀ {M : List Blk} {ms : List Nat} {r : Nat}, thB rs D0 D ms r M = true → PurA (pickB ms M) → dOk rs D0 D r M
 | [],_,_,_,_=>trivial
 | b :: M,ms,r,h,hp=>by
  simp only [thB,Bool.and_eq_true,Bool.or_eq_true] at h
  refine ⟨?_,qL4 h.2 hp.tail⟩
  rcases h.1 with h1 | ⟨h1 | h1,h2⟩
  ·exact .inl h1
  ·exact .inr ⟨hp.head h1,h2⟩
  ·exact .inr ⟨h1,h2⟩
def kpB (DX D : List Nat) : Nat → List Blk → List Blk → Bool
 | _,[],_=>true
 | _,_ :: _,[]=>false
 | r,_ :: LX,_ :: L=>((DX.any fun s=>Nat.beq s r) || (D.all fun s => !Nat.beq s r)) && kpB DX D (r + 1) LX L
theorem qG4 {rs D0 DX D : List Nat} : ∀ {LX M : List Blk} {r : Nat}, kpB DX D r LX M = true → offs DX r LX = offs DX r (M.take LX.length) → dOk rs D0 D r M → keepOk DX D r LX M
 | [],_,_,_,_,_=>trivial
 | _ :: _,[],_,h,_,_=>by cases h
 | b :: LX,c :: M,r,h,e,hd=>by
  simp only [kpB,Bool.and_eq_true,Bool.or_eq_true] at h
  cases hr:DX.any (fun s=>Nat.beq s r) with
  | true =>
   simp only [offs,List.length_cons,List.take_succ_cons,hr,cond_true] at e
   exact ⟨.inl hr,qG4 h.2 e hd.2⟩
  | false =>
   simp only [offs,List.length_cons,List.take_succ_cons,hr,cond_false,List.cons.injEq] at e
   refine ⟨.inr ?_,qG4 h.2 e.2 hd.2⟩
   have hD:(D.all fun s => !Nat.beq s r) = true:=by
    rcases h.1 with h1 | h1
    ·rw [hr] at h1; cases h1
    ·exact h1
   refine ⟨hD,e.1.symm,?_⟩
   rcases hd.1 with h2 | h2
   ·obtain ⟨s,hs,he⟩:=List.any_eq_true.1 h2
    have:=List.all_eq_true.1 hD s hs
    rw [he] at this
    cases this
   ·rw [e.1]; exact h2.1
noncomputable def frB1 (L L' M M':List Blk) (rs:List Nat) (ys:List AV) (v:AV):Bool:=frOk L.length L'.length M.length M'.length rs && belows L.length ys && below L'.length v && Nat.ble M.length M'.length
theorem frC {P : Program} {g : Nat} {ys xs : List AV} {L L' M M' : List Blk} {v v' : AV} {rs ms ms' : List Nat} (h : CallT P g ys (mkH L) none v (mkH L')) (hp : PurA (pickB ms L)) (hp' : PurA (pickB ms' L'))
 (he:(frB1 L L' M M' rs ys v,renVs (at0 rs) ys,renV (at0 rs) v,rbA rs L.length ms L,rbA rs L'.length ms' L',offs rs 0 M) = (true,xs,v',rbC rs M 0 L,rbC rs M' 0 L',offs rs 0 (M'.take M.length))):CallT P g xs (mkH M) none v' (mkH M'):=by
 simp only [Prod.mk.injEq,frB1,Bool.and_eq_true] at he
 obtain ⟨⟨⟨⟨c1,c2⟩,c3⟩,c4⟩,rfl,rfl,e3,e4,e5⟩:=he
 exact frame h rs M M' c1 c2 (qDy e3 hp) (qDy e4 hp') c3 (qFq c4 e5)
noncomputable def mvA : List Nat → List Blk → List Blk → List (List AV × Bool × Nat × Bool)
 | ms,b :: M1,c :: M=>(b.cells,b.ro,(bif mk0 ms then b.minv else 0),mk0 ms || Nat.ble b.minv c.minv) :: mvA ms.tail M1 M
 | _,[],[]=>[]
 | _,_,_=>[([],true,0,false)]
def mvC : List Nat → List Blk → List (List AV × Bool × Nat × Bool)
 | ms,c :: M=>(c.cells,c.ro,(bif mk0 ms then c.minv else 0),true) :: mvC ms.tail M
 | _,[]=>[]
theorem mv_of : ∀ {M1 M : List Blk} {ms : List Nat}, mvA ms M1 M = mvC ms M → MinvLe M1 M
 | [],[],_,_=>trivial
 | [],_ :: _,_,h=>by simp [mvA,mvC] at h
 | _ :: _,[],_,h=>by simp [mvA,mvC] at h
 | b :: M1,c :: M,ms,h=>by
  simp only [mvA,mvC,List.cons.injEq,Prod.mk.injEq] at h
  obtain ⟨⟨h1,h2,h3,h4⟩,h5⟩:=h
  refine ⟨⟨h1.symm,h2.symm,?_⟩,mv_of h5⟩
  cases hm:mk0 ms with
  | true=>rw [hm] at h3; simp only [cond_true] at h3; rw [h3]; exact Nat.le_refl _
  | false=>rw [hm] at h4; simp only [Bool.false_or] at h4; exact Nat.le_of_ble_eq_true h4
theorem frW {P : Program} {g : Nat} {ys xs xs' : List AV} {L L' M0 M' : List Blk} {v v' : AV} {rs ms ms' mv : List Nat} (gh : Nat) (M : List Blk) (hw : Wk xs xs') (h : CallT P g ys (mkH L) none v (mkH L')) (hp : PurA (pickB ms L)) (hp' : PurA (pickB ms' L'))
 (he:(frB1 L L' M M' rs ys v,renVs (at0 rs) ys,renV (at0 rs) v,rbA rs L.length ms L,rbA rs L'.length ms' L',offs rs 0 M,mvA mv (M0 ++ List.replicate gh ⟨[],0,false⟩) M) = (true,xs',v',rbC rs M 0 L,rbC rs M' 0 L',offs rs 0 (M'.take M.length),mvC mv M)):CallT P g xs (mkH M0) none v' (mkH M'):=by
 simp only [Prod.mk.injEq,frB1,Bool.and_eq_true] at he
 obtain ⟨⟨⟨⟨c1,c2⟩,c3⟩,c4⟩,e1,e2,e3,e4,e5,e6⟩:=he
 exact frameC h rs gh M0 _ M M' xs xs' rfl rfl (mv_of e6) hw e1 e2 rfl c1 c2 (qDy e3 hp) (qDy e4 hp') c3 (qFq c4 e5)
theorem frS {P : Program} {g : Nat} {ys xs xs' : List AV} {L M0 M : List Blk} {t : Value} {D0 rs ms mv mm D : List Nat} (gh : Nat) (hw : Wk xs xs') (h : ∃ v, CallT P g ys (mkH L) (some (t, D0)) v (mkH L)) (hp : PurA (pickB ms L)) (hm : PurA (pickB mm M))
 (he:(frOk L.length L.length M.length M.length rs,belows L.length ys,thB rs D0 D mm 0 M,renVs (at0 rs) ys,rbA rs L.length ms L,mvA mv (M0 ++ List.replicate gh ⟨[],0,false⟩) M) = (true,true,true,xs',rbC rs M 0 L,mvC mv M)):∃ v,CallT P g xs (mkH M0) (some (t,D)) v (mkH M):=by
 simp only [Prod.mk.injEq] at he
 obtain ⟨c1,c2,c3,e1,e2,e3⟩:=he
 exact frameT h rs D gh M0 _ M xs xs' rfl rfl (mv_of e3) hw e1 c1 c2 (qDy e2 hp) (qL4 c3 hm)
theorem oN {R : Type} {X : Fx R} {p : Pt} {env : Env} {α : Type} {m : Option α} {f : α → Option R} {fi : Nat} {ys : List AV} {L M : List Blk} {v : α → AV} {L' : α → List Blk} (g : α → AV) (M' : α → List Blk) (p' : Pt) (d : Nat) (rs ms ms' : List Nat) (args : List AV)
 (h:∀ x,m = some x → CallT X.P fi ys (mkH L) none (v x) (mkH (L' x))) (hp:PurA (pickB ms L)) (hp':∀ x,PurA (pickB ms' (L' x))) (k:∀ x,m = some x → Ok X p' ((d,g x) :: env) (mkH (M' x)) (f x))
 (hc:callAt X.fn.ntmps p env = some (fi,args):=by kernel_rfl)
 (he:∀ x,(frB1 L (L' x) M (M' x) rs ys (v x),renVs (at0 rs) ys,renV (at0 rs) (v x),rbA rs L.length ms L,rbA rs (L' x).length ms' (L' x),offs rs 0 M) = (true,args,g x,rbC rs M 0 L,rbC rs (M' x) 0 (L' x),offs rs 0 ((M' x).take M.length)):=by exact fun _=>by kernel_rfl)
 (ha:∀ x,advE X.fn.ntmps p env (g x) = some (p',(d,g x) :: env):=by exact fun _=>by kernel_rfl):Ok X p env (mkH M) (m.bind f) :=
 qG1 g (fun x=>mkH (M' x)) p' (fun x=>(d,g x) :: env) hc (fun x hx=>frC (h x hx) hp (hp' x) (he x)) ha k
theorem oX {R : Type} {X : Fx (Option R)} {p : Pt} {env : Env} {α : Type} {m : Option (Option α)} {f : α → Option (Option R)} {fi : Nat} {ys : List AV} {tv : Value} {D0 DX : List Nat} {LX L M : List Blk} {v : α → AV} {L' : α → List Blk} (g : α → AV) (M' : α → List Blk) (p' : Pt) (d : Nat) (rs ms ms' D mm : List Nat) (args : List AV)
 (hh:(∀ x,m = some (some x) → CallT X.P fi ys (mkH L) none (v x) (mkH (L' x))) ∧ (m = some none → ∃ v,CallT X.P fi ys (mkH L) (some (tv,D0)) v (mkH L))) (hp:PurA (pickB ms L)) (hp':∀ x,PurA (pickB ms' (L' x))) (hm:PurA (pickB mm M)) (k:∀ x,m = some (some x) → Ok X p' ((d,g x) :: env) (mkH (M' x)) (f x))
 (hX:X.thr none = some (tv,DX):=by rfl) (hF:X.fin none = mkH LX:=by rfl) (hn:X.n0 = LX.length:=by rfl)
 (hc:(callAt X.fn.ntmps p env,Nat.ble LX.length roots,Nat.ble M.length roots,thB (rs.take L.length) D0 D mm 0 M,kpB DX D 0 LX M,frOk L.length L.length M.length M.length (rs.take L.length),belows L.length ys,renVs (at0 (rs.take L.length)) ys,rbA (rs.take L.length) L.length ms L,offs DX 0 LX) = (some (fi,args),true,true,true,true,true,true,args,rbC (rs.take L.length) M 0 L,offs DX 0 (M.take LX.length)):=by kernel_rfl)
 (he:∀ x,(frB1 L (L' x) M (M' x) rs ys (v x),renVs (at0 rs) ys,renV (at0 rs) (v x),rbA rs L.length ms L,rbA rs (L' x).length ms' (L' x),offs rs 0 M) = (true,args,g x,rbC rs M 0 L,rbC rs (M' x) 0 (L' x),offs rs 0 ((M' x).take M.length)):=by exact fun _=>by kernel_rfl)
 (ha:∀ x,advE X.fn.ntmps p env (g x) = some (p',(d,g x) :: env):=by exact fun _=>by kernel_rfl):Ok X p env (mkH M) (bT m f):=by
 obtain ⟨h,h0⟩:=hh
 simp only [Prod.mk.injEq] at hc
 obtain ⟨c1,c2,c3,c4,c5,c6,c7,c8,c9,c10⟩:=hc
 have hd:dOk (rs.take L.length) D0 D 0 M:=qL4 c4 hm
 refine qJo (tv:=tv) (D:=D) (LX:=LX) (L:=M) g (fun x=>mkH (M' x)) p' (fun x=>(d,g x) :: env) hX hF hn (by simp [c2,c3]) (qG4 c5 c10 hd) c1 (fun h1=>?_) (fun x hx=>frC (h x hx) hp (hp' x) (he x)) ha k
 obtain ⟨v,hv⟩:=h0 h1
 exact c8 ▸ ⟨.top,frameTh hv (rs.take L.length) M D c6 c7 (qDy c9 hp) hd .top⟩
theorem oXW {R : Type} {X : Fx (Option R)} {p : Pt} {env : Env} {α : Type} {m : Option (Option α)} {f : α → Option (Option R)} {fi : Nat} {ys : List AV} {tv : Value} {D0 DX : List Nat} {LX L M0 : List Blk} {v : α → AV} {L' : α → List Blk} (gh : Nat) (M : List Blk) (g : α → AV) (M' : α → List Blk) (p' : Pt) (d : Nat) (rs ms ms' D mm mv : List Nat) (args args' : List AV) (hw : Wk args args')
 (hh:(∀ x,m = some (some x) → CallT X.P fi ys (mkH L) none (v x) (mkH (L' x))) ∧ (m = some none → ∃ v,CallT X.P fi ys (mkH L) (some (tv,D0)) v (mkH L))) (hp:PurA (pickB ms L)) (hp':∀ x,PurA (pickB ms' (L' x))) (hm:PurA (pickB mm M)) (k:∀ x,m = some (some x) → Ok X p' ((d,g x) :: env) (mkH (M' x)) (f x))
 (hX:X.thr none = some (tv,DX):=by rfl) (hF:X.fin none = mkH LX:=by rfl) (hn:X.n0 = LX.length:=by rfl)
 (hc:(callAt X.fn.ntmps p env,Nat.ble LX.length roots,Nat.ble M.length roots,thB (rs.take L.length) D0 D mm 0 M,kpB DX D 0 LX M,offs DX 0 LX) = (some (fi,args),true,true,true,true,offs DX 0 (M.take LX.length)):=by kernel_rfl)
 (hs:(frOk L.length L.length M.length M.length (rs.take L.length),belows L.length ys,renVs (at0 (rs.take L.length)) ys,rbA (rs.take L.length) L.length ms L,mvA mv (M0 ++ List.replicate gh ⟨[],0,false⟩) M) = (true,true,args',rbC (rs.take L.length) M 0 L,mvC mv M):=by kernel_rfl)
 (he:∀ x,(frB1 L (L' x) M (M' x) rs ys (v x),renVs (at0 rs) ys,renV (at0 rs) (v x),rbA rs L.length ms L,rbA rs (L' x).length ms' (L' x),offs rs 0 M,mvA mv (M0 ++ List.replicate gh ⟨[],0,false⟩) M) = (true,args',g x,rbC rs M 0 L,rbC rs (M' x) 0 (L' x),offs rs 0 ((M' x).take M.length),mvC mv M):=by exact fun _=>by kernel_rfl)
 (ha:∀ x,advE X.fn.ntmps p env (g x) = some (p',(d,g x) :: env):=by exact fun _=>by kernel_rfl):Ok X p env (mkH M0) (bT m f):=by
 obtain ⟨h,h0⟩:=hh
 simp only [Prod.mk.injEq] at hc hs
 obtain ⟨c1,c2,c3,c4,c5,c6⟩:=hc
 obtain ⟨s1,s2,s3,s4,s5⟩:=hs
 have hd:dOk (rs.take L.length) D0 D 0 M:=qL4 c4 hm
 refine qJo (tv:=tv) (D:=D) (LX:=LX) (L:=M) g (fun x=>mkH (M' x)) p' (fun x=>(d,g x) :: env) hX hF hn (by simp [c2,c3]) (qG4 c5 c6 hd) c1 (fun h1=>?_) (fun x hx=>frW gh M hw (h x hx) hp (hp' x) (he x)) ha k
 exact frS gh hw (h0 h1) hp hm (by rw [s1,s2,c4,s3,s4,s5])
section
variable {R:Type} {X:Fx R} {p:Pt} {env:Env} {H:Hp} {t:Option R}
def bbB (n : Nat) : List Nat → List Blk → Bool
 | _,[]=>true
 | ms,b :: L=>(mk0 ms || belows n b.cells) && bbB n ms.tail L
theorem bb_of {n : Nat} : ∀ {L : List Blk} {ms : List Nat}, bbB n ms L = true → PurA (pickB ms L) → BB n L
 | [],_,_,_=>trivial
 | b :: L,ms,h,hp=>by
  simp only [bbB,Bool.and_eq_true,Bool.or_eq_true] at h
  refine ⟨?_,bb_of h.2 hp.tail⟩
  rcases h.1 with h1 | h1
  ·exact qA3 _ (hp.head h1)
  ·exact h1
theorem oF {r : R} {M : List Blk} (n : Nat) (ms : List Nat) (xs : List AV) (v : AV) (hz : FzG n (mkH M) [oneRes xs] [v]) (hp : PurA (pickB ms (M.take n)))
 (h:(X.thr r,resV X.C env (mkH M) X.fn.results.toList,Nat.ble M.length roots,Nat.ble X.n0 n,Nat.beq (M.take n).length n,bbB n ms (M.take n),X.enc r,X.fin r) = (none,some xs,true,true,true,true,v,mkH (M.take n)):=by kernel_rfl):Ok X .fin env (mkH M) (some r):=by
 simp only [Prod.mk.injEq] at h
 obtain ⟨h1,h2,h3,h4,h5,h6,h7,h8⟩:=h
 have h5:(M.take n).length = n:=Nat.eq_of_beq_eq_true h5
 have key:Ok X .fin env (mkH (M.take n ++ M.drop n)) (some r):=by
  refine ok_retF (M.take n) (M.drop n) h1 (v:=v) ?_ ?_ ?_ ?_ ?_ h7 h8 (xs:=xs)
  ·rw [List.take_append_drop]; exact h2
  ·rw [← List.length_append,List.take_append_drop]; exact h3
  ·rw [h5]; exact h4
  ·rw [h5,List.take_append_drop]; exact hz
  ·rw [h5]; exact bb_of h6 hp
 rwa [List.take_append_drop] at key
theorem oQF {r : R} (k : Nat) (M : List Blk) (n : Nat) (ms : List Nat) (xs : List AV) (v : AV) (hz : FzG n (mkH M) [oneRes xs] [v]) (hp : PurA (pickB ms (M.take n)))
 (h0:(runV X.C X.fn.ntmps k p env H).map (fun x=>(x.1,resV X.C x.2.1 x.2.2 X.fn.results.toList,x.2.2)) = some (.fin,some xs,mkH M):=by kernel_rfl)
 (h:(X.thr r,Nat.ble M.length roots,Nat.ble X.n0 n,Nat.beq (M.take n).length n,bbB n ms (M.take n),X.enc r,X.fin r) = (none,true,true,true,true,v,mkH (M.take n)):=by kernel_rfl):Ok X p env H (some r):=by
 cases hr:runV X.C X.fn.ntmps k p env H with
 | none=>rw [hr] at h0; cases h0
 | some x =>
  obtain ⟨q,e,G⟩:=x
  rw [hr] at h0
  simp only [Option.map_some,Option.some.injEq,Prod.mk.injEq] at h0
  obtain ⟨rfl,h1,rfl⟩:=h0
  simp only [Prod.mk.injEq] at h
  obtain ⟨h2,h3,h4,h5,h6,h7,h8⟩:=h
  refine qEw k hr (oF n ms xs v hz hp ?_)
  rw [h1,h2,h3,h4,h5,h6,h7,h8]
def nbB (r0 : Nat) : List Nat → Nat → List Blk → Bool
 | _,_,[]=>true
 | ms,i,b :: l=>(Nat.beq i r0 || mk0 ms || nrefs r0 b.cells) && nbB r0 ms.tail (i + 1) l
theorem nb_of {r0 : Nat} : ∀ {l : List Blk} {ms : List Nat} {i : Nat}, nbB r0 ms i l = true → PurA (pickB ms l) → NB r0 i l
 | [],_,_,_,_=>trivial
 | b :: l,ms,i,h,hp=>by
  simp only [nbB,Bool.and_eq_true,Bool.or_eq_true] at h
  refine ⟨?_,nb_of h.2 hp.tail⟩
  rcases h.1 with (h1 | h1) | h1
  ·exact .inl (Nat.eq_of_beq_eq_true h1)
  ·exact .inr (qBi _ (hp.head h1))
  ·exact .inr h1
theorem oZ {M : List Blk} (d r0 n sz : Nat) (cells : List AV) (ks ms : List Nat) (hp : PurA (pickB ms M)) (k : Ok X p ((d, .vec n sz cells) :: keepOnly env ks) (mkH (M.set r0 ⟨[], 0, false⟩)) t)
 (h:(Nat.ble X.n0 r0,Nat.ble M.length roots,look env d,(nth M r0).map (fun b=>(b.cells,b.ro,Nat.ble b.minv (n * sz))),Nat.beq cells.length (n * sz),purs cells,nrefE r0 (keepOnly env ks),nbB r0 ms 0 M) = (true,true,.slice r0 (n * sz) 0 n sz,some (cells,false,true),true,true,true,true):=by kernel_rfl):Ok X p env (mkH M) t:=by
 simp only [Prod.mk.injEq] at h
 obtain ⟨h1,h2,h3,h4,h5,h6,h7,h8⟩:=h
 rw [qC8] at h4
 cases hb:M[r0]? with
 | none=>rw [hb] at h4; cases h4
 | some b =>
  obtain ⟨bc,bm,br⟩:=b
  rw [hb] at h4
  simp only [Option.map_some,Option.some.injEq,Prod.mk.injEq] at h4
  obtain ⟨rfl,rfl,h9⟩:=h4
  exact ok_frz M d r0 n sz bm bc ks h1 h2 (.inl h3) hb (Nat.eq_of_beq_eq_true h5) (Nat.le_of_ble_eq_true h9) h6 rfl h7 (nb_of h8 hp) k
theorem oD {H' : Hp} (p' : Pt) (eE : Env) (hs : List Hp) (D : DP) (hD : OpsD X.P X.C D (opsAt p).toList (opsAt p).toList env H eE hs) (k : Ok X p' eE H' t) (h : (drawAt p, Nat.ble (opsAt p).size D.tI, planOk D.S (opsAt p) D.pl, (opsAt p).toList.all (dstOk X.fn.ntmps), lastH H hs) = (some p', true, true, true, H') := by kernel_rfl)
 (hsome:(rdL X.C D (opsAt p).toList eE (H :: hs) 0 (opsAt p).toList D.pl).all (fun q=>q.1.isSome) = true:=by kernel_rfl) (hq:(rdL X.C D (opsAt p).toList eE (H :: hs) 0 (opsAt p).toList D.pl).map (·.1) = (rdL X.C D (opsAt p).toList eE (H :: hs) 0 (opsAt p).toList D.pl).map (·.2):=by kernel_rfl):Ok X p env H t:=by
 simp only [Prod.mk.injEq] at h
 obtain ⟨h1,h2,h3,h4,h5⟩:=h
 exact ok_draw D h1 h2 h3 h4 hD hsome hq h5 k
end
theorem oDe {P:Program} {C:Cx} {D:DP} {all l:List Oper} {e:Env} {H:Hp} {hs:List Hp} (f:Bool → Env) {b v:Bool} (h:b = v) (g:OpsD P C D all l (f v) H e hs):OpsD P C D all l (f b) H e hs:=h ▸ g
theorem oDr {P:Program} {C:Cx} {D:DP} {all l:List Oper} {e env:Env} {H:Hp} {hs2:List Hp} (k n:Nat) (eE:Env) (g:OpsD P C D all (all.drop n) eE H e hs2) (h:runD C D all k l env H = some (all.drop n,eE,H,[]):=by kernel_rfl):OpsD P C D all l env H e hs2:=qA8 k (hs:=[]) h g
theorem oDh {P:Program} {C:Cx} {D:DP} {all l:List Oper} {e env:Env} {H:Hp} {hs2:List Hp} (k n:Nat) (eE:Env) (H':Hp) (hs:List Hp) (g:OpsD P C D all (all.drop n) eE H' e hs2) (h:runD C D all k l env H = some (all.drop n,eE,H',hs):=by kernel_rfl):OpsD P C D all l env H e (hs ++ hs2):=qA8 k h g
structure S7 where
 f0:Int
 f1:Int
 f2:Bool
 f3:Int
structure S28 where
 f0:Int
 f1:(List Nat)
 f2:Raw
 f3:Bool
 f4:Bool
 f5:(List (List Nat))
 f6:(List (List Nat))
structure S33 where
 f0:Int
 f1:(List Nat)
 f2:Int
abbrev q29 (x:Raw):AV := .vec x.n 7 x.cells
def e2 (x:Int):List AV:=[.int .i64 x]
def v2 (x:Int):AV := .int .i64 x
def p2:List AV → Option (Int × List AV):=pI .i64
def e3 (x:Int):List AV:=[.int .i64 x]
def v3 (x:Int):AV := .int .i64 x
theorem qFj:∀ x,(e3 x).length = 1:=fun _=>rfl
abbrev w3 (x:List Int):AV := .vec x.length 1 (x.flatMap e3)
def p3:List AV → Option (Int × List AV):=pI .i64
theorem p3_ok (cs:List AV) (x:Int) (r:List AV) (h:p3 cs = some (x,r)):cs = e3 x ++ r:=pI_ok h
def e4 (x:Bool):List AV:=[.bool x]
def p4:List AV → Option (Bool × List AV):=pB
theorem p4_ok (cs:List AV) (x:Bool) (r:List AV) (h:p4 cs = some (x,r)):cs = e4 x ++ r:=pB_ok h
def e5 (x:Int):List AV:=[.int .u8 x]
def p5:List AV → Option (Int × List AV):=pI .u8
def e6 (x:Int):List AV:=[.int .u8 x]
def e7 (x:S7):List AV:=[.int .i64 x.f0,.int .i64 x.f1,.bool x.f2,.int .u8 x.f3]
def e8 (x:S7):List AV:=[.int .i64 x.f0,.int .i64 x.f1,.bool x.f2,.int .u8 x.f3]
theorem e8_pur:∀ x,purs (e8 x) = true:=fun _=>rfl
theorem u8 (l:List S7):purs (l.flatMap e8) = true:=qBa e8_pur l
def e9 (x:(List Nat)):List AV:=[.str x]
theorem qBp:∀ x,(e9 x).length = 1:=fun _=>rfl
theorem e9_pur:∀ x,purs (e9 x) = true:=fun _=>rfl
theorem e9_one:∀ x,(e9 x).all one1 = true:=fun _=>rfl
abbrev w9 (x:List (List Nat)):AV := .vec x.length 1 (x.flatMap e9)
def p9:List AV → Option ((List Nat) × List AV):=pS
theorem p9_ok (cs:List AV) (x:(List Nat)) (r:List AV) (h:p9 cs = some (x,r)):cs = e9 x ++ r:=pS_ok h
def e22 (x:(List (List Nat))):List AV:=[w9 x]
def v22 (x:(List (List Nat))):AV:=w9 x
def p22:List AV → Option ((List (List Nat)) × List AV):=pV p9 1
theorem p22_ok (cs:List AV) (x:(List (List Nat))) (r:List AV) (h:p22 cs = some (x,r)):cs = e22 x ++ r:=pV_ok p9_ok h
def e34 (x:S33):List AV:=[.int .i64 x.f0,.str x.f1,.int .i64 x.f2]
theorem qB:∀ x,(e34 x).length = 3:=fun _=>rfl
theorem qP8:∀ x,purs (e34 x) = true:=fun _=>rfl
theorem u34 (l:List S33):purs (l.flatMap e34) = true:=qBa qP8 l
theorem e34_one:∀ x,(e34 x).all one1 = true:=fun _=>rfl
abbrev w34 (x:List S33):AV := .vec x.length 3 (x.flatMap e34)
def e29 (x:S28):List AV:=[.int .i64 x.f0,.str x.f1,q29 x.f2,.bool x.f3,.bool x.f4,w9 x.f5,w9 x.f6]
theorem qA6:∀ x,(e29 x).length = 7:=fun _=>rfl
theorem qAe:∀ x,purs (e29 x) = true:=fun _=>rfl
theorem u29 (l:List S28):purs (l.flatMap e29) = true:=qBa qAe l
theorem qAu:∀ x,(e29 x).all one1 = true:=fun _=>rfl
abbrev w29 (x:List S28):AV := .vec x.length 7 (x.flatMap e29)
def p29 (cs:List AV):Option (S28 × List AV):=(match p3 cs with | none=>none | some (x0,r0)=>(match p9 r0 with | none=>none | some (x1,r1)=>(match r1 with | .vec n2 s2 c2 :: r2=>(if s2 = 7 then (match p4 r2 with | none=>none | some (x3,r3)=>(match p4 r3 with | none=>none | some (x4,r4)=>(match p22 r4 with | none=>none | some (x5,r5)=>(match p22 r5 with | none=>none | some (x6,r6)=>some (⟨x0,x1,⟨n2,c2⟩,x3,x4,x5,x6⟩,r6))))) else none) | _=>none)))
theorem p29_ok (cs:List AV) (x:S28) (r:List AV) (h:p29 cs = some (x,r)):cs = e29 x ++ r:=by
 unfold p29 at h
 split at h
 ·cases h
 rename_i x0 r0 h0
 have q0:=p3_ok _ _ _ h0
 split at h
 ·cases h
 rename_i x1 r1 h1
 have q1:=p9_ok _ _ _ h1
 split at h
 rotate_left
 ·cases h
 rename_i n2 s2 c2 r2
 split at h
 rotate_left
 ·cases h
 rename_i t2; subst t2
 split at h
 ·cases h
 rename_i x3 r3 h3
 have q3:=p4_ok _ _ _ h3
 split at h
 ·cases h
 rename_i x4 r4 h4
 have q4:=p4_ok _ _ _ h4
 split at h
 ·cases h
 rename_i x5 r5 h5
 have q5:=p22_ok _ _ _ h5
 split at h
 ·cases h
 rename_i x6 r6 h6
 have q6:=p22_ok _ _ _ h6
 cases h
 try subst q6
 try subst q5
 try subst q4
 try subst q3
 try subst q1
 try subst q0
 rfl
def d29:List AV → Option S28:=pall p29
theorem qHf (cs:List AV) (x:S28) (h:d29 cs = some x):cs = e29 x:=pall_ok p29_ok cs x h
abbrev n29 (x:S28):AV := .agg [.int .i64 x.f0,.str x.f1,q29 x.f2,.bool x.f3,.bool x.f4,w9 x.f5,w9 x.f6]
abbrev n34 (x:S33):AV := .agg [.int .i64 x.f0,.str x.f1,.int .i64 x.f2]
def thrown:Value := .iface 72 (.agg #[])
theorem fw64 (n:Int) (h1 : -9223372036854775808 ≤ n) (h2:n ≤ 9223372036854775807):fW .i64 n = n:=by
 have h1:lo .i64 ≤ n:=h1
 have h2:n ≤ hi .i64:=h2
 unfold fW
 rw [if_pos (by simp [h1,h2])]
theorem qD1 (n:Int):fW .u64 n = n % 18446744073709551616:=by
 rw [qAk]; simp [IntKind.wrap,IntKind.bits,IntKind.signed]
theorem rem_at (a:Int) (q:Nat) (h0:0 < q) (hq:q < 18446744073709551616):∃ i:Nat,i < q ∧ remS (fW .u64 a) (fW .u64 (q:Int)) = some (i:Int) ∧ remS (fW .u64 (i:Int)) (fW .u64 (q:Int)) = some (i:Int):=by
 have e1:fW .u64 (q:Int) = q:=by rw [qD1]; omega
 have e2:0 ≤ fW .u64 a:=by rw [qD1]; omega
 have hne:¬ (q:Int) = 0:=by omega
 have h1:0 ≤ (fW .u64 a) % (q:Int):=Int.emod_nonneg _ hne
 have h2:(fW .u64 a) % (q:Int) < q:=Int.emod_lt_of_pos _ (by omega)
 refine ⟨((fW .u64 a) % (q:Int)).toNat,by omega,?_,?_⟩
 ·rw [e1]; unfold remS
  rw [if_neg hne,Int.tmod_eq_emod_of_nonneg e2]
  congr 1; omega
 ·rw [e1]; unfold remS
  have e3:fW .u64 ((((fW .u64 a) % (q:Int)).toNat:Nat):Int) = (fW .u64 a) % (q:Int):=by rw [qD1]; omega
  rw [e3,if_neg hne,Int.tmod_eq_emod_of_nonneg h1,Int.emod_emod_of_dvd _ (Int.dvd_refl _)]
  congr 1; omega
theorem qM1 (a:Int) (q:Nat) (h0:0 < q) (hq:q < 18446744073709551616):∃ i:Nat,i < q ∧ (fW .u64 a).tmod (q:Int) = (i:Int) ∧ (fW .u64 (i:Int)).tmod (q:Int) = (i:Int):=by
 obtain ⟨i,h1,h2,h3⟩:=rem_at a q h0 hq
 have e1:fW .u64 (q:Int) = q:=by rw [qD1]; omega
 rw [e1] at h2 h3
 unfold remS at h2 h3
 rw [if_neg (by omega)] at h2 h3
 exact ⟨i,h1,Option.some.inj h2,Option.some.inj h3⟩
theorem dT {p:Prop} [Decidable p] (h:p):decide p = true:=decide_eq_true h
theorem dF {p:Prop} [Decidable p] (h:¬ p):decide p = false:=decide_eq_false h
theorem fwI {n:Int} (h1 : -9223372036854775808 ≤ n) (h2:n ≤ 9223372036854775807):fW .i64 n = n:=fw64 n h1 h2
theorem bS {α β:Type} {x:Option α} {a:α} {f:α → Option β} {r:Option β} (h:x = some a) (k:f a = r):x.bind f = r:=by rw [h]; exact k
theorem jS {α β:Type} {f:α → Option β} {g:(α → Option β) → Option β} {v:α} (h:∀ j:α → Option β,g j = j v):jn f g = f v:=h f
theorem jC {α β:Type} {f:α → Option β} {g:(α → Option β) → Option β} {r:Option β} (h:∀ j:α → Option β,g j = r):jn f g = r:=h f
theorem jD {α β:Type} {f:α → Option β} {g:(α → Option β) → Option β} {r:Option β} (h:g f = r):jn f g = r:=h
theorem iT {α:Type} {c:Bool} {A B r:α} (h:c = true) (k:A = r):(if c then A else B) = r:=by rw [h]; exact k
theorem iF {α:Type} {c:Bool} {A B r:α} (h:c = false) (k:B = r):(if c then A else B) = r:=by rw [h]; exact k
theorem fw_s {n:Nat} (h:n < 300000000000000):fW .i64 ((n:Int) + 1) = ((n + 1:Nat):Int):=by rw [fwI (by omega) (by omega)]; omega
theorem fw_a {n m:Nat} (h:n < 300000000000000) (h2:m < 300000000000000):fW .i64 ((n:Int) + (m:Int)) = ((n + m:Nat):Int):=by rw [fwI (by omega) (by omega)]; omega
theorem fw_d {n m:Nat} (h:m ≤ n) (h2:n < 300000000000000):fW .i64 ((n:Int) - (m:Int)) = ((n - m:Nat):Int):=by rw [fwI (by omega) (by omega)]; omega
theorem fw_p {n:Nat} (h2:n < 300000000000000):fW .i64 (((n + 1:Nat):Int) - 1) = (n:Int):=by rw [fwI (by omega) (by omega)]; omega
theorem gsL : (∀ (p : Prop) [Decidable p], p → decide p = true) ∧ (∀ (p : Prop) [Decidable p], ¬ p → decide p = false) ∧ (∀ n : Int, -9223372036854775808 ≤ n → n ≤ 9223372036854775807 → fW .i64 n = n) ∧
 (∀ (α β:Type) (a:α) (f:α → Option β),(some a).bind f = f a) ∧ (∀ (α:Type) (a b:α),(if True then a else b) = a) ∧ (∀ (α:Type) (a b:α),(if False then a else b) = b) ∧ (∀ (α:Type) (a:α),(a = a) = True) ∧ ((false = true) = False) ∧ ((!true) = false) ∧ ((!false) = true) ∧ (decide True = true) ∧ (decide False = false) ∧
 (∀ b,(true && b) = b) ∧ (∀ b,(b && true) = b) ∧ (∀ b,(false && b) = false) ∧ (∀ b,(b && false) = false) ∧ (∀ b,(true || b) = true) ∧ (∀ b,(b || true) = true) ∧ (∀ b,(false || b) = b) ∧ (∀ b,(b || false) = b) ∧
 (∀ p:Prop,(p ∧ p) = p) ∧ (∀ p:Prop,(p ∧ True) = p) ∧ (∀ p:Prop,(True ∧ p) = p) ∧ (∀ p:Prop,(p ∧ False) = False) ∧ (∀ p:Prop,(False ∧ p) = False):=by
 refine ⟨fun p _ h=>dT h,fun p _ h=>dF h,fun n h1 h2=>fwI h1 h2,fun _ _ _ _=>rfl,?_,?_,?_,?_,rfl,rfl,rfl,rfl,?_,?_,?_,?_,?_,?_,?_,?_,?_,?_,?_,?_,?_⟩ <;> simp
theorem byteAll {f:Nat → Bool} (h:((List.range 256).all f) = true) {c:Nat} (hc:c < 256):f c = true:=List.all_eq_true.1 h c (List.mem_range.2 hc)
abbrev By (s:List Nat):Prop := ∀ b ∈ s,b < 256
abbrev Sz (s:List Nat):Prop:=s.length ≤ 140737488351232
theorem By.drop {s:List Nat} (h:By s) (n:Nat):By (s.drop n):=fun b hb=>h b (List.mem_of_mem_drop hb)
theorem By.take {s:List Nat} (h:By s) (n:Nat):By (s.take n):=fun b hb=>h b (List.mem_of_mem_take hb)
theorem By.tail {c:Nat} {r:List Nat} (h:By (c :: r)):By r:=fun b hb=>h b (List.mem_cons_of_mem _ hb)
theorem By.head {c:Nat} {r:List Nat} (h:By (c :: r)):c < 256:=h c List.mem_cons_self
theorem dcons {s:List Nat} {i:Nat} (h:i < s.length):∃ b r,s.drop i = b :: r ∧ s.drop (i + 1) = r ∧ b ∈ s ∧ r.length + i + 1 = s.length:=by
 refine ⟨s[i],s.drop (i + 1),List.drop_eq_getElem_cons h,rfl,List.getElem_mem h,?_⟩
 rw [List.length_drop]; omega
theorem nthX {s:List Nat} {x:Int} {i b:Nat} {r:List Nat} (hx:x = (i:Int)) (h:s.drop i = b :: r):nthS s x = some (b:Int):=by
 subst hx
 have e:s[i]? = some b:=by
  have:=List.getElem?_drop (xs:=s) (i:=i) (j:=0)
  rw [h] at this
  simpa using this.symm
 unfold nthS
 rw [if_pos (by omega)]
 simp [e]
theorem subMid {s:List Nat} {x y:Int} {i j:Nat} (hx:x = (i:Int)) (hy:y = (j:Int)) (h1:i ≤ j) (h2:j ≤ s.length):subL s (some x) (some y) = some ((s.take j).drop i):=by
 subst hx hy; unfold subL bnd; simp [h1,h2]
theorem qAv {s:List Nat} {i c:Nat} {r:List Nat} (h:s.drop i = c :: r):s.drop (i + 1) = r:=by
 rw [← List.drop_drop,h]; rfl
theorem qAl {s:List Nat} {i c:Nat} {r:List Nat} (h:s.drop i = c :: r):r.length + i + 1 = s.length:=by
 have:=congrArg List.length h
 rw [List.length_drop,List.length_cons] at this; omega
theorem qCj {s:List Nat} {i c:Nat} {r:List Nat} (h:s.drop i = c :: r):c ∈ s:=List.mem_of_mem_drop (i:=i) (by rw [h]; exact List.mem_cons_self)
end Go.Proofs.Ythpplbkobokghaa.Am
set_option maxRecDepth 100000
set_option linter.unusedVariables false
namespace Go.Proofs.Ythpplbkobokghaa.Am
noncomputable section
open Go
def Xg60:Fx Bool:=⟨Try.prog,cx,Try.f60,fun r => .bool r,0,fun _=>H0,cxTi,cxOrd,fun _=>none,false⟩
def g60 (k:Nat) (a0:Int):Option Bool :=
 if (decide (48 ≤ a0)) then (some (decide (a0 ≤ 57))) else (some false)
theorem qOg (k:Nat) (a0:Int) (r:Bool) (h:g60 k a0 = some r):PureOk Try.prog 60 [.y a0] (.bool r):=by
 refine qA4 Xg60 (fun _=>⟨rfl,rfl⟩) Try.func60 (by decide +kernel) (by kernel_rfl) (t:=g60 k a0) ?_ h
 unfold g60
 refine qA (eE:=[(0,.y a0)]) (by kernel_rfl) ?_
 refine oH 9 (atN 3 (ctl1 (nav [0,0,0] (nav [0] (bodyAt Try.f60))))) [(5,.bool (decide (48 ≤ a0))),(4,.bool (decide (48 ≤ a0))),(3,.y a0),(2,.bool false),(0,.y a0)] (mkH []) ?_
 refine oS 5 (fun hb=>?_) (fun hb=>?_)
 ·exact oQ 6
 ·exact oQ 6
def Xg38:Fx Int:=⟨Try.prog,cx,Try.f38,fun r => .i r,0,fun _=>H0,cxTi,cxOrd,fun _=>none,false⟩
def g38p1:Pt:=nav [0,0,0,0,0] (nav [0] (bodyAt Try.f38))
def g38p2:Pt:=nav [0,0] g38p1
def g38p4:Pt:=nav [2,0] g38p2
def g38p6:Pt:=nav [0,0] g38p4
def g38p8:Pt:=nav [2,0] g38p6
def g38 (k:Nat) (a0:Int):Option Int :=
 jn (fun (z1:Bool)=>if z1 then (some (1:Int)) else (jn (fun (z2:Bool)=>if z2 then (some (2:Int)) else ((g60 k a0).bind fun x0_1=>if x0_1 then (some (3:Int)) else (some (0:Int)))) (fun j2=>if (decide (65 ≤ a0)) then (if (decide (a0 ≤ 90)) then (j2 true) else (j2 (decide (a0 = 95)))) else (j2 (decide (a0 = 95)))))) (fun j1=>if (decide (97 ≤ a0)) then (j1 (decide (a0 ≤ 122))) else (j1 false))
theorem qOt (k:Nat) (a0:Int) (r:Int) (h:g38 k a0 = some r):PureOk Try.prog 38 [.y a0] (.i r):=by
 refine qA4 Xg38 (fun _=>⟨rfl,rfl⟩) Try.func38 (by decide +kernel) (by kernel_rfl) (t:=g38 k a0) ?_ h
 unfold g38
 refine qA (eE:=[(0,.y a0)]) (by kernel_rfl) ?_
 refine oH 11 (atN 3 (ctl1 g38p1)) [(6,.bool (decide (97 ≤ a0))),(5,.bool (decide (97 ≤ a0))),(4,.y a0),(2,.i 0),(0,.y a0)] (mkH []) ?_
 refine oJ g38p2 (fun (z1:Bool)=>[(0,.y a0),(3,.bool z1)]) (fun (z1:Bool)=>(mkH [])) (fun z1=>?_) (fun j1 hj1=>?_)
 ·refine oS 3 (fun hb=>?_) (fun hb=>?_)
  ·exact oQ 6
  ·let E2:Env:=[(13,.bool (decide (65 ≤ a0))),(12,.bool (decide (65 ≤ a0))),(11,.y a0),(3,.bool false),(0,.y a0),(3,.bool z1)]
   refine oH 6 (atN 3 (ctl1 g38p4)) E2 (mkH []) ?_
   refine oJ g38p6 (fun (z2:Bool)=>[(0,.y a0),(10,.bool z2)]) (fun (z2:Bool)=>(mkH [])) (fun z2=>?_) (fun j2 hj2=>?_)
   ·refine oS 10 (fun hb=>?_) (fun hb=>?_)
    ·exact oQ 6
    ·refine oH 4 (atN 1 (ctl1 g38p8)) [(22,.y a0),(10,.bool false),(0,.y a0),(10,.bool z2)] (mkH []) ?_
     refine oA (fun (x0_1:Bool) => .bool x0_1) (atN 2 (ctl1 g38p8)) 23 [.y a0] (qOg k a0) fun x0_1 hx0_1=>?_
     refine oR 2 (nav [0,0] g38p8) [(21,.bool x0_1),(23,.bool x0_1),(22,.y a0),(10,.bool false),(0,.y a0),(10,.bool z2)] ?_
     refine oS 21 (fun hb=>?_) (fun hb=>?_)
     ·exact oQ 6
     ·exact oQ 7
   ·refine oS 13 (fun hb=>?_) (fun hb=>?_)
    ·refine oH 4 (atN 7 (ctl1 g38p4)) ((17,.bool (decide (a0 ≤ 90))) :: (16,.bool (decide (a0 ≤ 90))) :: (15,.bool (decide (a0 ≤ 90))) :: (14,.y a0) :: (13,.bool true) :: E2) (mkH []) ?_
     refine oS 17 (fun hb=>?_) (fun hb=>?_)
     ·refine oL 5 g38p6 [(0,.y a0),(10,.bool true)] ?_
      exact hj2 true
     ·refine oL 5 g38p6 [(0,.y a0),(10,.bool (decide (a0 = 95)))] ?_
      exact hj2 (decide (a0 = 95))
    ·refine oLH 9 g38p6 [(0,.y a0),(10,.bool (decide (a0 = 95)))] (mkH []) ?_
     exact hj2 (decide (a0 = 95))
 ·refine oS 6 (fun hb=>?_) (fun hb=>?_)
  ·refine oLH 5 g38p2 [(0,.y a0),(3,.bool (decide (a0 ≤ 122)))] (mkH []) ?_
   exact hj1 (decide (a0 ≤ 122))
  ·refine oLH 5 g38p2 [(0,.y a0),(3,.bool false)] (mkH []) ?_
   exact hj1 false
def Xg44:Fx Bool:=⟨Try.prog,cx,Try.f44,fun r => .bool r,0,fun _=>H0,cxTi,cxOrd,fun _=>none,false⟩
def g44p1:Pt:=nav [0,0,0] (nav [0] (bodyAt Try.f44))
def g44 (k:Nat) (a0:Int):Option Bool :=
 if (decide (97 ≤ a0)) then (if (decide (a0 ≤ 122)) then (some true) else (if (decide (65 ≤ a0)) then (some (decide (a0 ≤ 90))) else (some false))) else (if (decide (65 ≤ a0)) then (some (decide (a0 ≤ 90))) else (some false))
theorem g44_ok (k:Nat) (a0:Int) (r:Bool) (h:g44 k a0 = some r):PureOk Try.prog 44 [.y a0] (.bool r):=by
 refine qA4 Xg44 (fun _=>⟨rfl,rfl⟩) Try.func44 (by decide +kernel) (by kernel_rfl) (t:=g44 k a0) ?_ h
 unfold g44
 refine qA (eE:=[(0,.y a0)]) (by kernel_rfl) ?_
 let E1:Env:=[(5,.bool (decide (97 ≤ a0))),(4,.bool (decide (97 ≤ a0))),(3,.y a0),(2,.bool false),(0,.y a0)]
 refine oH 9 (atN 3 (ctl1 g44p1)) E1 (mkH []) ?_
 refine oS 5 (fun hb=>?_) (fun hb=>?_)
 ·let E2:Env:=((9,.bool (decide (a0 ≤ 122))) :: (8,.bool (decide (a0 ≤ 122))) :: (7,.bool (decide (a0 ≤ 122))) :: (6,.y a0) :: (5,.bool true) :: E1)
  refine oR 4 (atN 7 (ctl1 g44p1)) E2 ?_
  refine oS 9 (fun hb=>?_) (fun hb=>?_)
  ·exact oQ 10
  ·refine oR 3 (atN 10 (ctl1 g44p1)) ((12,.bool (decide (65 ≤ a0))) :: (11,.bool (decide (65 ≤ a0))) :: (10,.y a0) :: (9,.bool false) :: E2) ?_
   refine oS 12 (fun hb=>?_) (fun hb=>?_)
   ·exact oQ 7
   ·exact oQ 7
 ·refine oR 7 (atN 10 (ctl1 g44p1)) ((12,.bool (decide (65 ≤ a0))) :: (11,.bool (decide (65 ≤ a0))) :: (10,.y a0) :: (9,.bool false) :: (8,.bool false) :: (7,.tuple []) :: (6,.tuple []) :: (5,.bool false) :: E1) ?_
  refine oS 12 (fun hb=>?_) (fun hb=>?_)
  ·exact oQ 7
  ·exact oQ 7
def Xg63:Fx Bool:=⟨Try.prog,cx,Try.f63,fun r => .bool r,0,fun _=>H0,cxTi,cxOrd,fun _=>none,false⟩
def g63p1:Pt:=nav [0,0,0] (nav [0] (bodyAt Try.f63))
def g63 (k:Nat) (a0:Int):Option Bool :=
 (g44 k a0).bind fun x0_1=>if x0_1 then (some true) else ((g60 k a0).bind fun x0_4=>if x0_4 then (some true) else (if (decide (a0 = 95)) then (some true) else (some (decide (a0 = 64)))))
theorem g63_ok (k:Nat) (a0:Int) (r:Bool) (h:g63 k a0 = some r):PureOk Try.prog 63 [.y a0] (.bool r):=by
 refine qA4 Xg63 (fun _=>⟨rfl,rfl⟩) Try.func63 (by decide +kernel) (by kernel_rfl) (t:=g63 k a0) ?_ h
 unfold g63
 refine qA (eE:=[(0,.y a0)]) (by kernel_rfl) ?_
 refine oH 7 (atN 1 (ctl1 g63p1)) [(3,.y a0),(2,.bool false),(0,.y a0)] (mkH []) ?_
 refine oA (fun (x0_1:Bool) => .bool x0_1) (atN 2 (ctl1 g63p1)) 4 [.y a0] (g44_ok k a0) fun x0_1 hx0_1=>?_
 let E1:Env:=[(5,.bool x0_1),(4,.bool x0_1),(3,.y a0),(2,.bool false),(0,.y a0)]
 refine oR 1 (atN 3 (ctl1 g63p1)) E1 ?_
 refine oS 5 (fun hb=>?_) (fun hb=>?_)
 ·exact oQ 14
 ·refine oR 1 (atN 4 (ctl1 g63p1)) ((6,.y a0) :: (5,.bool false) :: E1) ?_
  refine oA (fun (x0_4:Bool) => .bool x0_4) (atN 5 (ctl1 g63p1)) 7 [.y a0] (qOg k a0) fun x0_4 hx0_4=>?_
  let E3:Env:=((9,.bool x0_4) :: (8,.bool x0_4) :: (7,.bool x0_4) :: (6,.y a0) :: (5,.bool false) :: E1)
  refine oR 2 (atN 7 (ctl1 g63p1)) E3 ?_
  refine oS 9 (fun hb=>?_) (fun hb=>?_)
  ·exact oQ 10
  ·refine oR 4 (atN 11 (ctl1 g63p1)) ((13,.bool (decide (a0 = 95))) :: (12,.bool (decide (a0 = 95))) :: (11,.bool (decide (a0 = 95))) :: (10,.y a0) :: (9,.bool false) :: E3) ?_
   refine oS 13 (fun hb=>?_) (fun hb=>?_)
   ·exact oQ 6
   ·exact oQ 6
def Xg41:Fx Bool:=⟨Try.prog,cx,Try.f41,fun r => .bool r,0,fun _=>H0,cxTi,cxOrd,fun _=>none,false⟩
def g41c0:List Nat:=[97,102,116,101,114]
def g41c1:List Nat:=[97,110,100,97,108,115,111]
def g41c2:List Nat:=[98,101,103,105,110]
def g41c3:List Nat:=[111,114,101,108,115,101]
def g41c4:List Nat:=[114,101,99,101,105,118,101]
def g41c5:List (List Nat):=[g41c0,([97,110,100]:List Nat),g41c1,([98,97,110,100]:List Nat),g41c2,([98,110,111,116]:List Nat),([98,111,114]:List Nat),([98,115,108]:List Nat),([98,115,114]:List Nat),([98,120,111,114]:List Nat),([99,97,115,101]:List Nat),([99,97,116,99,104]:List Nat),([100,105,118]:List Nat),([101,110,100]:List Nat),([102,117,110]:List Nat),([105,102]:List Nat),([110,111,116]:List Nat),([111,102]:List Nat),([111,114]:List Nat),g41c3,g41c4,([114,101,109]:List Nat),([119,104,101,110]:List Nat),([120,111,114]:List Nat)]
def g41p1:Pt:=nav [0,0,0] (nav [0] (bodyAt Try.f41))
def g41p3:Pt:=nav [0,0,0,0] (nav [0,0,0,0] g41p1)
def g41p5:Pt:=nav [0,0] (nav [0,0,0] g41p3)
def g41p6:Pt:=nav [1,0,0,0,0] g41p5
def qIk (k:Nat)  (a0:(List Nat)) (ih:Int → Option Bool):Int → Option Bool :=
 fun (y1_0:Int)=>if (decide (y1_0 < (g41c5.length:Int))) then ((nthL g41c5 y1_0).bind fun x0_2=>if (eqL x0_2 a0) then (some true) else (ih (fW .i64 (y1_0 + 1)))) else (some false)
def qFd (k:Nat)  (a0:(List Nat)) (n:Nat):Int → Option Bool:=lp (fun _=>none) (qIk k a0) n
theorem g41_l1_s (k:Nat)  (a0:(List Nat)) (n:Nat) (y1_0:Int):qFd k a0 (n + 1) y1_0 = (if (decide (y1_0 < (g41c5.length:Int))) then ((nthL g41c5 y1_0).bind fun x0_2=>if (eqL x0_2 a0) then (some true) else ((qFd k a0 n) (fW .i64 (y1_0 + 1)))) else (some false)):=rfl
theorem qOo (k:Nat)   (a0:(List Nat))  : ∀ (n:Nat) (y1_0:Int),Ok Xg41 g41p3 [(0,.str a0),(3,w9 g41c5),(4,.i y1_0)] (mkH []) (qFd k a0 n y1_0):=by
 intro n
 induction n with
 | zero=>intro y1_0; exact ok_none
 | succ n ih =>
  intro y1_0
  show Ok _ _ _ _ (qIk k a0 (qFd k a0 n) y1_0)
  unfold qIk
  refine qAf (p':=nav [0] g41p3) (by kernel_rfl) ?_
  let E2:Env:=[(9,.bool (decide (y1_0 < (g41c5.length:Int)))),(8,.i (g41c5.length:Int)),(7,w9 g41c5),(6,.i y1_0),(0,.str a0),(3,w9 g41c5),(4,.i y1_0)]
  refine oH 8 g41p5 E2 (mkH []) ?_
  refine oS 9 (fun hb=>?_) (fun hb=>?_)
  ·refine oR 8 (atN 2 (ctl1 g41p6)) ((13,.i y1_0) :: (12,w9 g41c5) :: (9,.bool true) :: E2) ?_
   refine oC (fun (x0_2:(List Nat))=>(.vptr [.str x0_2],(mkH []))) (atN 3 (ctl1 g41p6)) 14 (vidxH (sz:=1) qBp (by kernel_rfl)) fun x0_2 hx0_2=>?_
   refine oLH 4 (nav [0,0] g41p6) [(0,.str a0),(3,w9 g41c5),(4,.i y1_0),(17,.bool (eqL x0_2 a0))] (mkH []) ?_
   refine oS 17 (fun hb=>?_) (fun hb=>?_)
   ·exact oQ 6
   ·refine oL 7 g41p3 [(0,.str a0),(3,w9 g41c5),(4,.i (fW .i64 (y1_0 + 1)))] ?_
    exact ih (fW .i64 (y1_0 + 1))
  ·exact oQ 7
def g41 (k:Nat) (a0:(List Nat)):Option Bool :=
 qFd k a0 k 0
theorem g41_ok (k:Nat) (a0:(List Nat)) (r:Bool) (h:g41 k a0 = some r):PureOk Try.prog 41 [.str a0] (.bool r):=by
 refine qA4 Xg41 (fun _=>⟨rfl,rfl⟩) Try.func41 (by decide +kernel) (by kernel_rfl) (t:=g41 k a0) ?_ h
 unfold g41
 refine qA (eE:=[(0,.str a0)]) (by kernel_rfl) ?_
 refine oH 7 (atN 1 (ctl1 g41p1)) [(5,.slice 0 24 0 24 1),(2,.bool false),(0,.str a0)] (mkH [⟨[.str g41c0,.str [97,110,100],.str g41c1,.str [98,97,110,100],.str g41c2,.str [98,110,111,116],.str [98,111,114],.str [98,115,108],.str [98,115,114],.str [98,120,111,114],.str [99,97,115,101],.str [99,97,116,99,104],.str [100,105,118],.str [101,110,100],.str [102,117,110],.str [105,102],.str [110,111,116],.str [111,102],.str [111,114],.str g41c3,.str g41c4,.str [114,101,109],.str [119,104,101,110],.str [120,111,114]],0,false⟩]) ?_
 refine oZ 5 0 24 1 [.str g41c0,.str [97,110,100],.str g41c1,.str [98,97,110,100],.str g41c2,.str [98,110,111,116],.str [98,111,114],.str [98,115,108],.str [98,115,114],.str [98,120,111,114],.str [99,97,115,101],.str [99,97,116,99,104],.str [100,105,118],.str [101,110,100],.str [102,117,110],.str [105,102],.str [110,111,116],.str [111,102],.str [111,114],.str g41c3,.str g41c4,.str [114,101,109],.str [119,104,101,110],.str [120,111,114]] [0,2] [] trivial ?_
 refine oLH 9 g41p3 [(0,.str a0),(3,w9 g41c5),(4,.i 0)] (mkH [⟨[],0,false⟩]) ?_
 refine qAa [] [⟨[],0,false⟩] (by kernel_rfl) rfl (by kernel_rfl) trivial ?_
 exact (qOo k a0 k) 0
def Xg45:Fx Int:=⟨Try.prog,cx,Try.f45,fun r => .i r,0,fun _=>H0,cxTi,cxOrd,fun _=>none,false⟩
def g45c0:List (List Nat):=[([61,58,61]:List Nat),([61,47,61]:List Nat),([60,60]:List Nat),([62,62]:List Nat),([45,62]:List Nat),([60,45]:List Nat),([60,61]:List Nat),([61,62]:List Nat),([58,61]:List Nat),([58,58]:List Nat),([61,61]:List Nat),([47,61]:List Nat),([61,60]:List Nat),([62,61]:List Nat),([124,124]:List Nat),([43,43]:List Nat),([45,45]:List Nat),([40]:List Nat),([41]:List Nat),([123]:List Nat),([125]:List Nat),([91]:List Nat),([93]:List Nat),([44]:List Nat),([59]:List Nat),([58]:List Nat),([61]:List Nat),([124]:List Nat),([33]:List Nat),([35]:List Nat),([43]:List Nat),([45]:List Nat),([42]:List Nat),([47]:List Nat),([60]:List Nat),([62]:List Nat),([46]:List Nat)]
def g45p1:Pt:=nav [0,0,0] (nav [0] (bodyAt Try.f45))
def g45p2:Pt:=nav [0,0,0,0] g45p1
def g45p3:Pt:=nav [0,0] g45p2
def g45p7:Pt:=nav [0,0,0,0] (nav [2,0,0,0] g45p3)
def g45p9:Pt:=nav [0,0] (nav [0,0,0] g45p7)
def g45p10:Pt:=nav [1,0,0,0,0] g45p9
def g45p12:Pt:=nav [0,0,0] g45p10
def g45d0:DP:=⟨[],[(0,0,0),(1,0,0),(0,0,0),(7,0,0),(0,0,0),(31,0,0),(63,0,0),(127,0,0),(127,0,0),(127,0,0),(127,0,0),(1663,0,0),(4095,0,0),(127,0,0),(127,0,0),(24703,0,0),(57471,0,0),(131071,0,0),(262143,0,0)],19,thrown,[],H0⟩
def qIi (k:Nat)  (a0:(List Nat)) (a1:Int) (ih:Int → Option Int):Int → Option Int :=
 fun (y3_0:Int)=>if (decide (y3_0 < (g45c0.length:Int))) then ((nthL g45c0 y3_0).bind fun x0_2=>jn (fun (z4:Bool × Int)=>if z4.1 then (some (x0_2.length:Int)) else (ih (fW .i64 (z4.2 + 1)))) (fun j4=>if (decide ((x0_2.length:Int) ≤ fW .i64 ((a0.length:Int) - a1))) then ((subL a0 (some a1) (some (fW .i64 (a1 + (x0_2.length:Int))))).bind fun x1_12=>(nthL g45c0 y3_0).bind fun x1_15=>j4 (eqL x1_12 x1_15,y3_0)) else (j4 (false,y3_0)))) else (some (0:Int))
def qFb (k:Nat)  (a0:(List Nat)) (a1:Int) (n:Nat):Int → Option Int:=lp (fun _=>none) (qIi k a0 a1) n
theorem g45_l3_s (k:Nat)  (a0:(List Nat)) (a1:Int) (n:Nat) (y3_0:Int):qFb k a0 a1 (n + 1) y3_0 = (if (decide (y3_0 < (g45c0.length:Int))) then ((nthL g45c0 y3_0).bind fun x0_2=>jn (fun (z4:Bool × Int)=>if z4.1 then (some (x0_2.length:Int)) else ((qFb k a0 a1 n) (fW .i64 (z4.2 + 1)))) (fun j4=>if (decide ((x0_2.length:Int) ≤ fW .i64 ((a0.length:Int) - a1))) then ((subL a0 (some a1) (some (fW .i64 (a1 + (x0_2.length:Int))))).bind fun x1_12=>(nthL g45c0 y3_0).bind fun x1_15=>j4 (eqL x1_12 x1_15,y3_0)) else (j4 (false,y3_0)))) else (some (0:Int))):=rfl
theorem qOm (k:Nat)   (a0:(List Nat)) (a1:Int)  : ∀ (n:Nat) (y3_0:Int),Ok Xg45 g45p7 [(0,.str a0),(1,.i a1),(5,w9 g45c0),(6,.i y3_0)] (mkH []) (qFb k a0 a1 n y3_0):=by
 intro n
 induction n with
 | zero=>intro y3_0; exact ok_none
 | succ n ih =>
  intro y3_0
  show Ok _ _ _ _ (qIi k a0 a1 (qFb k a0 a1 n) y3_0)
  unfold qIi
  refine qAf (p':=nav [0] g45p7) (by kernel_rfl) ?_
  let E4:Env:=[(20,.bool (decide (y3_0 < (g45c0.length:Int)))),(19,.i (g45c0.length:Int)),(18,w9 g45c0),(17,.i y3_0),(0,.str a0),(1,.i a1),(5,w9 g45c0),(6,.i y3_0)]
  refine oH 8 g45p9 E4 (mkH []) ?_
  refine oS 20 (fun hb=>?_) (fun hb=>?_)
  ·refine oR 8 (atN 2 (ctl1 g45p10)) ((24,.i y3_0) :: (23,w9 g45c0) :: (20,.bool true) :: E4) ?_
   refine oC (fun (x0_2:(List Nat))=>(.vptr [.str x0_2],(mkH []))) (atN 3 (ctl1 g45p10)) 25 (vidxH (sz:=1) qBp (by kernel_rfl)) fun x0_2 hx0_2=>?_
   refine oLH 5 g45p12 [(0,.str a0),(1,.i a1),(5,w9 g45c0),(6,.i y3_0),(7,.i (x0_2.length:Int))] (mkH []) ?_
   refine oJ (nav [0] g45p12) (fun (z4:Bool × Int)=>[(0,.str a0),(1,.i a1),(5,w9 g45c0),(6,.i z4.2),(7,.i (x0_2.length:Int)),(46,.bool z4.1)]) (fun (z4:Bool × Int)=>(mkH [])) (fun z4=>?_) (fun j4 hj4=>?_)
   ·refine oS 46 (fun hb=>?_) (fun hb=>?_)
    ·exact oQ 7
    ·refine oLH 7 g45p7 [(0,.str a0),(1,.i a1),(5,w9 g45c0),(6,.i (fW .i64 (z4.2 + 1)))] (mkH []) ?_
     exact ih (fW .i64 (z4.2 + 1))
   ·refine qEr (fun hb6=>?_) (fun hb6=>?_)
    ·refine qA7 (fun x1_12 hx1_12=>?_)
     refine qA7 (fun x1_15 hx1_15=>?_)
     let E10:Env:=[(34,.bool (decide ((x0_2.length:Int) ≤ fW .i64 ((a0.length:Int) - a1)))),(33,.bool (decide ((x0_2.length:Int) ≤ fW .i64 ((a0.length:Int) - a1)))),(32,.i (x0_2.length:Int)),(31,.i (fW .i64 ((a0.length:Int) - a1))),(30,.i a1),(29,.i (a0.length:Int)),(28,.str a0),(0,.str a0),(1,.i a1),(5,w9 g45c0),(6,.i y3_0),(7,.i (x0_2.length:Int))]
     let E11:Env:=[(39,.i (fW .i64 (a1 + (x0_2.length:Int)))),(38,.i (x0_2.length:Int)),(37,.i a1),(36,.i a1),(35,.str a0),(34,.bool true),(33,.bool true),(32,.i (x0_2.length:Int)),(31,.i (fW .i64 ((a0.length:Int) - a1))),(30,.i a1),(29,.i (a0.length:Int)),(28,.str a0),(0,.str a0),(1,.i a1),(5,w9 g45c0),(6,.i y3_0),(7,.i (x0_2.length:Int))]
     let E12:Env:=((46,.bool (eqL x1_12 x1_15)) :: (45,.bool (eqL x1_12 x1_15)) :: (44,.str x1_15) :: (43,.vptr [.str x1_15]) :: (42,.i y3_0) :: (41,w9 g45c0) :: (40,.str x1_12) :: E11)
     refine oD (H':=(mkH [])) (nav [0] g45p12) E12 [] g45d0 (oDr 7 7 E10 (oDe (fun z=>[(34,.bool z),(33,.bool z),(32,.i (x0_2.length:Int)),(31,.i (fW .i64 ((a0.length:Int) - a1))),(30,.i a1),(29,.i (a0.length:Int)),(28,.str a0),(0,.str a0),(1,.i a1),(5,w9 g45c0),(6,.i y3_0),(7,.i (x0_2.length:Int))]) hb6 (oDr 5 12 E11 (qA9 (l':=(opsAt g45p12).toList.drop 13) (eE:=((40,.str x1_12) :: E11)) (hs:=[]) (x:=x1_12) (fun (x1_12:(List Nat))=>(.str x1_12,(mkH []))) (subH (some a1) (some (fW .i64 (a1 + (x0_2.length:Int)))) (by kernel_rfl)) hx1_12 (by kernel_rfl) (oDr 2 15 ((42,.i y3_0) :: (41,w9 g45c0) :: (40,.str x1_12) :: E11) (qA9 (l':=(opsAt g45p12).toList.drop 16) (eE:=((43,.vptr [.str x1_15]) :: (42,.i y3_0) :: (41,w9 g45c0) :: (40,.str x1_12) :: E11)) (hs:=[]) (x:=x1_15) (fun (x1_15:(List Nat))=>(.vptr [.str x1_15],(mkH []))) (vidxH (sz:=1) qBp (by kernel_rfl)) hx1_15 (by kernel_rfl) (oDr 3 19 E12 .nil))))))) ?_
     refine oK [0,1,5,6,7,46] [(0,.str a0),(1,.i a1),(5,w9 g45c0),(6,.i y3_0),(7,.i (x0_2.length:Int)),(46,.bool (eqL x1_12 x1_15))] ?_
     exact hj4 (eqL x1_12 x1_15,y3_0)
    ·let E10:Env:=[(34,.bool (decide ((x0_2.length:Int) ≤ fW .i64 ((a0.length:Int) - a1)))),(33,.bool (decide ((x0_2.length:Int) ≤ fW .i64 ((a0.length:Int) - a1)))),(32,.i (x0_2.length:Int)),(31,.i (fW .i64 ((a0.length:Int) - a1))),(30,.i a1),(29,.i (a0.length:Int)),(28,.str a0),(0,.str a0),(1,.i a1),(5,w9 g45c0),(6,.i y3_0),(7,.i (x0_2.length:Int))]
     let E14:Env:=[(46,.bool false),(45,.tuple []),(44,.tuple []),(43,.tuple []),(42,.tuple []),(41,.tuple []),(40,.tuple []),(39,.tuple []),(38,.tuple []),(37,.tuple []),(36,.tuple []),(35,.tuple []),(34,.bool false),(33,.bool false),(32,.i (x0_2.length:Int)),(31,.i (fW .i64 ((a0.length:Int) - a1))),(30,.i a1),(29,.i (a0.length:Int)),(28,.str a0),(0,.str a0),(1,.i a1),(5,w9 g45c0),(6,.i y3_0),(7,.i (x0_2.length:Int))]
     refine oD (H':=(mkH [])) (nav [0] g45p12) E14 [] g45d0 (oDr 7 7 E10 (oDe (fun z=>[(34,.bool z),(33,.bool z),(32,.i (x0_2.length:Int)),(31,.i (fW .i64 ((a0.length:Int) - a1))),(30,.i a1),(29,.i (a0.length:Int)),(28,.str a0),(0,.str a0),(1,.i a1),(5,w9 g45c0),(6,.i y3_0),(7,.i (x0_2.length:Int))]) hb6 (oDr 12 19 E14 .nil))) ?_
     refine oK [0,1,5,6,7,46] [(0,.str a0),(1,.i a1),(5,w9 g45c0),(6,.i y3_0),(7,.i (x0_2.length:Int)),(46,.bool false)] ?_
     exact hj4 (false,y3_0)
  ·exact oQ 7
def g45 (k:Nat) (a0:(List Nat)) (a1:Int):Option Int :=
 jn (fun (z2:Bool)=>if z2 then (some (0:Int)) else (qFb k a0 a1 k 0)) (fun j2=>if (decide (a1 < 0)) then (j2 true) else (j2 (decide ((a0.length:Int) < a1))))
theorem g45_ok (k:Nat) (a0:(List Nat)) (a1:Int) (r:Int) (h:g45 k a0 a1 = some r):PureOk Try.prog 45 [.str a0,.i a1] (.i r):=by
 refine qA4 Xg45 (fun _=>⟨rfl,rfl⟩) Try.func45 (by decide +kernel) (by kernel_rfl) (t:=g45 k a0 a1) ?_ h
 unfold g45
 refine qA (eE:=[(0,.str a0),(1,.i a1)]) (by kernel_rfl) ?_
 refine oH 7 (atN 1 (ctl1 g45p1)) [(8,.slice 0 37 0 37 1),(4,.i 0),(0,.str a0),(1,.i a1)] (mkH [⟨[.str [61,58,61],.str [61,47,61],.str [60,60],.str [62,62],.str [45,62],.str [60,45],.str [60,61],.str [61,62],.str [58,61],.str [58,58],.str [61,61],.str [47,61],.str [61,60],.str [62,61],.str [124,124],.str [43,43],.str [45,45],.str [40],.str [41],.str [123],.str [125],.str [91],.str [93],.str [44],.str [59],.str [58],.str [61],.str [124],.str [33],.str [35],.str [43],.str [45],.str [42],.str [47],.str [60],.str [62],.str [46]],0,false⟩]) ?_
 refine oZ 8 0 37 1 [.str [61,58,61],.str [61,47,61],.str [60,60],.str [62,62],.str [45,62],.str [60,45],.str [60,61],.str [61,62],.str [58,61],.str [58,58],.str [61,61],.str [47,61],.str [61,60],.str [62,61],.str [124,124],.str [43,43],.str [45,45],.str [40],.str [41],.str [123],.str [125],.str [91],.str [93],.str [44],.str [59],.str [58],.str [61],.str [124],.str [33],.str [35],.str [43],.str [45],.str [42],.str [47],.str [60],.str [62],.str [46]] [0,1,4] [] trivial ?_
 refine oH 8 (atN 3 (ctl1 g45p2)) [(11,.bool (decide (a1 < 0))),(10,.bool (decide (a1 < 0))),(9,.i a1),(5,w9 g45c0),(8,w9 g45c0),(0,.str a0),(1,.i a1),(4,.i 0)] (mkH [⟨[],0,false⟩]) ?_
 refine oJ g45p3 (fun (z2:Bool)=>[(0,.str a0),(1,.i a1),(5,w9 g45c0),(16,.bool z2)]) (fun (z2:Bool)=>(mkH [])) (fun z2=>?_) (fun j2 hj2=>?_)
 ·refine oS 16 (fun hb=>?_) (fun hb=>?_)
  ·exact oQ 6
  ·refine oLH 9 g45p7 [(0,.str a0),(1,.i a1),(5,w9 g45c0),(6,.i 0)] (mkH []) ?_
   exact (qOm k a0 a1 k) 0
 ·refine oS 11 (fun hb=>?_) (fun hb=>?_)
  ·refine oLH 6 g45p3 [(0,.str a0),(1,.i a1),(5,w9 g45c0),(16,.bool true)] (mkH [⟨[],0,false⟩]) ?_
   refine qAa [] [⟨[],0,false⟩] (by kernel_rfl) rfl (by kernel_rfl) trivial ?_
   exact hj2 true
  ·refine oLH 6 g45p3 [(0,.str a0),(1,.i a1),(5,w9 g45c0),(16,.bool (decide ((a0.length:Int) < a1)))] (mkH [⟨[],0,false⟩]) ?_
   refine qAa [] [⟨[],0,false⟩] (by kernel_rfl) rfl (by kernel_rfl) trivial ?_
   exact hj2 (decide ((a0.length:Int) < a1))
end
def blkN (c:Nat):Bool:=decide (c = 32) || decide (c = 9) || decide (c = 10) || decide (c = 13)
def begN (c:Nat):Nat:=if 97 ≤ c ∧ c ≤ 122 then 1 else if 65 ≤ c ∧ c ≤ 90 ∨ c = 95 then 2 else if 48 ≤ c ∧ c ≤ 57 then 3 else 0
def inrN (c:Nat):Bool:=decide (begN c ≠ 0) || decide (c = 64)
def rsvL:List (List Nat):=[[97,102,116,101,114],[97,110,100],[97,110,100,97,108,115,111],[98,97,110,100],[98,101,103,105,110],[98,110,111,116],[98,111,114],[98,115,108],[98,115,114],[98,120,111,114],[99,97,115,101],[99,97,116,99,104],[100,105,118],[101,110,100],[102,117,110],[105,102],[110,111,116],[111,102],[111,114],[111,114,101,108,115,101],[114,101,99,101,105,118,101],[114,101,109],[119,104,101,110],[120,111,114]]
def rsvN (s:List Nat):Bool:=rsvL.any fun w=>eqL s w
theorem eqL_comm (a b:List Nat):eqL a b = eqL b a:=by
 rw [Bool.eq_iff_iff,qEi,qEi]; exact eq_comm
theorem qEl (k:Nat) {c:Nat} (h:c < 256):g38 k (c:Int) = some ((begN c:Nat):Int):=by
 have w:=byteAll (f:=fun c=>decide (g38 0 (c:Int) = some ((begN c:Nat):Int))) (by decide +kernel) h
 exact of_decide_eq_true w
theorem qDb (k:Nat) {c:Nat} (h:c < 256):g63 k (c:Int) = some (inrN c):=by
 have w:=byteAll (f:=fun c=>decide (g63 0 (c:Int) = some (inrN c))) (by decide +kernel) h
 exact of_decide_eq_true w
theorem qHu {α:Type} {L:List α} {i:Nat} {x:α} {r:List α} (h:L.drop i = x :: r):nthL L (i:Int) = some x:=by
 unfold nthL
 rw [if_pos (by omega),Int.toNat_natCast]
 have:=List.getElem?_drop (xs:=L) (i:=i) (j:=0)
 rw [h] at this
 simpa using this.symm
theorem dconsL {α:Type} {s:List α} {i:Nat} (h:i < s.length):∃ b r,s.drop i = b :: r ∧ s.drop (i + 1) = r ∧ b ∈ s ∧ r.length + i + 1 = s.length:=by
 refine ⟨s[i],s.drop (i + 1),List.drop_eq_getElem_cons h,rfl,List.getElem_mem h,?_⟩
 rw [List.length_drop]; omega
theorem qDx (k : Nat) (s : List Nat) : ∀ (f i : Nat), 24 < i + f → i ≤ 24 → qFd k s f (i : Int) = some ((rsvL.drop i).any fun w => eqL s w)
 | 0,i,h,h2=>by omega
 | f + 1,i,h,h2=>by
  rw [g41_l1_s]
  have e:g41c5 = rsvL:=rfl
  rw [e]
  have el:rsvL.length = 24:=rfl
  rcases Nat.lt_or_ge i 24 with hi | hi
  ·obtain ⟨x,r,hx,hr,-,-⟩:=dconsL (s:=rsvL) (i:=i) (by rw [el]; exact hi)
   have ih:=qDx k s f (i + 1) (by omega) (by omega)
   rw [el]
   refine iT (by first | (simp (disch:=omega) only [↓reduceIte,↓jn,gsL]; done) | rfl) ?_
   refine bS (by (try simp (disch:=omega) only [fwI]); exact qHu hx) ?_
   rw [fw_s (by omega),ih,hr,hx,List.any_cons,eqL_comm x s]
   cases eqL s x <;> rfl
  ·rw [el]
   refine iF (by first | (simp (disch:=omega) only [↓reduceIte,↓jn,gsL]; done) | rfl) ?_
   rw [List.drop_eq_nil_of_le (by rw [el]; exact hi)]
   rfl
theorem qGn {k:Nat} (hk:25 ≤ k) (s:List Nat):g41 k s = some (rsvN s):=qDx k s k 0 (by omega) (by omega)
def signL:List (List Nat):=[[61,58,61],[61,47,61],[60,60],[62,62],[45,62],[60,45],[60,61],[61,62],[58,61],[58,58],[61,61],[47,61],[61,60],[62,61],[124,124],[43,43],[45,45],[40],[41],[123],[125],[91],[93],[44],[59],[58],[61],[124],[33],[35],[43],[45],[42],[47],[60],[62],[46]]
def preN : List Nat → List Nat → Bool
 | [],_=>true
 | x :: l,y :: s=>decide (y = x) && preN l s
 | _ :: _,[]=>false
def fstN : List (List Nat) → List Nat → Nat
 | [],_=>0
 | l :: L,s=>if preN l s then l.length else fstN L s
def lngN (s:List Nat):Nat:=fstN signL s
theorem qGr : ∀ (l s : List Nat), preN l s = (decide (l.length ≤ s.length) && eqL (s.take l.length) l)
 | [],s=>by simp [preN,eqL]
 | x :: l,[]=>by simp [preN]
 | x :: l,y :: s=>by
  simp only [preN,qGr l s,List.length_cons,List.take_succ_cons,eqL]
  by_cases h:l.length ≤ s.length
  ·have:l.length + 1 ≤ s.length + 1:=by omega
   simp [h,this]
   rw [Bool.eq_iff_iff]; simp [Nat.beq_eq]
  ·have:¬ l.length + 1 ≤ s.length + 1:=by omega
   simp [h,this]
theorem qEv (k : Nat) {s : List Nat} (hl : Sz s) {a : Nat} (ha : a ≤ s.length) : ∀ (f i : Nat), 37 < i + f → i ≤ 37 → qFb k s (a : Int) f (i : Int) = some ((fstN (signL.drop i) (s.drop a) : Nat) : Int)
 | 0,i,h,h2=>by omega
 | f + 1,i,h,h2=>by
  have hl':=hl
  unfold Sz at hl
  rw [g45_l3_s]
  have e:g45c0 = signL:=rfl
  rw [e]
  have el:signL.length = 37:=rfl
  rcases Nat.lt_or_ge i 37 with hi | hi
  ·obtain ⟨x,r,hx,hr,hm,-⟩:=dconsL (s:=signL) (i:=i) (by rw [el]; exact hi)
   have ih:=qEv k hl' ha f (i + 1) (by omega) (by omega)
   have hx3:x.length ≤ 3:=by
    have:∀ l ∈ signL,l.length ≤ 3:=by decide
    exact this x hm
   rw [el]
   refine iT (by first | (simp (disch:=omega) only [↓reduceIte,↓jn,gsL]; done) | rfl) ?_
   refine bS (by (try simp (disch:=omega) only [fwI]); exact qHu hx) ?_
   rw [hr] at ih
   rw [hx]
   simp only [fstN,qGr,List.length_drop]
   refine (jS (v:=(decide (x.length ≤ s.length - a) && eqL ((s.drop a).take x.length) x,(i:Int))) (fun j=>?_)).trans ?_
   ·by_cases hc:x.length ≤ s.length - a
    ·have sb:subL s (some (a:Int)) (some ((a:Int) + (x.length:Int))) = some ((s.drop a).take x.length):=by
      rw [subMid (i:=a) (j:=a + x.length) rfl (by push_cast; rfl) (by omega) (by omega),List.drop_take,Nat.add_sub_cancel_left]
     refine iT (by first | (simp (disch:=omega) only [↓reduceIte,↓jn,gsL]; done) | rfl) ?_
     refine bS (by (try simp (disch:=omega) only [fwI]); exact sb) ?_
     refine bS (by (try simp (disch:=omega) only [fwI]); exact qHu hx) ?_
     simp (disch:=omega) only [↓reduceIte,↓jn,gsL,hc]
    ·simp (disch:=omega) only [↓reduceIte,↓jn,gsL,hc]
   ·cases hp:(decide (x.length ≤ s.length - a) && eqL ((s.drop a).take x.length) x) with
    | true=>rfl
    | false =>
     simp only [Bool.false_eq_true,if_false]
     rw [fw_s (by omega)]
     exact ih
  ·rw [el]
   refine iF (by first | (simp (disch:=omega) only [↓reduceIte,↓jn,gsL]; done) | rfl) ?_
   rw [List.drop_eq_nil_of_le (by rw [el]; exact hi)]
   rfl
theorem qHk {k:Nat} (hk:38 ≤ k) {s:List Nat} (hl:Sz s) {a:Nat} (ha:a ≤ s.length):g45 k s (a:Int) = some ((lngN (s.drop a):Nat):Int):=by
 have hl':=hl
 unfold Sz at hl
 unfold g45
 refine (jS (v:=false) (fun j=>by simp (disch:=omega) only [↓reduceIte,↓jn,gsL])).trans ?_
 exact qEv k hl' ha k 0 (by omega) (by omega)
end Go.Proofs.Ythpplbkobokghaa.Am
set_option maxRecDepth 100000
set_option linter.unusedVariables false
namespace Go.Proofs.Ythpplbkobokghaa.Am
noncomputable section
open Go
def Xg59:Fx Bool:=⟨Try.prog,cx,Try.f59,fun r => .bool r,0,fun _=>H0,cxTi,cxOrd,fun _=>none,false⟩
def g59p1:Pt:=nav [0,0,0] (nav [0] (bodyAt Try.f59))
def g59 (k:Nat) (a0:Int):Option Bool :=
 if (decide (0 ≤ a0)) then (if (decide (a0 ≤ 1114111)) then (if (decide (a0 < 55296)) then (some true) else (some (decide (57343 < a0)))) else (some false)) else (some false)
theorem g59_ok (k:Nat) (a0:Int) (r:Bool) (h:g59 k a0 = some r):PureOk Try.prog 59 [.i a0] (.bool r):=by
 refine qA4 Xg59 (fun _=>⟨rfl,rfl⟩) Try.func59 (by decide +kernel) (by kernel_rfl) (t:=g59 k a0) ?_ h
 unfold g59
 refine qA (eE:=[(0,.i a0)]) (by kernel_rfl) ?_
 let E1:Env:=[(5,.bool (decide (0 ≤ a0))),(4,.bool (decide (0 ≤ a0))),(3,.i a0),(2,.bool false),(0,.i a0)]
 refine oH 9 (atN 3 (ctl1 g59p1)) E1 (mkH []) ?_
 refine oS 5 (fun hb=>?_) (fun hb=>?_)
 ·let E2:Env:=((9,.bool (decide (a0 ≤ 1114111))) :: (8,.bool (decide (a0 ≤ 1114111))) :: (7,.bool (decide (a0 ≤ 1114111))) :: (6,.i a0) :: (5,.bool true) :: E1)
  refine oR 4 (atN 7 (ctl1 g59p1)) E2 ?_
  refine oS 9 (fun hb=>?_) (fun hb=>?_)
  ·refine oR 3 (atN 10 (ctl1 g59p1)) ((12,.bool (decide (a0 < 55296))) :: (11,.bool (decide (a0 < 55296))) :: (10,.i a0) :: (9,.bool true) :: E2) ?_
   refine oS 12 (fun hb=>?_) (fun hb=>?_)
   ·exact oQ 7
   ·exact oQ 7
  ·exact oQ 10
 ·exact oQ 14
def Xg36:Fx (Int × Int):=⟨Try.prog,cx,Try.f36,fun r => .tuple [.i r.1,.i r.2],0,fun _=>H0,cxTi,cxOrd,fun _=>none,false⟩
def g36p1:Pt:=nav [0,0,0,0] (nav [0] (bodyAt Try.f36))
def g36p2:Pt:=nav [0,0] g36p1
def g36p4:Pt:=nav [2,0,0] g36p2
def g36p7:Pt:=nav [0,0,0,0,0] (nav [0,0,0] g36p4)
def g36p8:Pt:=nav [0,0] g36p7
def g36p10:Pt:=nav [2,0] g36p8
def g36p11:Pt:=nav [0,0] g36p10
def g36p13:Pt:=nav [2,0] g36p11
def g36p14:Pt:=nav [0,0,0,0] (nav [1] g36p11)
def g36p15:Pt:=nav [0,0] g36p13
def g36p16:Pt:=nav [0,0] g36p14
def g36p18:Pt:=nav [2,0] g36p15
def g36p21:Pt:=nav [0,0] g36p18
def g36p22:Pt:=nav [0,0,0,0] (nav [2,0,0,0] g36p16)
def g36p26:Pt:=nav [0,0] (nav [0,0,0] g36p22)
def g36p27:Pt:=nav [1,0,0,0,0,0] g36p26
def g36p28:Pt:=nav [2,0,0,0] g36p26
def g36p29:Pt:=nav [0,0] g36p27
def g36p30:Pt:=nav [0,0] g36p28
def g36p32:Pt:=nav [2,0] g36p29
def qIo (k:Nat)  (a0:(List Nat)) (a1:Int) (z6:Int × Int × Int) (ih:Int → Int → Option (Int × Int)):Int → Int → Option (Int × Int) :=
 fun (y9_0:Int) (y9_1:Int)=>if (decide (y9_1 < z6.2.1)) then ((nthS a0 (fW .i64 (a1 + y9_1))).bind fun x1_4=>if (!decide (andI .u8 x1_4 192 = 128)) then (some (((-1):Int),(1:Int))) else ((nthS a0 (fW .i64 (a1 + y9_1))).bind fun x2_6=>ih (fW .i64 (fW .i64 (y9_0 * 64) + fW .i64 (andI .u8 x2_6 63))) (fW .i64 (y9_1 + 1)))) else (jn (fun (z10:Bool × Int)=>if z10.1 then (some (((-1):Int),(1:Int))) else (some (z10.2,z6.2.1))) (fun j10=>if (decide (y9_0 < z6.2.2)) then (j10 (true,y9_0)) else ((g59 k y9_0).bind fun x3_5=>j10 (!x3_5,y9_0))))
def qOx (k:Nat)  (a0:(List Nat)) (a1:Int) (z6:Int × Int × Int) (n:Nat):Int → Int → Option (Int × Int):=lp (fun _ _=>none) (qIo k a0 a1 z6) n
theorem qOw (k:Nat)   (a0:(List Nat)) (a1:Int) (z6:Int × Int × Int)  : ∀ (n:Nat) (y9_0:Int) (y9_1:Int),Ok Xg36 g36p22 [(0,.str a0),(1,.i a1),(6,.i y9_0),(7,.i z6.2.1),(8,.i z6.2.2),(9,.i y9_1)] (mkH []) (qOx k a0 a1 z6 n y9_0 y9_1):=by
 intro n
 induction n with
 | zero=>intro y9_0 y9_1; exact ok_none
 | succ n ih =>
  intro y9_0 y9_1
  show Ok _ _ _ _ (qIo k a0 a1 z6 (qOx k a0 a1 z6 n) y9_0 y9_1)
  unfold qIo
  refine qAf (p':=nav [0] g36p22) (by kernel_rfl) ?_
  let E9:Env:=[(61,.bool (decide (y9_1 < z6.2.1))),(60,.i z6.2.1),(59,.i y9_1),(0,.str a0),(1,.i a1),(6,.i y9_0),(7,.i z6.2.1),(8,.i z6.2.2),(9,.i y9_1)]
  refine oH 7 g36p26 E9 (mkH []) ?_
  refine oS 61 (fun hb=>?_) (fun hb=>?_)
  ·let E10:Env:=((67,.i (fW .i64 (a1 + y9_1))) :: (66,.i y9_1) :: (65,.i a1) :: (64,.str a0) :: (61,.bool true) :: E9)
   refine oR 11 (atN 4 (ctl1 g36p27)) E10 ?_
   refine oC (fun (x1_4:Int)=>(.y x1_4,(mkH []))) (atN 5 (ctl1 g36p27)) 68 (idxH (by kernel_rfl)) fun x1_4 hx1_4=>?_
   refine oH 3 g36p29 ((70,.bool (!decide (andI .u8 x1_4 192 = 128))) :: (69,.y (andI .u8 x1_4 192)) :: (68,.y x1_4) :: E10) (mkH []) ?_
   refine oK [0,1,6,7,8,9,70] [(0,.str a0),(1,.i a1),(6,.i y9_0),(7,.i z6.2.1),(8,.i z6.2.2),(9,.i y9_1),(70,.bool (!decide (andI .u8 x1_4 192 = 128)))] ?_
   refine oS 70 (fun hb=>?_) (fun hb=>?_)
   ·exact oQ 7
   ·refine oR 9 (atN 6 (ctl1 g36p32)) ((76,.i (fW .i64 (a1 + y9_1))) :: (75,.i y9_1) :: (74,.i a1) :: (73,.str a0) :: (72,.i (fW .i64 (y9_0 * 64))) :: (71,.i y9_0) :: (70,.bool false) :: (keepOnly ((70,.bool (!decide (andI .u8 x1_4 192 = 128))) :: (69,.y (andI .u8 x1_4 192)) :: (68,.y x1_4) :: E10) [0,1,6,7,8,9,70])) ?_
    refine oC (fun (x2_6:Int)=>(.y x2_6,(mkH []))) (atN 7 (ctl1 g36p32)) 77 (idxH (by kernel_rfl)) fun x2_6 hx2_6=>?_
    let E14:Env:=[(0,.str a0),(1,.i a1),(6,.i (fW .i64 (fW .i64 (y9_0 * 64) + fW .i64 (andI .u8 x2_6 63)))),(7,.i z6.2.1),(8,.i z6.2.2),(9,.i y9_1)]
    refine oLH 5 (nav [0,0] g36p32) E14 (mkH []) ?_
    refine oR 5 g36p22 ((9,.i (fW .i64 (y9_1 + 1))) :: (63,.i (fW .i64 (y9_1 + 1))) :: (62,.i y9_1) :: E14) ?_
    refine oK [0,1,6,7,8,9] [(0,.str a0),(1,.i a1),(6,.i (fW .i64 (fW .i64 (y9_0 * 64) + fW .i64 (andI .u8 x2_6 63)))),(7,.i z6.2.1),(8,.i z6.2.2),(9,.i (fW .i64 (y9_1 + 1)))] ?_
    exact ih (fW .i64 (fW .i64 (y9_0 * 64) + fW .i64 (andI .u8 x2_6 63))) (fW .i64 (y9_1 + 1))
  ·let E16:Env:=((84,.bool (decide (y9_0 < z6.2.2))) :: (83,.bool (decide (y9_0 < z6.2.2))) :: (82,.i z6.2.2) :: (81,.i y9_0) :: (61,.bool false) :: E9)
   refine oR 9 (atN 4 (ctl1 g36p28)) E16 ?_
   refine oJ g36p30 (fun (z10:Bool × Int)=>[(6,.i z10.2),(7,.i z6.2.1),(88,.bool z10.1)]) (fun (z10:Bool × Int)=>(mkH [])) (fun z10=>?_) (fun j10 hj10=>?_)
   ·refine oS 88 (fun hb=>?_) (fun hb=>?_)
    ·exact oQ 7
    ·exact oQ 10
   ·refine oS 84 (fun hb=>?_) (fun hb=>?_)
    ·refine oLH 5 g36p30 [(6,.i y9_0),(7,.i z6.2.1),(88,.bool true)] (mkH []) ?_
     exact hj10 (true,y9_0)
    ·refine oH 1 (atN 5 (ctl1 g36p28)) ((85,.i y9_0) :: (84,.bool false) :: E16) (mkH []) ?_
     refine oA (fun (x3_5:Bool) => .bool x3_5) (atN 6 (ctl1 g36p28)) 86 [.i y9_0] (g59_ok k y9_0) fun x3_5 hx3_5=>?_
     refine oL 3 g36p30 [(6,.i y9_0),(7,.i z6.2.1),(88,.bool (!x3_5))] ?_
     exact hj10 (!x3_5,y9_0)
def g36 (k:Nat) (a0:(List Nat)) (a1:Int):Option (Int × Int) :=
 jn (fun (z4:Bool)=>if z4 then (some ((0:Int),(0:Int))) else ((nthS a0 a1).bind fun x0_2=>if (decide (fW .i64 x0_2 < 128)) then (some (fW .i64 x0_2,(1:Int))) else (jn (fun (z5:Bool)=>jn (fun (z6:Int × Int × Int)=>if (decide (fW .i64 ((a0.length:Int) - a1) < z6.2.1)) then (some (((-1):Int),(1:Int))) else (qOx k a0 a1 z6 k z6.1 1)) (fun j6=>if z5 then (j6 (andI .i64 (fW .i64 x0_2) 31,2,128)) else (jn (fun (z7:Bool)=>if z7 then (j6 (andI .i64 (fW .i64 x0_2) 15,3,2048)) else (jn (fun (z8:Bool)=>if z8 then (j6 (andI .i64 (fW .i64 x0_2) 7,4,65536)) else (some (((-1):Int),(1:Int)))) (fun j8=>if (decide (240 ≤ fW .i64 x0_2)) then (j8 (decide (fW .i64 x0_2 < 248))) else (j8 false)))) (fun j7=>if (decide (224 ≤ fW .i64 x0_2)) then (j7 (decide (fW .i64 x0_2 < 240))) else (j7 false))))) (fun j5=>if (decide (192 ≤ fW .i64 x0_2)) then (j5 (decide (fW .i64 x0_2 < 224))) else (j5 false))))) (fun j4=>if (decide (a1 < 0)) then (j4 true) else (j4 (decide ((a0.length:Int) ≤ a1))))
theorem qL0 (k:Nat) (a0:(List Nat)) (a1:Int) (r:(Int × Int)) (h:g36 k a0 a1 = some r):PureOk Try.prog 36 [.str a0,.i a1] (.tuple [.i r.1,.i r.2]):=by
 refine qA4 Xg36 (fun _=>⟨rfl,rfl⟩) Try.func36 (by decide +kernel) (by kernel_rfl) (t:=g36 k a0 a1) ?_ h
 unfold g36
 refine qA (eE:=[(0,.str a0),(1,.i a1)]) (by kernel_rfl) ?_
 refine oH 11 (atN 3 (ctl1 g36p1)) [(12,.bool (decide (a1 < 0))),(11,.bool (decide (a1 < 0))),(10,.i a1),(5,.i 0),(4,.i 0),(0,.str a0),(1,.i a1)] (mkH []) ?_
 refine oJ g36p2 (fun (z4:Bool)=>[(0,.str a0),(1,.i a1),(17,.bool z4)]) (fun (z4:Bool)=>(mkH [])) (fun z4=>?_) (fun j4 hj4=>?_)
 ·refine oS 17 (fun hb=>?_) (fun hb=>?_)
  ·exact oQ 7
  ·refine oH 6 (atN 2 (ctl1 g36p4)) [(19,.i a1),(18,.str a0),(17,.bool false),(0,.str a0),(1,.i a1),(17,.bool z4)] (mkH []) ?_
   refine oC (fun (x0_2:Int)=>(.y x0_2,(mkH []))) (atN 3 (ctl1 g36p4)) 20 (idxH (by kernel_rfl)) fun x0_2 hx0_2=>?_
   let E5:Env:=[(0,.str a0),(1,.i a1),(6,.i (fW .i64 x0_2))]
   refine oLH 11 g36p7 E5 (mkH []) ?_
   refine oR 5 g36p8 ((22,.bool (decide (fW .i64 x0_2 < 128))) :: (24,.bool (decide (fW .i64 x0_2 < 128))) :: (23,.i (fW .i64 x0_2)) :: E5) ?_
   refine oS 22 (fun hb=>?_) (fun hb=>?_)
   ·exact oQ 8
   ·refine oR 6 (atN 3 (ctl1 g36p10)) ((29,.bool (decide (192 ≤ fW .i64 x0_2))) :: (28,.bool (decide (192 ≤ fW .i64 x0_2))) :: (27,.i (fW .i64 x0_2)) :: (22,.bool false) :: (22,.bool (decide (fW .i64 x0_2 < 128))) :: (24,.bool (decide (fW .i64 x0_2 < 128))) :: (23,.i (fW .i64 x0_2)) :: E5) ?_
    refine oJ g36p11 (fun (z5:Bool)=>[(0,.str a0),(1,.i a1),(6,.i (fW .i64 x0_2)),(26,.bool z5)]) (fun (z5:Bool)=>(mkH [])) (fun z5=>?_) (fun j5 hj5=>?_)
    ·refine oJ g36p14 (fun (z6:Int × Int × Int)=>[(0,.str a0),(1,.i a1),(6,.i z6.1),(7,.i z6.2.1),(8,.i z6.2.2)]) (fun (z6:Int × Int × Int)=>(mkH [])) (fun z6=>?_) (fun j6 hj6=>?_)
     ·let E8:Env:=[(58,.bool (decide (fW .i64 ((a0.length:Int) - a1) < z6.2.1))),(57,.i z6.2.1),(56,.i (fW .i64 ((a0.length:Int) - a1))),(55,.i a1),(54,.i (a0.length:Int)),(53,.str a0),(0,.str a0),(1,.i a1),(6,.i z6.1),(7,.i z6.2.1),(8,.i z6.2.2)]
      refine oH 8 g36p16 E8 (mkH []) ?_
      refine oS 58 (fun hb=>?_) (fun hb=>?_)
      ·exact oQ 7
      ·refine oR 9 g36p22 ((9,.i 1) :: (58,.bool false) :: E8) ?_
       refine oK [0,1,6,7,8,9] [(0,.str a0),(1,.i a1),(6,.i z6.1),(7,.i z6.2.1),(8,.i z6.2.2),(9,.i 1)] ?_
       exact (qOw k a0 a1 z6 k) z6.1 1
     ·refine oS 26 (fun hb=>?_) (fun hb=>?_)
      ·refine oLH 10 g36p14 [(0,.str a0),(1,.i a1),(6,.i (andI .i64 (fW .i64 x0_2) 31)),(7,.i 2),(8,.i 128)] (mkH []) ?_
       exact hj6 (andI .i64 (fW .i64 x0_2) 31,2,128)
      ·refine oH 6 (atN 3 (ctl1 g36p13)) [(38,.bool (decide (224 ≤ fW .i64 x0_2))),(37,.bool (decide (224 ≤ fW .i64 x0_2))),(36,.i (fW .i64 x0_2)),(26,.bool false),(0,.str a0),(1,.i a1),(6,.i (fW .i64 x0_2)),(26,.bool z5)] (mkH []) ?_
       refine oJ g36p15 (fun (z7:Bool)=>[(0,.str a0),(1,.i a1),(6,.i (fW .i64 x0_2)),(35,.bool z7)]) (fun (z7:Bool)=>(mkH [])) (fun z7=>?_) (fun j7 hj7=>?_)
       ·refine oS 35 (fun hb=>?_) (fun hb=>?_)
        ·refine oLH 10 g36p14 [(0,.str a0),(1,.i a1),(6,.i (andI .i64 (fW .i64 x0_2) 15)),(7,.i 3),(8,.i 2048)] (mkH []) ?_
         exact hj6 (andI .i64 (fW .i64 x0_2) 15,3,2048)
        ·refine oH 6 (atN 3 (ctl1 g36p18)) [(47,.bool (decide (240 ≤ fW .i64 x0_2))),(46,.bool (decide (240 ≤ fW .i64 x0_2))),(45,.i (fW .i64 x0_2)),(35,.bool false),(0,.str a0),(1,.i a1),(6,.i (fW .i64 x0_2)),(35,.bool z7)] (mkH []) ?_
         refine oJ g36p21 (fun (z8:Bool)=>[(0,.str a0),(1,.i a1),(6,.i (fW .i64 x0_2)),(44,.bool z8)]) (fun (z8:Bool)=>(mkH [])) (fun z8=>?_) (fun j8 hj8=>?_)
         ·refine oS 44 (fun hb=>?_) (fun hb=>?_)
          ·refine oLH 10 g36p14 [(0,.str a0),(1,.i a1),(6,.i (andI .i64 (fW .i64 x0_2) 7)),(7,.i 4),(8,.i 65536)] (mkH []) ?_
           exact hj6 (andI .i64 (fW .i64 x0_2) 7,4,65536)
          ·exact oQ 7
         ·refine oS 47 (fun hb=>?_) (fun hb=>?_)
          ·refine oLH 5 g36p21 [(0,.str a0),(1,.i a1),(6,.i (fW .i64 x0_2)),(44,.bool (decide (fW .i64 x0_2 < 248)))] (mkH []) ?_
           exact hj8 (decide (fW .i64 x0_2 < 248))
          ·refine oLH 5 g36p21 [(0,.str a0),(1,.i a1),(6,.i (fW .i64 x0_2)),(44,.bool false)] (mkH []) ?_
           exact hj8 false
       ·refine oS 38 (fun hb=>?_) (fun hb=>?_)
        ·refine oLH 5 g36p15 [(0,.str a0),(1,.i a1),(6,.i (fW .i64 x0_2)),(35,.bool (decide (fW .i64 x0_2 < 240)))] (mkH []) ?_
         exact hj7 (decide (fW .i64 x0_2 < 240))
        ·refine oLH 5 g36p15 [(0,.str a0),(1,.i a1),(6,.i (fW .i64 x0_2)),(35,.bool false)] (mkH []) ?_
         exact hj7 false
    ·refine oS 29 (fun hb=>?_) (fun hb=>?_)
     ·refine oLH 5 g36p11 [(0,.str a0),(1,.i a1),(6,.i (fW .i64 x0_2)),(26,.bool (decide (fW .i64 x0_2 < 224)))] (mkH []) ?_
      exact hj5 (decide (fW .i64 x0_2 < 224))
     ·refine oLH 5 g36p11 [(0,.str a0),(1,.i a1),(6,.i (fW .i64 x0_2)),(26,.bool false)] (mkH []) ?_
      exact hj5 false
 ·refine oS 12 (fun hb=>?_) (fun hb=>?_)
  ·refine oLH 6 g36p2 [(0,.str a0),(1,.i a1),(17,.bool true)] (mkH []) ?_
   exact hj4 true
  ·refine oLH 6 g36p2 [(0,.str a0),(1,.i a1),(17,.bool (decide ((a0.length:Int) ≤ a1)))] (mkH []) ?_
   exact hj4 (decide ((a0.length:Int) ≤ a1))
def Xg24:Fx Bool:=⟨Try.prog,cx,Try.f24,fun r => .bool r,0,fun _=>H0,cxTi,cxOrd,fun _=>none,false⟩
def g24p2:Pt:=nav [0,0,0,0] (nav [0,0,0,0] (nav [0] (bodyAt Try.f24)))
def g24p4:Pt:=nav [0,0] (nav [0,0,0] g24p2)
def g24p5:Pt:=nav [1,0,0,0] g24p4
def g24p7:Pt:=nav [0,0,0,0] g24p5
def qIr (k:Nat)  (a0:(List Nat)) (ih:Int → Option Bool):Int → Option Bool :=
 fun (y1_0:Int)=>if (decide (y1_0 < (a0.length:Int))) then ((g36 k a0 y1_0).bind fun x0_2=>if (decide (x0_2.1 < 0)) then (some false) else (ih (fW .i64 (y1_0 + x0_2.2)))) else (some true)
def qFe (k:Nat)  (a0:(List Nat)) (n:Nat):Int → Option Bool:=lp (fun _=>none) (qIr k a0) n
theorem g24_l1_s (k:Nat)  (a0:(List Nat)) (n:Nat) (y1_0:Int):qFe k a0 (n + 1) y1_0 = (if (decide (y1_0 < (a0.length:Int))) then ((g36 k a0 y1_0).bind fun x0_2=>if (decide (x0_2.1 < 0)) then (some false) else ((qFe k a0 n) (fW .i64 (y1_0 + x0_2.2)))) else (some true)):=rfl
theorem qP1 (k:Nat)   (a0:(List Nat))  : ∀ (n:Nat) (y1_0:Int),Ok Xg24 g24p2 [(0,.str a0),(3,.i y1_0)] (mkH []) (qFe k a0 n y1_0):=by
 intro n
 induction n with
 | zero=>intro y1_0; exact ok_none
 | succ n ih =>
  intro y1_0
  show Ok _ _ _ _ (qIr k a0 (qFe k a0 n) y1_0)
  unfold qIr
  refine qAf (p':=nav [0] g24p2) (by kernel_rfl) ?_
  let E1:Env:=[(9,.bool (decide (y1_0 < (a0.length:Int)))),(8,.i (a0.length:Int)),(7,.str a0),(6,.i y1_0),(0,.str a0),(3,.i y1_0)]
  refine oH 8 g24p4 E1 (mkH []) ?_
  refine oS 9 (fun hb=>?_) (fun hb=>?_)
  ·refine oR 7 (atN 2 (ctl1 g24p5)) ((12,.i y1_0) :: (11,.str a0) :: (9,.bool true) :: E1) ?_
   refine oA (fun (x0_2:(Int × Int)) => .tuple [.i x0_2.1,.i x0_2.2]) (atN 3 (ctl1 g24p5)) 13 [.str a0,.i y1_0] (qL0 k a0 y1_0) fun x0_2 hx0_2=>?_
   let E3:Env:=[(0,.str a0),(3,.i y1_0),(4,.i x0_2.1),(5,.i x0_2.2)]
   refine oL 8 g24p7 E3 ?_
   refine oR 4 (nav [0,0] g24p7) ((17,.bool (decide (x0_2.1 < 0))) :: (16,.i x0_2.1) :: E3) ?_
   refine oS 17 (fun hb=>?_) (fun hb=>?_)
   ·exact oQ 6
   ·refine oL 8 g24p2 [(0,.str a0),(3,.i (fW .i64 (y1_0 + x0_2.2)))] ?_
    exact ih (fW .i64 (y1_0 + x0_2.2))
  ·exact oQ 7
def g24 (k:Nat) (a0:(List Nat)):Option Bool :=
 qFe k a0 k 0
theorem g24_ok (k:Nat) (a0:(List Nat)) (r:Bool) (h:g24 k a0 = some r):PureOk Try.prog 24 [.str a0] (.bool r):=by
 refine qA4 Xg24 (fun _=>⟨rfl,rfl⟩) Try.func24 (by decide +kernel) (by kernel_rfl) (t:=g24 k a0) ?_ h
 unfold g24
 refine qA (eE:=[(0,.str a0)]) (by kernel_rfl) ?_
 refine oLH 11 g24p2 [(0,.str a0),(3,.i 0)] (mkH []) ?_
 exact (qP1 k a0 k) 0
def Xg25:Fx Int:=⟨Try.prog,cx,Try.f25,fun r => .i r,0,fun _=>H0,cxTi,cxOrd,fun _=>none,false⟩
def g25p1:Pt:=nav [0,0,0,0,0] (nav [0] (bodyAt Try.f25))
def g25p2:Pt:=nav [0,0,0] g25p1
def g25p3:Pt:=nav [0,0] g25p2
def qIq (k:Nat)  (a0:(List Nat)) (ih:Int → Option Int):Int → Option Int :=
 fun (y1_0:Int)=>jn (fun (z2:Bool × Int)=>if z2.1 then (ih (fW .i64 (z2.2 + 1))) else (some z2.2)) (fun j2=>if (decide (y1_0 < (a0.length:Int))) then ((nthS a0 y1_0).bind fun x0_7=>if (decide (x0_7 = 32)) then (j2 (true,y1_0)) else ((nthS a0 y1_0).bind fun x0_12=>if (decide (x0_12 = 9)) then (j2 (true,y1_0)) else ((nthS a0 y1_0).bind fun x0_18=>if (decide (x0_18 = 10)) then (j2 (true,y1_0)) else ((nthS a0 y1_0).bind fun x0_24=>j2 (decide (x0_24 = 13),y1_0))))) else (j2 (false,y1_0)))
def qEg (k:Nat)  (a0:(List Nat)) (n:Nat):Int → Option Int:=lp (fun _=>none) (qIq k a0) n
theorem qL1 (k:Nat)  (a0:(List Nat)) (n:Nat) (y1_0:Int):qEg k a0 (n + 1) y1_0 = (jn (fun (z2:Bool × Int)=>if z2.1 then ((qEg k a0 n) (fW .i64 (z2.2 + 1))) else (some z2.2)) (fun j2=>if (decide (y1_0 < (a0.length:Int))) then ((nthS a0 y1_0).bind fun x0_7=>if (decide (x0_7 = 32)) then (j2 (true,y1_0)) else ((nthS a0 y1_0).bind fun x0_12=>if (decide (x0_12 = 9)) then (j2 (true,y1_0)) else ((nthS a0 y1_0).bind fun x0_18=>if (decide (x0_18 = 10)) then (j2 (true,y1_0)) else ((nthS a0 y1_0).bind fun x0_24=>j2 (decide (x0_24 = 13),y1_0))))) else (j2 (false,y1_0)))):=rfl
theorem qP0 (k:Nat)   (a0:(List Nat))  : ∀ (n:Nat) (y1_0:Int),Ok Xg25 g25p1 [(0,.str a0),(1,.i y1_0)] (mkH []) (qEg k a0 n y1_0):=by
 intro n
 induction n with
 | zero=>intro y1_0; exact ok_none
 | succ n ih =>
  intro y1_0
  show Ok _ _ _ _ (qIq k a0 (qEg k a0 n) y1_0)
  unfold qIq
  refine qAf (p':=nav [0] g25p1) (by kernel_rfl) ?_
  let E1:Env:=[(9,.bool (decide (y1_0 < (a0.length:Int)))),(8,.bool (decide (y1_0 < (a0.length:Int)))),(7,.i (a0.length:Int)),(6,.str a0),(5,.i y1_0),(0,.str a0),(1,.i y1_0)]
  refine oH 8 (atN 5 (ctl1 g25p2)) E1 (mkH []) ?_
  refine oJ g25p3 (fun (z2:Bool × Int)=>[(0,.str a0),(1,.i z2.2),(32,.bool z2.1)]) (fun (z2:Bool × Int)=>(mkH [])) (fun z2=>?_) (fun j2 hj2=>?_)
  ·refine oS 32 (fun hb=>?_) (fun hb=>?_)
   ·refine oLH 8 g25p1 [(0,.str a0),(1,.i (fW .i64 (z2.2 + 1)))] (mkH []) ?_
    exact ih (fW .i64 (z2.2 + 1))
   ·exact oQ 8
  ·refine oS 9 (fun hb=>?_) (fun hb=>?_)
   ·refine oH 2 (atN 7 (ctl1 g25p2)) ((11,.i y1_0) :: (10,.str a0) :: (9,.bool true) :: E1) (mkH []) ?_
    refine oC (fun (x0_7:Int)=>(.y x0_7,(mkH []))) (atN 8 (ctl1 g25p2)) 12 (idxH (by kernel_rfl)) fun x0_7 hx0_7=>?_
    let E5:Env:=((14,.bool (decide (x0_7 = 32))) :: (13,.bool (decide (x0_7 = 32))) :: (12,.y x0_7) :: (11,.i y1_0) :: (10,.str a0) :: (9,.bool true) :: E1)
    refine oH 2 (atN 10 (ctl1 g25p2)) E5 (mkH []) ?_
    refine oS 14 (fun hb=>?_) (fun hb=>?_)
    ·refine oL 19 g25p3 [(0,.str a0),(1,.i y1_0),(32,.bool true)] ?_
     exact hj2 (true,y1_0)
    ·refine oR 2 (atN 12 (ctl1 g25p2)) ((16,.i y1_0) :: (15,.str a0) :: (14,.bool false) :: E5) ?_
     refine oC (fun (x0_12:Int)=>(.y x0_12,(mkH []))) (atN 13 (ctl1 g25p2)) 17 (idxH (by kernel_rfl)) fun x0_12 hx0_12=>?_
     let E8:Env:=((20,.bool (decide (x0_12 = 9))) :: (19,.bool (decide (x0_12 = 9))) :: (18,.bool (decide (x0_12 = 9))) :: (17,.y x0_12) :: (16,.i y1_0) :: (15,.str a0) :: (14,.bool false) :: E5)
     refine oH 3 (atN 16 (ctl1 g25p2)) E8 (mkH []) ?_
     refine oS 20 (fun hb=>?_) (fun hb=>?_)
     ·refine oL 13 g25p3 [(0,.str a0),(1,.i y1_0),(32,.bool true)] ?_
      exact hj2 (true,y1_0)
     ·refine oR 2 (atN 18 (ctl1 g25p2)) ((22,.i y1_0) :: (21,.str a0) :: (20,.bool false) :: E8) ?_
      refine oC (fun (x0_18:Int)=>(.y x0_18,(mkH []))) (atN 19 (ctl1 g25p2)) 23 (idxH (by kernel_rfl)) fun x0_18 hx0_18=>?_
      let E11:Env:=((26,.bool (decide (x0_18 = 10))) :: (25,.bool (decide (x0_18 = 10))) :: (24,.bool (decide (x0_18 = 10))) :: (23,.y x0_18) :: (22,.i y1_0) :: (21,.str a0) :: (20,.bool false) :: E8)
      refine oH 3 (atN 22 (ctl1 g25p2)) E11 (mkH []) ?_
      refine oS 26 (fun hb=>?_) (fun hb=>?_)
      ·refine oL 7 g25p3 [(0,.str a0),(1,.i y1_0),(32,.bool true)] ?_
       exact hj2 (true,y1_0)
      ·refine oR 2 (atN 24 (ctl1 g25p2)) ((28,.i y1_0) :: (27,.str a0) :: (26,.bool false) :: E11) ?_
       refine oC (fun (x0_24:Int)=>(.y x0_24,(mkH []))) (atN 25 (ctl1 g25p2)) 29 (idxH (by kernel_rfl)) fun x0_24 hx0_24=>?_
       refine oLH 4 g25p3 [(0,.str a0),(1,.i y1_0),(32,.bool (decide (x0_24 = 13)))] (mkH []) ?_
       exact hj2 (decide (x0_24 = 13),y1_0)
   ·refine oLH 24 g25p3 [(0,.str a0),(1,.i y1_0),(32,.bool false)] (mkH []) ?_
    exact hj2 (false,y1_0)
def g25 (k:Nat) (a0:(List Nat)) (a1:Int):Option Int :=
 qEg k a0 k a1
theorem qP (k:Nat) (a0:(List Nat)) (a1:Int) (r:Int) (h:g25 k a0 a1 = some r):PureOk Try.prog 25 [.str a0,.i a1] (.i r):=by
 refine qA4 Xg25 (fun _=>⟨rfl,rfl⟩) Try.func25 (by decide +kernel) (by kernel_rfl) (t:=g25 k a0 a1) ?_ h
 unfold g25
 refine qA (eE:=[(0,.str a0),(1,.i a1)]) (by kernel_rfl) ?_
 refine oLH 7 g25p1 [(0,.str a0),(1,.i a1)] (mkH []) ?_
 exact (qP0 k a0 k) a1
def Xg37:Fx (List Nat):=⟨Try.prog,cx,Try.f37,fun r => .str r,0,fun _=>H0,cxTi,cxOrd,fun _=>none,false⟩
def g37p2:Pt:=nav [0,0,0,0,0] (nav [0,0,0] (nav [0] (bodyAt Try.f37)))
def g37p3:Pt:=nav [0,0,0] g37p2
def g37p4:Pt:=nav [0,0] g37p3
def g37p6:Pt:=nav [2,0,0] g37p4
def qIn (k:Nat)  (a0:(List Nat)) (ih:Int → Option (List Nat)):Int → Option (List Nat) :=
 fun (y2_0:Int)=>jn (fun (z3:Bool × Int)=>if z3.1 then (ih (fW .i64 (z3.2 - 1))) else ((subL a0 none (some z3.2)).bind fun x1_2=>some x1_2)) (fun j3=>if (decide (0 < y2_0)) then ((nthS a0 (fW .i64 (y2_0 - 1))).bind fun x0_6=>if (decide (x0_6 = 32)) then (j3 (true,y2_0)) else ((nthS a0 (fW .i64 (y2_0 - 1))).bind fun x0_12=>if (decide (x0_12 = 9)) then (j3 (true,y2_0)) else ((nthS a0 (fW .i64 (y2_0 - 1))).bind fun x0_19=>j3 (decide (x0_19 = 13),y2_0)))) else (j3 (false,y2_0)))
def qOv (k:Nat)  (a0:(List Nat)) (n:Nat):Int → Option (List Nat):=lp (fun _=>none) (qIn k a0) n
theorem qOu (k:Nat)   (a0:(List Nat))  : ∀ (n:Nat) (y2_0:Int),Ok Xg37 g37p2 [(0,.str a0),(3,.i y2_0)] (mkH []) (qOv k a0 n y2_0):=by
 intro n
 induction n with
 | zero=>intro y2_0; exact ok_none
 | succ n ih =>
  intro y2_0
  show Ok _ _ _ _ (qIn k a0 (qOv k a0 n) y2_0)
  unfold qIn
  refine qAf (p':=nav [0] g37p2) (by kernel_rfl) ?_
  let E2:Env:=[(8,.bool (decide (0 < y2_0))),(7,.bool (decide (0 < y2_0))),(6,.i y2_0),(0,.str a0),(3,.i y2_0)]
  refine oH 6 (atN 3 (ctl1 g37p3)) E2 (mkH []) ?_
  refine oJ g37p4 (fun (z3:Bool × Int)=>[(0,.str a0),(3,.i z3.2),(28,.bool z3.1)]) (fun (z3:Bool × Int)=>(mkH [])) (fun z3=>?_) (fun j3 hj3=>?_)
  ·refine oS 28 (fun hb=>?_) (fun hb=>?_)
   ·refine oLH 8 g37p2 [(0,.str a0),(3,.i (fW .i64 (z3.2 - 1)))] (mkH []) ?_
    exact ih (fW .i64 (z3.2 - 1))
   ·refine oH 6 (atN 2 (ctl1 g37p6)) [(32,.i z3.2),(31,.str a0),(28,.bool false),(0,.str a0),(3,.i z3.2),(28,.bool z3.1)] (mkH []) ?_
    refine oC (fun (x1_2:(List Nat))=>(.str x1_2,(mkH []))) (atN 3 (ctl1 g37p6)) 33 (subH none (some z3.2) (by kernel_rfl)) fun x1_2 hx1_2=>?_
    exact oQ 3
  ·refine oS 8 (fun hb=>?_) (fun hb=>?_)
   ·refine oH 3 (atN 6 (ctl1 g37p3)) ((11,.i (fW .i64 (y2_0 - 1))) :: (10,.i y2_0) :: (9,.str a0) :: (8,.bool true) :: E2) (mkH []) ?_
    refine oC (fun (x0_6:Int)=>(.y x0_6,(mkH []))) (atN 7 (ctl1 g37p3)) 12 (idxH (by kernel_rfl)) fun x0_6 hx0_6=>?_
    let E6:Env:=((14,.bool (decide (x0_6 = 32))) :: (13,.bool (decide (x0_6 = 32))) :: (12,.y x0_6) :: (11,.i (fW .i64 (y2_0 - 1))) :: (10,.i y2_0) :: (9,.str a0) :: (8,.bool true) :: E2)
    refine oH 2 (atN 9 (ctl1 g37p3)) E6 (mkH []) ?_
    refine oS 14 (fun hb=>?_) (fun hb=>?_)
    ·refine oL 15 g37p4 [(0,.str a0),(3,.i y2_0),(28,.bool true)] ?_
     exact hj3 (true,y2_0)
    ·refine oR 3 (atN 12 (ctl1 g37p3)) ((17,.i (fW .i64 (y2_0 - 1))) :: (16,.i y2_0) :: (15,.str a0) :: (14,.bool false) :: E6) ?_
     refine oC (fun (x0_12:Int)=>(.y x0_12,(mkH []))) (atN 13 (ctl1 g37p3)) 18 (idxH (by kernel_rfl)) fun x0_12 hx0_12=>?_
     let E9:Env:=((21,.bool (decide (x0_12 = 9))) :: (20,.bool (decide (x0_12 = 9))) :: (19,.bool (decide (x0_12 = 9))) :: (18,.y x0_12) :: (17,.i (fW .i64 (y2_0 - 1))) :: (16,.i y2_0) :: (15,.str a0) :: (14,.bool false) :: E6)
     refine oH 3 (atN 16 (ctl1 g37p3)) E9 (mkH []) ?_
     refine oS 21 (fun hb=>?_) (fun hb=>?_)
     ·refine oL 8 g37p4 [(0,.str a0),(3,.i y2_0),(28,.bool true)] ?_
      exact hj3 (true,y2_0)
     ·refine oR 3 (atN 19 (ctl1 g37p3)) ((24,.i (fW .i64 (y2_0 - 1))) :: (23,.i y2_0) :: (22,.str a0) :: (21,.bool false) :: E9) ?_
      refine oC (fun (x0_19:Int)=>(.y x0_19,(mkH []))) (atN 20 (ctl1 g37p3)) 25 (idxH (by kernel_rfl)) fun x0_19 hx0_19=>?_
      refine oLH 4 g37p4 [(0,.str a0),(3,.i y2_0),(28,.bool (decide (x0_19 = 13)))] (mkH []) ?_
      exact hj3 (decide (x0_19 = 13),y2_0)
   ·refine oLH 21 g37p4 [(0,.str a0),(3,.i y2_0),(28,.bool false)] (mkH []) ?_
    exact hj3 (false,y2_0)
def g37 (k:Nat) (a0:(List Nat)):Option (List Nat) :=
 qOv k a0 k (a0.length:Int)
theorem g37_ok (k:Nat) (a0:(List Nat)) (r:(List Nat)) (h:g37 k a0 = some r):PureOk Try.prog 37 [.str a0] (.str r):=by
 refine qA4 Xg37 (fun _=>⟨rfl,rfl⟩) Try.func37 (by decide +kernel) (by kernel_rfl) (t:=g37 k a0) ?_ h
 unfold g37
 refine qA (eE:=[(0,.str a0)]) (by kernel_rfl) ?_
 refine oLH 13 g37p2 [(0,.str a0),(3,.i (a0.length:Int))] (mkH []) ?_
 exact (qOu k a0 k) (a0.length:Int)
def Xg92:Fx Int:=⟨Try.prog,cx,Try.f92,fun r => .i r,0,fun _=>H0,cxTi,cxOrd,fun _=>none,false⟩
def g92p2:Pt:=nav [0,0,0,0,0] (nav [0,0,0] (nav [0] (bodyAt Try.f92)))
def g92p3:Pt:=nav [0,0] g92p2
def g92p5:Pt:=nav [2,0] g92p3
def g92p6:Pt:=nav [0,0,0,0] (nav [1] g92p3)
def g92p7:Pt:=nav [0,0] g92p5
def g92p10:Pt:=nav [2,0] g92p7
def g92p13:Pt:=nav [0,0] g92p10
def g92 (k:Nat) (a0:Int) (a1:Int):Option Int :=
 (g60 k a0).bind fun x0_1=>jn (fun (z1:Int)=>if (decide (a1 ≤ z1)) then (some ((-1):Int)) else (some z1)) (fun j1=>if x0_1 then (j1 (fW .i64 (fW .u8 (a0 - 48)))) else (jn (fun (z2:Bool)=>if z2 then (j1 (fW .i64 (fW .i64 (fW .u8 (a0 - 97)) + 10))) else (jn (fun (z3:Bool)=>if z3 then (j1 (fW .i64 (fW .i64 (fW .u8 (a0 - 65)) + 10))) else (j1 (-1))) (fun j3=>if (decide (65 ≤ a0)) then (j3 (decide (a0 ≤ 90))) else (j3 false)))) (fun j2=>if (decide (97 ≤ a0)) then (j2 (decide (a0 ≤ 122))) else (j2 false))))
theorem qKu (k:Nat) (a0:Int) (a1:Int) (r:Int) (h:g92 k a0 a1 = some r):PureOk Try.prog 92 [.y a0,.i a1] (.i r):=by
 refine qA4 Xg92 (fun _=>⟨rfl,rfl⟩) Try.func92 (by decide +kernel) (by kernel_rfl) (t:=g92 k a0 a1) ?_ h
 unfold g92
 refine qA (eE:=[(0,.y a0),(1,.i a1)]) (by kernel_rfl) ?_
 let E1:Env:=[(7,.y a0),(5,.i (-1)),(4,.i 0),(0,.y a0),(1,.i a1)]
 refine oH 13 (atN 1 (ctl1 g92p2)) E1 (mkH []) ?_
 refine oA (fun (x0_1:Bool) => .bool x0_1) (atN 2 (ctl1 g92p2)) 8 [.y a0] (qOg k a0) fun x0_1 hx0_1=>?_
 refine oR 2 g92p3 ((6,.bool x0_1) :: (8,.bool x0_1) :: E1) ?_
 refine oJ g92p6 (fun (z1:Int)=>[(1,.i a1),(5,.i z1)]) (fun (z1:Int)=>(mkH [])) (fun z1=>?_) (fun j1 hj1=>?_)
 ·refine oH 5 (nav [0,0] g92p6) [(36,.bool (decide (a1 ≤ z1))),(35,.i a1),(34,.i z1),(1,.i a1),(5,.i z1)] (mkH []) ?_
  refine oS 36 (fun hb=>?_) (fun hb=>?_)
  ·exact oQ 6
  ·exact oQ 8
 ·refine oS 6 (fun hb=>?_) (fun hb=>?_)
  ·refine oLH 9 g92p6 [(1,.i a1),(5,.i (fW .i64 (fW .u8 (a0 - 48))))] (mkH []) ?_
   exact hj1 (fW .i64 (fW .u8 (a0 - 48)))
  ·refine oH 6 (atN 3 (ctl1 g92p5)) ((15,.bool (decide (97 ≤ a0))) :: (14,.bool (decide (97 ≤ a0))) :: (13,.y a0) :: (6,.bool false) :: (6,.bool x0_1) :: (8,.bool x0_1) :: E1) (mkH []) ?_
   refine oJ g92p7 (fun (z2:Bool)=>[(0,.y a0),(1,.i a1),(5,.i (-1)),(12,.bool z2)]) (fun (z2:Bool)=>(mkH [])) (fun z2=>?_) (fun j2 hj2=>?_)
   ·refine oS 12 (fun hb=>?_) (fun hb=>?_)
    ·refine oLH 10 g92p6 [(1,.i a1),(5,.i (fW .i64 (fW .i64 (fW .u8 (a0 - 97)) + 10)))] (mkH []) ?_
     exact hj1 (fW .i64 (fW .i64 (fW .u8 (a0 - 97)) + 10))
    ·refine oH 6 (atN 3 (ctl1 g92p10)) [(26,.bool (decide (65 ≤ a0))),(25,.bool (decide (65 ≤ a0))),(24,.y a0),(12,.bool false),(0,.y a0),(1,.i a1),(5,.i (-1)),(12,.bool z2)] (mkH []) ?_
     refine oJ g92p13 (fun (z3:Bool)=>[(0,.y a0),(1,.i a1),(5,.i (-1)),(23,.bool z3)]) (fun (z3:Bool)=>(mkH [])) (fun z3=>?_) (fun j3 hj3=>?_)
     ·refine oS 23 (fun hb=>?_) (fun hb=>?_)
      ·refine oLH 10 g92p6 [(1,.i a1),(5,.i (fW .i64 (fW .i64 (fW .u8 (a0 - 65)) + 10)))] (mkH []) ?_
       exact hj1 (fW .i64 (fW .i64 (fW .u8 (a0 - 65)) + 10))
      ·refine oLH 4 g92p6 [(1,.i a1),(5,.i (-1))] (mkH []) ?_
       exact hj1 (-1)
     ·refine oS 26 (fun hb=>?_) (fun hb=>?_)
      ·refine oLH 5 g92p13 [(0,.y a0),(1,.i a1),(5,.i (-1)),(23,.bool (decide (a0 ≤ 90)))] (mkH []) ?_
       exact hj3 (decide (a0 ≤ 90))
      ·refine oLH 5 g92p13 [(0,.y a0),(1,.i a1),(5,.i (-1)),(23,.bool false)] (mkH []) ?_
       exact hj3 false
   ·refine oS 15 (fun hb=>?_) (fun hb=>?_)
    ·refine oLH 5 g92p7 [(0,.y a0),(1,.i a1),(5,.i (-1)),(12,.bool (decide (a0 ≤ 122)))] (mkH []) ?_
     exact hj2 (decide (a0 ≤ 122))
    ·refine oLH 5 g92p7 [(0,.y a0),(1,.i a1),(5,.i (-1)),(12,.bool false)] (mkH []) ?_
     exact hj2 false
def Xg73:Fx Int:=⟨Try.prog,cx,Try.f73,fun r => .i r,0,fun _=>H0,cxTi,cxOrd,fun _=>none,false⟩
def g73p2:Pt:=nav [0,0,0,0,0] (nav [0,0,0] (nav [0] (bodyAt Try.f73)))
def g73p4:Pt:=nav [0,0] (nav [0,0,0] g73p2)
def g73p5:Pt:=nav [1,0,0,0,0] g73p4
def g73p6:Pt:=nav [2,0,0] g73p4
def g73p7:Pt:=nav [0,0] g73p5
def qIb (k:Nat)  (a0:(List Nat)) (a1:Int) (a2:Int) (a3:Bool) (ih:Int → Option Int):Int → Option Int :=
 fun (y1_0:Int)=>jn (fun (z3:Int)=>some (fW .i64 (z3 - a1))) (fun j3=>if (decide (y1_0 < (a0.length:Int))) then ((nthS a0 y1_0).bind fun x0_2=>(g92 k x0_2 a2).bind fun x0_4=>jn (fun (z2:Bool × Int)=>if z2.1 then (j3 z2.2) else (ih (fW .i64 (z2.2 + 1)))) (fun j2=>if (decide (x0_4 < 0)) then (if a3 then ((nthS a0 y1_0).bind fun x0_11=>if (decide (x0_11 = 95)) then (if (decide (a1 < y1_0)) then ((nthS a0 (fW .i64 (y1_0 - 1))).bind fun x0_23=>if (!decide (x0_23 = 95)) then (if (decide (fW .i64 (y1_0 + 1) < (a0.length:Int))) then ((nthS a0 (fW .i64 (y1_0 + 1))).bind fun x0_37=>(g92 k x0_37 a2).bind fun x0_39=>j2 (!(decide (0 ≤ x0_39)),y1_0)) else (j2 (true,y1_0))) else (j2 (true,y1_0))) else (j2 (true,y1_0))) else (j2 (true,y1_0))) else (j2 (true,y1_0))) else (j2 (false,y1_0)))) else (j3 y1_0))
def qF8 (k:Nat)  (a0:(List Nat)) (a1:Int) (a2:Int) (a3:Bool) (n:Nat):Int → Option Int:=lp (fun _=>none) (qIb k a0 a1 a2 a3) n
theorem qKv (k:Nat)  (a0:(List Nat)) (a1:Int) (a2:Int) (a3:Bool) (n:Nat) (y1_0:Int):qF8 k a0 a1 a2 a3 (n + 1) y1_0 = (jn (fun (z3:Int)=>some (fW .i64 (z3 - a1))) (fun j3=>if (decide (y1_0 < (a0.length:Int))) then ((nthS a0 y1_0).bind fun x0_2=>(g92 k x0_2 a2).bind fun x0_4=>jn (fun (z2:Bool × Int)=>if z2.1 then (j3 z2.2) else ((qF8 k a0 a1 a2 a3 n) (fW .i64 (z2.2 + 1)))) (fun j2=>if (decide (x0_4 < 0)) then (if a3 then ((nthS a0 y1_0).bind fun x0_11=>if (decide (x0_11 = 95)) then (if (decide (a1 < y1_0)) then ((nthS a0 (fW .i64 (y1_0 - 1))).bind fun x0_23=>if (!decide (x0_23 = 95)) then (if (decide (fW .i64 (y1_0 + 1) < (a0.length:Int))) then ((nthS a0 (fW .i64 (y1_0 + 1))).bind fun x0_37=>(g92 k x0_37 a2).bind fun x0_39=>j2 (!(decide (0 ≤ x0_39)),y1_0)) else (j2 (true,y1_0))) else (j2 (true,y1_0))) else (j2 (true,y1_0))) else (j2 (true,y1_0))) else (j2 (true,y1_0))) else (j2 (false,y1_0)))) else (j3 y1_0))):=rfl
end
end Go.Proofs.Ythpplbkobokghaa.Am
