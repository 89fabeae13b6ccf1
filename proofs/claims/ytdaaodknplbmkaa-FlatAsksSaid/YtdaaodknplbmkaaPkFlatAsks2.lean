/- LawFlatAsks, part 2: whatever the input, the law comes out true: our texts, joined by a tool, without what the claim does not name. -/
import Derived.Test.YtdaaodknplbmkaaPkFlatAsks1
import Derived.KernelRfl
import Derived.Recover
import Derived.Lib.OthersKept
import Derived.Laws.RangeString
import Derived.Test.YtdaaodknplbmkaaProg
import Derived.Laws.Externs
import Derived.SizedLaws
import Derived.ChangeSlices
set_option maxRecDepth 100000
set_option linter.unusedVariables false
set_option linter.unusedSimpArgs false
set_option linter.unusedVariables false
set_option linter.unusedSimpArgs false
namespace Go.Proofs.Ytdaaodknplbmkaa.Am
open Go
theorem RW.still {m:Mp} {H:Hp} {w:World} {base:Nat} (h:RW m H w base):RW m.still H0 w w.heap.size where
 blk:=by intro r b v B N hb hm; cases hm
 dom:=by intro r v B N hm; cases hm
 sep:=by intro r v B N r' v' N' hm; cases hm
 fresh:=by intro r _; rfl
 vle:=by intro r v B N hm; cases hm
 frz:=h.frz
 fsep:=by intro i B cells r v N b _ hm; cases hm
 ffin:=h.ffin
 base_le:=Nat.le_refl _
 low:=by show 0 ≤ roots; unfold roots; omega
 tyk:=by intro C t h; cases h
def PureOk (P:Program) (f:Nat) (xs:List AV) (v:AV):Prop :=
 (∀ (m0:Mp) (w:World) (args:Array Value),(∀ r v,m0 r v = none) → VRs m0 xs args.toList → RW m0 H0 w w.heap.size → Calls P f args w fun x w' => ∃ m' c,x = .returned c ∧ RW m' H0 w' w.heap.size ∧ St m0 w w.heap.size m' w' ∧ VR m' v c) ∧
 (∃ fn,P.funcs[f]? = some fn ∧ (fn.name == "runtime.NumGoroutine") = false ∧ fn.body.isSome = true)
theorem qEq {P:Program} {f:Nat} {xs:List AV} {v:AV} (h:PureOk P f xs v) (hx:purs xs = true) (hv:pur v = true) (H:Hp):CallV P f xs H v H:=by
 refine ⟨?_,h.2⟩
 intro m w base args hargs rw
 refine Calls.mono (h.1 m.still w args (fun _ _=>rfl) (qB6 _ _ hx hargs) rw.still) ?_
 rintro x w' ⟨m',c,rfl,rw',st',hvc⟩
 have hnone:∀ r v,m' r v = none:=by
  intro r v
  cases e:m' r v with
  | none=>rfl
  | some p =>
   obtain ⟨b,hb,_⟩:=rw'.dom r v p.1 p.2 e
   cases hb
 have hsame:∀ B,B < w.heap.size → w'.heap[B]? = w.heap[B]? := fun B hB=>st'.same B hB (fun _ _ _ hm=>by cases hm)
 have hsub:Sub m ⟨m.map,m'.froz,m.tys⟩:=⟨fun _ _ _ h=>h,st'.sub.2,fun _ _ h=>h⟩
 refine ⟨⟨m.map,m'.froz,m.tys⟩,c,rfl,⟨?_,?_,rw.sep,rw.fresh,rw.vle,rw'.frz,?_,rw'.ffin,Nat.le_trans rw.base_le st'.size,rw.low,rw.tyk_same hsame⟩,⟨hsub,fun r v B N e => .inl ⟨v,N,e⟩,?_,st'.size,st'.os,st'.tape,st'.output,fun B hB _=>hsame B hB⟩,?_⟩
 ·intro r b v B N hb hm h1 h2
  obtain ⟨cs,ty,fr,q1,q2,q3,q4,q5⟩:=rw.blk r b v B N hb hm h1 h2
  obtain ⟨_,_,_,hlt,_⟩:=rw.dom r v B N hm
  exact ⟨cs,ty,fr,by rw [hsame B hlt]; exact q1,q2,q3,q4,VRs.mono hsub _ _ q5⟩
 ·intro r v B N hm
  obtain ⟨b,q1,q2,q3,q4⟩:=rw.dom r v B N hm
  exact ⟨b,q1,q2,Nat.lt_of_lt_of_le q3 st'.size,q4⟩
 ·intro i B cells r v N b hi hm hb
  rcases st'.fext i B cells hi with hi' | ⟨hB,_⟩
  ·exact rw.fsep i B cells r v N b hi' hm hb
  ·obtain ⟨_,_,_,hlt,_⟩:=rw.dom r v B N hm
   omega
 ·intro i B cells e
  rcases st'.fext i B cells e with hi' | ⟨hB,_⟩
  ·exact .inl hi'
  ·exact .inr ⟨Nat.le_trans rw.base_le hB,.inr hB⟩
 ·have h1:=qGi v c hv hvc
  exact VR.mono (m:=m'.still) (m':=⟨m.map,m'.froz,m.tys⟩) ⟨fun _ _ _ h=>(by cases h),fun _ _ h=>h,fun _ _ h=>(by cases h)⟩ v c h1
inductive Fr where
 | seq (b:Code) | block (id:Nat) | loop (b:Code) | scope (b:Code)
inductive Pt where
 | code (c:Code) (K:List Fr)
 | ops (o:Array Oper) (n:Nat) (K:List Fr)
 | loop (b:Code) (K:List Fr)
 | fin
def FinK (P : Program) (Q : Exit → Act → World → Prop) : List Fr → Exit → Act → World → Prop
 | []=>Q
 | .seq b :: K=>Exit.then (b.wp P (FinK P Q K)) (FinK P Q K)
 | .block id :: K=>Exit.inBlock id (FinK P Q K)
 | .loop b :: K=>Exit.then (LoopWp P b (FinK P Q K)) (FinK P Q K)
 | .scope b :: K=>fun e a w=>match e with | .goto l => ∃ rest,findLabel b l = some rest ∧ ScopeWp P b rest (FinK P Q K) a w | e=>FinK P Q K e a w
def At (P : Program) (Q : Exit → Act → World → Prop) : Pt → Act → World → Prop
 | .code c K,a,w=>c.wp P (FinK P Q K) a w
 | .ops o n K,a,w=>wpOps P o (FinK P Q K) (List.range' n (o.size - n)) a w
 | .loop b K,a,w=>LoopWp P b (FinK P Q K) a w
 | .fin,a,w=>Q .normal a w ∧ Q .ret a w
def resume : List Fr → Pt
 | [] => .fin
 | .seq b :: K => .code b K
 | .block _ :: K=>resume K
 | .loop b :: K => .loop b K
 | .scope _ :: K=>resume K
theorem qAq {P : Program} {Q : Exit → Act → World → Prop} {a : Act} {w : World} : ∀ {K : List Fr}, At P Q (resume K) a w → FinK P Q K .normal a w
 | [],h=>h.1
 | .seq b :: K,h=>h
 | .block id :: K,h=>by show Exit.inBlock id (FinK P Q K) .normal a w; exact qAq (K:=K) h
 | .loop b :: K,h=>h
 | .scope b :: K,h=>qAq (K:=K) h
def exitK (id : Nat) : List Fr → Option Pt
 | []=>none
 | .block j :: K=>if id = j then some (resume K) else exitK id K
 | .seq _ :: K=>exitK id K
 | .loop _ :: K=>exitK id K
 | .scope _ :: K=>exitK id K
theorem qC6 {P : Program} {Q : Exit → Act → World → Prop} {a : Act} {w : World} {id : Nat} {p : Pt} : ∀ {K : List Fr}, exitK id K = some p → At P Q p a w → FinK P Q K (.exit id) a w
 | [],h,_=>by cases h
 | .seq b :: K,h,k=>qC6 (K:=K) h k
 | .loop b :: K,h,k=>qC6 (K:=K) h k
 | .scope b :: K,h,k=>qC6 (K:=K) h k
 | .block j :: K,h,k=>by
  simp only [exitK] at h
  show Exit.inBlock j (FinK P Q K) (.exit id) a w
  simp only [Exit.inBlock]
  split at h
  ·rename_i e
   cases h
   rw [if_pos e]
   exact qAq k
  ·rename_i e
   rw [if_neg e]
   exact qC6 h k
def gotoK (l : Nat) : List Fr → Option Pt
 | []=>none
 | .scope b :: K=>match findLabel b l with | some rest=>some (.code rest (.scope b :: K)) | none=>none
 | .block _ :: K=>gotoK l K
 | .seq _ :: K=>gotoK l K
 | .loop _ :: K=>gotoK l K
theorem qGe {P:Program} {Q:Exit → Act → World → Prop} {a:Act} {w:World} {b c:Code} {K:List Fr} (h:c.wp P (FinK P Q (.scope b :: K)) a w):ScopeWp P b c (FinK P Q K) a w :=
 ScopeWp.of (wp_mono h fun e a1 w1 he=>by cases e <;> exact he)
theorem qCq {P : Program} {Q : Exit → Act → World → Prop} {a : Act} {w : World} {l : Nat} {p : Pt} : ∀ {K : List Fr}, gotoK l K = some p → At P Q p a w → FinK P Q K (.goto l) a w
 | [],h,_=>by cases h
 | .seq b :: K,h,k=>qCq (K:=K) h k
 | .loop b :: K,h,k=>qCq (K:=K) h k
 | .block b :: K,h,k=>qCq (K:=K) h k
 | .scope b :: K,h,k=>by
  simp only [gotoK] at h
  split at h
  ·rename_i rest hf
   cases h
   exact ⟨rest,hf,qGe k⟩
  ·cases h
theorem qCt {P : Program} {Q : Exit → Act → World → Prop} {a : Act} {w : World} (h : Q .ret a w) : ∀ (K : List Fr), FinK P Q K .ret a w
 | []=>h
 | .seq b :: K=>qCt h K
 | .loop b :: K=>qCt h K
 | .block b :: K=>qCt h K
 | .scope b :: K=>qCt h K
inductive FzG (n0:Nat) (H:Hp):List AV → List AV → Prop where
 | pures {xs}:purs xs = true → FzG n0 H xs xs
 | cons {x xs ys}:pur x = true → FzG n0 H xs ys → FzG n0 H (x :: xs) (x :: ys)
 | nil {sz xs ys}:FzG n0 H xs ys → FzG n0 H (.nils :: xs) (.vec 0 sz [] :: ys)
 | own {r len sz cells cells' minv xs ys}:Nat.ble n0 r = true → H.t.get r = some ⟨cells,minv,false⟩ → cells.length = len * sz → minv ≤ len * sz → FzG n0 H cells cells' → FzG n0 H xs ys → FzG n0 H (.own r len sz :: xs) (.vec len sz cells' :: ys)
 | slice {r len sz v cells cells' minv xs ys}:Nat.ble n0 r = true → H.t.get r = some ⟨cells,minv,false⟩ → cells.length = len * sz → v = len * sz → minv ≤ len * sz → FzG n0 H cells cells' → FzG n0 H xs ys → FzG n0 H (.slice r v 0 len sz :: xs) (.vec len sz cells' :: ys)
 | agg {xs ys zs us}:FzG n0 H xs ys → FzG n0 H zs us → FzG n0 H (.agg xs :: zs) (.agg ys :: us)
 | tuple {xs ys zs us}:FzG n0 H xs ys → FzG n0 H zs us → FzG n0 H (.tuple xs :: zs) (.tuple ys :: us)
structure FOk (n0:Nat) (m:Mp) (F:Nat → Option (Nat × List AV)) (w:World) (base:Nat):Prop where
 ok:∀ i B cells,F i = some (B,cells) → ∃ cs ty fr,w.heap[B]? = some (.cells cs ty fr) ∧ cells.length ≤ cs.size ∧ VRs ⟨fun _ _=>none,F,fun _=>none⟩ cells (cs.toList.take cells.length)
 fin:∃ n,∀ i,n ≤ i → F i = none
 new:∀ i B cells,F i = some (B,cells) → m.froz i = some (B,cells) ∨ base ≤ B ∧ ∃ r v N,n0 ≤ r ∧ m r v = some (B,N)
 sub:∀ i p,m.froz i = some p → F i = some p
theorem FzG.length {n0:Nat} {H:Hp} {xs ys:List AV} (h:FzG n0 H xs ys):ys.length = xs.length:=by
 induction h <;> simp_all
theorem qJt {n0 : Nat} {m : Mp} {F : Nat → Option (Nat × List AV)} {w : World} {base B : Nat} {cells : List AV} {cs : Array Value} {ty : TypeId} {fr : Nat × Nat} (h : FOk n0 m F w base) (hB : base ≤ B) (hmB : ∃ r v N, n0 ≤ r ∧ m r v = some (B, N)) (hw : w.heap[B]? = some (.cells cs ty fr)) (hl : cells.length ≤ cs.size) (hv : VRs ⟨fun _ _ => none, F, fun _ => none⟩ cells (cs.toList.take cells.length)) :
 ∃ F' i,FOk n0 m F' w base ∧ F' i = some (B,cells) ∧ (∀ i p,F i = some p → F' i = some p):=by
 obtain ⟨n,hn⟩:=h.fin
 have hsub:∀ i p,F i = some p → (fun i=>if i = n then some (B,cells) else F i) i = some p:=by
  intro i p hi
  simp only
  rw [if_neg]
  ·exact hi
  ·rintro rfl; rw [hn _ (Nat.le_refl _)] at hi; cases hi
 have hS:Sub ⟨fun _ _=>none,F,fun _=>none⟩ ⟨fun _ _=>none,fun i=>if i = n then some (B,cells) else F i,fun _=>none⟩:=⟨fun _ _ _ e=>(by cases e),hsub,fun _ _ e=>(by cases e)⟩
 refine ⟨fun i=>if i = n then some (B,cells) else F i,n,⟨?_,⟨n + 1,fun i hi=>?_⟩,?_,fun i p hi=>hsub i p (h.sub i p hi)⟩,by simp,hsub⟩
 ·intro i B' cells' hi
  by_cases e:i = n
  ·simp only [e,if_true] at hi
   cases hi
   exact ⟨cs,ty,fr,hw,hl,VRs.mono hS _ _ hv⟩
  ·simp only [e,if_false] at hi
   obtain ⟨cs2,ty2,fr2,h1,h2,h3⟩:=h.ok i B' cells' hi
   exact ⟨cs2,ty2,fr2,h1,h2,VRs.mono hS _ _ h3⟩
 ·have hne:¬ i = n:=by omega
  show (if i = n then some (B,cells) else F i) = none
  rw [if_neg hne]
  exact hn i (by omega)
 ·intro i B' cells' hi
  by_cases e:i = n
  ·simp only [e,if_true] at hi
   cases hi
   exact .inr ⟨hB,hmB⟩
  ·simp only [e,if_false] at hi
   exact h.new i B' cells' hi
theorem qCs (m:Mp) (sz:Nat):VR m (.vec 0 sz []) (.slice none 0 0):=by
 simp only [VR]
 exact ⟨by simp,none,0,rfl,Nat.le_refl _,by simp,by simp⟩
theorem fz_ok {n0:Nat} {m:Mp} {H:Hp} {w:World} {base:Nat} (rw:RW m H w base) {xs ys:List AV} (h:FzG n0 H xs ys):∀ {cs:List Value} {F:Nat → Option (Nat × List AV)},FOk n0 m F w base → VRs m xs cs → ∃ F',FOk n0 m F' w base ∧ (∀ i p,F i = some p → F' i = some p) ∧ VRs ⟨fun _ _=>none,F',fun _=>none⟩ ys cs:=by
 have still:∀ {F:Nat → Option (Nat × List AV)},FOk n0 m F w base → Sub m.still ⟨fun _ _=>none,F,fun _=>none⟩:=fun hF=>⟨fun _ _ _ e=>(by cases e),hF.sub,fun _ _ e=>(by cases e)⟩
 have grow:∀ {F F':Nat → Option (Nat × List AV)},(∀ i p,F i = some p → F' i = some p) → Sub ⟨fun _ _=>none,F,fun _=>none⟩ ⟨fun _ _=>none,F',fun _=>none⟩:=fun h=>⟨fun _ _ _ e=>(by cases e),h,fun _ _ e=>(by cases e)⟩
 have block : ∀ {r len sz minv cap B N : Nat} {cells cells' : List AV}, Nat.ble n0 r = true → H.t.get r = some ⟨cells, minv, false⟩ → cells.length = len * sz → minv ≤ len * sz → cells'.length = cells.length →
  (∀ {cs:List Value} {F:Nat → Option (Nat × List AV)},FOk n0 m F w base → VRs m cells cs → ∃ F',FOk n0 m F' w base ∧ (∀ i p,F i = some p → F' i = some p) ∧ VRs ⟨fun _ _=>none,F',fun _=>none⟩ cells' cs) →
  ∀ {F:Nat → Option (Nat × List AV)},FOk n0 m F w base → m r (len * sz) = some (B,N) → len ≤ cap → ∃ F',FOk n0 m F' w base ∧ (∀ i p,F i = some p → F' i = some p) ∧ VR ⟨fun _ _=>none,F',fun _=>none⟩ (.vec len sz cells') (.slice (some ⟨B,0,none⟩) len cap):=by
  intro r len sz minv cap B N cells cells' h0r hb hl hmin hl' ih F hF hm hcap
  obtain ⟨cs,ty,fr,q1,q2,q3,q4,q5⟩:=rw.blk _ _ _ _ _ hb hm hmin (by rw [hl]; exact Nat.le_refl _)
  obtain ⟨b0,hb0,_,_,hbase⟩:=rw.dom _ _ _ _ hm
  rw [hb] at hb0
  cases hb0
  simp only at q5
  rw [List.take_of_length_le (by omega)] at q5
  obtain ⟨F1,h1,h2,h3⟩:=ih hF q5
  obtain ⟨F2,i,g1,g2,g3⟩:=qJt h1 (hbase rfl) ⟨r,_,_,Nat.le_of_ble_eq_true h0r,hm⟩ q1 (cells:=cells') (by omega) (by rw [hl',hl]; exact h3)
  refine ⟨F2,g1,fun i p hi=>g3 i p (h2 i p hi),?_⟩
  simp only [VR]
  refine ⟨by omega,_,cap,rfl,hcap,fun e=>(by cases e),fun _=>⟨i,B,0,cells',g2,rfl,?_,by omega⟩⟩
  rw [List.drop_zero,List.take_of_length_le (by omega)]
 induction h with
 | pures hp =>
  intro cs F hF hv
  exact ⟨F,hF,fun _ _ h=>h,VRs.mono (still hF) _ _ (qB6 _ _ hp hv)⟩
 | cons hp _ ih =>
  intro cs F hF hv
  simp only [VRs] at hv ⊢
  obtain ⟨y,ys,rfl,h1,h2⟩:=hv
  obtain ⟨F',g1,g2,g3⟩:=ih hF h2
  exact ⟨F',g1,g2,y,ys,rfl,VR.mono (still g1) _ _ (qGi _ _ hp h1),g3⟩
 | nil _ ih =>
  intro cs F hF hv
  simp only [VRs] at hv ⊢
  obtain ⟨y,ys,rfl,h1,h2⟩:=hv
  obtain ⟨F',g1,g2,g3⟩:=ih hF h2
  simp only [VR] at h1
  subst h1
  exact ⟨F',g1,g2,_,ys,rfl,qCs _ _,g3⟩
 | @own r len sz cells cells' minv xs ys h0r hb hl hmin hc _ ih1 ih2 =>
  intro cs F hF hv
  simp only [VRs] at hv
  obtain ⟨c,cs',rfl,h1,h2⟩:=hv
  simp only [VR] at h1
  rcases h1 with ⟨h0,rfl⟩ | ⟨B,N,cap,hm,hcap,hN,rfl⟩
  ·obtain ⟨F',g1,g2,g3⟩:=ih2 hF h2
   refine ⟨F',g1,g2,?_⟩
   subst h0
   obtain rfl:cells' = []:=List.length_eq_zero_iff.1 (by rw [hc.length]; omega)
   simp only [VRs]
   exact ⟨_,_,rfl,qCs _ _,g3⟩
  ·obtain ⟨F1,g1,g2,g3⟩:=block h0r hb hl hmin hc.length ih1 hF hm hcap
   obtain ⟨F',e1,e2,e3⟩:=ih2 g1 h2
   refine ⟨F',e1,fun i p hi=>e2 i p (g2 i p hi),?_⟩
   simp only [VRs]
   exact ⟨_,_,rfl,VR.mono (grow e2) _ _ g3,e3⟩
 | @slice r len sz v cells cells' minv xs ys h0r hb hl hv0 hmin hc _ ih1 ih2 =>
  intro cs F hF hv
  simp only [VRs] at hv
  obtain ⟨c,cs',rfl,h1,h2⟩:=hv
  simp only [VR] at h1
  obtain ⟨B,N,cap,hm,_,hcap,hN,rfl⟩:=h1
  subst hv0
  obtain ⟨F1,g1,g2,g3⟩:=block h0r hb hl hmin hc.length ih1 hF hm hcap
  obtain ⟨F',e1,e2,e3⟩:=ih2 g1 h2
  refine ⟨F',e1,fun i p hi=>e2 i p (g2 i p hi),?_⟩
  simp only [VRs]
  exact ⟨_,_,rfl,VR.mono (grow e2) _ _ g3,e3⟩
 | agg _ _ ih1 ih2 =>
  intro cs F hF hv
  simp only [VRs,VR] at hv ⊢
  obtain ⟨c,cs',rfl,⟨zs,rfl,h1⟩,h2⟩:=hv
  obtain ⟨F1,g1,g2,g3⟩:=ih1 hF h1
  obtain ⟨F',e1,e2,e3⟩:=ih2 g1 h2
  exact ⟨F',e1,fun i p hi=>e2 i p (g2 i p hi),_,_,rfl,⟨zs,rfl,VRs.mono (grow e2) _ _ g3⟩,e3⟩
 | tuple _ _ ih1 ih2 =>
  intro cs F hF hv
  simp only [VRs,VR] at hv ⊢
  obtain ⟨c,cs',rfl,⟨zs,rfl,h1⟩,h2⟩:=hv
  obtain ⟨F1,g1,g2,g3⟩:=ih1 hF h1
  obtain ⟨F',e1,e2,e3⟩:=ih2 g1 h2
  exact ⟨F',e1,fun i p hi=>e2 i p (g2 i p hi),_,_,rfl,⟨zs,rfl,VRs.mono (grow e2) _ _ g3⟩,e3⟩
structure Fx (R:Type) where
 P:Program
 C:Cx
 fn:Func
 enc:R → AV
 n0:Nat
 fin:R → Hp
 hti:∀ t i,C.ti t = some i → mkTi P t = some i
 ord:P.follows .mixedOrders = true
 thr:R → Option (Value × List Nat)
 dfs:Bool
section
variable {R:Type} (X:Fx R)
def Ret (r:R) (m0:Mp) (w0:World) (b0:Nat):Exit → Act → World → Prop :=
 match X.dfs with
 | true=>bodyPostD X.P X.fn (EndT (X.thr r) (X.enc r) (X.fin r) m0 w0 b0)
 | false=>bodyPost X.P X.fn (EndT (X.thr r) (X.enc r) (X.fin r) m0 w0 b0)
theorem qF9 {X:Fx R} {r:R} {m0:Mp} {w0:World} {b0:Nat} {a:Act} {w:World} {c:Value} (hd:a.defers = []) (h1:(results X.fn a.tmps).run X.P w = .ok c w) (h2:EndT (X.thr r) (X.enc r) (X.fin r) m0 w0 b0 (.returned c) w):Ret X r m0 w0 b0 .normal a w ∧ Ret X r m0 w0 b0 .ret a w:=by
 have:Leaves X.P X.fn a.tmps (EndT (X.thr r) (X.enc r) (X.fin r) m0 w0 b0) a.defers .returning w:=by rw [hd]; exact ⟨c,h1,h2⟩
 unfold Ret
 cases X.dfs
 ·exact ⟨⟨hd,c,h1,h2⟩,⟨hd,c,h1,h2⟩⟩
 ·exact ⟨this,this⟩
theorem qEo {X:Fx R} {r:R} {m0:Mp} {w0:World} {b0:Nat} {f:Nat} {c:Code} {args:Array Value} {w:World} (hf:X.P.funcs[f]? = some X.fn) (hc:X.fn.body = some c) (h:c.wp X.P (Ret X r m0 w0 b0) { tmps:=args ++ Array.replicate (X.fn.ntmps - args.size) undef,defers:=[] } w):Calls X.P f args w (EndT (X.thr r) (X.enc r) (X.fin r) m0 w0 b0):=by
 unfold Ret at h
 cases hd:X.dfs with
 | true=>rw [hd] at h; exact calls_of_wp_defers hf hc h
 | false=>rw [hd] at h; exact calls_of_wp hf hc h
def Ok (p:Pt) (env:Env) (H:Hp) (t:Option R):Prop := ∀ r,t = some r → ∀ (m0:Mp) (w0:World) (b0:Nat) (m:Mp) (w:World) (a:Act),((∀ r v p,m0 r v = some p → r < X.n0) ∧ b0 ≤ w0.heap.size) → FR m env a.tmps → X.fn.ntmps ≤ a.tmps.size → a.defers = [] → RW m H w b0 → St m0 w0 b0 m w → At X.P (Ret X r m0 w0 b0) p a w
end
section
variable {R:Type} {X:Fx R} {p p':Pt} {env eE:Env} {H H':Hp}
theorem ok_none:Ok X p env H none:=by intro r h; cases h
theorem qAj {α:Type} {m:Option α} {f:α → Option R} (h:∀ x,m = some x → Ok X p env H (f x)):Ok X p env H (m.bind f):=by
 intro r hr
 cases hm:m with
 | none=>rw [hm] at hr; cases hr
 | some x=>rw [hm] at hr; exact h x hm r hr
theorem qFg {t:Option R} (h:Less env eE) (k:Ok X p eE H t):Ok X p env H t :=
 fun r hr m0 w0 b0 m w a h0 fr hn hd rw st=>k r hr m0 w0 b0 m w a h0 (fr.less h) hn hd rw st
theorem qFh {t:Option R} (ks:List Nat) (h:keepOnly env ks = eE) (k:Ok X p eE H t):Ok X p env H t :=
 qFg (h ▸ qC5 ks env) k
theorem ok_heap {t:Option R} (h:H = H') (k:Ok X p env H' t):Ok X p env H t:=h ▸ k
theorem qA1 {t:Option R} (h:env = eE) (k:Ok X p eE H t):Ok X p env H t:=h ▸ k
theorem qGt {d:Nat} {v:AV} (h:look env d = v):Less env (putE env d v):=by
 intro t
 rw [qAn]
 split
 ·rename_i e; subst e; exact .inr h.symm
 ·exact .inr rfl
theorem ok_split {t1 t2:Option R} (d:Nat) {b:Bool} (h:look env d = .bool b) (k1:b = true → Ok X p ((d,.bool true) :: env) H t1) (k2:b = false → Ok X p ((d,.bool false) :: env) H t2):Ok X p env H (if b then t1 else t2):=by
 cases b with
 | true=>exact qFg (qGt h) (k1 rfl)
 | false=>exact qFg (qGt h) (k2 rfl)
abbrev jn {α R:Type} (f:α → Option R) (b:(α → Option R) → Option R):Option R:=b f
theorem oJ {α:Type} {f:α → Option R} {b:(α → Option R) → Option R} (pj:Pt) (E:α → Env) (G:α → Hp) (k1:∀ x,Ok X pj (E x) (G x) (f x)) (k2:∀ j:α → Option R,(∀ x,Ok X pj (E x) (G x) (j x)) → Ok X p env H (b j)):Ok X p env H (jn f b):=k2 f k1
theorem qEz {t:Option R} {ops:Array Oper} {n:Nat} {K:List Fr} {o:Oper} {v:AV} (ho:ops[n]? = some o) (hd:dstOk X.fn.ntmps o = true) (hw:wantedV o ops.toList env = some true) (hs:Stp X.P X.C env H o v H') (k:Ok X (.ops ops (n + 1) K) (putV env o.dst v) H' t):Ok X (.ops ops n K) env H t:=by
 intro r hr m0 w0 b0 m w a h0 fr hn hdf rw st
 show wpOps X.P ops _ (List.range' n (ops.size - n)) a w
 have hlt:n < ops.size:=(Array.getElem?_eq_some_iff.1 ho).1
 rw [show ops.size - n = (ops.size - (n + 1)) + 1 by omega,List.range'_succ]
 simp only [wpOps,ho]
 rw [qBb hw fr]
 simp only [if_true]
 refine .inl ?_
 refine stp_ok X.hti hs fr rw _ _ fun m' w' c q1 q2 q3=>?_
 obtain ⟨f1,f2,f3⟩:=qAo (fr.mono q2.sub) hn hdf o hd v c q3
 exact k r hr m0 w0 b0 m' w' _ h0 f1 f2 f3 q1 (st.trans h0.2 q2)
theorem ok_skp {t:Option R} {ops:Array Oper} {n:Nat} {K:List Fr} {o:Oper} (ho:ops[n]? = some o) (hd:dstOk X.fn.ntmps o = true) (hw:wantedV o ops.toList env = some false) (k:Ok X (.ops ops (n + 1) K) (putV env o.dst (.tuple [])) H t):Ok X (.ops ops n K) env H t:=by
 intro r hr m0 w0 b0 m w a h0 fr hn hdf rw st
 show wpOps X.P ops _ (List.range' n (ops.size - n)) a w
 have hlt:n < ops.size:=(Array.getElem?_eq_some_iff.1 ho).1
 rw [show ops.size - n = (ops.size - (n + 1)) + 1 by omega,List.range'_succ]
 simp only [wpOps,ho]
 rw [qBb hw fr]
 simp only [Bool.false_eq_true,if_false]
 obtain ⟨f1,f2,f3⟩:=qAo fr hn hdf o hd (.tuple []) undef (qHf _)
 exact k r hr m0 w0 b0 m w _ h0 f1 f2 f3 rw st
theorem qD0 {t:Option R} (h:∀ (Q:Exit → Act → World → Prop) (a:Act) (w:World),True → At X.P Q p' a w → At X.P Q p a w) (k:Ok X p' env H t):Ok X p env H t :=
 fun r hr m0 w0 b0 m w a h0 fr hn hd rw st=>h _ a w trivial (k r hr m0 w0 b0 m w a h0 fr hn hd rw st)
end
section
variable {R:Type} {X:Fx R} {p p':Pt} {env eE:Env} {H H':Hp}
noncomputable def stepV (C:Cx) (n:Nat) (p:Pt) (env:Env) (H:Hp):Option (Pt × Env × Hp) :=
 match p with
 | .ops ops k K=>match nth ops.toList k with
  | some o=>bif dstOk n o then (match wantedV o ops.toList env with
   | some true=>(match opV C env H o with | some (v,H')=>some (.ops ops (k + 1) K,putV env o.dst v,H') | none=>none)
   | some false=>some (.ops ops (k + 1) K,putV env o.dst (.tuple []),H)
   | none=>none) else none
  | none=>some (resume K,env,H)
 | .code c K=>match c with
  | .seq a b=>some (.code a (.seq b :: K),env,H)
  | .skip=>some (resume K,env,H)
  | .label _=>some (resume K,env,H)
  | .block id b=>some (.code b (.block id :: K),env,H)
  | .scope b=>some (.code b (.scope b :: K),env,H)
  | .loop b=>some (.loop b K,env,H)
  | .exit id=>match exitK id K with | some q=>some (q,env,H) | none=>none
  | .goto l=>match gotoK l K with | some q=>some (q,env,H) | none=>none
  | .ret=>some (.fin,env,H)
  | .region id ops draw=>bif draw then none else some (.ops ops 0 K,env,H)
  | .cond c x y=>match opnd env c with | .bool b=>some (.code (bif b then x else y) K,env,H) | _=>none
  | _=>none
 | _=>none
theorem fin_ops {t:Option R} {ops:Array Oper} {n:Nat} {K:List Fr} (h:ops[n]? = none) (k:Ok X (resume K) env H t):Ok X (.ops ops n K) env H t:=by
 intro r hr m0 w0 b0 m w a h0 fr hn hd rw st
 show wpOps X.P ops _ (List.range' n (ops.size - n)) a w
 have hle:ops.size ≤ n:=by
  rcases Nat.lt_or_ge n ops.size with h1 | h1
  ·rw [Array.getElem?_eq_getElem h1] at h; cases h
  ·exact h1
 rw [show ops.size - n = 0 by omega]
 exact qAq (k r hr m0 w0 b0 m w a h0 fr hn hd rw st)
theorem stepV_ok {t:Option R} (h:stepV X.C X.fn.ntmps p env H = some (p',eE,H')) (k:Ok X p' eE H' t):Ok X p env H t:=by
 cases p with
 | ops ops n K =>
  simp only [stepV] at h
  rw [qC3,Array.getElem?_toList] at h
  cases ho:ops[n]? with
  | none=>rw [ho] at h; cases h; exact fin_ops ho k
  | some o =>
   rw [ho] at h
   simp only at h
   cases hd:dstOk X.fn.ntmps o with
   | false=>rw [hd] at h; cases h
   | true =>
    rw [hd] at h
    simp only [cond_true] at h
    split at h
    ·rename_i hw
     split at h
     ·rename_i v H1 hv
      cases h
      exact qEz ho hd hw (.inl hv) k
     ·cases h
    ·rename_i hw
     cases h
     exact ok_skp ho hd hw k
    ·cases h
 | code c K =>
  cases c <;> simp only [stepV] at h
  case seq x y=>cases h; exact qD0 (p' := .code x (.seq y :: K)) (fun Q a w _ hh=>wp_seq (wp_mono hh fun e a w he=>by cases e <;> exact he)) k
  case skip=>cases h; exact qD0 (fun Q a w _ hh=>wp_skip (qAq hh)) k
  case label=>cases h; exact qD0 (fun Q a w _ hh=>wp_label (qAq hh)) k
  case block id b=>cases h; exact qD0 (p' := .code b (.block id :: K)) (fun Q a w _ hh=>wp_block hh) k
  case scope b=>cases h; exact qD0 (p' := .code b (.scope b :: K)) (fun Q a w _ hh=>(qGe hh).wp) k
  case loop b=>cases h; exact qD0 (p' := .loop _ _) (fun Q a w _ hh=>LoopWp.wp hh) k
  case exit id =>
   split at h
   ·rename_i q hq
    cases h
    exact qD0 (fun Q a w _ hh=>wp_exit (qC6 hq hh)) k
   ·cases h
  case goto l =>
   split at h
   ·rename_i q hq
    cases h
    exact qD0 (fun Q a w _ hh=>wp_goto (qCq hq hh)) k
   ·cases h
  case ret=>cases h; exact qD0 (p' := .fin) (fun Q a w _ hh=>wp_ret (qCt hh.2 K)) k
  case region id ops draw =>
   cases draw with
   | true=>cases h
   | false =>
    cases h
    refine qD0 (fun Q a w _ hh=>wp_region ?_) k
    have hh':wpOps X.P ops (FinK X.P Q K) (List.range' 0 (ops.size - 0)) a w:=hh
    rw [List.range_eq_range']
    exact hh'
  case cond c x y =>
   split at h
   ·rename_i b hb
    cases h
    intro r hr m0 w0 b0 m w a h0 fr hn hd rw st
    have hc:=qAy fr c
    rw [hb] at hc
    simp only [VR] at hc
    refine wp_cond hc ?_
    have:=k r hr m0 w0 b0 m w a h0 fr hn hd rw st
    cases b <;> exact this
   ·cases h
  all_goals cases h
 | loop b K=>cases h
 | fin=>cases h
noncomputable def runV (C:Cx) (n:Nat) (k:Nat):Pt → Env → Hp → Option (Pt × Env × Hp) :=
 Nat.rec (motive := fun _ => Pt → Env → Hp → Option (Pt × Env × Hp)) (fun p env H => some (p, env, H))
  (fun _ ih p env H=>match stepV C n p env H with | some (p',eE,H')=>ih p' eE H' | none=>none) k
theorem qDm {t : Option R} : ∀ (k : Nat) {p : Pt} {env : Env} {H : Hp}, runV X.C X.fn.ntmps k p env H = some (p', eE, H') → Ok X p' eE H' t → Ok X p env H t
 | 0,p,env,H,h,g=>by
  have h':some (p,env,H) = some (p',eE,H'):=h
  cases h'
  exact g
 | k + 1,p,env,H,h,g=>by
  have h':(match stepV X.C X.fn.ntmps p env H with | some (p',eE,H')=>runV X.C X.fn.ntmps k p' eE H' | none=>none) = some (p',eE,H'):=h
  split at h'
  ·rename_i p1 env1 H1 hs
   exact stepV_ok hs (qDm k h' g)
  ·cases h'
def entL : Pt → Option Pt
 | .loop b K=>some (.code b (.loop b :: K))
 | _=>none
theorem qAe {t:Option R} (h:entL p = some p') (k:Ok X p' env H t):Ok X p env H t:=by
 cases p <;> simp only [entL] at h <;> cases h
 exact qD0 (p' := .code _ (.loop _ :: _)) (fun Q a w _ hh=>LoopWp.of (wp_mono hh fun e a w he=>by cases e <;> exact he)) k
noncomputable def operAt (n:Nat) (p:Pt) (env:Env):Option Oper :=
 match p with
 | .ops ops k K=>match nth ops.toList k with
  | some o=>bif dstOk n o then (match wantedV o ops.toList env with | some true=>some o | _=>none) else none
  | none=>none
 | _=>none
def adv : Pt → Pt
 | .ops ops k K => .ops ops (k + 1) K
 | q=>q
noncomputable def evalAt (C:Cx) (n:Nat) (p:Pt) (env:Env) (H:Hp):Option (AV × Hp) :=
 match operAt n p env with | some o=>opV C env H o | none=>none
noncomputable def advE (n:Nat) (p:Pt) (env:Env) (v:AV):Option (Pt × Env) :=
 match operAt n p env with | some o=>some (adv p,putV env o.dst v) | none=>none
noncomputable def callAt (n:Nat) (p:Pt) (env:Env):Option (Nat × List AV) :=
 match operAt n p env with
 | some o=>match o.op with
  | .call c=>match c.callee with
   | .value g=>match opnd env g with
    | .func f first caps=>some (f,first ++ opnds env c.args.toList ++ caps)
    | _=>none
   | _=>none
  | _=>none
 | none=>none
theorem qAs {n:Nat} {o:Oper} (h:operAt n p env = some o):∃ ops k K,p = .ops ops k K ∧ ops[k]? = some o ∧ dstOk n o = true ∧ wantedV o ops.toList env = some true:=by
 cases p <;> simp only [operAt] at h <;> try (cases h; done)
 rename_i ops k K
 rw [qC3,Array.getElem?_toList] at h
 cases ho:ops[k]? with
 | none=>rw [ho] at h; cases h
 | some o' =>
  rw [ho] at h
  simp only at h
  cases hd:dstOk n o' with
  | false=>rw [hd] at h; cases h
  | true =>
   rw [hd] at h
   simp only [cond_true] at h
   split at h
   ·rename_i hw
    cases h
    exact ⟨ops,k,K,rfl,ho,hd,hw⟩
   ·cases h
theorem ok_val {t:Option R} {v:AV} (h:evalAt X.C X.fn.ntmps p env H = some (v,H')) (ha:advE X.fn.ntmps p env v = some (p',eE)) (k:Ok X p' eE H' t):Ok X p env H t:=by
 unfold evalAt at h
 unfold advE at ha
 cases ho:operAt X.fn.ntmps p env with
 | none=>rw [ho] at h; cases h
 | some o =>
  rw [ho] at h ha
  simp only at h ha
  cases ha
  obtain ⟨ops,n,K,rfl,h1,h2,h3⟩:=qAs ho
  exact qEz h1 h2 h3 (.inl h) k
theorem ok_chk {α:Type} {m:Option α} {f:α → Option R} (g:α → AV × Hp) (p':Pt) (E:α → Env) (h:evalAt X.C X.fn.ntmps p env H = m.map g) (ha:∀ x,advE X.fn.ntmps p env (g x).1 = some (p',E x)) (k:∀ x,m = some x → Ok X p' (E x) (g x).2 (f x)):Ok X p env H (m.bind f):=by
 refine qAj fun x hx=>?_
 subst hx
 exact ok_val (v:=(g x).1) (H':=(g x).2) h (ha x) (k x rfl)
theorem ok_call {α:Type} {m:Option α} {f:α → Option R} {fi:Nat} {args:List AV} (g:α → AV) (p':Pt) (E:α → Env) (hc:callAt X.fn.ntmps p env = some (fi,args)) (hp:purs args = true) (hg:∀ x,pur (g x) = true) (hf:∀ x,m = some x → PureOk X.P fi args (g x)) (ha:∀ x,advE X.fn.ntmps p env (g x) = some (p',E x)) (k:∀ x,m = some x → Ok X p' (E x) H (f x)):Ok X p env H (m.bind f):=by
 refine qAj fun x hx=>?_
 have hpo:=qEq (hf x hx) hp (hg x) H
 have hax:=ha x
 unfold advE at hax
 unfold callAt at hc
 cases ho:operAt X.fn.ntmps p env with
 | none=>rw [ho] at hax; cases hax
 | some o =>
  rw [ho] at hax hc
  simp only [Option.some.injEq,Prod.mk.injEq] at hax hc
  obtain ⟨e1,e2⟩:=hax
  obtain ⟨ops,n,K,rfl,h1,h2,h3⟩:=qAs ho
  have kx:=k x hx
  rw [← e1,← e2] at kx
  split at hc
  ·rename_i c hoc
   split at hc
   ·rename_i q hq
    split at hc
    ·rename_i fi' first caps hfv
     cases hc
     exact qEz h1 h2 h3 (.inr ⟨c,q,fi,first,caps,hoc,hq,hfv,hpo⟩) kx
    ·cases hc
   ·cases hc
  ·cases hc
def drawAt : Pt → Option Pt
 | .code (.region _ _ true) K=>some (resume K)
 | _=>none
def opsAt : Pt → Array Oper
 | .code (.region _ ops _) _=>ops
 | _ => #[]
noncomputable def rdOp (C:Cx) (env:Env) (hs:List Hp) (o:Oper) (j:Nat):List (Option (AV × Hp) × Option (AV × Hp)) :=
 match nth hs j with
 | some H=>[(opV C env H o,match o.dst with | some d=>some (look env d,H) | none=>opV C env H o)]
 | none=>[]
noncomputable def rdOps (C : Cx) (env : Env) (hs : List Hp) (o : Oper) : Nat → Nat → List (Option (AV × Hp) × Option (AV × Hp))
 | _,0=>[]
 | lo,n + 1=>rdOp C env hs o lo ++ rdOps C env hs o (lo + 1) n
noncomputable def rdL (C : Cx) (D : DP) (all : List Oper) (env : Env) (hs : List Hp) : Nat → List Oper → List (Nat × Nat × Nat) → List (Option (AV × Hp) × Option (AV × Hp))
 | c,o :: l,(mk,lo,hi) :: pl=>(bif Nat.beq (clsS D.S o) 1 && !(mk.testBit D.tI) && !(Nat.beq lo c && Nat.beq hi c) then (match wantedV o all env with | some true=>rdOps C env hs o lo (hi + 1 - lo) | _=>[]) else []) ++ rdL C D all env hs (bif Nat.beq (clsS D.S o) 2 then c + 1 else c) l pl
 | _,_,_=>[]
theorem qGg {C : Cx} {env : Env} {hs : List Hp} {o : Oper} : ∀ (n lo j : Nat) (H : Hp), lo ≤ j → j < lo + n → hs[j]? = some H → (opV C env H o, match o.dst with | some d => some (look env d, H) | none => opV C env H o) ∈ rdOps C env hs o lo n
 | 0,lo,j,H,h1,h2,_=>by omega
 | n + 1,lo,j,H,h1,h2,h3=>by
  rw [rdOps,List.mem_append]
  by_cases e:lo = j
  ·subst e
   left
   unfold rdOp
   rw [qC3,h3]
   simp
  ·exact .inr (qGg n (lo + 1) j H (by omega) (by omega) h3)
theorem rdL_at {C : Cx} {D : DP} {all : List Oper} {env : Env} {hs : List Hp} : ∀ (l : List Oper) (pl : List (Nat × Nat × Nat)) (c i : Nat) (o : Oper) (mk lo hi : Nat), l[i]? = some o → pl[i]? = some (mk, lo, hi) → mk.testBit D.tI = false → clsS D.S o = 1 → wantedV o all env = some true → ¬ (lo = c + (l.take i).countP (fun p => Nat.beq (clsS D.S p) 2) ∧ hi = c + (l.take i).countP (fun p => Nat.beq (clsS D.S p) 2)) → ∀ j, lo ≤ j → j ≤ hi → ∀ H, hs[j]? = some H → (opV C env H o, match o.dst with | some d => some (look env d, H) | none => opV C env H o) ∈ rdL C D all env hs c l pl
 | [],pl,c,i,o,mk,lo,hi,ho,_,_,_,_,_,j,_,_,H,_=>by simp at ho
 | p :: l,[],c,i,o,mk,lo,hi,ho,hp,_,_,_,_,j,_,_,H,_=>by simp at hp
 | p :: l,(mk0,lo0,hi0) :: pl,c,i,o,mk,lo,hi,ho,hp,hmk,hc,hw,hn,j,h1,h2,H,hj=>by
  rw [rdL,List.mem_append]
  cases i with
  | zero =>
   simp at ho hp
   subst ho
   obtain ⟨rfl,rfl,rfl⟩:=hp
   left
   have e:Nat.beq (clsS D.S p) 1 = true:=by rw [hc]; rfl
   have e2:(Nat.beq lo0 c && Nat.beq hi0 c) = false:=by
    cases h:(Nat.beq lo0 c && Nat.beq hi0 c) with
    | false=>rfl
    | true =>
     simp only [Bool.and_eq_true] at h
     refine absurd (a:=lo0 = c ∧ hi0 = c) ⟨Nat.eq_of_beq_eq_true h.1,Nat.eq_of_beq_eq_true h.2⟩ ?_
     simpa using hn
   rw [e,e2,hw,hmk]
   exact qGg _ _ _ _ h1 (by omega) hj
  | succ i =>
   refine .inr (rdL_at l pl _ i o mk lo hi (by simpa using ho) (by simpa using hp) hmk hc hw ?_ j h1 h2 H hj)
   rw [List.take_succ_cons,List.countP_cons] at hn
   cases hb:Nat.beq (clsS D.S p) 2 with
   | true=>rw [hb] at hn; simp only [if_true] at hn; simp only [cond_true]; omega
   | false=>rw [hb] at hn; simp only [Bool.false_eq_true,if_false] at hn; simp only [cond_false]; omega
theorem alike_of {C:Cx} {D:DP} {ops:Array Oper} {env:Env} {hs:List Hp} (hsome:(rdL C D ops.toList env hs 0 ops.toList D.pl).all (fun q=>q.1.isSome) = true) (h:(rdL C D ops.toList env hs 0 ops.toList D.pl).map (·.1) = (rdL C D ops.toList env hs 0 ops.toList D.pl).map (·.2)):AlikeP C D ops env hs:=by
 intro i o mk lo hi ho hp hmk hc hw hn j h1 h2 H hj
 have hm:=rdL_at (C:=C) (D:=D) _ _ 0 i o mk lo hi ho hp hmk hc hw (by simpa using hn) j h1 h2 H hj
 have e:opV C env H o = (match o.dst with | some d=>some (look env d,H) | none=>opV C env H o):=by
  have key:∀ l:List (Option (AV × Hp) × Option (AV × Hp)),l.map (·.1) = l.map (·.2) → ∀ q ∈ l,q.1 = q.2:=by
   intro l
   induction l with
   | nil=>intro _ q hq; cases hq
   | cons x l ih =>
    intro hl q hq
    simp only [List.map_cons,List.cons.injEq] at hl
    rcases List.mem_cons.1 hq with rfl | hq
    ·exact hl.1
    ·exact ih hl.2 q hq
  exact key _ h _ hm
 have hs1:=List.all_eq_true.1 hsome _ hm
 cases hd:o.dst with
 | none =>
  simp only at hs1
  obtain ⟨⟨v,H1⟩,hv⟩:=Option.isSome_iff_exists.1 hs1
  have:=qEx (by rw [← qCf (qG5 (S:=D.S) (o:=o) (by omega))]; exact hc) hv
  subst this
  exact ⟨v,hv,fun d hd=>by cases hd⟩
 | some d =>
  rw [hd] at e
  exact ⟨_,e,fun d' hd'=>by cases hd'; rfl⟩
theorem ok_draw {t:Option R} (D:DP) {hs:List Hp} (h:drawAt p = some p') (hti:Nat.ble (opsAt p).size D.tI = true) (hp:planOk D.S (opsAt p) D.pl = true) (hds:(opsAt p).toList.all (dstOk X.fn.ntmps) = true) (hD:OpsD X.P X.C D (opsAt p).toList (opsAt p).toList env H eE hs) (hsome:(rdL X.C D (opsAt p).toList eE (H :: hs) 0 (opsAt p).toList D.pl).all (fun q=>q.1.isSome) = true) (hq:(rdL X.C D (opsAt p).toList eE (H :: hs) 0 (opsAt p).toList D.pl).map (·.1) = (rdL X.C D (opsAt p).toList eE (H :: hs) 0 (opsAt p).toList D.pl).map (·.2)) (hl:lastH H hs = H') (k:Ok X p' eE H' t):Ok X p env H t:=by
 subst hl
 unfold drawAt at h
 split at h
 ·rename_i id ops K
  cases h
  intro r hr m0 w0 b0 m w a h0 fr hn hd rw st
  have hge:=Nat.le_of_ble_eq_true hti
  show (Code.region id ops true).wp X.P _ a w
  refine drawS_ok (id:=id) X.hti X.ord hds hp hD (alike_of hsome hq) fr hn hd rw ?_ fun a m w w' hlt=>absurd hlt (Nat.not_lt.2 hge)
  rintro a' w' _ ⟨_,m',q1,q2,q3,q4,q5⟩
  exact qAq (k r hr m0 w0 b0 m' w' a' h0 q3 q4 q5 q1 (st.trans h0.2 q2))
 ·cases h
noncomputable def runD (C:Cx) (D:DP) (all:List Oper) (k:Nat):List Oper → Env → Hp → Option (List Oper × Env × Hp × List Hp) :=
 Nat.rec (motive := fun _ => List Oper → Env → Hp → Option (List Oper × Env × Hp × List Hp)) (fun l env H => some (l, env, H, []))
  (fun _ ih l env H=>match l with
   | []=>none
   | o :: l=>bif Nat.beq (all.length - (l.length + 1)) D.tI then none else match wantedV o all env with
    | none=>none
    | some false=>(match ih l (putV env o.dst (.tuple [])) H with
     | some (l',e,H',hs)=>some (l',e,H',bif Nat.beq (clsS D.S o) 2 then H :: hs else hs)
     | none=>none)
    | some true=>(match evS C D.S env H o with
     | some (v,H1)=>(match ih l (putV env o.dst v) H1 with
      | some (l',e,H',hs)=>some (l',e,H',bif Nat.beq (clsS D.S o) 2 then H1 :: hs else hs)
      | none=>none)
     | none=>none)) k
theorem qCo {P : Program} {C : Cx} {D : DP} {all : List Oper} {e : Env} {hs2 : List Hp} : ∀ (k : Nat) {l l' : List Oper} {env eE : Env} {H H' : Hp} {hs : List Hp}, runD C D all k l env H = some (l', eE, H', hs) → OpsD P C D all l' eE H' e hs2 → OpsD P C D all l env H e (hs ++ hs2)
 | 0,l,l',env,eE,H,H',hs,h,g=>by
  have h':some (l,env,H,([]:List Hp)) = some (l',eE,H',hs):=h
  cases h'
  exact g
 | k + 1,[],l',env,eE,H,H',hs,h,g=>by cases h
 | k + 1,o :: l,l',env,eE,H,H',hs,h,g=>by
  have h':(bif Nat.beq (all.length - (l.length + 1)) D.tI then none else match wantedV o all env with
   | none=>none
   | some false=>(match runD C D all k l (putV env o.dst (.tuple [])) H with
    | some (l',e,H',hs)=>some (l',e,H',bif Nat.beq (clsS D.S o) 2 then H :: hs else hs)
    | none=>none)
   | some true=>(match evS C D.S env H o with
    | some (v,H1)=>(match runD C D all k l (putV env o.dst v) H1 with
     | some (l',e,H',hs)=>some (l',e,H',bif Nat.beq (clsS D.S o) 2 then H1 :: hs else hs)
     | none=>none)
    | none=>none)) = some (l',eE,H',hs):=h
  cases hix:Nat.beq (all.length - (l.length + 1)) D.tI with
  | true=>rw [hix] at h'; cases h'
  | false =>
  rw [hix] at h'
  simp only [cond_false] at h'
  split at h'
  ·cases h'
  ·rename_i hw
   split at h'
   ·rename_i hr
    cases h'
    have:=OpsD.skip (P:=P) hix hw (qCo k hr g)
    cases hc:Nat.beq (clsS D.S o) 2 <;> rw [hc] at this <;> exact this
   ·cases h'
  ·rename_i hw
   split at h'
   ·rename_i v H1 hv
    split at h'
    ·rename_i hr
     cases h'
     have:=OpsD.val (P:=P) hix hw (.inl hv) (qCo k hr g)
     cases hc:Nat.beq (clsS D.S o) 2 <;> rw [hc] at this <;> exact this
    ·cases h'
   ·cases h'
noncomputable def headO (all l:List Oper) (env:Env):Option Oper:=match l with | o :: _=>(match wantedV o all env with | some true=>some o | _=>none) | []=>none
noncomputable def evalD (C:Cx) (D:DP) (all l:List Oper) (env:Env) (H:Hp):Option (AV × Hp):=match headO all l env with | some o=>evS C D.S env H o | none=>none
noncomputable def advD (D:DP) (all l:List Oper) (env:Env) (v:AV) (H:Hp):Option (List Oper × Env × List Hp):=bif Nat.beq (all.length - l.length) D.tI then none else match headO all l env with | some o=>some (l.tail,putV env o.dst v,bif Nat.beq (clsS D.S o) 2 then [H] else []) | none=>none
noncomputable def callD (all l:List Oper) (env:Env):Option (Nat × List AV) :=
 match headO all l env with
 | some o=>match o.op with
  | .call c=>match c.callee with
   | .value g=>match opnd env g with
    | .func f first caps=>some (f,first ++ opnds env c.args.toList ++ caps)
    | _=>none
   | _=>none
  | _=>none
 | none=>none
theorem qHm {all l:List Oper} {o:Oper} (h:headO all l env = some o):∃ r,l = o :: r ∧ wantedV o all env = some true:=by
 unfold headO at h
 split at h
 ·rename_i o' r
  split at h
  ·rename_i hw; cases h; exact ⟨r,rfl,hw⟩
  ·cases h
 ·cases h
theorem qGn {P:Program} {C:Cx} {D:DP} {all l l':List Oper} {e:Env} {hs hs2:List Hp} {o:Oper} {v:AV} (ho:headO all l env = some o) (hs0:StpS P C D.S env H o v H') (ha:advD D all l env v H' = some (l',eE,hs)) (g:OpsD P C D all l' eE H' e hs2):OpsD P C D all l env H e (hs ++ hs2):=by
 unfold advD at ha
 cases hix:Nat.beq (all.length - l.length) D.tI with
 | true=>rw [hix] at ha; cases ha
 | false =>
 rw [hix,ho] at ha
 cases ha
 obtain ⟨r,rfl,hw⟩:=qHm ho
 have:=OpsD.val hix hw hs0 g
 cases hc:Nat.beq (clsS D.S o) 2 <;> rw [hc] at this <;> exact this
theorem qE4 {P:Program} {C:Cx} {D:DP} {all l l':List Oper} {e:Env} {hs hs2:List Hp} {α:Type} {m:Option α} {x:α} (g:α → AV × Hp) (h:evalD C D all l env H = m.map g) (hx:m = some x) (ha:advD D all l env (g x).1 (g x).2 = some (l',eE,hs)) (k:OpsD P C D all l' eE (g x).2 e hs2):OpsD P C D all l env H e (hs ++ hs2):=by
 subst hx
 unfold evalD at h
 cases ho:headO all l env with
 | none=>rw [ho] at h; cases h
 | some o =>
  rw [ho] at h
  exact qGn (v:=(g x).1) ho (.inl h) ha k
theorem qC0 {P:Program} {C:Cx} {D:DP} {all l l':List Oper} {e:Env} {hs hs2:List Hp} {fi:Nat} {args:List AV} {v:AV} (hc:callD all l env = some (fi,args)) (hp:purs args = true) (hv:pur v = true) (hf:PureOk P fi args v) (ha:advD D all l env v H = some (l',eE,hs)) (k:OpsD P C D all l' eE H e hs2):OpsD P C D all l env H e (hs ++ hs2):=by
 have hpo:=qEq hf hp hv H
 unfold callD at hc
 cases ho:headO all l env with
 | none=>rw [ho] at hc; cases hc
 | some o =>
  rw [ho] at hc
  simp only at hc
  split at hc
  ·rename_i c hoc
   split at hc
   ·rename_i q hq
    split at hc
    ·rename_i fi' first caps hfv
     cases hc
     exact qGn (v:=v) ho (.inr ⟨c,q,fi,first,caps,hoc,hq,hfv,hpo⟩) ha k
    ·cases hc
   ·cases hc
  ·cases hc
noncomputable def mkT (n:Nat) (l:List Blk):Tr :=
 List.rec (motive:=fun _=>Nat → Tr) (fun _ => .nil) (fun b _ ih n=>PT.set depth (ih (n + 1)) n b) l n
theorem qFj (n:Nat):mkT n [] = .nil:=rfl
theorem qAm (n:Nat) (b:Blk) (l:List Blk):mkT n (b :: l) = PT.set depth (mkT (n + 1) l) n b:=rfl
noncomputable def mkH (l:List Blk):Hp:=⟨l.length,mkT 0 l⟩
theorem qAz : ∀ (l : List Blk) (n i : Nat), n + l.length ≤ roots → (mkT n l).get i = if n ≤ i then l[i - n]? else none
 | [],n,i,_=>by
  rw [qFj]
  simp only [List.getElem?_nil,ite_self]
  exact PT.get_nil i
 | b :: l,n,i,h=>by
  simp only [List.length_cons] at h
  by_cases e:n = i
  ·subst e
   rw [qAm,Tr.get_set_eq _ _ _ _ (by unfold roots at h; unfold depth; omega)]
   simp
  ·rw [qAm,Tr.get_set_ne _ _ _ _ _ e,qAz l (n + 1) i (by omega)]
   by_cases h1:n ≤ i
   ·rw [if_pos (by omega),if_pos h1,show i - n = (i - (n + 1)) + 1 by omega,List.getElem?_cons_succ]
   ·rw [if_neg (by omega),if_neg h1]
mutual
def below (n : Nat) : AV → Bool
 | .ptr r _ _=>Nat.blt r n
 | .slice r _ _ _ _=>Nat.blt r n
 | .own r _ _=>Nat.blt r n
 | .optp _ r _ _=>Nat.blt r n
 | .odat _ r _ _=>Nat.blt r n
 | .ownt _ r _ _=>Nat.blt r n
 | .tptr _ _ r _ _=>Nat.blt r n
 | .agg xs=>belows n xs
 | .tuple xs=>belows n xs
 | .func _ a b=>belows n a && belows n b
 | .iface _ v=>below n v
 | _=>true
def belows (n : Nat) : List AV → Bool
 | []=>true
 | x :: xs=>below n x && belows n xs
end
def Mp.cut (m:Mp) (n:Nat):Mp:=⟨fun r v=>if r < n then m r v else none,m.froz,m.tys⟩
mutual
theorem qCr {m : Mp} {n : Nat} : ∀ (x : AV) (c : Value), below n x = true → VR m x c → VR (m.cut n) x c
 | .top,_,_,_=>by simp only [VR]
 | .int ..,_,_,e=>by simpa only [VR] using e
 | .resid ..,_,_,e=>by simpa only [VR] using e
 | .bool _,_,_,e=>by simpa only [VR] using e
 | .str _,_,_,e=>by simpa only [VR] using e
 | .nilp,_,_,e=>by simpa only [VR] using e
 | .nils,_,_,e=>by simpa only [VR] using e
 | .nilf,_,_,e=>by simpa only [VR] using e
 | .nili,_,_,e=>by simpa only [VR] using e
 | .vec ..,_,_,e=>by simp only [VR] at e ⊢; exact e
 | .vptr ..,_,_,e=>by simp only [VR] at e ⊢; exact e
 | .ptr r v off,_,h,e=>by
  simp only [VR,below,Nat.blt_eq] at e h ⊢
  obtain ⟨B,N,h1,h2⟩:=e
  exact ⟨B,N,by show (if r < n then m r v else none) = _; rw [if_pos h]; exact h1,h2⟩
 | .slice r v off len sz,_,h,e=>by
  simp only [VR,below,Nat.blt_eq] at e h ⊢
  obtain ⟨B,N,cap,h1,h2⟩:=e
  exact ⟨B,N,cap,by show (if r < n then m r v else none) = _; rw [if_pos h]; exact h1,h2⟩
 | .own r len sz,_,h,e=>by
  simp only [VR,below,Nat.blt_eq] at e h ⊢
  rcases e with e | ⟨B,N,cap,h1,h2⟩
  ·exact .inl e
  ·exact .inr ⟨B,N,cap,by show (if r < n then m r (len * sz) else none) = _; rw [if_pos h]; exact h1,h2⟩
 | .optp s r v off,_,h,e=>by
  simp only [VR,below,Nat.blt_eq] at e h ⊢
  rcases e with e | ⟨e,B,N,h1,h2⟩
  ·exact .inl e
  ·exact .inr ⟨e,B,N,by show (if r < n then m r v else none) = _; rw [if_pos h]; exact h1,h2⟩
 | .ownt t r len sz,_,h,e=>by
  simp only [VR,below,Nat.blt_eq] at e h ⊢
  rcases e with e | ⟨B,N,cap,h1,h2⟩
  ·exact .inl e
  ·exact .inr ⟨B,N,cap,by show (if r < n then m r (len * sz) else none) = _; rw [if_pos h]; exact h1,h2⟩
 | .odat t r len sz,_,h,e=>by
  simp only [VR,below,Nat.blt_eq] at e h ⊢
  rcases e with e | ⟨B,N,h1,h2⟩
  ·exact .inl e
  ·exact .inr ⟨B,N,by show (if r < n then m r (len * sz) else none) = _; rw [if_pos h]; exact h1,h2⟩
 | .tptr t k r v off,_,h,e=>by
  simp only [VR,below,Nat.blt_eq] at e h ⊢
  obtain ⟨B,h1,h2⟩:=e
  exact ⟨B,by show (if r < n then m r v else none) = _; rw [if_pos h]; exact h1,h2⟩
 | .agg xs,c,h,e=>by
  simp only [VR] at e ⊢
  obtain ⟨ys,h1,h2⟩:=e
  exact ⟨ys,h1,qAh xs _ (by simpa only [below] using h) h2⟩
 | .tuple xs,c,h,e=>by
  simp only [VR] at e ⊢
  obtain ⟨ys,h1,h2⟩:=e
  exact ⟨ys,h1,qAh xs _ (by simpa only [below] using h) h2⟩
 | .func f a b,c,h,e=>by
  simp only [VR] at e ⊢
  simp only [below,Bool.and_eq_true] at h
  obtain ⟨ys,zs,h1,h2,h3⟩:=e
  exact ⟨ys,zs,h1,qAh a _ h.1 h2,qAh b _ h.2 h3⟩
 | .iface t v,c,h,e=>by
  simp only [VR] at e ⊢
  obtain ⟨d,h1,h2⟩:=e
  exact ⟨d,h1,qCr v _ (by simpa only [below] using h) h2⟩
theorem qAh {m : Mp} {n : Nat} : ∀ (xs : List AV) (cs : List Value), belows n xs = true → VRs m xs cs → VRs (m.cut n) xs cs
 | [],_,_,e=>by simpa only [VRs] using e
 | x :: xs,cs,h,e=>by
  simp only [VRs] at e ⊢
  simp only [belows,Bool.and_eq_true] at h
  obtain ⟨y,ys,rfl,h1,h2⟩:=e
  exact ⟨y,ys,rfl,qCr x y h.1 h1,qAh xs ys h.2 h2⟩
end
mutual
theorem qEr {n : Nat} : ∀ x : AV, pur x = true → below n x = true
 | .top,_ | .int ..,_ | .resid ..,_ | .bool _,_ | .str _,_ | .nilp,_ | .nils,_ | .nilf,_ | .nili,_ | .vec ..,_ | .vptr ..,_=>by simp [below]
 | .ptr ..,h | .slice ..,h | .own ..,h | .optp ..,h | .odat ..,h | .tptr ..,h | .ownt ..,h=>by simp [pur] at h
 | .agg xs,h=>by simp only [pur,below] at h ⊢; exact qA0 xs h
 | .tuple xs,h=>by simp only [pur,below] at h ⊢; exact qA0 xs h
 | .func _ a b,h=>by simp only [pur,below,Bool.and_eq_true] at h ⊢; exact ⟨qA0 a h.1,qA0 b h.2⟩
 | .iface _ v,h=>by simp only [pur,below] at h ⊢; exact qEr v h
theorem qA0 {n : Nat} : ∀ xs : List AV, purs xs = true → belows n xs = true
 | [],_=>rfl
 | x :: xs,h=>by simp only [purs,belows,Bool.and_eq_true] at h ⊢; exact ⟨qEr x h.1,qA0 xs h.2⟩
end
def belowE (n : Nat) : Env → Bool
 | []=>true
 | p :: l=>below n p.2 && belowE n l
theorem qDd {n : Nat} : ∀ {e : Env} (t : Nat), belowE n e = true → below n (look e t) = true
 | [],t,_=>rfl
 | p :: l,t,h=>by
  simp only [belowE,Bool.and_eq_true] at h
  rw [qAt]
  split
  ·exact h.1
  ·exact qDd t h.2
def BB (n : Nat) : List Blk → Prop
 | []=>True
 | b :: l=>belows n b.cells = true ∧ BB n l
theorem qHg {n : Nat} : ∀ {l : List Blk} {i : Nat} {b : Blk}, BB n l → l[i]? = some b → belows n b.cells = true
 | [],i,b,_,h=>by simp at h
 | b0 :: l,i,b,hb,h=>by
  cases i with
  | zero=>simp at h; subst h; exact hb.1
  | succ i=>exact qHg hb.2 (by simpa using h)
theorem qAf {n : Nat} : ∀ {xs : List AV} (k : Nat), belows n xs = true → belows n (xs.take k) = true
 | [],k,_=>by simp [belows]
 | x :: xs,0,_=>by simp [belows]
 | x :: xs,k + 1,h=>by
  simp only [belows,List.take_succ_cons,Bool.and_eq_true] at h ⊢
  exact ⟨h.1,qAf k h.2⟩
theorem qB0 {t:Option R} (l l2:List Blk) (hn0:Nat.ble X.n0 l.length = true) (hn:Nat.ble (l.length + l2.length) roots = true) (he:belowE l.length env = true) (hb:BB l.length l) (k:Ok X p env (mkH l) t):Ok X p env (mkH (l ++ l2)) t:=by
 intro r hr m0 w0 b0 m w a h0 fr hnt hd rw st
 have hn:l.length + l2.length ≤ roots:=Nat.le_of_ble_eq_true hn
 have hget:∀ i,i < l.length → (mkH (l ++ l2)).t.get i = (mkH l).t.get i:=by
  intro i hi
  show (mkT 0 (l ++ l2)).get i = (mkT 0 l).get i
  rw [qAz _ _ _ (by simp; omega),qAz _ _ _ (by omega)]
  simp [List.getElem?_append_left hi]
 have hcut:∀ {r v q},(m.cut l.length) r v = some q → r < l.length ∧ m r v = some q:=by
  intro r v q h
  have h:(if r < l.length then m r v else none) = some q:=h
  by_cases e:r < l.length
  ·rw [if_pos e] at h; exact ⟨e,h⟩
  ·rw [if_neg e] at h; cases h
 have hnone:∀ i,l.length ≤ i → (mkH l).t.get i = none:=by
  intro i hi
  show (mkT 0 l).get i = none
  rw [qAz _ _ _ (by omega)]
  simp [hi]
 refine k r hr m0 w0 b0 (m.cut l.length) w a h0 ?_ hnt hd ⟨?_,?_,?_,hnone,?_,rw.frz,?_,rw.ffin,rw.base_le,?_,rw.tyk⟩ ⟨⟨fun r v q hq=>(by
  have h1:=h0.1 r v q hq
  have h2:=Nat.le_of_ble_eq_true hn0
  show (if r < l.length then m r v else none) = some q
  rw [if_pos (by omega)]
  exact st.sub.1 r v q hq),st.sub.2,st.sub.3⟩,?_,st.fext,st.size,st.os,st.tape,st.output,st.same⟩
 ·intro t ht
  obtain ⟨c,h1,h2⟩:=fr t ht
  exact ⟨c,h1,qCr _ _ (qDd t he) h2⟩
 ·intro r b v B N hb' hm h1 h2
  obtain ⟨hlt,hm⟩:=hcut hm
  obtain ⟨cs,ty,fr',q1,q2,q3,q4,q5⟩:=rw.blk r b v B N (by rw [hget r hlt]; exact hb') hm h1 h2
  have hbl:l[r]? = some b:=by
   have hb':(mkT 0 l).get r = some b:=hb'
   rw [qAz _ _ _ (by omega)] at hb'
   simpa using hb'
  exact ⟨cs,ty,fr',q1,q2,q3,q4,qAh _ _ (qAf v (qHg hb hbl)) q5⟩
 ·intro r v B N hm
  obtain ⟨hlt,hm⟩:=hcut hm
  rw [← hget r hlt]
  exact rw.dom r v B N hm
 ·intro r v B N r' v' N' hm hm' hB
  exact rw.sep _ _ _ _ _ _ _ (hcut hm).2 (hcut hm').2 hB
 ·intro r v B N hm
  exact rw.vle _ _ _ _ (hcut hm).2
 ·intro i B cells r v N b hi hm hb'
  obtain ⟨hlt,hm⟩:=hcut hm
  exact rw.fsep i B cells r v N b hi hm (by rw [hget r hlt]; exact hb')
 ·show l.length ≤ roots
  omega
 ·intro r v B N hm
  exact st.ext r v B N (hcut hm).2
theorem qFa {P : Program} {C : Cx} (hti : ∀ t i, C.ti t = some i → mkTi P t = some i) {m : Mp} {H : Hp} {w : World} {base : Nat} {env : Env} {a : Act} (fr : FR m env a.tmps) (rw : RW m H w base) (g : ResultVar → Sem Value) (hg1 : ∀ t, g (.tmp t) = pure (a.tmps.getD t undef)) (hg2 : ∀ p t, g (.cell p t) = do loadVar t (← asAddr (a.tmps.getD p undef))) : ∀ (l : List ResultVar) (xs : List AV), resV C env H l = some xs →
 ∃ vs:List Value,(l.mapM g).run P w = .ok vs w ∧ VRs m xs vs
 | [],xs,h=>by simp only [resV] at h; cases h; exact ⟨[],by simp,by simp [VRs]⟩
 | .tmp t :: l,xs,h=>by
  simp only [resV] at h
  cases hl:resV C env H l with
  | none=>rw [hl] at h; cases h
  | some ys =>
   rw [hl] at h
   cases h
   obtain ⟨vs,h1,h2⟩:=qFa hti fr rw g hg1 hg2 l ys hl
   refine ⟨a.tmps.getD t undef :: vs,?_,by simp only [VRs]; exact ⟨_,_,rfl,fr.getD t,h2⟩⟩
   simp only [List.mapM_cons,hg1,Sem.run_bind,Sem.run_pure,Result.andThen_ok,h1]
 | .cell p t :: l,xs,h=>by
  simp only [resV] at h
  split at h
  ·rename_i i r v off ys ht hp hl
   split at h
   ·rename_i cs hcs
    split at h
    ·rename_i x hx
     cases h
     obtain ⟨vs,h1,h2⟩:=qFa hti fr rw g hg1 hg2 l ys hl
     have hv:=fr.getD p
     rw [hp] at hv
     have hld:∃ c,(loadVar t (match a.tmps.getD p undef with | .pointer (some b)=>b | _=>default)).run P w = .ok c w ∧ VR m x c ∧ ∃ b,a.tmps.getD p undef = .pointer (some b):=by
      have hv':=hv
      simp only [VR] at hv'
      obtain ⟨B,N,hm,e⟩:=hv'
      obtain ⟨c,hc1,hc2⟩:=qFf (P:=P) hti ht hv hcs hx rw
      rw [e] at hc1
      rw [e]
      exact ⟨c,hc1,hc2,_,rfl⟩
     obtain ⟨c,hc1,hc2,b,hb⟩:=hld
     rw [hb] at hc1
     refine ⟨c :: vs,?_,by simp only [VRs]; exact ⟨_,_,rfl,hc2,h2⟩⟩
     simp only [List.mapM_cons,hg2,Sem.run_bind,hb,asAddr,Sem.run_pure,Result.andThen_ok,hc1,h1]
    ·cases h
   ·cases h
  ·cases h
theorem qCb {P : Program} {C : Cx} (hti : ∀ t i, C.ti t = some i → mkTi P t = some i) {m : Mp} {H : Hp} {w : World} {base : Nat} {env : Env} {a : Act} {fn : Func} {xs : List AV} (fr : FR m env a.tmps) (rw : RW m H w base) (h : resV C env H fn.results.toList = some xs) :
 ∃ v,(results fn a.tmps).run P w = .ok v w ∧ VR m (oneRes xs) v:=by
 have key:∀ g:ResultVar → Sem Value,(∀ t,g (.tmp t) = pure (a.tmps.getD t undef)) → (∀ p t,g (.cell p t) = do loadVar t (← asAddr (a.tmps.getD p undef))) → ∃ vs:List Value,(fn.results.mapM g).run P w = .ok vs.toArray w ∧ VRs m xs vs:=by
  intro g hg1 hg2
  obtain ⟨vs,h1,h2⟩:=qFa (P:=P) hti fr rw g hg1 hg2 _ _ h
  exact ⟨vs,by rw [Array.mapM_eq_mapM_toList,Sem.run_map,h1]; rfl,h2⟩
 unfold results
 obtain ⟨vs,hm,h2⟩:=key (fun | .tmp t=>pure (a.tmps.getD t undef) | .cell p t=>do loadVar t (← asAddr (a.tmps.getD p undef))) (fun _=>rfl) (fun _ _=>rfl)
 have hlen:=VRs.len h2
 refine ⟨if h:vs.toArray.size = 1 then vs.toArray[0] else .tuple vs.toArray,?_,?_⟩
 ·rw [Sem.run_bind]
  erw [hm]
  rfl
 ·unfold oneRes
  split
  ·simp only [VRs] at h2
   obtain ⟨y,ys,rfl,h3,rfl⟩:=h2
   simpa using h3
  ·rename_i hne
   have:¬ vs.toArray.size = 1:=by
    intro e
    have e1:xs.length = 1:=by simpa [hlen] using e
    obtain ⟨x,hx⟩:=List.length_eq_one_iff.1 e1
    exact hne x hx
   rw [dif_neg this]
   simp only [VR]
   exact ⟨_,rfl,by simpa using h2⟩
theorem oT {r:R} {xs:List AV} {v:AV} (hn0:X.n0 = 0) (hfin:X.fin r = H0) (ht:X.thr r = none) (hr:resV X.C env H X.fn.results.toList = some xs) (hz:FzG 0 H [oneRes xs] [v]) (hv:X.enc r = v):Ok X .fin env H (some r):=by
 intro r' e m0 w0 b0 m w a h0 fr hnt hd rw st
 cases e
 have hnone:∀ r v,m0 r v = none:=by
  intro r v
  cases e:m0 r v with
  | none=>rfl
  | some p=>have:=h0.1 r v p e; omega
 obtain ⟨c,h1,h2⟩:=qCb (P:=X.P) X.hti fr rw hr
 have hF:FOk 0 m m.froz w b0:=by
  refine ⟨fun i B cells hi=>rw.frz i B cells hi,rw.ffin,fun i B cells h => .inl h,fun _ _ h=>h⟩
 obtain ⟨F',g1,g2,g3⟩:=fz_ok rw hz hF (cs:=[c]) (by simp only [VRs]; exact ⟨c,[],rfl,h2,rfl⟩)
 simp only [VRs] at g3
 obtain ⟨c',cs',e,g3,_⟩:=g3
 cases e
 have fin:∃ m' c',Ending.returned c = .returned c' ∧ RW m' (X.fin r) w b0 ∧ St m0 w0 b0 m' w ∧ VR m' (X.enc r) c':=by
  rw [hfin]
  refine ⟨⟨fun _ _=>none,F',m.tys⟩,c,rfl,⟨?_,?_,?_,fun _ _=>rfl,?_,g1.ok,?_,g1.fin,rw.base_le,by show 0 ≤ roots; unfold roots; omega,rw.tyk⟩,⟨⟨fun r v q hq=>(by rw [hnone] at hq; cases hq),fun i p hp=>g2 i p (st.sub.2 i p hp),st.sub.3⟩,?_,?_,st.size,st.os,st.tape,st.output,st.same⟩,by rw [hv]; exact VR.mono (m:=⟨fun _ _=>none,F',fun _=>none⟩) (m':=⟨fun _ _=>none,F',m.tys⟩) ⟨fun _ _ _ h=>h,fun _ _ h=>h,fun _ _ h=>(by cases h)⟩ _ _ g3⟩
  ·intro r b v B N hb hm; cases hm
  ·intro r v B N hm; cases hm
  ·intro r v B N r' v' N' hm; cases hm
  ·intro r v B N hm; cases hm
  ·intro i B cells r v N b _ hm; cases hm
  ·intro r v B N hm; cases hm
  ·intro i B cells hi
   rcases g1.new i B cells hi with h | h
   ·exact st.fext i B cells h
   ·obtain ⟨h1,r,v,N,_,hm⟩:=h
    rcases st.ext r v B N hm with ⟨v0,N0,e0⟩ | h2
    ·rw [hnone] at e0; cases e0
    ·exact .inr ⟨h1,.inr h2⟩
 have e:EndT (X.thr r) (X.enc r) (X.fin r) m0 w0 b0 (.returned c) w:=by rw [ht]; exact fin
 exact qF9 hd h1 e
theorem qDq : ∀ (xs : List AV) (i t : Nat), look (args0 i xs) t = if i ≤ t then (xs[t - i]?).getD .top else .top
 | [],i,t=>by simp [args0,look_nil]
 | x :: xs,i,t=>by
  rw [args0,qAn,qDq xs (i + 1) t]
  by_cases e:i = t
  ·subst e; simp
  ·rw [if_neg e]
   by_cases h:i ≤ t
   ·rw [if_pos (by omega),if_pos h,show t - i = (t - (i + 1)) + 1 by omega]; simp
   ·rw [if_neg (by omega),if_neg h]
theorem qK2 {m:Mp} {xs:List AV} {args rest:Array Value} (h:VRs m xs args.toList):FR m (args0 0 xs) (args ++ rest):=by
 intro t ht
 rw [qDq] at ht ⊢
 simp only [Nat.zero_le,if_true,Nat.sub_zero] at ht ⊢
 cases hx:xs[t]? with
 | none=>rw [hx] at ht; exact absurd rfl ht
 | some x =>
  obtain ⟨c,hc,hv⟩:=VRs.get h t x hx
  rw [Array.getElem?_toList] at hc
  obtain ⟨hlt,_⟩:=Array.getElem?_eq_some_iff.1 hc
  exact ⟨c,by rw [Array.getElem?_append_left hlt]; exact hc,by simpa using hv⟩
def bodyAt (fn:Func):Pt:=match fn.body with | some c => .code c [] | none => .fin
theorem qA2 (X:Fx R) {f:Nat} (hfin:∀ r,X.fin r = H0 ∧ X.thr r = none) (hf:X.P.funcs[f]? = some X.fn) (hn:(X.fn.name == "runtime.NumGoroutine") = false) (hb:X.fn.body.isSome = true) {xs:List AV} {t:Option R} (h:Ok X (bodyAt X.fn) (args0 0 xs) (mkH []) t) {r:R} (ht:t = some r):PureOk X.P f xs (X.enc r):=by
 refine ⟨?_,X.fn,hf,hn,hb⟩
 intro m0 w args h0 hargs rw
 cases hc:X.fn.body with
 | none=>rw [hc] at hb; cases hb
 | some c =>
  have e:bodyAt X.fn = .code c []:=by simp [bodyAt,hc]
  rw [e] at h
  have:=h r ht m0 w w.heap.size m0 w { tmps:=args ++ Array.replicate (X.fn.ntmps - args.size) undef,defers:=[] } ⟨fun r v p e=>(by rw [h0] at e; cases e),Nat.le_refl _⟩ (qK2 hargs) (by simp; omega) rfl rw (St.refl _ _ _)
  have e2:=qEo hf hc this
  rw [(hfin r).1,(hfin r).2] at e2
  exact e2
theorem qAg (X:Fx R) {f:Nat} (hf:X.P.funcs[f]? = some X.fn) (hn:(X.fn.name == "runtime.NumGoroutine") = false) (hb:X.fn.body.isSome = true) {L:List Blk} (hn0:X.n0 = L.length) {xs:List AV} {t:Option R} (h:Ok X (bodyAt X.fn) (args0 0 xs) (mkH L) t) {r:R} (ht:t = some r):CallT X.P f xs (mkH L) (X.thr r) (X.enc r) (X.fin r):=by
 refine ⟨?_,X.fn,hf,hn,hb⟩
 intro m w base args hargs rw
 cases hc:X.fn.body with
 | none=>rw [hc] at hb; cases hb
 | some c =>
  have e:bodyAt X.fn = .code c []:=by simp [bodyAt,hc]
  rw [e] at h
  have:=h r ht m w base m w { tmps:=args ++ Array.replicate (X.fn.ntmps - args.size) undef,defers:=[] } ⟨fun r v p e=>(by
   obtain ⟨b,hb,_⟩:=rw.dom r v p.1 p.2 e
   rw [hn0]
   exact rw.lt hb),rw.base_le⟩ (qK2 hargs) (by simp; omega) rfl rw (St.refl _ _ _)
  exact qEo hf hc this
end
def nthS (s:List Nat) (k:Int):Option Int:=if 0 ≤ k then (match s[k.toNat]? with | some b=>some (b:Int) | none=>none) else none
theorem idxH {e:Option (AV × Hp)} {s:List Nat} {k:Int} {H:Hp} (h:e = (if 0 ≤ k then (match s[k.toNat]? with | some b=>some (AV.int .u8 (b:Int),H) | none=>none) else none)):e = (nthS s k).map fun c=>(AV.int .u8 c,H):=by
 rw [h]; unfold nthS
 split
 ·cases s[k.toNat]? <;> rfl
 ·rfl
def catS (a b:List Nat):Option (List Nat):=if a.length + b.length < 2 ^ 40 then some (a ++ b) else none
theorem catH {e:Option (AV × Hp)} {a b:List Nat} {H:Hp} (h:e = (if a.length + b.length < 2 ^ 40 then some (AV.str (a ++ b)) else none).map fun v=>(v,H)):e = (catS a b).map fun x=>(AV.str x,H):=by
 rw [h]; unfold catS; split <;> rfl
def nthL {α:Type} (l:List α) (k:Int):Option α:=if 0 ≤ k then l[k.toNat]? else none
theorem qB9 {α : Type} {enc : α → List AV} {sz : Nat} (h : ∀ x, (enc x).length = sz) : ∀ l : List α, (l.flatMap enc).length = l.length * sz
 | []=>by simp
 | x :: l=>by rw [List.flatMap_cons,List.length_append,h,qB9 h l,List.length_cons,Nat.add_mul]; omega
theorem qCd {α : Type} {enc : α → List AV} {sz : Nat} (h : ∀ x, (enc x).length = sz) : ∀ (l : List α) (k : Nat) (x : α), l[k]? = some x → ((l.flatMap enc).drop (k * sz)).take sz = enc x
 | [],k,x,e=>by simp at e
 | y :: l,k,x,e=>by
  rw [List.flatMap_cons]
  cases k with
  | zero =>
   simp at e
   subst e
   rw [Nat.zero_mul,List.drop_zero,List.take_append_of_le_length (by rw [h]; exact Nat.le_refl _),List.take_of_length_le (by rw [h]; exact Nat.le_refl _)]
  | succ k =>
   rw [List.drop_append,List.drop_of_length_le (by rw [h,Nat.add_mul]; omega),List.nil_append,h,show (k + 1) * sz - sz = k * sz by rw [Nat.add_mul]; omega]
   exact qCd h l k x (by simpa using e)
theorem vidxH {α:Type} {enc:α → List AV} {sz:Nat} (hsz:∀ x,(enc x).length = sz) {e:Option (AV × Hp)} {l:List α} {k:Int} {H:Hp} (h:e = (if sz = sz ∧ 0 ≤ k ∧ k < ((l.length:Nat):Int) then some (AV.vptr (((l.flatMap enc).drop (k.toNat * sz)).take sz),H) else none)):e = (nthL l k).map fun x=>(AV.vptr (enc x),H):=by
 rw [h]; unfold nthL
 by_cases h0:0 ≤ k
 ·rw [if_pos h0]
  by_cases h1:k < (l.length:Int)
  ·rw [if_pos ⟨rfl,h0,h1⟩]
   have hlt:k.toNat < l.length:=by omega
   rw [List.getElem?_eq_getElem hlt,qCd hsz l k.toNat _ (List.getElem?_eq_getElem hlt)]
   rfl
  ·rw [if_neg (fun hh=>h1 hh.2.2),List.getElem?_eq_none (by omega)]
   rfl
 ·rw [if_neg (fun hh=>h0 hh.2.1),if_neg h0]; rfl
def nthA {α:Type} (l:List α) (n:Nat) (k:Int):Option α:=if 0 ≤ k ∧ k < (n:Int) then l[k.toNat]? else none
theorem aidxH {α:Type} (enc:α → AV) {e:Option (AV × Hp)} (l:List α) {n:Nat} {k:Int} {H:Hp} (h:e = (if 0 ≤ k ∧ k < (n:Int) then ((l.map enc)[k.toNat * 1]?).map fun v=>(v,H) else none)):e = (nthA l n k).map fun x=>(enc x,H):=by
 rw [h]; unfold nthA
 split
 ·rw [Nat.mul_one,List.getElem?_map]
  cases l[k.toNat]? <;> rfl
 ·rfl
def shlC (k:IntKind) (x:Int) (n:Nat):Int:=fW k (x * 2 ^ n)
def shrC (x:Int) (n:Nat):Int:=x.fdiv (2 ^ n)
def andI (k:IntKind) (x y:Int):Int:=fW k (BitVec.ofInt k.bits x &&& BitVec.ofInt k.bits y).toNat
def orI (k:IntKind) (x y:Int):Int:=fW k (BitVec.ofInt k.bits x ||| BitVec.ofInt k.bits y).toNat
def maxI (x y:Int):Int:=if x < y then y else x
def appS {α:Type} (bytes:Nat) (l x:List α):Option (List α):=if (l.length + x.length) * bytes ≤ 2 ^ 40 ∧ l.length + x.length ≤ 2 ^ 40 then some (l ++ x) else none
theorem qEb {L:List Blk} {r:Nat} {b:Blk} (hl:Nat.ble L.length roots = true) (h:L[r]? = some b):(mkH L).t.get r = some b:=by
 show (mkT 0 L).get r = some b
 rw [qAz _ _ _ (by rw [Nat.zero_add]; exact Nat.le_of_ble_eq_true hl)]
 simpa using h
theorem PT.set_set {α : Type} : ∀ (k : Nat) (t : PT α) (n : Nat) (x y : α), PT.set k (PT.set k t n x) n y = PT.set k t n y
 | 0,_,_,_,_=>rfl
 | k + 1,t,n,x,y=>by
  have ih:=fun t n=>PT.set_set k t n x y
  rw [PT.set_succ,PT.set_succ,PT.set_succ]
  by_cases h0:n = 0
  ·simp only [h0,if_true]; rfl
  ·simp only [h0,if_false]
   by_cases h1:n % 2 = 1
   ·simp only [h1,if_true]
    show PT.node (PT.set k (PT.set k t.left (n / 2) x) (n / 2) y) t.mid t.right = _
    rw [ih]
   ·simp only [h1,if_false]
    show PT.node t.left t.mid (PT.set k (PT.set k t.right (n / 2 - 1) x) (n / 2 - 1) y) = _
    rw [ih]
theorem PT.set_comm {α : Type} : ∀ (k : Nat) (t : PT α) (n m : Nat) (x y : α), n ≠ m → PT.set k (PT.set k t n x) m y = PT.set k (PT.set k t m y) n x
 | 0,_,_,_,_,_,_=>rfl
 | k + 1,t,n,m,x,y,h=>by
  have ih:=fun t n m h=>PT.set_comm k t n m x y h
  rw [PT.set_succ,PT.set_succ,PT.set_succ,PT.set_succ]
  by_cases n0:n = 0
  ·have m0:m ≠ 0:=by omega
   simp only [n0,m0,if_true,if_false]
   by_cases m1:m % 2 = 1 <;> simp only [m1,if_true,if_false] <;> rfl
  ·by_cases m0:m = 0
   ·simp only [n0,m0,if_true,if_false]
    by_cases n1:n % 2 = 1 <;> simp only [n1,if_true,if_false] <;> rfl
   ·simp only [n0,m0,if_false]
    by_cases n1:n % 2 = 1
    ·by_cases m1:m % 2 = 1
     ·simp only [n1,m1,if_true]
      show PT.node (PT.set k (PT.set k t.left (n / 2) x) (m / 2) y) t.mid t.right = PT.node (PT.set k (PT.set k t.left (m / 2) y) (n / 2) x) t.mid t.right
      rw [ih _ _ _ (by omega)]
     ·simp only [n1,m1,if_true,if_false]; rfl
    ·by_cases m1:m % 2 = 1
     ·simp only [n1,m1,if_true,if_false]; rfl
     ·simp only [n1,m1,if_false]
      show PT.node t.left t.mid (PT.set k (PT.set k t.right (n / 2 - 1) x) (m / 2 - 1) y) = PT.node t.left t.mid (PT.set k (PT.set k t.right (m / 2 - 1) y) (n / 2 - 1) x)
      rw [ih _ _ _ (by omega)]
theorem qIy : ∀ (L : List Blk) (n r : Nat) (b : Blk), r < L.length → PT.set depth (mkT n L) (n + r) b = mkT n (L.set r b)
 | [],n,r,b,h=>by simp at h
 | c :: L,n,0,b,h=>by
  rw [List.set_cons_zero,qAm,qAm]
  exact PT.set_set _ _ _ _ _
 | c :: L,n,r + 1,b,h=>by
  rw [List.set_cons_succ,qAm,qAm,PT.set_comm _ _ _ _ _ _ (by omega),show n + (r + 1) = (n + 1) + r by omega,qIy L (n + 1) r b (by simpa using h)]
theorem qIz {L:List Blk} {r:Nat} {b:Blk} (h:r < L.length):(⟨(mkH L).next,Tr.set depth (mkH L).t r b⟩:Hp) = mkH (L.set r b):=by
 show (⟨L.length,PT.set depth (mkT 0 L) r b⟩:Hp) = ⟨(L.set r b).length,mkT 0 (L.set r b)⟩
 have:=qIy L 0 r b h
 rw [Nat.zero_add] at this
 rw [this,List.length_set]
theorem appH {α:Type} {enc:α → List AV} {sz:Nat} (hsz:∀ x,(enc x).length = sz) (hpos:Nat.blt 0 sz = true) (hone:∀ x,(enc x).all one1 = true) {e:Option (AV × Hp)} (L:List Blk) (r bytes:Nat) (l x:List α) (hl:Nat.ble L.length roots = true) (hr:L[r]? = some ⟨l.flatMap enc,0,false⟩) (h:e = appW (mkH L) (.own r l.length sz) sz bytes x.length (x.flatMap enc)):e = (appS bytes l x).map fun y=>(AV.own r y.length sz,mkH (L.set r ⟨y.flatMap enc,0,false⟩)):=by
 have hpos:0 < sz:=by simpa using hpos
 have hone':(x.flatMap enc).all one1 = true:=by
  rw [List.all_eq_true]
  intro a ha
  obtain ⟨y,_,hy⟩:=List.mem_flatMap.1 ha
  exact List.all_eq_true.1 (hone y) a hy
 have hlt:r < L.length:=(List.getElem?_eq_some_iff.1 hr).1
 rw [h]
 unfold appW appV appS
 simp only [qB9 hsz,hpos,hone',true_and,and_true,if_true]
 by_cases hb:(l.length + x.length) * bytes ≤ 2 ^ 40 ∧ l.length + x.length ≤ 2 ^ 40
 ·rw [if_pos hb]
  by_cases hx:x.length = 0
  ·have:x = []:=List.length_eq_zero_iff.1 hx
   subst this
   simp only [List.length_nil,Nat.add_zero,List.append_nil,Option.map_some,if_true]
   rw [if_pos (by simpa using hb)]
   have:L.set r ⟨l.flatMap enc,0,false⟩ = L:=by
    apply List.ext_getElem?
    intro i
    rw [List.getElem?_set]
    split
    ·rename_i e; subst e; first | exact hr.symm | (rw [if_pos hlt]; exact hr.symm)
    ·rfl
   show some (AV.own r l.length sz,mkH L) = some (AV.own r l.length sz,mkH (L.set r ⟨l.flatMap enc,0,false⟩))
   rw [this]
  ·simp only [hx,if_false]
   rw [qEb hl hr,if_pos hb]
   simp only [qB9 hsz,Nat.zero_le,true_and,and_self,if_true,Option.map_some]
   rw [qIz hlt,List.flatMap_append,List.length_append]
 ·rw [if_neg hb,if_neg hb]; rfl
def ctl1 : Pt → Pt
 | .ops _ _ K=>resume K
 | .loop b K => .code b (.loop b :: K)
 | .fin => .fin
 | .code c K=>match c with
  | .seq a b => .code a (.seq b :: K)
  | .skip=>resume K
  | .label _=>resume K
  | .block id b => .code b (.block id :: K)
  | .scope b => .code b (.scope b :: K)
  | .loop b => .loop b K
  | .exit id=>match exitK id K with | some q=>q | none => .fin
  | .goto l=>match gotoK l K with | some q=>q | none => .fin
  | .ret => .fin
  | .region id ops draw=>bif draw then resume K else .ops ops 0 K
  | _ => .fin
def nav : List Nat → Pt → Pt
 | [],p=>p
 | 0 :: l,p=>nav l (ctl1 p)
 | 1 :: l,.code (.cond _ x _) K=>nav l (.code x K)
 | _ :: l,.code (.cond _ _ y) K=>nav l (.code y K)
 | _ :: _,p=>p
def atN (n : Nat) : Pt → Pt
 | .ops ops _ K => .ops ops n K
 | p=>p
mutual
def nref (n : Nat) : AV → Bool
 | .ptr r _ _ => !Nat.beq r n
 | .slice r _ _ _ _ => !Nat.beq r n
 | .own r _ _ => !Nat.beq r n
 | .optp _ r _ _ => !Nat.beq r n
 | .odat _ r _ _ => !Nat.beq r n
 | .ownt _ r _ _ => !Nat.beq r n
 | .tptr _ _ r _ _ => !Nat.beq r n
 | .agg xs=>nrefs n xs
 | .tuple xs=>nrefs n xs
 | .func _ a b=>nrefs n a && nrefs n b
 | .iface _ v=>nref n v
 | _=>true
def nrefs (n : Nat) : List AV → Bool
 | []=>true
 | x :: xs=>nref n x && nrefs n xs
end
def Mp.out (m:Mp) (n:Nat) (F:Nat → Option (Nat × List AV)):Mp:=⟨fun r v=>if r = n then none else m r v,F,m.tys⟩
theorem qCw {m:Mp} {n:Nat} {F:Nat → Option (Nat × List AV)} {r v:Nat} (h:(!Nat.beq r n) = true):(m.out n F) r v = m r v:=by
 show (if r = n then none else m r v) = m r v
 rw [if_neg]
 rintro rfl
 simp at h
mutual
theorem qFi {m : Mp} {n : Nat} {F : Nat → Option (Nat × List AV)} (hF : ∀ i p, m.froz i = some p → F i = some p) : ∀ (x : AV) (c : Value), nref n x = true → VR m x c → VR (m.out n F) x c
 | .top,_,_,_=>by simp only [VR]
 | .int ..,_,_,e=>by simpa only [VR] using e
 | .resid ..,_,_,e=>by simpa only [VR] using e
 | .bool _,_,_,e=>by simpa only [VR] using e
 | .str _,_,_,e=>by simpa only [VR] using e
 | .nilp,_,_,e=>by simpa only [VR] using e
 | .nils,_,_,e=>by simpa only [VR] using e
 | .nilf,_,_,e=>by simpa only [VR] using e
 | .nili,_,_,e=>by simpa only [VR] using e
 | .vec ..,_,_,e=>by
  simp only [VR] at e ⊢
  obtain ⟨h0,a,cap,h1,h2,h3,h4⟩:=e
  exact ⟨h0,a,cap,h1,h2,h3,fun hn=>let ⟨i,B,off,all,q,r⟩:=h4 hn; ⟨i,B,off,all,hF _ _ q,r⟩⟩
 | .vptr ..,_,_,e=>by
  simp only [VR] at e ⊢
  obtain ⟨i,B,off,all,q,r⟩:=e
  exact ⟨i,B,off,all,hF _ _ q,r⟩
 | .ptr r v off,_,h,e=>by
  simp only [VR] at e ⊢
  obtain ⟨B,N,h1,h2⟩:=e
  exact ⟨B,N,by rw [qCw (by simpa only [nref] using h)]; exact h1,h2⟩
 | .slice r v off len sz,_,h,e=>by
  simp only [VR] at e ⊢
  obtain ⟨B,N,cap,h1,h2⟩:=e
  exact ⟨B,N,cap,by rw [qCw (by simpa only [nref] using h)]; exact h1,h2⟩
 | .own r len sz,_,h,e=>by
  simp only [VR] at e ⊢
  rcases e with e | ⟨B,N,cap,h1,h2⟩
  ·exact .inl e
  ·exact .inr ⟨B,N,cap,by rw [qCw (by simpa only [nref] using h)]; exact h1,h2⟩
 | .optp s r v off,_,h,e=>by
  simp only [VR] at e ⊢
  rcases e with e | ⟨e,B,N,h1,h2⟩
  ·exact .inl e
  ·exact .inr ⟨e,B,N,by rw [qCw (by simpa only [nref] using h)]; exact h1,h2⟩
 | .ownt t r len sz,_,h,e=>by
  simp only [VR] at e ⊢
  rcases e with e | ⟨B,N,cap,h1,h2⟩
  ·exact .inl e
  ·exact .inr ⟨B,N,cap,by rw [qCw (by simpa only [nref] using h)]; exact h1,h2⟩
 | .odat t r len sz,_,h,e=>by
  simp only [VR] at e ⊢
  rcases e with e | ⟨B,N,h1,h2⟩
  ·exact .inl e
  ·exact .inr ⟨B,N,by rw [qCw (by simpa only [nref] using h)]; exact h1,h2⟩
 | .tptr t k r v off,_,h,e=>by
  simp only [VR] at e ⊢
  obtain ⟨B,h1,h2⟩:=e
  exact ⟨B,by rw [qCw (by simpa only [nref] using h)]; exact h1,h2⟩
 | .agg xs,c,h,e=>by
  simp only [VR] at e ⊢
  obtain ⟨ys,h1,h2⟩:=e
  exact ⟨ys,h1,qBl hF xs _ (by simpa only [nref] using h) h2⟩
 | .tuple xs,c,h,e=>by
  simp only [VR] at e ⊢
  obtain ⟨ys,h1,h2⟩:=e
  exact ⟨ys,h1,qBl hF xs _ (by simpa only [nref] using h) h2⟩
 | .func f a b,c,h,e=>by
  simp only [VR] at e ⊢
  simp only [nref,Bool.and_eq_true] at h
  obtain ⟨ys,zs,h1,h2,h3⟩:=e
  exact ⟨ys,zs,h1,qBl hF a _ h.1 h2,qBl hF b _ h.2 h3⟩
 | .iface t v,c,h,e=>by
  simp only [VR] at e ⊢
  obtain ⟨d,h1,h2⟩:=e
  exact ⟨d,h1,qFi hF v _ (by simpa only [nref] using h) h2⟩
theorem qBl {m : Mp} {n : Nat} {F : Nat → Option (Nat × List AV)} (hF : ∀ i p, m.froz i = some p → F i = some p) : ∀ (xs : List AV) (cs : List Value), nrefs n xs = true → VRs m xs cs → VRs (m.out n F) xs cs
 | [],_,_,e=>by simpa only [VRs] using e
 | x :: xs,cs,h,e=>by
  simp only [VRs] at e ⊢
  simp only [nrefs,Bool.and_eq_true] at h
  obtain ⟨y,ys,rfl,h1,h2⟩:=e
  exact ⟨y,ys,rfl,qFi hF x y h.1 h1,qBl hF xs ys h.2 h2⟩
end
theorem qDn {n : Nat} : ∀ {xs : List AV} (k : Nat), nrefs n xs = true → nrefs n (xs.take k) = true
 | [],k,_=>by simp [nrefs]
 | x :: xs,0,_=>by simp [nrefs]
 | x :: xs,k + 1,h=>by
  simp only [nrefs,List.take_succ_cons,Bool.and_eq_true] at h ⊢
  exact ⟨h.1,qDn k h.2⟩
def nrefE (n : Nat) : Env → Bool
 | []=>true
 | p :: l=>nref n p.2 && nrefE n l
theorem qDo {n : Nat} : ∀ {e : Env} (t : Nat), nrefE n e = true → nref n (look e t) = true
 | [],t,_=>rfl
 | p :: l,t,h=>by
  simp only [nrefE,Bool.and_eq_true] at h
  rw [qAt]
  split
  ·exact h.1
  ·exact qDo t h.2
mutual
theorem qGh {n : Nat} : ∀ x : AV, pur x = true → nref n x = true
 | .top,_ | .int ..,_ | .resid ..,_ | .bool _,_ | .str _,_ | .nilp,_ | .nils,_ | .nilf,_ | .nili,_ | .vec ..,_ | .vptr ..,_=>by simp [nref]
 | .ptr ..,h | .slice ..,h | .own ..,h | .optp ..,h | .odat ..,h | .tptr ..,h | .ownt ..,h=>by simp [pur] at h
 | .agg xs,h=>by simp only [pur,nref] at h ⊢; exact qAp xs h
 | .tuple xs,h=>by simp only [pur,nref] at h ⊢; exact qAp xs h
 | .func _ a b,h=>by simp only [pur,nref,Bool.and_eq_true] at h ⊢; exact ⟨qAp a h.1,qAp b h.2⟩
 | .iface _ v,h=>by simp only [pur,nref] at h ⊢; exact qGh v h
theorem qAp {n : Nat} : ∀ xs : List AV, purs xs = true → nrefs n xs = true
 | [],_=>rfl
 | x :: xs,h=>by simp only [purs,nrefs,Bool.and_eq_true] at h ⊢; exact ⟨qGh x h.1,qAp xs h.2⟩
end
def NB (n : Nat) : Nat → List Blk → Prop
 | _,[]=>True
 | i,b :: l=>(i = n ∨ nrefs n b.cells = true) ∧ NB n (i + 1) l
theorem NB_get {n : Nat} : ∀ {l : List Blk} {i j : Nat} {b : Blk}, NB n i l → l[j]? = some b → i + j ≠ n → nrefs n b.cells = true
 | [],i,j,b,_,h,_=>by simp at h
 | b0 :: l,i,j,b,hb,h,hne=>by
  cases j with
  | zero=>simp at h; subst h; exact hb.1.resolve_left (by omega)
  | succ j=>exact NB_get hb.2 (by simpa using h) (by omega)
theorem ok_frz {R:Type} {X:Fx R} {p:Pt} {env env0:Env} {t:Option R} (L:List Blk) (d r0 n sz minv:Nat) (cells:List AV) (ks:List Nat) (hn0:Nat.ble X.n0 r0 = true) (hl:Nat.ble L.length roots = true) (hd0:look env d = .slice r0 (n * sz) 0 n sz ∨ look env d = .own r0 n sz) (hr:L[r0]? = some ⟨cells,minv,false⟩) (hc:cells.length = n * sz) (hmin:minv ≤ n * sz) (hp:purs cells = true) (hk:keepOnly env ks = env0) (hne:nrefE r0 env0 = true) (hnb:NB r0 0 L) (k:Ok X p ((d,.vec n sz cells) :: env0) (mkH (L.set r0 ⟨[],0,false⟩)) t):Ok X p env (mkH L) t:=by
 intro r hr' m0 w0 b0 m w a h0 fr0 hnt hd rw st
 have fr:FR m env0 a.tmps:=fr0.less (hk ▸ qC5 ks env)
 have hroot:(mkH L).t.get r0 = some ⟨cells,minv,false⟩:=qEb hl hr
 have hlt:r0 < L.length:=(List.getElem?_eq_some_iff.1 hr).1
 obtain ⟨c,hc1,hc2⟩:=fr0 d (by rcases hd0 with h | h <;> (rw [h]; intro e; cases e))
 have hcase:c = .slice none 0 0 ∧ n = 0 ∨ ∃ B N cap,m r0 (n * sz) = some (B,N) ∧ n ≤ cap ∧ c = .slice (some ⟨B,0,none⟩) n cap:=by
  rcases hd0 with h | h <;> rw [h] at hc2 <;> simp only [VR] at hc2
  ·obtain ⟨B,N,cap,h1,h2,h3,h4,h5⟩:=hc2
   exact .inr ⟨B,N,cap,h1,h3,h5⟩
  ·rcases hc2 with ⟨h1,h2⟩ | ⟨B,N,cap,h1,h2,h3,h4⟩
   ·exact .inl ⟨h2,h1⟩
   ·exact .inr ⟨B,N,cap,h1,h2,h4⟩
 have hF0:FOk 0 m m.froz w b0:=⟨fun i B cells hi=>rw.frz i B cells hi,rw.ffin,fun i B cells h => .inl h,fun _ _ h=>h⟩
 have key:∃ F,FOk 0 m F w b0 ∧ (∀ i B cs,F i = some (B,cs) → m.froz i = some (B,cs) ∨ ∃ v N,m r0 v = some (B,N)) ∧ VR ⟨fun _ _=>none,F,fun _=>none⟩ (.vec n sz cells) c:=by
  rcases hcase with ⟨rfl,rfl⟩ | ⟨B,N,cap,hm,hcap,rfl⟩
  ·have:cells = []:=List.length_eq_zero_iff.1 (by omega)
   subst this
   exact ⟨m.froz,hF0,fun i B cs h => .inl h,qCs _ _⟩
  ·obtain ⟨cs,ty,fr',q1,q2,q3,q4,q5⟩:=rw.blk _ _ _ _ _ hroot hm hmin (by show n * sz ≤ cells.length; omega)
   obtain ⟨b0,hb0,_,_,hbase⟩:=rw.dom _ _ _ _ hm
   rw [hroot] at hb0
   cases hb0
   simp only at q5
   rw [List.take_of_length_le (by omega)] at q5
   obtain ⟨nf,hnf⟩:=rw.ffin
   have q6:=qB6 _ _ hp q5
   obtain ⟨F,i,g1,g2,g3⟩:=qJt hF0 (hbase rfl) ⟨_,_,_,Nat.zero_le _,hm⟩ q1 (cells:=cells) (by omega) (by rw [hc]; exact q6)
   refine ⟨fun j=>if j = nf then some (B,cells) else m.froz j,?_,?_,?_⟩
   ·refine ⟨?_,⟨nf + 1,fun j hj=>by show (if j = nf then some (B,cells) else m.froz j) = none; rw [if_neg (by omega)]; exact hnf j (by omega)⟩,?_,?_⟩
    ·intro j B' cells' hj
     have hS:Sub m.still ⟨fun _ _=>none,fun j=>if j = nf then some (B,cells) else m.froz j,fun _=>none⟩:=⟨fun _ _ _ e=>(by cases e),fun j q hq=>(by
      show (if j = nf then some (B,cells) else m.froz j) = some q
      rw [if_neg]
      ·exact hq
      ·rintro rfl
       have hq:m.froz j = some q:=hq
       rw [hnf _ (Nat.le_refl _)] at hq; cases hq),fun _ _ e=>(by cases e)⟩
     by_cases e:j = nf
     ·simp only [e,if_true] at hj
      cases hj
      exact ⟨cs,ty,fr',q1,by omega,by rw [hc]; exact VRs.mono hS _ _ q6⟩
     ·simp only [e,if_false] at hj
      obtain ⟨cs2,ty2,fr2,e1,e2,e3⟩:=rw.frz j B' cells' hj
      exact ⟨cs2,ty2,fr2,e1,e2,VRs.mono hS _ _ e3⟩
    ·intro j B' cells' hj
     by_cases e:j = nf
     ·simp only [e,if_true] at hj
      cases hj
      exact .inr ⟨hbase rfl,_,_,_,Nat.zero_le _,hm⟩
     ·simp only [e,if_false] at hj
      exact .inl hj
    ·intro j q hq
     show (if j = nf then some (B,cells) else m.froz j) = some q
     rw [if_neg]
     ·exact hq
     ·rintro rfl; rw [hnf _ (Nat.le_refl _)] at hq; cases hq
   ·intro j B' cells' hj
    by_cases e:j = nf
    ·simp only [e,if_true] at hj
     cases hj
     exact .inr ⟨_,_,hm⟩
    ·simp only [e,if_false] at hj
     exact .inl hj
   ·simp only [VR]
    refine ⟨hc,_,cap,rfl,hcap,fun e=>(by cases e),fun _=>⟨nf,B,0,cells,by simp,rfl,?_,by omega⟩⟩
    rw [List.drop_zero,List.take_of_length_le (by omega)]
 obtain ⟨F,hFok,hFnew,hvec⟩:=key
 have hget:∀ i,i ≠ r0 → (mkH (L.set r0 ⟨[],0,false⟩)).t.get i = (mkH L).t.get i:=by
  intro i hi
  show (mkT 0 (L.set r0 ⟨[],0,false⟩)).get i = (mkT 0 L).get i
  have hl':L.length ≤ roots:=Nat.le_of_ble_eq_true hl
  rw [qAz _ _ _ (by rw [List.length_set]; omega),qAz _ _ _ (by omega)]
  simp only [Nat.zero_le,if_true,Nat.sub_zero]
  rw [List.getElem?_set,if_neg (fun e=>hi e.symm)]
 have hout:∀ {r v q},(m.out r0 F) r v = some q → r ≠ r0 ∧ m r v = some q:=by
  intro r v q h
  have h:(if r = r0 then none else m r v) = some q:=h
  by_cases e:r = r0
  ·rw [if_pos e] at h; cases h
  ·rw [if_neg e] at h; exact ⟨e,h⟩
 refine k r hr' m0 w0 b0 (m.out r0 F) w a h0 ?_ hnt hd ⟨?_,?_,?_,?_,?_,hFok.ok,?_,hFok.fin,rw.base_le,?_,rw.tyk⟩ ⟨⟨fun r v q hq=>(by
  have h1:=h0.1 r v q hq
  have h2:=Nat.le_of_ble_eq_true hn0
  show (if r = r0 then none else m r v) = some q
  rw [if_neg (by omega)]
  exact st.sub.1 r v q hq),fun i q hq=>hFok.sub i q (st.sub.2 i q hq),st.sub.3⟩,?_,?_,st.size,st.os,st.tape,st.output,st.same⟩
 ·intro u hu
  by_cases e:d = u
  ·subst e
   refine ⟨c,hc1,?_⟩
   rw [qAt,if_pos rfl]
   exact VR.mono (m:=⟨fun _ _=>none,F,fun _=>none⟩) (m':=m.out r0 F) ⟨fun _ _ _ h=>(by cases h),fun _ _ h=>h,fun _ _ h=>(by cases h)⟩ _ _ hvec
  ·have he:look ((d,AV.vec n sz cells) :: env0) u = look env0 u:=by rw [qAt,if_neg e]
   rw [he] at hu ⊢
   obtain ⟨c,h1,h2⟩:=fr u hu
   exact ⟨c,h1,qFi hFok.sub _ _ (qDo u hne) h2⟩
 ·intro r b v B N hb hm h1 h2
  obtain ⟨hne',hm⟩:=hout hm
  rw [hget r hne'] at hb
  obtain ⟨cs,ty,fr',q1,q2,q3,q4,q5⟩:=rw.blk r b v B N hb hm h1 h2
  have hbl:L[r]? = some b:=by
   have hb':(mkT 0 L).get r = some b:=hb
   rw [qAz _ _ _ (by rw [Nat.zero_add]; exact Nat.le_of_ble_eq_true hl)] at hb'
   simpa using hb'
  exact ⟨cs,ty,fr',q1,q2,q3,q4,qBl hFok.sub _ _ (qDn v (NB_get hnb hbl (by omega))) q5⟩
 ·intro r v B N hm
  obtain ⟨hne',hm⟩:=hout hm
  rw [hget r hne']
  exact rw.dom r v B N hm
 ·intro r v B N r' v' N' hm hm' hB
  exact rw.sep _ _ _ _ _ _ _ (hout hm).2 (hout hm').2 hB
 ·intro r hr
  have hr:L.length ≤ r:=by
   have:(mkH (L.set r0 ⟨[],0,false⟩)).next = L.length:=by simp [mkH]
   rw [this] at hr; exact hr
  rw [hget r (by omega)]
  exact rw.fresh r hr
 ·intro r v B N hm
  exact rw.vle _ _ _ _ (hout hm).2
 ·intro i B cs r v N b hi hm hb
  obtain ⟨hne',hm⟩:=hout hm
  rw [hget r hne'] at hb
  rcases hFnew i B cs hi with h | ⟨v',N',h⟩
  ·exact rw.fsep i B cs r v N b h hm hb
  ·obtain ⟨b0,hb0,_,_,hbase⟩:=rw.dom _ _ _ _ h
   rw [hroot] at hb0
   cases hb0
   exact absurd (rw.sep _ _ _ _ _ _ _ h hm (hbase rfl)).symm hne'
 ·show (L.set r0 ⟨[],0,false⟩).length ≤ roots
  rw [List.length_set]; exact Nat.le_of_ble_eq_true hl
 ·intro r v B N hm
  exact st.ext r v B N (hout hm).2
 ·intro i B cs hi
  rcases hFok.new i B cs hi with h | h
  ·exact st.fext i B cs h
  ·obtain ⟨h1,r,v,N,_,hm⟩:=h
   rcases st.ext r v B N hm with ⟨v0,N0,e0⟩ | h2
   ·exact .inr ⟨h1,.inl ⟨r,v0,N0,e0⟩⟩
   ·exact .inr ⟨h1,.inr h2⟩
theorem ok_if {R:Type} {X:Fx R} {p:Pt} {env:Env} {H:Hp} {b:Bool} {t1 t2:Option R} (k1:b = true → Ok X p env H t1) (k2:b = false → Ok X p env H t2):Ok X p env H (if b then t1 else t2):=by
 cases b with
 | true=>exact k1 rfl
 | false=>exact k2 rfl
def toS : List Int → Option (List Nat)
 | []=>some []
 | n :: r=>match toS r with | some l=>if 0 ≤ n ∧ n ≤ 255 then some (n.toNat :: l) else none | none=>none
theorem qDc : ∀ l : List Int, bytesOf (l.map (AV.int .u8)) = toS l
 | []=>rfl
 | n :: r=>by
  simp only [List.map_cons,bytesOf,toS,qDc r]
  cases toS r <;> rfl
theorem qAi {R:Type} {X:Fx R} {p:Pt} {env:Env} {H:Hp} {α:Type} {m:Option α} {f:α → Option R} (g:α → AV × Hp) (p':Pt) (E:α → Env) (h:∀ x,m = some x → evalAt X.C X.fn.ntmps p env H = some (g x)) (ha:∀ x,advE X.fn.ntmps p env (g x).1 = some (p',E x)) (k:∀ x,m = some x → Ok X p' (E x) (g x).2 (f x)):Ok X p env H (m.bind f) :=
 qAj fun x hx=>ok_val (v:=(g x).1) (H':=(g x).2) (h x hx) (ha x) (k x hx)
theorem qGr : ∀ (L : List Blk) (n : Nat) (b : Blk), mkT n (L ++ [b]) = PT.set depth (mkT n L) (n + L.length) b
 | [],n,b=>by rw [List.nil_append,qAm,qFj,qFj]; rfl
 | c :: L,n,b=>by
  rw [List.cons_append,qAm,qAm,qGr L (n + 1) b,PT.set_comm _ _ _ _ _ _ (by omega),List.length_cons,show n + (L.length + 1) = n + 1 + L.length by omega]
theorem qGs (L:List Blk) (b:Blk):(⟨(mkH L).next + 1,Tr.set depth (mkH L).t (mkH L).next b⟩:Hp) = mkH (L ++ [b]):=by
 show (⟨L.length + 1,PT.set depth (mkT 0 L) L.length b⟩:Hp) = ⟨(L ++ [b]).length,mkT 0 (L ++ [b])⟩
 rw [qGr,Nat.zero_add,List.length_append]
 rfl
theorem flatMap_one {α : Type} {enc : α → List AV} {v : α → AV} (h : ∀ x, enc x = [v x]) : ∀ l : List α, l.flatMap enc = l.map v
 | []=>rfl
 | x :: l=>by rw [List.flatMap_cons,h,flatMap_one h l]; rfl
mutual
def dry : AV → Bool
 | .int .. | .bool _ | .str _ | .nilp | .nils | .nilf | .nili | .top=>true
 | .agg xs=>drys xs
 | .tuple xs=>drys xs
 | _=>false
def drys : List AV → Bool
 | []=>true
 | x :: xs=>dry x && drys xs
end
mutual
theorem dry_VR {m m' : Mp} : ∀ (x : AV) (c : Value), dry x = true → VR m x c → VR m' x c
 | .top,_,_,_=>by simp only [VR]
 | .int ..,_,_,e=>by simpa only [VR] using e
 | .bool _,_,_,e=>by simpa only [VR] using e
 | .str _,_,_,e=>by simpa only [VR] using e
 | .nilp,_,_,e=>by simpa only [VR] using e
 | .nils,_,_,e=>by simpa only [VR] using e
 | .nilf,_,_,e=>by simpa only [VR] using e
 | .nili,_,_,e=>by simpa only [VR] using e
 | .resid ..,_,h,_ | .vec ..,_,h,_ | .vptr ..,_,h,_ | .ptr ..,_,h,_ | .slice ..,_,h,_ | .own ..,_,h,_ | .optp ..,_,h,_ | .odat ..,_,h,_ | .tptr ..,_,h,_ | .ownt ..,_,h,_ | .func ..,_,h,_ | .iface ..,_,h,_=>by simp [dry] at h
 | .agg xs,c,h,e=>by
  simp only [VR] at e ⊢
  obtain ⟨ys,h1,h2⟩:=e
  exact ⟨ys,h1,qG8 xs _ (by simpa only [dry] using h) h2⟩
 | .tuple xs,c,h,e=>by
  simp only [VR] at e ⊢
  obtain ⟨ys,h1,h2⟩:=e
  exact ⟨ys,h1,qG8 xs _ (by simpa only [dry] using h) h2⟩
theorem qG8 {m m' : Mp} : ∀ (xs : List AV) (cs : List Value), drys xs = true → VRs m xs cs → VRs m' xs cs
 | [],_,_,e=>by simpa only [VRs] using e
 | x :: xs,cs,h,e=>by
  simp only [VRs] at e ⊢
  simp only [drys,Bool.and_eq_true] at h
  obtain ⟨y,ys,rfl,h1,h2⟩:=e
  exact ⟨y,ys,rfl,dry_VR x y h.1 h1,qG8 xs ys h.2 h2⟩
end
theorem dry_call {P:Program} {f:Nat} {xs xs':List AV} {v:AV} {H:Hp} (h:PureOk P f xs' v) (hz:FzG 0 H xs xs') (hv:dry v = true):CallV P f xs H v H:=by
 refine ⟨?_,h.2⟩
 intro m w base args hargs rw
 have hF0:FOk 0 m m.froz w base:=⟨fun i B cells hi=>rw.frz i B cells hi,rw.ffin,fun i B cells h => .inl h,fun _ _ h=>h⟩
 obtain ⟨F,g1,g2,g3⟩:=fz_ok rw hz hF0 hargs
 have rw0:RW ⟨fun _ _=>none,F,fun _=>none⟩ H0 w w.heap.size:=by
  refine ⟨?_,?_,?_,fun _ _=>rfl,?_,g1.ok,?_,g1.fin,Nat.le_refl _,by show 0 ≤ roots; unfold roots; omega,fun _ _ h=>(by cases h)⟩
  ·intro r b v B N hb hm; cases hm
  ·intro r v B N hm; cases hm
  ·intro r v B N r' v' N' hm; cases hm
  ·intro r v B N hm; cases hm
  ·intro i B cells r v N b _ hm; cases hm
 refine Calls.mono (h.1 ⟨fun _ _=>none,F,fun _=>none⟩ w args (fun _ _=>rfl) g3 rw0) ?_
 rintro x w' ⟨m',c,rfl,rw',st',hvc⟩
 have hsame:∀ B,B < w.heap.size → w'.heap[B]? = w.heap[B]? := fun B hB=>st'.same B hB (fun _ _ _ hm=>by cases hm)
 refine ⟨m,c,rfl,⟨?_,?_,rw.sep,rw.fresh,rw.vle,?_,rw.fsep,rw.ffin,Nat.le_trans rw.base_le st'.size,rw.low,rw.tyk_same hsame⟩,⟨Sub.refl m,fun r v B N e => .inl ⟨v,N,e⟩,fun _ _ _ e => .inl e,st'.size,st'.os,st'.tape,st'.output,fun B hB _=>hsame B hB⟩,dry_VR _ _ hv hvc⟩
 ·intro r b v B N hb hm h1 h2
  obtain ⟨cs,ty,fr,q1,q2⟩:=rw.blk r b v B N hb hm h1 h2
  obtain ⟨_,_,_,hlt,_⟩:=rw.dom r v B N hm
  exact ⟨cs,ty,fr,by rw [hsame B hlt]; exact q1,q2⟩
 ·intro r v B N hm
  obtain ⟨b,q1,q2,q3,q4⟩:=rw.dom r v B N hm
  exact ⟨b,q1,q2,Nat.lt_of_lt_of_le q3 st'.size,q4⟩
 ·exact rw.frz_old hsame rfl
theorem ok_callV {R:Type} {X:Fx R} {p:Pt} {env:Env} {H:Hp} {α:Type} {m:Option α} {f:α → Option R} {fi:Nat} {args:List AV} (g:α → AV) (p':Pt) (E:α → Env) (hc:callAt X.fn.ntmps p env = some (fi,args)) (hf:∀ x,m = some x → CallV X.P fi args H (g x) H) (ha:∀ x,advE X.fn.ntmps p env (g x) = some (p',E x)) (k:∀ x,m = some x → Ok X p' (E x) H (f x)):Ok X p env H (m.bind f):=by
 refine qAj fun x hx=>?_
 have hpo:=hf x hx
 have hax:=ha x
 unfold advE at hax
 unfold callAt at hc
 cases ho:operAt X.fn.ntmps p env with
 | none=>rw [ho] at hax; cases hax
 | some o =>
  rw [ho] at hax hc
  simp only [Option.some.injEq,Prod.mk.injEq] at hax hc
  obtain ⟨e1,e2⟩:=hax
  obtain ⟨ops,n,K,rfl,h1,h2,h3⟩:=qAs ho
  have kx:=k x hx
  rw [← e1,← e2] at kx
  split at hc
  ·rename_i c hoc
   split at hc
   ·rename_i q hq
    split at hc
    ·rename_i fi' first caps hfv
     cases hc
     exact qEz h1 h2 h3 (.inr ⟨c,q,fi,first,caps,hoc,hq,hfv,hpo⟩) kx
    ·cases hc
   ·cases hc
  ·cases hc
theorem ok_callM {R:Type} {X:Fx R} {p:Pt} {env:Env} {H:Hp} {α:Type} {m:Option α} {f:α → Option R} {fi:Nat} {args:List AV} (g:α → AV) (G:α → Hp) (p':Pt) (E:α → Env) (hc:callAt X.fn.ntmps p env = some (fi,args)) (hf:∀ x,m = some x → CallV X.P fi args H (g x) (G x)) (ha:∀ x,advE X.fn.ntmps p env (g x) = some (p',E x)) (k:∀ x,m = some x → Ok X p' (E x) (G x) (f x)):Ok X p env H (m.bind f):=by
 refine qAj fun x hx=>?_
 have hpo:=hf x hx
 have hax:=ha x
 unfold advE at hax
 unfold callAt at hc
 cases ho:operAt X.fn.ntmps p env with
 | none=>rw [ho] at hax; cases hax
 | some o =>
  rw [ho] at hax hc
  simp only [Option.some.injEq,Prod.mk.injEq] at hax hc
  obtain ⟨e1,e2⟩:=hax
  obtain ⟨ops,n,K,rfl,h1,h2,h3⟩:=qAs ho
  have kx:=k x hx
  rw [← e1,← e2] at kx
  split at hc
  ·rename_i c hoc
   split at hc
   ·rename_i q hq
    split at hc
    ·rename_i fi' first caps hfv
     cases hc
     exact qEz h1 h2 h3 (.inr ⟨c,q,fi,first,caps,hoc,hq,hfv,hpo⟩) kx
    ·cases hc
   ·cases hc
  ·cases hc
def PT.allB {α : Type} (p : Nat → α → Bool) : PT α → (Nat → Nat) → Bool
 | .nil,_=>true
 | .node l b r,g=>(match b with | some x=>p (g 0) x | none=>true) && l.allB p (fun n=>g (2 * n + 1)) && r.allB p (fun n=>g (2 * n + 2))
theorem PT.allB_get {α : Type} {p : Nat → α → Bool} : ∀ (t : PT α) (g : Nat → Nat), t.allB p g = true → ∀ (n : Nat) (x : α), t.get n = some x → p (g n) x = true
 | .nil,g,_,n,x,h=>by cases h
 | .node l b r,g,hh,n,x,h=>by
  simp only [PT.allB,Bool.and_eq_true] at hh
  obtain ⟨⟨h1,h2⟩,h3⟩:=hh
  rw [PT.get_node] at h
  by_cases h0:n = 0
  ·rw [if_pos h0] at h
   subst h0
   subst h
   exact h1
  ·rw [if_neg h0] at h
   by_cases hm:n % 2 = 1
   ·rw [if_pos hm] at h
    have:=PT.allB_get l _ h2 _ _ h
    rwa [show 2 * (n / 2) + 1 = n by omega] at this
   ·rw [if_neg hm] at h
    have:=PT.allB_get r _ h3 _ _ h
    rwa [show 2 * (n / 2 - 1) + 2 = n by omega] at this
def beqZ : AV → AV → Bool
 | .top,.top=>true
 | .int k n,.int k' n'=>decide (k = k') && decide (n = n')
 | .bool a,.bool b=>a == b
 | .str a,.str b=>eqL a b
 | .nilp,.nilp=>true
 | .nils,.nils=>true
 | .nilf,.nilf=>true
 | .nili,.nili=>true
 | _,_=>false
theorem beqZ_eq {x y:AV} (h:beqZ x y = true):x = y:=by
 cases x <;> cases y <;> simp [beqZ,qEg] at h ⊢ <;> exact h
def beqZs : List AV → List AV → Bool
 | [],[]=>true
 | a :: x,b :: y=>beqZ a b && beqZs x y
 | _,_=>false
theorem qHe : ∀ (x y : List AV), beqZs x y = true → x = y
 | [],[],_=>rfl
 | [],_ :: _,h=>by simp [beqZs] at h
 | _ :: _,[],h=>by simp [beqZs] at h
 | a :: x,b :: y,h=>by
  simp only [beqZs,Bool.and_eq_true] at h
  rw [beqZ_eq h.1,qHe x y h.2]
def beqTi (i j:Ti):Bool :=
 Nat.beq i.size j.size && Nat.beq i.bytes j.bytes && (match i.zero,j.zero with | some a,some b=>beqZs a b | none,none=>true | _,_=>false) && decide (i.kind = j.kind) && decide (i.fields = j.fields) && Nat.beq i.elem j.elem && Nat.beq i.len j.len && decide (i.flat = j.flat)
theorem beqTi_eq {i j:Ti} (h:beqTi i j = true):i = j:=by
 obtain ⟨a1,a2,a3,a4,a5,a6,a7,a8⟩:=i
 obtain ⟨b1,b2,b3,b4,b5,b6,b7,b8⟩:=j
 simp only [beqTi,Bool.and_eq_true,decide_eq_true_eq] at h
 obtain ⟨⟨⟨⟨⟨⟨⟨h1,h2⟩,h3⟩,h4⟩,h5⟩,h6⟩,h7⟩,h8⟩:=h
 have h1:=Nat.eq_of_beq_eq_true h1
 have h2:=Nat.eq_of_beq_eq_true h2
 have h6:=Nat.eq_of_beq_eq_true h6
 have h7:=Nat.eq_of_beq_eq_true h7
 have h3':a3 = b3:=by
  cases a3 <;> cases b3 <;> simp only at h3 <;> first | rfl | cases h3 | exact congrArg some (qHe _ _ h3)
 subst h1 h2 h3' h4 h5 h6 h7 h8
 rfl
def tiOk (P:Program) (t:Nat) (i:Ti):Bool:=match mkTi P t with | some j=>beqTi i j | none=>false
theorem tiOk_eq {P:Program} {t:Nat} {i:Ti} (h:tiOk P t i = true):mkTi P t = some i:=by
 unfold tiOk at h
 split at h
 ·rename_i j hj
  rw [hj,beqTi_eq h]
 ·cases h
def It (d:Nat) (s:ByteArray) (pos base:Nat) (m:Mp) (w:World) (a:Act):Prop :=
 ∃ B,a.tmps[d]? = some (.pointer (some ⟨B,0,none⟩)) ∧ w.heap[B]? = some (.stringIter s pos) ∧ base ≤ B ∧ ∀ r v N,m r v ≠ some (B,N)
section
variable {R:Type} (X:Fx R)
end
section
variable {R:Type} {X:Fx R} {p p':Pt} {env eE:Env} {H H':Hp} {d pos:Nat} {s:ByteArray}
def dneq (o:Oper) (d:Nat):Bool:=match o.dst with | some e => !Nat.beq e d | none=>true
theorem It.put {base:Nat} {m:Mp} {w:World} {a:Act} {o:Oper} (c:Value) (hd:dneq o d = true) (it:It d s pos base m w a):It d s pos base m w (a.put o.dst c):=by
 obtain ⟨B,h1,h2,h3,h4⟩:=it
 refine ⟨B,?_,h2,h3,h4⟩
 unfold dneq at hd
 cases ho:o.dst with
 | none=>exact h1
 | some e =>
  rw [ho] at hd
  simp only [Act.put]
  rw [Array.getElem?_setIfInBounds_ne]
  ·exact h1
  ·rintro rfl; simp at hd
theorem It.step {base b0:Nat} {m m':Mp} {w w':World} {a:Act} (st:St m w b0 m' w') (it:It d s pos base m w a):It d s pos base m' w' a:=by
 obtain ⟨B,h1,h2,h3,h4⟩:=it
 have hlt:B < w.heap.size:=(Array.getElem?_eq_some_iff.1 h2).1
 refine ⟨B,h1,by rw [st.same B hlt (fun r v N e=>absurd e (h4 r v N))]; exact h2,h3,?_⟩
 intro r v N e
 rcases st.ext r v B N e with ⟨v0,N0,e0⟩ | hB
 ·exact h4 r v0 N0 e0
 ·omega
end
end Go.Proofs.Ytdaaodknplbmkaa.Am
set_option maxRecDepth 100000
namespace Go.Proofs.Ytdaaodknplbmkaa.Am
noncomputable section
open Go
def tyT:PT Ti:=(.node (.node (.node (.node (.node (.node (.node .nil (some ⟨0,0,(some []),.struct,[(0,62)],0,0,none⟩) .nil) (some ⟨1,8,(some [.nilf]),.other,[],0,0,none⟩) .nil) (some ⟨1,8,(some [.nilp]),.pointer,[],61,0,none⟩) (.node .nil (some ⟨1,0,(some [.top]),.other,[],0,0,none⟩) .nil)) (some ⟨4,24,(some [.int .i64 0,.int .i64 0,.bool false,.int .u8 0]),.struct,[(0,2),(1,3),(2,4),(3,6)],0,0,(some [(.int .i64),(.int .i64),.bool,(.int .u8)])⟩) (.node (.node (.node .nil (some ⟨1,4,(some [.int .i32 0]),.int .i32,[],0,0,none⟩) .nil) (some ⟨1,8,(some [.nilf]),.other,[],0,0,none⟩) .nil) (some ⟨1,8,(some [.nilf]),.other,[],0,0,none⟩) (.node .nil (some ⟨1,8,(some [.nilf]),.other,[],0,0,none⟩) .nil))) (some ⟨1,8,(some [.int .i64 0]),.int .i64,[],0,0,none⟩) (.node (.node (.node (.node .nil (some ⟨1,1,(some [.int .u8 0]),.int .u8,[],0,0,none⟩) .nil) (some ⟨1,8,(some [.nilp]),.pointer,[],38,0,none⟩) .nil) (some ⟨1,8,(some [.nilp]),.struct,[(0,17)],0,0,none⟩) (.node .nil (some ⟨1,8,(some [.nilf]),.other,[],0,0,none⟩) .nil)) (some ⟨1,16,(some [.str []]),.string,[],0,0,none⟩) (.node (.node .nil (some ⟨1,8,(some [.nilf]),.other,[],0,0,none⟩) .nil) (some ⟨1,0,(some [.top]),.other,[],0,0,none⟩) (.node .nil (some ⟨5,40,(some [.int .i64 0,.int .i64 0,.int .i64 0,.int .i64 0,.int .i64 0]),.array,[],3,5,(some (List.replicate 5 (.int .i64)))⟩) .nil)))) (some ⟨1,8,(some [.nilf]),.other,[],0,0,none⟩) (.node (.node (.node (.node (.node .nil (some ⟨1,8,(some [.nilf]),.other,[],0,0,none⟩) .nil) (some ⟨1,8,(some [.nilf]),.other,[],0,0,none⟩) .nil) (some ⟨1,8,(some [.nilp]),.pointer,[],73,0,none⟩) (.node .nil (some ⟨1,8,(some [.nilf]),.other,[],0,0,none⟩) .nil)) (some ⟨1,16,(some [.str []]),.string,[],0,0,none⟩) (.node (.node (.node .nil (some ⟨11,48,(some [.int .u64 0,.int .u64 0,.int .u32 0,.int .u8 0,.int .u8 0,.int .u8 0,.int .u8 0,.nilf,.nilp,.int .i32 0,.int .i32 0]),.struct,[(0,12),(1,12),(2,66),(3,67),(4,5),(5,5),(6,68),(7,69),(8,52),(9,70),(10,71)],0,0,none⟩) .nil) (some ⟨1,16,(some [.nili]),.iface,[],0,0,none⟩) .nil) (some ⟨4,56,(some [.int .i64 0,.int .i64 0,.str [],.nils]),.struct,[(0,3),(1,3),(2,9),(3,22)],0,0,(some [(.int .i64),(.int .i64),.string,.slice])⟩) (.node .nil (some ⟨1,8,(some [.int .u64 0]),.int .u64,[],0,0,none⟩) .nil))) (some ⟨1,1,(some [.int .u8 0]),.int .u8,[],0,0,none⟩) (.node (.node (.node (.node .nil (some ⟨1,8,(some [.nilf]),.other,[],0,0,none⟩) .nil) (some ⟨2,32,(some [.nilp,.nils]),.struct,[(0,35),(1,36)],0,0,(some [.pointer,.slice])⟩) .nil) (some ⟨1,4,(some [.int .i32 0]),.int .i32,[],0,0,none⟩) (.node .nil (some ⟨1,8,(some [.nilf]),.other,[],0,0,none⟩) .nil)) (some ⟨2,24,(some [.str [],.int .u64 0]),.struct,[(0,9),(1,12)],0,0,none⟩) (.node (.node .nil (some ⟨1,8,(some [.nilf]),.other,[],0,0,none⟩) .nil) (some ⟨1,8,(some [.nilf]),.other,[],0,0,none⟩) (.node .nil (some ⟨4,40,(some [.nilp,.nilp,.nilp,.str []]),.struct,[(0,17),(1,17),(2,17),(3,9)],0,0,none⟩) .nil))))) (some ⟨1,0,(some [.top]),.other,[],0,0,none⟩) (.node (.node (.node (.node (.node (.node .nil (some ⟨0,0,(some []),.struct,[(0,62)],0,0,none⟩) .nil) (some ⟨1,8,(some [.nilf]),.other,[],0,0,none⟩) .nil) (some ⟨1,8,(some [.nilp]),.pointer,[],64,0,none⟩) (.node .nil (some ⟨1,8,(some [.nilf]),.other,[],0,0,none⟩) .nil)) (some ⟨4,24,(some [.int .i64 0,.int .i64 0,.bool false,.int .u8 0]),.struct,[(0,2),(1,3),(2,4),(3,6)],0,0,(some [(.int .i64),(.int .i64),.bool,(.int .u8)])⟩) (.node (.node (.node .nil (some ⟨11,48,(some [.int .u64 0,.int .u64 0,.int .u32 0,.int .u8 0,.int .u8 0,.int .u8 0,.int .u8 0,.nilf,.nilp,.int .i32 0,.int .i32 0]),.struct,[(0,12),(1,12),(2,66),(3,67),(4,5),(5,5),(6,68),(7,69),(8,52),(9,70),(10,71)],0,0,none⟩) .nil) (some ⟨1,16,(some [.nili]),.iface,[],0,0,none⟩) .nil) (some ⟨1,8,(some [.nilf]),.other,[],0,0,none⟩) (.node .nil (some ⟨1,8,(some [.nilf]),.other,[],0,0,none⟩) .nil))) (some ⟨1,1,(some [.bool false]),.bool,[],0,0,none⟩) (.node (.node (.node (.node .nil (some ⟨1,1,(some [.int .u8 0]),.int .u8,[],0,0,none⟩) .nil) (some ⟨1,24,(some [.nils]),.slice,[],5,0,none⟩) .nil) (some ⟨1,16,(some [.nili]),.iface,[],0,0,none⟩) (.node .nil (some ⟨1,8,(some [.nilp]),.pointer,[],5,0,none⟩) .nil)) (some ⟨1,8,(some [.int .u64 0]),.int .u64,[],0,0,none⟩) (.node (.node .nil (some ⟨1,8,(some [.nilf]),.other,[],0,0,none⟩) .nil) (some ⟨1,8,(some [.nilf]),.other,[],0,0,none⟩) (.node .nil (some ⟨4,40,(some [.nilp,.nilp,.nilp,.str []]),.struct,[(0,17),(1,17),(2,17),(3,9)],0,0,none⟩) .nil)))) (some ⟨1,8,(some [.int .i64 0]),.int .i64,[],0,0,none⟩) (.node (.node (.node (.node (.node .nil (some ⟨1,4,(some [.int .u32 0]),.int .u32,[],0,0,none⟩) .nil) (some ⟨1,8,(some [.nilf]),.other,[],0,0,none⟩) .nil) (some ⟨1,8,(some [.nilp]),.struct,[(0,17)],0,0,none⟩) (.node .nil (some ⟨1,0,(some [.top]),.other,[],0,0,none⟩) .nil)) (some ⟨1,16,(some [.str []]),.string,[],0,0,none⟩) (.node (.node .nil (some ⟨1,0,(some [.top]),.other,[],0,0,none⟩) .nil) (some ⟨4,56,(some [.int .i64 0,.int .i64 0,.str [],.nils]),.struct,[(0,3),(1,3),(2,9),(3,22)],0,0,(some [(.int .i64),(.int .i64),.string,.slice])⟩) (.node .nil (some ⟨1,8,(some [.nilf]),.other,[],0,0,none⟩) .nil))) (some ⟨1,1,(some [.int .u8 0]),.int .u8,[],0,0,none⟩) (.node (.node (.node (.node .nil (some ⟨1,4,(some [.int .i32 0]),.int .i32,[],0,0,none⟩) .nil) (some ⟨2,32,(some [.nilp,.nils]),.struct,[(0,35),(1,36)],0,0,(some [.pointer,.slice])⟩) .nil) (some ⟨1,24,(some [.nils]),.slice,[],26,0,none⟩) (.node .nil (some ⟨1,8,(some [.nilp]),.other,[],0,0,none⟩) .nil)) (some ⟨2,24,(some [.str [],.int .u64 0]),.struct,[(0,9),(1,12)],0,0,none⟩) (.node (.node .nil (some ⟨1,8,(some [.nilf]),.other,[],0,0,none⟩) .nil) (some ⟨1,8,(some [.nilf]),.other,[],0,0,none⟩) (.node .nil (some ⟨0,0,(some []),.array,[],16,0,(some (List.replicate 0 .pointer))⟩) .nil))))))
theorem tyOk:tyT.allB (tiOk Try.prog) id = true:=by decide +kernel
def cx:Cx:=⟨tyT.get⟩
theorem cxTi:∀ t i,cx.ti t = some i → mkTi Try.prog t = some i:=fun t i h=>tiOk_eq (PT.allB_get tyT id tyOk t i h)
theorem cxOrd:Try.prog.follows .mixedOrders = true:=by decide +kernel
end
mutual
def renV (ρ : Nat → Nat) : AV → AV
 | .ptr r v off => .ptr (ρ r) v off
 | .slice r v off len sz => .slice (ρ r) v off len sz
 | .own r len sz => .own (ρ r) len sz
 | .optp s r v off => .optp s (ρ r) v off
 | .odat t r len sz => .odat t (ρ r) len sz
 | .ownt t r len sz => .ownt t (ρ r) len sz
 | .tptr t n r v off => .tptr t n (ρ r) v off
 | .agg xs => .agg (renVs ρ xs)
 | .tuple xs => .tuple (renVs ρ xs)
 | .func f a b => .func f (renVs ρ a) (renVs ρ b)
 | .iface t v => .iface t (renV ρ v)
 | .top => .top
 | .int k n => .int k n
 | .resid k q r => .resid k q r
 | .bool b => .bool b
 | .str s => .str s
 | .nilp => .nilp
 | .nils => .nils
 | .nilf => .nilf
 | .nili => .nili
 | .vec n sz c => .vec n sz c
 | .vptr c => .vptr c
def renVs (ρ : Nat → Nat) : List AV → List AV
 | []=>[]
 | x :: xs=>renV ρ x :: renVs ρ xs
end
mutual
theorem qGf {m m0 : Mp} {ρ : Nat → Nat} {n : Nat} (h : ∀ i v p, i < n → m (ρ i) v = some p → m0 i v = some p) (hf : ∀ i p, m.froz i = some p → m0.froz i = some p) (ht : ∀ B t, m.tys B = some t → m0.tys B = some t) : ∀ (x : AV) (c : Value), below n x = true → VR m (renV ρ x) c → VR m0 x c
 | .top,_,_,_=>by simp only [VR]
 | .int ..,_,_,e=>by simpa only [VR,renV] using e
 | .resid ..,_,_,e=>by simpa only [VR,renV] using e
 | .bool _,_,_,e=>by simpa only [VR,renV] using e
 | .str _,_,_,e=>by simpa only [VR,renV] using e
 | .nilp,_,_,e=>by simpa only [VR,renV] using e
 | .nils,_,_,e=>by simpa only [VR,renV] using e
 | .nilf,_,_,e=>by simpa only [VR,renV] using e
 | .nili,_,_,e=>by simpa only [VR,renV] using e
 | .vec ..,_,_,e=>by
  simp only [VR,renV] at e ⊢
  obtain ⟨h0,a,cap,h1,h2,h3,h4⟩:=e
  exact ⟨h0,a,cap,h1,h2,h3,fun hn=>let ⟨i,B,off,all,q,r⟩:=h4 hn; ⟨i,B,off,all,hf _ _ q,r⟩⟩
 | .vptr ..,_,_,e=>by
  simp only [VR,renV] at e ⊢
  obtain ⟨i,B,off,all,q,r⟩:=e
  exact ⟨i,B,off,all,hf _ _ q,r⟩
 | .ptr r v off,_,hb,e=>by
  simp only [VR,renV,below,Nat.blt_eq] at e hb ⊢
  obtain ⟨B,N,h1,h2⟩:=e
  exact ⟨B,N,h _ _ _ hb h1,h2⟩
 | .slice r v off len sz,_,hb,e=>by
  simp only [VR,renV,below,Nat.blt_eq] at e hb ⊢
  obtain ⟨B,N,cap,h1,h2⟩:=e
  exact ⟨B,N,cap,h _ _ _ hb h1,h2⟩
 | .own r len sz,_,hb,e=>by
  simp only [VR,renV,below,Nat.blt_eq] at e hb ⊢
  rcases e with e | ⟨B,N,cap,h1,h2⟩
  ·exact .inl e
  ·exact .inr ⟨B,N,cap,h _ _ _ hb h1,h2⟩
 | .optp s r v off,_,hb,e=>by
  simp only [VR,renV,below,Nat.blt_eq] at e hb ⊢
  rcases e with e | ⟨e,B,N,h1,h2⟩
  ·exact .inl e
  ·exact .inr ⟨e,B,N,h _ _ _ hb h1,h2⟩
 | .odat t r len sz,_,hb,e=>by
  simp only [VR,renV,below,Nat.blt_eq] at e hb ⊢
  rcases e with e | ⟨B,N,h1,h2,h3⟩
  ·exact .inl e
  ·exact .inr ⟨B,N,h _ _ _ hb h1,ht _ _ h2,h3⟩
 | .ownt t r len sz,_,hb,e=>by
  simp only [VR,renV,below,Nat.blt_eq] at e hb ⊢
  rcases e with e | ⟨B,N,cap,h1,h2,h3⟩
  ·exact .inl e
  ·exact .inr ⟨B,N,cap,h _ _ _ hb h1,ht _ _ h2,h3⟩
 | .tptr t n r v off,_,hb,e=>by
  simp only [VR,renV,below,Nat.blt_eq] at e hb ⊢
  obtain ⟨B,h1,h2,h3⟩:=e
  exact ⟨B,h _ _ _ hb h1,ht _ _ h2,h3⟩
 | .agg xs,c,hb,e=>by
  simp only [VR,renV] at e ⊢
  obtain ⟨ys,h1,h2⟩:=e
  exact ⟨ys,h1,qAr h hf ht xs _ (by simpa only [below] using hb) h2⟩
 | .tuple xs,c,hb,e=>by
  simp only [VR,renV] at e ⊢
  obtain ⟨ys,h1,h2⟩:=e
  exact ⟨ys,h1,qAr h hf ht xs _ (by simpa only [below] using hb) h2⟩
 | .func f a b,c,hb,e=>by
  simp only [VR,renV] at e ⊢
  simp only [below,Bool.and_eq_true] at hb
  obtain ⟨ys,zs,h1,h2,h3⟩:=e
  exact ⟨ys,zs,h1,qAr h hf ht a _ hb.1 h2,qAr h hf ht b _ hb.2 h3⟩
 | .iface t v,c,hb,e=>by
  simp only [VR,renV] at e ⊢
  obtain ⟨d,h1,h2⟩:=e
  exact ⟨d,h1,qGf h hf ht v _ (by simpa only [below] using hb) h2⟩
theorem qAr {m m0 : Mp} {ρ : Nat → Nat} {n : Nat} (h : ∀ i v p, i < n → m (ρ i) v = some p → m0 i v = some p) (hf : ∀ i p, m.froz i = some p → m0.froz i = some p) (ht : ∀ B t, m.tys B = some t → m0.tys B = some t) : ∀ (xs : List AV) (cs : List Value), belows n xs = true → VRs m (renVs ρ xs) cs → VRs m0 xs cs
 | [],_,_,e=>by simpa only [VRs,renVs] using e
 | x :: xs,cs,hb,e=>by
  simp only [VRs,renVs] at e ⊢
  simp only [belows,Bool.and_eq_true] at hb
  obtain ⟨y,ys,rfl,h1,h2⟩:=e
  exact ⟨y,ys,rfl,qGf h hf ht x y hb.1 h1,qAr h hf ht xs ys hb.2 h2⟩
end
mutual
theorem qFb {m m0 : Mp} {ρ : Nat → Nat} {n : Nat} (h : ∀ i v p, i < n → m0 i v = some p → m (ρ i) v = some p) (hf : ∀ i p, m0.froz i = some p → m.froz i = some p) (ht : ∀ B t, m0.tys B = some t → m.tys B = some t) : ∀ (x : AV) (c : Value), below n x = true → VR m0 x c → VR m (renV ρ x) c
 | .top,_,_,_=>by simp only [VR,renV]
 | .int ..,_,_,e=>by simpa only [VR,renV] using e
 | .resid ..,_,_,e=>by simpa only [VR,renV] using e
 | .bool _,_,_,e=>by simpa only [VR,renV] using e
 | .str _,_,_,e=>by simpa only [VR,renV] using e
 | .nilp,_,_,e=>by simpa only [VR,renV] using e
 | .nils,_,_,e=>by simpa only [VR,renV] using e
 | .nilf,_,_,e=>by simpa only [VR,renV] using e
 | .nili,_,_,e=>by simpa only [VR,renV] using e
 | .vec ..,_,_,e=>by
  simp only [VR,renV] at e ⊢
  obtain ⟨h0,a,cap,h1,h2,h3,h4⟩:=e
  exact ⟨h0,a,cap,h1,h2,h3,fun hn=>let ⟨i,B,off,all,q,r⟩:=h4 hn; ⟨i,B,off,all,hf _ _ q,r⟩⟩
 | .vptr ..,_,_,e=>by
  simp only [VR,renV] at e ⊢
  obtain ⟨i,B,off,all,q,r⟩:=e
  exact ⟨i,B,off,all,hf _ _ q,r⟩
 | .ptr r v off,_,hb,e=>by
  simp only [VR,renV,below,Nat.blt_eq] at e hb ⊢
  obtain ⟨B,N,h1,h2⟩:=e
  exact ⟨B,N,h _ _ _ hb h1,h2⟩
 | .slice r v off len sz,_,hb,e=>by
  simp only [VR,renV,below,Nat.blt_eq] at e hb ⊢
  obtain ⟨B,N,cap,h1,h2⟩:=e
  exact ⟨B,N,cap,h _ _ _ hb h1,h2⟩
 | .own r len sz,_,hb,e=>by
  simp only [VR,renV,below,Nat.blt_eq] at e hb ⊢
  rcases e with e | ⟨B,N,cap,h1,h2⟩
  ·exact .inl e
  ·exact .inr ⟨B,N,cap,h _ _ _ hb h1,h2⟩
 | .optp s r v off,_,hb,e=>by
  simp only [VR,renV,below,Nat.blt_eq] at e hb ⊢
  rcases e with e | ⟨e,B,N,h1,h2⟩
  ·exact .inl e
  ·exact .inr ⟨e,B,N,h _ _ _ hb h1,h2⟩
 | .odat t r len sz,_,hb,e=>by
  simp only [VR,renV,below,Nat.blt_eq] at e hb ⊢
  rcases e with e | ⟨B,N,h1,h2,h3⟩
  ·exact .inl e
  ·exact .inr ⟨B,N,h _ _ _ hb h1,ht _ _ h2,h3⟩
 | .ownt t r len sz,_,hb,e=>by
  simp only [VR,renV,below,Nat.blt_eq] at e hb ⊢
  rcases e with e | ⟨B,N,cap,h1,h2,h3⟩
  ·exact .inl e
  ·exact .inr ⟨B,N,cap,h _ _ _ hb h1,ht _ _ h2,h3⟩
 | .tptr t n r v off,_,hb,e=>by
  simp only [VR,renV,below,Nat.blt_eq] at e hb ⊢
  obtain ⟨B,h1,h2,h3⟩:=e
  exact ⟨B,h _ _ _ hb h1,ht _ _ h2,h3⟩
 | .agg xs,c,hb,e=>by
  simp only [VR,renV] at e ⊢
  obtain ⟨ys,h1,h2⟩:=e
  exact ⟨ys,h1,qBj h hf ht xs _ (by simpa only [below] using hb) h2⟩
 | .tuple xs,c,hb,e=>by
  simp only [VR,renV] at e ⊢
  obtain ⟨ys,h1,h2⟩:=e
  exact ⟨ys,h1,qBj h hf ht xs _ (by simpa only [below] using hb) h2⟩
 | .func f a b,c,hb,e=>by
  simp only [VR,renV] at e ⊢
  simp only [below,Bool.and_eq_true] at hb
  obtain ⟨ys,zs,h1,h2,h3⟩:=e
  exact ⟨ys,zs,h1,qBj h hf ht a _ hb.1 h2,qBj h hf ht b _ hb.2 h3⟩
 | .iface t v,c,hb,e=>by
  simp only [VR,renV] at e ⊢
  obtain ⟨d,h1,h2⟩:=e
  exact ⟨d,h1,qFb h hf ht v _ (by simpa only [below] using hb) h2⟩
theorem qBj {m m0 : Mp} {ρ : Nat → Nat} {n : Nat} (h : ∀ i v p, i < n → m0 i v = some p → m (ρ i) v = some p) (hf : ∀ i p, m0.froz i = some p → m.froz i = some p) (ht : ∀ B t, m0.tys B = some t → m.tys B = some t) : ∀ (xs : List AV) (cs : List Value), belows n xs = true → VRs m0 xs cs → VRs m (renVs ρ xs) cs
 | [],_,_,e=>by simpa only [VRs,renVs] using e
 | x :: xs,cs,hb,e=>by
  simp only [VRs,renVs] at e ⊢
  simp only [belows,Bool.and_eq_true] at hb
  obtain ⟨y,ys,rfl,h1,h2⟩:=e
  exact ⟨y,ys,rfl,qFb h hf ht x y hb.1 h1,qBj h hf ht xs ys hb.2 h2⟩
end
theorem qBc (ρ : Nat → Nat) : ∀ xs : List AV, (renVs ρ xs).length = xs.length
 | []=>rfl
 | x :: xs=>by simp only [renVs,List.length_cons,qBc ρ xs]
theorem qCc (ρ : Nat → Nat) : ∀ (xs : List AV) (k : Nat), (renVs ρ xs).take k = renVs ρ (xs.take k)
 | [],k=>by simp [renVs]
 | x :: xs,0=>by simp [renVs]
 | x :: xs,k + 1=>by simp only [renVs,List.take_succ_cons,qCc ρ xs k]
mutual
theorem qIa (ρ : Nat → Nat) : ∀ x : AV, pur x = true → renV ρ x = x
 | .top,_ | .int ..,_ | .resid ..,_ | .bool _,_ | .str _,_ | .nilp,_ | .nils,_ | .nilf,_ | .nili,_ | .vec ..,_ | .vptr ..,_=>by simp [renV]
 | .ptr ..,h | .slice ..,h | .own ..,h | .optp ..,h | .odat ..,h | .tptr ..,h | .ownt ..,h=>by simp [pur] at h
 | .agg xs,h=>by simp only [pur,renV] at h ⊢; rw [qBk ρ xs h]
 | .tuple xs,h=>by simp only [pur,renV] at h ⊢; rw [qBk ρ xs h]
 | .func _ a b,h=>by simp only [pur,renV,Bool.and_eq_true] at h ⊢; rw [qBk ρ a h.1,qBk ρ b h.2]
 | .iface _ v,h=>by simp only [pur,renV] at h ⊢; rw [qIa ρ v h]
theorem qBk (ρ : Nat → Nat) : ∀ xs : List AV, purs xs = true → renVs ρ xs = xs
 | [],_=>rfl
 | x :: xs,h=>by simp only [purs,renVs,Bool.and_eq_true] at h ⊢; rw [qIa ρ x h.1,qBk ρ xs h.2]
end
noncomputable def at0 (rs:List Nat) (i:Nat):Nat:=match nth rs i with | some r=>r | none=>0
def RB (rs:List Nat) (n:Nat) (b c:Blk):Prop:=c.ro = b.ro ∧ ((c = b ∧ purs b.cells = true) ∨ (belows n b.cells = true ∧ c = ⟨renVs (at0 rs) b.cells,b.minv,b.ro⟩))
def RBs (rs : List Nat) (n : Nat) (M : List Blk) : Nat → List Blk → Prop
 | _,[]=>True
 | i,b :: L=>(match nth M (at0 rs i) with | some c=>RB rs n b c | none=>False) ∧ RBs rs n M (i + 1) L
theorem qBx {rs : List Nat} {n : Nat} {M : List Blk} : ∀ {L : List Blk} {i j : Nat} {b : Blk}, RBs rs n M i L → L[j]? = some b → ∃ c, M[at0 rs (i + j)]? = some c ∧ RB rs n b c
 | [],i,j,b,_,h=>by simp at h
 | b0 :: L,i,j,b,hr,h=>by
  cases j with
  | zero =>
   simp at h
   subst h
   have h1:=hr.1
   split at h1
   ·rename_i c hc; exact ⟨c,by rw [← qC3]; exact hc,h1⟩
   ·exact h1.elim
  | succ j =>
   obtain ⟨c,h1,h2⟩:=qBx hr.2 (by simpa using h)
   exact ⟨c,by rw [show i + (j + 1) = i + 1 + j by omega]; exact h1,h2⟩
theorem RB.cells {rs:List Nat} {n:Nat} {b c:Blk} (h:RB rs n b c):c.ro = b.ro ∧ c.ro = b.ro ∧ c.minv = b.minv ∧ belows n b.cells = true ∧ c.cells = renVs (at0 rs) b.cells:=by
 obtain ⟨h0,⟨rfl,h1⟩ | ⟨h1,rfl⟩⟩:=h
 ·exact ⟨h0,h0,rfl,qA0 _ h1,(qBk _ _ h1).symm⟩
 ·exact ⟨h0,rfl,rfl,h1,rfl⟩
def SameB (rs : List Nat) : Nat → List Blk → List Blk → Prop
 | _,[],_=>True
 | _,_ :: _,[]=>False
 | i,b :: M,c :: M'=>(c = b ∨ (rs.any fun r=>Nat.beq r i) = true) ∧ SameB rs (i + 1) M M'
theorem qF6 {rs : List Nat} : ∀ {M M' : List Blk} {i j : Nat}, SameB rs i M M' → j < M.length → (∀ r ∈ rs, r ≠ i + j) → M'[j]? = M[j]?
 | [],_,i,j,_,h,_=>by simp at h
 | b :: M,[],i,j,h,_,_=>h.elim
 | b :: M,c :: M',i,j,h,hj,hn=>by
  cases j with
  | zero =>
   rcases h.1 with h1 | h1
   ·rw [h1]; rfl
   ·obtain ⟨r,hr,he⟩:=List.any_eq_true.1 h1
    exact absurd (Nat.eq_of_beq_eq_true he) (hn r hr)
  | succ j =>
   simp only [List.getElem?_cons_succ]
   exact qF6 h.2 (by simpa using hj) fun r hr=>by rw [show i + 1 + j = i + (j + 1) by omega]; exact hn r hr
def frB (n k k' : Nat) : Nat → List Nat → Bool
 | _,[]=>true
 | i,r :: l=>(bif Nat.blt i n then Nat.blt r k else Nat.ble k r && Nat.blt r k') && (l.all fun s => !Nat.beq s r) && frB n k k' (i + 1) l
def frOk (n n' k k':Nat) (rs:List Nat):Bool:=Nat.beq rs.length n' && Nat.ble n n' && Nat.ble k k' && Nat.ble k' roots && Nat.ble n' roots && frB n k k' 0 rs
theorem qHb {n k k' : Nat} : ∀ {l : List Nat} {i : Nat}, frB n k k' i l = true → (∀ (j r : Nat), l[j]? = some r → (i + j < n → r < k) ∧ (n ≤ i + j → k ≤ r ∧ r < k')) ∧ (∀ (j j' r : Nat), l[j]? = some r → l[j']? = some r → j = j')
 | [],i,_=>⟨fun j r h=>by simp at h,fun j j' r h=>by simp at h⟩
 | r0 :: l,i,h=>by
  simp only [frB,Bool.and_eq_true] at h
  obtain ⟨⟨h1,h2⟩,h3⟩:=h
  obtain ⟨g1,g2⟩:=qHb h3
  have hne:∀ j:Nat,l[j]? ≠ some r0:=by
   intro j hj
   have:=List.all_eq_true.1 h2 r0 (List.mem_of_getElem? hj)
   simp at this
  refine ⟨?_,?_⟩
  ·intro j r hj
   cases j with
   | zero =>
    simp at hj; subst hj
    refine ⟨fun hlt=>?_,fun hge=>?_⟩
    ·have:Nat.blt i n = true:=by simpa using hlt
     rw [this] at h1; simpa using h1
    ·have:Nat.blt i n = false:=by
      cases hq:Nat.blt i n with
      | false=>rfl
      | true=>rw [Nat.blt_eq] at hq; omega
     rw [this] at h1; simpa using h1
   | succ j =>
    have:=g1 j r (by simpa using hj)
    rw [show i + (j + 1) = i + 1 + j by omega]
    exact this
  ·intro j j' r hj hj'
   cases j with
   | zero =>
    cases j' with
    | zero=>rfl
    | succ j'=>simp at hj hj'; subst hj; exact absurd hj' (hne j')
   | succ j =>
    cases j' with
    | zero=>simp at hj hj'; subst hj'; exact absurd hj (hne j)
    | succ j'=>rw [g2 j j' r (by simpa using hj) (by simpa using hj')]
theorem qAk {L:List Blk} (hl:L.length ≤ roots) (r:Nat):(mkH L).t.get r = L[r]? := by
 show (mkT 0 L).get r = _
 rw [qAz _ _ _ (by omega)]; simp
theorem frame {P : Program} {g : Nat} {ys : List AV} {L L' : List Blk} {v : AV} (h : CallT P g ys (mkH L) none v (mkH L')) (rs : List Nat) (M M' : List Blk)
 (hc:frOk L.length L'.length M.length M'.length rs = true) (hys:belows L.length ys = true) (hL:RBs rs L.length M 0 L) (hL':RBs rs L'.length M' 0 L') (hv:below L'.length v = true) (hS:SameB rs 0 M M') :
 CallT P g (renVs (at0 rs) ys) (mkH M) none (renV (at0 rs) v) (mkH M'):=by
 refine ⟨?_,h.2⟩
 intro m w base args hargs rw
 simp only [frOk,Bool.and_eq_true,Nat.beq_eq,Nat.ble_eq] at hc
 obtain ⟨⟨⟨⟨⟨c1,c2⟩,c3⟩,c4⟩,c6⟩,c5⟩:=hc
 obtain ⟨hbd,hinj⟩:=qHb c5
 have hat:∀ i,i < L'.length → ∃ r,rs[i]? = some r ∧ at0 rs i = r:=by
  intro i hi
  have hi':i < rs.length:=by omega
  refine ⟨rs[i],List.getElem?_eq_getElem hi',?_⟩
  unfold at0
  rw [qC3,List.getElem?_eq_getElem hi']
 have hlow:∀ i,i < L.length → at0 rs i < M.length:=by
  intro i hi
  obtain ⟨r,h1,h2⟩:=hat i (by omega)
  rw [h2]
  exact (hbd i r h1).1 (by omega)
 have hhigh:∀ i,L.length ≤ i → i < L'.length → M.length ≤ at0 rs i:=by
  intro i hi hi'
  obtain ⟨r,h1,h2⟩:=hat i hi'
  rw [h2]
  exact ((hbd i r h1).2 (by omega)).1
 have hinj':∀ i j,i < L'.length → j < L'.length → at0 rs i = at0 rs j → i = j:=by
  intro i j hi hj e
  obtain ⟨r,h1,h2⟩:=hat i hi
  obtain ⟨s,h3,h4⟩:=hat j hj
  rw [h2,h4] at e
  subst e
  exact hinj i j r h1 h3
 have hMget:=qAk (L:=M) (by omega)
 have hM'get:=qAk (L:=M') c4
 have hroomL:L.length ≤ roots ∧ L'.length ≤ roots:=by omega
 have hLget:=qAk (L:=L) hroomL.1
 have hL'get:=qAk (L:=L') hroomL.2
 have hnoM:∀ r v,M.length ≤ r → m r v = none:=by
  intro r v hr
  cases e:m r v with
  | none=>rfl
  | some p =>
   obtain ⟨b,hb,_⟩:=rw.dom r v p.1 p.2 e
   rw [hMget,List.getElem?_eq_none hr] at hb; cases hb
 let m0:Mp:=⟨fun i v=>if i < L.length then m (at0 rs i) v else none,m.froz,m.tys⟩
 have hm0:∀ {i v p},m0 i v = some p → i < L.length ∧ m (at0 rs i) v = some p:=by
  intro i v p e
  have e:(if i < L.length then m (at0 rs i) v else none) = some p:=e
  by_cases hi:i < L.length
  ·rw [if_pos hi] at e; exact ⟨hi,e⟩
  ·rw [if_neg hi] at e; cases e
 have hm0':∀ i v p,i < L.length → m (at0 rs i) v = some p → m0 i v = some p:=by
  intro i v p hi e
  show (if i < L.length then m (at0 rs i) v else none) = some p
  rw [if_pos hi]; exact e
 have rw0:RW m0 (mkH L) w base:=by
  refine ⟨?_,?_,?_,?_,?_,rw.frz,?_,rw.ffin,rw.base_le,hroomL.1,rw.tyk⟩
  ·intro i b v B N hb hm h1 h2
   rw [hLget] at hb
   obtain ⟨hi,hm⟩:=hm0 hm
   obtain ⟨c,q1,q2⟩:=qBx hL hb
   rw [Nat.zero_add] at q1
   obtain ⟨e1,e2,e3,e4,e5⟩:=q2.cells
   obtain ⟨cs,ty,fr,p1,p2,p3,p4,p5⟩:=rw.blk (at0 rs i) c v B N (by rw [hMget]; exact q1) hm (by rw [e3]; exact h1) (by rw [e5,qBc]; exact h2)
   refine ⟨cs,ty,fr,p1,p2,p3,fun q=>p4 (e2.trans q),?_⟩
   rw [e5,qCc] at p5
   exact qAr hm0' (fun _ _ h=>h) (fun _ _ h=>h) _ _ (qAf v e4) p5
  ·intro i v B N hm
   obtain ⟨hi,hm⟩:=hm0 hm
   obtain ⟨c0,g1,g2,g3,g4⟩:=rw.dom _ _ _ _ hm
   have hb:L[i]? = some L[i]:=List.getElem?_eq_getElem hi
   obtain ⟨c,q1,q2⟩:=qBx hL hb
   rw [Nat.zero_add] at q1
   rw [hMget,q1] at g1
   cases g1
   obtain ⟨e1,e2,e3,e4,e5⟩:=q2.cells
   exact ⟨_,by rw [hLget]; exact hb,by rw [e5,qBc] at g2; exact g2,g3,fun q=>g4 (e2.trans q)⟩
  ·intro i v B N i' v' N' hm hm' hB
   obtain ⟨hi,hm⟩:=hm0 hm
   obtain ⟨hi',hm'⟩:=hm0 hm'
   exact hinj' i i' (by omega) (by omega) (rw.sep _ _ _ _ _ _ _ hm hm' hB)
  ·intro r hr
   have hr:L.length ≤ r:=hr
   rw [hLget,List.getElem?_eq_none hr]
  ·intro i v B N hm
   exact rw.vle _ _ _ _ (hm0 hm).2
  ·intro i B cells r v N b hi hm hb
   obtain ⟨hr,hm⟩:=hm0 hm
   rw [hLget] at hb
   obtain ⟨c,q1,q2⟩:=qBx hL hb
   rw [Nat.zero_add] at q1
   obtain ⟨e1,e2,_⟩:=q2.cells
   have:=rw.fsep i B cells _ v N c hi hm (by rw [hMget]; exact q1)
   exact e2.symm.trans this
 have hargs0:VRs m0 ys args.toList:=qAr hm0' (fun _ _ h=>h) (fun _ _ h=>h) _ _ hys hargs
 refine Calls.mono (h.1 m0 w base args hargs0 rw0) ?_
 intro x w' hend
 have hsep:∀ {r v B N},m r v = some (B,N) → (∀ i,i < L.length → at0 rs i ≠ r) → ∀ i v' N',m0 i v' = some (B,N') → B < base:=by
  intro r v B N hm hr i v' N' hi
  obtain ⟨hi,hm'⟩:=hm0 hi
  rcases Nat.lt_or_ge B base with hlt | hge
  ·exact hlt
  ·exact absurd (rw.sep _ _ _ _ _ _ _ hm' hm hge) (hr i hi)
 obtain ⟨m1,c,rfl,rw1,st,hvc⟩:=hend
 have hm1:∀ {i v p},m1 i v = some p → i < L'.length:=by
  intro i v p e
  obtain ⟨b,hb,_⟩:=rw1.dom i v p.1 p.2 e
  rw [hL'get] at hb
  exact (List.getElem?_eq_some_iff.1 hb).1
 have hσ:∀ r,(∃ i,i < L'.length ∧ at0 rs i = r) ∨ (∀ i,i < L'.length → at0 rs i ≠ r):=by
  intro r
  rcases Classical.em (∃ i,i < L'.length ∧ at0 rs i = r) with h | h
  ·exact .inl h
  ·exact .inr fun i hi e=>h ⟨i,hi,e⟩
 let m2:Mp:=⟨fun r v=>if h:∃ i,i < L'.length ∧ at0 rs i = r then m1 (Classical.choose h) v else m r v,m1.froz,m1.tys⟩
 have hin:∀ {i v},i < L'.length → m2 (at0 rs i) v = m1 i v:=by
  intro i v hi
  have hex:∃ j,j < L'.length ∧ at0 rs j = at0 rs i:=⟨i,hi,rfl⟩
  show (if h:∃ j,j < L'.length ∧ at0 rs j = at0 rs i then m1 (Classical.choose h) v else m (at0 rs i) v) = _
  rw [dif_pos hex]
  have hs:=Classical.choose_spec hex
  rw [hinj' _ _ hs.1 hi hs.2]
 have hout:∀ {r v},(∀ i,i < L'.length → at0 rs i ≠ r) → m2 r v = m r v:=by
  intro r v hr
  show (if h:∃ j,j < L'.length ∧ at0 rs j = r then m1 (Classical.choose h) v else m r v) = _
  rw [dif_neg]
  rintro ⟨j,h1,h2⟩
  exact hr j h1 h2
 have hfwd:∀ i v p,i < L'.length → m1 i v = some p → m2 (at0 rs i) v = some p:=fun i v p hi e=>by rw [hin hi]; exact e
 have hsub:Sub m m2:=by
  refine ⟨?_,fun i p hp=>st.sub.2 i p hp,fun B t hp=>st.sub.3 B t hp⟩
  intro r v p hp
  rcases hσ r with ⟨i,hi,rfl⟩ | hr
  ·rw [hin hi]
   rcases Nat.lt_or_ge i L.length with h1 | h1
   ·exact st.sub.1 i v p (hm0' i v p h1 hp)
   ·have:=hnoM _ v (hhigh i h1 hi)
    rw [this] at hp; cases hp
  ·rw [hout hr]; exact hp
 have hother:∀ {r v B N},(∀ i,i < L'.length → at0 rs i ≠ r) → m r v = some (B,N) → w'.heap[B]? = w.heap[B]? := by
  intro r v B N hr hm
  obtain ⟨b,q1,q2,q3,q4⟩:=rw.dom r v B N hm
  exact st.same B q3 fun i v' N' e=>hsep hm (fun i hi=>hr i (by omega)) i v' N' e
 have hsameM:∀ {r b},(∀ i,i < L'.length → at0 rs i ≠ r) → r < M.length → M'[r]? = some b → M[r]? = some b:=by
  intro r b hr hlt hb
  rw [← qF6 hS hlt]
  ·exact hb
  ·intro s hs
   obtain ⟨j,hj⟩:=List.mem_iff_getElem?.1 hs
   have hjl:j < L'.length:=by
    have:=(List.getElem?_eq_some_iff.1 hj).1
    omega
   obtain ⟨s',h1,h2⟩:=hat j hjl
   rw [hj] at h1
   cases h1
   rw [Nat.zero_add,← h2]
   exact hr j hjl
 have hltM:∀ {r v p},m r v = some p → r < M.length:=by
  intro r v p hm
  rcases Nat.lt_or_ge r M.length with h1 | h1
  ·exact h1
  ·rw [hnoM r v h1] at hm; cases hm
 have hsep2:∀ {i r v v' B N N'},i < L'.length → (∀ i,i < L'.length → at0 rs i ≠ r) → m1 i v = some (B,N) → m r v' = some (B,N') → base ≤ B → False:=by
  intro i r v v' B N N' hi hr h1 h2 hB
  rcases st.ext i v B N h1 with ⟨v0,N0,e0⟩ | hnew
  ·exact absurd (hsep h2 (fun i hi=>hr i (by omega)) i v0 N0 e0) (by omega)
  ·obtain ⟨_,_,_,q3,_⟩:=rw.dom r v' B N' h2
   omega
 refine ⟨m2,c,rfl,⟨?_,?_,?_,?_,?_,rw1.frz,?_,rw1.ffin,rw1.base_le,c4,rw1.tyk⟩,⟨hsub,?_,?_,st.size,st.os,st.tape,st.output,fun B hB hm=>st.same B hB fun i v N e=>hm _ v N (hm0 e).2⟩,qFb hfwd (fun _ _ h=>h) (fun _ _ h=>h) v c hv hvc⟩
 ·intro r b v B N hb hm h1 h2
  rw [hM'get] at hb
  rcases hσ r with ⟨i,hi,rfl⟩ | hr
  ·rw [hin hi] at hm
   have hbl:L'[i]? = some L'[i]:=List.getElem?_eq_getElem hi
   obtain ⟨c',q1,q2⟩:=qBx hL' hbl
   rw [Nat.zero_add,hb] at q1
   cases q1
   obtain ⟨e1,e2,e3,e4,e5⟩:=q2.cells
   rw [e3] at h1
   rw [e5,qBc] at h2
   obtain ⟨cs,ty,fr,p1,p2,p3,p4,p5⟩:=rw1.blk i _ v B N (by rw [hL'get]; exact hbl) hm h1 h2
   refine ⟨cs,ty,fr,p1,p2,p3,fun q=>p4 (e1.symm.trans q),?_⟩
   rw [e5,qCc]
   exact qBj hfwd (fun _ _ h=>h) (fun _ _ h=>h) _ _ (qAf v e4) p5
  ·rw [hout hr] at hm
   have hbM:=hsameM hr (hltM hm) hb
   obtain ⟨cs,ty,fr,p1,p2,p3,p4,p5⟩:=rw.blk r b v B N (by rw [hMget]; exact hbM) hm h1 h2
   exact ⟨cs,ty,fr,by rw [hother hr hm]; exact p1,p2,p3,p4,VRs.mono hsub _ _ p5⟩
 ·intro r v B N hm
  rcases hσ r with ⟨i,hi,rfl⟩ | hr
  ·rw [hin hi] at hm
   obtain ⟨b,q1,q2,q3,q4⟩:=rw1.dom i v B N hm
   rw [hL'get] at q1
   obtain ⟨c',g1,g2⟩:=qBx hL' q1
   rw [Nat.zero_add] at g1
   obtain ⟨e1,e2,e3,e4,e5⟩:=g2.cells
   exact ⟨c',by rw [hM'get]; exact g1,by rw [e5,qBc]; exact q2,q3,fun q=>q4 (e1.symm.trans q)⟩
  ·rw [hout hr] at hm
   obtain ⟨b,q1,q2,q3,q4⟩:=rw.dom r v B N hm
   rw [hMget] at q1
   have hlt:=(List.getElem?_eq_some_iff.1 q1).1
   have hM'r:M'[r]? = some b:=by
    have hlt':r < M'.length:=by omega
    have:=hsameM (b:=M'[r]) hr hlt (List.getElem?_eq_getElem hlt')
    rw [q1] at this
    rw [List.getElem?_eq_getElem hlt',← this]
   exact ⟨b,by rw [hM'get]; exact hM'r,q2,Nat.lt_of_lt_of_le q3 st.size,q4⟩
 ·intro r v B N r' v' N' hm hm' hB
  rcases hσ r with ⟨i,hi,rfl⟩ | hr
  ·rw [hin hi] at hm
   rcases hσ r' with ⟨j,hj,rfl⟩ | hr'
   ·rw [hin hj] at hm'
    rw [rw1.sep _ _ _ _ _ _ _ hm hm' hB]
   ·rw [hout hr'] at hm'
    exact (hsep2 hi hr' hm hm' hB).elim
  ·rw [hout hr] at hm
   rcases hσ r' with ⟨j,hj,rfl⟩ | hr'
   ·rw [hin hj] at hm'
    exact (hsep2 hj hr hm' hm hB).elim
   ·rw [hout hr'] at hm'
    exact rw.sep _ _ _ _ _ _ _ hm hm' hB
 ·intro r hr
  have hr:M'.length ≤ r:=hr
  rw [hM'get,List.getElem?_eq_none hr]
 ·intro r v B N hm
  rcases hσ r with ⟨i,hi,rfl⟩ | hr
  ·rw [hin hi] at hm; exact rw1.vle _ _ _ _ hm
  ·rw [hout hr] at hm; exact rw.vle _ _ _ _ hm
 ·intro i B cells r v N b hi hm hb
  rw [hM'get] at hb
  rcases hσ r with ⟨j,hj,rfl⟩ | hr
  ·rw [hin hj] at hm
   have hbl:L'[j]? = some L'[j]:=List.getElem?_eq_getElem hj
   have:=rw1.fsep i B cells j v N _ hi hm (by rw [hL'get]; exact hbl)
   obtain ⟨c',q1,q2⟩:=qBx hL' hbl
   rw [Nat.zero_add,hb] at q1
   cases q1
   exact q2.1.trans this
  ·rw [hout hr] at hm
   have hbM:=hsameM hr (hltM hm) hb
   rcases st.fext i B cells hi with hold | ⟨hB,⟨j,v0,N0,hj⟩ | hnew⟩
   ·exact rw.fsep i B cells r v N b hold hm (by rw [hMget]; exact hbM)
   ·exact absurd (hsep hm (fun i hi=>hr i (by omega)) j v0 N0 hj) (by omega)
   ·obtain ⟨_,_,_,q3,_⟩:=rw.dom r v B N hm
    omega
 ·intro r v B N hm
  rcases hσ r with ⟨i,hi,rfl⟩ | hr
  ·rw [hin hi] at hm
   rcases st.ext i v B N hm with ⟨v0,N0,e0⟩ | hnew
   ·exact .inl ⟨v0,N0,(hm0 e0).2⟩
   ·exact .inr hnew
  ·rw [hout hr] at hm
   exact .inl ⟨v,N,hm⟩
 ·intro i B cells hi
  rcases st.fext i B cells hi with hold | ⟨hB,⟨j,v0,N0,hj⟩ | hnew⟩
  ·exact .inl hold
  ·exact .inr ⟨hB,.inl ⟨_,v0,N0,(hm0 hj).2⟩⟩
  ·exact .inr ⟨hB,.inr hnew⟩
section
variable {R:Type} {X:Fx (Option R)} {p p':Pt} {env eE:Env} {H H':Hp}
theorem qGp {R:Type} {X:Fx R} {p:Pt} {env:Env} {H:Hp} {α:Type} {m:Option α} {f:α → Option R} {fi:Nat} {args:List AV} (g:α → AV) (G:α → Hp) (p':Pt) (E:α → Env) (hc:callAt X.fn.ntmps p env = some (fi,args)) (hf:∀ x,m = some x → CallT X.P fi args H none (g x) (G x)) (ha:∀ x,advE X.fn.ntmps p env (g x) = some (p',E x)) (k:∀ x,m = some x → Ok X p' (E x) (G x) (f x)):Ok X p env H (m.bind f) :=
 ok_callM g G p' E hc (fun x h=>(hf x h).v) ha k
end
inductive Wk:List AV → List AV → Prop where
 | refl {xs}:Wk xs xs
 | cons {x xs ys}:Wk xs ys → Wk (x :: xs) (x :: ys)
 | slice {r v len sz xs ys}:v = len * sz → Wk xs ys → Wk (.slice r v 0 len sz :: xs) (.own r len sz :: ys)
 | none {r sz xs ys}:Wk xs ys → Wk (.nils :: xs) (.own r 0 sz :: ys)
 | nil {sz xs ys}:Wk xs ys → Wk (.nils :: xs) (.vec 0 sz [] :: ys)
 | optF {r v off xs ys}:Wk xs ys → Wk (.nilp :: xs) (.optp false r v off :: ys)
 | optT {r v off xs ys}:Wk xs ys → Wk (.ptr r v off :: xs) (.optp true r v off :: ys)
 | nont {t r sz xs ys}:Wk xs ys → Wk (.nils :: xs) (.ownt t r 0 sz :: ys)
 | tptr {t n r v off xs ys}:Wk xs ys → Wk (.tptr t n r v off :: xs) (.ptr r v off :: ys)
 | tptT {t n r v off xs ys}:Wk xs ys → Wk (.tptr t n r v off :: xs) (.optp true r v off :: ys)
 | agg {xs ys zs us}:Wk xs ys → Wk zs us → Wk (.agg xs :: zs) (.agg ys :: us)
 | func {f a b a' b' zs us}:Wk a a' → Wk b b' → Wk zs us → Wk (.func f a b :: zs) (.func f a' b' :: us)
theorem wk_ok {m:Mp} {xs ys:List AV} (h:Wk xs ys):∀ {cs:List Value},VRs m xs cs → VRs m ys cs:=by
 induction h with
 | refl=>exact fun h=>h
 | cons _ ih =>
  intro cs h
  simp only [VRs] at h ⊢
  obtain ⟨y,ys,rfl,h1,h2⟩:=h
  exact ⟨y,ys,rfl,h1,ih h2⟩
 | slice hv _ ih =>
  intro cs h
  simp only [VRs] at h ⊢
  obtain ⟨y,ys,rfl,h1,h2⟩:=h
  refine ⟨y,ys,rfl,?_,ih h2⟩
  simp only [VR] at h1 ⊢
  obtain ⟨B,N,cap,q1,q2,q3,q4,q5⟩:=h1
  subst hv
  exact .inr ⟨B,N,cap,q1,q3,by omega,q5⟩
 | none _ ih =>
  intro cs h
  simp only [VRs] at h ⊢
  obtain ⟨y,ys,rfl,h1,h2⟩:=h
  refine ⟨y,ys,rfl,?_,ih h2⟩
  simp only [VR] at h1 ⊢
  exact .inl ⟨trivial,h1⟩
 | nil _ ih =>
  intro cs h
  simp only [VRs] at h ⊢
  obtain ⟨y,ys,rfl,h1,h2⟩:=h
  refine ⟨y,ys,rfl,?_,ih h2⟩
  simp only [VR] at h1
  subst h1
  exact qCs _ _
 | optF _ ih =>
  intro cs h
  simp only [VRs] at h ⊢
  obtain ⟨y,ys,rfl,h1,h2⟩:=h
  refine ⟨y,ys,rfl,?_,ih h2⟩
  simp only [VR] at h1 ⊢
  exact .inl ⟨trivial,h1⟩
 | optT _ ih =>
  intro cs h
  simp only [VRs] at h ⊢
  obtain ⟨y,ys,rfl,h1,h2⟩:=h
  refine ⟨y,ys,rfl,?_,ih h2⟩
  simp only [VR] at h1 ⊢
  exact .inr ⟨trivial,h1⟩
 | nont _ ih =>
  intro cs h
  simp only [VRs] at h ⊢
  obtain ⟨y,ys,rfl,h1,h2⟩:=h
  refine ⟨y,ys,rfl,?_,ih h2⟩
  simp only [VR] at h1 ⊢
  exact .inl ⟨trivial,h1⟩
 | tptr _ ih =>
  intro cs h
  simp only [VRs] at h ⊢
  obtain ⟨y,ys,rfl,h1,h2⟩:=h
  refine ⟨y,ys,rfl,?_,ih h2⟩
  simp only [VR] at h1 ⊢
  obtain ⟨B,q1,_,q3⟩:=h1
  exact ⟨B,_,q1,q3⟩
 | tptT _ ih =>
  intro cs h
  simp only [VRs] at h ⊢
  obtain ⟨y,ys,rfl,h1,h2⟩:=h
  refine ⟨y,ys,rfl,?_,ih h2⟩
  simp only [VR] at h1 ⊢
  obtain ⟨B,q1,_,q3⟩:=h1
  exact .inr ⟨trivial,B,_,q1,q3⟩
 | agg _ _ ih1 ih2 =>
  intro cs h
  simp only [VRs,VR] at h ⊢
  obtain ⟨y,ys,rfl,⟨zs,rfl,h1⟩,h2⟩:=h
  exact ⟨_,ys,rfl,⟨zs,rfl,ih1 h1⟩,ih2 h2⟩
 | func _ _ _ ih1 ih2 ih3 =>
  intro cs h
  simp only [VRs,VR] at h ⊢
  obtain ⟨y,ys,rfl,⟨zs,us,rfl,h1,h1'⟩,h2⟩:=h
  exact ⟨_,ys,rfl,⟨zs,us,rfl,ih1 h1,ih2 h1'⟩,ih3 h2⟩
theorem CallT.wk {P:Program} {g:Nat} {xs ys:List AV} {H H':Hp} {tv:Option (Value × List Nat)} {v:AV} (h:CallT P g ys H tv v H') (k:Wk xs ys):CallT P g xs H tv v H' :=
 ⟨fun m w base args ha rw=>h.1 m w base args (wk_ok k ha) rw,h.2⟩
theorem CallT.args {P:Program} {g:Nat} {xs ys:List AV} {H H':Hp} {tv:Option (Value × List Nat)} {v:AV} (h:CallT P g ys H tv v H') (k:xs = ys):CallT P g xs H tv v H':=k ▸ h
theorem CallT.heap {P:Program} {g:Nat} {xs:List AV} {H H' H'':Hp} {tv:Option (Value × List Nat)} {v v':AV} (h:CallT P g xs H tv v H') (k:H' = H'') (kv:v = v'):CallT P g xs H tv v' H'':=k ▸ kv ▸ h
theorem CallT.ghost {P:Program} {g:Nat} {xs:List AV} {L:List Blk} {H':Hp} {tv:Option (Value × List Nat)} {v:AV} (hn:Nat.blt L.length roots = true) (h:CallT P g xs (mkH (L ++ [⟨[],0,false⟩])) tv v H'):CallT P g xs (mkH L) tv v H':=by
 refine ⟨fun m w base args ha rw=>?_,h.2⟩
 have:=RW.ghost rw (by show L.length < roots; simpa using hn)
 rw [qGs] at this
 exact h.1 m w base args ha this
section
variable {R:Type} {X:Fx R} {p p':Pt} {env eE:Env} {H H':Hp}
theorem retF_end {r : R} {xs : List AV} {v : AV} {m0 m : Mp} {w0 w : World} {b0 : Nat} {a : Act} (h0 : (∀ r v p, m0 r v = some p → r < X.n0) ∧ b0 ≤ w0.heap.size) (L L2 : List Blk) (ht : X.thr r = none) (hr : resV X.C env (mkH (L ++ L2)) X.fn.results.toList = some xs) (hn : Nat.ble (L.length + L2.length) roots = true) (hn0 : Nat.ble X.n0 L.length = true)
 (hz:FzG L.length (mkH (L ++ L2)) [oneRes xs] [v]) (hb:BB L.length L) (hv:X.enc r = v) (hf:X.fin r = mkH L) (fr:FR m env a.tmps) (rw:RW m (mkH (L ++ L2)) w b0) (st:St m0 w0 b0 m w) :
 ∃ c,(results X.fn a.tmps).run X.P w = .ok c w ∧ EndT (X.thr r) (X.enc r) (X.fin r) m0 w0 b0 (.returned c) w:=by
 obtain ⟨c,h1,h2⟩:=qCb (P:=X.P) X.hti fr rw hr
 have hF:FOk L.length m m.froz w b0:=⟨fun i B cells hi=>rw.frz i B cells hi,rw.ffin,fun i B cells h => .inl h,fun _ _ h=>h⟩
 obtain ⟨F',g1,g2,g3⟩:=fz_ok rw hz hF (cs:=[c]) (by simp only [VRs]; exact ⟨c,[],rfl,h2,rfl⟩)
 simp only [VRs] at g3
 obtain ⟨c',cs',e,g3,_⟩:=g3
 cases e
 have hn:L.length + L2.length ≤ roots:=Nat.le_of_ble_eq_true hn
 have hget:∀ i,i < L.length → (mkH (L ++ L2)).t.get i = (mkH L).t.get i:=by
  intro i hi
  rw [qAk (by simp; omega),qAk (by omega)]
  simp [List.getElem?_append_left hi]
 let m1:Mp:=⟨fun r v=>if r < L.length then m r v else none,F',m.tys⟩
 have hcut:∀ {r v q},m1 r v = some q → r < L.length ∧ m r v = some q:=by
  intro r v q h
  have h:(if r < L.length then m r v else none) = some q:=h
  by_cases e:r < L.length
  ·rw [if_pos e] at h; exact ⟨e,h⟩
  ·rw [if_neg e] at h; cases h
 have hmono:Sub (m.cut L.length) m1:=⟨fun r v p h=>h,g1.sub,fun _ _ h=>h⟩
 have hrw:RW m1 (mkH L) w b0:=by
  refine ⟨?_,?_,?_,?_,?_,g1.ok,?_,g1.fin,rw.base_le,by show L.length ≤ roots; omega,rw.tyk⟩
  ·intro r b v B N hb' hm q1 q2
   obtain ⟨hlt,hm⟩:=hcut hm
   obtain ⟨cs,ty,fr',p1,p2,p3,p4,p5⟩:=rw.blk r b v B N (by rw [hget r hlt]; exact hb') hm q1 q2
   have hbl:L[r]? = some b:=by
    rw [qAk (by omega)] at hb'
    exact hb'
   exact ⟨cs,ty,fr',p1,p2,p3,p4,VRs.mono hmono _ _ (qAh _ _ (qAf v (qHg hb hbl)) p5)⟩
  ·intro r v B N hm
   obtain ⟨hlt,hm⟩:=hcut hm
   rw [← hget r hlt]
   exact rw.dom r v B N hm
  ·intro r v B N r' v' N' hm hm' hB
   exact rw.sep _ _ _ _ _ _ _ (hcut hm).2 (hcut hm').2 hB
  ·intro r hr
   have hr:L.length ≤ r:=hr
   rw [qAk (by omega),List.getElem?_eq_none hr]
  ·intro r v B N hm
   exact rw.vle _ _ _ _ (hcut hm).2
  ·intro i B cells r v N b hi hm hb'
   obtain ⟨hlt,hm⟩:=hcut hm
   rw [← hget r hlt] at hb'
   rcases g1.new i B cells hi with h | ⟨hB,r2,v2,N2,hr2,hm2⟩
   ·exact rw.fsep i B cells r v N b h hm hb'
   ·have:=rw.sep _ _ _ _ _ _ _ hm hm2 hB
    omega
 have hst:St m0 w0 b0 m1 w:=by
  refine ⟨⟨fun r v q hq=>?_,fun i q hq=>g2 i q (st.sub.2 i q hq),st.sub.3⟩,?_,?_,st.size,st.os,st.tape,st.output,st.same⟩
  ·have h1:=h0.1 r v q hq
   have h2:=Nat.le_of_ble_eq_true hn0
   show (if r < L.length then m r v else none) = some q
   rw [if_pos (by omega)]
   exact st.sub.1 r v q hq
  ·intro r v B N hm
   exact st.ext r v B N (hcut hm).2
  ·intro i B cells hi
   rcases g1.new i B cells hi with h | ⟨hB,r2,v2,N2,_,hm2⟩
   ·exact st.fext i B cells h
   ·rcases st.ext r2 v2 B N2 hm2 with ⟨v0,N0,e0⟩ | h2
    ·exact .inr ⟨hB,.inl ⟨r2,v0,N0,e0⟩⟩
    ·exact .inr ⟨hB,.inr h2⟩
 have hvc:VR m1 v c:=VR.mono (m:=⟨fun _ _=>none,F',fun _=>none⟩) (m':=m1) ⟨fun _ _ _ h=>(by cases h),fun _ _ h=>h,fun _ _ h=>(by cases h)⟩ _ _ g3
 have e:EndT (X.thr r) (X.enc r) (X.fin r) m0 w0 b0 (.returned c) w:=by rw [ht]; exact ⟨m1,c,rfl,by rw [hf]; exact hrw,hst,by rw [hv]; exact hvc⟩
 exact ⟨c,h1,e⟩
theorem ok_retF {r : R} {xs : List AV} {v : AV} (L L2 : List Blk) (ht : X.thr r = none) (hr : resV X.C env (mkH (L ++ L2)) X.fn.results.toList = some xs) (hn : Nat.ble (L.length + L2.length) roots = true) (hn0 : Nat.ble X.n0 L.length = true)
 (hz:FzG L.length (mkH (L ++ L2)) [oneRes xs] [v]) (hb:BB L.length L) (hv:X.enc r = v) (hf:X.fin r = mkH L):Ok X .fin env (mkH (L ++ L2)) (some r):=by
 intro r' e m0 w0 b0 m w a h0 fr hnt hd rw st
 cases e
 obtain ⟨c,h1,e⟩:=retF_end h0 L L2 ht hr hn hn0 hz hb hv hf fr rw st
 exact qF9 hd h1 e
end
def MinvLe : List Blk → List Blk → Prop
 | [],[]=>True
 | b :: M,c :: M'=>(c.cells = b.cells ∧ c.ro = b.ro ∧ b.minv ≤ c.minv) ∧ MinvLe M M'
 | _,_=>False
theorem MinvLe.get : ∀ {M M' : List Blk}, MinvLe M M' → M'.length = M.length ∧ ∀ (i : Nat) (c : Blk), M'[i]? = some c → ∃ b, M[i]? = some b ∧ c.cells = b.cells ∧ c.ro = b.ro ∧ b.minv ≤ c.minv
 | [],[],_=>⟨rfl,fun i c h=>by simp at h⟩
 | [],_ :: _,h=>h.elim
 | _ :: _,[],h=>h.elim
 | b :: M,c :: M',h=>by
  obtain ⟨h1,h2⟩:=MinvLe.get h.2
  refine ⟨by simp [h1],fun i d hd=>?_⟩
  cases i with
  | zero=>simp at hd; subst hd; exact ⟨b,rfl,h.1⟩
  | succ i=>simpa using h2 i d (by simpa using hd)
theorem rw_minv {m:Mp} {w:World} {base:Nat} {M M':List Blk} (h:MinvLe M M') (hr:M.length ≤ roots) (rw:RW m (mkH M) w base):RW m (mkH M') w base:=by
 obtain ⟨hl,hg⟩:=h.get
 have g1:=qAk (L:=M) hr
 have g2:=qAk (L:=M') (by omega)
 refine ⟨?_,?_,rw.sep,?_,rw.vle,rw.frz,?_,rw.ffin,rw.base_le,by show M'.length ≤ roots; omega,rw.tyk⟩
 ·intro r c v B N hb hm h1 h2
  rw [g2] at hb
  obtain ⟨b,q1,q2,q3,q4⟩:=hg r c hb
  rw [q2] at h2 ⊢
  rw [q3]
  exact rw.blk r b v B N (by rw [g1]; exact q1) hm (by omega) h2
 ·intro r v B N hm
  obtain ⟨b,q1,q2,q3,q4⟩:=rw.dom r v B N hm
  rw [g1] at q1
  have hlt:r < M'.length:=by rw [hl]; exact (List.getElem?_eq_some_iff.1 q1).1
  obtain ⟨b',e1,e2,e3,e4⟩:=hg r _ (List.getElem?_eq_getElem hlt)
  rw [q1] at e1
  cases e1
  exact ⟨_,by rw [g2]; exact List.getElem?_eq_getElem hlt,by rw [e2]; exact q2,q3,by rw [e3]; exact q4⟩
 ·intro r hr'
  have hr':M'.length ≤ r:=hr'
  rw [g2,List.getElem?_eq_none hr']
 ·intro i B cells r v N c hi hm hb
  rw [g2] at hb
  obtain ⟨b,q1,q2,q3,q4⟩:=hg r c hb
  rw [q3]
  exact rw.fsep i B cells r v N b hi hm (by rw [g1]; exact q1)
theorem CallT.minv {P:Program} {g:Nat} {xs:List AV} {M M':List Blk} {H':Hp} {tv:Option (Value × List Nat)} {v:AV} (hr:M.length ≤ roots) (hm:MinvLe M M') (h:CallT P g xs (mkH M') tv v H'):CallT P g xs (mkH M) tv v H' :=
 ⟨fun m w base args ha rw=>h.1 m w base args ha (rw_minv hm hr rw),h.2⟩
theorem CallT.ghosts {P : Program} {g : Nat} {xs : List AV} {H' : Hp} {tv : Option (Value × List Nat)} {v : AV} : ∀ (gh : Nat) (M0 M : List Blk), M0 ++ List.replicate gh ⟨[], 0, false⟩ = M → M.length ≤ roots → CallT P g xs (mkH M) tv v H' → CallT P g xs (mkH M0) tv v H'
 | 0,M0,M,hg,hr,h=>by
  have e:M0 = M:=by simpa using hg
  rw [e]; exact h
 | n + 1,M0,M,hg,hr,h=>by
  have hl:M0.length < M.length:=by rw [← hg]; simp
  refine CallT.ghost (by simpa using (by omega:M0.length < roots)) (CallT.ghosts n (M0 ++ [⟨[],0,false⟩]) M ?_ hr h)
  rw [← hg,List.replicate_succ,List.append_assoc]; rfl
theorem frameC {P : Program} {g : Nat} {ys : List AV} {L L' : List Blk} {v : AV} (h : CallT P g ys (mkH L) none v (mkH L')) (rs : List Nat) (gh : Nat) (M0 M1 M M' : List Blk) (xs xs' : List AV) {v' : AV} {H H' : Hp} (hH : mkH M0 = H) (hg : M0 ++ List.replicate gh ⟨[], 0, false⟩ = M1) (hm : MinvLe M1 M) (hw : Wk xs xs') (hx : renVs (at0 rs) ys = xs') (hv' : renV (at0 rs) v = v') (hH' : mkH M' = H')
 (hc:frOk L.length L'.length M.length M'.length rs = true) (hys:belows L.length ys = true) (hL:RBs rs L.length M 0 L) (hL':RBs rs L'.length M' 0 L') (hv:below L'.length v = true) (hS:SameB rs 0 M M'):CallT P g xs H none v' H':=by
 subst hH; subst hx; subst hv'; subst hH'
 have h1:=(frame h rs M M' hc hys hL hL' hv hS).wk hw
 simp only [frOk,Bool.and_eq_true,Nat.ble_eq] at hc
 have hr:M.length ≤ roots:=by omega
 have hl:=hm.get.1
 exact CallT.ghosts gh M0 M1 hg (by omega) (CallT.minv (by omega) hm h1)
section
variable {R:Type} {X:Fx R} {p p':Pt} {env eE:Env} {H H':Hp}
theorem qBq {t:Option R} (d:Nat) (v v':AV) (h:look env d = v) (hne:v ≠ .top) (hw:Wk [v] [v']) (k:Ok X p ((d,v') :: env) H t):Ok X p env H t:=by
 intro r hr m0 w0 b0 m w a h0 fr hnt hd rw st
 refine k r hr m0 w0 b0 m w a h0 ?_ hnt hd rw st
 intro u hu
 by_cases e:d = u
 ·subst e
  obtain ⟨c,h1,h2⟩:=fr d (by rw [h]; exact hne)
  rw [h] at h2
  have:=wk_ok hw (cs:=[c]) (by simp only [VRs]; exact ⟨c,[],rfl,h2,rfl⟩)
  simp only [VRs] at this
  obtain ⟨c',cs',e1,h3,_⟩:=this
  cases e1
  exact ⟨c,h1,by rw [qAt,if_pos rfl]; exact h3⟩
 ·have he:look ((d,v') :: env) u = look env u:=by rw [qAt,if_neg e]
  rw [he] at hu ⊢
  exact fr u hu
theorem ok_ghost {t:Option R} (L:List Blk) (hn:Nat.blt L.length roots = true) (k:Ok X p env (mkH (L ++ [⟨[],0,false⟩])) t):Ok X p env (mkH L) t:=by
 intro r hr m0 w0 b0 m w a h0 fr hnt hd rw st
 have:=RW.ghost rw (by show L.length < roots; simpa using hn)
 rw [qGs] at this
 exact k r hr m0 w0 b0 m w a h0 fr hnt hd this st
theorem Wk.length {xs ys:List AV} (h:Wk xs ys):ys.length = xs.length:=by
 induction h <;> simp_all
theorem wk_take {m:Mp} {xs ys:List AV} (h:Wk xs ys):∀ (v:Nat) {cs:List Value},VRs m (xs.take v) cs → VRs m (ys.take v) cs:=by
 have one:∀ {x y:AV} {xs ys:List AV} (v:Nat) {cs:List Value},Wk [x] [y] → (∀ (v:Nat) {cs:List Value},VRs m (xs.take v) cs → VRs m (ys.take v) cs) → VRs m ((x :: xs).take v) cs → VRs m ((y :: ys).take v) cs:=by
  intro x y xs ys v cs h1 ih h
  cases v with
  | zero=>simpa using h
  | succ v =>
   simp only [List.take_succ_cons,VRs] at h ⊢
   obtain ⟨c,cs',rfl,q1,q2⟩:=h
   have:=wk_ok h1 (cs:=[c]) (by simp only [VRs]; exact ⟨c,[],rfl,q1,rfl⟩)
   simp only [VRs] at this
   obtain ⟨c',cs'',e1,h3,_⟩:=this
   cases e1
   exact ⟨c,cs',rfl,h3,ih v q2⟩
 induction h with
 | refl=>exact fun v cs h=>h
 | cons _ ih=>exact fun v cs h=>one v .refl (fun v cs=>ih v) h
 | slice hv _ ih=>exact fun v cs h=>one v (.slice hv .refl) (fun v cs=>ih v) h
 | none _ ih=>exact fun v cs h=>one v (.none .refl) (fun v cs=>ih v) h
 | nil _ ih=>exact fun v cs h=>one v (.nil .refl) (fun v cs=>ih v) h
 | optF _ ih=>exact fun v cs h=>one v (.optF .refl) (fun v cs=>ih v) h
 | optT _ ih=>exact fun v cs h=>one v (.optT .refl) (fun v cs=>ih v) h
 | nont _ ih=>exact fun v cs h=>one v (.nont .refl) (fun v cs=>ih v) h
 | tptr _ ih=>exact fun v cs h=>one v (.tptr .refl) (fun v cs=>ih v) h
 | tptT _ ih=>exact fun v cs h=>one v (.tptT .refl) (fun v cs=>ih v) h
 | agg h1 _ _ ih=>exact fun v cs h=>one v (.agg h1 .refl) (fun v cs=>ih v) h
 | func h1 h2 _ _ _ ih=>exact fun v cs h=>one v (.func h1 h2 .refl) (fun v cs=>ih v) h
theorem qGo {t:Option R} (L:List Blk) (r0 minv:Nat) (cells cells':List AV) (hl:Nat.ble L.length roots = true) (hr:L[r0]? = some ⟨cells,minv,false⟩) (hw:Wk cells cells') (k:Ok X p env (mkH (L.set r0 ⟨cells',minv,false⟩)) t):Ok X p env (mkH L) t:=by
 intro r hr' m0 w0 b0 m w a h0 fr hnt hd rw st
 have hl:L.length ≤ roots:=Nat.le_of_ble_eq_true hl
 have hlt:r0 < L.length:=(List.getElem?_eq_some_iff.1 hr).1
 have g1:=qAk (L:=L) hl
 have g2:=qAk (L:=L.set r0 ⟨cells',minv,false⟩) (by simpa using hl)
 have gne:∀ j,j ≠ r0 → (mkH (L.set r0 ⟨cells',minv,false⟩)).t.get j = (mkH L).t.get j:=by
  intro j hj
  rw [g1,g2,List.getElem?_set,if_neg (fun e=>hj e.symm)]
 have geq:(mkH (L.set r0 ⟨cells',minv,false⟩)).t.get r0 = some ⟨cells',minv,false⟩:=by
  rw [g2,List.getElem?_set,if_pos rfl,if_pos hlt]
 have hroot:(mkH L).t.get r0 = some ⟨cells,minv,false⟩:=by rw [g1]; exact hr
 have hlen:=hw.length
 have hnext:(mkH (L.set r0 ⟨cells',minv,false⟩)).next = L.length:=by simp [mkH]
 refine k r hr' m0 w0 b0 m w a h0 fr hnt hd ⟨?_,?_,rw.sep,?_,rw.vle,rw.frz,?_,rw.ffin,rw.base_le,by rw [hnext]; exact hl,rw.tyk⟩ st
 ·intro r b v B N hb hm h1 h2
  by_cases e:r = r0
  ·subst e
   rw [geq] at hb
   cases hb
   simp only at h1 h2
   obtain ⟨cs,ty,fr',q1,q2,q3,q4,q5⟩:=rw.blk r ⟨cells,minv,false⟩ v B N hroot hm h1 (by show v ≤ cells.length; omega)
   exact ⟨cs,ty,fr',q1,q2,q3,q4,wk_take hw v q5⟩
  ·rw [gne r e] at hb
   exact rw.blk r b v B N hb hm h1 h2
 ·intro r v B N hm
  obtain ⟨b,q1,q2,q3,q4⟩:=rw.dom r v B N hm
  by_cases e:r = r0
  ·subst e
   rw [hroot] at q1
   cases q1
   exact ⟨_,geq,by show v ≤ cells'.length; rw [hlen]; exact q2,q3,q4⟩
  ·exact ⟨b,by rw [gne r e]; exact q1,q2,q3,q4⟩
 ·intro r hr
  rw [hnext] at hr
  rw [gne r (by omega)]
  exact rw.fresh r hr
 ·intro i B cs r v N b hi hm hb
  by_cases e:r = r0
  ·subst e
   rw [geq] at hb
   cases hb
   have:=rw.fsep i B cs r v N ⟨cells,minv,false⟩ hi hm hroot
   exact this
  ·rw [gne r e] at hb
   exact rw.fsep i B cs r v N b hi hm hb
theorem qIu {r : R} {xs : List AV} (L L2 : List Blk) (ht : X.thr r = none) (hr : resV X.C env (mkH (L ++ L2)) X.fn.results.toList = some xs) (hn : Nat.ble (L.length + L2.length) roots = true) (hn0 : Nat.ble X.n0 L.length = true)
 (hbe:below L.length (oneRes xs) = true) (hb:BB L.length L) (hv:X.enc r = oneRes xs) (hf:X.fin r = mkH L):Ok X .fin env (mkH (L ++ L2)) (some r):=by
 intro r' e m0 w0 b0 m w a h0 fr hnt hd rw st
 cases e
 obtain ⟨c,h1,h2⟩:=qCb (P:=X.P) X.hti fr rw hr
 have hn:L.length + L2.length ≤ roots:=Nat.le_of_ble_eq_true hn
 have hget:∀ i,i < L.length → (mkH (L ++ L2)).t.get i = (mkH L).t.get i:=by
  intro i hi
  rw [qAk (by simp; omega),qAk (by omega)]
  simp [List.getElem?_append_left hi]
 have hcut:∀ {r v q},(m.cut L.length) r v = some q → r < L.length ∧ m r v = some q:=by
  intro r v q h
  have h:(if r < L.length then m r v else none) = some q:=h
  by_cases e:r < L.length
  ·rw [if_pos e] at h; exact ⟨e,h⟩
  ·rw [if_neg e] at h; cases h
 have hrw:RW (m.cut L.length) (mkH L) w b0:=by
  refine ⟨?_,?_,?_,?_,?_,rw.frz,?_,rw.ffin,rw.base_le,by show L.length ≤ roots; omega,rw.tyk⟩
  ·intro r b v B N hb' hm q1 q2
   obtain ⟨hlt,hm⟩:=hcut hm
   obtain ⟨cs,ty,fr',p1,p2,p3,p4,p5⟩:=rw.blk r b v B N (by rw [hget r hlt]; exact hb') hm q1 q2
   have hbl:L[r]? = some b:=by
    rw [qAk (by omega)] at hb'
    exact hb'
   exact ⟨cs,ty,fr',p1,p2,p3,p4,qAh _ _ (qAf v (qHg hb hbl)) p5⟩
  ·intro r v B N hm
   obtain ⟨hlt,hm⟩:=hcut hm
   rw [← hget r hlt]
   exact rw.dom r v B N hm
  ·intro r v B N r' v' N' hm hm' hB
   exact rw.sep _ _ _ _ _ _ _ (hcut hm).2 (hcut hm').2 hB
  ·intro r hr
   have hr:L.length ≤ r:=hr
   rw [qAk (by omega),List.getElem?_eq_none hr]
  ·intro r v B N hm
   exact rw.vle _ _ _ _ (hcut hm).2
  ·intro i B cells r v N b hi hm hb'
   obtain ⟨hlt,hm⟩:=hcut hm
   rw [← hget r hlt] at hb'
   exact rw.fsep i B cells r v N b hi hm hb'
 have hst:St m0 w0 b0 (m.cut L.length) w:=by
  refine ⟨⟨fun r v q hq=>?_,st.sub.2,st.sub.3⟩,?_,st.fext,st.size,st.os,st.tape,st.output,st.same⟩
  ·have h1:=h0.1 r v q hq
   have h2:=Nat.le_of_ble_eq_true hn0
   show (if r < L.length then m r v else none) = some q
   rw [if_pos (by omega)]
   exact st.sub.1 r v q hq
  ·intro r v B N hm
   exact st.ext r v B N (hcut hm).2
 have e:EndT (X.thr r) (X.enc r) (X.fin r) m0 w0 b0 (.returned c) w:=by rw [ht]; exact ⟨m.cut L.length,c,rfl,by rw [hf]; exact hrw,hst,by rw [hv]; exact qCr _ _ hbe h2⟩
 exact qF9 hd h1 e
end
structure Raw where
 n:Nat
 cells:List AV
def nthR {α:Type} (d:List AV → Option α) (sz:Nat) (n:Nat) (cells:List AV) (k:Int):Option α:=if 0 ≤ k ∧ k < (n:Int) then d ((cells.drop (k.toNat * sz)).take sz) else none
theorem vidxR {α:Type} {enc:α → List AV} {d:List AV → Option α} {sz:Nat} (hd:∀ cs x,d cs = some x → cs = enc x) {e:Option (AV × Hp)} {n:Nat} {cells:List AV} {k:Int} {H:Hp} {x:α} (hx:nthR d sz n cells k = some x) (h:e = (if sz = sz ∧ 0 ≤ k ∧ k < ((n:Nat):Int) then some (AV.vptr ((cells.drop (k.toNat * sz)).take sz),H) else none)):e = some (AV.vptr (enc x),H):=by
 unfold nthR at hx
 by_cases h0:0 ≤ k ∧ k < (n:Int)
 ·rw [if_pos h0] at hx
  rw [h,if_pos ⟨rfl,h0.1,h0.2⟩,hd _ _ hx]
 ·rw [if_neg h0] at hx; cases hx
def pI (k : IntKind) : List AV → Option (Int × List AV)
 | .int k' n :: r=>if k' = k then some (n,r) else none
 | _=>none
def pB : List AV → Option (Bool × List AV)
 | .bool b :: r=>some (b,r)
 | _=>none
def pS : List AV → Option (List Nat × List AV)
 | .str s :: r=>some (s,r)
 | _=>none
theorem pI_ok {k:IntKind} {cs r:List AV} {x:Int} (h:pI k cs = some (x,r)):cs = [AV.int k x] ++ r:=by
 unfold pI at h
 split at h
 ·split at h
  ·rename_i e; cases h; subst e; rfl
  ·cases h
 ·cases h
theorem pS_ok {cs r:List AV} {x:List Nat} (h:pS cs = some (x,r)):cs = [AV.str x] ++ r:=by
 unfold pS at h
 split at h
 ·cases h; rfl
 ·cases h
def pall {α:Type} (p:List AV → Option (α × List AV)) (cs:List AV):Option α:=match p cs with | some (x,[])=>some x | _=>none
theorem pall_ok {α:Type} {p:List AV → Option (α × List AV)} {enc:α → List AV} (hp:∀ cs x r,p cs = some (x,r) → cs = enc x ++ r) (cs:List AV) (x:α) (h:pall p cs = some x):cs = enc x:=by
 unfold pall at h
 split at h
 ·rename_i y hy
  cases h
  have:=hp _ _ _ hy
  simpa using this
 ·cases h
inductive Fr1 (r0 n sz:Nat) (cells:List AV):List AV → List AV → Prop where
 | refl {xs}:nrefs r0 xs = true → Fr1 r0 n sz cells xs xs
 | cons {x xs ys}:nref r0 x = true → Fr1 r0 n sz cells xs ys → Fr1 r0 n sz cells (x :: xs) (x :: ys)
 | own {xs ys}:Fr1 r0 n sz cells xs ys → Fr1 r0 n sz cells (.own r0 n sz :: xs) (.vec n sz cells :: ys)
 | agg {xs ys zs us}:Fr1 r0 n sz cells xs ys → Fr1 r0 n sz cells zs us → Fr1 r0 n sz cells (.agg xs :: zs) (.agg ys :: us)
theorem Fr1.length {r0 n sz:Nat} {cells xs ys:List AV} (h:Fr1 r0 n sz cells xs ys):ys.length = xs.length:=by
 induction h <;> simp_all
def DfR (m:Mp) (f:Nat) (caps:List AV) (ds:List Deferred):Prop := ∃ vals:Array Value,ds = [{ target := .fn (.func f) vals,args := #[] }] ∧ VRs m caps vals.toList
section
variable {R:Type} (X:Fx R)
end
section
variable {R:Type} {X:Fx R} {f:Nat} {caps:List AV} {p p':Pt} {env eE:Env} {H H':Hp}
theorem DfR.mono {m m':Mp} {ds:List Deferred} (h:Sub m m') (k:DfR m f caps ds):DfR m' f caps ds:=let ⟨v,e,q⟩:=k; ⟨v,e,VRs.mono h _ _ q⟩
end
noncomputable def lp {α:Type} (z:α) (f:α → α) (n:Nat):α:=Nat.rec (motive:=fun _=>α) z (fun _ ih=>f ih) n
abbrev AV.i (n:Int):AV := .int .i64 n
abbrev AV.y (n:Int):AV := .int .u8 n
def PNh {R:Type} (X:Fx R) (fi:Nat) (xs:List AV) (H:Hp) (m:Option R):Prop := ∀ x,m = some x → CallT X.P fi xs H none (X.enc x) (X.fin x)
section
variable {R:Type} {X:Fx R} {p:Pt} {env:Env} {H:Hp} {t:Option R}
theorem oLH (k:Nat) (p':Pt) (eE:Env) (H':Hp) (g:Ok X p' eE H' t) (h:(runV X.C X.fn.ntmps k p env H).map (fun x=>(x.1,keepOnly x.2.1 (eE.map Prod.fst),x.2.2)) = some (p',eE,H'):=by kernel_rfl):Ok X p env H t:=by
 cases hr:runV X.C X.fn.ntmps k p env H with
 | none=>rw [hr] at h; cases h
 | some x =>
  obtain ⟨q,e,G⟩:=x
  rw [hr] at h
  simp only [Option.map_some,Option.some.injEq,Prod.mk.injEq] at h
  obtain ⟨rfl,h2,rfl⟩:=h
  exact qDm k hr (qFh _ h2 g)
theorem oL (k:Nat) (p':Pt) (eE:Env) (g:Ok X p' eE H t) (h:(runV X.C X.fn.ntmps k p env H).map (fun x=>(x.1,keepOnly x.2.1 (eE.map Prod.fst),x.2.2)) = some (p',eE,H):=by kernel_rfl):Ok X p env H t:=oLH k p' eE H g h
theorem oR (k:Nat) (p':Pt) (eE:Env) (g:Ok X p' eE H t) (h:runV X.C X.fn.ntmps k p env H = some (p',eE,H):=by kernel_rfl):Ok X p env H t:=qDm k h g
theorem oH (k:Nat) (p':Pt) (eE:Env) (H':Hp) (g:Ok X p' eE H' t) (h:runV X.C X.fn.ntmps k p env H = some (p',eE,H'):=by kernel_rfl):Ok X p env H t:=qDm k h g
theorem oK0 (ks:List Nat) (k:Ok X p (keepOnly env ks) H t):Ok X p env H t:=qFh ks rfl k
theorem oK (ks:List Nat) (eE:Env) (k:Ok X p eE H t) (h:keepOnly env ks = eE:=by kernel_rfl):Ok X p env H t:=qFh ks h k
theorem oE (eE:Env) (k:Ok X p eE H t) (h:env = eE:=by kernel_rfl):Ok X p env H t:=qA1 h k
theorem oHp (H':Hp) (k:Ok X p env H' t) (h:H = H':=by kernel_rfl):Ok X p env H t:=ok_heap h k
theorem oS {t1 t2:Option R} (d:Nat) {b:Bool} (k1:b = true → Ok X p ((d,.bool true) :: env) H t1) (k2:b = false → Ok X p ((d,.bool false) :: env) H t2) (h:look env d = .bool b:=by kernel_rfl):Ok X p env H (if b then t1 else t2):=ok_split d h k1 k2
theorem oC {α:Type} {m:Option α} {f:α → Option R} (g:α → AV × Hp) (p':Pt) (d:Nat) (h:evalAt X.C X.fn.ntmps p env H = m.map g) (k:∀ x,m = some x → Ok X p' ((d,(g x).1) :: env) (g x).2 (f x)) (ha:∀ x,advE X.fn.ntmps p env (g x).1 = some (p',(d,(g x).1) :: env):=by exact fun _=>by kernel_rfl):Ok X p env H (m.bind f):=ok_chk g p' (fun x=>(d,(g x).1) :: env) h ha k
theorem oA {α:Type} {m:Option α} {f:α → Option R} {fi:Nat} (g:α → AV) (p':Pt) (d:Nat) (args:List AV) (hf:∀ x,m = some x → PureOk X.P fi args (g x)) (k:∀ x,m = some x → Ok X p' ((d,g x) :: env) H (f x)) (hc:(callAt X.fn.ntmps p env,purs args) = (some (fi,args),true):=by kernel_rfl) (hg:∀ x,(pur (g x),advE X.fn.ntmps p env (g x)) = (true,some (p',(d,g x) :: env)):=by exact fun _=>by kernel_rfl):Ok X p env H (m.bind f) :=
 ok_call g p' (fun x=>(d,g x) :: env) (congrArg Prod.fst hc) (congrArg Prod.snd hc) (fun x=>congrArg Prod.fst (hg x)) hf (fun x=>congrArg Prod.snd (hg x)) k
theorem oP {r:R} (h:(X.n0,X.fin r,X.thr r,(resV X.C env H X.fn.results.toList).map fun xs=>(oneRes xs,purs [oneRes xs])) = (0,H0,none,some (X.enc r,true)):=by kernel_rfl):Ok X .fin env H (some r):=by
 simp only [Prod.mk.injEq] at h
 obtain ⟨h1,h2,h3,h4⟩:=h
 cases hr:resV X.C env H X.fn.results.toList with
 | none=>rw [hr] at h4; cases h4
 | some xs =>
  rw [hr] at h4
  simp only [Option.map_some,Option.some.injEq,Prod.mk.injEq] at h4
  exact oT h1 h2 h3 hr (.pures h4.2) h4.1.symm
theorem oQ {r:R} (k:Nat) (h:(runV X.C X.fn.ntmps k p env H).map (fun x=>(x.1,X.n0,X.fin r,X.thr r,(resV X.C x.2.1 x.2.2 X.fn.results.toList).map fun xs=>(oneRes xs,purs [oneRes xs]))) = some (.fin,0,H0,none,some (X.enc r,true)):=by kernel_rfl):Ok X p env H (some r):=by
 cases hr:runV X.C X.fn.ntmps k p env H with
 | none=>rw [hr] at h; cases h
 | some x =>
  obtain ⟨q,e,G⟩:=x
  rw [hr] at h
  simp only [Option.map_some,Option.some.injEq,Prod.mk.injEq] at h
  obtain ⟨rfl,h1,h2,h3,h4⟩:=h
  refine qDm k hr (oP ?_)
  rw [h1,h2,h3,h4]
end
theorem FzG.ps {n0:Nat} {H:Hp} {xs:List AV} (h:purs xs = true:=by kernel_rfl):FzG n0 H xs xs := .pures h
theorem FzG.cs {n0:Nat} {H:Hp} {x:AV} {xs ys:List AV} (k:FzG n0 H xs ys) (h:pur x = true:=by kernel_rfl):FzG n0 H (x :: xs) (x :: ys) := .cons h k
def pickB : List Nat → List Blk → List Blk
 | 0 :: ms,_ :: l=>pickB ms l
 | (_ + 1) :: ms,b :: l=>b :: pickB ms l
 | _,_=>[]
def PurA : List Blk → Prop
 | []=>True
 | b :: l=>purs b.cells = true ∧ PurA l
def mk0 : List Nat → Bool
 | 0 :: _=>false
 | (_ + 1) :: _=>true
 | []=>false
theorem PurA.head {ms:List Nat} {b:Blk} {l:List Blk} (h:PurA (pickB ms (b :: l))) (hm:mk0 ms = true):purs b.cells = true:=by
 cases ms with
 | nil=>cases hm
 | cons m ms=>cases m with | zero=>cases hm | succ m=>exact h.1
theorem PurA.tail {ms:List Nat} {b:Blk} {l:List Blk} (h:PurA (pickB ms (b :: l))):PurA (pickB ms.tail l):=by
 cases ms with
 | nil=>cases l <;> (simp only [List.tail_nil,pickB]; exact trivial)
 | cons m ms=>cases m with | zero=>exact h | succ m=>exact h.2
noncomputable def rbA (rs : List Nat) (n : Nat) : List Nat → List Blk → List (Bool × Option Blk)
 | _,[]=>[]
 | ms,b :: L=>(bif mk0 ms then (true,some b) else (belows n b.cells,some ⟨renVs (at0 rs) b.cells,b.minv,b.ro⟩)) :: rbA rs n ms.tail L
noncomputable def rbC (rs : List Nat) (M : List Blk) : Nat → List Blk → List (Bool × Option Blk)
 | _,[]=>[]
 | i,_ :: L=>(true,nth M (at0 rs i)) :: rbC rs M (i + 1) L
theorem qEp {rs : List Nat} {n : Nat} {M : List Blk} : ∀ {L : List Blk} {ms : List Nat} {i : Nat}, rbA rs n ms L = rbC rs M i L → PurA (pickB ms L) → RBs rs n M i L
 | [],_,_,_,_=>trivial
 | b :: L,ms,i,h,hp=>by
  simp only [rbA,rbC,List.cons.injEq] at h
  obtain ⟨h1,h2⟩:=h
  refine ⟨?_,qEp h2 hp.tail⟩
  cases hm:mk0 ms with
  | true =>
   rw [hm] at h1
   simp only [cond_true,Prod.mk.injEq] at h1
   rw [← h1.2]
   exact ⟨rfl,.inl ⟨rfl,hp.head hm⟩⟩
  | false =>
   rw [hm] at h1
   simp only [cond_false,Prod.mk.injEq] at h1
   rw [← h1.2]
   exact ⟨rfl,.inr ⟨h1.1,rfl⟩⟩
def offs (rs : List Nat) : Nat → List Blk → List Blk
 | _,[]=>[]
 | i,b :: M=>bif rs.any (fun r=>Nat.beq r i) then offs rs (i + 1) M else b :: offs rs (i + 1) M
theorem qE1 {rs : List Nat} : ∀ {M M' : List Blk} {i : Nat}, Nat.ble M.length M'.length = true → offs rs i M = offs rs i (M'.take M.length) → SameB rs i M M'
 | [],_,_,_,_=>trivial
 | b :: M,[],_,h,_=>by cases h
 | b :: M,c :: M',i,h,e=>by
  have h':Nat.ble M.length M'.length = true:=h
  cases hr:rs.any (fun r=>Nat.beq r i) with
  | true =>
   simp only [offs,List.length_cons,List.take_succ_cons,hr,cond_true] at e
   exact ⟨.inr hr,qE1 h' e⟩
  | false =>
   simp only [offs,List.length_cons,List.take_succ_cons,hr,cond_false,List.cons.injEq] at e
   exact ⟨.inl e.1.symm,qE1 h' e.2⟩
noncomputable def frB1 (L L' M M':List Blk) (rs:List Nat) (ys:List AV) (v:AV):Bool:=frOk L.length L'.length M.length M'.length rs && belows L.length ys && below L'.length v && Nat.ble M.length M'.length
theorem frC {P : Program} {g : Nat} {ys xs : List AV} {L L' M M' : List Blk} {v v' : AV} {rs ms ms' : List Nat} (h : CallT P g ys (mkH L) none v (mkH L')) (hp : PurA (pickB ms L)) (hp' : PurA (pickB ms' L'))
 (he:(frB1 L L' M M' rs ys v,renVs (at0 rs) ys,renV (at0 rs) v,rbA rs L.length ms L,rbA rs L'.length ms' L',offs rs 0 M) = (true,xs,v',rbC rs M 0 L,rbC rs M' 0 L',offs rs 0 (M'.take M.length))):CallT P g xs (mkH M) none v' (mkH M'):=by
 simp only [Prod.mk.injEq,frB1,Bool.and_eq_true] at he
 obtain ⟨⟨⟨⟨c1,c2⟩,c3⟩,c4⟩,rfl,rfl,e3,e4,e5⟩:=he
 exact frame h rs M M' c1 c2 (qEp e3 hp) (qEp e4 hp') c3 (qE1 c4 e5)
noncomputable def mvA : List Nat → List Blk → List Blk → List (List AV × Bool × Nat × Bool)
 | ms,b :: M1,c :: M=>(b.cells,b.ro,(bif mk0 ms then b.minv else 0),mk0 ms || Nat.ble b.minv c.minv) :: mvA ms.tail M1 M
 | _,[],[]=>[]
 | _,_,_=>[([],true,0,false)]
def mvC : List Nat → List Blk → List (List AV × Bool × Nat × Bool)
 | ms,c :: M=>(c.cells,c.ro,(bif mk0 ms then c.minv else 0),true) :: mvC ms.tail M
 | _,[]=>[]
theorem mv_of : ∀ {M1 M : List Blk} {ms : List Nat}, mvA ms M1 M = mvC ms M → MinvLe M1 M
 | [],[],_,_=>trivial
 | [],_ :: _,_,h=>by simp [mvA,mvC] at h
 | _ :: _,[],_,h=>by simp [mvA,mvC] at h
 | b :: M1,c :: M,ms,h=>by
  simp only [mvA,mvC,List.cons.injEq,Prod.mk.injEq] at h
  obtain ⟨⟨h1,h2,h3,h4⟩,h5⟩:=h
  refine ⟨⟨h1.symm,h2.symm,?_⟩,mv_of h5⟩
  cases hm:mk0 ms with
  | true=>rw [hm] at h3; simp only [cond_true] at h3; rw [h3]; exact Nat.le_refl _
  | false=>rw [hm] at h4; simp only [Bool.false_or] at h4; exact Nat.le_of_ble_eq_true h4
theorem frW {P : Program} {g : Nat} {ys xs xs' : List AV} {L L' M0 M' : List Blk} {v v' : AV} {rs ms ms' mv : List Nat} (gh : Nat) (M : List Blk) (hw : Wk xs xs') (h : CallT P g ys (mkH L) none v (mkH L')) (hp : PurA (pickB ms L)) (hp' : PurA (pickB ms' L'))
 (he:(frB1 L L' M M' rs ys v,renVs (at0 rs) ys,renV (at0 rs) v,rbA rs L.length ms L,rbA rs L'.length ms' L',offs rs 0 M,mvA mv (M0 ++ List.replicate gh ⟨[],0,false⟩) M) = (true,xs',v',rbC rs M 0 L,rbC rs M' 0 L',offs rs 0 (M'.take M.length),mvC mv M)):CallT P g xs (mkH M0) none v' (mkH M'):=by
 simp only [Prod.mk.injEq,frB1,Bool.and_eq_true] at he
 obtain ⟨⟨⟨⟨c1,c2⟩,c3⟩,c4⟩,e1,e2,e3,e4,e5,e6⟩:=he
 exact frameC h rs gh M0 _ M M' xs xs' rfl rfl (mv_of e6) hw e1 e2 rfl c1 c2 (qEp e3 hp) (qEp e4 hp') c3 (qE1 c4 e5)
theorem oN {R : Type} {X : Fx R} {p : Pt} {env : Env} {α : Type} {m : Option α} {f : α → Option R} {fi : Nat} {ys : List AV} {L M : List Blk} {v : α → AV} {L' : α → List Blk} (g : α → AV) (M' : α → List Blk) (p' : Pt) (d : Nat) (rs ms ms' : List Nat) (args : List AV)
 (h:∀ x,m = some x → CallT X.P fi ys (mkH L) none (v x) (mkH (L' x))) (hp:PurA (pickB ms L)) (hp':∀ x,PurA (pickB ms' (L' x))) (k:∀ x,m = some x → Ok X p' ((d,g x) :: env) (mkH (M' x)) (f x))
 (hc:callAt X.fn.ntmps p env = some (fi,args):=by kernel_rfl)
 (he:∀ x,(frB1 L (L' x) M (M' x) rs ys (v x),renVs (at0 rs) ys,renV (at0 rs) (v x),rbA rs L.length ms L,rbA rs (L' x).length ms' (L' x),offs rs 0 M) = (true,args,g x,rbC rs M 0 L,rbC rs (M' x) 0 (L' x),offs rs 0 ((M' x).take M.length)):=by exact fun _=>by kernel_rfl)
 (ha:∀ x,advE X.fn.ntmps p env (g x) = some (p',(d,g x) :: env):=by exact fun _=>by kernel_rfl):Ok X p env (mkH M) (m.bind f) :=
 qGp g (fun x=>mkH (M' x)) p' (fun x=>(d,g x) :: env) hc (fun x hx=>frC (h x hx) hp (hp' x) (he x)) ha k
section
variable {R:Type} {X:Fx R} {p:Pt} {env:Env} {H:Hp} {t:Option R}
def bbB (n : Nat) : List Nat → List Blk → Bool
 | _,[]=>true
 | ms,b :: L=>(mk0 ms || belows n b.cells) && bbB n ms.tail L
theorem bb_of {n : Nat} : ∀ {L : List Blk} {ms : List Nat}, bbB n ms L = true → PurA (pickB ms L) → BB n L
 | [],_,_,_=>trivial
 | b :: L,ms,h,hp=>by
  simp only [bbB,Bool.and_eq_true,Bool.or_eq_true] at h
  refine ⟨?_,bb_of h.2 hp.tail⟩
  rcases h.1 with h1 | h1
  ·exact qA0 _ (hp.head h1)
  ·exact h1
theorem oF {r : R} {M : List Blk} (n : Nat) (ms : List Nat) (xs : List AV) (v : AV) (hz : FzG n (mkH M) [oneRes xs] [v]) (hp : PurA (pickB ms (M.take n)))
 (h:(X.thr r,resV X.C env (mkH M) X.fn.results.toList,Nat.ble M.length roots,Nat.ble X.n0 n,Nat.beq (M.take n).length n,bbB n ms (M.take n),X.enc r,X.fin r) = (none,some xs,true,true,true,true,v,mkH (M.take n)):=by kernel_rfl):Ok X .fin env (mkH M) (some r):=by
 simp only [Prod.mk.injEq] at h
 obtain ⟨h1,h2,h3,h4,h5,h6,h7,h8⟩:=h
 have h5:(M.take n).length = n:=Nat.eq_of_beq_eq_true h5
 have key:Ok X .fin env (mkH (M.take n ++ M.drop n)) (some r):=by
  refine ok_retF (M.take n) (M.drop n) h1 (v:=v) ?_ ?_ ?_ ?_ ?_ h7 h8 (xs:=xs)
  ·rw [List.take_append_drop]; exact h2
  ·rw [← List.length_append,List.take_append_drop]; exact h3
  ·rw [h5]; exact h4
  ·rw [h5,List.take_append_drop]; exact hz
  ·rw [h5]; exact bb_of h6 hp
 rwa [List.take_append_drop] at key
theorem oQF {r : R} (k : Nat) (M : List Blk) (n : Nat) (ms : List Nat) (xs : List AV) (v : AV) (hz : FzG n (mkH M) [oneRes xs] [v]) (hp : PurA (pickB ms (M.take n)))
 (h0:(runV X.C X.fn.ntmps k p env H).map (fun x=>(x.1,resV X.C x.2.1 x.2.2 X.fn.results.toList,x.2.2)) = some (.fin,some xs,mkH M):=by kernel_rfl)
 (h:(X.thr r,Nat.ble M.length roots,Nat.ble X.n0 n,Nat.beq (M.take n).length n,bbB n ms (M.take n),X.enc r,X.fin r) = (none,true,true,true,true,v,mkH (M.take n)):=by kernel_rfl):Ok X p env H (some r):=by
 cases hr:runV X.C X.fn.ntmps k p env H with
 | none=>rw [hr] at h0; cases h0
 | some x =>
  obtain ⟨q,e,G⟩:=x
  rw [hr] at h0
  simp only [Option.map_some,Option.some.injEq,Prod.mk.injEq] at h0
  obtain ⟨rfl,h1,rfl⟩:=h0
  simp only [Prod.mk.injEq] at h
  obtain ⟨h2,h3,h4,h5,h6,h7,h8⟩:=h
  refine qDm k hr (oF n ms xs v hz hp ?_)
  rw [h1,h2,h3,h4,h5,h6,h7,h8]
def nbB (r0 : Nat) : List Nat → Nat → List Blk → Bool
 | _,_,[]=>true
 | ms,i,b :: l=>(Nat.beq i r0 || mk0 ms || nrefs r0 b.cells) && nbB r0 ms.tail (i + 1) l
theorem nb_of {r0 : Nat} : ∀ {l : List Blk} {ms : List Nat} {i : Nat}, nbB r0 ms i l = true → PurA (pickB ms l) → NB r0 i l
 | [],_,_,_,_=>trivial
 | b :: l,ms,i,h,hp=>by
  simp only [nbB,Bool.and_eq_true,Bool.or_eq_true] at h
  refine ⟨?_,nb_of h.2 hp.tail⟩
  rcases h.1 with (h1 | h1) | h1
  ·exact .inl (Nat.eq_of_beq_eq_true h1)
  ·exact .inr (qAp _ (hp.head h1))
  ·exact .inr h1
theorem oZ {M : List Blk} (d r0 n sz : Nat) (cells : List AV) (ks ms : List Nat) (hp : PurA (pickB ms M)) (k : Ok X p ((d, .vec n sz cells) :: keepOnly env ks) (mkH (M.set r0 ⟨[], 0, false⟩)) t)
 (h:(Nat.ble X.n0 r0,Nat.ble M.length roots,look env d,(nth M r0).map (fun b=>(b.cells,b.ro,Nat.ble b.minv (n * sz))),Nat.beq cells.length (n * sz),purs cells,nrefE r0 (keepOnly env ks),nbB r0 ms 0 M) = (true,true,.slice r0 (n * sz) 0 n sz,some (cells,false,true),true,true,true,true):=by kernel_rfl):Ok X p env (mkH M) t:=by
 simp only [Prod.mk.injEq] at h
 obtain ⟨h1,h2,h3,h4,h5,h6,h7,h8⟩:=h
 rw [qC3] at h4
 cases hb:M[r0]? with
 | none=>rw [hb] at h4; cases h4
 | some b =>
  obtain ⟨bc,bm,br⟩:=b
  rw [hb] at h4
  simp only [Option.map_some,Option.some.injEq,Prod.mk.injEq] at h4
  obtain ⟨rfl,rfl,h9⟩:=h4
  exact ok_frz M d r0 n sz bm bc ks h1 h2 (.inl h3) hb (Nat.eq_of_beq_eq_true h5) (Nat.le_of_ble_eq_true h9) h6 rfl h7 (nb_of h8 hp) k
theorem oD {H' : Hp} (p' : Pt) (eE : Env) (hs : List Hp) (D : DP) (hD : OpsD X.P X.C D (opsAt p).toList (opsAt p).toList env H eE hs) (k : Ok X p' eE H' t) (h : (drawAt p, Nat.ble (opsAt p).size D.tI, planOk D.S (opsAt p) D.pl, (opsAt p).toList.all (dstOk X.fn.ntmps), lastH H hs) = (some p', true, true, true, H') := by kernel_rfl)
 (hsome:(rdL X.C D (opsAt p).toList eE (H :: hs) 0 (opsAt p).toList D.pl).all (fun q=>q.1.isSome) = true:=by kernel_rfl) (hq:(rdL X.C D (opsAt p).toList eE (H :: hs) 0 (opsAt p).toList D.pl).map (·.1) = (rdL X.C D (opsAt p).toList eE (H :: hs) 0 (opsAt p).toList D.pl).map (·.2):=by kernel_rfl):Ok X p env H t:=by
 simp only [Prod.mk.injEq] at h
 obtain ⟨h1,h2,h3,h4,h5⟩:=h
 exact ok_draw D h1 h2 h3 h4 hD hsome hq h5 k
end
theorem oDe {P:Program} {C:Cx} {D:DP} {all l:List Oper} {e:Env} {H:Hp} {hs:List Hp} (f:Bool → Env) {b v:Bool} (h:b = v) (g:OpsD P C D all l (f v) H e hs):OpsD P C D all l (f b) H e hs:=h ▸ g
theorem oDr {P:Program} {C:Cx} {D:DP} {all l:List Oper} {e env:Env} {H:Hp} {hs2:List Hp} (k n:Nat) (eE:Env) (g:OpsD P C D all (all.drop n) eE H e hs2) (h:runD C D all k l env H = some (all.drop n,eE,H,[]):=by kernel_rfl):OpsD P C D all l env H e hs2:=qCo k (hs:=[]) h g
theorem oDh {P:Program} {C:Cx} {D:DP} {all l:List Oper} {e env:Env} {H:Hp} {hs2:List Hp} (k n:Nat) (eE:Env) (H':Hp) (hs:List Hp) (g:OpsD P C D all (all.drop n) eE H' e hs2) (h:runD C D all k l env H = some (all.drop n,eE,H',hs):=by kernel_rfl):OpsD P C D all l env H e (hs ++ hs2):=qCo k h g
theorem qF8 {P:Program} {m:Mp} {H':Hp} {w:World} {base:Nat} {a:Act} {o:Oper} {v:AV} (h:Good P (execOp a.eval o) m w base v H'):StepOk P o a m w base v H':=by
 intro K Q hK
 obtain ⟨m',w',h1,h2,h3⟩:=h
 unfold Oper.wp
 rcases h3 with ⟨c,hr,hv⟩ | ⟨hr,rfl⟩
 ·rw [hr]; exact hK m' w' c h1 h2 hv
 ·rw [hr]; exact hK m' w' undef h1 h2 (qK1 _ _)
theorem ok_good {R : Type} {X : Fx R} {env : Env} {H H' : Hp} {t : Option R} {ops : Array Oper} {n : Nat} {K : List Fr} {o : Oper} {v : AV} (ho : ops[n]? = some o) (hd : dstOk X.fn.ntmps o = true) (hw : wantedV o ops.toList env = some true)
 (hs:∀ (m:Mp) (w:World) (base:Nat) (a:Act),FR m env a.tmps → RW m H w base → Good X.P (execOp a.eval o) m w base v H') (k:Ok X (.ops ops (n + 1) K) (putV env o.dst v) H' t):Ok X (.ops ops n K) env H t:=by
 intro r hr m0 w0 b0 m w a h0 fr hn hdf rw st
 show wpOps X.P ops _ (List.range' n (ops.size - n)) a w
 have hlt:n < ops.size:=(Array.getElem?_eq_some_iff.1 ho).1
 rw [show ops.size - n = (ops.size - (n + 1)) + 1 by omega,List.range'_succ]
 simp only [wpOps,ho]
 rw [qBb hw fr]
 simp only [if_true]
 refine .inl ?_
 refine qF8 (hs m w b0 a fr rw) _ _ fun m' w' c q1 q2 q3=>?_
 obtain ⟨f1,f2,f3⟩:=qAo (fr.mono q2.sub) hn hdf o hd v c q3
 exact k r hr m0 w0 b0 m' w' _ h0 f1 f2 f3 q1 (st.trans h0.2 q2)
theorem qFp {P : Program} {C : Cx} (hti : ∀ t i, C.ti t = some i → mkTi P t = some i) {m : Mp} {H H' : Hp} {w : World} {base : Nat} {t : Nat} {i : Ti} {z : List AV} {v : AV} (ht : C.ti t = some i) (hz : i.zero = some z) (h : alloc1 H z = some (v, H')) (rw' : RW m H w base) :
 Good P (do pure (.value (← Instr.alloc t true (.tuple #[])))) m w base (.tptr t z.length H.next z.length 0) H':=by
 obtain ⟨c,hc,rfl⟩:=qBr (hti _ _ ht) hz w
 have hl:(c.cells.toList.map ofVal).length = c.cells.size:=by simp
 obtain ⟨_,m',h1,h2,h3⟩:=qC8 h rw' c.cells t (0,0) (free0 _) (by simp) (by rw [List.take_of_length_le (by simp)]; exact qB2 m _)
 have hB:=qB4 w (.cells c.cells t (0,0))
 refine ⟨m'.ty w.heap.size t,_,h2.typed hB,⟨h3.sub.trans (h2.ty_sub hB),h3.ext,h3.fext,h3.size,h3.os,h3.tape,h3.output,h3.same⟩,.inl ⟨.pointer (some ⟨w.heap.size,0,none⟩),?_,?_⟩⟩
 ·simp [Instr.alloc,hc,newVar,newRow,newObj,Sem.run,wnew]
 ·simp only [VR]
  refine ⟨w.heap.size,?_,?_,rfl⟩
  ·show m' _ _ = _
   rw [hl] at h1 ⊢
   exact h1
  ·show (if w.heap.size = w.heap.size then some t else _) = some t
   rw [if_pos rfl]
theorem qCh {P:Program} {w:World} {B t:Nat} {cs:Array Value} {fr:Nat × Nat} (hB:w.heap[B]? = some (.cells cs t fr)):Sem.run P (shape B) w = .ok (some (t,cs.size)) w:=by
 have:w.shape? B = some (t,cs.size):=by simp [World.shape?,hB]
 rw [← this]
 rfl
theorem qEn {P : Program} {w : World} {src dst u B off t : Nat} {j : TypeInfo} {cs : Array Value} {fr : Nat × Nat} (hs : P.underlying src = some (.pointer u)) (hd : P.underlying dst = some .unsafePointer) (hu : P.info? u = some j) (hz : 0 < j.size) (hB : w.heap[B]? = some (.cells cs t fr)) (ho : off < cs.size) :
 (convert src dst (.pointer (some ⟨B,off,none⟩))).run P w = .ok (.pointer (some ⟨B,off,none⟩)) w:=by
 have h1:¬ j.size = 0:=by omega
 have h2:¬ cs.size ≤ off:=by omega
 have hsh:Sem.run P (shape B) w = .ok (some (t,cs.size)) w:=qCh hB
 have hws:w.shape? B = some (t,cs.size):=by simp [World.shape?,hB]
 simp [convert,run_underlying hs,run_underlying hd,Conv.unsafePointer,Conv.seenAt,viewAt,hsh,hws,cellsIn,sizeOf,typeInfo,hu,h1,h2]
theorem qDe {P : Program} {w : World} {src dst u B off t : Nat} {j : TypeInfo} {cs : Array Value} {fr : Nat × Nat} (hs : P.underlying src = some .unsafePointer) (hd : P.underlying dst = some (.pointer u)) (hu : P.info? u = some j) (hz : 0 < j.size) (hB : w.heap[B]? = some (.cells cs t fr)) (hl : liesAt P P.depth t (cs.size / P.cellsOf t) off u 1 = true) :
 (convert src dst (.pointer (some ⟨B,off,none⟩))).run P w = .ok (.pointer (some ⟨B,off,none⟩)) w:=by
 have h1:¬ j.size = 0:=by omega
 have hsh:Sem.run P (shape B) w = .ok (some (t,cs.size)) w:=qCh hB
 have hws:w.shape? B = some (t,cs.size):=by simp [World.shape?,hB]
 simp [convert,run_underlying hs,run_underlying hd,Conv.unsafePointer,Conv.seenAt,viewAt,hsh,hws,variablesAt,sizeOf,typeInfo,hu,h1,hl]
section
variable {R:Type} {X:Fx R} {p p':Pt} {env eE:Env} {H H':Hp} {t:Option R}
theorem qC2 {v:AV} (o:Oper) (ho:operAt X.fn.ntmps p env = some o) (ha:advE X.fn.ntmps p env v = some (p',eE)) (hs:∀ (m:Mp) (w:World) (base:Nat) (a:Act),FR m env a.tmps → RW m H w base → Good X.P (execOp a.eval o) m w base v H') (k:Ok X p' eE H' t):Ok X p env H t:=by
 unfold advE at ha
 rw [ho] at ha
 simp only at ha
 cases ha
 obtain ⟨ops,n,K,rfl,h1,h2,h3⟩:=qAs ho
 exact ok_good h1 h2 h3 hs k
theorem qIv (ty n:Nat) (i:Ti) (z:List AV) {v:AV} (o:Oper) (ho:operAt X.fn.ntmps p env = some o) (hop:o.op = .alloc ty) (hi:X.C.ti ty = some i) (hz:i.zero = some z) (hal:alloc1 H z = some (v,H')) (hn:z.length = n) (ha:advE X.fn.ntmps p env (.tptr ty n H.next n 0) = some (p',eE)) (k:Ok X p' eE H' t):Ok X p env H t:=by
 refine qC2 o ho ha (fun m w base a fr rw'=>?_) k
 unfold execOp
 rw [hop]
 subst hn
 exact qFp X.hti hi hz hal rw'
theorem qHu {m:Mp} {w:World} {base:Nat} {ty n r v off:Nat} {c:Value} {b:Blk} (rw':RW m H w base) (h:VR m (.tptr ty n r v off) c) (hb:H.t.get r = some b) (h1:b.minv ≤ v) (h2:v ≤ b.cells.length):∃ B cs fr,c = .pointer (some ⟨B,off,none⟩) ∧ w.heap[B]? = some (.cells cs ty fr) ∧ cs.size = n:=by
 simp only [VR] at h
 obtain ⟨B,q1,q2,rfl⟩:=h
 obtain ⟨cs,ty',fr,e1,e2,_⟩:=rw'.blk r b v B n hb q1 h1 h2
 obtain ⟨cs',fr',e3⟩:=rw'.tyk B ty q2
 rw [e1] at e3
 cases e3
 exact ⟨B,_,_,rfl,e1,e2⟩
theorem ok_toU (ty n r v off s src dst : Nat) (a e : Ti) (b : Blk) (o : Oper) (ho : operAt X.fn.ntmps p env = some o) (hop : o.op = .convert src dst (.tmp s)) (hx : look env s = .tptr ty n r v off) (hb : H.t.get r = some b) (h1 : b.minv ≤ v) (h2 : v ≤ b.cells.length) (hoff : off < n)
 (hs:X.C.ti src = some a) (hk:a.kind = .pointer) (he:X.C.ti a.elem = some e) (hz:0 < e.size) (hd:X.P.underlying dst = some .unsafePointer) (ha:advE X.fn.ntmps p env (.tptr ty n r v off) = some (p',eE)) (k:Ok X p' eE H t):Ok X p env H t:=by
 refine qC2 o ho ha (fun m w base ac fr rw'=>?_) k
 have hv:=qAy fr (.tmp s)
 have hv:VR m (look env s) (ac.eval (.tmp s)):=hv
 rw [hx] at hv
 obtain ⟨B,cs,fr',ec,hB,hsz⟩:=qHu rw' hv hb h1 h2
 obtain ⟨j,_,hj,_,hjs,_⟩:=qA (X.hti _ _ he)
 refine Good.val (ac.eval (.tmp s)) ?_ rw' hv
 unfold execOp
 rw [hop,ec]
 have:=qEn (qA9 (X.hti _ _ hs) hk) hd hj (by omega) hB (by omega:off < cs.size)
 simp [this,ec]
theorem ok_fromU (ty n r v off s src dst : Nat) (a e : Ti) (b : Blk) (o : Oper) (ho : operAt X.fn.ntmps p env = some o) (hop : o.op = .convert src dst (.tmp s)) (hx : look env s = .tptr ty n r v off) (hb : H.t.get r = some b) (h1 : b.minv ≤ v) (h2 : v ≤ b.cells.length)
 (hs:X.P.underlying src = some .unsafePointer) (hd:X.C.ti dst = some a) (hk:a.kind = .pointer) (he:X.C.ti a.elem = some e) (hz:0 < e.size) (hl:liesAt X.P X.P.depth ty (n / X.P.cellsOf ty) off a.elem 1 = true) (ha:advE X.fn.ntmps p env (.tptr ty n r v off) = some (p',eE)) (k:Ok X p' eE H t):Ok X p env H t:=by
 refine qC2 o ho ha (fun m w base ac fr rw'=>?_) k
 have hv:VR m (look env s) (ac.eval (.tmp s)):=qAy fr (.tmp s)
 rw [hx] at hv
 obtain ⟨B,cs,fr',ec,hB,hsz⟩:=qHu rw' hv hb h1 h2
 obtain ⟨j,_,hj,_,hjs,_⟩:=qA (X.hti _ _ he)
 refine Good.val (ac.eval (.tmp s)) ?_ rw' hv
 unfold execOp
 rw [hop,ec]
 have:=qDe hs (qA9 (X.hti _ _ hd) hk) hj (by omega) hB (by rw [hsz]; exact hl)
 simp [this,ec]
theorem ok_same (s:Nat) (o:Oper) (ho:operAt X.fn.ntmps p env = some o) (hx:∀ (a:Act) (w:World),(execOp a.eval o).run X.P w = .ok (.value (a.eval (.tmp s))) w) (ha:advE X.fn.ntmps p env (look env s) = some (p',eE)) (k:Ok X p' eE H t):Ok X p env H t :=
 qC2 o ho ha (fun m w base ac fr rw'=>Good.val (ac.eval (.tmp s)) (hx ac w) rw' (qAy fr (.tmp s))) k
end
noncomputable def allocE (C:Cx) (n:Nat) (p:Pt) (env:Env) (H:Hp):Option (Pt × Env × Hp) :=
 match operAt n p env with
 | some o=>(match o.op with
  | .alloc ty=>(match C.ti ty with
   | some i=>(match i.zero with
    | some z=>(match alloc1 H z with
     | some (_,H')=>some (adv p,putV env o.dst (.tptr ty z.length H.next z.length 0),H')
     | none=>none)
    | none=>none)
   | none=>none)
  | _=>none)
 | none=>none
noncomputable def toUE (C:Cx) (n:Nat) (p:Pt) (env:Env) (H:Hp):Option (Nat × Pt × Env) :=
 match operAt n p env with
 | some o=>(match o.op with
  | .convert src dst (.tmp x)=>(match look env x with
   | .tptr ty nn r v off=>(match H.t.get r,C.ti src with
    | some b,some a=>(match a.kind,C.ti a.elem with
     | .pointer,some e=>if Nat.ble b.minv v && Nat.ble v b.cells.length && Nat.blt off nn && Nat.blt 0 e.size then some (dst,adv p,putV env o.dst (.tptr ty nn r v off)) else none
     | _,_=>none)
    | _,_=>none)
   | _=>none)
  | _=>none)
 | none=>none
noncomputable def frUE (C:Cx) (n:Nat) (p:Pt) (env:Env) (H:Hp):Option ((Nat × Nat × Nat × Nat × Nat) × Pt × Env) :=
 match operAt n p env with
 | some o=>(match o.op with
  | .convert src dst (.tmp x)=>(match look env x with
   | .tptr ty nn r v off=>(match H.t.get r,C.ti dst with
    | some b,some a=>(match a.kind,C.ti a.elem with
     | .pointer,some e=>if Nat.ble b.minv v && Nat.ble v b.cells.length && Nat.blt 0 e.size then some ((src,ty,nn,off,a.elem),adv p,putV env o.dst (.tptr ty nn r v off)) else none
     | _,_=>none)
    | _,_=>none)
   | _=>none)
  | _=>none)
 | none=>none
noncomputable def sameE (n:Nat) (p:Pt) (env:Env):Option (Nat × Pt × Env) :=
 match operAt n p env with
 | some o=>(match o.op with
  | .call ⟨.value (.func f),⟨[.tmp x]⟩,_⟩=>some (f,adv p,putV env o.dst (look env x))
  | _=>none)
 | none=>none
def SameFn (P:Program) (f:Nat):Prop := ∀ (c:Value) (w:World),(callFunc f #[c]).run P w = .ok (.value c) w
section
variable {R:Type} {X:Fx R} {p p':Pt} {env eE:Env} {H H':Hp} {t:Option R}
theorem oAl (p':Pt) (eE:Env) (H':Hp) (k:Ok X p' eE H' t) (h:allocE X.C X.fn.ntmps p env H = some (p',eE,H'):=by kernel_rfl):Ok X p env H t:=by
 unfold allocE at h
 cases ho:operAt X.fn.ntmps p env with
 | none=>rw [ho] at h; cases h
 | some o =>
 rw [ho] at h
 simp only at h
 split at h
 case h_2=>cases h
 case h_1 ty hop =>
 split at h
 case h_2=>cases h
 case h_1 i hi =>
 split at h
 case h_2=>cases h
 case h_1 z hz =>
 split at h
 case h_2=>cases h
 case h_1 v H1 hal =>
 cases h
 exact qIv ty z.length i z o ho hop hi hz hal rfl (by unfold advE; rw [ho]) k
theorem oTU (d:Nat) (p':Pt) (eE:Env) (k:Ok X p' eE H t) (h:toUE X.C X.fn.ntmps p env H = some (d,p',eE):=by kernel_rfl) (hd:X.P.underlying d = some .unsafePointer:=by kernel_rfl):Ok X p env H t:=by
 unfold toUE at h
 cases ho:operAt X.fn.ntmps p env with
 | none=>rw [ho] at h; cases h
 | some o =>
 rw [ho] at h
 simp only at h
 split at h
 case h_2=>cases h
 case h_1 src dst x hop =>
 split at h
 case h_2=>cases h
 case h_1 ty nn r v off hx =>
 split at h
 case h_2=>cases h
 case h_1 b a hb ha =>
 split at h
 case h_2=>cases h
 case h_1 e hk he =>
 split at h
 case isFalse=>cases h
 case isTrue hq =>
 simp only [Bool.and_eq_true,Nat.blt_eq] at hq
 cases h
 exact ok_toU ty nn r v off x src d a e b o ho hop hx hb (Nat.le_of_ble_eq_true hq.1.1.1) (Nat.le_of_ble_eq_true hq.1.1.2) hq.1.2 ha hk he hq.2 hd (by unfold advE; rw [ho]) k
theorem oFU (src ty nn off el : Nat) (p' : Pt) (eE : Env) (k : Ok X p' eE H t) (h : frUE X.C X.fn.ntmps p env H = some ((src, ty, nn, off, el), p', eE) := by kernel_rfl) (hs : X.P.underlying src = some .unsafePointer := by kernel_rfl)
 (hl:liesAt X.P X.P.depth ty (nn / X.P.cellsOf ty) off el 1 = true:=by kernel_rfl):Ok X p env H t:=by
 unfold frUE at h
 cases ho:operAt X.fn.ntmps p env with
 | none=>rw [ho] at h; cases h
 | some o =>
 rw [ho] at h
 simp only at h
 split at h
 case h_2=>cases h
 case h_1 src dst x hop =>
 split at h
 case h_2=>cases h
 case h_1 ty nn r v off hx =>
 split at h
 case h_2=>cases h
 case h_1 b a hb ha =>
 split at h
 case h_2=>cases h
 case h_1 e hk he =>
 split at h
 case isFalse=>cases h
 case isTrue hq =>
 simp only [Bool.and_eq_true,Nat.blt_eq] at hq
 cases h
 exact ok_fromU _ _ r v _ x _ dst a e b o ho hop hx hb (Nat.le_of_ble_eq_true hq.1.1) (Nat.le_of_ble_eq_true hq.1.2) hs ha hk he hq.2 hl (by unfold advE; rw [ho]) k
theorem oSm (f:Nat) (p':Pt) (eE:Env) (hf:SameFn X.P f) (k:Ok X p' eE H t) (h:sameE X.fn.ntmps p env = some (f,p',eE):=by kernel_rfl):Ok X p env H t:=by
 unfold sameE at h
 cases ho:operAt X.fn.ntmps p env with
 | none=>rw [ho] at h; cases h
 | some o =>
 rw [ho] at h
 simp only at h
 split at h
 case h_2=>cases h
 case h_1 g x ts hop =>
 cases h
 refine ok_same x o ho (fun a w=>?_) (by unfold advE; rw [ho]) k
 unfold execOp
 rw [hop]
 simp only [resolve,pure_bind,invoke,Act.eval,Deferred.ofValue,Array.map,List.map]
 simpa using hf _ w
end
def unS (l:List Int):Option (List Nat):=if l.length ≤ 1099511627776 then toS l else none
theorem unSH {enc:Int → List AV} (h1:∀ x,enc x = [AV.int .u8 x]) (L:List Blk) (r minv:Nat) {l:List Int} {e:Option (AV × Hp)} (hl:Nat.ble L.length roots = true) (hr:L[r]? = some ⟨l.flatMap enc,minv,false⟩) (hm:minv ≤ l.length * 1) (h:e = usT (mkH L) r l.length 1 (l.length:Int)):e = (unS l).map fun x=>(AV.str x,mkH (L.set r ⟨l.flatMap enc,minv,true⟩)):=by
 have hlt:r < L.length:=(List.getElem?_eq_some_iff.1 hr).1
 have:rd (mkH L) r (l.length * 1) 0 l.length = some (l.map (AV.int .u8)):=by
  unfold rd
  rw [qEb hl hr]
  simp only [flatMap_one h1,Nat.mul_one,Nat.zero_add]
  have e1:Nat.ble minv l.length = true:=by simpa using hm
  have e2:Nat.ble l.length l.length = true:=by simp
  rw [e1,e2]
  simp only [Bool.and_self,cond_true,List.drop_zero]
  rw [List.take_of_length_le (by simp)]
 rw [h]
 unfold usT unS
 by_cases hb:l.length ≤ 1099511627776
 ·rw [if_pos hb,if_pos ⟨rfl,rfl,hb⟩,qEb hl hr,this]
  simp only [if_true,qDc]
  cases toS l with
  | none=>rfl
  | some x=>simp only [Option.map_some]; rw [qIz hlt]
 ·rw [if_neg hb,if_neg (fun q=>hb q.2.2)]
  rfl
theorem reT_map {α:Type} (t:Nat) (m:Option α) (r k:Nat) (f:α → Nat) (g:α → Hp):reT t (m.map fun y=>(AV.own r (f y) k,g y)) = m.map fun y=>(AV.ownt t r (f y) k,g y):=by
 cases m <;> rfl
theorem appHT {α:Type} {enc:α → List AV} {sz:Nat} (t:Nat) (hsz:∀ x,(enc x).length = sz) (hpos:Nat.blt 0 sz = true) (hone:∀ x,(enc x).all one1 = true) {e:Option (AV × Hp)} (L:List Blk) (r bytes:Nat) (l x:List α) (hl:Nat.ble L.length roots = true) (hr:L[r]? = some ⟨l.flatMap enc,0,false⟩) (h:e = reT t (appW (mkH L) (.own r l.length sz) sz bytes x.length (x.flatMap enc))):e = (appS bytes l x).map fun y=>(AV.ownt t r y.length sz,mkH (L.set r ⟨y.flatMap enc,0,false⟩)):=by
 rw [h,appH hsz hpos hone L r bytes l x hl hr rfl,reT_map]
theorem srcS_all (s:List Nat) {enc:Int → List AV} (h1:∀ x,enc x = [AV.int .u8 x]):srcCells H0 1 s.length (.str s) = some ((s.map Int.ofNat).flatMap enc):=by
 simp only [srcCells,Nat.le_refl,and_self,if_true,List.take_length,flatMap_one h1,List.map_map]
 rfl
theorem appHS {enc:Int → List AV} (t:Nat) (h1:∀ x,enc x = [AV.int .u8 x]) {e:Option (AV × Hp)} (L:List Blk) (r bytes:Nat) (l:List Int) (s:List Nat) (hl:Nat.ble L.length roots = true) (hr:L[r]? = some ⟨l.flatMap enc,0,false⟩) (h:e = (match srcCells (mkH L) 1 s.length (.str s) with | some new=>reT t (appW (mkH L) (.own r l.length 1) 1 bytes s.length new) | none=>none)):e = (appS bytes l (s.map Int.ofNat)).map fun y=>(AV.ownt t r y.length 1,mkH (L.set r ⟨y.flatMap enc,0,false⟩)):=by
 have hs:srcCells (mkH L) 1 s.length (.str s) = some ((s.map Int.ofNat).flatMap enc):=srcS_all s h1
 rw [h,hs]
 refine appHT t (sz:=1) (fun x=>by rw [h1]; rfl) rfl (fun x=>by rw [h1]; rfl) L r bytes l (s.map Int.ofNat) hl hr ?_
 simp only [List.length_map]
structure S7 where
 f0:Int
 f1:Int
 f2:Bool
 f3:Int
structure S25 where
 f0:Int
 f1:Int
 f2:(List Nat)
 f3:Raw
abbrev q26 (x:Raw):AV := .vec x.n 4 x.cells
def e2 (x:Int):List AV:=[.int .i64 x]
def v2 (x:Int):AV := .int .i64 x
abbrev w2 (x:List Int):AV := .vec x.length 1 (x.flatMap e2)
def p2:List AV → Option (Int × List AV):=pI .i64
def e3 (x:Int):List AV:=[.int .i64 x]
def v3 (x:Int):AV := .int .i64 x
abbrev w3 (x:List Int):AV := .vec x.length 1 (x.flatMap e3)
def p3:List AV → Option (Int × List AV):=pI .i64
theorem p3_ok (cs:List AV) (x:Int) (r:List AV) (h:p3 cs = some (x,r)):cs = e3 x ++ r:=pI_ok h
def e4 (x:Bool):List AV:=[.bool x]
abbrev w4 (x:List Bool):AV := .vec x.length 1 (x.flatMap e4)
def p4:List AV → Option (Bool × List AV):=pB
def e5 (x:Int):List AV:=[.int .u8 x]
theorem e5_len:∀ x,(e5 x).length = 1:=fun _=>rfl
theorem e5_pur:∀ x,purs (e5 x) = true:=fun _=>rfl
theorem u5 (l:List Int):purs (l.flatMap e5) = true:=qBd e5_pur l
theorem e5_one:∀ x,(e5 x).all one1 = true:=fun _=>rfl
abbrev w5 (x:List Int):AV := .vec x.length 1 (x.flatMap e5)
def p5:List AV → Option (Int × List AV):=pI .u8
def e6 (x:Int):List AV:=[.int .u8 x]
def p6:List AV → Option (Int × List AV):=pI .u8
def e7 (x:S7):List AV:=[.int .i64 x.f0,.int .i64 x.f1,.bool x.f2,.int .u8 x.f3]
def e8 (x:S7):List AV:=[.int .i64 x.f0,.int .i64 x.f1,.bool x.f2,.int .u8 x.f3]
theorem e8_pur:∀ x,purs (e8 x) = true:=fun _=>rfl
theorem u8 (l:List S7):purs (l.flatMap e8) = true:=qBd e8_pur l
def e9 (x:(List Nat)):List AV:=[.str x]
def p9:List AV → Option ((List Nat) × List AV):=pS
theorem p9_ok (cs:List AV) (x:(List Nat)) (r:List AV) (h:p9 cs = some (x,r)):cs = e9 x ++ r:=pS_ok h
def e26 (x:S25):List AV:=[.int .i64 x.f0,.int .i64 x.f1,.str x.f2,q26 x.f3]
theorem qBv:∀ x,(e26 x).length = 4:=fun _=>rfl
abbrev w26 (x:List S25):AV := .vec x.length 4 (x.flatMap e26)
def p26 (cs:List AV):Option (S25 × List AV):=(match p3 cs with | none=>none | some (x0,r0)=>(match p3 r0 with | none=>none | some (x1,r1)=>(match p9 r1 with | none=>none | some (x2,r2)=>(match r2 with | .vec n3 s3 c3 :: r3=>(if s3 = 4 then some (⟨x0,x1,x2,⟨n3,c3⟩⟩,r3) else none) | _=>none))))
theorem p26_ok (cs:List AV) (x:S25) (r:List AV) (h:p26 cs = some (x,r)):cs = e26 x ++ r:=by
 unfold p26 at h
 split at h
 ·cases h
 rename_i x0 r0 h0
 have q0:=p3_ok _ _ _ h0
 split at h
 ·cases h
 rename_i x1 r1 h1
 have q1:=p3_ok _ _ _ h1
 split at h
 ·cases h
 rename_i x2 r2 h2
 have q2:=p9_ok _ _ _ h2
 split at h
 rotate_left
 ·cases h
 rename_i n3 s3 c3 r3
 split at h
 rotate_left
 ·cases h
 rename_i t3; subst t3
 cases h
 try subst q2
 try subst q1
 try subst q0
 rfl
def d26:List AV → Option S25:=pall p26
theorem qBa (cs:List AV) (x:S25) (h:d26 cs = some x):cs = e26 x:=pall_ok p26_ok cs x h
abbrev n26 (x:S25):AV := .agg [.int .i64 x.f0,.int .i64 x.f1,.str x.f2,q26 x.f3]
theorem sameFn38:SameFn Try.prog 38:=fun c w=>by rw [run_callFunc_extern Try.func38 (by kernel_rfl) (by kernel_rfl) (by kernel_rfl) (e:=Extern.AbiNoEscape.same) (by kernel_rfl)]; rfl
def thrown:Value := .iface 0 (.agg #[])
end Go.Proofs.Ytdaaodknplbmkaa.Am
set_option linter.unusedVariables false
namespace Go.Proofs.Ytdaaodknplbmkaa.Am
open Go Go.ChangeShapes Go.WideShapes
def mpOf (fz:List (Nat × List AV)):Mp:=⟨fun _ _=>none,fun i=>fz[i]?,fun _=>none⟩
theorem qFl {P : Program} {n : Nat} {xs : List AV} {args : Array Value} (h : PureOk P n xs (.bool true)) (w : World) (fz : List (Nat × List AV)) (hargs : VRs (mpOf fz) xs args.toList)
 (hfz:∀ p ∈ fz,∃ cs ty fr,w.heap[p.1]? = some (.cells cs ty fr) ∧ p.2.length ≤ cs.size ∧ VRs (mpOf fz) p.2 (cs.toList.take p.2.length)) :
 Calls P n args w fun e W'=>e = .returned (.bool true) ∧ RowKit.Below w.heap.size w W':=by
 refine Calls.mono (h.1 (mpOf fz) w args (fun _ _=>rfl) hargs ?_) ?_
 ·refine ⟨?_,?_,?_,fun _ _=>rfl,?_,?_,?_,⟨fz.length,fun i hi=>List.getElem?_eq_none hi⟩,Nat.le_refl _,by show 0 ≤ roots; unfold roots; omega,fun C t h=>by cases h⟩
  ·intro r b v B N hb hm; cases hm
  ·intro r v B N hm; cases hm
  ·intro r v B N r' v' N' hm; cases hm
  ·intro r v B N hm; cases hm
  ·intro i B cells hi
   exact hfz (B,cells) (List.mem_of_getElem? hi)
  ·intro i B cells r v N b _ hm; cases hm
 ·rintro e w' ⟨m',c,rfl,q1,q2,q3⟩
  simp only [VR] at q3
  exact ⟨by rw [q3],q2.below (Nat.le_refl _)⟩
theorem qK {m : Mp} : ∀ {xs : List AV} {cs : List Value}, xs.length = cs.length → (∀ (i : Nat) x c, xs[i]? = some x → cs[i]? = some c → VR m x c) → VRs m xs cs
 | [],[],_,_=>by simp only [VRs]
 | [],_ :: _,h,_=>by cases h
 | _ :: _,[],h,_=>by cases h
 | x :: xs,c :: cs,h,k=>by
  simp only [VRs]
  exact ⟨c,cs,rfl,k 0 x c rfl rfl,qK (by simpa using h) (fun i x' c' hx hc=>k (i + 1) x' c' (by simpa using hx) (by simpa using hc))⟩
theorem qHd {w:World} {x:Addr} {i:Nat} {v:Value} (h:w.cell? (x.add i) = some v):∃ cs ty fr,w.heap[x.block]? = some (.cells cs ty fr) ∧ cs[x.off + i]? = some v ∧ (i = 0 → x.spot = none):=by
 have hb:(x.add i).block = x.block:=by unfold Addr.add; split <;> rfl
 have ho:(x.add i).off = x.off + i:=by unfold Addr.add; split <;> simp_all
 have hs:i = 0 → (x.add i).spot = x.spot:=by intro e; subst e; rfl
 unfold World.cell? at h
 rw [hb,ho] at h
 cases hw:w.heap[x.block]? with
 | none=>rw [hw] at h; cases h
 | some o =>
  rw [hw] at h
  cases o with
  | cells cs ty fr =>
   simp only [] at h
   cases hsp:(x.add i).spot with
   | none=>rw [hsp] at h; exact ⟨cs,ty,fr,rfl,by simpa using h,fun e=>by rw [← hs e,hsp]⟩
   | some q=>rw [hsp] at h; simp at h
  | _=>simp at h
section
variable {H:Type} {enc:TypeId × Value → H} {P:Program} {w:World} {base:Nat} {held:Bool}
end
end Go.Proofs.Ytdaaodknplbmkaa.Am
set_option linter.unusedVariables false
namespace Go.Proofs.Ytdaaodknplbmkaa.Am
open Go Go.ChangeShapes Go.WideShapes
theorem add_add' (x:Addr) (i j:Nat):(x.add i).add j = x.add (i + j):=by
 unfold Addr.add
 by_cases hi:i = 0
 ·subst hi; simp
 ·by_cases hj:j = 0
  ·subst hj; simp
  ·simp [hi,hj,Nat.add_assoc]
theorem qJy {m : Mp} : ∀ {xs : List AV} {cs : List Value}, VRs m xs cs → xs.length = cs.length ∧ ∀ (i : Nat) x, xs[i]? = some x → ∃ c, cs[i]? = some c ∧ VR m x c
 | [],cs,h=>by
  simp only [VRs] at h; subst h
  exact ⟨rfl,fun i x hx=>by simp at hx⟩
 | x :: xs,cs,h=>by
  simp only [VRs] at h
  obtain ⟨y,ys,rfl,h1,h2⟩:=h
  obtain ⟨q1,q2⟩:=qJy h2
  refine ⟨by simp [q1],fun i z hz=>?_⟩
  cases i with
  | zero=>simp at hz; subst hz; exact ⟨y,rfl,h1⟩
  | succ i=>simpa using q2 i z (by simpa using hz)
section
variable {H:Type} {enc:TypeId × Value → H} {P:Program} {w:World} {base:Nat} {held:Bool}
end
theorem qBw (m:Mp):VRs m [] []:=by simp only [VRs]
theorem qBo {m:Mp} {x:AV} {y:Value} {xs:List AV} {ys:List Value} (h:VR m x y) (k:VRs m xs ys):VRs m (x :: xs) (y :: ys):=by simp only [VRs]; exact ⟨y,ys,rfl,h,k⟩
theorem VR_int (m:Mp) (k:IntKind) (n:Int):VR m (.int k n) (.int k n):=by simp only [VR]
theorem VR_str (m:Mp) (s:ByteArray):VR m (.str (s.data.toList.map (·.toNat))) (.string s):=by simp only [VR]; exact ⟨s,rfl,rfl⟩
theorem VR_agg {m:Mp} {xs:List AV} {c:Array Value} (h:VRs m xs c.toList):VR m (.agg xs) (.agg c):=by simp only [VR]; exact ⟨c,rfl,h⟩
end Go.Proofs.Ytdaaodknplbmkaa.Am
set_option linter.unusedVariables false
namespace Go.Proofs.Ytdaaodknplbmkaa.Am
open Go Go.ChangeShapes Go.WideShapes
def Has (m:Mp) (F:List (Nat × List AV)):Prop := ∀ p ∈ F,∃ id,m.froz id = some p
theorem Has.left {m:Mp} {F G:List (Nat × List AV)} (h:Has m (F ++ G)):Has m F:=fun p hp=>h p (List.mem_append_left _ hp)
theorem Has.right {m:Mp} {F G:List (Nat × List AV)} (h:Has m (F ++ G)):Has m G:=fun p hp=>h p (List.mem_append_right _ hp)
theorem qGw (F:List (Nat × List AV)):Has (mpOf F) F:=fun p hp=>by
 obtain ⟨i,hi⟩:=List.getElem?_of_mem hp
 exact ⟨i,hi⟩
structure Sees (w:World) (F:List (Nat × List AV)) (xs:List AV) (cs:List Value):Prop where
 vr:∀ m,Has m F → VRs m xs cs
 fz:∀ p ∈ F,∃ cs ty fr,w.heap[p.1]? = some (.cells cs ty fr) ∧ p.2.length ≤ cs.size ∧ ∀ m,Has m F → VRs m p.2 (cs.toList.take p.2.length)
theorem qJz {m : Mp} : ∀ {xs ys : List AV} {cs ds : List Value}, VRs m xs cs → VRs m ys ds → VRs m (xs ++ ys) (cs ++ ds)
 | [],ys,cs,ds,h,k=>by simp only [VRs] at h; subst h; exact k
 | x :: xs,ys,cs,ds,h,k=>by
  simp only [VRs] at h
  obtain ⟨y,zs,rfl,h1,h2⟩:=h
  exact qBo h1 (qJz h2 k)
theorem Sees.pure {w:World} {xs:List AV} {cs:List Value} (h:∀ m,VRs m xs cs):Sees w [] xs cs:=⟨fun m _=>h m,fun p hp=>by cases hp⟩
theorem Sees.app {w:World} {F G:List (Nat × List AV)} {xs ys:List AV} {cs ds:List Value} (h:Sees w F xs cs) (k:Sees w G ys ds):Sees w (F ++ G) (xs ++ ys) (cs ++ ds):=by
 refine ⟨fun m hm=>qJz (h.vr m hm.left) (k.vr m hm.right),fun p hp=>?_⟩
 rcases List.mem_append.1 hp with hp | hp
 ·obtain ⟨cs,ty,fr,h1,h2,h3⟩:=h.fz p hp
  exact ⟨cs,ty,fr,h1,h2,fun m hm=>h3 m hm.left⟩
 ·obtain ⟨cs,ty,fr,h1,h2,h3⟩:=k.fz p hp
  exact ⟨cs,ty,fr,h1,h2,fun m hm=>h3 m hm.right⟩
theorem Sees.cons {w:World} {F G:List (Nat × List AV)} {x:AV} {ys:List AV} {c:Value} {ds:List Value} (h:Sees w F [x] [c]) (k:Sees w G ys ds):Sees w (F ++ G) (x :: ys) (c :: ds):=h.app k
theorem Sees.agg {w:World} {F:List (Nat × List AV)} {xs:List AV} {c:Array Value} (h:Sees w F xs c.toList):Sees w F [.agg xs] [.agg c]:=⟨fun m hm=>qBo (VR_agg (h.vr m hm)) (qBw m),h.fz⟩
theorem qHp {w:World} {x:Addr} {ds:List Value} (hc:∀ i,i < ds.length → w.cell? (x.add i) = ds[i]?) (hp:0 < ds.length):∃ cs ty fr,w.heap[x.block]? = some (.cells cs ty fr) ∧ x.off + ds.length ≤ cs.size ∧ x.spot = none ∧ ∀ i,i < ds.length → cs[x.off + i]? = ds[i]? := by
 have h0:=hc 0 hp
 rw [List.getElem?_eq_getElem hp] at h0
 obtain ⟨cs,ty,fr,hb,-,hsp⟩:=qHd h0
 have all:∀ i,i < ds.length → cs[x.off + i]? = ds[i]? := by
  intro i hi
  have h1:=hc i hi
  rw [List.getElem?_eq_getElem hi] at h1 ⊢
  obtain ⟨cs',ty',fr',hb',h2,-⟩:=qHd h1
  rw [hb] at hb'
  cases hb'
  exact h2
 refine ⟨cs,ty,fr,hb,?_,hsp rfl,all⟩
 have h2:=all (ds.length - 1) (by omega)
 rw [List.getElem?_eq_getElem (by omega)] at h2
 rcases Nat.lt_or_ge (x.off + (ds.length - 1)) cs.size with h | h
 ·omega
 ·rw [Array.getElem?_eq_none h] at h2; cases h2
section
variable {H:Type} {enc:TypeId × Value → H} {P:Program} {w:World} {base:Nat} {held:Bool}
theorem rowT_open {α : Type} {Q : α → Prop} {en : α → List AV} {n fuel : Nat} {t e : TypeId} {cs : List Value} {y : DataW H × List MemPlace} (ht : P.underlying t = some (.slice e)) (hc : P.cellsOf e = n) (hn : 0 < n) (hlen : ∀ x, (en x).length = n)
 (hel:∀ f,f < fuel → ∀ cs y,DataW.trod enc P w base (fun _=>true) held f e cs = some y → ∃ x F,Q x ∧ Sees w F (en x) cs)
 (h:DataW.trod enc P w base (fun _=>true) held fuel t cs = some y):∃ (L:List α) (F:List (Nat × List AV)),Sees w F [.vec L.length n (L.flatMap en)] cs ∧ (∀ x ∈ L,Q x) ∧ L.length ≤ maxLen:=by
 rcases DataW.trod_slice ht h with ⟨rfl,_⟩ | ⟨x,len,cap,elems,rest,q,hf,rfl,_,hb,hl,hm,hlq,hel',_,_⟩
 ·exact ⟨[],[],.pure fun m=>qBo (qCs m n) (qBw m),(fun x hx=>by cases hx),Nat.zero_le _⟩
 ·have each:∀ i,i < len → ∃ y F,Q y ∧ ∃ cs,w.cells? base (x.add (i * n)) n = some cs ∧ Sees w F (en y) cs:=by
   intro i hi
   have h1:=hel' i hi
   rw [List.getElem?_eq_getElem (by omega),hc,Option.bind_eq_some_iff] at h1
   obtain ⟨cs,h2,h3⟩:=h1
   obtain ⟨y,F,h4,h5⟩:=hel q (by omega) _ _ h3
   exact ⟨y,F,h4,cs,h2,h5⟩
  have build:∀ k,k ≤ len → ∃ (L:List α) (F:List (Nat × List AV)) (ds:List Value),L.length = k ∧ (∀ y ∈ L,Q y) ∧ Sees w F (L.flatMap en) ds ∧ ds.length = k * n ∧ ∀ i,i < ds.length → w.cell? (x.add i) = ds[i]? := by
   intro k
   induction k with
   | zero=>intro _; exact ⟨[],[],[],rfl,(fun y hy=>by cases hy),.pure qBw,by simp,(fun i hi=>by simp at hi)⟩
   | succ k ih =>
    intro hk
    obtain ⟨L,F,ds,h1,h2,h3,h4,h5⟩:=ih (by omega)
    obtain ⟨y,G,g1,cs,g2,g3⟩:=each k (by omega)
    have g4:=World.cells?_some g2
    refine ⟨L ++ [y],F ++ G,ds ++ cs,by simp [h1],?_,?_,?_,?_⟩
    ·intro z hz
     rcases List.mem_append.1 hz with hz | hz
     ·exact h2 z hz
     ·rw [List.mem_singleton.1 hz]; exact g1
    ·rw [List.flatMap_append]
     simp only [List.flatMap_cons,List.flatMap_nil,List.append_nil]
     exact h3.app g3
    ·rw [List.length_append,h4,g4.2.1,Nat.succ_mul]
    ·intro i hi
     rw [List.length_append,h4,g4.2.1] at hi
     by_cases hlt:i < ds.length
     ·rw [List.getElem?_append_left hlt]; exact h5 i hlt
     ·rw [List.getElem?_append_right (by omega),← g4.2.2 (i - ds.length) (by omega),add_add',show k * n + (i - ds.length) = i by omega]
  obtain ⟨L,F,ds,h1,h2,h3,h4,h5⟩:=build len (Nat.le_refl _)
  by_cases h0:len = 0
  ·subst h0
   obtain rfl:L = []:=List.length_eq_zero_iff.1 h1
   refine ⟨[],[],.pure fun m=>qBo ?_ (qBw m),(fun x hx=>by cases hx),Nat.zero_le _⟩
   simp only [VR,List.flatMap_nil,List.length_nil]
   exact ⟨by simp,_,cap,rfl,Nat.zero_le _,(fun e=>by cases e),(fun e=>absurd e (Nat.lt_irrefl _))⟩
  ·have hpos:0 < ds.length:=by rw [h4]; exact Nat.mul_pos (by omega) hn
   obtain ⟨cs,ty,fr,c1,c2,c3,c4⟩:=qHp h5 hpos
   have hfl:(L.flatMap en).length = len * n:=by rw [qB9 hlen,h1]
   refine ⟨L,F ++ [(x.block,List.replicate x.off .top ++ L.flatMap en)],⟨fun m hm=>qBo ?_ (qBw m),?_⟩,h2,by omega⟩
   ·obtain ⟨id,hid⟩:=hm (x.block,List.replicate x.off .top ++ L.flatMap en) (List.mem_append_right _ (List.mem_singleton.2 rfl))
    simp only [VR]
    refine ⟨by rw [hfl,h1],_,cap,by rw [h1],by omega,(fun e=>by cases e),fun _=>⟨id,x.block,x.off,_,hid,?_,?_,?_⟩⟩
    ·cases x; simp only at c3; rw [c3]
    ·rw [List.drop_append_of_le_length (by simp),List.drop_of_length_le (by simp),List.nil_append]
     exact List.take_of_length_le (by rw [hfl,h1]; exact Nat.le_refl _)
    ·rw [List.length_append,List.length_replicate,hfl,h1]; exact Nat.le_refl _
   ·intro p hp
    rcases List.mem_append.1 hp with hp | hp
    ·obtain ⟨cs,ty,fr,h1,h2,h3⟩:=h3.fz p hp
     exact ⟨cs,ty,fr,h1,h2,fun m hm=>h3 m hm.left⟩
    ·rw [List.mem_singleton.1 hp]
     refine ⟨cs,ty,fr,c1,by simp only [List.length_append,List.length_replicate]; omega,fun m hm=>?_⟩
     have hv:=qJy (h3.vr m hm.left)
     refine qK (by simp only [List.length_append,List.length_replicate,List.length_take,Array.length_toList]; omega) ?_
     intro i v c hiv hcv
     simp only [List.length_append,List.length_replicate] at hcv
     by_cases hi:i < x.off
     ·rw [List.getElem?_append_left (by simpa using hi),List.getElem?_replicate,if_pos hi] at hiv
      cases hiv
      simp only [VR]
     ·rw [List.getElem?_append_right (by simpa using Nat.le_of_not_lt hi),List.length_replicate] at hiv
      have hlt:i - x.off < (L.flatMap en).length:=(List.getElem?_eq_some_iff.1 hiv).1
      obtain ⟨c',e1,e2⟩:=hv.2 _ _ hiv
      have e3:=c4 (i - x.off) (by omega)
      rw [e1,show x.off + (i - x.off) = i by omega] at e3
      rw [List.getElem?_take_of_lt (by omega),Array.getElem?_toList,e3] at hcv
      cases hcv
      exact e2
end
theorem qHk {P : Program} {n : Nat} {xs : List AV} {args : Array Value} {F : List (Nat × List AV)} (h : PureOk P n xs (.bool true)) (w : World) (hs : Sees w F xs args.toList) :
 Calls P n args w fun e W'=>e = .returned (.bool true) ∧ RowKit.Below w.heap.size w W' :=
 qFl h w F (hs.vr _ (qGw F)) fun p hp=>by
  obtain ⟨cs,ty,fr,h1,h2,h3⟩:=hs.fz p hp
  exact ⟨cs,ty,fr,h1,h2,h3 _ (qGw F)⟩
theorem Sees.nil {w:World}:Sees w [] [] [] := .pure qBw
theorem Sees.one {w:World} {x:AV} {c:Value} (h:∀ m,VR m x c):Sees w [] [x] [c] := .pure fun m=>qBo (h m) (qBw m)
theorem bytes_lt (a:ByteArray):∀ b ∈ a.data.toList.map (·.toNat),b < 256:=by
 intro b hb
 obtain ⟨c,_,rfl⟩:=List.mem_map.1 hb
 exact UInt8.toNat_lt c
theorem fw64 (n:Int) (h1 : -9223372036854775808 ≤ n) (h2:n ≤ 9223372036854775807):fW .i64 n = n:=by
 have h1:lo .i64 ≤ n:=h1
 have h2:n ≤ hi .i64:=h2
 unfold fW
 rw [if_pos (by simp [h1,h2])]
theorem andI64 (x:Int) (m:Nat) (hm:m ≤ 62):andI .i64 x ((2 ^ m - 1:Nat):Int) = x % ((2 ^ m:Nat):Int):=by
 have hp:2 ^ m ≤ 2 ^ 62:=Nat.pow_le_pow_right (by decide) hm
 have h0:0 < 2 ^ m:=Nat.two_pow_pos m
 have e1:(BitVec.ofInt 64 x).toNat = (x % 18446744073709551616).toNat:=by rw [BitVec.toNat_ofInt]; rfl
 have e2:(BitVec.ofInt 64 ((2 ^ m - 1:Nat):Int)).toNat = 2 ^ m - 1:=by
  rw [BitVec.toNat_ofInt]
  omega
 have e3:(((BitVec.ofInt 64 x &&& BitVec.ofInt 64 ((2 ^ m - 1:Nat):Int)).toNat:Nat):Int) = x % ((2 ^ m:Nat):Int):=by
  rw [BitVec.toNat_and,e1,e2,Nat.and_two_pow_sub_one_eq_mod]
  have h1:0 ≤ x % 18446744073709551616:=Int.emod_nonneg _ (by decide)
  have h2:(((x % 18446744073709551616).toNat:Nat):Int) = x % 18446744073709551616:=by omega
  rw [Int.natCast_emod,h2]
  refine Int.emod_emod_of_dvd x ?_
  have:(2:Nat) ^ m ∣ 2 ^ 64:=Nat.pow_dvd_pow 2 (by omega)
  have:=Int.natCast_dvd_natCast.2 this
  exact this
 unfold andI
 show fW .i64 (((BitVec.ofInt 64 x &&& BitVec.ofInt 64 ((2 ^ m - 1:Nat):Int)).toNat:Nat):Int) = _
 rw [e3]
 have h3:0 ≤ x % ((2 ^ m:Nat):Int):=Int.emod_nonneg _ (by omega)
 have h4:x % ((2 ^ m:Nat):Int) < ((2 ^ m:Nat):Int):=Int.emod_lt_of_pos _ (by omega)
 exact fw64 _ (by omega) (by omega)
end Go.Proofs.Ytdaaodknplbmkaa.Am
set_option linter.unusedVariables false
set_option linter.unusedSimpArgs false
namespace Go.Proofs.Ytdaaodknplbmkaa.Am
open Go Go.ChangeShapes Go.WideShapes
inductive TreeP:S25 → Prop where
 | mk (x:S25) (h0:(-9223372036854775808 ≤ x.f0 ∧ x.f0 ≤ 9223372036854775807)) (h1:(-9223372036854775808 ≤ x.f1 ∧ x.f1 ≤ 9223372036854775807)) (h2:((∀ b ∈ x.f2,b < 256) ∧ x.f2.length ≤ 9223372036854775807)) (L:List S25) (hL:x.f3 = ⟨L.length,L.flatMap e26⟩) (hl:L.length ≤ 9223372036854775807) (ih:∀ y ∈ L,TreeP y):TreeP x
theorem e26_ln (x:S25):(e26 x).length = 4:=rfl
theorem opnT {H:Type} {enc:TypeId × Value → H} {w:World} {base:Nat} {held:Bool}:∀ (fuel:Nat) (cs:List Value) (y:DataW H × List MemPlace),DataW.trod enc Try.prog w base (fun _=>true) held fuel 26 cs = some y → ∃ (x:S25) (F:List (Nat × List AV)),TreeP x ∧ Sees w F (e26 x) cs:=by
 intro fuel
 induction fuel using Nat.strongRecOn with
 | _ fuel ih =>
 intro cs y h
 obtain ⟨xs,n,hn,-,hl,hx,hf⟩:=DataW.trod_struct Try.underlying26 h
 rw [show Try.prog.cellsOf 26 = 4 from by kernel_rfl] at hl
 obtain ⟨c0,c1,c2,c3,rfl⟩:∃ c0 c1 c2 c3,cs = [c0,c1,c2,c3]:=match cs,hl with | [c0,c1,c2,c3],_=>⟨c0,c1,c2,c3,rfl⟩
 have hf0:DataW.trod enc Try.prog w base (fun _=>true) held n 3 (([c0,c1,c2,c3].drop 0).take (Try.prog.cellsOf 3)) = xs[0]? := hf 0 _ rfl
 rw [show Try.prog.cellsOf 3 = 1 from by kernel_rfl,List.getElem?_eq_getElem (by rw [hx]; show 0 < 4; decide)] at hf0
 have hf0:DataW.trod enc Try.prog w base (fun _=>true) held n 3 [c0] = some _:=hf0
 obtain ⟨n0,z0,-,w0⟩:=DataW.trod_int Try.underlying3 hf0
 have y0:=(List.cons.inj z0).1
 have hf1:DataW.trod enc Try.prog w base (fun _=>true) held n 3 (([c0,c1,c2,c3].drop 1).take (Try.prog.cellsOf 3)) = xs[1]? := hf 1 _ rfl
 rw [show Try.prog.cellsOf 3 = 1 from by kernel_rfl,List.getElem?_eq_getElem (by rw [hx]; show 1 < 4; decide)] at hf1
 have hf1:DataW.trod enc Try.prog w base (fun _=>true) held n 3 [c1] = some _:=hf1
 obtain ⟨n1,z1,-,w1⟩:=DataW.trod_int Try.underlying3 hf1
 have y1:=(List.cons.inj z1).1
 have hf2:DataW.trod enc Try.prog w base (fun _=>true) held n 9 (([c0,c1,c2,c3].drop 2).take (Try.prog.cellsOf 9)) = xs[2]? := hf 2 _ rfl
 rw [show Try.prog.cellsOf 9 = 1 from by kernel_rfl,List.getElem?_eq_getElem (by rw [hx]; show 2 < 4; decide)] at hf2
 have hf2:DataW.trod enc Try.prog w base (fun _=>true) held n 9 [c2] = some _:=hf2
 obtain ⟨n2,z2,-,w2⟩:=DataW.trod_string Try.underlying9 hf2
 have y2:=(List.cons.inj z2).1
 have hf3:DataW.trod enc Try.prog w base (fun _=>true) held n 22 (([c0,c1,c2,c3].drop 3).take (Try.prog.cellsOf 22)) = xs[3]? := hf 3 _ rfl
 rw [show Try.prog.cellsOf 22 = 1 from by kernel_rfl,List.getElem?_eq_getElem (by rw [hx]; show 3 < 4; decide)] at hf3
 have hf3:DataW.trod enc Try.prog w base (fun _=>true) held n 22 [c3] = some _:=hf3
 obtain ⟨L3,F3,s3,q3,l3⟩:=rowT_open (Q:=TreeP) (en:=e26) (n:=4) Try.underlying22 (by kernel_rfl) (by decide) e26_ln (fun f hlt cs y h=>ih f (by omega) cs y h) hf3
 subst y0 y1 y2
 exact ⟨⟨n0,n1,(n2.data.toList.map (·.toNat)),⟨L3.length,L3.flatMap e26⟩⟩,_,.mk _ (by simpa [Lit.wf,IntKind.min,IntKind.max,IntKind.signed,IntKind.bits] using w0) (by simpa [Lit.wf,IntKind.min,IntKind.max,IntKind.signed,IntKind.bits] using w1) ⟨bytes_lt n2,by simpa [maxLen] using w2⟩ L3 rfl (by simpa [maxLen] using l3) q3,(.cons (.one fun m=>VR_int m .i64 n0) (.cons (.one fun m=>VR_int m .i64 n1) (.cons (.one fun m=>VR_str m n2) (.cons s3 .nil))))⟩
theorem dT {p:Prop} [Decidable p] (h:p):decide p = true:=decide_eq_true h
theorem dF {p:Prop} [Decidable p] (h:¬ p):decide p = false:=decide_eq_false h
theorem fwI {n:Int} (h1 : -9223372036854775808 ≤ n) (h2:n ≤ 9223372036854775807):fW .i64 n = n:=fw64 n h1 h2
theorem bS {α β:Type} {x:Option α} {a:α} {f:α → Option β} {r:Option β} (h:x = some a) (k:f a = r):x.bind f = r:=by rw [h]; exact k
theorem jS {α β:Type} {f:α → Option β} {g:(α → Option β) → Option β} {v:α} (h:∀ j:α → Option β,g j = j v):jn f g = f v:=h f
theorem jC {α β:Type} {f:α → Option β} {g:(α → Option β) → Option β} {r:Option β} (h:∀ j:α → Option β,g j = r):jn f g = r:=h f
theorem jD {α β:Type} {f:α → Option β} {g:(α → Option β) → Option β} {r:Option β} (h:g f = r):jn f g = r:=h
theorem iT {α:Type} {c:Bool} {A B r:α} (h:c = true) (k:A = r):(if c then A else B) = r:=by rw [h]; exact k
theorem iF {α:Type} {c:Bool} {A B r:α} (h:c = false) (k:B = r):(if c then A else B) = r:=by rw [h]; exact k
theorem fw_s {n:Nat} (h:n < 300000000000000):fW .i64 ((n:Int) + 1) = ((n + 1:Nat):Int):=by rw [fwI (by omega) (by omega)]; omega
theorem fw_a {n m:Nat} (h:n < 300000000000000) (h2:m < 300000000000000):fW .i64 ((n:Int) + (m:Int)) = ((n + m:Nat):Int):=by rw [fwI (by omega) (by omega)]; omega
theorem fw_p {n:Nat} (h2:n < 300000000000000):fW .i64 (((n + 1:Nat):Int) - 1) = (n:Int):=by rw [fwI (by omega) (by omega)]; omega
abbrev By (s:List Nat):Prop := ∀ b ∈ s,b < 256
theorem By.drop {s:List Nat} (h:By s) (n:Nat):By (s.drop n):=fun b hb=>h b (List.mem_of_mem_drop hb)
theorem By.take {s:List Nat} (h:By s) (n:Nat):By (s.take n):=fun b hb=>h b (List.mem_of_mem_take hb)
theorem By.app {a b:List Nat} (ha:By a) (hb:By b):By (a ++ b):=fun c hc=>(List.mem_append.1 hc).elim (ha c) (hb c)
theorem By.tail {c:Nat} {r:List Nat} (h:By (c :: r)):By r:=fun b hb=>h b (List.mem_cons_of_mem _ hb)
theorem By.head {c:Nat} {r:List Nat} (h:By (c :: r)):c < 256:=h c List.mem_cons_self
theorem dcons {s:List Nat} {i:Nat} (h:i < s.length):∃ b r,s.drop i = b :: r ∧ s.drop (i + 1) = r ∧ b ∈ s ∧ r.length + i + 1 = s.length:=by
 refine ⟨s[i],s.drop (i + 1),List.drop_eq_getElem_cons h,rfl,List.getElem_mem h,?_⟩
 rw [List.length_drop]; omega
theorem nthX {s:List Nat} {x:Int} {i b:Nat} {r:List Nat} (hx:x = (i:Int)) (h:s.drop i = b :: r):nthS s x = some (b:Int):=by
 subst hx
 have e:s[i]? = some b:=by
  have:=List.getElem?_drop (xs:=s) (i:=i) (j:=0)
  rw [h] at this
  simpa using this.symm
 unfold nthS
 rw [if_pos (by omega)]
 simp [e]
end Go.Proofs.Ytdaaodknplbmkaa.Am
set_option maxRecDepth 100000
set_option linter.unusedVariables false
namespace Go.Proofs.Ytdaaodknplbmkaa.Am
noncomputable section
open Go
def Xg41:Fx (Int × Int):=⟨Try.prog,cx,Try.f41,fun r => .tuple [.i r.1,.i r.2],0,fun _=>H0,cxTi,cxOrd,fun _=>none,false⟩
def g41p2:Pt:=nav [0,0] (nav [0,0,0,0,0] (nav [0] (bodyAt Try.f41)))
def g41p6:Pt:=nav [0,0] (nav [2,0] g41p2)
def g41p9:Pt:=nav [0,0] (nav [2,0] g41p6)
def g41 (k:Nat) (a0:Int):Option (Int × Int) :=
 if (decide (a0 < 128)) then (some ((1:Int),fW .i64 a0)) else (if (decide (shrC a0 5 = 6)) then (some ((2:Int),fW .i64 (andI .u8 a0 31))) else (if (decide (shrC a0 4 = 14)) then (some ((3:Int),fW .i64 (andI .u8 a0 15))) else (if (decide (shrC a0 3 = 30)) then (some ((4:Int),fW .i64 (andI .u8 a0 7))) else (some ((0:Int),(0:Int))))))
theorem g41_ok (k:Nat) (a0:Int) (r:(Int × Int)) (h:g41 k a0 = some r):PureOk Try.prog 41 [.y a0] (.tuple [.i r.1,.i r.2]):=by
 refine qA2 Xg41 (fun _=>⟨rfl,rfl⟩) Try.func41 (by decide +kernel) (by kernel_rfl) (t:=g41 k a0) ?_ h
 unfold g41
 refine qA1 (eE:=[(0,.y a0)]) (by kernel_rfl) ?_
 refine oH 13 g41p2 [(4,.bool (decide (a0 < 128))),(6,.bool (decide (a0 < 128))),(5,.y a0),(3,.i 0),(2,.i 0),(0,.y a0)] (mkH []) ?_
 refine oS 4 (fun hb=>?_) (fun hb=>?_)
 ·exact oQ 9
 ·let E4:Env:=[(0,.y a0),(9,.bool (decide (shrC a0 5 = 6)))]
  refine oL 8 g41p6 E4 ?_
  refine oS 9 (fun hb=>?_) (fun hb=>?_)
  ·exact oQ 10
  ·refine oR 8 g41p9 ((16,.bool (decide (shrC a0 4 = 14))) :: (19,.bool (decide (shrC a0 4 = 14))) :: (18,.y (shrC a0 4)) :: (17,.y a0) :: (9,.bool false) :: E4) ?_
   refine oS 16 (fun hb=>?_) (fun hb=>?_)
   ·exact oQ 10
   ·refine oL 8 (nav [0,0] (nav [2,0] g41p9)) [(0,.y a0),(23,.bool (decide (shrC a0 3 = 30)))] ?_
    refine oS 23 (fun hb=>?_) (fun hb=>?_)
    ·exact oQ 10
    ·exact oQ 8
def Xg42:Fx Int:=⟨Try.prog,cx,Try.f42,fun r => .i r,0,fun _=>H0,cxTi,cxOrd,fun _=>none,false⟩
def g42c0:List Int:=[(0:Int),(0:Int),(128:Int),(2048:Int),(65536:Int)]
def g42p1:Pt:=nav [0,0,0] (nav [0] (bodyAt Try.f42))
def g42 (k:Nat) (a0:Int):Option Int :=
 (nthA g42c0 5 a0).bind fun x0_2=>some x0_2
theorem g42_ok (k:Nat) (a0:Int) (r:Int) (h:g42 k a0 = some r):PureOk Try.prog 42 [.i a0] (.i r):=by
 refine qA2 Xg42 (fun _=>⟨rfl,rfl⟩) Try.func42 (by decide +kernel) (by kernel_rfl) (t:=g42 k a0) ?_ h
 unfold g42
 refine qA1 (eE:=[(0,.i a0)]) (by kernel_rfl) ?_
 refine oH 8 (atN 2 (ctl1 g42p1)) [(4,.i a0),(3,.agg [.i 0,.i 0,.i 128,.i 2048,.i 65536]),(2,.i 0),(0,.i a0)] (mkH []) ?_
 refine oC (fun (x0_2:Int)=>(.i x0_2,(mkH []))) (atN 3 (ctl1 g42p1)) 5 (aidxH v3 g42c0 (by kernel_rfl)) fun x0_2 hx0_2=>?_
 exact oQ 3
def Xg43:Fx Bool:=⟨Try.prog,cx,Try.f43,fun r => .bool r,0,fun _=>H0,cxTi,cxOrd,fun _=>none,false⟩
def g43p1:Pt:=nav [0,0,0] (nav [0] (bodyAt Try.f43))
def g43 (k:Nat) (a0:Int):Option Bool :=
 if (decide (0 ≤ a0)) then (if (decide (a0 ≤ 1114111)) then (some (!decide (shrC a0 11 = 27))) else (some false)) else (some false)
theorem g43_ok (k:Nat) (a0:Int) (r:Bool) (h:g43 k a0 = some r):PureOk Try.prog 43 [.i a0] (.bool r):=by
 refine qA2 Xg43 (fun _=>⟨rfl,rfl⟩) Try.func43 (by decide +kernel) (by kernel_rfl) (t:=g43 k a0) ?_ h
 unfold g43
 refine qA1 (eE:=[(0,.i a0)]) (by kernel_rfl) ?_
 let E1:Env:=[(5,.bool (decide (0 ≤ a0))),(4,.bool (decide (0 ≤ a0))),(3,.i a0),(2,.bool false),(0,.i a0)]
 refine oH 9 (atN 3 (ctl1 g43p1)) E1 (mkH []) ?_
 refine oS 5 (fun hb=>?_) (fun hb=>?_)
 ·refine oR 4 (atN 7 (ctl1 g43p1)) ((9,.bool (decide (a0 ≤ 1114111))) :: (8,.bool (decide (a0 ≤ 1114111))) :: (7,.bool (decide (a0 ≤ 1114111))) :: (6,.i a0) :: (5,.bool true) :: E1) ?_
  refine oS 9 (fun hb=>?_) (fun hb=>?_)
  ·exact oQ 7
  ·exact oQ 7
 ·exact oQ 11
def Xg40:Fx (Int × Int):=⟨Try.prog,cx,Try.f40,fun r => .tuple [.i r.1,.i r.2],0,fun _=>H0,cxTi,cxOrd,fun _=>none,false⟩
def g40p1:Pt:=nav [0,0,0,0] (nav [0] (bodyAt Try.f40))
def g40p2:Pt:=nav [0,0] g40p1
def g40p4:Pt:=nav [2,0,0] g40p2
def g40p6:Pt:=nav [0,0,0,0] g40p4
def g40p7:Pt:=nav [0,0] g40p6
def g40p10:Pt:=nav [0,0,0,0] (nav [2,0,0,0] g40p7)
def g40p12:Pt:=nav [0,0] (nav [0,0,0] g40p10)
def g40p13:Pt:=nav [1,0,0,0,0] g40p12
def g40p14:Pt:=nav [2,0,0,0] g40p12
def g40p15:Pt:=nav [0,0,0,0] g40p13
def g40p16:Pt:=nav [0,0] g40p14
def g40p17:Pt:=nav [0,0] g40p15
def qFq (k:Nat)  (a0:(List Nat)) (a1:Int) (x0_3:(Int × Int)) (ih:Int → Int → Option (Int × Int)):Int → Int → Option (Int × Int) :=
 fun (y5_0:Int) (y5_1:Int)=>if (decide (y5_1 < x0_3.1)) then ((nthS a0 (fW .i64 (a1 + y5_1))).bind fun x1_4=>if (!decide (shrC x1_4 6 = 2)) then (some (((-1):Int),(1:Int))) else (ih (orI .i64 (shlC .i64 y5_0 6) (fW .i64 (andI .u8 x1_4 63))) (fW .i64 (y5_1 + 1)))) else ((g42 k x0_3.1).bind fun x2_2=>jn (fun (z6:Bool × Int)=>if z6.1 then (some (((-1):Int),(1:Int))) else (some (z6.2,x0_3.1))) (fun j6=>if (decide (y5_0 < x2_2)) then (j6 (true,y5_0)) else ((g43 k y5_0).bind fun x2_6=>j6 (!x2_6,y5_0))))
def qDr (k:Nat)  (a0:(List Nat)) (a1:Int) (x0_3:(Int × Int)) (n:Nat):Int → Int → Option (Int × Int):=lp (fun _ _=>none) (qFq k a0 a1 x0_3) n
theorem qEc (k:Nat)  (a0:(List Nat)) (a1:Int) (x0_3:(Int × Int)) (n:Nat) (y5_0:Int) (y5_1:Int):qDr k a0 a1 x0_3 (n + 1) y5_0 y5_1 = (if (decide (y5_1 < x0_3.1)) then ((nthS a0 (fW .i64 (a1 + y5_1))).bind fun x1_4=>if (!decide (shrC x1_4 6 = 2)) then (some (((-1):Int),(1:Int))) else ((qDr k a0 a1 x0_3 n) (orI .i64 (shlC .i64 y5_0 6) (fW .i64 (andI .u8 x1_4 63))) (fW .i64 (y5_1 + 1)))) else ((g42 k x0_3.1).bind fun x2_2=>jn (fun (z6:Bool × Int)=>if z6.1 then (some (((-1):Int),(1:Int))) else (some (z6.2,x0_3.1))) (fun j6=>if (decide (y5_0 < x2_2)) then (j6 (true,y5_0)) else ((g43 k y5_0).bind fun x2_6=>j6 (!x2_6,y5_0))))):=rfl
theorem qJ9 (k:Nat)   (a0:(List Nat)) (a1:Int) (x0_3:(Int × Int))  : ∀ (n:Nat) (y5_0:Int) (y5_1:Int),Ok Xg40 g40p10 [(0,.str a0),(1,.i a1),(6,.i x0_3.1),(7,.i y5_0),(8,.i y5_1)] (mkH []) (qDr k a0 a1 x0_3 n y5_0 y5_1):=by
 intro n
 induction n with
 | zero=>intro y5_0 y5_1; exact ok_none
 | succ n ih =>
  intro y5_0 y5_1
  show Ok _ _ _ _ (qFq k a0 a1 x0_3 (qDr k a0 a1 x0_3 n) y5_0 y5_1)
  unfold qFq
  refine qAe (p':=nav [0] g40p10) (by kernel_rfl) ?_
  let E8:Env:=[(37,.bool (decide (y5_1 < x0_3.1))),(36,.i x0_3.1),(35,.i y5_1),(0,.str a0),(1,.i a1),(6,.i x0_3.1),(7,.i y5_0),(8,.i y5_1)]
  refine oH 7 g40p12 E8 (mkH []) ?_
  refine oS 37 (fun hb=>?_) (fun hb=>?_)
  ·let E9:Env:=((43,.i (fW .i64 (a1 + y5_1))) :: (42,.i y5_1) :: (41,.i a1) :: (40,.str a0) :: (37,.bool true) :: E8)
   refine oR 10 (atN 4 (ctl1 g40p13)) E9 ?_
   refine oC (fun (x1_4:Int)=>(.y x1_4,(mkH []))) (atN 5 (ctl1 g40p13)) 44 (idxH (by kernel_rfl)) fun x1_4 hx1_4=>?_
   refine oH 4 g40p15 ((9,.y x1_4) :: (44,.y x1_4) :: E9) (mkH []) ?_
   refine oK0 [0,1,6,7,8,9] ?_
   refine oR 5 g40p17 ((47,.bool (!decide (shrC x1_4 6 = 2))) :: (46,.y (shrC x1_4 6)) :: (45,.y x1_4) :: (keepOnly ((9,.y x1_4) :: (44,.y x1_4) :: E9) [0,1,6,7,8,9])) ?_
   refine oS 47 (fun hb=>?_) (fun hb=>?_)
   ·exact oQ 7
   ·let E13:Env:=[(0,.str a0),(1,.i a1),(6,.i x0_3.1),(7,.i (orI .i64 (shlC .i64 y5_0 6) (fW .i64 (andI .u8 x1_4 63)))),(8,.i y5_1)]
    refine oL 11 (nav [0,0] (nav [2,0] g40p17)) E13 ?_
    refine oR 5 g40p10 ((8,.i (fW .i64 (y5_1 + 1))) :: (39,.i (fW .i64 (y5_1 + 1))) :: (38,.i y5_1) :: E13) ?_
    refine oK [0,1,6,7,8] [(0,.str a0),(1,.i a1),(6,.i x0_3.1),(7,.i (orI .i64 (shlC .i64 y5_0 6) (fW .i64 (andI .u8 x1_4 63)))),(8,.i (fW .i64 (y5_1 + 1)))] ?_
    exact ih (orI .i64 (shlC .i64 y5_0 6) (fW .i64 (andI .u8 x1_4 63))) (fW .i64 (y5_1 + 1))
  ·refine oR 7 (atN 2 (ctl1 g40p14)) ((55,.i x0_3.1) :: (54,.i y5_0) :: (37,.bool false) :: E8) ?_
   refine oA (fun (x2_2:Int) => .i x2_2) (atN 3 (ctl1 g40p14)) 56 [.i x0_3.1] (g42_ok k x0_3.1) fun x2_2 hx2_2=>?_
   let E15:Env:=((58,.bool (decide (y5_0 < x2_2))) :: (57,.bool (decide (y5_0 < x2_2))) :: (56,.i x2_2) :: (55,.i x0_3.1) :: (54,.i y5_0) :: (37,.bool false) :: E8)
   refine oR 2 (atN 5 (ctl1 g40p14)) E15 ?_
   refine oJ g40p16 (fun (z6:Bool × Int)=>[(6,.i x0_3.1),(7,.i z6.2),(62,.bool z6.1)]) (fun (z6:Bool × Int)=>(mkH [])) (fun z6=>?_) (fun j6 hj6=>?_)
   ·refine oS 62 (fun hb=>?_) (fun hb=>?_)
    ·exact oQ 7
    ·exact oQ 10
   ·refine oS 58 (fun hb=>?_) (fun hb=>?_)
    ·refine oLH 5 g40p16 [(6,.i x0_3.1),(7,.i y5_0),(62,.bool true)] (mkH []) ?_
     exact hj6 (true,y5_0)
    ·refine oH 1 (atN 6 (ctl1 g40p14)) ((59,.i y5_0) :: (58,.bool false) :: E15) (mkH []) ?_
     refine oA (fun (x2_6:Bool) => .bool x2_6) (atN 7 (ctl1 g40p14)) 60 [.i y5_0] (g43_ok k y5_0) fun x2_6 hx2_6=>?_
     refine oL 3 g40p16 [(6,.i x0_3.1),(7,.i y5_0),(62,.bool (!x2_6))] ?_
     exact hj6 (!x2_6,y5_0)
def g40 (k:Nat) (a0:(List Nat)) (a1:Int):Option (Int × Int) :=
 jn (fun (z3:Bool)=>if z3 then (some ((0:Int),(0:Int))) else ((nthS a0 a1).bind fun x0_2=>(g41 k x0_2).bind fun x0_3=>jn (fun (z4:Bool)=>if z4 then (some (((-1):Int),(1:Int))) else (qDr k a0 a1 x0_3 k x0_3.2 1)) (fun j4=>if (decide (x0_3.1 = 0)) then (j4 true) else (j4 (decide (fW .i64 ((a0.length:Int) - a1) < x0_3.1)))))) (fun j3=>if (decide (a1 < 0)) then (j3 true) else (j3 (decide ((a0.length:Int) ≤ a1))))
theorem g40_ok (k:Nat) (a0:(List Nat)) (a1:Int) (r:(Int × Int)) (h:g40 k a0 a1 = some r):PureOk Try.prog 40 [.str a0,.i a1] (.tuple [.i r.1,.i r.2]):=by
 refine qA2 Xg40 (fun _=>⟨rfl,rfl⟩) Try.func40 (by decide +kernel) (by kernel_rfl) (t:=g40 k a0 a1) ?_ h
 unfold g40
 refine qA1 (eE:=[(0,.str a0),(1,.i a1)]) (by kernel_rfl) ?_
 refine oH 11 (atN 3 (ctl1 g40p1)) [(12,.bool (decide (a1 < 0))),(11,.bool (decide (a1 < 0))),(10,.i a1),(5,.i 0),(4,.i 0),(0,.str a0),(1,.i a1)] (mkH []) ?_
 refine oJ g40p2 (fun (z3:Bool)=>[(0,.str a0),(1,.i a1),(17,.bool z3)]) (fun (z3:Bool)=>(mkH [])) (fun z3=>?_) (fun j3 hj3=>?_)
 ·refine oS 17 (fun hb=>?_) (fun hb=>?_)
  ·exact oQ 7
  ·refine oH 6 (atN 2 (ctl1 g40p4)) [(20,.i a1),(19,.str a0),(17,.bool false),(0,.str a0),(1,.i a1),(17,.bool z3)] (mkH []) ?_
   refine oC (fun (x0_2:Int)=>(.y x0_2,(mkH []))) (atN 3 (ctl1 g40p4)) 21 (idxH (by kernel_rfl)) fun x0_2 hx0_2=>?_
   refine oA (fun (x0_3:(Int × Int)) => .tuple [.i x0_3.1,.i x0_3.2]) (atN 4 (ctl1 g40p4)) 22 [.y x0_2] (g41_ok k x0_2) fun x0_3 hx0_3=>?_
   let E5:Env:=[(0,.str a0),(1,.i a1),(6,.i x0_3.1),(7,.i x0_3.2)]
   refine oLH 8 g40p6 E5 (mkH []) ?_
   refine oR 4 (atN 3 (ctl1 g40p6)) ((27,.bool (decide (x0_3.1 = 0))) :: (26,.bool (decide (x0_3.1 = 0))) :: (25,.i x0_3.1) :: E5) ?_
   refine oJ g40p7 (fun (z4:Bool)=>[(0,.str a0),(1,.i a1),(6,.i x0_3.1),(7,.i x0_3.2),(34,.bool z4)]) (fun (z4:Bool)=>(mkH [])) (fun z4=>?_) (fun j4 hj4=>?_)
   ·refine oS 34 (fun hb=>?_) (fun hb=>?_)
    ·exact oQ 7
    ·refine oLH 9 g40p10 [(0,.str a0),(1,.i a1),(6,.i x0_3.1),(7,.i x0_3.2),(8,.i 1)] (mkH []) ?_
     exact (qJ9 k a0 a1 x0_3 k) x0_3.2 1
   ·refine oS 27 (fun hb=>?_) (fun hb=>?_)
    ·refine oLH 8 g40p7 [(0,.str a0),(1,.i a1),(6,.i x0_3.1),(7,.i x0_3.2),(34,.bool true)] (mkH []) ?_
     exact hj4 true
    ·refine oLH 8 g40p7 [(0,.str a0),(1,.i a1),(6,.i x0_3.1),(7,.i x0_3.2),(34,.bool (decide (fW .i64 ((a0.length:Int) - a1) < x0_3.1)))] (mkH []) ?_
     exact hj4 (decide (fW .i64 ((a0.length:Int) - a1) < x0_3.1))
 ·refine oS 12 (fun hb=>?_) (fun hb=>?_)
  ·refine oLH 6 g40p2 [(0,.str a0),(1,.i a1),(17,.bool true)] (mkH []) ?_
   exact hj3 true
  ·refine oLH 6 g40p2 [(0,.str a0),(1,.i a1),(17,.bool (decide ((a0.length:Int) ≤ a1)))] (mkH []) ?_
   exact hj3 (decide ((a0.length:Int) ≤ a1))
def Xg37:Fx Bool:=⟨Try.prog,cx,Try.f37,fun r => .bool r,0,fun _=>H0,cxTi,cxOrd,fun _=>none,false⟩
def g37p1:Pt:=nav [0,0,0] (nav [0] (bodyAt Try.f37))
def g37 (k:Nat) (a0:Int):Option Bool :=
 if (decide (0 ≤ a0)) then (if (decide (a0 ≤ 1114111)) then (if (decide (a0 < 55296)) then (some true) else (some (decide (57343 < a0)))) else (some false)) else (some false)
theorem g37_ok (k:Nat) (a0:Int) (r:Bool) (h:g37 k a0 = some r):PureOk Try.prog 37 [.i a0] (.bool r):=by
 refine qA2 Xg37 (fun _=>⟨rfl,rfl⟩) Try.func37 (by decide +kernel) (by kernel_rfl) (t:=g37 k a0) ?_ h
 unfold g37
 refine qA1 (eE:=[(0,.i a0)]) (by kernel_rfl) ?_
 let E1:Env:=[(5,.bool (decide (0 ≤ a0))),(4,.bool (decide (0 ≤ a0))),(3,.i a0),(2,.bool false),(0,.i a0)]
 refine oH 9 (atN 3 (ctl1 g37p1)) E1 (mkH []) ?_
 refine oS 5 (fun hb=>?_) (fun hb=>?_)
 ·let E2:Env:=((9,.bool (decide (a0 ≤ 1114111))) :: (8,.bool (decide (a0 ≤ 1114111))) :: (7,.bool (decide (a0 ≤ 1114111))) :: (6,.i a0) :: (5,.bool true) :: E1)
  refine oR 4 (atN 7 (ctl1 g37p1)) E2 ?_
  refine oS 9 (fun hb=>?_) (fun hb=>?_)
  ·refine oR 3 (atN 10 (ctl1 g37p1)) ((12,.bool (decide (a0 < 55296))) :: (11,.bool (decide (a0 < 55296))) :: (10,.i a0) :: (9,.bool true) :: E2) ?_
   refine oS 12 (fun hb=>?_) (fun hb=>?_)
   ·exact oQ 7
   ·exact oQ 7
  ·exact oQ 10
 ·exact oQ 14
def Xg34:Fx (Int × Int):=⟨Try.prog,cx,Try.f34,fun r => .tuple [.i r.1,.i r.2],0,fun _=>H0,cxTi,cxOrd,fun _=>none,false⟩
def g34p1:Pt:=nav [0,0,0,0] (nav [0] (bodyAt Try.f34))
def g34p2:Pt:=nav [0,0] g34p1
def g34p4:Pt:=nav [2,0,0] g34p2
def g34p7:Pt:=nav [0,0,0,0,0] (nav [0,0,0] g34p4)
def g34p8:Pt:=nav [0,0] g34p7
def g34p10:Pt:=nav [2,0] g34p8
def g34p11:Pt:=nav [0,0] g34p10
def g34p13:Pt:=nav [2,0] g34p11
def g34p14:Pt:=nav [0,0,0,0] (nav [1] g34p11)
def g34p15:Pt:=nav [0,0] g34p13
def g34p16:Pt:=nav [0,0] g34p14
def g34p18:Pt:=nav [2,0] g34p15
def g34p21:Pt:=nav [0,0] g34p18
def g34p22:Pt:=nav [0,0,0,0] (nav [2,0,0,0] g34p16)
def g34p26:Pt:=nav [0,0] (nav [0,0,0] g34p22)
def g34p27:Pt:=nav [1,0,0,0,0,0] g34p26
def g34p28:Pt:=nav [2,0,0,0] g34p26
def g34p29:Pt:=nav [0,0] g34p27
def g34p30:Pt:=nav [0,0] g34p28
def g34p32:Pt:=nav [2,0] g34p29
def qFt (k:Nat)  (a0:(List Nat)) (a1:Int) (z6:Int × Int × Int) (ih:Int → Int → Option (Int × Int)):Int → Int → Option (Int × Int) :=
 fun (y9_0:Int) (y9_1:Int)=>if (decide (y9_1 < z6.2.1)) then ((nthS a0 (fW .i64 (a1 + y9_1))).bind fun x1_4=>if (!decide (andI .u8 x1_4 192 = 128)) then (some (((-1):Int),(1:Int))) else ((nthS a0 (fW .i64 (a1 + y9_1))).bind fun x2_6=>ih (fW .i64 (fW .i64 (y9_0 * 64) + fW .i64 (andI .u8 x2_6 63))) (fW .i64 (y9_1 + 1)))) else (jn (fun (z10:Bool × Int)=>if z10.1 then (some (((-1):Int),(1:Int))) else (some (z10.2,z6.2.1))) (fun j10=>if (decide (y9_0 < z6.2.2)) then (j10 (true,y9_0)) else ((g37 k y9_0).bind fun x3_5=>j10 (!x3_5,y9_0))))
def qD1 (k:Nat)  (a0:(List Nat)) (a1:Int) (z6:Int × Int × Int) (n:Nat):Int → Int → Option (Int × Int):=lp (fun _ _=>none) (qFt k a0 a1 z6) n
theorem qGy (k:Nat)  (a0:(List Nat)) (a1:Int) (z6:Int × Int × Int) (n:Nat) (y9_0:Int) (y9_1:Int):qD1 k a0 a1 z6 (n + 1) y9_0 y9_1 = (if (decide (y9_1 < z6.2.1)) then ((nthS a0 (fW .i64 (a1 + y9_1))).bind fun x1_4=>if (!decide (andI .u8 x1_4 192 = 128)) then (some (((-1):Int),(1:Int))) else ((nthS a0 (fW .i64 (a1 + y9_1))).bind fun x2_6=>(qD1 k a0 a1 z6 n) (fW .i64 (fW .i64 (y9_0 * 64) + fW .i64 (andI .u8 x2_6 63))) (fW .i64 (y9_1 + 1)))) else (jn (fun (z10:Bool × Int)=>if z10.1 then (some (((-1):Int),(1:Int))) else (some (z10.2,z6.2.1))) (fun j10=>if (decide (y9_0 < z6.2.2)) then (j10 (true,y9_0)) else ((g37 k y9_0).bind fun x3_5=>j10 (!x3_5,y9_0))))):=rfl
theorem qJd (k:Nat)   (a0:(List Nat)) (a1:Int) (z6:Int × Int × Int)  : ∀ (n:Nat) (y9_0:Int) (y9_1:Int),Ok Xg34 g34p22 [(0,.str a0),(1,.i a1),(6,.i y9_0),(7,.i z6.2.1),(8,.i z6.2.2),(9,.i y9_1)] (mkH []) (qD1 k a0 a1 z6 n y9_0 y9_1):=by
 intro n
 induction n with
 | zero=>intro y9_0 y9_1; exact ok_none
 | succ n ih =>
  intro y9_0 y9_1
  show Ok _ _ _ _ (qFt k a0 a1 z6 (qD1 k a0 a1 z6 n) y9_0 y9_1)
  unfold qFt
  refine qAe (p':=nav [0] g34p22) (by kernel_rfl) ?_
  let E9:Env:=[(61,.bool (decide (y9_1 < z6.2.1))),(60,.i z6.2.1),(59,.i y9_1),(0,.str a0),(1,.i a1),(6,.i y9_0),(7,.i z6.2.1),(8,.i z6.2.2),(9,.i y9_1)]
  refine oH 7 g34p26 E9 (mkH []) ?_
  refine oS 61 (fun hb=>?_) (fun hb=>?_)
  ·let E10:Env:=((67,.i (fW .i64 (a1 + y9_1))) :: (66,.i y9_1) :: (65,.i a1) :: (64,.str a0) :: (61,.bool true) :: E9)
   refine oR 11 (atN 4 (ctl1 g34p27)) E10 ?_
   refine oC (fun (x1_4:Int)=>(.y x1_4,(mkH []))) (atN 5 (ctl1 g34p27)) 68 (idxH (by kernel_rfl)) fun x1_4 hx1_4=>?_
   refine oH 3 g34p29 ((70,.bool (!decide (andI .u8 x1_4 192 = 128))) :: (69,.y (andI .u8 x1_4 192)) :: (68,.y x1_4) :: E10) (mkH []) ?_
   refine oK [0,1,6,7,8,9,70] [(0,.str a0),(1,.i a1),(6,.i y9_0),(7,.i z6.2.1),(8,.i z6.2.2),(9,.i y9_1),(70,.bool (!decide (andI .u8 x1_4 192 = 128)))] ?_
   refine oS 70 (fun hb=>?_) (fun hb=>?_)
   ·exact oQ 7
   ·refine oR 9 (atN 6 (ctl1 g34p32)) ((76,.i (fW .i64 (a1 + y9_1))) :: (75,.i y9_1) :: (74,.i a1) :: (73,.str a0) :: (72,.i (fW .i64 (y9_0 * 64))) :: (71,.i y9_0) :: (70,.bool false) :: (keepOnly ((70,.bool (!decide (andI .u8 x1_4 192 = 128))) :: (69,.y (andI .u8 x1_4 192)) :: (68,.y x1_4) :: E10) [0,1,6,7,8,9,70])) ?_
    refine oC (fun (x2_6:Int)=>(.y x2_6,(mkH []))) (atN 7 (ctl1 g34p32)) 77 (idxH (by kernel_rfl)) fun x2_6 hx2_6=>?_
    let E14:Env:=[(0,.str a0),(1,.i a1),(6,.i (fW .i64 (fW .i64 (y9_0 * 64) + fW .i64 (andI .u8 x2_6 63)))),(7,.i z6.2.1),(8,.i z6.2.2),(9,.i y9_1)]
    refine oLH 5 (nav [0,0] g34p32) E14 (mkH []) ?_
    refine oR 5 g34p22 ((9,.i (fW .i64 (y9_1 + 1))) :: (63,.i (fW .i64 (y9_1 + 1))) :: (62,.i y9_1) :: E14) ?_
    refine oK [0,1,6,7,8,9] [(0,.str a0),(1,.i a1),(6,.i (fW .i64 (fW .i64 (y9_0 * 64) + fW .i64 (andI .u8 x2_6 63)))),(7,.i z6.2.1),(8,.i z6.2.2),(9,.i (fW .i64 (y9_1 + 1)))] ?_
    exact ih (fW .i64 (fW .i64 (y9_0 * 64) + fW .i64 (andI .u8 x2_6 63))) (fW .i64 (y9_1 + 1))
  ·let E16:Env:=((84,.bool (decide (y9_0 < z6.2.2))) :: (83,.bool (decide (y9_0 < z6.2.2))) :: (82,.i z6.2.2) :: (81,.i y9_0) :: (61,.bool false) :: E9)
   refine oR 9 (atN 4 (ctl1 g34p28)) E16 ?_
   refine oJ g34p30 (fun (z10:Bool × Int)=>[(6,.i z10.2),(7,.i z6.2.1),(88,.bool z10.1)]) (fun (z10:Bool × Int)=>(mkH [])) (fun z10=>?_) (fun j10 hj10=>?_)
   ·refine oS 88 (fun hb=>?_) (fun hb=>?_)
    ·exact oQ 7
    ·exact oQ 10
   ·refine oS 84 (fun hb=>?_) (fun hb=>?_)
    ·refine oLH 5 g34p30 [(6,.i y9_0),(7,.i z6.2.1),(88,.bool true)] (mkH []) ?_
     exact hj10 (true,y9_0)
    ·refine oH 1 (atN 5 (ctl1 g34p28)) ((85,.i y9_0) :: (84,.bool false) :: E16) (mkH []) ?_
     refine oA (fun (x3_5:Bool) => .bool x3_5) (atN 6 (ctl1 g34p28)) 86 [.i y9_0] (g37_ok k y9_0) fun x3_5 hx3_5=>?_
     refine oL 3 g34p30 [(6,.i y9_0),(7,.i z6.2.1),(88,.bool (!x3_5))] ?_
     exact hj10 (!x3_5,y9_0)
def g34 (k:Nat) (a0:(List Nat)) (a1:Int):Option (Int × Int) :=
 jn (fun (z4:Bool)=>if z4 then (some ((0:Int),(0:Int))) else ((nthS a0 a1).bind fun x0_2=>if (decide (fW .i64 x0_2 < 128)) then (some (fW .i64 x0_2,(1:Int))) else (jn (fun (z5:Bool)=>jn (fun (z6:Int × Int × Int)=>if (decide (fW .i64 ((a0.length:Int) - a1) < z6.2.1)) then (some (((-1):Int),(1:Int))) else (qD1 k a0 a1 z6 k z6.1 1)) (fun j6=>if z5 then (j6 (andI .i64 (fW .i64 x0_2) 31,2,128)) else (jn (fun (z7:Bool)=>if z7 then (j6 (andI .i64 (fW .i64 x0_2) 15,3,2048)) else (jn (fun (z8:Bool)=>if z8 then (j6 (andI .i64 (fW .i64 x0_2) 7,4,65536)) else (some (((-1):Int),(1:Int)))) (fun j8=>if (decide (240 ≤ fW .i64 x0_2)) then (j8 (decide (fW .i64 x0_2 < 248))) else (j8 false)))) (fun j7=>if (decide (224 ≤ fW .i64 x0_2)) then (j7 (decide (fW .i64 x0_2 < 240))) else (j7 false))))) (fun j5=>if (decide (192 ≤ fW .i64 x0_2)) then (j5 (decide (fW .i64 x0_2 < 224))) else (j5 false))))) (fun j4=>if (decide (a1 < 0)) then (j4 true) else (j4 (decide ((a0.length:Int) ≤ a1))))
theorem g34_ok (k:Nat) (a0:(List Nat)) (a1:Int) (r:(Int × Int)) (h:g34 k a0 a1 = some r):PureOk Try.prog 34 [.str a0,.i a1] (.tuple [.i r.1,.i r.2]):=by
 refine qA2 Xg34 (fun _=>⟨rfl,rfl⟩) Try.func34 (by decide +kernel) (by kernel_rfl) (t:=g34 k a0 a1) ?_ h
 unfold g34
 refine qA1 (eE:=[(0,.str a0),(1,.i a1)]) (by kernel_rfl) ?_
 refine oH 11 (atN 3 (ctl1 g34p1)) [(12,.bool (decide (a1 < 0))),(11,.bool (decide (a1 < 0))),(10,.i a1),(5,.i 0),(4,.i 0),(0,.str a0),(1,.i a1)] (mkH []) ?_
 refine oJ g34p2 (fun (z4:Bool)=>[(0,.str a0),(1,.i a1),(17,.bool z4)]) (fun (z4:Bool)=>(mkH [])) (fun z4=>?_) (fun j4 hj4=>?_)
 ·refine oS 17 (fun hb=>?_) (fun hb=>?_)
  ·exact oQ 7
  ·refine oH 6 (atN 2 (ctl1 g34p4)) [(19,.i a1),(18,.str a0),(17,.bool false),(0,.str a0),(1,.i a1),(17,.bool z4)] (mkH []) ?_
   refine oC (fun (x0_2:Int)=>(.y x0_2,(mkH []))) (atN 3 (ctl1 g34p4)) 20 (idxH (by kernel_rfl)) fun x0_2 hx0_2=>?_
   let E5:Env:=[(0,.str a0),(1,.i a1),(6,.i (fW .i64 x0_2))]
   refine oLH 11 g34p7 E5 (mkH []) ?_
   refine oR 5 g34p8 ((22,.bool (decide (fW .i64 x0_2 < 128))) :: (24,.bool (decide (fW .i64 x0_2 < 128))) :: (23,.i (fW .i64 x0_2)) :: E5) ?_
   refine oS 22 (fun hb=>?_) (fun hb=>?_)
   ·exact oQ 8
   ·refine oR 6 (atN 3 (ctl1 g34p10)) ((29,.bool (decide (192 ≤ fW .i64 x0_2))) :: (28,.bool (decide (192 ≤ fW .i64 x0_2))) :: (27,.i (fW .i64 x0_2)) :: (22,.bool false) :: (22,.bool (decide (fW .i64 x0_2 < 128))) :: (24,.bool (decide (fW .i64 x0_2 < 128))) :: (23,.i (fW .i64 x0_2)) :: E5) ?_
    refine oJ g34p11 (fun (z5:Bool)=>[(0,.str a0),(1,.i a1),(6,.i (fW .i64 x0_2)),(26,.bool z5)]) (fun (z5:Bool)=>(mkH [])) (fun z5=>?_) (fun j5 hj5=>?_)
    ·refine oJ g34p14 (fun (z6:Int × Int × Int)=>[(0,.str a0),(1,.i a1),(6,.i z6.1),(7,.i z6.2.1),(8,.i z6.2.2)]) (fun (z6:Int × Int × Int)=>(mkH [])) (fun z6=>?_) (fun j6 hj6=>?_)
     ·let E8:Env:=[(58,.bool (decide (fW .i64 ((a0.length:Int) - a1) < z6.2.1))),(57,.i z6.2.1),(56,.i (fW .i64 ((a0.length:Int) - a1))),(55,.i a1),(54,.i (a0.length:Int)),(53,.str a0),(0,.str a0),(1,.i a1),(6,.i z6.1),(7,.i z6.2.1),(8,.i z6.2.2)]
      refine oH 8 g34p16 E8 (mkH []) ?_
      refine oS 58 (fun hb=>?_) (fun hb=>?_)
      ·exact oQ 7
      ·refine oR 9 g34p22 ((9,.i 1) :: (58,.bool false) :: E8) ?_
       refine oK [0,1,6,7,8,9] [(0,.str a0),(1,.i a1),(6,.i z6.1),(7,.i z6.2.1),(8,.i z6.2.2),(9,.i 1)] ?_
       exact (qJd k a0 a1 z6 k) z6.1 1
     ·refine oS 26 (fun hb=>?_) (fun hb=>?_)
      ·refine oLH 10 g34p14 [(0,.str a0),(1,.i a1),(6,.i (andI .i64 (fW .i64 x0_2) 31)),(7,.i 2),(8,.i 128)] (mkH []) ?_
       exact hj6 (andI .i64 (fW .i64 x0_2) 31,2,128)
      ·refine oH 6 (atN 3 (ctl1 g34p13)) [(38,.bool (decide (224 ≤ fW .i64 x0_2))),(37,.bool (decide (224 ≤ fW .i64 x0_2))),(36,.i (fW .i64 x0_2)),(26,.bool false),(0,.str a0),(1,.i a1),(6,.i (fW .i64 x0_2)),(26,.bool z5)] (mkH []) ?_
       refine oJ g34p15 (fun (z7:Bool)=>[(0,.str a0),(1,.i a1),(6,.i (fW .i64 x0_2)),(35,.bool z7)]) (fun (z7:Bool)=>(mkH [])) (fun z7=>?_) (fun j7 hj7=>?_)
       ·refine oS 35 (fun hb=>?_) (fun hb=>?_)
        ·refine oLH 10 g34p14 [(0,.str a0),(1,.i a1),(6,.i (andI .i64 (fW .i64 x0_2) 15)),(7,.i 3),(8,.i 2048)] (mkH []) ?_
         exact hj6 (andI .i64 (fW .i64 x0_2) 15,3,2048)
        ·refine oH 6 (atN 3 (ctl1 g34p18)) [(47,.bool (decide (240 ≤ fW .i64 x0_2))),(46,.bool (decide (240 ≤ fW .i64 x0_2))),(45,.i (fW .i64 x0_2)),(35,.bool false),(0,.str a0),(1,.i a1),(6,.i (fW .i64 x0_2)),(35,.bool z7)] (mkH []) ?_
         refine oJ g34p21 (fun (z8:Bool)=>[(0,.str a0),(1,.i a1),(6,.i (fW .i64 x0_2)),(44,.bool z8)]) (fun (z8:Bool)=>(mkH [])) (fun z8=>?_) (fun j8 hj8=>?_)
         ·refine oS 44 (fun hb=>?_) (fun hb=>?_)
          ·refine oLH 10 g34p14 [(0,.str a0),(1,.i a1),(6,.i (andI .i64 (fW .i64 x0_2) 7)),(7,.i 4),(8,.i 65536)] (mkH []) ?_
           exact hj6 (andI .i64 (fW .i64 x0_2) 7,4,65536)
          ·exact oQ 7
         ·refine oS 47 (fun hb=>?_) (fun hb=>?_)
          ·refine oLH 5 g34p21 [(0,.str a0),(1,.i a1),(6,.i (fW .i64 x0_2)),(44,.bool (decide (fW .i64 x0_2 < 248)))] (mkH []) ?_
           exact hj8 (decide (fW .i64 x0_2 < 248))
          ·refine oLH 5 g34p21 [(0,.str a0),(1,.i a1),(6,.i (fW .i64 x0_2)),(44,.bool false)] (mkH []) ?_
           exact hj8 false
       ·refine oS 38 (fun hb=>?_) (fun hb=>?_)
        ·refine oLH 5 g34p15 [(0,.str a0),(1,.i a1),(6,.i (fW .i64 x0_2)),(35,.bool (decide (fW .i64 x0_2 < 240)))] (mkH []) ?_
         exact hj7 (decide (fW .i64 x0_2 < 240))
        ·refine oLH 5 g34p15 [(0,.str a0),(1,.i a1),(6,.i (fW .i64 x0_2)),(35,.bool false)] (mkH []) ?_
         exact hj7 false
    ·refine oS 29 (fun hb=>?_) (fun hb=>?_)
     ·refine oLH 5 g34p11 [(0,.str a0),(1,.i a1),(6,.i (fW .i64 x0_2)),(26,.bool (decide (fW .i64 x0_2 < 224)))] (mkH []) ?_
      exact hj5 (decide (fW .i64 x0_2 < 224))
     ·refine oLH 5 g34p11 [(0,.str a0),(1,.i a1),(6,.i (fW .i64 x0_2)),(26,.bool false)] (mkH []) ?_
      exact hj5 false
 ·refine oS 12 (fun hb=>?_) (fun hb=>?_)
  ·refine oLH 6 g34p2 [(0,.str a0),(1,.i a1),(17,.bool true)] (mkH []) ?_
   exact hj4 true
  ·refine oLH 6 g34p2 [(0,.str a0),(1,.i a1),(17,.bool (decide ((a0.length:Int) ≤ a1)))] (mkH []) ?_
   exact hj4 (decide ((a0.length:Int) ≤ a1))
end
theorem qE9 {s:List Nat} {i b:Nat} {r:List Nat} (h:s.drop i = b :: r):nthS s (i:Int) = some (b:Int):=by
 have e:s[i]? = some b:=by
  have:=List.getElem?_drop (xs:=s) (i:=i) (j:=0)
  rw [h] at this
  simpa using this.symm
 unfold nthS
 rw [if_pos (by omega)]
 simp [e]
theorem qBg {s:List Nat} {i:Nat} (h:i < s.length):∃ b r,s.drop i = b :: r ∧ s.drop (i + 1) = r ∧ b ∈ s:=by
 refine ⟨s[i],s.drop (i + 1),?_,rfl,List.getElem_mem h⟩
 exact List.drop_eq_getElem_cons h
def byteOk (b:Nat):Bool:=decide (andI .u8 (b:Int) 63 = ((b % 64:Nat):Int)) && decide (andI .u8 (b:Int) 31 = ((b % 32:Nat):Int)) && decide (andI .u8 (b:Int) 15 = ((b % 16:Nat):Int)) && decide (andI .u8 (b:Int) 7 = ((b % 8:Nat):Int)) && (decide (andI .u8 (b:Int) 192 = 128) == decide (b / 64 = 2))
theorem qHq:((List.range 256).all byteOk) = true:=by decide +kernel
theorem qGb {b:Nat} (h:b < 256):andI .u8 (b:Int) 63 = ((b % 64:Nat):Int) ∧ andI .u8 (b:Int) 31 = ((b % 32:Nat):Int) ∧ andI .u8 (b:Int) 15 = ((b % 16:Nat):Int) ∧ andI .u8 (b:Int) 7 = ((b % 8:Nat):Int) ∧ (andI .u8 (b:Int) 192 = 128 ↔ b / 64 = 2):=by
 have w:=List.all_eq_true.1 qHq b (List.mem_range.2 h)
 simp only [byteOk,Bool.and_eq_true,decide_eq_true_eq,beq_iff_eq] at w
 obtain ⟨⟨⟨⟨w1,w2⟩,w3⟩,w4⟩,w5⟩:=w
 refine ⟨w1,w2,w3,w4,?_⟩
 constructor
 ·intro h
  rw [decide_eq_true h] at w5
  exact of_decide_eq_true w5.symm
 ·intro h
  rw [decide_eq_true h] at w5
  exact of_decide_eq_true w5
theorem qE0 (x:Nat) (n:Nat):shrC (x:Int) n = ((x / 2 ^ n:Nat):Int):=by
 unfold shrC
 rw [Int.fdiv_eq_ediv_of_nonneg _ (by exact Int.le_of_lt (Int.pow_pos (by decide)))]
 push_cast
 rfl
theorem fwn (x:Nat) (h:x ≤ 9223372036854775807):fW .i64 (x:Int) = x:=fw64 _ (by omega) (by omega)
theorem or_add (y m:Nat) (hy:y < 1125899906842624) (hm:m < 64):orI .i64 (shlC .i64 (y:Int) 6) (m:Int) = ((y * 64 + m:Nat):Int):=by
 have e1:shlC .i64 (y:Int) 6 = ((y * 64:Nat):Int):=by
  unfold shlC
  have:(y:Int) * 2 ^ 6 = ((y * 64:Nat):Int):=by push_cast; omega
  rw [this,fwn _ (by omega)]
 rw [e1]
 unfold orI
 have e2:∀ x:Nat,x < 2 ^ 63 → (BitVec.ofInt IntKind.i64.bits (x:Int)).toNat = x:=by
  intro x hx
  show (BitVec.ofInt 64 (x:Int)).toNat = x
  rw [BitVec.toNat_ofInt]
  omega
 rw [BitVec.toNat_or,e2 _ (by omega),e2 _ (by omega)]
 have e3:y * 64 ||| m = y * 64 + m:=by
  have h:=Nat.two_pow_add_eq_or_of_lt (i:=6) hm y
  rw [Nat.mul_comm y 64]
  exact h.symm
 rw [e3,fwn _ (by omega)]
def leadN (c:Nat):Nat × Nat:=if c < 128 then (1,c) else if c / 32 = 6 then (2,c % 32) else if c / 16 = 14 then (3,c % 16) else if c / 8 = 30 then (4,c % 8) else (0,0)
def moreN : Nat → Nat → List Nat → Option Nat
 | 0,c,_=>some c
 | _ + 1,_,[]=>none
 | n + 1,c,b :: r=>if b / 64 = 2 then moreN n (c * 64 + b % 64) r else none
def leastN (n:Nat):Nat:=if n = 2 then 128 else if n = 3 then 2048 else if n = 4 then 65536 else 0
def cpN (c:Nat):Bool:=decide (c ≤ 1114111) && !(decide (55296 ≤ c) && decide (c ≤ 57343))
def fitN (n : Nat) : Option Nat → Int × Int
 | none=>(-1,1)
 | some y=>if leastN n ≤ y ∧ cpN y = true then ((y:Int),(n:Int)) else (-1,1)
def dec : List Nat → Int × Int
 | []=>(0,0)
 | c :: r=>if (leadN c).1 = 0 then (-1,1) else fitN (leadN c).1 (moreN ((leadN c).1 - 1) (leadN c).2 r)
theorem qBm : ∀ (n c : Nat) (r : List Nat), r.length < n → moreN n c r = none
 | 0,c,r,h=>by omega
 | n + 1,c,[],h=>rfl
 | n + 1,c,b :: r,h=>by
  unfold moreN
  split
  ·exact qBm n _ r (by simp at h; omega)
  ·rfl
theorem lead_at {k c:Nat} (h:c < 256):g41 k (c:Int) = some (((leadN c).1:Int),((leadN c).2:Int)):=by
 obtain ⟨-,b31,b15,b7,-⟩:=qGb h
 unfold g41 leadN
 simp only [qE0,b31,b15,b7]
 have p5:(2:Nat) ^ 5 = 32:=rfl
 have p4:(2:Nat) ^ 4 = 16:=rfl
 have p3:(2:Nat) ^ 3 = 8:=rfl
 rw [p5,p4,p3]
 repeat' split
 all_goals first | (simp only [decide_eq_true_eq] at *; omega) | (simp only []; rw [fwn _ (by omega)]; try rfl) | rfl
theorem cp_at {k c:Nat}:g43 k (c:Int) = some (cpN c):=by
 unfold g43 cpN
 simp only [qE0]
 have p:(2:Nat) ^ 11 = 2048:=rfl
 rw [p]
 by_cases h1:c ≤ 1114111
 ·have e1:decide ((0:Int) ≤ (c:Int)) = true:=by simp
  have e2:decide ((c:Int) ≤ 1114111) = true:=by simp; omega
  have e3:decide (((c / 2048:Nat):Int) = 27) = (decide (55296 ≤ c) && decide (c ≤ 57343)):=by
   rw [Bool.eq_iff_iff]; simp; omega
  rw [e1,e2,e3,decide_eq_true h1]
  rfl
 ·have e2:decide ((c:Int) ≤ 1114111) = false:=by simp; omega
  simp [e2,h1]
theorem point_at {k c:Nat}:g37 k (c:Int) = some (cpN c):=by
 unfold g37 cpN
 by_cases h1:c ≤ 1114111
 ·by_cases h2:c < 55296
  ·have:¬ 55296 ≤ c:=by omega
   have e2:decide ((c:Int) ≤ 1114111) = true:=by simp; omega
   have e3:decide ((c:Int) < 55296) = true:=by simp; omega
   simp [e2,e3,h1,this]
  ·have:55296 ≤ c:=by omega
   have e2:decide ((c:Int) ≤ 1114111) = true:=by simp; omega
   have e3:decide ((c:Int) < 55296) = false:=by simp; omega
   simp [e2,e3,h1,this]
   rw [Bool.eq_iff_iff]; simp; omega
 ·have e2:decide ((c:Int) ≤ 1114111) = false:=by simp; omega
  simp [e2,h1]
theorem qGv {k n:Nat} (h:n ≤ 4):g42 k (n:Int) = some ((leastN n:Nat):Int):=by
 have:n = 0 ∨ n = 1 ∨ n = 2 ∨ n = 3 ∨ n = 4:=by omega
 obtain rfl | rfl | rfl | rfl | rfl:=this <;> rfl
theorem qGj {i:Nat} (h:i ≤ 3):64 ^ i ≤ 262144:=by
 have:i = 0 ∨ i = 1 ∨ i = 2 ∨ i = 3:=by omega
 obtain rfl | rfl | rfl | rfl:=this <;> decide
theorem qDl {y i b:Nat} (h:y < 64 ^ i):y * 64 + b % 64 < 64 ^ (i + 1):=by
 rw [Nat.pow_succ]
 have:=Nat.mod_lt b (by decide:0 < 64)
 generalize 64 ^ i = P at h ⊢
 omega
theorem qIx (k : Nat) (s : List Nat) (hs : ∀ b ∈ s, b < 256) (hl : s.length ≤ 140737488351232) (at' n q : Nat) (hn : n ≤ 4) (hat : at' + n ≤ s.length) : ∀ (d m i y : Nat), i + d = n → 1 ≤ i → y < 64 ^ i →
 qDr k s (at':Int) ((n:Int),(q:Int)) (d + 1 + m) (y:Int) (i:Int) = some (fitN n (moreN d y (s.drop (at' + i))))
 | 0,m,i,y,hi,h1,hy=>by
  rw [show 0 + 1 + m = m + 1 from by omega,qEc]
  have e1:decide ((i:Int) < (n:Int)) = false:=by simp; omega
  simp only [e1,qGv hn,cp_at,moreN,fitN,Option.bind_some,jn]
  by_cases h:leastN n ≤ y
  ·have e2:decide ((y:Int) < ((leastN n:Nat):Int)) = false:=by simp; omega
   cases hc:cpN y <;> simp [e2,h,hc]
  ·have e2:decide ((y:Int) < ((leastN n:Nat):Int)) = true:=by simp; omega
   simp [e2,h]
 | d + 1,m,i,y,hi,h1,hy=>by
  rw [show d + 1 + 1 + m = (d + 1 + m) + 1 from by omega,qEc]
  have e1:decide ((i:Int) < (n:Int)) = true:=by simp; omega
  obtain ⟨b,r,hb,hr,hm⟩:=qBg (s:=s) (i:=at' + i) (by omega)
  have e2:fW .i64 ((at':Int) + (i:Int)) = ((at' + i:Nat):Int):=by
   have:(at':Int) + (i:Int) = ((at' + i:Nat):Int):=by push_cast; rfl
   rw [this,fwn _ (by omega)]
  obtain ⟨b63,-,-,-,-⟩:=qGb (hs b hm)
  have hi4:i ≤ 3:=by omega
  have a1:i + 1 + d = n:=by rw [← hi]; exact Nat.add_right_comm i 1 d
  have a2:1 ≤ i + 1:=Nat.le_add_left 1 i
  have a3:y * 64 + b % 64 < 64 ^ (i + 1):=qDl hy
  have hp:64 ^ i ≤ 262144:=qGj hi4
  have e3:fW .i64 ((i:Int) + 1) = ((i + 1:Nat):Int):=by
   have:(i:Int) + 1 = ((i + 1:Nat):Int):=by push_cast; rfl
   rw [this,fwn _ (by omega)]
  have p6:(2:Nat) ^ 6 = 64:=rfl
  simp only [e1,e2,qE9 hb,Option.bind_some,qE0,p6,b63,if_true]
  by_cases h:b / 64 = 2
  ·have e4:decide (((b / 64:Nat):Int) = 2) = true:=by simp; omega
   have ih:=qIx k s hs hl at' n q hn hat d m (i + 1) (y * 64 + b % 64) a1 a2 a3
   rw [e4,fwn _ (by omega:b % 64 ≤ 9223372036854775807),or_add _ _ (by omega) (by omega),e3,ih,hb,show at' + (i + 1) = at' + i + 1 from by omega,hr]
   simp [moreN,h]
  ·have e4:decide (((b / 64:Nat):Int) = 2) = false:=by simp; omega
   rw [e4,hb]
   simp [moreN,h,fitN]
theorem qI4 (k : Nat) (s : List Nat) (hs : ∀ b ∈ s, b < 256) (hl : s.length ≤ 140737488351232) (at' n q : Nat) (hn : n ≤ 4) (hat : at' + n ≤ s.length) : ∀ (d m i y : Nat), i + d = n → 1 ≤ i → y < 64 ^ i →
 qD1 k s (at':Int) ((q:Int),(n:Int),((leastN n:Nat):Int)) (d + 1 + m) (y:Int) (i:Int) = some (fitN n (moreN d y (s.drop (at' + i))))
 | 0,m,i,y,hi,h1,hy=>by
  rw [show 0 + 1 + m = m + 1 from by omega,qGy]
  have e1:decide ((i:Int) < (n:Int)) = false:=by simp; omega
  simp only [e1,point_at,moreN,fitN,Option.bind_some,jn]
  by_cases h:leastN n ≤ y
  ·have e2:decide ((y:Int) < ((leastN n:Nat):Int)) = false:=by simp; omega
   cases hc:cpN y <;> simp [e2,h,hc]
  ·have e2:decide ((y:Int) < ((leastN n:Nat):Int)) = true:=by simp; omega
   simp [e2,h]
 | d + 1,m,i,y,hi,h1,hy=>by
  rw [show d + 1 + 1 + m = (d + 1 + m) + 1 from by omega,qGy]
  have e1:decide ((i:Int) < (n:Int)) = true:=by simp; omega
  obtain ⟨b,r,hb,hr,hm⟩:=qBg (s:=s) (i:=at' + i) (by omega)
  have e2:fW .i64 ((at':Int) + (i:Int)) = ((at' + i:Nat):Int):=by
   have:(at':Int) + (i:Int) = ((at' + i:Nat):Int):=by push_cast; rfl
   rw [this,fwn _ (by omega)]
  obtain ⟨b63,-,-,-,b192⟩:=qGb (hs b hm)
  have hi4:i ≤ 3:=by omega
  have a1:i + 1 + d = n:=by rw [← hi]; exact Nat.add_right_comm i 1 d
  have a2:1 ≤ i + 1:=Nat.le_add_left 1 i
  have a3:y * 64 + b % 64 < 64 ^ (i + 1):=qDl hy
  have hp:64 ^ i ≤ 262144:=qGj hi4
  have e3:fW .i64 ((i:Int) + 1) = ((i + 1:Nat):Int):=by
   have:(i:Int) + 1 = ((i + 1:Nat):Int):=by push_cast; rfl
   rw [this,fwn _ (by omega)]
  have e5:fW .i64 (fW .i64 ((y:Int) * 64) + ((b % 64:Nat):Int)) = ((y * 64 + b % 64:Nat):Int):=by
   have:(y:Int) * 64 = ((y * 64:Nat):Int):=by push_cast; rfl
   rw [this,fwn _ (by omega)]
   have:((y * 64:Nat):Int) + ((b % 64:Nat):Int) = ((y * 64 + b % 64:Nat):Int):=by push_cast; rfl
   rw [this,fwn _ (by omega)]
  simp only [e1,e2,qE9 hb,Option.bind_some,b63,if_true]
  by_cases h:b / 64 = 2
  ·have e4:decide (andI .u8 (b:Int) 192 = 128) = true:=decide_eq_true (b192.2 h)
   have ih:=qI4 k s hs hl at' n q hn hat d m (i + 1) (y * 64 + b % 64) a1 a2 a3
   rw [e4,fwn _ (by omega:b % 64 ≤ 9223372036854775807),e5,e3,ih,hb,show at' + (i + 1) = at' + i + 1 from by omega,hr]
   simp [moreN,h]
  ·have e4:decide (andI .u8 (b:Int) 192 = 128) = false:=decide_eq_false (fun w=>h (b192.1 w))
   rw [e4,hb]
   simp [moreN,h,fitN]
end Go.Proofs.Ytdaaodknplbmkaa.Am
set_option maxRecDepth 100000
set_option linter.unusedVariables false
namespace Go.Proofs.Ytdaaodknplbmkaa.Am
noncomputable section
open Go
def g33_l1B (k:Nat)  (a0:(List Nat)) (ih:Int → Option Bool):Int → Option Bool :=
 fun (y1_0:Int)=>if (decide (y1_0 < (a0.length:Int))) then ((g34 k a0 y1_0).bind fun x0_2=>if (decide (x0_2.1 < 0)) then (some false) else (ih (fW .i64 (y1_0 + x0_2.2)))) else (some true)
def g33_l1 (k:Nat)  (a0:(List Nat)) (n:Nat):Int → Option Bool:=lp (fun _=>none) (g33_l1B k a0) n
def g33 (k:Nat) (a0:(List Nat)):Option Bool :=
 g33_l1 k a0 k 0
def Xg39:Fx Int:=⟨Try.prog,cx,Try.f39,fun r => .i r,0,fun _=>H0,cxTi,cxOrd,fun _=>none,false⟩
def g39p3:Pt:=nav [0,0,0,0] (nav [0,0,0,0] (nav [0,0,0] (nav [0] (bodyAt Try.f39))))
def g39p5:Pt:=nav [0,0] (nav [0,0,0] g39p3)
def g39p6:Pt:=nav [1,0,0,0,0] g39p5
def qFs (k:Nat)  (a0:(List Nat)) (ih:Int → Int → Option Int):Int → Int → Option Int :=
 fun (y1_0:Int) (y1_1:Int)=>if (decide (y1_1 < (a0.length:Int))) then ((g40 k a0 y1_1).bind fun x0_2=>ih (fW .i64 (y1_0 + 1)) (fW .i64 (y1_1 + x0_2.2))) else (some y1_0)
def qDs (k:Nat)  (a0:(List Nat)) (n:Nat):Int → Int → Option Int:=lp (fun _ _=>none) (qFs k a0) n
theorem qGx (k:Nat)  (a0:(List Nat)) (n:Nat) (y1_0:Int) (y1_1:Int):qDs k a0 (n + 1) y1_0 y1_1 = (if (decide (y1_1 < (a0.length:Int))) then ((g40 k a0 y1_1).bind fun x0_2=>(qDs k a0 n) (fW .i64 (y1_0 + 1)) (fW .i64 (y1_1 + x0_2.2))) else (some y1_0)):=rfl
theorem qJc (k:Nat)   (a0:(List Nat))  : ∀ (n:Nat) (y1_0:Int) (y1_1:Int),Ok Xg39 g39p3 [(0,.str a0),(3,.i y1_0),(4,.i y1_1)] (mkH []) (qDs k a0 n y1_0 y1_1):=by
 intro n
 induction n with
 | zero=>intro y1_0 y1_1; exact ok_none
 | succ n ih =>
  intro y1_0 y1_1
  show Ok _ _ _ _ (qFs k a0 (qDs k a0 n) y1_0 y1_1)
  unfold qFs
  refine qAe (p':=nav [0] g39p3) (by kernel_rfl) ?_
  let E1:Env:=[(10,.bool (decide (y1_1 < (a0.length:Int)))),(9,.i (a0.length:Int)),(8,.str a0),(7,.i y1_1),(0,.str a0),(3,.i y1_0),(4,.i y1_1)]
  refine oH 8 g39p5 E1 (mkH []) ?_
  refine oS 10 (fun hb=>?_) (fun hb=>?_)
  ·refine oR 8 (atN 2 (ctl1 g39p6)) ((15,.i y1_1) :: (14,.str a0) :: (10,.bool true) :: E1) ?_
   refine oA (fun (x0_2:(Int × Int)) => .tuple [.i x0_2.1,.i x0_2.2]) (atN 3 (ctl1 g39p6)) 16 [.str a0,.i y1_1] (g40_ok k a0 y1_1) fun x0_2 hx0_2=>?_
   refine oL 6 (nav [0,0] g39p6) [(0,.str a0),(3,.i y1_0),(4,.i y1_1),(6,.i x0_2.2)] ?_
   refine oL 11 g39p3 [(0,.str a0),(3,.i (fW .i64 (y1_0 + 1))),(4,.i (fW .i64 (y1_1 + x0_2.2)))] ?_
   exact ih (fW .i64 (y1_0 + 1)) (fW .i64 (y1_1 + x0_2.2))
  ·exact oQ 8
def g39 (k:Nat) (a0:(List Nat)):Option Int :=
 qDs k a0 k 0 0
theorem g39_ok (k:Nat) (a0:(List Nat)) (r:Int) (h:g39 k a0 = some r):PureOk Try.prog 39 [.str a0] (.i r):=by
 refine qA2 Xg39 (fun _=>⟨rfl,rfl⟩) Try.func39 (by decide +kernel) (by kernel_rfl) (t:=g39 k a0) ?_ h
 unfold g39
 refine qA1 (eE:=[(0,.str a0)]) (by kernel_rfl) ?_
 refine oLH 15 g39p3 [(0,.str a0),(3,.i 0),(4,.i 0)] (mkH []) ?_
 exact (qJc k a0 k) 0 0
def Xg17:Fx Int:=⟨Try.prog,cx,Try.f17,fun r => .i r,0,fun _=>H0,cxTi,cxOrd,fun _=>none,false⟩
def g17p3:Pt:=nav [0,0,0,0] (nav [0,0,0,0] (nav [0,0,0] (nav [0] (bodyAt Try.f17))))
def g17p5:Pt:=nav [0,0] (nav [0,0,0] g17p3)
def g17p6:Pt:=nav [1,0,0,0,0] g17p5
def qG1 (k:Nat)  (a0:(List Nat)) (ih:Int → Int → Option Int):Int → Int → Option Int :=
 fun (y1_0:Int) (y1_1:Int)=>if (decide (y1_1 < (a0.length:Int))) then ((g34 k a0 y1_1).bind fun x0_2=>ih (fW .i64 (y1_0 + 1)) (fW .i64 (y1_1 + x0_2.2))) else (some y1_0)
def qDw (k:Nat)  (a0:(List Nat)) (n:Nat):Int → Int → Option Int:=lp (fun _ _=>none) (qG1 k a0) n
theorem qH6 (k:Nat)  (a0:(List Nat)) (n:Nat) (y1_0:Int) (y1_1:Int):qDw k a0 (n + 1) y1_0 y1_1 = (if (decide (y1_1 < (a0.length:Int))) then ((g34 k a0 y1_1).bind fun x0_2=>(qDw k a0 n) (fW .i64 (y1_0 + 1)) (fW .i64 (y1_1 + x0_2.2))) else (some y1_0)):=rfl
theorem qJm (k:Nat)   (a0:(List Nat))  : ∀ (n:Nat) (y1_0:Int) (y1_1:Int),Ok Xg17 g17p3 [(0,.str a0),(3,.i y1_0),(4,.i y1_1)] (mkH []) (qDw k a0 n y1_0 y1_1):=by
 intro n
 induction n with
 | zero=>intro y1_0 y1_1; exact ok_none
 | succ n ih =>
  intro y1_0 y1_1
  show Ok _ _ _ _ (qG1 k a0 (qDw k a0 n) y1_0 y1_1)
  unfold qG1
  refine qAe (p':=nav [0] g17p3) (by kernel_rfl) ?_
  let E1:Env:=[(10,.bool (decide (y1_1 < (a0.length:Int)))),(9,.i (a0.length:Int)),(8,.str a0),(7,.i y1_1),(0,.str a0),(3,.i y1_0),(4,.i y1_1)]
  refine oH 8 g17p5 E1 (mkH []) ?_
  refine oS 10 (fun hb=>?_) (fun hb=>?_)
  ·refine oR 8 (atN 2 (ctl1 g17p6)) ((15,.i y1_1) :: (14,.str a0) :: (10,.bool true) :: E1) ?_
   refine oA (fun (x0_2:(Int × Int)) => .tuple [.i x0_2.1,.i x0_2.2]) (atN 3 (ctl1 g17p6)) 16 [.str a0,.i y1_1] (g34_ok k a0 y1_1) fun x0_2 hx0_2=>?_
   refine oL 6 (nav [0,0] g17p6) [(0,.str a0),(3,.i y1_0),(4,.i y1_1),(6,.i x0_2.2)] ?_
   refine oL 11 g17p3 [(0,.str a0),(3,.i (fW .i64 (y1_0 + 1))),(4,.i (fW .i64 (y1_1 + x0_2.2)))] ?_
   exact ih (fW .i64 (y1_0 + 1)) (fW .i64 (y1_1 + x0_2.2))
  ·exact oQ 8
def g17 (k:Nat) (a0:(List Nat)):Option Int :=
 qDw k a0 k 0 0
theorem g17_ok (k:Nat) (a0:(List Nat)) (r:Int) (h:g17 k a0 = some r):PureOk Try.prog 17 [.str a0] (.i r):=by
 refine qA2 Xg17 (fun _=>⟨rfl,rfl⟩) Try.func17 (by decide +kernel) (by kernel_rfl) (t:=g17 k a0) ?_ h
 unfold g17
 refine qA1 (eE:=[(0,.str a0)]) (by kernel_rfl) ?_
 refine oLH 15 g17p3 [(0,.str a0),(3,.i 0),(4,.i 0)] (mkH []) ?_
 exact (qJm k a0 k) 0 0
end
theorem qJ1 (c:Nat):(leadN c).1 ≤ 4:=by
 unfold leadN; repeat' split
 all_goals simp
theorem lead_lt {c:Nat} (h:2 ≤ (leadN c).1):(leadN c).2 < 64 ^ 1:=by
 unfold leadN at *
 split at h
 ·simp at h
 ·rename_i h1
  rw [if_neg h1]
  repeat' split
  all_goals (simp only []; omega)
theorem next_at {k:Nat} (hk:6 ≤ k) {s:List Nat} (hs:∀ b ∈ s,b < 256) (hl:s.length ≤ 140737488351232) (i:Nat):g40 k s (i:Int) = some (dec (s.drop i)):=by
 unfold g40
 have e0:decide ((i:Int) < 0) = false:=decide_eq_false (by omega)
 by_cases hi:i < s.length
 ·have e1:decide ((s.length:Int) ≤ (i:Int)) = false:=by simp; omega
  obtain ⟨c,r,hc,hr,hm⟩:=qBg hi
  have hc':=hs c hm
  have hrl:r.length + i + 1 = s.length:=by rw [← hr,List.length_drop]; omega
  have e2:fW .i64 ((s.length:Int) - (i:Int)) = ((r.length + 1:Nat):Int):=by
   have:(s.length:Int) - (i:Int) = ((r.length + 1:Nat):Int):=by omega
   rw [this,fwn _ (by omega)]
  simp only [e0,e1,qE9 hc,lead_at hc',Option.bind_some,jn,e2,hc,dec]
  have l4:=qJ1 c
  by_cases h0:(leadN c).1 = 0
  ·simp [h0]
  ·have e3:decide ((((leadN c).1:Nat):Int) = 0) = false:=by simp; omega
   rw [if_neg h0,e3]
   by_cases h1:r.length + 1 < (leadN c).1
   ·have e4:decide (((r.length + 1:Nat):Int) < (((leadN c).1:Nat):Int)) = true:=by simp only [decide_eq_true_eq]; omega
    rw [e4,qBm _ _ _ (by omega)]
    rfl
   ·have e4:decide (((r.length + 1:Nat):Int) < (((leadN c).1:Nat):Int)) = false:=by simp only [decide_eq_false_iff_not]; omega
    rw [e4]
    simp only [if_false,Bool.false_eq_true]
    by_cases h2:(leadN c).1 = 1
    ·have w:=qIx k s hs hl i 1 (leadN c).2 (by decide) (by omega) 0 (k - 1) 1
     obtain ⟨k',rfl⟩:∃ k',k = k' + 1:=⟨k - 1,by omega⟩
     rw [h2,qEc]
     have e5:decide ((1:Int) < ((1:Nat):Int)) = false:=by decide
     simp only [e5,qGv (by decide:1 ≤ 4),cp_at,Option.bind_some,jn,moreN,fitN]
     have e6:decide ((((leadN c).2:Nat):Int) < ((leastN 1:Nat):Int)) = false:=by simp [leastN]
     rw [e6]
     have e7:leastN 1 ≤ (leadN c).2:=by simp [leastN]
     cases hcp:cpN (leadN c).2 <;> simp [e7,moreN,hcp]
    ·have w:=qIx k s hs hl i (leadN c).1 (leadN c).2 l4 (by omega) ((leadN c).1 - 1) (k - (leadN c).1) 1 (leadN c).2 (by omega) (by decide) (lead_lt (by omega))
     rw [show (leadN c).1 - 1 + 1 + (k - (leadN c).1) = k from by omega,hr] at w
     exact w
 ·have e1:decide ((s.length:Int) ≤ (i:Int)) = true:=by simp; omega
  rw [e0,e1,List.drop_eq_nil_of_le (by omega)]
  rfl
theorem rnext_at {k:Nat} (hk:6 ≤ k) {s:List Nat} (hs:∀ b ∈ s,b < 256) (hl:s.length ≤ 140737488351232) (i:Nat):g34 k s (i:Int) = some (dec (s.drop i)):=by
 unfold g34
 have e0:decide ((i:Int) < 0) = false:=decide_eq_false (by omega)
 by_cases hi:i < s.length
 ·have e1:decide ((s.length:Int) ≤ (i:Int)) = false:=by simp; omega
  obtain ⟨c,r,hc,hr,hm⟩:=qBg hi
  have hc':=hs c hm
  have hrl:r.length + i + 1 = s.length:=by rw [← hr,List.length_drop]; omega
  have e2:fW .i64 ((s.length:Int) - (i:Int)) = ((r.length + 1:Nat):Int):=by
   have:(s.length:Int) - (i:Int) = ((r.length + 1:Nat):Int):=by omega
   rw [this,fwn _ (by omega)]
  have a31:andI .i64 (c:Int) 31 = ((c % 32:Nat):Int):=by have:=andI64 (c:Int) 5 (by decide); exact this
  have a15:andI .i64 (c:Int) 15 = ((c % 16:Nat):Int):=by have:=andI64 (c:Int) 4 (by decide); exact this
  have a7:andI .i64 (c:Int) 7 = ((c % 8:Nat):Int):=by have:=andI64 (c:Int) 3 (by decide); exact this
  simp only [e0,e1,qE9 hc,Option.bind_some,jn,e2,hc,dec,fwn c (by omega),a31,a15,a7]
  have step : ∀ (n q : Nat), 2 ≤ n → n ≤ 4 → q < 64 ^ 1 → leadN c = (n, q) →
   (if decide (((r.length + 1:Nat):Int) < (n:Int)) then some ((-1:Int),(1:Int)) else qD1 k s (i:Int) ((q:Int),(n:Int),((leastN n:Nat):Int)) k (q:Int) 1) = some (fitN n (moreN (n - 1) q r)):=by
   intro n q hn hn4 hq hlead
   by_cases h1:r.length + 1 < n
   ·rw [if_pos (by simp only [decide_eq_true_eq]; omega),qBm _ _ _ (by omega)]
    rfl
   ·rw [if_neg (by simp only [decide_eq_true_eq]; omega)]
    have w:=qI4 k s hs hl i n q hn4 (by omega) (n - 1) (k - n) 1 q (by omega) (by decide) hq
    rw [show n - 1 + 1 + (k - n) = k from by omega,hr] at w
    exact w
  by_cases c1:c < 128
  ·have:leadN c = (1,c):=by unfold leadN; rw [if_pos c1]
   have hcp:cpN c = true:=by unfold cpN; simp; omega
   rw [this,decide_eq_true (show (c:Int) < 128 by omega)]
   simp [moreN,fitN,leastN,hcp]
  ·rw [decide_eq_false (show ¬ (c:Int) < 128 by omega)]
   simp only [Bool.false_eq_true,if_false]
   by_cases c2:192 ≤ c ∧ c < 224
   ·have hL:leadN c = (2,c % 32):=by unfold leadN; rw [if_neg c1,if_pos (by omega)]
    rw [decide_eq_true (show (192:Int) ≤ (c:Int) by omega),decide_eq_true (show (c:Int) < 224 by omega),hL]
    exact step 2 (c % 32) (by decide) (by decide) (by omega) hL
   ·have n1:¬ c / 32 = 6:=by omega
    by_cases c3:224 ≤ c ∧ c < 240
    ·have hL:leadN c = (3,c % 16):=by unfold leadN; rw [if_neg c1,if_neg n1,if_pos (by omega)]
     rw [decide_eq_true (show (192:Int) ≤ (c:Int) by omega),decide_eq_false (show ¬ (c:Int) < 224 by omega),decide_eq_true (show (224:Int) ≤ (c:Int) by omega),decide_eq_true (show (c:Int) < 240 by omega),hL]
     exact step 3 (c % 16) (by decide) (by decide) (by omega) hL
    ·have n2:¬ c / 16 = 14:=by omega
     by_cases c4:240 ≤ c ∧ c < 248
     ·have hL:leadN c = (4,c % 8):=by unfold leadN; rw [if_neg c1,if_neg n1,if_neg n2,if_pos (by omega)]
      rw [decide_eq_true (show (192:Int) ≤ (c:Int) by omega),decide_eq_false (show ¬ (c:Int) < 224 by omega),decide_eq_true (show (224:Int) ≤ (c:Int) by omega),decide_eq_false (show ¬ (c:Int) < 240 by omega),decide_eq_true (show (240:Int) ≤ (c:Int) by omega),decide_eq_true (show (c:Int) < 248 by omega),hL]
      exact step 4 (c % 8) (by decide) (by decide) (by omega) hL
     ·have n3:¬ c / 8 = 30:=by omega
      have hL:leadN c = (0,0):=by unfold leadN; rw [if_neg c1,if_neg n1,if_neg n2,if_neg n3]
      rw [hL]
      by_cases d1:192 ≤ c
      ·rw [decide_eq_true (show (192:Int) ≤ (c:Int) by omega),decide_eq_false (show ¬ (c:Int) < 224 by omega),decide_eq_true (show (224:Int) ≤ (c:Int) by omega),decide_eq_false (show ¬ (c:Int) < 240 by omega),decide_eq_true (show (240:Int) ≤ (c:Int) by omega),decide_eq_false (show ¬ (c:Int) < 248 by omega)]
       rfl
      ·rw [decide_eq_false (show ¬ (192:Int) ≤ (c:Int) by omega),decide_eq_false (show ¬ (224:Int) ≤ (c:Int) by omega),decide_eq_false (show ¬ (240:Int) ≤ (c:Int) by omega)]
       rfl
 ·have e1:decide ((s.length:Int) ≤ (i:Int)) = true:=by simp; omega
  rw [e0,e1,List.drop_eq_nil_of_le (by omega)]
  rfl
theorem qHc {s:List Nat} (h:s ≠ []):∃ n:Nat,(dec s).2 = (n:Int) ∧ 1 ≤ n ∧ n ≤ 4 ∧ n ≤ s.length ∧ ((dec s).1 < 0 → n = 1):=by
 cases s with
 | nil=>exact absurd rfl h
 | cons c r =>
  have hd:dec (c :: r) = if (leadN c).1 = 0 then (-1,1) else fitN (leadN c).1 (moreN ((leadN c).1 - 1) (leadN c).2 r):=rfl
  rw [hd]
  by_cases h0:(leadN c).1 = 0
  ·rw [if_pos h0]
   exact ⟨1,rfl,by decide,by decide,by simp,fun _=>rfl⟩
  ·rw [if_neg h0]
   cases hm:moreN ((leadN c).1 - 1) (leadN c).2 r with
   | none=>exact ⟨1,rfl,by decide,by decide,by simp,fun _=>rfl⟩
   | some y =>
    unfold fitN
    simp only []
    split
    ·have:=qJ1 c
     refine ⟨(leadN c).1,rfl,by omega,this,?_,?_⟩
     ·rcases Nat.lt_or_ge r.length ((leadN c).1 - 1) with hlt | hge
      ·rw [qBm _ _ _ hlt] at hm; cases hm
      ·simp; omega
     ·intro hneg
      simp at hneg
      omega
    ·exact ⟨1,rfl,by decide,by decide,by simp,fun _=>rfl⟩
def cpc : Nat → List Nat → Nat
 | _,[]=>0
 | 0,_=>0
 | n + 1,s=>cpc n (s.drop (dec s).2.toNat) + 1
theorem drop_lt {s:List Nat} {i:Nat} (h:i < s.length):s.drop i ≠ []:=by
 intro e
 have:=congrArg List.length e
 simp at this
 omega
theorem count_l {k:Nat} (hk:6 ≤ k) {s:List Nat} (hs:∀ b ∈ s,b < 256) (hl:s.length ≤ 140737488351232):∀ (d m i q:Nat),s.length ≤ i + d → i ≤ s.length → q ≤ i → qDs k s (d + 1 + m) (q:Int) (i:Int) = some ((q + cpc d (s.drop i):Nat):Int) ∧ qDw k s (d + 1 + m) (q:Int) (i:Int) = some ((q + cpc d (s.drop i):Nat):Int):=by
 intro d
 induction d with
 | zero =>
  intro m i q h1 h2 hq
  have e:s.drop i = []:=List.drop_eq_nil_of_le (by omega)
  rw [show 0 + 1 + m = m + 1 from by omega,qGx,qH6,e,decide_eq_false (show ¬ (i:Int) < (s.length:Int) by omega)]
  exact ⟨rfl,rfl⟩
 | succ d ih =>
  intro m i q h1 h2 hq
  rw [show d + 1 + 1 + m = (d + 1 + m) + 1 from by omega,qGx,qH6]
  by_cases hi:i < s.length
  ·rw [decide_eq_true (show (i:Int) < (s.length:Int) by omega)]
   obtain ⟨c,r,hc,-,-⟩:=qBg hi
   obtain ⟨n,n1,n2,n3,n4,n5⟩:=qHc (drop_lt hi)
   rw [List.length_drop] at n4
   have b1:s.length ≤ i + n + d:=by clear n1; omega
   have b2:i + n ≤ s.length:=by clear n1; omega
   have b3:q + 1 ≤ i + n:=by clear n1; omega
   simp only [next_at hk hs hl,rnext_at hk hs hl,Option.bind_some,if_true]
   have hv:cpc (d + 1) (s.drop i) = cpc d ((s.drop i).drop (dec (s.drop i)).2.toNat) + 1:=by
    rw [hc]; rfl
   rw [hv,n1,List.drop_drop]
   have e3:fW .i64 ((i:Int) + (n:Int)) = ((i + n:Nat):Int):=by
    have:(i:Int) + (n:Int) = ((i + n:Nat):Int):=by omega
    rw [this,fwn _ (by omega)]
   have e4:fW .i64 ((q:Int) + 1) = ((q + 1:Nat):Int):=by
    have:(q:Int) + 1 = ((q + 1:Nat):Int):=by omega
    rw [this,fwn _ (by omega)]
   rw [e3,e4]
   have:=ih m (i + n) (q + 1) b1 b2 b3
   rw [show q + 1 + cpc d (s.drop (i + n)) = q + (cpc d (s.drop (i + n)) + 1) from by omega] at this
   exact this
  ·have e:s.drop i = []:=List.drop_eq_nil_of_le (by omega)
   rw [e,decide_eq_false (show ¬ (i:Int) < (s.length:Int) by omega)]
   exact ⟨rfl,rfl⟩
theorem qEh {k:Nat} {s:List Nat} (hk:s.length + 6 ≤ k) (hs:∀ b ∈ s,b < 256) (hl:s.length ≤ 140737488351232):g39 k s = some ((cpc s.length s:Nat):Int) ∧ g17 k s = some ((cpc s.length s:Nat):Int):=by
 have h:=count_l (k:=k) (by omega) hs hl s.length (k - (s.length + 1)) 0 0 (by omega) (by omega) (by omega)
 rw [show s.length + 1 + (k - (s.length + 1)) = k from by omega,Nat.zero_add] at h
 exact h
theorem qJw (n:Nat):cpc n [] = 0:=by cases n <;> rfl
theorem cpc_cons {n:Nat} {s:List Nat} (h:s ≠ []):cpc (n + 1) s = cpc n (s.drop (dec s).2.toNat) + 1:=by
 cases s with
 | nil=>exact absurd rfl h
 | cons c r=>rfl
theorem cpc_le : ∀ (n : Nat) (s : List Nat), s.length ≤ n → cpc n s ≤ s.length
 | 0,s,h=>by
  have:s = []:=List.eq_nil_of_length_eq_zero (by omega)
  rw [this,qJw]; exact Nat.zero_le _
 | n + 1,s,h=>by
  by_cases hs:s = []
  ·rw [hs,qJw]; exact Nat.zero_le _
  ·obtain ⟨q,n1,n2,n3,n4,n5⟩:=qHc hs
   rw [cpc_cons hs,n1,Int.toNat_natCast]
   have:=cpc_le n (s.drop q) (by rw [List.length_drop]; clear n1; omega)
   rw [List.length_drop] at this
   clear n1; omega
structure Fns8 where
 g16:S25 → Option Bool
structure FnsOk8 (F:Fns8):Prop where
 g16_ok:∀ (a0:S25),∀ (r:Bool),F.g16 a0 = some r → PureOk Try.prog 16 [.agg [.i a0.f0,.i a0.f1,.str a0.f2,q26 a0.f3]] (.bool r)
end Go.Proofs.Ytdaaodknplbmkaa.Am
set_option maxRecDepth 100000
set_option linter.unusedVariables false
namespace Go.Proofs.Ytdaaodknplbmkaa.Am
noncomputable section
open Go
def Xg16:Fx Bool:=⟨Try.prog,cx,Try.f16,fun r => .bool r,0,fun _=>H0,cxTi,cxOrd,fun _=>none,false⟩
def g16p1:Pt:=nav [0,0,0,0] (nav [0] (bodyAt Try.f16))
def g16p2:Pt:=nav [0,0] g16p1
def g16p6:Pt:=nav [0,0,0,0] (nav [2,0,0,0] g16p2)
def g16p8:Pt:=nav [0,0] (nav [0,0,0] g16p6)
def g16p9:Pt:=nav [1,0,0,0,0] g16p8
def qG2 (k:Nat) (F:Fns8)  (a0:S25) (ih:Int → Option Bool):Int → Option Bool :=
 fun (y2_0:Int)=>if (decide (y2_0 < (a0.f3.n:Int))) then ((nthR d26 4 a0.f3.n a0.f3.cells y2_0).bind fun x0_3=>(F.g16 x0_3).bind fun x0_5=>if x0_5 then (some true) else (ih (fW .i64 (y2_0 + 1)))) else (some false)
def qDx (k:Nat) (F:Fns8)  (a0:S25) (n:Nat):Int → Option Bool:=lp (fun _=>none) (qG2 k F a0) n
theorem qH7 (k:Nat) (F:Fns8)  (a0:S25) (n:Nat) (y2_0:Int):qDx k F a0 (n + 1) y2_0 = (if (decide (y2_0 < (a0.f3.n:Int))) then ((nthR d26 4 a0.f3.n a0.f3.cells y2_0).bind fun x0_3=>(F.g16 x0_3).bind fun x0_5=>if x0_5 then (some true) else ((qDx k F a0 n) (fW .i64 (y2_0 + 1)))) else (some false)):=rfl
theorem qJn (k:Nat) (F:Fns8) (hF:FnsOk8 F)   (a0:S25)  : ∀ (n:Nat) (y2_0:Int),Ok Xg16 g16p6 [(1,.ptr 0 4 0),(3,.i y2_0)] (mkH [⟨[.i a0.f0,.i a0.f1,.str a0.f2,q26 a0.f3],0,false⟩]) (qDx k F a0 n y2_0):=by
 intro n
 induction n with
 | zero=>intro y2_0; exact ok_none
 | succ n ih =>
  intro y2_0
  show Ok _ _ _ _ (qG2 k F a0 (qDx k F a0 n) y2_0)
  unfold qG2
  refine qAe (p':=nav [0] g16p6) (by kernel_rfl) ?_
  let E2:Env:=[(21,.bool (decide (y2_0 < (a0.f3.n:Int)))),(20,.i (a0.f3.n:Int)),(19,q26 a0.f3),(18,.ptr 0 4 3),(17,.i y2_0),(1,.ptr 0 4 0),(3,.i y2_0)]
  refine oH 9 g16p8 E2 (mkH [⟨e26 a0,0,false⟩]) ?_
  refine oS 21 (fun hb=>?_) (fun hb=>?_)
  ·refine oR 9 (atN 3 (ctl1 g16p9)) ((26,.i y2_0) :: (25,q26 a0.f3) :: (24,.ptr 0 4 3) :: (21,.bool true) :: E2) ?_
   refine qAi (fun (x0_3:S25)=>(.vptr [.i x0_3.f0,.i x0_3.f1,.str x0_3.f2,q26 x0_3.f3],(mkH [⟨e26 a0,0,false⟩]))) (atN 4 (ctl1 g16p9)) (fun x0_3=>((27,.vptr [.i x0_3.f0,.i x0_3.f1,.str x0_3.f2,q26 x0_3.f3]) :: (26,.i y2_0) :: (25,q26 a0.f3) :: (24,.ptr 0 4 3) :: (21,.bool true) :: E2)) (fun _ hx=>vidxR (sz:=4) qBa hx (by kernel_rfl)) (fun _=>by kernel_rfl) (fun x0_3 hx0_3=>?_)
   refine oH 1 (atN 5 (ctl1 g16p9)) ((28,n26 x0_3) :: (27,.vptr [.i x0_3.f0,.i x0_3.f1,.str x0_3.f2,q26 x0_3.f3]) :: (26,.i y2_0) :: (25,q26 a0.f3) :: (24,.ptr 0 4 3) :: (21,.bool true) :: E2) (mkH [⟨e26 a0,0,false⟩]) ?_
   refine oA (fun (x0_5:Bool) => .bool x0_5) (atN 6 (ctl1 g16p9)) 29 [n26 x0_3] (hF.g16_ok x0_3) fun x0_5 hx0_5=>?_
   refine oL 1 (nav [0,0] g16p9) [(1,.ptr 0 4 0),(3,.i y2_0),(29,.bool x0_5)] ?_
   refine oS 29 (fun hb=>?_) (fun hb=>?_)
   ·exact oQ 6
   ·refine oL 7 g16p6 [(1,.ptr 0 4 0),(3,.i (fW .i64 (y2_0 + 1)))] ?_
    exact ih (fW .i64 (y2_0 + 1))
  ·exact oQ 7
def g16B (k:Nat) (F:Fns8) (a0:S25):Option Bool :=
 jn (fun (z1:Bool)=>if z1 then (some true) else (qDx k F a0 k 0)) (fun j1=>if (decide (a0.f0 = 4)) then (j1 true) else (if (decide (a0.f0 = 7)) then (j1 (decide (a0.f1 = 1))) else (j1 false)))
theorem g16B_ok (k:Nat) (F:Fns8) (hF:FnsOk8 F) (a0:S25) (r:Bool) (h:g16B k F a0 = some r):PureOk Try.prog 16 [.agg [.i a0.f0,.i a0.f1,.str a0.f2,q26 a0.f3]] (.bool r):=by
 refine qA2 Xg16 (fun _=>⟨rfl,rfl⟩) Try.func16 (by decide +kernel) (by kernel_rfl) (t:=g16B k F a0) ?_ h
 unfold g16B
 refine qA1 (eE:=[(0,.agg [.i a0.f0,.i a0.f1,.str a0.f2,q26 a0.f3])]) (by kernel_rfl) ?_
 let E1:Env:=[(7,.bool (decide (a0.f0 = 4))),(6,.bool (decide (a0.f0 = 4))),(5,.i a0.f0),(4,.ptr 0 4 0),(2,.bool false),(1,.ptr 0 4 0),(0,n26 a0)]
 refine oH 12 (atN 4 (ctl1 g16p1)) E1 (mkH [⟨e26 a0,0,false⟩]) ?_
 refine oJ g16p2 (fun (z1:Bool)=>[(1,.ptr 0 4 0),(16,.bool z1)]) (fun (z1:Bool)=>(mkH [⟨e26 a0,0,false⟩])) (fun z1=>?_) (fun j1 hj1=>?_)
 ·refine oS 16 (fun hb=>?_) (fun hb=>?_)
  ·exact oQ 6
  ·refine oLH 9 g16p6 [(1,.ptr 0 4 0),(3,.i 0)] (mkH [⟨e26 a0,0,false⟩]) ?_
   exact (qJn k F hF a0 k) 0
 ·refine oS 7 (fun hb=>?_) (fun hb=>?_)
  ·refine oLH 10 g16p2 [(1,.ptr 0 4 0),(16,.bool true)] (mkH [⟨e26 a0,0,false⟩]) ?_
   exact hj1 true
  ·refine oH 4 (atN 8 (ctl1 g16p1)) ((11,.bool (decide (a0.f0 = 7))) :: (10,.bool (decide (a0.f0 = 7))) :: (9,.i a0.f0) :: (8,.ptr 0 4 0) :: (7,.bool false) :: E1) (mkH [⟨e26 a0,0,false⟩]) ?_
   refine oS 11 (fun hb=>?_) (fun hb=>?_)
   ·refine oL 6 g16p2 [(1,.ptr 0 4 0),(16,.bool (decide (a0.f1 = 1)))] ?_
    exact hj1 (decide (a0.f1 = 1))
   ·refine oL 6 g16p2 [(1,.ptr 0 4 0),(16,.bool false)] ?_
    exact hj1 false
def par8 (n:Nat):Fns8:=Nat.rec (motive:=fun _=>Fns8) ⟨fun _=>none⟩ (fun k F=>⟨g16B k F⟩) n
theorem qId : ∀ k, FnsOk8 (par8 k)
 | 0=>⟨(fun _ _ h=>nomatch h)⟩
 | k + 1=>⟨g16B_ok k (par8 k) (qId k)⟩
def g16 (k:Nat) (a0:S25):Option Bool:=(par8 k).g16 a0
theorem g16_ok (k:Nat):∀ (a0:S25),∀ (r:Bool),g16 k a0 = some r → PureOk Try.prog 16 [.agg [.i a0.f0,.i a0.f1,.str a0.f2,q26 a0.f3]] (.bool r):=(qId k).g16_ok
end
structure Fns9 where
 g28:S25 → Option (List Nat)
structure FnsOk9 (F:Fns9):Prop where
 g28_ok:∀ (a0:S25),∀ (r:(List Nat)),F.g28 a0 = some r → PureOk Try.prog 28 [.agg [.i a0.f0,.i a0.f1,.str a0.f2,q26 a0.f3]] (.str r)
end Go.Proofs.Ytdaaodknplbmkaa.Am
set_option maxRecDepth 100000
set_option linter.unusedVariables false
namespace Go.Proofs.Ytdaaodknplbmkaa.Am
noncomputable section
open Go
def Xg28:Fx (List Nat):=⟨Try.prog,cx,Try.f28,fun r => .str r,0,fun _=>H0,cxTi,cxOrd,fun _=>none,false⟩
def g28p3:Pt:=nav [0,0] (nav [0,0,0,0] (nav [0,0,0,0] (nav [0] (bodyAt Try.f28))))
def g28p7:Pt:=nav [0,0] (nav [2,0] g28p3)
def g28p11:Pt:=nav [0,0,0,0] (nav [0,0,0,0] (nav [2,0,0] g28p7))
def g28p13:Pt:=nav [0,0] (nav [0,0,0] g28p11)
def g28p14:Pt:=nav [1,0,0,0] g28p13
def qFv (k:Nat) (F:Fns9)  (a0:S25) (ih:(List Nat) → Int → Option (List Nat)):(List Nat) → Int → Option (List Nat) :=
 fun (y1_0:(List Nat)) (y1_1:Int)=>if (decide (y1_1 < (a0.f3.n:Int))) then ((nthR d26 4 a0.f3.n a0.f3.cells y1_1).bind fun x0_4=>(F.g28 x0_4).bind fun x0_6=>(catS y1_0 x0_6).bind fun x0_7=>ih x0_7 (fW .i64 (y1_1 + 1))) else (some y1_0)
def qD3 (k:Nat) (F:Fns9)  (a0:S25) (n:Nat):(List Nat) → Int → Option (List Nat):=lp (fun _ _=>none) (qFv k F a0) n
theorem qH (k:Nat) (F:Fns9)  (a0:S25) (n:Nat) (y1_0:(List Nat)) (y1_1:Int):qD3 k F a0 (n + 1) y1_0 y1_1 = (if (decide (y1_1 < (a0.f3.n:Int))) then ((nthR d26 4 a0.f3.n a0.f3.cells y1_1).bind fun x0_4=>(F.g28 x0_4).bind fun x0_6=>(catS y1_0 x0_6).bind fun x0_7=>(qD3 k F a0 n) x0_7 (fW .i64 (y1_1 + 1))) else (some y1_0)):=rfl
theorem qJf (k:Nat) (F:Fns9) (hF:FnsOk9 F)   (a0:S25)  : ∀ (n:Nat) (y1_0:(List Nat)) (y1_1:Int),Ok Xg28 g28p11 [(1,.ptr 0 4 0),(3,.str y1_0),(4,.i y1_1)] (mkH [⟨[.i a0.f0,.i a0.f1,.str a0.f2,q26 a0.f3],0,false⟩]) (qD3 k F a0 n y1_0 y1_1):=by
 intro n
 induction n with
 | zero=>intro y1_0 y1_1; exact ok_none
 | succ n ih =>
  intro y1_0 y1_1
  show Ok _ _ _ _ (qFv k F a0 (qD3 k F a0 n) y1_0 y1_1)
  unfold qFv
  refine qAe (p':=nav [0] g28p11) (by kernel_rfl) ?_
  let E3:Env:=[(17,.bool (decide (y1_1 < (a0.f3.n:Int)))),(16,.i (a0.f3.n:Int)),(15,q26 a0.f3),(14,.ptr 0 4 3),(13,.i y1_1),(1,.ptr 0 4 0),(3,.str y1_0),(4,.i y1_1)]
  refine oH 9 g28p13 E3 (mkH [⟨e26 a0,0,false⟩]) ?_
  refine oS 17 (fun hb=>?_) (fun hb=>?_)
  ·let E4:Env:=((23,.i y1_1) :: (22,q26 a0.f3) :: (21,.ptr 0 4 3) :: (20,.str y1_0) :: (17,.bool true) :: E3)
   refine oR 9 (atN 4 (ctl1 g28p14)) E4 ?_
   refine qAi (fun (x0_4:S25)=>(.vptr [.i x0_4.f0,.i x0_4.f1,.str x0_4.f2,q26 x0_4.f3],(mkH [⟨e26 a0,0,false⟩]))) (atN 5 (ctl1 g28p14)) (fun x0_4=>((24,.vptr [.i x0_4.f0,.i x0_4.f1,.str x0_4.f2,q26 x0_4.f3]) :: E4)) (fun _ hx=>vidxR (sz:=4) qBa hx (by kernel_rfl)) (fun _=>by kernel_rfl) (fun x0_4 hx0_4=>?_)
   refine oH 1 (atN 6 (ctl1 g28p14)) ((25,n26 x0_4) :: (24,.vptr [.i x0_4.f0,.i x0_4.f1,.str x0_4.f2,q26 x0_4.f3]) :: E4) (mkH [⟨e26 a0,0,false⟩]) ?_
   refine oA (fun (x0_6:(List Nat)) => .str x0_6) (atN 7 (ctl1 g28p14)) 26 [n26 x0_4] (hF.g28_ok x0_4) fun x0_6 hx0_6=>?_
   refine oC (fun (x0_7:(List Nat))=>(.str x0_7,(mkH [⟨e26 a0,0,false⟩]))) (atN 8 (ctl1 g28p14)) 27 (catH (by kernel_rfl)) fun x0_7 hx0_7=>?_
   refine oLH 2 (nav [0,0] g28p14) [(1,.ptr 0 4 0),(3,.str x0_7),(4,.i y1_1)] (mkH [⟨e26 a0,0,false⟩]) ?_
   refine oL 5 g28p11 [(1,.ptr 0 4 0),(3,.str x0_7),(4,.i (fW .i64 (y1_1 + 1)))] ?_
   exact ih x0_7 (fW .i64 (y1_1 + 1))
  ·exact oQ 8
def g28B (k:Nat) (F:Fns9) (a0:S25):Option (List Nat) :=
 if (decide (a0.f0 = 1)) then (some a0.f2) else (if (decide (a0.f0 = 2)) then (some ([32]:List Nat)) else (qD3 k F a0 k ([]:List Nat) 0))
theorem g28B_ok (k:Nat) (F:Fns9) (hF:FnsOk9 F) (a0:S25) (r:(List Nat)) (h:g28B k F a0 = some r):PureOk Try.prog 28 [.agg [.i a0.f0,.i a0.f1,.str a0.f2,q26 a0.f3]] (.str r):=by
 refine qA2 Xg28 (fun _=>⟨rfl,rfl⟩) Try.func28 (by decide +kernel) (by kernel_rfl) (t:=g28B k F a0) ?_ h
 unfold g28B
 refine qA1 (eE:=[(0,.agg [.i a0.f0,.i a0.f1,.str a0.f2,q26 a0.f3])]) (by kernel_rfl) ?_
 refine oH 17 g28p3 [(7,.bool (decide (a0.f0 = 1))),(8,.bool (decide (a0.f0 = 1))),(6,.i a0.f0),(5,.ptr 0 4 0),(2,.str []),(1,.ptr 0 4 0),(0,n26 a0)] (mkH [⟨e26 a0,0,false⟩]) ?_
 refine oS 7 (fun hb=>?_) (fun hb=>?_)
 ·exact oQ 8
 ·refine oL 6 g28p7 [(1,.ptr 0 4 0),(11,.bool (decide (a0.f0 = 2)))] ?_
  refine oS 11 (fun hb=>?_) (fun hb=>?_)
  ·exact oQ 6
  ·refine oL 13 g28p11 [(1,.ptr 0 4 0),(3,.str []),(4,.i 0)] ?_
   exact (qJf k F hF a0 k) ([]:List Nat) 0
def par9 (n:Nat):Fns9:=Nat.rec (motive:=fun _=>Fns9) ⟨fun _=>none⟩ (fun k F=>⟨g28B k F⟩) n
theorem qIc : ∀ k, FnsOk9 (par9 k)
 | 0=>⟨(fun _ _ h=>nomatch h)⟩
 | k + 1=>⟨g28B_ok k (par9 k) (qIc k)⟩
def g28 (k:Nat) (a0:S25):Option (List Nat):=(par9 k).g28 a0
theorem g28_ok (k:Nat):∀ (a0:S25),∀ (r:(List Nat)),g28 k a0 = some r → PureOk Try.prog 28 [.agg [.i a0.f0,.i a0.f1,.str a0.f2,q26 a0.f3]] (.str r):=(qIc k).g28_ok
def Xg10:Fx ((List Nat) × Bool):=⟨Try.prog,cx,Try.f10,fun r => .tuple [.str r.1,.bool r.2],0,fun _=>H0,cxTi,cxOrd,fun _=>none,false⟩
def g10p1:Pt:=nav [0,0,0,0] (nav [0] (bodyAt Try.f10))
def g10p2:Pt:=nav [0,0] g10p1
def g10p4:Pt:=nav [2,0,0] g10p2
def g10 (k:Nat) (a0:S25):Option ((List Nat) × Bool) :=
 (g16 k a0).bind fun x0_1=>if x0_1 then (some (([]:List Nat),false)) else ((g28 k a0).bind fun x1_1=>some (x1_1,true))
theorem g10_ok (k:Nat) (a0:S25) (r:((List Nat) × Bool)) (h:g10 k a0 = some r):PureOk Try.prog 10 [.agg [.i a0.f0,.i a0.f1,.str a0.f2,q26 a0.f3]] (.tuple [.str r.1,.bool r.2]):=by
 refine qA2 Xg10 (fun _=>⟨rfl,rfl⟩) Try.func10 (by decide +kernel) (by kernel_rfl) (t:=g10 k a0) ?_ h
 unfold g10
 refine qA1 (eE:=[(0,.agg [.i a0.f0,.i a0.f1,.str a0.f2,q26 a0.f3])]) (by kernel_rfl) ?_
 let E1:Env:=[(4,n26 a0),(3,.bool false),(2,.str []),(1,.ptr 0 4 0),(0,n26 a0)]
 refine oH 10 (atN 1 (ctl1 g10p1)) E1 (mkH [⟨e26 a0,0,false⟩]) ?_
 refine oA (fun (x0_1:Bool) => .bool x0_1) (atN 2 (ctl1 g10p1)) 5 [n26 a0] (g16_ok k a0) fun x0_1 hx0_1=>?_
 refine oR 1 g10p2 ((5,.bool x0_1) :: E1) ?_
 refine oS 5 (fun hb=>?_) (fun hb=>?_)
 ·exact oQ 7
 ·refine oR 5 (atN 1 (ctl1 g10p4)) ((6,n26 a0) :: (5,.bool false) :: (5,.bool x0_1) :: E1) ?_
  refine oA (fun (x1_1:(List Nat)) => .str x1_1) (atN 2 (ctl1 g10p4)) 7 [n26 a0] (g28_ok k a0) fun x1_1 hx1_1=>?_
  exact oQ 4
def Xg36:Fx Int:=⟨Try.prog,cx,Try.f36,fun r => .i r,0,fun _=>H0,cxTi,cxOrd,fun _=>none,false⟩
def g36p1:Pt:=nav [0,0,0] (nav [0] (bodyAt Try.f36))
def g36 (k:Nat) (a0:(List Nat)):Option Int :=
 (g39 k a0).bind fun x0_1=>some x0_1
theorem g36_ok (k:Nat) (a0:(List Nat)) (r:Int) (h:g36 k a0 = some r):PureOk Try.prog 36 [.str a0] (.i r):=by
 refine qA2 Xg36 (fun _=>⟨rfl,rfl⟩) Try.func36 (by decide +kernel) (by kernel_rfl) (t:=g36 k a0) ?_ h
 unfold g36
 refine qA1 (eE:=[(0,.str a0)]) (by kernel_rfl) ?_
 refine oH 7 (atN 1 (ctl1 g36p1)) [(3,.str a0),(2,.i 0),(0,.str a0)] (mkH []) ?_
 refine oA (fun (x0_1:Int) => .i x0_1) (atN 2 (ctl1 g36p1)) 4 [.str a0] (g39_ok k a0) fun x0_1 hx0_1=>?_
 exact oQ 3
def Xg30:Fx Int:=⟨Try.prog,cx,Try.f30,fun r => .i r,0,fun _=>H0,cxTi,cxOrd,fun _=>none,false⟩
def g30p3:Pt:=nav [0,0] (nav [0,0,0,0] (nav [0,0,0,0] (nav [0] (bodyAt Try.f30))))
def g30p4:Pt:=nav [1,0] g30p3
def g30 (k:Nat) (a0:S25):Option Int :=
 if (decide (a0.f0 = 1)) then ((g36 k a0.f2).bind fun x0_2=>some x0_2) else (if (decide (a0.f0 = 2)) then (some (1:Int)) else (some (0:Int)))
theorem g30_ok (k:Nat) (a0:S25) (r:Int) (h:g30 k a0 = some r):PureOk Try.prog 30 [.agg [.i a0.f0,.i a0.f1,.str a0.f2,q26 a0.f3]] (.i r):=by
 refine qA2 Xg30 (fun _=>⟨rfl,rfl⟩) Try.func30 (by decide +kernel) (by kernel_rfl) (t:=g30 k a0) ?_ h
 unfold g30
 refine qA1 (eE:=[(0,.agg [.i a0.f0,.i a0.f1,.str a0.f2,q26 a0.f3])]) (by kernel_rfl) ?_
 let E1:Env:=[(5,.bool (decide (a0.f0 = 1))),(6,.bool (decide (a0.f0 = 1))),(4,.i a0.f0),(3,.ptr 0 4 0),(2,.i 0),(1,.ptr 0 4 0),(0,n26 a0)]
 refine oH 17 g30p3 E1 (mkH [⟨e26 a0,0,false⟩]) ?_
 refine oS 5 (fun hb=>?_) (fun hb=>?_)
 ·refine oR 5 (atN 2 (ctl1 g30p4)) ((8,.str a0.f2) :: (7,.ptr 0 4 2) :: (5,.bool true) :: E1) ?_
  refine oA (fun (x0_2:Int) => .i x0_2) (atN 3 (ctl1 g30p4)) 9 [.str a0.f2] (g36_ok k a0.f2) fun x0_2 hx0_2=>?_
  exact oQ 3
 ·refine oL 6 (nav [0,0] (nav [2,0] g30p3)) [(10,.bool (decide (a0.f0 = 2)))] ?_
  refine oS 10 (fun hb=>?_) (fun hb=>?_)
  ·exact oQ 6
  ·exact oQ 7
abbrev Ti5:Type:=S25 → Int → Option (Bool × Int)
def Xi5 (a0:S25) (a1:Int):Fx (Bool × Int):=⟨Try.prog,cx,Try.f29,fun r => .bool r.1,1,fun r=>(mkH [⟨[.i r.2],1,false⟩]),cxTi,cxOrd,fun _=>none,false⟩
def Pi5 (f:Ti5):Prop := ∀ a0 a1,PNh (Xi5 a0 a1) 29 [n26 a0,.ptr 0 1 0] (mkH [⟨[.i a1],1,false⟩]) (f a0 a1)
def i5p1:Pt:=nav [0,0,0] (nav [0] (bodyAt Try.f29))
def i5d0:DP:=⟨[],[(0,0,1),(0,0,0),(2,0,0),(7,0,0),(15,0,0)],5,thrown,[],H0⟩
def i5 (k:Nat) (a0:S25) (a1:Int):Option (Bool × Int) :=
 (g30 k a0).bind fun x0_2=>some (true,fW .i64 (a1 + x0_2))
theorem i5_all (k:Nat):∀ a0 a1 r,i5 k a0 a1 = some r → CallT Try.prog 29 [.agg [.i a0.f0,.i a0.f1,.str a0.f2,q26 a0.f3],.ptr 0 1 0] (mkH [⟨[.i a1],1,false⟩]) ((Xi5 a0 a1).thr r) ((Xi5 a0 a1).enc r) ((Xi5 a0 a1).fin r):=by
 intro a0 a1 r h
 refine qAg (Xi5 a0 a1) Try.func29 (by kernel_rfl) (by kernel_rfl) rfl (t:=i5 k a0 a1) ?_ h
 unfold i5
 refine qA1 (eE:=[(0,.agg [.i a0.f0,.i a0.f1,.str a0.f2,q26 a0.f3]),(1,.ptr 0 1 0)]) (by kernel_rfl) ?_
 refine oH 6 i5p1 [(3,.bool false),(2,.ptr 1 4 0),(0,n26 a0),(1,.ptr 0 1 0)] (mkH [⟨[.i a1],1,false⟩,⟨e26 a0,0,false⟩]) ?_
 refine qAj (fun x0_2 hx0_2=>?_)
 let E1:Env:=[(5,n26 a0),(4,.i a1),(3,.bool false),(2,.ptr 1 4 0),(0,n26 a0),(1,.ptr 0 1 0)]
 let Q1:Blk:=⟨[.i (fW .i64 (a1 + x0_2))],1,false⟩
 refine oD (H':=(mkH [Q1,⟨e26 a0,0,false⟩])) (nav [0] i5p1) ((7,.i (fW .i64 (a1 + x0_2))) :: (6,.i x0_2) :: E1) [(mkH [⟨[.i a1],1,false⟩,⟨e26 a0,0,false⟩]),(mkH [Q1,⟨e26 a0,0,false⟩])] i5d0 (oDr 2 2 E1 (qC0 (l':=(opsAt i5p1).toList.drop 3) (eE:=((6,.i x0_2) :: E1)) (hs:=[(mkH [⟨[.i a1],1,false⟩,⟨e26 a0,0,false⟩])]) (fi:=30) (args:=[n26 a0]) (v := .i x0_2) (by kernel_rfl) (by kernel_rfl) (by kernel_rfl) (g30_ok k a0 x0_2 hx0_2) (by kernel_rfl) (oDh 2 5 ((7,.i (fW .i64 (a1 + x0_2))) :: (6,.i x0_2) :: E1) (mkH [Q1,⟨e26 a0,0,false⟩]) [(mkH [Q1,⟨e26 a0,0,false⟩])] .nil))) ?_
 exact oQF 5 [Q1,⟨e26 a0,0,false⟩] 1 [] [.bool true] (.bool true) .ps trivial
theorem i5_ok (k:Nat):Pi5 (i5 k):=fun a0 a1=>fun x h=>i5_all k a0 a1 x h
abbrev Ti2:Type:=S25 → Int → Option (Bool × Int)
def Xi2 (a0:S25) (a1:Int):Fx (Bool × Int):=⟨Try.prog,cx,Try.f23,fun r => .bool r.1,1,fun r=>(mkH [⟨[.i r.2],1,false⟩]),cxTi,cxOrd,fun _=>none,false⟩
def Pi2 (f:Ti2):Prop := ∀ a0 a1,PNh (Xi2 a0 a1) 23 [n26 a0,.func 29 [] [.ptr 0 1 0]] (mkH [⟨[.i a1],1,false⟩]) (f a0 a1)
structure Fns1 where
 i2:Ti2
structure FnsOk1 (F:Fns1):Prop where
 i2_ok:Pi2 (F.i2)
def i2p1:Pt:=nav [0,0,0,0] (nav [0] (bodyAt Try.f23))
def i2p2:Pt:=nav [0,0] i2p1
def i2p6:Pt:=nav [0,0,0,0] (nav [2,0,0,0] i2p2)
def i2p8:Pt:=nav [0,0,0] (nav [0,0] i2p6)
def i2p9:Pt:=nav [1,0,0,0,0] i2p8
def i2p11:Pt:=nav [0,0,0] i2p9
def qJ6 (k:Nat) (F:Fns1)  (a0:S25) (ih:Int → Int → Option (Bool × Int)):Int → Int → Option (Bool × Int) :=
 fun (y3_0:Int) (y3_1:Int)=>if (decide (y3_0 < (a0.f3.n:Int))) then ((nthR d26 4 a0.f3.n a0.f3.cells y3_0).bind fun x1_0=>(F.i2 x1_0 y3_1).bind fun x2_2=>if (!x2_2.1) then (some (false,x2_2.2)) else (ih (fW .i64 (y3_0 + 1)) x2_2.2)) else (some (true,y3_1))
def qFn (k:Nat) (F:Fns1)  (a0:S25) (n:Nat):Int → Int → Option (Bool × Int):=lp (fun _ _=>none) (qJ6 k F a0) n
theorem qJ5 (k:Nat) (F:Fns1)  (a0:S25) (n:Nat) (y3_0:Int) (y3_1:Int):qFn k F a0 (n + 1) y3_0 y3_1 = (if (decide (y3_0 < (a0.f3.n:Int))) then ((nthR d26 4 a0.f3.n a0.f3.cells y3_0).bind fun x1_0=>(F.i2 x1_0 y3_1).bind fun x2_2=>if (!x2_2.1) then (some (false,x2_2.2)) else ((qFn k F a0 n) (fW .i64 (y3_0 + 1)) x2_2.2)) else (some (true,y3_1))):=rfl
theorem i2_l3_ok (k:Nat) (F:Fns1) (hF:FnsOk1 F) (a0:S25) (a1:Int)    : ∀ (n:Nat) (y3_0:Int) (y3_1:Int),Ok (Xi2 a0 a1) i2p6 [(1,.func 29 [] [.ptr 0 1 0]),(12,q26 a0.f3),(13,.i (a0.f3.n:Int)),(14,.i y3_0)] (mkH [⟨[.i y3_1],1,false⟩]) (qFn k F a0 n y3_0 y3_1):=by
 intro n
 induction n with
 | zero=>intro y3_0 y3_1; exact ok_none
 | succ n ih =>
  intro y3_0 y3_1
  show Ok _ _ _ _ (qJ6 k F a0 (qFn k F a0 n) y3_0 y3_1)
  unfold qJ6
  refine qAe (p':=nav [0] i2p6) (by kernel_rfl) ?_
  let E3:Env:=[(15,.bool (decide (y3_0 < (a0.f3.n:Int)))),(1,.func 29 [] [.ptr 0 1 0]),(12,q26 a0.f3),(13,.i (a0.f3.n:Int)),(14,.i y3_0)]
  let Q1:Blk:=⟨[.i y3_1],1,false⟩
  refine oH 5 i2p8 E3 (mkH [Q1]) ?_
  refine oS 15 (fun hb=>?_) (fun hb=>?_)
  ·refine oR 6 (atN 0 (ctl1 i2p9)) ((15,.bool true) :: E3) ?_
   refine qAi (fun (x1_0:S25)=>(.vptr [.i x1_0.f0,.i x1_0.f1,.str x1_0.f2,q26 x1_0.f3],(mkH [Q1]))) (atN 1 (ctl1 i2p9)) (fun x1_0=>((16,.vptr [.i x1_0.f0,.i x1_0.f1,.str x1_0.f2,q26 x1_0.f3]) :: (15,.bool true) :: E3)) (fun _ hx=>vidxR (sz:=4) qBa hx (by kernel_rfl)) (fun _=>by kernel_rfl) (fun x1_0 hx1_0=>?_)
   let E4:Env:=((19,.func 29 [] [.ptr 0 1 0]) :: (18,n26 x1_0) :: (6,.ptr 1 4 0) :: (17,n26 x1_0) :: (16,.vptr [.i x1_0.f0,.i x1_0.f1,.str x1_0.f2,q26 x1_0.f3]) :: (15,.bool true) :: E3)
   refine oH 8 (atN 2 (ctl1 i2p11)) E4 (mkH [Q1,⟨e26 x1_0,4,false⟩]) ?_
   refine oN (fun (x2_2:(Bool × Int)) => .bool x2_2.1) (fun x2_2=>[⟨[.i x2_2.2],1,false⟩,⟨e26 x1_0,4,false⟩]) (atN 3 (ctl1 i2p11)) 20 [0] [] [] [n26 x1_0,.func 29 [] [.ptr 0 1 0]] (hF.i2_ok x1_0 y3_1) trivial (fun _=>trivial) fun x2_2 hx2_2=>?_
   refine oR 2 (nav [0,0] i2p11) ((21,.bool (!x2_2.1)) :: (20,.bool x2_2.1) :: E4) ?_
   refine oK [1,12,13,14,21] [(1,.func 29 [] [.ptr 0 1 0]),(12,q26 a0.f3),(13,.i (a0.f3.n:Int)),(14,.i y3_0),(21,.bool (!x2_2.1))] ?_
   refine oS 21 (fun hb=>?_) (fun hb=>?_)
   ·exact oQF 6 [⟨[.i x2_2.2],1,false⟩,⟨e26 x1_0,4,false⟩] 1 [] [.bool false] (.bool false) .ps trivial
   ·refine oL 6 i2p6 [(1,.func 29 [] [.ptr 0 1 0]),(12,q26 a0.f3),(13,.i (a0.f3.n:Int)),(14,.i (fW .i64 (y3_0 + 1)))] ?_
    refine qB0 [⟨[.i x2_2.2],1,false⟩] [⟨e26 x1_0,4,false⟩] (by kernel_rfl) rfl (by kernel_rfl) ⟨(by kernel_rfl),trivial⟩ ?_
    exact ih (fW .i64 (y3_0 + 1)) x2_2.2
  ·exact oQF 7 [Q1] 1 [] [.bool true] (.bool true) .ps trivial
def i2B (k:Nat) (F:Fns1) (a0:S25) (a1:Int):Option (Bool × Int) :=
 (i5 k a0 a1).bind fun x0_2=>if (!x0_2.1) then (some (false,x0_2.2)) else (qFn k F a0 k 0 x0_2.2)
theorem i2B_all (k:Nat) (F:Fns1) (hF:FnsOk1 F):∀ a0 a1 r,i2B k F a0 a1 = some r → CallT Try.prog 23 [.agg [.i a0.f0,.i a0.f1,.str a0.f2,q26 a0.f3],.func 29 [] [.ptr 0 1 0]] (mkH [⟨[.i a1],1,false⟩]) ((Xi2 a0 a1).thr r) ((Xi2 a0 a1).enc r) ((Xi2 a0 a1).fin r):=by
 intro a0 a1 r h
 refine qAg (Xi2 a0 a1) Try.func23 (by kernel_rfl) (by kernel_rfl) rfl (t:=i2B k F a0 a1) ?_ h
 unfold i2B
 refine qA1 (eE:=[(0,.agg [.i a0.f0,.i a0.f1,.str a0.f2,q26 a0.f3]),(1,.func 29 [] [.ptr 0 1 0])]) (by kernel_rfl) ?_
 let E1:Env:=[(8,n26 a0),(7,.func 29 [] [.ptr 0 1 0]),(4,.bool false),(2,.ptr 1 4 0),(0,n26 a0),(1,.func 29 [] [.ptr 0 1 0])]
 refine oH 10 (atN 2 (ctl1 i2p1)) E1 (mkH [⟨[.i a1],1,false⟩,⟨e26 a0,0,false⟩]) ?_
 refine oN (fun (x0_2:(Bool × Int)) => .bool x0_2.1) (fun x0_2=>[⟨[.i x0_2.2],1,false⟩,⟨e26 a0,0,false⟩]) (atN 3 (ctl1 i2p1)) 9 [0] [] [] [n26 a0,.ptr 0 1 0] (i5_ok k a0 a1) trivial (fun _=>trivial) fun x0_2 hx0_2=>?_
 refine oR 2 i2p2 ((10,.bool (!x0_2.1)) :: (9,.bool x0_2.1) :: E1) ?_
 refine oS 10 (fun hb=>?_) (fun hb=>?_)
 ·exact oQF 6 [⟨[.i x0_2.2],1,false⟩,⟨e26 a0,0,false⟩] 1 [] [.bool false] (.bool false) .ps trivial
 ·refine oL 12 i2p6 [(1,.func 29 [] [.ptr 0 1 0]),(12,q26 a0.f3),(13,.i (a0.f3.n:Int)),(14,.i 0)] ?_
  refine qB0 [⟨[.i x0_2.2],1,false⟩] [⟨e26 a0,0,false⟩] (by kernel_rfl) rfl (by kernel_rfl) ⟨(by kernel_rfl),trivial⟩ ?_
  exact (i2_l3_ok k F hF a0 a1 k) 0 x0_2.2
theorem i2B_ok (k:Nat) (F:Fns1) (hF:FnsOk1 F):Pi2 (i2B k F):=fun a0 a1=>fun x h=>i2B_all k F hF a0 a1 x h
def par1 (n:Nat):Fns1:=Nat.rec (motive:=fun _=>Fns1) ⟨fun _ _=>none⟩ (fun k F=>⟨i2B k F⟩) n
theorem qIk : ∀ k, FnsOk1 (par1 k)
 | 0=>⟨(fun _ _ _ h=>nomatch h)⟩
 | k + 1=>⟨i2B_ok k (par1 k) (qIk k)⟩
def i2 (k:Nat):Ti2:=(par1 k).i2
theorem i2_ok (k:Nat):Pi2 (i2 k):=(qIk k).i2_ok
def Xg11:Fx Int:=⟨Try.prog,cx,Try.f11,fun r => .i r,0,fun _=>H0,cxTi,cxOrd,fun _=>none,false⟩
def g11p2:Pt:=nav [0,0,0] (nav [0,0,0] (nav [0] (bodyAt Try.f11)))
def g11 (k:Nat) (a0:S25):Option Int :=
 (i2 k a0 (0:Int)).bind fun x0_2=>some x0_2.2
theorem g11_ok (k:Nat) (a0:S25) (r:Int) (h:g11 k a0 = some r):PureOk Try.prog 11 [.agg [.i a0.f0,.i a0.f1,.str a0.f2,q26 a0.f3]] (.i r):=by
 refine qA2 Xg11 (fun _=>⟨rfl,rfl⟩) Try.func11 (by decide +kernel) (by kernel_rfl) (t:=g11 k a0) ?_ h
 unfold g11
 refine qA1 (eE:=[(0,.agg [.i a0.f0,.i a0.f1,.str a0.f2,q26 a0.f3])]) (by kernel_rfl) ?_
 refine oH 14 (atN 2 (ctl1 g11p2)) [(5,.func 29 [] [.ptr 1 1 0]),(4,n26 a0),(3,.ptr 1 1 0),(2,.i 0),(1,.ptr 0 4 0),(0,n26 a0)] (mkH [⟨e26 a0,0,false⟩,⟨[.i 0],1,false⟩]) ?_
 refine oN (fun (x0_2:(Bool × Int)) => .bool x0_2.1) (fun x0_2=>[⟨e26 a0,0,false⟩,⟨[.i x0_2.2],1,false⟩]) (atN 3 (ctl1 g11p2)) 6 [1] [] [] [n26 a0,.func 29 [] [.ptr 1 1 0]] (i2_ok k a0 (0:Int)) trivial (fun _=>trivial) fun x0_2 hx0_2=>?_
 exact oQ 7
abbrev Ti6:Type:=S25 → Int → Option (Bool × Int)
def Xi6 (a0:S25) (a1:Int):Fx (Bool × Int):=⟨Try.prog,cx,Try.f31,fun r => .bool r.1,1,fun r=>(mkH [⟨[.i r.2],1,false⟩]),cxTi,cxOrd,fun _=>none,false⟩
def Pi6 (f:Ti6):Prop := ∀ a0 a1,PNh (Xi6 a0 a1) 31 [n26 a0,.ptr 0 1 0] (mkH [⟨[.i a1],1,false⟩]) (f a0 a1)
def i6p1:Pt:=nav [0,0,0,0] (nav [0] (bodyAt Try.f31))
def i6p2:Pt:=nav [0,0] i6p1
def i6p4:Pt:=nav [2,0,0] i6p2
def i6d0:DP:=⟨[],[(0,0,1),(0,0,0),(2,0,0),(7,0,0),(15,0,0)],5,thrown,[],H0⟩
def i6 (k:Nat) (a0:S25) (a1:Int):Option (Bool × Int) :=
 jn (fun (z1:Bool)=>if z1 then (some (false,a1)) else ((g30 k a0).bind fun x0_2=>some (true,fW .i64 (a1 + x0_2)))) (fun j1=>if (decide (a0.f0 = 2)) then (j1 true) else (if (decide (a0.f0 = 3)) then (j1 true) else (j1 (decide (a0.f0 = 4)))))
theorem i6_all (k:Nat):∀ a0 a1 r,i6 k a0 a1 = some r → CallT Try.prog 31 [.agg [.i a0.f0,.i a0.f1,.str a0.f2,q26 a0.f3],.ptr 0 1 0] (mkH [⟨[.i a1],1,false⟩]) ((Xi6 a0 a1).thr r) ((Xi6 a0 a1).enc r) ((Xi6 a0 a1).fin r):=by
 intro a0 a1 r h
 refine qAg (Xi6 a0 a1) Try.func31 (by kernel_rfl) (by kernel_rfl) rfl (t:=i6 k a0 a1) ?_ h
 unfold i6
 refine qA1 (eE:=[(0,.agg [.i a0.f0,.i a0.f1,.str a0.f2,q26 a0.f3]),(1,.ptr 0 1 0)]) (by kernel_rfl) ?_
 let E1:Env:=[(7,.bool (decide (a0.f0 = 2))),(6,.bool (decide (a0.f0 = 2))),(5,.i a0.f0),(4,.ptr 1 4 0),(3,.bool false),(2,.ptr 1 4 0),(0,n26 a0),(1,.ptr 0 1 0)]
 refine oH 12 (atN 4 (ctl1 i6p1)) E1 (mkH [⟨[.i a1],1,false⟩,⟨e26 a0,0,false⟩]) ?_
 refine oJ i6p2 (fun (z1:Bool)=>[(1,.ptr 0 1 0),(2,.ptr 1 4 0),(16,.bool z1)]) (fun (z1:Bool)=>(mkH [⟨[.i a1],1,false⟩,⟨e26 a0,0,false⟩])) (fun z1=>?_) (fun j1 hj1=>?_)
 ·refine oS 16 (fun hb=>?_) (fun hb=>?_)
  ·exact oQF 6 [⟨[.i a1],1,false⟩,⟨e26 a0,0,false⟩] 1 [] [.bool false] (.bool false) .ps trivial
  ·refine oH 3 i6p4 [(16,.bool false),(1,.ptr 0 1 0),(2,.ptr 1 4 0),(16,.bool z1)] (mkH [⟨[.i a1],1,false⟩,⟨e26 a0,0,false⟩]) ?_
   refine qAj (fun x0_2 hx0_2=>?_)
   let E3:Env:=[(18,n26 a0),(17,.i a1),(16,.bool false),(1,.ptr 0 1 0),(2,.ptr 1 4 0),(16,.bool z1)]
   let Q1:Blk:=⟨[.i (fW .i64 (a1 + x0_2))],1,false⟩
   refine oD (H':=(mkH [Q1,⟨e26 a0,0,false⟩])) (nav [0] i6p4) ((20,.i (fW .i64 (a1 + x0_2))) :: (19,.i x0_2) :: E3) [(mkH [⟨[.i a1],1,false⟩,⟨e26 a0,0,false⟩]),(mkH [Q1,⟨e26 a0,0,false⟩])] i6d0 (oDr 2 2 E3 (qC0 (l':=(opsAt i6p4).toList.drop 3) (eE:=((19,.i x0_2) :: E3)) (hs:=[(mkH [⟨[.i a1],1,false⟩,⟨e26 a0,0,false⟩])]) (fi:=30) (args:=[n26 a0]) (v := .i x0_2) (by kernel_rfl) (by kernel_rfl) (by kernel_rfl) (g30_ok k a0 x0_2 hx0_2) (by kernel_rfl) (oDh 2 5 ((20,.i (fW .i64 (a1 + x0_2))) :: (19,.i x0_2) :: E3) (mkH [Q1,⟨e26 a0,0,false⟩]) [(mkH [Q1,⟨e26 a0,0,false⟩])] .nil))) ?_
   exact oQF 5 [Q1,⟨e26 a0,0,false⟩] 1 [] [.bool true] (.bool true) .ps trivial
 ·refine oS 7 (fun hb=>?_) (fun hb=>?_)
  ·refine oLH 10 i6p2 [(1,.ptr 0 1 0),(2,.ptr 1 4 0),(16,.bool true)] (mkH [⟨[.i a1],1,false⟩,⟨e26 a0,0,false⟩]) ?_
   exact hj1 true
  ·refine oH 5 (atN 9 (ctl1 i6p1)) ((12,.bool (decide (a0.f0 = 3))) :: (11,.bool (decide (a0.f0 = 3))) :: (10,.bool (decide (a0.f0 = 3))) :: (9,.i a0.f0) :: (8,.ptr 1 4 0) :: (7,.bool false) :: E1) (mkH [⟨[.i a1],1,false⟩,⟨e26 a0,0,false⟩]) ?_
   refine oS 12 (fun hb=>?_) (fun hb=>?_)
   ·refine oL 5 i6p2 [(1,.ptr 0 1 0),(2,.ptr 1 4 0),(16,.bool true)] ?_
    exact hj1 true
   ·refine oL 5 i6p2 [(1,.ptr 0 1 0),(2,.ptr 1 4 0),(16,.bool (decide (a0.f0 = 4)))] ?_
    exact hj1 (decide (a0.f0 = 4))
theorem i6_ok (k:Nat):Pi6 (i6 k):=fun a0 a1=>fun x h=>i6_all k a0 a1 x h
abbrev Ti3:Type:=S25 → Int → Option (Bool × Int)
def Xi3 (a0:S25) (a1:Int):Fx (Bool × Int):=⟨Try.prog,cx,Try.f23,fun r => .bool r.1,1,fun r=>(mkH [⟨[.i r.2],1,false⟩]),cxTi,cxOrd,fun _=>none,false⟩
def Pi3 (f:Ti3):Prop := ∀ a0 a1,PNh (Xi3 a0 a1) 23 [n26 a0,.func 31 [] [.ptr 0 1 0]] (mkH [⟨[.i a1],1,false⟩]) (f a0 a1)
structure Fns2 where
 i3:Ti3
structure FnsOk2 (F:Fns2):Prop where
 i3_ok:Pi3 (F.i3)
def i3p1:Pt:=nav [0,0,0,0] (nav [0] (bodyAt Try.f23))
def i3p2:Pt:=nav [0,0] i3p1
def i3p6:Pt:=nav [0,0,0,0] (nav [2,0,0,0] i3p2)
def i3p8:Pt:=nav [0,0,0] (nav [0,0] i3p6)
def i3p9:Pt:=nav [1,0,0,0,0] i3p8
def i3p11:Pt:=nav [0,0,0] i3p9
def qJ4 (k:Nat) (F:Fns2)  (a0:S25) (ih:Int → Int → Option (Bool × Int)):Int → Int → Option (Bool × Int) :=
 fun (y3_0:Int) (y3_1:Int)=>if (decide (y3_0 < (a0.f3.n:Int))) then ((nthR d26 4 a0.f3.n a0.f3.cells y3_0).bind fun x1_0=>(F.i3 x1_0 y3_1).bind fun x2_2=>if (!x2_2.1) then (some (false,x2_2.2)) else (ih (fW .i64 (y3_0 + 1)) x2_2.2)) else (some (true,y3_1))
def qFm (k:Nat) (F:Fns2)  (a0:S25) (n:Nat):Int → Int → Option (Bool × Int):=lp (fun _ _=>none) (qJ4 k F a0) n
theorem qJ3 (k:Nat) (F:Fns2)  (a0:S25) (n:Nat) (y3_0:Int) (y3_1:Int):qFm k F a0 (n + 1) y3_0 y3_1 = (if (decide (y3_0 < (a0.f3.n:Int))) then ((nthR d26 4 a0.f3.n a0.f3.cells y3_0).bind fun x1_0=>(F.i3 x1_0 y3_1).bind fun x2_2=>if (!x2_2.1) then (some (false,x2_2.2)) else ((qFm k F a0 n) (fW .i64 (y3_0 + 1)) x2_2.2)) else (some (true,y3_1))):=rfl
theorem i3_l3_ok (k:Nat) (F:Fns2) (hF:FnsOk2 F) (a0:S25) (a1:Int)    : ∀ (n:Nat) (y3_0:Int) (y3_1:Int),Ok (Xi3 a0 a1) i3p6 [(1,.func 31 [] [.ptr 0 1 0]),(12,q26 a0.f3),(13,.i (a0.f3.n:Int)),(14,.i y3_0)] (mkH [⟨[.i y3_1],1,false⟩]) (qFm k F a0 n y3_0 y3_1):=by
 intro n
 induction n with
 | zero=>intro y3_0 y3_1; exact ok_none
 | succ n ih =>
  intro y3_0 y3_1
  show Ok _ _ _ _ (qJ4 k F a0 (qFm k F a0 n) y3_0 y3_1)
  unfold qJ4
  refine qAe (p':=nav [0] i3p6) (by kernel_rfl) ?_
  let E3:Env:=[(15,.bool (decide (y3_0 < (a0.f3.n:Int)))),(1,.func 31 [] [.ptr 0 1 0]),(12,q26 a0.f3),(13,.i (a0.f3.n:Int)),(14,.i y3_0)]
  let Q1:Blk:=⟨[.i y3_1],1,false⟩
  refine oH 5 i3p8 E3 (mkH [Q1]) ?_
  refine oS 15 (fun hb=>?_) (fun hb=>?_)
  ·refine oR 6 (atN 0 (ctl1 i3p9)) ((15,.bool true) :: E3) ?_
   refine qAi (fun (x1_0:S25)=>(.vptr [.i x1_0.f0,.i x1_0.f1,.str x1_0.f2,q26 x1_0.f3],(mkH [Q1]))) (atN 1 (ctl1 i3p9)) (fun x1_0=>((16,.vptr [.i x1_0.f0,.i x1_0.f1,.str x1_0.f2,q26 x1_0.f3]) :: (15,.bool true) :: E3)) (fun _ hx=>vidxR (sz:=4) qBa hx (by kernel_rfl)) (fun _=>by kernel_rfl) (fun x1_0 hx1_0=>?_)
   let E4:Env:=((19,.func 31 [] [.ptr 0 1 0]) :: (18,n26 x1_0) :: (6,.ptr 1 4 0) :: (17,n26 x1_0) :: (16,.vptr [.i x1_0.f0,.i x1_0.f1,.str x1_0.f2,q26 x1_0.f3]) :: (15,.bool true) :: E3)
   refine oH 8 (atN 2 (ctl1 i3p11)) E4 (mkH [Q1,⟨e26 x1_0,4,false⟩]) ?_
   refine oN (fun (x2_2:(Bool × Int)) => .bool x2_2.1) (fun x2_2=>[⟨[.i x2_2.2],1,false⟩,⟨e26 x1_0,4,false⟩]) (atN 3 (ctl1 i3p11)) 20 [0] [] [] [n26 x1_0,.func 31 [] [.ptr 0 1 0]] (hF.i3_ok x1_0 y3_1) trivial (fun _=>trivial) fun x2_2 hx2_2=>?_
   refine oR 2 (nav [0,0] i3p11) ((21,.bool (!x2_2.1)) :: (20,.bool x2_2.1) :: E4) ?_
   refine oK [1,12,13,14,21] [(1,.func 31 [] [.ptr 0 1 0]),(12,q26 a0.f3),(13,.i (a0.f3.n:Int)),(14,.i y3_0),(21,.bool (!x2_2.1))] ?_
   refine oS 21 (fun hb=>?_) (fun hb=>?_)
   ·exact oQF 6 [⟨[.i x2_2.2],1,false⟩,⟨e26 x1_0,4,false⟩] 1 [] [.bool false] (.bool false) .ps trivial
   ·refine oL 6 i3p6 [(1,.func 31 [] [.ptr 0 1 0]),(12,q26 a0.f3),(13,.i (a0.f3.n:Int)),(14,.i (fW .i64 (y3_0 + 1)))] ?_
    refine qB0 [⟨[.i x2_2.2],1,false⟩] [⟨e26 x1_0,4,false⟩] (by kernel_rfl) rfl (by kernel_rfl) ⟨(by kernel_rfl),trivial⟩ ?_
    exact ih (fW .i64 (y3_0 + 1)) x2_2.2
  ·exact oQF 7 [Q1] 1 [] [.bool true] (.bool true) .ps trivial
def i3B (k:Nat) (F:Fns2) (a0:S25) (a1:Int):Option (Bool × Int) :=
 (i6 k a0 a1).bind fun x0_2=>if (!x0_2.1) then (some (false,x0_2.2)) else (qFm k F a0 k 0 x0_2.2)
theorem i3B_all (k:Nat) (F:Fns2) (hF:FnsOk2 F):∀ a0 a1 r,i3B k F a0 a1 = some r → CallT Try.prog 23 [.agg [.i a0.f0,.i a0.f1,.str a0.f2,q26 a0.f3],.func 31 [] [.ptr 0 1 0]] (mkH [⟨[.i a1],1,false⟩]) ((Xi3 a0 a1).thr r) ((Xi3 a0 a1).enc r) ((Xi3 a0 a1).fin r):=by
 intro a0 a1 r h
 refine qAg (Xi3 a0 a1) Try.func23 (by kernel_rfl) (by kernel_rfl) rfl (t:=i3B k F a0 a1) ?_ h
 unfold i3B
 refine qA1 (eE:=[(0,.agg [.i a0.f0,.i a0.f1,.str a0.f2,q26 a0.f3]),(1,.func 31 [] [.ptr 0 1 0])]) (by kernel_rfl) ?_
 let E1:Env:=[(8,n26 a0),(7,.func 31 [] [.ptr 0 1 0]),(4,.bool false),(2,.ptr 1 4 0),(0,n26 a0),(1,.func 31 [] [.ptr 0 1 0])]
 refine oH 10 (atN 2 (ctl1 i3p1)) E1 (mkH [⟨[.i a1],1,false⟩,⟨e26 a0,0,false⟩]) ?_
 refine oN (fun (x0_2:(Bool × Int)) => .bool x0_2.1) (fun x0_2=>[⟨[.i x0_2.2],1,false⟩,⟨e26 a0,0,false⟩]) (atN 3 (ctl1 i3p1)) 9 [0] [] [] [n26 a0,.ptr 0 1 0] (i6_ok k a0 a1) trivial (fun _=>trivial) fun x0_2 hx0_2=>?_
 refine oR 2 i3p2 ((10,.bool (!x0_2.1)) :: (9,.bool x0_2.1) :: E1) ?_
 refine oS 10 (fun hb=>?_) (fun hb=>?_)
 ·exact oQF 6 [⟨[.i x0_2.2],1,false⟩,⟨e26 a0,0,false⟩] 1 [] [.bool false] (.bool false) .ps trivial
 ·refine oL 12 i3p6 [(1,.func 31 [] [.ptr 0 1 0]),(12,q26 a0.f3),(13,.i (a0.f3.n:Int)),(14,.i 0)] ?_
  refine qB0 [⟨[.i x0_2.2],1,false⟩] [⟨e26 a0,0,false⟩] (by kernel_rfl) rfl (by kernel_rfl) ⟨(by kernel_rfl),trivial⟩ ?_
  exact (i3_l3_ok k F hF a0 a1 k) 0 x0_2.2
theorem i3B_ok (k:Nat) (F:Fns2) (hF:FnsOk2 F):Pi3 (i3B k F):=fun a0 a1=>fun x h=>i3B_all k F hF a0 a1 x h
def par2 (n:Nat):Fns2:=Nat.rec (motive:=fun _=>Fns2) ⟨fun _ _=>none⟩ (fun k F=>⟨i3B k F⟩) n
theorem qIj : ∀ k, FnsOk2 (par2 k)
 | 0=>⟨(fun _ _ _ h=>nomatch h)⟩
 | k + 1=>⟨i3B_ok k (par2 k) (qIj k)⟩
def i3 (k:Nat):Ti3:=(par2 k).i3
theorem i3_ok (k:Nat):Pi3 (i3 k):=(qIj k).i3_ok
def Xg13:Fx Int:=⟨Try.prog,cx,Try.f13,fun r => .i r,0,fun _=>H0,cxTi,cxOrd,fun _=>none,false⟩
def g13p3:Pt:=nav [0,0,0,0] (nav [0,0,0,0] (nav [0,0,0] (nav [0] (bodyAt Try.f13))))
def g13p5:Pt:=nav [0,0,0] (nav [0,0] g13p3)
def g13p6:Pt:=nav [1,0,0,0,0] g13p5
def g13p7:Pt:=nav [2,0,0] g13p5
def g13p8:Pt:=nav [0,0,0] g13p6
def qG3 (k:Nat)  (a0:(List S25)) (ih:Int → Int → Option Int):Int → Int → Option Int :=
 fun (y2_0:Int) (y2_1:Int)=>jn (fun (z3:Int)=>some z3) (fun j3=>if (decide (y2_0 < (a0.length:Int))) then ((nthL a0 y2_0).bind fun x0_0=>(i3 k x0_0 y2_1).bind fun x1_2=>if (!x1_2.1) then (j3 x1_2.2) else (ih (fW .i64 (y2_0 + 1)) x1_2.2)) else (j3 y2_1))
def qDy (k:Nat)  (a0:(List S25)) (n:Nat):Int → Int → Option Int:=lp (fun _ _=>none) (qG3 k a0) n
theorem qH8 (k:Nat)  (a0:(List S25)) (n:Nat) (y2_0:Int) (y2_1:Int):qDy k a0 (n + 1) y2_0 y2_1 = (jn (fun (z3:Int)=>some z3) (fun j3=>if (decide (y2_0 < (a0.length:Int))) then ((nthL a0 y2_0).bind fun x0_0=>(i3 k x0_0 y2_1).bind fun x1_2=>if (!x1_2.1) then (j3 x1_2.2) else ((qDy k a0 n) (fW .i64 (y2_0 + 1)) x1_2.2)) else (j3 y2_1))):=rfl
theorem qJo (k:Nat)   (a0:(List S25))  : ∀ (n:Nat) (y2_0:Int) (y2_1:Int),Ok Xg13 g13p3 [(3,.ptr 0 1 0),(6,w26 a0),(7,.i (a0.length:Int)),(8,.i y2_0)] (mkH [⟨[.i y2_1],1,false⟩]) (qDy k a0 n y2_0 y2_1):=by
 intro n
 induction n with
 | zero=>intro y2_0 y2_1; exact ok_none
 | succ n ih =>
  intro y2_0 y2_1
  show Ok _ _ _ _ (qG3 k a0 (qDy k a0 n) y2_0 y2_1)
  unfold qG3
  refine qAe (p':=nav [0] g13p3) (by kernel_rfl) ?_
  let E2:Env:=[(9,.bool (decide (y2_0 < (a0.length:Int)))),(3,.ptr 0 1 0),(6,w26 a0),(7,.i (a0.length:Int)),(8,.i y2_0)]
  let Q1:Blk:=⟨[.i y2_1],1,false⟩
  refine oH 5 g13p5 E2 (mkH [Q1]) ?_
  refine oJ g13p7 (fun (z3:Int)=>[(3,.ptr 0 1 0)]) (fun (z3:Int)=>(mkH [⟨[.i z3],1,false⟩])) (fun z3=>?_) (fun j3 hj3=>?_)
  ·exact oQ 5
  ·refine oS 9 (fun hb=>?_) (fun hb=>?_)
   ·refine oH 6 (atN 0 (ctl1 g13p6)) ((9,.bool true) :: E2) (mkH [Q1]) ?_
    refine oC (fun (x0_0:S25)=>(.vptr [.i x0_0.f0,.i x0_0.f1,.str x0_0.f2,q26 x0_0.f3],(mkH [Q1]))) (atN 1 (ctl1 g13p6)) 10 (vidxH (sz:=4) qBv (by kernel_rfl)) fun x0_0 hx0_0=>?_
    let E3:Env:=((13,.func 31 [] [.ptr 0 1 0]) :: (12,n26 x0_0) :: (5,.ptr 1 4 0) :: (11,n26 x0_0) :: (10,.vptr [.i x0_0.f0,.i x0_0.f1,.str x0_0.f2,q26 x0_0.f3]) :: (9,.bool true) :: E2)
    refine oH 8 (atN 2 (ctl1 g13p8)) E3 (mkH [Q1,⟨e26 x0_0,4,false⟩]) ?_
    refine oN (fun (x1_2:(Bool × Int)) => .bool x1_2.1) (fun x1_2=>[⟨[.i x1_2.2],1,false⟩,⟨e26 x0_0,4,false⟩]) (atN 3 (ctl1 g13p8)) 14 [0] [] [] [n26 x0_0,.func 31 [] [.ptr 0 1 0]] (i3_ok k x0_0 y2_1) trivial (fun _=>trivial) fun x1_2 hx1_2=>?_
    refine oR 2 (nav [0,0] g13p8) ((15,.bool (!x1_2.1)) :: (14,.bool x1_2.1) :: E3) ?_
    refine oK [3,6,7,8,15] [(3,.ptr 0 1 0),(6,w26 a0),(7,.i (a0.length:Int)),(8,.i y2_0),(15,.bool (!x1_2.1))] ?_
    refine oS 15 (fun hb=>?_) (fun hb=>?_)
    ·refine oL 3 g13p7 [(3,.ptr 0 1 0)] ?_
     refine qB0 [⟨[.i x1_2.2],1,false⟩] [⟨e26 x0_0,4,false⟩] (by kernel_rfl) rfl (by kernel_rfl) ⟨(by kernel_rfl),trivial⟩ ?_
     exact hj3 x1_2.2
    ·refine oL 6 g13p3 [(3,.ptr 0 1 0),(6,w26 a0),(7,.i (a0.length:Int)),(8,.i (fW .i64 (y2_0 + 1)))] ?_
     refine qB0 [⟨[.i x1_2.2],1,false⟩] [⟨e26 x0_0,4,false⟩] (by kernel_rfl) rfl (by kernel_rfl) ⟨(by kernel_rfl),trivial⟩ ?_
     exact ih (fW .i64 (y2_0 + 1)) x1_2.2
   ·refine oLH 3 g13p7 [(3,.ptr 0 1 0)] (mkH [Q1]) ?_
    exact hj3 y2_1
def g13 (k:Nat) (a0:(List S25)):Option Int :=
 qDy k a0 k 0 0
theorem g13_ok (k:Nat) (a0:(List S25)) (r:Int) (h:g13 k a0 = some r):PureOk Try.prog 13 [w26 a0] (.i r):=by
 refine qA2 Xg13 (fun _=>⟨rfl,rfl⟩) Try.func13 (by decide +kernel) (by kernel_rfl) (t:=g13 k a0) ?_ h
 unfold g13
 refine qA1 (eE:=[(0,w26 a0)]) (by kernel_rfl) ?_
 refine oLH 18 g13p3 [(3,.ptr 0 1 0),(6,w26 a0),(7,.i (a0.length:Int)),(8,.i 0)] (mkH [⟨[.i 0],1,false⟩]) ?_
 exact (qJo k a0 k) 0 0
end
structure Fns11 where
 g32:S25 → Option (Int × Bool)
structure FnsOk11 (F:Fns11):Prop where
 g32_ok:∀ (a0:S25),∀ (r:(Int × Bool)),F.g32 a0 = some r → PureOk Try.prog 32 [.agg [.i a0.f0,.i a0.f1,.str a0.f2,q26 a0.f3]] (.tuple [.i r.1,.bool r.2])
end Go.Proofs.Ytdaaodknplbmkaa.Am
set_option maxRecDepth 100000
set_option linter.unusedVariables false
namespace Go.Proofs.Ytdaaodknplbmkaa.Am
noncomputable section
open Go
def Xg32:Fx (Int × Bool):=⟨Try.prog,cx,Try.f32,fun r => .tuple [.i r.1,.bool r.2],0,fun _=>H0,cxTi,cxOrd,fun _=>none,false⟩
def g32p3:Pt:=nav [0,0] (nav [0,0,0,0] (nav [0,0,0,0] (nav [0] (bodyAt Try.f32))))
def g32p4:Pt:=nav [1,0] g32p3
def g32p7:Pt:=nav [0,0] (nav [2,0,0] g32p3)
def g32p8:Pt:=nav [1,0] g32p7
def g32p15:Pt:=nav [0,0,0,0] (nav [0,0,0,0] (nav [2,0,0] g32p8))
def g32p17:Pt:=nav [0,0] (nav [0,0,0] g32p15)
def g32p18:Pt:=nav [1,0,0,0,0] g32p17
def g32p20:Pt:=nav [0,0,0] g32p18
def qFu (k:Nat) (F:Fns11)  (a0:S25) (ih:Int → Int → Option (Int × Bool)):Int → Int → Option (Int × Bool) :=
 fun (y3_0:Int) (y3_1:Int)=>if (decide (y3_1 < (a0.f3.n:Int))) then ((nthR d26 4 a0.f3.n a0.f3.cells y3_1).bind fun x1_3=>(F.g32 x1_3).bind fun x1_5=>if x1_5.2 then (some (fW .i64 (y3_0 + x1_5.1),true)) else (ih (fW .i64 (y3_0 + x1_5.1)) (fW .i64 (y3_1 + 1)))) else (some (y3_0,false))
def qD2 (k:Nat) (F:Fns11)  (a0:S25) (n:Nat):Int → Int → Option (Int × Bool):=lp (fun _ _=>none) (qFu k F a0) n
theorem qGz (k:Nat) (F:Fns11)  (a0:S25) (n:Nat) (y3_0:Int) (y3_1:Int):qD2 k F a0 (n + 1) y3_0 y3_1 = (if (decide (y3_1 < (a0.f3.n:Int))) then ((nthR d26 4 a0.f3.n a0.f3.cells y3_1).bind fun x1_3=>(F.g32 x1_3).bind fun x1_5=>if x1_5.2 then (some (fW .i64 (y3_0 + x1_5.1),true)) else ((qD2 k F a0 n) (fW .i64 (y3_0 + x1_5.1)) (fW .i64 (y3_1 + 1)))) else (some (y3_0,false))):=rfl
end
end Go.Proofs.Ytdaaodknplbmkaa.Am
