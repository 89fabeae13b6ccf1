/- LawShapeClauses, part 2: whatever the input, the law comes out true: our texts, joined by a tool, without what the claim does not name. -/
import Derived.Test.YtjmmjhojbodbdaaPkShapeClauses1
import Derived.KernelRfl
import Derived.Recover
import Derived.Lib.OthersKept
import Derived.Laws.RangeString
import Derived.Test.YtjmmjhojbodbdaaProg
import Derived.Laws.Externs
set_option maxRecDepth 100000
set_option linter.unusedVariables false
set_option linter.unusedSimpArgs false
set_option linter.unusedVariables false
set_option linter.unusedSimpArgs false
namespace Go.Proofs.Ytjmmjhojbodbdaa.Am
open Go
theorem RW.still {m:Mp} {H:Hp} {w:World} {base:Nat} (h:RW m H w base):RW m.still H0 w w.heap.size where
 blk:=by intro r b v B N a hm; cases hm
 dom:=by intro r v B N hm; cases hm
 sep:=by intro r v B N r' v' N' hm; cases hm
 fresh:=by intro r _; rfl
 vle:=by intro r v B N hm; cases hm
 frz:=h.frz
 fsep:=by intro i B cells r v N b _ hm; cases hm
 ffin:=h.ffin
 base_le:=Nat.le_refl _
 low:=by show 0≤roots; unfold roots; omega
 tyk:=by intro C t h; cases h
def PureOk (P:Program) (f:Nat) (xs:List AV) (v:AV):Prop :=
 (∀ (m0:Mp) (w:World) (args:Array Value),(∀ r v,m0 r v=none)→VRs m0 xs args.toList→RW m0 H0 w w.heap.size→Calls P f args w λx w' => ∃ m' c,x = .returned c∧RW m' H0 w' w.heap.size∧St m0 w w.heap.size m' w'∧VR m' v c) ∧
 (∃ fn,P.funcs[f]? = some fn∧(fn.name == "runtime.NumGoroutine")=false∧fn.body.isSome=true)
theorem qEq {P:Program} {f:Nat} {xs:List AV} {v:AV} (h:PureOk P f xs v) (o:purs xs=true) (hv:pur v=true) (H:Hp):CallV P f xs H v H:=by
 refine ⟨?_,h.2⟩
 intro m w base args hargs rw
 refine Calls.mono (h.1 m.still w args (λ_ _=>rfl) (qBk _ _ o hargs) rw.still) ?_
 rintro x w' ⟨m',c,rfl,rw',st',hvc⟩
 have hnone:∀ r v,m' r v=none:=by
  intro r v
  cases e:m' r v with
  | none=>rfl
  | some p =>
   obtain ⟨b,a,_⟩:=rw'.dom r v p.1 p.2 e
   cases a
 have hsame:∀ B,B < w.heap.size→w'.heap[B]? = w.heap[B]? := λB hB=>st'.same B hB (λ_ _ _ hm=>by cases hm)
 have hsub:Sub m ⟨m.map,m'.froz,m.tys⟩:=⟨λ_ _ _ h=>h,st'.sub.2,λ_ _ h=>h⟩
 refine ⟨⟨m.map,m'.froz,m.tys⟩,c,rfl,⟨?_,?_,rw.sep,rw.fresh,rw.vle,rw'.frz,?_,rw'.ffin,Nat.le_trans rw.base_le st'.size,rw.low,rw.tyk_same hsame⟩,⟨hsub,λr v B N e => .inl ⟨v,N,e⟩,?_,st'.size,st'.os,st'.tape,st'.output,λB hB _=>hsame B hB⟩,?_⟩
 ·intro r b v B N a hm g q
  obtain ⟨cs,ty,fr,j,k,l,n,u⟩:=rw.blk r b v B N a hm g q
  obtain ⟨_,_,_,hlt,_⟩:=rw.dom r v B N hm
  exact ⟨cs,ty,fr,by rw [hsame B hlt]; exact j,k,l,n,VRs.mono hsub _ _ u⟩
 ·intro r v B N hm
  obtain ⟨b,j,k,l,n⟩:=rw.dom r v B N hm
  exact ⟨b,j,k,Nat.lt_of_lt_of_le l st'.size,n⟩
 ·intro i B cells r v N b hi hm a
  rcases st'.fext i B cells hi with hi' | ⟨hB,_⟩
  ·exact rw.fsep i B cells r v N b hi' hm a
  ·obtain ⟨_,_,_,hlt,_⟩:=rw.dom r v B N hm
   omega
 ·intro i B cells e
  rcases st'.fext i B cells e with hi' | ⟨hB,_⟩
  ·exact .inl hi'
  ·exact .inr ⟨Nat.le_trans rw.base_le hB,.inr hB⟩
 ·have g:=qHr v c hv hvc
  exact VR.mono (m:=m'.still) (m':=⟨m.map,m'.froz,m.tys⟩) ⟨λ_ _ _ h=>(by cases h),λ_ _ h=>h,λ_ _ h=>(by cases h)⟩ v c g
inductive Fr where
 | seq (b:Code) | block (id:Nat) | loop (b:Code) | scope (b:Code)
inductive Pt where
 | code (c:Code) (K:List Fr)
 | ops (o:Array Oper) (n:Nat) (K:List Fr)
 | loop (b:Code) (K:List Fr)
 | fin
def FinK (P : Program) (Q : Exit → Act → World → Prop) : List Fr → Exit → Act → World → Prop
 | []=>Q
 | .seq b::K=>Exit.then (b.wp P (FinK P Q K)) (FinK P Q K)
 | .block id::K=>Exit.inBlock id (FinK P Q K)
 | .loop b::K=>Exit.then (LoopWp P b (FinK P Q K)) (FinK P Q K)
 | .scope b::K=>λe a w=>match e with | .goto l => ∃ rest,findLabel b l=some rest∧ScopeWp P b rest (FinK P Q K) a w | e=>FinK P Q K e a w
def At (P : Program) (Q : Exit → Act → World → Prop) : Pt → Act → World → Prop
 | .code c K,a,w=>c.wp P (FinK P Q K) a w
 | .ops o n K,a,w=>wpOps P o (FinK P Q K) (List.range' n (o.size - n)) a w
 | .loop b K,a,w=>LoopWp P b (FinK P Q K) a w
 | .fin,a,w=>Q .normal a w∧Q .ret a w
def resume : List Fr → Pt
 | [] => .fin
 | .seq b::K => .code b K
 | .block _::K=>resume K
 | .loop b::K => .loop b K
 | .scope _::K=>resume K
theorem qAr {P : Program} {Q : Exit → Act → World → Prop} {a : Act} {w : World} : ∀ {K : List Fr}, At P Q (resume K) a w → FinK P Q K .normal a w
 | [],h=>h.1
 | .seq b::K,h=>h
 | .block id::K,h=>by show Exit.inBlock id (FinK P Q K) .normal a w; exact qAr (K:=K) h
 | .loop b::K,h=>h
 | .scope b::K,h=>qAr (K:=K) h
def exitK (id : Nat) : List Fr → Option Pt
 | []=>none
 | .block j::K=>if id=j then some (resume K) else exitK id K
 | .seq _::K=>exitK id K
 | .loop _::K=>exitK id K
 | .scope _::K=>exitK id K
theorem qCg {P : Program} {Q : Exit → Act → World → Prop} {a : Act} {w : World} {id : Nat} {p : Pt} : ∀ {K : List Fr}, exitK id K = some p → At P Q p a w → FinK P Q K (.exit id) a w
 | [],h,_=>by cases h
 | .seq b::K,h,k=>qCg (K:=K) h k
 | .loop b::K,h,k=>qCg (K:=K) h k
 | .scope b::K,h,k=>qCg (K:=K) h k
 | .block j::K,h,k=>by
  simp only [exitK] at h
  show Exit.inBlock j (FinK P Q K) (.exit id) a w
  simp only [Exit.inBlock]
  split at h
  ·rename_i e
   cases h
   rw [if_pos e]
   exact qAr k
  ·rename_i e
   rw [if_neg e]
   exact qCg h k
def gotoK (l : Nat) : List Fr → Option Pt
 | []=>none
 | .scope b::K=>match findLabel b l with | some rest=>some (.code rest (.scope b::K)) | none=>none
 | .block _::K=>gotoK l K
 | .seq _::K=>gotoK l K
 | .loop _::K=>gotoK l K
theorem qEd {P:Program} {Q:Exit→Act→World→Prop} {a:Act} {w:World} {b c:Code} {K:List Fr} (h:c.wp P (FinK P Q (.scope b::K)) a w):ScopeWp P b c (FinK P Q K) a w :=
 ScopeWp.of (wp_mono h λe g j he=>by cases e <;> exact he)
theorem qCz {P : Program} {Q : Exit → Act → World → Prop} {a : Act} {w : World} {l : Nat} {p : Pt} : ∀ {K : List Fr}, gotoK l K = some p → At P Q p a w → FinK P Q K (.goto l) a w
 | [],h,_=>by cases h
 | .seq b::K,h,k=>qCz (K:=K) h k
 | .loop b::K,h,k=>qCz (K:=K) h k
 | .block b::K,h,k=>qCz (K:=K) h k
 | .scope b::K,h,k=>by
  simp only [gotoK] at h
  split at h
  ·rename_i rest hf
   cases h
   exact ⟨rest,hf,qEd k⟩
  ·cases h
theorem qD8 {P : Program} {Q : Exit → Act → World → Prop} {a : Act} {w : World} (h : Q .ret a w) : ∀ (K : List Fr), FinK P Q K .ret a w
 | []=>h
 | .seq b::K=>qD8 h K
 | .loop b::K=>qD8 h K
 | .block b::K=>qD8 h K
 | .scope b::K=>qD8 h K
inductive FzG (n0:Nat) (H:Hp):List AV→List AV→Prop where
 | pures {xs}:purs xs=true→FzG n0 H xs xs
 | cons {x xs ys}:pur x=true→FzG n0 H xs ys→FzG n0 H (x::xs) (x::ys)
 | nil {sz xs ys}:FzG n0 H xs ys→FzG n0 H (.nils::xs) (.vec 0 sz []::ys)
 | own {r len sz cells cells' minv xs ys}:Nat.ble n0 r=true→H.t.get r=some ⟨cells,minv,false⟩→cells.length=len * sz→minv≤len * sz→FzG n0 H cells cells'→FzG n0 H xs ys→FzG n0 H (.own r len sz::xs) (.vec len sz cells'::ys)
 | slice {r len sz v cells cells' minv xs ys}:Nat.ble n0 r=true→H.t.get r=some ⟨cells,minv,false⟩→cells.length=len * sz→v=len * sz→minv≤len * sz→FzG n0 H cells cells'→FzG n0 H xs ys→FzG n0 H (.slice r v 0 len sz::xs) (.vec len sz cells'::ys)
 | agg {xs ys zs us}:FzG n0 H xs ys→FzG n0 H zs us→FzG n0 H (.agg xs::zs) (.agg ys::us)
 | tuple {xs ys zs us}:FzG n0 H xs ys→FzG n0 H zs us→FzG n0 H (.tuple xs::zs) (.tuple ys::us)
structure FOk (n0:Nat) (m:Mp) (F:Nat→Option (Nat×List AV)) (w:World) (base:Nat):Prop where
 ok:∀ i B cells,F i=some (B,cells)→∃ cs ty fr,w.heap[B]? = some (.cells cs ty fr)∧cells.length≤cs.size∧VRs ⟨λ_ _=>none,F,λ_=>none⟩ cells (cs.toList.take cells.length)
 fin:∃ n,∀ i,n≤i→F i=none
 new:∀ i B cells,F i=some (B,cells)→m.froz i=some (B,cells)∨base≤B∧∃ r v N,n0≤r∧m r v=some (B,N)
 sub:∀ i p,m.froz i=some p→F i=some p
theorem FzG.length {n0:Nat} {H:Hp} {xs ys:List AV} (h:FzG n0 H xs ys):ys.length=xs.length:=by
 induction h <;> simp_all
theorem qK1 {n0 : Nat} {m : Mp} {F : Nat → Option (Nat × List AV)} {w : World} {base B : Nat} {cells : List AV} {cs : Array Value} {ty : TypeId} {fr : Nat × Nat} (h : FOk n0 m F w base) (hB : base ≤ B) (hmB : ∃ r v N, n0 ≤ r ∧ m r v = some (B, N)) (hw : w.heap[B]? = some (.cells cs ty fr)) (hl : cells.length ≤ cs.size) (hv : VRs ⟨λ_ _ => none, F, λ_ => none⟩ cells (cs.toList.take cells.length)) :
 ∃ F' i,FOk n0 m F' w base∧F' i=some (B,cells)∧(∀ i p,F i=some p→F' i=some p):=by
 obtain ⟨n,g⟩:=h.fin
 have hsub:∀ i p,F i=some p→(λi=>if i=n then some (B,cells) else F i) i=some p:=by
  intro i p hi
  simp only
  rw [if_neg]
  ·exact hi
  ·rintro rfl; rw [g _ (Nat.le_refl _)] at hi; cases hi
 have hS:Sub ⟨λ_ _=>none,F,λ_=>none⟩ ⟨λ_ _=>none,λi=>if i=n then some (B,cells) else F i,λ_=>none⟩:=⟨λ_ _ _ e=>(by cases e),hsub,λ_ _ e=>(by cases e)⟩
 refine ⟨λi=>if i=n then some (B,cells) else F i,n,⟨?_,⟨n+1,λi hi=>?_⟩,?_,λi p hi=>hsub i p (h.sub i p hi)⟩,by simp,hsub⟩
 ·intro i B' cells' hi
  by_cases e:i=n
  ·simp only [e,if_true] at hi
   cases hi
   exact ⟨cs,ty,fr,hw,hl,VRs.mono hS _ _ hv⟩
  ·simp only [e,if_false] at hi
   obtain ⟨a,b,c,j,k,l⟩:=h.ok i B' cells' hi
   exact ⟨a,b,c,j,k,VRs.mono hS _ _ l⟩
 ·have hne:¬ i=n:=by omega
  show (if i=n then some (B,cells) else F i)=none
  rw [if_neg hne]
  exact g i (by omega)
 ·intro i B' cells' hi
  by_cases e:i=n
  ·simp only [e,if_true] at hi
   cases hi
   exact .inr ⟨hB,hmB⟩
  ·simp only [e,if_false] at hi
   exact h.new i B' cells' hi
theorem qDq (m:Mp) (sz:Nat):VR m (.vec 0 sz []) (.slice none 0 0):=by
 simp only [VR]
 exact ⟨by simp,none,0,rfl,Nat.le_refl _,by simp,by simp⟩
theorem fz_ok {n0:Nat} {m:Mp} {H:Hp} {w:World} {base:Nat} (rw:RW m H w base) {xs ys:List AV} (h:FzG n0 H xs ys):∀ {cs:List Value} {F:Nat→Option (Nat×List AV)},FOk n0 m F w base→VRs m xs cs→∃ F',FOk n0 m F' w base∧(∀ i p,F i=some p→F' i=some p)∧VRs ⟨λ_ _=>none,F',λ_=>none⟩ ys cs:=by
 have still:∀ {F:Nat→Option (Nat×List AV)},FOk n0 m F w base→Sub m.still ⟨λ_ _=>none,F,λ_=>none⟩:=λa=>⟨λ_ _ _ e=>(by cases e),a.sub,λ_ _ e=>(by cases e)⟩
 have grow:∀ {F F':Nat→Option (Nat×List AV)},(∀ i p,F i=some p→F' i=some p)→Sub ⟨λ_ _=>none,F,λ_=>none⟩ ⟨λ_ _=>none,F',λ_=>none⟩:=λh=>⟨λ_ _ _ e=>(by cases e),h,λ_ _ e=>(by cases e)⟩
 have block : ∀ {r len sz minv cap B N : Nat} {cells cells' : List AV}, Nat.ble n0 r = true → H.t.get r = some ⟨cells, minv, false⟩ → cells.length = len * sz → minv ≤ len * sz → cells'.length = cells.length →
  (∀ {cs:List Value} {F:Nat→Option (Nat×List AV)},FOk n0 m F w base→VRs m cells cs→∃ F',FOk n0 m F' w base∧(∀ i p,F i=some p→F' i=some p)∧VRs ⟨λ_ _=>none,F',λ_=>none⟩ cells' cs) →
  ∀ {F:Nat→Option (Nat×List AV)},FOk n0 m F w base→m r (len * sz)=some (B,N)→len≤cap→∃ F',FOk n0 m F' w base∧(∀ i p,F i=some p→F' i=some p)∧VR ⟨λ_ _=>none,F',λ_=>none⟩ (.vec len sz cells') (.slice (some ⟨B,0,none⟩) len cap):=by
  intro r len sz minv cap B N cells cells' h0r u hl hmin hl' ih F a hm hcap
  obtain ⟨cs,ty,fr,E,L,M,O,C⟩:=rw.blk _ _ _ _ _ u hm hmin (by rw [hl]; exact Nat.le_refl _)
  obtain ⟨b0,x,_,_,hbase⟩:=rw.dom _ _ _ _ hm
  rw [u] at x
  cases x
  simp only at C
  rw [List.take_of_length_le (by omega)] at C
  obtain ⟨A,g,o,G⟩:=ih a C
  obtain ⟨J,i,j,k,l⟩:=qK1 g (hbase rfl) ⟨r,_,_,Nat.le_of_ble_eq_true h0r,hm⟩ E (cells:=cells') (by omega) (by rw [hl',hl]; exact G)
  refine ⟨J,j,λi p hi=>l i p (o i p hi),?_⟩
  simp only [VR]
  refine ⟨by omega,_,cap,rfl,hcap,λe=>(by cases e),λ_=>⟨i,B,0,cells',k,rfl,?_,by omega⟩⟩
  rw [List.drop_zero,List.take_of_length_le (by omega)]
 induction h with
 | pures hp =>
  intro cs F a hv
  exact ⟨F,a,λ_ _ h=>h,VRs.mono (still a) _ _ (qBk _ _ hp hv)⟩
 | cons hp _ ih =>
  intro cs F a hv
  simp only [VRs] at hv ⊢
  obtain ⟨y,ys,rfl,g,o⟩:=hv
  obtain ⟨F',j,k,l⟩:=ih a o
  exact ⟨F',j,k,y,ys,rfl,VR.mono (still j) _ _ (qHr _ _ hp g),l⟩
 | nil _ ih =>
  intro cs F a hv
  simp only [VRs] at hv ⊢
  obtain ⟨y,ys,rfl,g,o⟩:=hv
  obtain ⟨F',j,k,l⟩:=ih a o
  simp only [VR] at g
  subst g
  exact ⟨F',j,k,_,ys,rfl,qDq _ _,l⟩
 | @own r len sz cells cells' minv xs ys h0r u hl hmin hc _ n b =>
  intro cs F a hv
  simp only [VRs] at hv
  obtain ⟨c,cs',rfl,g,o⟩:=hv
  simp only [VR] at g
  rcases g with ⟨K,rfl⟩ | ⟨B,N,cap,hm,hcap,hN,rfl⟩
  ·obtain ⟨F',j,k,l⟩:=b a o
   refine ⟨F',j,k,?_⟩
   subst K
   obtain rfl:cells'=[]:=List.length_eq_zero_iff.1 (by rw [hc.length]; omega)
   simp only [VRs]
   exact ⟨_,_,rfl,qDq _ _,l⟩
  ·obtain ⟨A,j,k,l⟩:=block h0r u hl hmin hc.length n a hm hcap
   obtain ⟨F',q,e2,e3⟩:=b j o
   refine ⟨F',q,λi p hi=>e2 i p (k i p hi),?_⟩
   simp only [VRs]
   exact ⟨_,_,rfl,VR.mono (grow e2) _ _ l,e3⟩
 | @slice r len sz v cells cells' minv xs ys h0r u hl D hmin hc _ n b =>
  intro cs F a hv
  simp only [VRs] at hv
  obtain ⟨c,cs',rfl,g,o⟩:=hv
  simp only [VR] at g
  obtain ⟨B,N,cap,hm,_,hcap,hN,rfl⟩:=g
  subst D
  obtain ⟨A,j,k,l⟩:=block h0r u hl hmin hc.length n a hm hcap
  obtain ⟨F',q,e2,e3⟩:=b j o
  refine ⟨F',q,λi p hi=>e2 i p (k i p hi),?_⟩
  simp only [VRs]
  exact ⟨_,_,rfl,VR.mono (grow e2) _ _ l,e3⟩
 | agg _ _ n b =>
  intro cs F a hv
  simp only [VRs,VR] at hv ⊢
  obtain ⟨c,cs',rfl,⟨zs,rfl,g⟩,o⟩:=hv
  obtain ⟨A,j,k,l⟩:=n a g
  obtain ⟨F',q,e2,e3⟩:=b j o
  exact ⟨F',q,λi p hi=>e2 i p (k i p hi),_,_,rfl,⟨zs,rfl,VRs.mono (grow e2) _ _ l⟩,e3⟩
 | tuple _ _ n b =>
  intro cs F a hv
  simp only [VRs,VR] at hv ⊢
  obtain ⟨c,cs',rfl,⟨zs,rfl,g⟩,o⟩:=hv
  obtain ⟨A,j,k,l⟩:=n a g
  obtain ⟨F',q,e2,e3⟩:=b j o
  exact ⟨F',q,λi p hi=>e2 i p (k i p hi),_,_,rfl,⟨zs,rfl,VRs.mono (grow e2) _ _ l⟩,e3⟩
structure Fx (R:Type) where
 P:Program
 C:Cx
 fn:Func
 enc:R→AV
 n0:Nat
 fin:R→Hp
 hti:∀ t i,C.ti t=some i→mkTi P t=some i
 ord:P.follows .mixedOrders=true
 thr:R→Option (Value×LN)
 dfs:Bool
section
variable {R:Type} (X:Fx R)
def Ret (r:R) (m0:Mp) (a:World) (b0:Nat):Exit→Act→World→Prop :=
 match X.dfs with
 | true=>bodyPostD X.P X.fn (EndT (X.thr r) (X.enc r) (X.fin r) m0 a b0)
 | false=>bodyPost X.P X.fn (EndT (X.thr r) (X.enc r) (X.fin r) m0 a b0)
theorem qGn {X:Fx R} {r:R} {m0:Mp} {b:World} {b0:Nat} {a:Act} {w:World} {c:Value} (hd:a.defers=[]) (g:(results X.fn a.tmps).run X.P w = .ok c w) (h:EndT (X.thr r) (X.enc r) (X.fin r) m0 b b0 (.returned c) w):Ret X r m0 b b0 .normal a w∧Ret X r m0 b b0 .ret a w:=by
 have:Leaves X.P X.fn a.tmps (EndT (X.thr r) (X.enc r) (X.fin r) m0 b b0) a.defers .returning w:=by rw [hd]; exact ⟨c,g,h⟩
 unfold Ret
 cases X.dfs
 ·exact ⟨⟨hd,c,g,h⟩,⟨hd,c,g,h⟩⟩
 ·exact ⟨this,this⟩
theorem qGm {X:Fx R} {r:R} {m0:Mp} {b:World} {b0:Nat} {a:Act} {w:World} {ch:List PanicEntry} (hd:a.defers=[]) (c:EndT (X.thr r) (X.enc r) (X.fin r) m0 b b0 (.panicked ch) w):Ret X r m0 b b0 (.panic ch) a w:=by
 have:Leaves X.P X.fn a.tmps (EndT (X.thr r) (X.enc r) (X.fin r) m0 b b0) a.defers (.panicking ch) w:=by rw [hd]; exact c
 unfold Ret
 cases X.dfs
 ·exact ⟨hd,c⟩
 ·exact this
theorem qHo {X:Fx R} {r:R} {m0:Mp} {a:World} {b0:Nat} {f:Nat} {c:Code} {args:Array Value} {w:World} (hf:X.P.funcs[f]? = some X.fn) (hc:X.fn.body=some c) (h:c.wp X.P (Ret X r m0 a b0) { tmps:=args++Array.replicate (X.fn.ntmps - args.size) undef,defers:=[] } w):Calls X.P f args w (EndT (X.thr r) (X.enc r) (X.fin r) m0 a b0):=by
 unfold Ret at h
 cases hd:X.dfs with
 | true=>rw [hd] at h; exact calls_of_wp_defers hf hc h
 | false=>rw [hd] at h; exact calls_of_wp hf hc h
def Ok (p:Pt) (env:Env) (H:Hp) (t:Option R):Prop := ∀ r,t=some r→∀ (m0:Mp) (b:World) (b0:Nat) (m:Mp) (w:World) (a:Act),((∀ r v p,m0 r v=some p→r < X.n0)∧b0≤b.heap.size)→FR m env a.tmps→X.fn.ntmps≤a.tmps.size→a.defers=[]→RW m H w b0→St m0 b b0 m w→At X.P (Ret X r m0 b b0) p a w
end
section
variable {R:Type} {X:Fx R} {p p':Pt} {env eE:Env} {H H':Hp}
theorem ok_none:Ok X p env H none:=by intro r h; cases h
theorem qA7 {α:Type} {m:Option α} {f:α→Option R} (h:∀ x,m=some x→Ok X p env H (f x)):Ok X p env H (m.bind f):=by
 intro r hr
 cases hm:m with
 | none=>rw [hm] at hr; cases hr
 | some x=>rw [hm] at hr; exact h x hm r hr
theorem qIt {t:Option R} (h:Less env eE) (k:Ok X p eE H t):Ok X p env H t :=
 λr hr m0 b b0 m w a c fr g hd rw st=>k r hr m0 b b0 m w a c (fr.less h) g hd rw st
theorem qIu {t:Option R} (ks:LN) (h:keepOnly env ks=eE) (k:Ok X p eE H t):Ok X p env H t :=
 qIt (h ▸ qBh ks env) k
theorem ok_heap {t:Option R} (h:H=H') (k:Ok X p env H' t):Ok X p env H t:=h ▸ k
theorem qA {t:Option R} (h:env=eE) (k:Ok X p eE H t):Ok X p env H t:=h ▸ k
theorem qKt {d:Nat} {v:AV} (h:look env d=v):Less env (putE env d v):=by
 intro t
 rw [qBg]
 split
 ·rename_i e; subst e; exact .inr h.symm
 ·exact .inr rfl
theorem ok_split {a c:Option R} (d:Nat) {b:Bool} (h:look env d = .bool b) (k1:b=true→Ok X p ((d,.bool true)::env) H a) (g:b=false→Ok X p ((d,.bool false)::env) H c):Ok X p env H (if b then a else c):=by
 cases b with
 | true=>exact qIt (qKt h) (k1 rfl)
 | false=>exact qIt (qKt h) (g rfl)
abbrev jn {α R:Type} (f:α→Option R) (b:(α→Option R)→Option R):Option R:=b f
theorem oJ {α:Type} {f:α→Option R} {b:(α→Option R)→Option R} (pj:Pt) (E:α→Env) (G:α→Hp) (k1:∀ x,Ok X pj (E x) (G x) (f x)) (a:∀ j:α→Option R,(∀ x,Ok X pj (E x) (G x) (j x))→Ok X p env H (b j)):Ok X p env H (jn f b):=a f k1
theorem qI {t:Option R} {ops:Array Oper} {n:Nat} {K:List Fr} {o:Oper} {v:AV} (ho:ops[n]? = some o) (hd:dstOk X.fn.ntmps o=true) (hw:wantedV o ops.toList env=some true) (hs:Stp X.P X.C env H o v H') (k:Ok X (.ops ops (n+1) K) (putV env o.dst v) H' t):Ok X (.ops ops n K) env H t:=by
 intro r hr m0 h b0 m w a b fr j hdf rw st
 show wpOps X.P ops _ (List.range' n (ops.size - n)) a w
 have hlt:n < ops.size:=(Array.getElem?_eq_some_iff.1 ho).1
 rw [show ops.size - n=(ops.size - (n+1))+1 by omega,List.range'_succ]
 simp only [wpOps,ho]
 rw [qAx hw fr]
 simp only [if_true]
 refine .inl ?_
 refine qKc X.hti hs fr rw _ _ λm' w' c l g q=>?_
 obtain ⟨f1,f2,f3⟩:=qAu (fr.mono g.sub) j hdf o hd v c q
 exact k r hr m0 h b0 m' w' _ b f1 f2 f3 l (st.trans b.2 g)
theorem ok_skp {t:Option R} {ops:Array Oper} {n:Nat} {K:List Fr} {o:Oper} (ho:ops[n]? = some o) (hd:dstOk X.fn.ntmps o=true) (hw:wantedV o ops.toList env=some false) (k:Ok X (.ops ops (n+1) K) (putV env o.dst (.tuple [])) H t):Ok X (.ops ops n K) env H t:=by
 intro r hr m0 b b0 m w a c fr g hdf rw st
 show wpOps X.P ops _ (List.range' n (ops.size - n)) a w
 have hlt:n < ops.size:=(Array.getElem?_eq_some_iff.1 ho).1
 rw [show ops.size - n=(ops.size - (n+1))+1 by omega,List.range'_succ]
 simp only [wpOps,ho]
 rw [qAx hw fr]
 simp only [Bool.false_eq_true,if_false]
 obtain ⟨f1,f2,f3⟩:=qAu fr g hdf o hd (.tuple []) undef (qEi _)
 exact k r hr m0 b b0 m w _ c f1 f2 f3 rw st
theorem qEz {t:Option R} (h:∀ (Q:Exit→Act→World→Prop) (a:Act) (w:World),True→At X.P Q p' a w→At X.P Q p a w) (k:Ok X p' env H t):Ok X p env H t :=
 λr hr m0 b b0 m w a c fr g hd rw st=>h _ a w trivial (k r hr m0 b b0 m w a c fr g hd rw st)
end
section
variable {R:Type} {X:Fx R} {p p':Pt} {env eE:Env} {H H':Hp}
noncomputable def stepV (C:Cx) (n:Nat) (p:Pt) (env:Env) (H:Hp):Option (Pt×Env×Hp) :=
 match p with
 | .ops ops k K=>match nth ops.toList k with
  | some o=>bif dstOk n o then (match wantedV o ops.toList env with
   | some true=>(match opV C env H o with | some (v,H')=>some (.ops ops (k+1) K,putV env o.dst v,H') | none=>none)
   | some false=>some (.ops ops (k+1) K,putV env o.dst (.tuple []),H)
   | none=>none) else none
  | none=>some (resume K,env,H)
 | .code c K=>match c with
  | .seq a b=>some (.code a (.seq b::K),env,H)
  | .skip=>some (resume K,env,H)
  | .label _=>some (resume K,env,H)
  | .block id b=>some (.code b (.block id::K),env,H)
  | .scope b=>some (.code b (.scope b::K),env,H)
  | .loop b=>some (.loop b K,env,H)
  | .exit id=>match exitK id K with | some q=>some (q,env,H) | none=>none
  | .goto l=>match gotoK l K with | some q=>some (q,env,H) | none=>none
  | .ret=>some (.fin,env,H)
  | .region id ops draw=>bif draw then none else some (.ops ops 0 K,env,H)
  | .cond c x y=>match opnd env c with | .bool b=>some (.code (bif b then x else y) K,env,H) | _=>none
  | _=>none
 | _=>none
theorem fin_ops {t:Option R} {ops:Array Oper} {n:Nat} {K:List Fr} (h:ops[n]? = none) (k:Ok X (resume K) env H t):Ok X (.ops ops n K) env H t:=by
 intro r hr m0 c b0 m w a g fr j hd rw st
 show wpOps X.P ops _ (List.range' n (ops.size - n)) a w
 have hle:ops.size≤n:=by
  rcases Nat.lt_or_ge n ops.size with b | b
  ·rw [Array.getElem?_eq_getElem b] at h; cases h
  ·exact b
 rw [show ops.size - n=0 by omega]
 exact qAr (k r hr m0 c b0 m w a g fr j hd rw st)
theorem stepV_ok {t:Option R} (h:stepV X.C X.fn.ntmps p env H=some (p',eE,H')) (k:Ok X p' eE H' t):Ok X p env H t:=by
 cases p with
 | ops ops n K =>
  simp only [stepV] at h
  rw [qCm,Array.getElem?_toList] at h
  cases ho:ops[n]? with
  | none=>rw [ho] at h; cases h; exact fin_ops ho k
  | some o =>
   rw [ho] at h
   simp only at h
   cases hd:dstOk X.fn.ntmps o with
   | false=>rw [hd] at h; cases h
   | true =>
    rw [hd] at h
    simp only [cond_true] at h
    split at h
    ·rename_i hw
     split at h
     ·rename_i v B hv
      cases h
      exact qI ho hd hw (.inl hv) k
     ·cases h
    ·rename_i hw
     cases h
     exact ok_skp ho hd hw k
    ·cases h
 | code c K =>
  cases c <;> simp only [stepV] at h
  case seq x y=>cases h; exact qEz (p' := .code x (.seq y::K)) (λQ a w _ hh=>wp_seq (wp_mono hh λe a w he=>by cases e <;> exact he)) k
  case skip=>cases h; exact qEz (λQ a w _ hh=>wp_skip (qAr hh)) k
  case label=>cases h; exact qEz (λQ a w _ hh=>wp_label (qAr hh)) k
  case block id b=>cases h; exact qEz (p' := .code b (.block id::K)) (λQ a w _ hh=>wp_block hh) k
  case scope b=>cases h; exact qEz (p' := .code b (.scope b::K)) (λQ a w _ hh=>(qEd hh).wp) k
  case loop b=>cases h; exact qEz (p' := .loop _ _) (λQ a w _ hh=>LoopWp.wp hh) k
  case exit id =>
   split at h
   ·rename_i q hq
    cases h
    exact qEz (λQ a w _ hh=>wp_exit (qCg hq hh)) k
   ·cases h
  case goto l =>
   split at h
   ·rename_i q hq
    cases h
    exact qEz (λQ a w _ hh=>wp_goto (qCz hq hh)) k
   ·cases h
  case ret=>cases h; exact qEz (p' := .fin) (λQ a w _ hh=>wp_ret (qD8 hh.2 K)) k
  case region id ops draw =>
   cases draw with
   | true=>cases h
   | false =>
    cases h
    refine qEz (λQ a w _ hh=>wp_region ?_) k
    have hh':wpOps X.P ops (FinK X.P Q K) (List.range' 0 (ops.size - 0)) a w:=hh
    rw [List.range_eq_range']
    exact hh'
  case cond c x y =>
   split at h
   ·rename_i b g
    cases h
    intro r hr m0 j b0 m w a u fr A hd rw st
    have hc:=qB9 fr c
    rw [g] at hc
    simp only [VR] at hc
    refine wp_cond hc ?_
    have:=k r hr m0 j b0 m w a u fr A hd rw st
    cases b <;> exact this
   ·cases h
  all_goals cases h
 | loop b K=>cases h
 | fin=>cases h
noncomputable def runV (C:Cx) (n:Nat) (k:Nat):Pt→Env→Hp→Option (Pt×Env×Hp) :=
 Nat.rec (motive := λ_ => Pt → Env → Hp → Option (Pt × Env × Hp)) (λp env H => some (p, env, H))
  (λ_ ih p env H=>match stepV C n p env H with | some (p',eE,H')=>ih p' eE H' | none=>none) k
theorem qFt {t : Option R} : ∀ (k : Nat) {p : Pt} {env : Env} {H : Hp}, runV X.C X.fn.ntmps k p env H = some (p', eE, H') → Ok X p' eE H' t → Ok X p env H t
 | 0,p,env,H,h,g=>by
  have h':some (p,env,H)=some (p',eE,H'):=h
  cases h'
  exact g
 | k+1,p,env,H,h,g=>by
  have h':(match stepV X.C X.fn.ntmps p env H with | some (p',eE,H')=>runV X.C X.fn.ntmps k p' eE H' | none=>none)=some (p',eE,H'):=h
  split at h'
  ·rename_i a env1 b hs
   exact stepV_ok hs (qFt k h' g)
  ·cases h'
def entL : Pt → Option Pt
 | .loop b K=>some (.code b (.loop b::K))
 | _=>none
theorem qAk {t:Option R} (h:entL p=some p') (k:Ok X p' env H t):Ok X p env H t:=by
 cases p <;> simp only [entL] at h <;> cases h
 exact qEz (p' := .code _ (.loop _::_)) (λQ a w _ hh=>LoopWp.of (wp_mono hh λe a w he=>by cases e <;> exact he)) k
noncomputable def operAt (n:Nat) (p:Pt) (env:Env):Option Oper :=
 match p with
 | .ops ops k K=>match nth ops.toList k with
  | some o=>bif dstOk n o then (match wantedV o ops.toList env with | some true=>some o | _=>none) else none
  | none=>none
 | _=>none
def adv : Pt → Pt
 | .ops ops k K => .ops ops (k+1) K
 | q=>q
noncomputable def evalAt (C:Cx) (n:Nat) (p:Pt) (env:Env) (H:Hp):Option (AV×Hp) :=
 match operAt n p env with | some o=>opV C env H o | none=>none
noncomputable def advE (n:Nat) (p:Pt) (env:Env) (v:AV):Option (Pt×Env) :=
 match operAt n p env with | some o=>some (adv p,putV env o.dst v) | none=>none
noncomputable def callAt (n:Nat) (p:Pt) (env:Env):Option (Nat×List AV) :=
 match operAt n p env with
 | some o=>match o.op with
  | .call c=>match c.callee with
   | .value g=>match opnd env g with
    | .func f first caps=>some (f,first++opnds env c.args.toList++caps)
    | _=>none
   | _=>none
  | _=>none
 | none=>none
theorem qAd {n:Nat} {o:Oper} (h:operAt n p env=some o):∃ ops k K,p = .ops ops k K∧ops[k]? = some o∧dstOk n o=true∧wantedV o ops.toList env=some true:=by
 cases p <;> simp only [operAt] at h <;> try (cases h; done)
 rename_i ops k K
 rw [qCm,Array.getElem?_toList] at h
 cases ho:ops[k]? with
 | none=>rw [ho] at h; cases h
 | some o' =>
  rw [ho] at h
  simp only at h
  cases hd:dstOk n o' with
  | false=>rw [hd] at h; cases h
  | true =>
   rw [hd] at h
   simp only [cond_true] at h
   split at h
   ·rename_i hw
    cases h
    exact ⟨ops,k,K,rfl,ho,hd,hw⟩
   ·cases h
theorem ok_val {t:Option R} {v:AV} (h:evalAt X.C X.fn.ntmps p env H=some (v,H')) (ha:advE X.fn.ntmps p env v=some (p',eE)) (k:Ok X p' eE H' t):Ok X p env H t:=by
 unfold evalAt at h
 unfold advE at ha
 cases ho:operAt X.fn.ntmps p env with
 | none=>rw [ho] at h; cases h
 | some o =>
  rw [ho] at h ha
  simp only at h ha
  cases ha
  obtain ⟨ops,n,K,rfl,a,b,c⟩:=qAd ho
  exact qI a b c (.inl h) k
theorem ok_chk {α:Type} {m:Option α} {f:α→Option R} (g:α→AV×Hp) (p':Pt) (E:α→Env) (h:evalAt X.C X.fn.ntmps p env H=m.map g) (ha:∀ x,advE X.fn.ntmps p env (g x).1=some (p',E x)) (k:∀ x,m=some x→Ok X p' (E x) (g x).2 (f x)):Ok X p env H (m.bind f):=by
 refine qA7 λx a=>?_
 subst a
 exact ok_val (v:=(g x).1) (H':=(g x).2) h (ha x) (k x rfl)
theorem qO0 {α:Type} {m:Option α} {f:α→Option R} {fi:Nat} {args:List AV} (g:α→AV) (p':Pt) (E:α→Env) (hc:callAt X.fn.ntmps p env=some (fi,args)) (hp:purs args=true) (hg:∀ x,pur (g x)=true) (hf:∀ x,m=some x→PureOk X.P fi args (g x)) (ha:∀ x,advE X.fn.ntmps p env (g x)=some (p',E x)) (k:∀ x,m=some x→Ok X p' (E x) H (f x)):Ok X p env H (m.bind f):=by
 refine qA7 λx a=>?_
 have hpo:=qEq (hf x a) hp (hg x) H
 have hax:=ha x
 unfold advE at hax
 unfold callAt at hc
 cases ho:operAt X.fn.ntmps p env with
 | none=>rw [ho] at hax; cases hax
 | some o =>
  rw [ho] at hax hc
  simp only [Option.some.injEq,Prod.mk.injEq] at hax hc
  obtain ⟨b,e2⟩:=hax
  obtain ⟨ops,n,K,rfl,h,j,l⟩:=qAd ho
  have kx:=k x a
  rw [← b,← e2] at kx
  split at hc
  ·rename_i c hoc
   split at hc
   ·rename_i q hq
    split at hc
    ·rename_i fi' first caps hfv
     cases hc
     exact qI h j l (.inr ⟨c,q,fi,first,caps,hoc,hq,hfv,hpo⟩) kx
    ·cases hc
   ·cases hc
  ·cases hc
def drawAt : Pt → Option Pt
 | .code (.region _ _ true) K=>some (resume K)
 | _=>none
def opsAt : Pt → Array Oper
 | .code (.region _ ops _) _=>ops
 | _ => #[]
noncomputable def rdOp (C:Cx) (env:Env) (hs:List Hp) (o:Oper) (j:Nat):List (Option (AV×Hp)×Option (AV×Hp)) :=
 match nth hs j with
 | some H=>[(opV C env H o,match o.dst with | some d=>some (look env d,H) | none=>opV C env H o)]
 | none=>[]
noncomputable def rdOps (C : Cx) (env : Env) (hs : List Hp) (o : Oper) : Nat → Nat → List (Option (AV × Hp) × Option (AV × Hp))
 | _,0=>[]
 | lo,n+1=>rdOp C env hs o lo++rdOps C env hs o (lo+1) n
noncomputable def rdL (C : Cx) (D : DP) (all : List Oper) (env : Env) (hs : List Hp) : Nat → List Oper → List (Nat × Nat × Nat) → List (Option (AV × Hp) × Option (AV × Hp))
 | c,o::l,(mk,lo,hi)::pl=>(bif Nat.beq (clsS D.S o) 1 && !(mk.testBit D.tI) && !(Nat.beq lo c && Nat.beq hi c) then (match wantedV o all env with | some true=>rdOps C env hs o lo (hi+1 - lo) | _=>[]) else [])++rdL C D all env hs (bif Nat.beq (clsS D.S o) 2 then c+1 else c) l pl
 | _,_,_=>[]
theorem qKi {C : Cx} {env : Env} {hs : List Hp} {o : Oper} : ∀ (n lo j : Nat) (H : Hp), lo ≤ j → j < lo + n → hs[j]? = some H → (opV C env H o, match o.dst with | some d => some (look env d, H) | none => opV C env H o) ∈ rdOps C env hs o lo n
 | 0,lo,j,H,b,c,_=>by omega
 | n+1,lo,j,H,b,c,a=>by
  rw [rdOps,List.mem_append]
  by_cases e:lo=j
  ·subst e
   left
   unfold rdOp
   rw [qCm,a]
   simp
  ·exact .inr (qKi n (lo+1) j H (by omega) (by omega) a)
theorem rdL_at {C : Cx} {D : DP} {all : List Oper} {env : Env} {hs : List Hp} : ∀ (l : List Oper) (pl : List (Nat × Nat × Nat)) (c i : Nat) (o : Oper) (mk lo hi : Nat), l[i]? = some o → pl[i]? = some (mk, lo, hi) → mk.testBit D.tI = false → clsS D.S o = 1 → wantedV o all env = some true → ¬ (lo = c + (l.take i).countP (λp => Nat.beq (clsS D.S p) 2) ∧ hi = c + (l.take i).countP (λp => Nat.beq (clsS D.S p) 2)) → ∀ j, lo ≤ j → j ≤ hi → ∀ H, hs[j]? = some H → (opV C env H o, match o.dst with | some d => some (look env d, H) | none => opV C env H o) ∈ rdL C D all env hs c l pl
 | [],pl,c,i,o,mk,lo,hi,ho,_,_,_,_,_,j,_,_,H,_=>by simp at ho
 | p::l,[],c,i,o,mk,lo,hi,ho,hp,_,_,_,_,j,_,_,H,_=>by simp at hp
 | p::l,(mk0,b,g)::pl,c,i,o,mk,lo,hi,ho,hp,hmk,hc,hw,k,j,m,q,H,hj=>by
  rw [rdL,List.mem_append]
  cases i with
  | zero =>
   simp at ho hp
   subst ho
   obtain ⟨rfl,rfl,rfl⟩:=hp
   left
   have e:Nat.beq (clsS D.S p) 1=true:=by rw [hc]; rfl
   have e2:(Nat.beq b c && Nat.beq g c)=false:=by
    cases h:(Nat.beq b c && Nat.beq g c) with
    | false=>rfl
    | true =>
     simp only [Bool.and_eq_true] at h
     refine absurd (a:=b=c∧g=c) ⟨Nat.eq_of_beq_eq_true h.1,Nat.eq_of_beq_eq_true h.2⟩ ?_
     simpa using k
   rw [e,e2,hw,hmk]
   exact qKi _ _ _ _ m (by omega) hj
  | succ i =>
   refine .inr (rdL_at l pl _ i o mk lo hi (by simpa using ho) (by simpa using hp) hmk hc hw ?_ j m q H hj)
   rw [List.take_succ_cons,List.countP_cons] at k
   cases n:Nat.beq (clsS D.S p) 2 with
   | true=>rw [n] at k; simp only [if_true] at k; simp only [cond_true]; omega
   | false=>rw [n] at k; simp only [Bool.false_eq_true,if_false] at k; simp only [cond_false]; omega
theorem qEh {C:Cx} {D:DP} {ops:Array Oper} {env:Env} {hs:List Hp} (hsome:(rdL C D ops.toList env hs 0 ops.toList D.pl).all (λq=>q.1.isSome)=true) (h:(rdL C D ops.toList env hs 0 ops.toList D.pl).map (·.1)=(rdL C D ops.toList env hs 0 ops.toList D.pl).map (·.2)):AlikeP C D ops env hs:=by
 intro i o mk lo hi ho hp hmk hc hw b j c g H hj
 have hm:=rdL_at (C:=C) (D:=D) _ _ 0 i o mk lo hi ho hp hmk hc hw (by simpa using b) j c g H hj
 have e:opV C env H o=(match o.dst with | some d=>some (look env d,H) | none=>opV C env H o):=by
  have key:∀ l:List (Option (AV×Hp)×Option (AV×Hp)),l.map (·.1)=l.map (·.2)→∀ q ∈ l,q.1=q.2:=by
   intro l
   induction l with
   | nil=>intro _ q hq; cases hq
   | cons x l ih =>
    intro hl q hq
    simp only [List.map_cons,List.cons.injEq] at hl
    rcases List.mem_cons.1 hq with rfl | hq
    ·exact hl.1
    ·exact ih hl.2 q hq
  exact key _ h _ hm
 have a:=List.all_eq_true.1 hsome _ hm
 cases hd:o.dst with
 | none =>
  simp only at a
  obtain ⟨⟨v,k⟩,hv⟩:=Option.isSome_iff_exists.1 a
  have:=qHx (by rw [← qE0 (qK (S:=D.S) (o:=o) (by omega))]; exact hc) hv
  subst this
  exact ⟨v,hv,λd hd=>by cases hd⟩
 | some d =>
  rw [hd] at e
  exact ⟨_,e,λd' hd'=>by cases hd'; rfl⟩
theorem ok_draw {t:Option R} (D:DP) {hs:List Hp} (h:drawAt p=some p') (hti:Nat.ble (opsAt p).size D.tI=true) (hp:planOk D.S (opsAt p) D.pl=true) (hds:(opsAt p).toList.all (dstOk X.fn.ntmps)=true) (hD:OpsD X.P X.C D (opsAt p).toList (opsAt p).toList env H eE hs) (hsome:(rdL X.C D (opsAt p).toList eE (H::hs) 0 (opsAt p).toList D.pl).all (λq=>q.1.isSome)=true) (hq:(rdL X.C D (opsAt p).toList eE (H::hs) 0 (opsAt p).toList D.pl).map (·.1)=(rdL X.C D (opsAt p).toList eE (H::hs) 0 (opsAt p).toList D.pl).map (·.2)) (hl:lastH H hs=H') (k:Ok X p' eE H' t):Ok X p env H t:=by
 subst hl
 unfold drawAt at h
 split at h
 ·rename_i id ops K
  cases h
  intro r hr m0 c b0 m w a b fr g hd rw st
  have hge:=Nat.le_of_ble_eq_true hti
  show (Code.region id ops true).wp X.P _ a w
  refine qHb (id:=id) X.hti X.ord hds hp hD (qEh hsome hq) fr g hd rw ?_ λa m w w' hlt=>absurd hlt (Nat.not_lt.2 hge)
  rintro a' w' _ ⟨_,m',j,l,n,o,u⟩
  exact qAr (k r hr m0 c b0 m' w' a' b n o u j (st.trans b.2 l))
 ·cases h
noncomputable def runD (C:Cx) (D:DP) (all:List Oper) (k:Nat):List Oper→Env→Hp→Option (List Oper×Env×Hp×List Hp) :=
 Nat.rec (motive := λ_ => List Oper → Env → Hp → Option (List Oper × Env × Hp × List Hp)) (λl env H => some (l, env, H, []))
  (λ_ ih l env H=>match l with
   | []=>none
   | o::l=>bif Nat.beq (all.length - (l.length+1)) D.tI then none else match wantedV o all env with
    | none=>none
    | some false=>(match ih l (putV env o.dst (.tuple [])) H with
     | some (l',e,H',hs)=>some (l',e,H',bif Nat.beq (clsS D.S o) 2 then H::hs else hs)
     | none=>none)
    | some true=>(match evS C D.S env H o with
     | some (v,a)=>(match ih l (putV env o.dst v) a with
      | some (l',e,H',hs)=>some (l',e,H',bif Nat.beq (clsS D.S o) 2 then a::hs else hs)
      | none=>none)
     | none=>none)) k
theorem qA8 {P : Program} {C : Cx} {D : DP} {all : List Oper} {e : Env} {a : List Hp} : ∀ (k : Nat) {l l' : List Oper} {env eE : Env} {H H' : Hp} {hs : List Hp}, runD C D all k l env H = some (l', eE, H', hs) → OpsD P C D all l' eE H' e a → OpsD P C D all l env H e (hs ++ a)
 | 0,l,l',env,eE,H,H',hs,h,g=>by
  have h':some (l,env,H,([]:List Hp))=some (l',eE,H',hs):=h
  cases h'
  exact g
 | k+1,[],l',env,eE,H,H',hs,h,g=>by cases h
 | k+1,o::l,l',env,eE,H,H',hs,h,g=>by
  have h':(bif Nat.beq (all.length - (l.length+1)) D.tI then none else match wantedV o all env with
   | none=>none
   | some false=>(match runD C D all k l (putV env o.dst (.tuple [])) H with
    | some (l',e,H',hs)=>some (l',e,H',bif Nat.beq (clsS D.S o) 2 then H::hs else hs)
    | none=>none)
   | some true=>(match evS C D.S env H o with
    | some (v,b)=>(match runD C D all k l (putV env o.dst v) b with
     | some (l',e,H',hs)=>some (l',e,H',bif Nat.beq (clsS D.S o) 2 then b::hs else hs)
     | none=>none)
    | none=>none))=some (l',eE,H',hs):=h
  cases hix:Nat.beq (all.length - (l.length+1)) D.tI with
  | true=>rw [hix] at h'; cases h'
  | false =>
  rw [hix] at h'
  simp only [cond_false] at h'
  split at h'
  ·cases h'
  ·rename_i hw
   split at h'
   ·rename_i hr
    cases h'
    have:=OpsD.skip (P:=P) hix hw (qA8 k hr g)
    cases hc:Nat.beq (clsS D.S o) 2 <;> rw [hc] at this <;> exact this
   ·cases h'
  ·rename_i hw
   split at h'
   ·rename_i v b hv
    split at h'
    ·rename_i hr
     cases h'
     have:=OpsD.val (P:=P) hix hw (.inl hv) (qA8 k hr g)
     cases hc:Nat.beq (clsS D.S o) 2 <;> rw [hc] at this <;> exact this
    ·cases h'
   ·cases h'
noncomputable def headO (all l:List Oper) (env:Env):Option Oper:=match l with | o::_=>(match wantedV o all env with | some true=>some o | _=>none) | []=>none
noncomputable def evalD (C:Cx) (D:DP) (all l:List Oper) (env:Env) (H:Hp):Option (AV×Hp):=match headO all l env with | some o=>evS C D.S env H o | none=>none
noncomputable def advD (D:DP) (all l:List Oper) (env:Env) (v:AV) (H:Hp):Option (List Oper×Env×List Hp):=bif Nat.beq (all.length - l.length) D.tI then none else match headO all l env with | some o=>some (l.tail,putV env o.dst v,bif Nat.beq (clsS D.S o) 2 then [H] else []) | none=>none
noncomputable def callD (all l:List Oper) (env:Env):Option (Nat×List AV) :=
 match headO all l env with
 | some o=>match o.op with
  | .call c=>match c.callee with
   | .value g=>match opnd env g with
    | .func f first caps=>some (f,first++opnds env c.args.toList++caps)
    | _=>none
   | _=>none
  | _=>none
 | none=>none
theorem qG3 {all l:List Oper} {o:Oper} (h:headO all l env=some o):∃ r,l=o::r∧wantedV o all env=some true:=by
 unfold headO at h
 split at h
 ·rename_i o' r
  split at h
  ·rename_i hw; cases h; exact ⟨r,rfl,hw⟩
  ·cases h
 ·cases h
theorem qGr {P:Program} {C:Cx} {D:DP} {all l l':List Oper} {e:Env} {hs a:List Hp} {o:Oper} {v:AV} (ho:headO all l env=some o) (b:StpS P C D.S env H o v H') (ha:advD D all l env v H'=some (l',eE,hs)) (g:OpsD P C D all l' eE H' e a):OpsD P C D all l env H e (hs++a):=by
 unfold advD at ha
 cases hix:Nat.beq (all.length - l.length) D.tI with
 | true=>rw [hix] at ha; cases ha
 | false =>
 rw [hix,ho] at ha
 cases ha
 obtain ⟨r,rfl,hw⟩:=qG3 ho
 have:=OpsD.val hix hw b g
 cases hc:Nat.beq (clsS D.S o) 2 <;> rw [hc] at this <;> exact this
theorem qAa {P:Program} {C:Cx} {D:DP} {all l l':List Oper} {e:Env} {hs a:List Hp} {α:Type} {m:Option α} {x:α} (g:α→AV×Hp) (h:evalD C D all l env H=m.map g) (b:m=some x) (ha:advD D all l env (g x).1 (g x).2=some (l',eE,hs)) (k:OpsD P C D all l' eE (g x).2 e a):OpsD P C D all l env H e (hs++a):=by
 subst b
 unfold evalD at h
 cases ho:headO all l env with
 | none=>rw [ho] at h; cases h
 | some o =>
  rw [ho] at h
  exact qGr (v:=(g x).1) ho (.inl h) ha k
theorem qAs {P:Program} {C:Cx} {D:DP} {all l l':List Oper} {e:Env} {hs a:List Hp} {fi:Nat} {args:List AV} {v:AV} (hc:callD all l env=some (fi,args)) (hp:purs args=true) (hv:pur v=true) (hf:PureOk P fi args v) (ha:advD D all l env v H=some (l',eE,hs)) (k:OpsD P C D all l' eE H e a):OpsD P C D all l env H e (hs++a):=by
 have hpo:=qEq hf hp hv H
 unfold callD at hc
 cases ho:headO all l env with
 | none=>rw [ho] at hc; cases hc
 | some o =>
  rw [ho] at hc
  simp only at hc
  split at hc
  ·rename_i c hoc
   split at hc
   ·rename_i q hq
    split at hc
    ·rename_i fi' first caps hfv
     cases hc
     exact qGr (v:=v) ho (.inr ⟨c,q,fi,first,caps,hoc,hq,hfv,hpo⟩) ha k
    ·cases hc
   ·cases hc
  ·cases hc
noncomputable def mkT (n:Nat) (l:List Blk):Tr :=
 List.rec (motive:=λ_=>Nat→Tr) (λ_ => .nil) (λb _ ih n=>PT.set depth (ih (n+1)) n b) l n
theorem qIz (n:Nat):mkT n [] = .nil:=rfl
theorem qBn (n:Nat) (b:Blk) (l:List Blk):mkT n (b::l)=PT.set depth (mkT (n+1) l) n b:=rfl
noncomputable def mkH (l:List Blk):Hp:=⟨l.length,mkT 0 l⟩
theorem qAq : ∀ (l : List Blk) (n i : Nat), n + l.length ≤ roots → (mkT n l).get i = if n ≤ i then l[i - n]? else none
 | [],n,i,_=>by
  rw [qIz]
  simp only [List.getElem?_nil,ite_self]
  exact PT.get_nil i
 | b::l,n,i,h=>by
  simp only [List.length_cons] at h
  by_cases e:n=i
  ·subst e
   rw [qBn,Tr.get_set_eq _ _ _ _ (by unfold roots at h; unfold depth; omega)]
   simp
  ·rw [qBn,Tr.get_set_ne _ _ _ _ _ e,qAq l (n+1) i (by omega)]
   by_cases a:n≤i
   ·rw [if_pos (by omega),if_pos a,show i - n=(i - (n+1))+1 by omega,List.getElem?_cons_succ]
   ·rw [if_neg (by omega),if_neg a]
mutual
def below (n : Nat) : AV → Bool
 | .ptr r _ _=>Nat.blt r n
 | .slice r _ _ _ _=>Nat.blt r n
 | .own r _ _=>Nat.blt r n
 | .optp _ r _ _=>Nat.blt r n
 | .odat _ r _ _=>Nat.blt r n
 | .ownt _ r _ _=>Nat.blt r n
 | .tptr _ _ r _ _=>Nat.blt r n
 | .agg xs=>belows n xs
 | .tuple xs=>belows n xs
 | .func _ a b=>belows n a && belows n b
 | .iface _ v=>below n v
 | _=>true
def belows (n : Nat) : List AV → Bool
 | []=>true
 | x::xs=>below n x && belows n xs
end
def Mp.cut (m:Mp) (n:Nat):Mp:=⟨λr v=>if r < n then m r v else none,m.froz,m.tys⟩
mutual
theorem qDp {m : Mp} {n : Nat} : ∀ (x : AV) (c : Value), below n x = true → VR m x c → VR (m.cut n) x c
 | .top,_,_,_=>by simp only [VR]
 | .int ..,_,_,e=>by simpa only [VR] using e
 | .resid ..,_,_,e=>by simpa only [VR] using e
 | .bool _,_,_,e=>by simpa only [VR] using e
 | .str _,_,_,e=>by simpa only [VR] using e
 | .nilp,_,_,e=>by simpa only [VR] using e
 | .nils,_,_,e=>by simpa only [VR] using e
 | .nilf,_,_,e=>by simpa only [VR] using e
 | .mapp _,_,_,e=>by simpa only [VR] using e
 | .nili,_,_,e=>by simpa only [VR] using e
 | .vec ..,_,_,e=>by simp only [VR] at e ⊢; exact e
 | .vptr ..,_,_,e=>by simp only [VR] at e ⊢; exact e
 | .ptr r v off,_,h,e=>by
  simp only [VR,below,Nat.blt_eq] at e h ⊢
  obtain ⟨B,N,g,j⟩:=e
  exact ⟨B,N,by show (if r < n then m r v else none)=_; rw [if_pos h]; exact g,j⟩
 | .slice r v off len sz,_,h,e=>by
  simp only [VR,below,Nat.blt_eq] at e h ⊢
  obtain ⟨B,N,cap,g,j⟩:=e
  exact ⟨B,N,cap,by show (if r < n then m r v else none)=_; rw [if_pos h]; exact g,j⟩
 | .own r len sz,_,h,e=>by
  simp only [VR,below,Nat.blt_eq] at e h ⊢
  rcases e with e | ⟨B,N,cap,g,j⟩
  ·exact .inl e
  ·exact .inr ⟨B,N,cap,by show (if r < n then m r (len * sz) else none)=_; rw [if_pos h]; exact g,j⟩
 | .optp s r v off,_,h,e=>by
  simp only [VR,below,Nat.blt_eq] at e h ⊢
  rcases e with e | ⟨e,B,N,g,j⟩
  ·exact .inl e
  ·exact .inr ⟨e,B,N,by show (if r < n then m r v else none)=_; rw [if_pos h]; exact g,j⟩
 | .ownt t r len sz,_,h,e=>by
  simp only [VR,below,Nat.blt_eq] at e h ⊢
  rcases e with e | ⟨B,N,cap,g,j⟩
  ·exact .inl e
  ·exact .inr ⟨B,N,cap,by show (if r < n then m r (len * sz) else none)=_; rw [if_pos h]; exact g,j⟩
 | .odat t r len sz,_,h,e=>by
  simp only [VR,below,Nat.blt_eq] at e h ⊢
  rcases e with e | ⟨B,N,g,j⟩
  ·exact .inl e
  ·exact .inr ⟨B,N,by show (if r < n then m r (len * sz) else none)=_; rw [if_pos h]; exact g,j⟩
 | .tptr t k r v off,_,h,e=>by
  simp only [VR,below,Nat.blt_eq] at e h ⊢
  obtain ⟨B,g,j⟩:=e
  exact ⟨B,by show (if r < n then m r v else none)=_; rw [if_pos h]; exact g,j⟩
 | .agg xs,c,h,e=>by
  simp only [VR] at e ⊢
  obtain ⟨ys,g,j⟩:=e
  exact ⟨ys,g,qBj xs _ (by simpa only [below] using h) j⟩
 | .tuple xs,c,h,e=>by
  simp only [VR] at e ⊢
  obtain ⟨ys,g,j⟩:=e
  exact ⟨ys,g,qBj xs _ (by simpa only [below] using h) j⟩
 | .func f a b,c,h,e=>by
  simp only [VR] at e ⊢
  simp only [below,Bool.and_eq_true] at h
  obtain ⟨ys,zs,g,j,l⟩:=e
  exact ⟨ys,zs,g,qBj a _ h.1 j,qBj b _ h.2 l⟩
 | .iface t v,c,h,e=>by
  simp only [VR] at e ⊢
  obtain ⟨d,g,j⟩:=e
  exact ⟨d,g,qDp v _ (by simpa only [below] using h) j⟩
theorem qBj {m : Mp} {n : Nat} : ∀ (xs : List AV) (cs : List Value), belows n xs = true → VRs m xs cs → VRs (m.cut n) xs cs
 | [],_,_,e=>by simpa only [VRs] using e
 | x::xs,cs,h,e=>by
  simp only [VRs] at e ⊢
  simp only [belows,Bool.and_eq_true] at h
  obtain ⟨y,ys,rfl,g,j⟩:=e
  exact ⟨y,ys,rfl,qDp x y h.1 g,qBj xs ys h.2 j⟩
end
mutual
theorem qHq {n : Nat} : ∀ x : AV, pur x = true → below n x = true
 | .top,_ | .int ..,_ | .resid ..,_ | .bool _,_ | .str _,_ | .nilp,_ | .nils,_ | .nilf,_ | .mapp _,_ | .nili,_ | .vec ..,_ | .vptr ..,_=>by simp [below]
 | .ptr ..,h | .slice ..,h | .own ..,h | .optp ..,h | .odat ..,h | .tptr ..,h | .ownt ..,h=>by simp [pur] at h
 | .agg xs,h=>by simp only [pur,below] at h ⊢; exact qA3 xs h
 | .tuple xs,h=>by simp only [pur,below] at h ⊢; exact qA3 xs h
 | .func _ a b,h=>by simp only [pur,below,Bool.and_eq_true] at h ⊢; exact ⟨qA3 a h.1,qA3 b h.2⟩
 | .iface _ v,h=>by simp only [pur,below] at h ⊢; exact qHq v h
theorem qA3 {n : Nat} : ∀ xs : List AV, purs xs = true → belows n xs = true
 | [],_=>rfl
 | x::xs,h=>by simp only [purs,belows,Bool.and_eq_true] at h ⊢; exact ⟨qHq x h.1,qA3 xs h.2⟩
end
def belowE (n : Nat) : Env → Bool
 | []=>true
 | p::l=>below n p.2 && belowE n l
theorem qCh {n : Nat} : ∀ {e : Env} (t : Nat), belowE n e = true → below n (look e t) = true
 | [],t,_=>rfl
 | p::l,t,h=>by
  simp only [belowE,Bool.and_eq_true] at h
  rw [qAz]
  split
  ·exact h.1
  ·exact qCh t h.2
def BB (n : Nat) : List Blk → Prop
 | []=>True
 | b::l=>belows n b.cells=true∧BB n l
theorem qId {n : Nat} : ∀ {l : List Blk} {i : Nat} {b : Blk}, BB n l → l[i]? = some b → belows n b.cells = true
 | [],i,b,_,h=>by simp at h
 | b0::l,i,b,a,h=>by
  cases i with
  | zero=>simp at h; subst h; exact a.1
  | succ i=>exact qId a.2 (by simpa using h)
theorem qB4 {n : Nat} : ∀ {xs : List AV} (k : Nat), belows n xs = true → belows n (xs.take k) = true
 | [],k,_=>by simp [belows]
 | x::xs,0,_=>by simp [belows]
 | x::xs,k+1,h=>by
  simp only [belows,List.take_succ_cons,Bool.and_eq_true] at h ⊢
  exact ⟨h.1,qB4 k h.2⟩
theorem qA9 {t:Option R} (l g:List Blk) (o:Nat.ble X.n0 l.length=true) (u:Nat.ble (l.length+g.length) roots=true) (he:belowE l.length env=true) (A:BB l.length l) (k:Ok X p env (mkH l) t):Ok X p env (mkH (l++g)) t:=by
 intro r hr m0 C b0 m w a x fr hnt hd rw st
 have u:l.length+g.length≤roots:=Nat.le_of_ble_eq_true u
 have hget:∀ i,i < l.length→(mkH (l++g)).t.get i=(mkH l).t.get i:=by
  intro i hi
  show (mkT 0 (l++g)).get i=(mkT 0 l).get i
  rw [qAq _ _ _ (by simp; omega),qAq _ _ _ (by omega)]
  simp [List.getElem?_append_left hi]
 have hcut:∀ {r v q},(m.cut l.length) r v=some q→r < l.length∧m r v=some q:=by
  intro r v q h
  have h:(if r < l.length then m r v else none)=some q:=h
  by_cases e:r < l.length
  ·rw [if_pos e] at h; exact ⟨e,h⟩
  ·rw [if_neg e] at h; cases h
 have hnone:∀ i,l.length≤i→(mkH l).t.get i=none:=by
  intro i hi
  show (mkT 0 l).get i=none
  rw [qAq _ _ _ (by omega)]
  simp [hi]
 refine k r hr m0 C b0 (m.cut l.length) w a x ?_ hnt hd ⟨?_,?_,?_,hnone,?_,rw.frz,?_,rw.ffin,rw.base_le,?_,rw.tyk⟩ ⟨⟨λr v q hq=>(by
  have j:=x.1 r v q hq
  have n:=Nat.le_of_ble_eq_true o
  show (if r < l.length then m r v else none)=some q
  rw [if_pos (by omega)]
  exact st.sub.1 r v q hq),st.sub.2,st.sub.3⟩,?_,st.fext,st.size,st.os,st.tape,st.output,st.same⟩
 ·intro t ht
  obtain ⟨c,j,n⟩:=fr t ht
  exact ⟨c,j,qDp _ _ (qCh t he) n⟩
 ·intro r b v B N hb' hm j n
  obtain ⟨hlt,hm⟩:=hcut hm
  obtain ⟨cs,ty,fr',D,E,F,G,J⟩:=rw.blk r b v B N (by rw [hget r hlt]; exact hb') hm j n
  have hbl:l[r]? = some b:=by
   have hb':(mkT 0 l).get r=some b:=hb'
   rw [qAq _ _ _ (by omega)] at hb'
   simpa using hb'
  exact ⟨cs,ty,fr',D,E,F,G,qBj _ _ (qB4 v (qId A hbl)) J⟩
 ·intro r v B N hm
  obtain ⟨hlt,hm⟩:=hcut hm
  rw [← hget r hlt]
  exact rw.dom r v B N hm
 ·intro r v B N r' v' N' hm hm' hB
  exact rw.sep _ _ _ _ _ _ _ (hcut hm).2 (hcut hm').2 hB
 ·intro r v B N hm
  exact rw.vle _ _ _ _ (hcut hm).2
 ·intro i B cells r v N b hi hm hb'
  obtain ⟨hlt,hm⟩:=hcut hm
  exact rw.fsep i B cells r v N b hi hm (by rw [hget r hlt]; exact hb')
 ·show l.length≤roots
  omega
 ·intro r v B N hm
  exact st.ext r v B N (hcut hm).2
theorem qE4 {t:Option R} (l:List Blk) (d sz:Nat) (g:Nat.blt l.length roots=true) (h:look env d = .nils) (k:Ok X p ((d,.own l.length 0 sz)::env) (mkH (l++[⟨[],0,false⟩])) t):Ok X p env (mkH l) t:=by
 intro r hr m0 q b0 m w a u fr hnt hd rw st
 have g:l.length < roots:=by simpa using g
 have hg:RW m ⟨l.length+1,Tr.set depth (mkH l).t l.length ⟨[],0,false⟩⟩ w b0:=rw.ghost g
 have hH:RW m (mkH (l++[⟨[],0,false⟩])) w b0:=by
  have e:∀ i,(mkH (l++[⟨[],0,false⟩])).t.get i=(Tr.set depth (mkH l).t l.length ⟨[],0,false⟩).get i:=by
   intro i
   show (mkT 0 (l++[⟨[],0,false⟩])).get i=(Tr.set depth (mkT 0 l) l.length ⟨[],0,false⟩).get i
   rw [qAq _ _ _ (by simp; omega)]
   by_cases ei:l.length=i
   ·subst ei
    rw [Tr.get_set_eq _ _ _ _ (by unfold roots at g; unfold depth; omega)]
    simp
   ·rw [Tr.get_set_ne _ _ _ _ _ ei,qAq _ _ _ (by omega)]
    by_cases j:i < l.length
    ·simp [List.getElem?_append_left j]
    ·rw [List.getElem?_eq_none (by simp; omega),List.getElem?_eq_none (by omega)]
  have en:(mkH (l++[⟨[],0,false⟩])).next=l.length+1:=by simp [mkH]
  refine ⟨λr b v B N n=>hg.blk r b v B N (by rw [← e]; exact n),λr v B N hm=>by rw [e]; exact hg.dom r v B N hm,hg.sep,λr hr=>by rw [e]; exact hg.fresh r (by rw [en] at hr; exact hr),hg.vle,hg.frz,λi B cells r v N b hi hm n=>hg.fsep i B cells r v N b hi hm (by rw [← e]; exact n),hg.ffin,hg.base_le,by rw [en]; exact g,hg.tyk⟩
 refine k r hr m0 q b0 m w a u ?_ hnt hd hH st
 intro t ht
 by_cases e:d=t
 ·subst e
  obtain ⟨c,j,o⟩:=fr d (by rw [h]; intro e; cases e)
  rw [h] at o
  simp only [VR] at o
  refine ⟨c,j,?_⟩
  rw [qAz,if_pos rfl]
  unfold VR
  exact .inl ⟨rfl,o⟩
 ·have he:look ((d,AV.own l.length 0 sz)::env) t=look env t:=by rw [qAz,if_neg e]
  rw [he] at ht ⊢
  exact fr t ht
theorem qIm {P : Program} {C : Cx} (hti : ∀ t i, C.ti t = some i → mkTi P t = some i) {m : Mp} {H : Hp} {w : World} {base : Nat} {env : Env} {a : Act} (fr : FR m env a.tmps) (rw : RW m H w base) (g : ResultVar → Sem Value) (k : ∀ t, g (.tmp t) = pure (a.tmps.getD t undef)) (n : ∀ p t, g (.cell p t) = do loadVar t (← asAddr (a.tmps.getD p undef))) : ∀ (l : List ResultVar) (xs : List AV), resV C env H l = some xs →
 ∃ vs:List Value,(l.mapM g).run P w = .ok vs w∧VRs m xs vs
 | [],xs,h=>by simp only [resV] at h; cases h; exact ⟨[],by simp,by simp [VRs]⟩
 | .tmp t::l,xs,h=>by
  simp only [resV] at h
  cases hl:resV C env H l with
  | none=>rw [hl] at h; cases h
  | some ys =>
   rw [hl] at h
   cases h
   obtain ⟨vs,q,u⟩:=qIm hti fr rw g k n l ys hl
   refine ⟨a.tmps.getD t undef::vs,?_,by simp only [VRs]; exact ⟨_,_,rfl,fr.getD t,u⟩⟩
   simp only [List.mapM_cons,k,Sem.run_bind,Sem.run_pure,Result.andThen_ok,q]
 | .cell p t::l,xs,h=>by
  simp only [resV] at h
  split at h
  ·rename_i i r v off ys ht hp hl
   split at h
   ·rename_i cs hcs
    split at h
    ·rename_i x D
     cases h
     obtain ⟨vs,q,u⟩:=qIm hti fr rw g k n l ys hl
     have hv:=fr.getD p
     rw [hp] at hv
     have hld:∃ c,(loadVar t (match a.tmps.getD p undef with | .pointer (some b)=>b | _=>default)).run P w = .ok c w∧VR m x c∧∃ b,a.tmps.getD p undef = .pointer (some b):=by
      have hv':=hv
      simp only [VR] at hv'
      obtain ⟨B,N,hm,e⟩:=hv'
      obtain ⟨c,j,o⟩:=qIs (P:=P) hti ht hv hcs D rw
      rw [e] at j
      rw [e]
      exact ⟨c,j,o,_,rfl⟩
     obtain ⟨c,j,o,b,A⟩:=hld
     rw [A] at j
     refine ⟨c::vs,?_,by simp only [VRs]; exact ⟨_,_,rfl,o,u⟩⟩
     simp only [List.mapM_cons,n,Sem.run_bind,A,asAddr,Sem.run_pure,Result.andThen_ok,j,q]
    ·cases h
   ·cases h
  ·cases h
theorem qCw {P : Program} {C : Cx} (hti : ∀ t i, C.ti t = some i → mkTi P t = some i) {m : Mp} {H : Hp} {w : World} {base : Nat} {env : Env} {a : Act} {fn : Func} {xs : List AV} (fr : FR m env a.tmps) (rw : RW m H w base) (h : resV C env H fn.results.toList = some xs) :
 ∃ v,(results fn a.tmps).run P w = .ok v w∧VR m (oneRes xs) v:=by
 have key:∀ g:ResultVar→Sem Value,(∀ t,g (.tmp t)=pure (a.tmps.getD t undef))→(∀ p t,g (.cell p t)=do loadVar t (← asAddr (a.tmps.getD p undef)))→∃ vs:List Value,(fn.results.mapM g).run P w = .ok vs.toArray w∧VRs m xs vs:=by
  intro g c j
  obtain ⟨vs,k,b⟩:=qIm (P:=P) hti fr rw g c j _ _ h
  exact ⟨vs,by rw [Array.mapM_eq_mapM_toList,Sem.run_map,k]; rfl,b⟩
 unfold results
 obtain ⟨vs,hm,b⟩:=key (fun | .tmp t=>pure (a.tmps.getD t undef) | .cell p t=>do loadVar t (← asAddr (a.tmps.getD p undef))) (λ_=>rfl) (λ_ _=>rfl)
 have hlen:=VRs.len b
 refine ⟨if h:vs.toArray.size=1 then vs.toArray[0] else .tuple vs.toArray,?_,?_⟩
 ·rw [Sem.run_bind]
  erw [hm]
  rfl
 ·unfold oneRes
  split
  ·simp only [VRs] at b
   obtain ⟨y,ys,rfl,l,rfl⟩:=b
   simpa using l
  ·rename_i hne
   have:¬ vs.toArray.size=1:=by
    intro e
    have n:xs.length=1:=by simpa [hlen] using e
    obtain ⟨x,o⟩:=List.length_eq_one_iff.1 n
    exact hne x o
   rw [dif_neg this]
   simp only [VR]
   exact ⟨_,rfl,by simpa using b⟩
theorem ok_ret {r:R} {xs:List AV} {v:AV} (u:X.n0=0) (hfin:X.fin r=H0) (ht:X.thr r=none) (hr:resV X.C env H X.fn.results.toList=some xs) (hz:FzG 0 H [oneRes xs] [v]) (hv:X.enc r=v):Ok X .fin env H (some r):=by
 intro r' e m0 n b0 m w a x fr hnt hd rw st
 cases e
 have hnone:∀ r v,m0 r v=none:=by
  intro r v
  cases e:m0 r v with
  | none=>rfl
  | some p=>have:=x.1 r v p e; omega
 obtain ⟨c,j,k⟩:=qCw (P:=X.P) X.hti fr rw hr
 have A:FOk 0 m m.froz w b0:=by
  refine ⟨λi B cells hi=>rw.frz i B cells hi,rw.ffin,λi B cells h => .inl h,λ_ _ h=>h⟩
 obtain ⟨F',l,D,g⟩:=fz_ok rw hz A (cs:=[c]) (by simp only [VRs]; exact ⟨c,[],rfl,k,rfl⟩)
 simp only [VRs] at g
 obtain ⟨c',cs',e,g,_⟩:=g
 cases e
 have fin:∃ m' c',Ending.returned c = .returned c'∧RW m' (X.fin r) w b0∧St m0 n b0 m' w∧VR m' (X.enc r) c':=by
  rw [hfin]
  refine ⟨⟨λ_ _=>none,F',m.tys⟩,c,rfl,⟨?_,?_,?_,λ_ _=>rfl,?_,l.ok,?_,l.fin,rw.base_le,by show 0≤roots; unfold roots; omega,rw.tyk⟩,⟨⟨λr v q hq=>(by rw [hnone] at hq; cases hq),λi p hp=>D i p (st.sub.2 i p hp),st.sub.3⟩,?_,?_,st.size,st.os,st.tape,st.output,st.same⟩,by rw [hv]; exact VR.mono (m:=⟨λ_ _=>none,F',λ_=>none⟩) (m':=⟨λ_ _=>none,F',m.tys⟩) ⟨λ_ _ _ h=>h,λ_ _ h=>h,λ_ _ h=>(by cases h)⟩ _ _ g⟩
  ·intro r b v B N E hm; cases hm
  ·intro r v B N hm; cases hm
  ·intro r v B N r' v' N' hm; cases hm
  ·intro r v B N hm; cases hm
  ·intro i B cells r v N b _ hm; cases hm
  ·intro r v B N hm; cases hm
  ·intro i B cells hi
   rcases l.new i B cells hi with h | h
   ·exact st.fext i B cells h
   ·obtain ⟨j,r,v,N,_,hm⟩:=h
    rcases st.ext r v B N hm with ⟨F,G,o⟩ | k
    ·rw [hnone] at o; cases o
    ·exact .inr ⟨j,.inr k⟩
 have e:EndT (X.thr r) (X.enc r) (X.fin r) m0 n b0 (.returned c) w:=by rw [ht]; exact fin
 exact qGn hd j e
theorem qFw : ∀ (xs : List AV) (i t : Nat), look (args0 i xs) t = if i ≤ t then (xs[t - i]?).getD .top else .top
 | [],i,t=>by simp [args0,look_nil]
 | x::xs,i,t=>by
  rw [args0,qBg,qFw xs (i+1) t]
  by_cases e:i=t
  ·subst e; simp
  ·rw [if_neg e]
   by_cases h:i≤t
   ·rw [if_pos (by omega),if_pos h,show t - i=(t - (i+1))+1 by omega]; simp
   ·rw [if_neg (by omega),if_neg h]
theorem qK8 {m:Mp} {xs:List AV} {args rest:Array Value} (h:VRs m xs args.toList):FR m (args0 0 xs) (args++rest):=by
 intro t ht
 rw [qFw] at ht ⊢
 simp only [Nat.zero_le,if_true,Nat.sub_zero] at ht ⊢
 cases a:xs[t]? with
 | none=>rw [a] at ht; exact absurd rfl ht
 | some x =>
  obtain ⟨c,hc,hv⟩:=VRs.get h t x a
  rw [Array.getElem?_toList] at hc
  obtain ⟨hlt,_⟩:=Array.getElem?_eq_some_iff.1 hc
  exact ⟨c,by rw [Array.getElem?_append_left hlt]; exact hc,by simpa using hv⟩
def bodyAt (fn:Func):Pt:=match fn.body with | some c => .code c [] | none => .fin
theorem qA6 (X:Fx R) {f:Nat} (hfin:∀ r,X.fin r=H0∧X.thr r=none) (hf:X.P.funcs[f]? = some X.fn) (b:(X.fn.name == "runtime.NumGoroutine")=false) (a:X.fn.body.isSome=true) {xs:List AV} {t:Option R} (h:Ok X (bodyAt X.fn) (args0 0 xs) (mkH []) t) {r:R} (ht:t=some r):PureOk X.P f xs (X.enc r):=by
 refine ⟨?_,X.fn,hf,b,a⟩
 intro m0 w args g hargs rw
 cases hc:X.fn.body with
 | none=>rw [hc] at a; cases a
 | some c =>
  have e:bodyAt X.fn = .code c []:=by simp [bodyAt,hc]
  rw [e] at h
  have:=h r ht m0 w w.heap.size m0 w { tmps:=args++Array.replicate (X.fn.ntmps - args.size) undef,defers:=[] } ⟨λr v p e=>(by rw [g] at e; cases e),Nat.le_refl _⟩ (qK8 hargs) (by simp; omega) rfl rw (St.refl _ _ _)
  have e2:=qHo hf hc this
  rw [(hfin r).1,(hfin r).2] at e2
  exact e2
theorem qA1 (X:Fx R) {f:Nat} (hf:X.P.funcs[f]? = some X.fn) (j:(X.fn.name == "runtime.NumGoroutine")=false) (a:X.fn.body.isSome=true) {L:List Blk} (g:X.n0=L.length) {xs:List AV} {t:Option R} (h:Ok X (bodyAt X.fn) (args0 0 xs) (mkH L) t) {r:R} (ht:t=some r):CallT X.P f xs (mkH L) (X.thr r) (X.enc r) (X.fin r):=by
 refine ⟨?_,X.fn,hf,j,a⟩
 intro m w base args hargs rw
 cases hc:X.fn.body with
 | none=>rw [hc] at a; cases a
 | some c =>
  have e:bodyAt X.fn = .code c []:=by simp [bodyAt,hc]
  rw [e] at h
  have:=h r ht m w base m w { tmps:=args++Array.replicate (X.fn.ntmps - args.size) undef,defers:=[] } ⟨λr v p e=>(by
   obtain ⟨b,a,_⟩:=rw.dom r v p.1 p.2 e
   rw [g]
   exact rw.lt a),rw.base_le⟩ (qK8 hargs) (by simp; omega) rfl rw (St.refl _ _ _)
  exact qHo hf hc this
end
def nthS (s:LN) (k:Int):Option Int:=if 0≤k then (match s[k.toNat]? with | some b=>some (b:Int) | none=>none) else none
theorem idxH {e:Option (AV×Hp)} {s:LN} {k:Int} {H:Hp} (h:e=(if 0≤k then (match s[k.toNat]? with | some b=>some (AV.int .u8 (b:Int),H) | none=>none) else none)):e=(nthS s k).map λc=>(AV.int .u8 c,H):=by
 rw [h]; unfold nthS
 split
 ·cases s[k.toNat]? <;> rfl
 ·rfl
def bnd (x:Option Int) (y d:Nat):Option Nat:=match x with | none=>some d | some i=>if 0≤i∧i≤y then some i.toNat else none
def subL {α:Type} (l:List α) (lo hi:Option Int):Option (List α) :=
 match bnd hi l.length l.length with
 | some h=>(match bnd lo h 0 with | some b=>some ((l.take h).drop b) | none=>none)
 | none=>none
theorem qGi (x:Option Int) (k:IntKind) (y d:Nat):boundO (x.map (AV.int k)) y d=bnd x y d:=by cases x <;> rfl
theorem subH {e:Option (AV×Hp)} {s:LN} (lo hi:Option Int) {H:Hp} (h:e=(match boundO (hi.map (AV.int .i64)) s.length s.length with | some h=>(match boundO (lo.map (AV.int .i64)) h 0 with | some l=>some (AV.str ((s.take h).drop l)) | none=>none) | none=>none).map λv=>(v,H)):e=(subL s lo hi).map λx=>(AV.str x,H):=by
 rw [h,qGi]; unfold subL
 cases bnd hi s.length s.length with
 | none=>rfl
 | some h =>
  simp only
  rw [qGi]
  cases bnd lo h 0 <;> rfl
def catS (a b:LN):Option LN:=if a.length+b.length < 2 ^ 40 then some (a++b) else none
theorem catH {e:Option (AV×Hp)} {a b:LN} {H:Hp} (h:e=(if a.length+b.length < 2 ^ 40 then some (AV.str (a++b)) else none).map λv=>(v,H)):e=(catS a b).map λx=>(AV.str x,H):=by
 rw [h]; unfold catS; split <;> rfl
def nthL {α:Type} (l:List α) (k:Int):Option α:=if 0≤k then l[k.toNat]? else none
theorem qB {α : Type} {enc : α → List AV} {sz : Nat} (h : ∀ x, (enc x).length = sz) : ∀ l : List α, (l.flatMap enc).length = l.length * sz
 | []=>by simp
 | x::l=>by rw [List.flatMap_cons,List.length_append,h,qB h l,List.length_cons,Nat.add_mul]; omega
theorem qGd {α : Type} {enc : α → List AV} {sz : Nat} (h : ∀ x, (enc x).length = sz) : ∀ (l : List α) (k : Nat) (x : α), l[k]? = some x → ((l.flatMap enc).drop (k * sz)).take sz = enc x
 | [],k,x,e=>by simp at e
 | y::l,k,x,e=>by
  rw [List.flatMap_cons]
  cases k with
  | zero =>
   simp at e
   subst e
   rw [Nat.zero_mul,List.drop_zero,List.take_append_of_le_length (by rw [h]; exact Nat.le_refl _),List.take_of_length_le (by rw [h]; exact Nat.le_refl _)]
  | succ k =>
   rw [List.drop_append,List.drop_of_length_le (by rw [h,Nat.add_mul]; omega),List.nil_append,h,show (k+1) * sz - sz=k * sz by rw [Nat.add_mul]; omega]
   exact qGd h l k x (by simpa using e)
theorem vidxH {α:Type} {enc:α→List AV} {sz:Nat} (hsz:∀ x,(enc x).length=sz) {e:Option (AV×Hp)} {l:List α} {k:Int} {H:Hp} (h:e=(if sz=sz∧0≤k∧k < ((l.length:Nat):Int) then some (AV.vptr (((l.flatMap enc).drop (k.toNat * sz)).take sz),H) else none)):e=(nthL l k).map λx=>(AV.vptr (enc x),H):=by
 rw [h]; unfold nthL
 by_cases a:0≤k
 ·rw [if_pos a]
  by_cases b:k < (l.length:Int)
  ·rw [if_pos ⟨rfl,a,b⟩]
   have hlt:k.toNat < l.length:=by omega
   rw [List.getElem?_eq_getElem hlt,qGd hsz l k.toNat _ (List.getElem?_eq_getElem hlt)]
   rfl
  ·rw [if_neg (λhh=>b hh.2.2),List.getElem?_eq_none (by omega)]
   rfl
 ·rw [if_neg (λhh=>a hh.2.1),if_neg a]; rfl
def nthA {α:Type} (l:List α) (n:Nat) (k:Int):Option α:=if 0≤k∧k < (n:Int) then l[k.toNat]? else none
theorem aidxH {α:Type} (enc:α→AV) {e:Option (AV×Hp)} (l:List α) {n:Nat} {k:Int} {H:Hp} (h:e=(if 0≤k∧k < (n:Int) then ((l.map enc)[k.toNat * 1]?).map λv=>(v,H) else none)):e=(nthA l n k).map λx=>(enc x,H):=by
 rw [h]; unfold nthA
 split
 ·rw [Nat.mul_one,List.getElem?_map]
  cases l[k.toNat]? <;> rfl
 ·rfl
def remS (x y:Int):Option Int:=if y=0 then none else some (x.tmod y)
def andI (k:IntKind) (x y:Int):Int:=fW k (BitVec.ofInt k.bits x &&& BitVec.ofInt k.bits y).toNat
def maxI (x y:Int):Int:=if x < y then y else x
def appS {α:Type} (bytes:Nat) (l x:List α):Option (List α):=if (l.length+x.length) * bytes≤2 ^ 40∧l.length+x.length≤2 ^ 40 then some (l++x) else none
theorem qDy {L:List Blk} {r:Nat} {b:Blk} (hl:Nat.ble L.length roots=true) (h:L[r]? = some b):(mkH L).t.get r=some b:=by
 show (mkT 0 L).get r=some b
 rw [qAq _ _ _ (by rw [Nat.zero_add]; exact Nat.le_of_ble_eq_true hl)]
 simpa using h
theorem PT.set_set {α : Type} : ∀ (k : Nat) (t : PT α) (n : Nat) (x y : α), PT.set k (PT.set k t n x) n y = PT.set k t n y
 | 0,_,_,_,_=>rfl
 | k+1,t,n,x,y=>by
  have ih:=λt n=>PT.set_set k t n x y
  rw [PT.set_succ,PT.set_succ,PT.set_succ]
  by_cases a:n=0
  ·simp only [a,if_true]; rfl
  ·simp only [a,if_false]
   by_cases b:n % 2=1
   ·simp only [b,if_true]
    show PT.node (PT.set k (PT.set k t.left (n / 2) x) (n / 2) y) t.mid t.right=_
    rw [ih]
   ·simp only [b,if_false]
    show PT.node t.left t.mid (PT.set k (PT.set k t.right (n / 2 - 1) x) (n / 2 - 1) y)=_
    rw [ih]
theorem PT.set_comm {α : Type} : ∀ (k : Nat) (t : PT α) (n m : Nat) (x y : α), n ≠ m → PT.set k (PT.set k t n x) m y = PT.set k (PT.set k t m y) n x
 | 0,_,_,_,_,_,_=>rfl
 | k+1,t,n,m,x,y,h=>by
  have ih:=λt n m h=>PT.set_comm k t n m x y h
  rw [PT.set_succ,PT.set_succ,PT.set_succ,PT.set_succ]
  by_cases n0:n=0
  ·have m0:m ≠ 0:=by omega
   simp only [n0,m0,if_true,if_false]
   by_cases m1:m % 2=1 <;> simp only [m1,if_true,if_false] <;> rfl
  ·by_cases m0:m=0
   ·simp only [n0,m0,if_true,if_false]
    by_cases a:n % 2=1 <;> simp only [a,if_true,if_false] <;> rfl
   ·simp only [n0,m0,if_false]
    by_cases a:n % 2=1
    ·by_cases m1:m % 2=1
     ·simp only [a,m1,if_true]
      show PT.node (PT.set k (PT.set k t.left (n / 2) x) (m / 2) y) t.mid t.right=PT.node (PT.set k (PT.set k t.left (m / 2) y) (n / 2) x) t.mid t.right
      rw [ih _ _ _ (by omega)]
     ·simp only [a,m1,if_true,if_false]; rfl
    ·by_cases m1:m % 2=1
     ·simp only [a,m1,if_true,if_false]; rfl
     ·simp only [a,m1,if_false]
      show PT.node t.left t.mid (PT.set k (PT.set k t.right (n / 2 - 1) x) (m / 2 - 1) y)=PT.node t.left t.mid (PT.set k (PT.set k t.right (m / 2 - 1) y) (n / 2 - 1) x)
      rw [ih _ _ _ (by omega)]
theorem qO3 : ∀ (L : List Blk) (n r : Nat) (b : Blk), r < L.length → PT.set depth (mkT n L) (n + r) b = mkT n (L.set r b)
 | [],n,r,b,h=>by simp at h
 | c::L,n,0,b,h=>by
  rw [List.set_cons_zero,qBn,qBn]
  exact PT.set_set _ _ _ _ _
 | c::L,n,r+1,b,h=>by
  rw [List.set_cons_succ,qBn,qBn,PT.set_comm _ _ _ _ _ _ (by omega),show n+(r+1)=(n+1)+r by omega,qO3 L (n+1) r b (by simpa using h)]
theorem mkH_set {L:List Blk} {r:Nat} {b:Blk} (h:r < L.length):(⟨(mkH L).next,Tr.set depth (mkH L).t r b⟩:Hp)=mkH (L.set r b):=by
 show (⟨L.length,PT.set depth (mkT 0 L) r b⟩:Hp)=⟨(L.set r b).length,mkT 0 (L.set r b)⟩
 have:=qO3 L 0 r b h
 rw [Nat.zero_add] at this
 rw [this,List.length_set]
theorem appH {α:Type} {enc:α→List AV} {sz:Nat} (hsz:∀ x,(enc x).length=sz) (hpos:Nat.blt 0 sz=true) (hone:∀ x,(enc x).all one1=true) {e:Option (AV×Hp)} (L:List Blk) (r bytes:Nat) (l x:List α) (hl:Nat.ble L.length roots=true) (hr:L[r]? = some ⟨l.flatMap enc,0,false⟩) (h:e=appW (mkH L) (.own r l.length sz) sz bytes x.length (x.flatMap enc)):e=(appS bytes l x).map λy=>(AV.own r y.length sz,mkH (L.set r ⟨y.flatMap enc,0,false⟩)):=by
 have hpos:0 < sz:=by simpa using hpos
 have hone':(x.flatMap enc).all one1=true:=by
  rw [List.all_eq_true]
  intro a ha
  obtain ⟨y,_,hy⟩:=List.mem_flatMap.1 ha
  exact List.all_eq_true.1 (hone y) a hy
 have hlt:r < L.length:=(List.getElem?_eq_some_iff.1 hr).1
 rw [h]
 unfold appW appV appS
 simp only [qB hsz,hpos,hone',true_and,and_true,if_true]
 by_cases b:(l.length+x.length) * bytes≤2 ^ 40∧l.length+x.length≤2 ^ 40
 ·rw [if_pos b]
  by_cases c:x.length=0
  ·have:x=[]:=List.length_eq_zero_iff.1 c
   subst this
   simp only [List.length_nil,Nat.add_zero,List.append_nil,Option.map_some,if_true]
   rw [if_pos (by simpa using b)]
   have:L.set r ⟨l.flatMap enc,0,false⟩=L:=by
    apply List.ext_getElem?
    intro i
    rw [List.getElem?_set]
    split
    ·rename_i e; subst e; first | exact hr.symm | (rw [if_pos hlt]; exact hr.symm)
    ·rfl
   show some (AV.own r l.length sz,mkH L)=some (AV.own r l.length sz,mkH (L.set r ⟨l.flatMap enc,0,false⟩))
   rw [this]
  ·simp only [c,if_false]
   rw [qDy hl hr,if_pos b]
   simp only [qB hsz,Nat.zero_le,true_and,and_self,if_true,Option.map_some]
   rw [mkH_set hlt,List.flatMap_append,List.length_append]
 ·rw [if_neg b,if_neg b]; rfl
theorem appHV {α:Type} {enc:α→List AV} {sz:Nat} (hsz:∀ x,(enc x).length=sz) (hpos:Nat.blt 0 sz=true) (hone:∀ x,(enc x).all one1=true) {e:Option (AV×Hp)} (L:List Blk) (r bytes:Nat) (l x:List α) (hl:Nat.ble L.length roots=true) (hr:L[r]? = some ⟨l.flatMap enc,0,false⟩) (h:e=(match (if sz=sz∧x.length≤x.length then some ((x.flatMap enc).take (x.length * sz)) else none) with | some new=>appW (mkH L) (.own r l.length sz) sz bytes x.length new | none=>none)):e=(appS bytes l x).map λy=>(AV.own r y.length sz,mkH (L.set r ⟨y.flatMap enc,0,false⟩)):=by
 refine appH hsz hpos hone L r bytes l x hl hr ?_
 rw [h,if_pos ⟨rfl,Nat.le_refl _⟩]
 simp only
 rw [List.take_of_length_le (by rw [qB hsz]; exact Nat.le_refl _)]
theorem qAw {α:Type} {enc:α→List AV} {sz:Nat} (hsz:∀ x,(enc x).length=sz) (hpur:∀ x,purs (enc x)=true) {L:List Blk} {r:Nat} {l:List α} {xs ys:List AV} {n0:Nat} (hl:Nat.ble L.length roots=true) (hr:L[r]? = some ⟨l.flatMap enc,0,false⟩) (a:Nat.ble n0 r=true) (h:FzG n0 (mkH L) xs ys):FzG n0 (mkH L) (.own r l.length sz::xs) (.vec l.length sz (l.flatMap enc)::ys) :=
 .own a (qDy hl hr) (qB hsz l) (Nat.zero_le _) (.pures (qAo hpur l)) h
def ctl1 : Pt → Pt
 | .ops _ _ K=>resume K
 | .loop b K => .code b (.loop b::K)
 | .fin => .fin
 | .code c K=>match c with
  | .seq a b => .code a (.seq b::K)
  | .skip=>resume K
  | .label _=>resume K
  | .block id b => .code b (.block id::K)
  | .scope b => .code b (.scope b::K)
  | .loop b => .loop b K
  | .exit id=>match exitK id K with | some q=>q | none => .fin
  | .goto l=>match gotoK l K with | some q=>q | none => .fin
  | .ret => .fin
  | .region id ops draw=>bif draw then resume K else .ops ops 0 K
  | _ => .fin
def nav : LN → Pt → Pt
 | [],p=>p
 | 0::l,p=>nav l (ctl1 p)
 | 1::l,.code (.cond _ x _) K=>nav l (.code x K)
 | _::l,.code (.cond _ _ y) K=>nav l (.code y K)
 | _::_,p=>p
def atN (n : Nat) : Pt → Pt
 | .ops ops _ K => .ops ops n K
 | p=>p
theorem qDa {R:Type} {X:Fx R} {p:Pt} {env:Env} {H:Hp} {t:Option R} (d b v n sz:Nat) (h:look env d = .slice b v 0 n sz) (hv:v=n * sz) (k:Ok X p ((d,.own b n sz)::env) H t):Ok X p env H t:=by
 intro r hr m0 j b0 m w a l fr hnt hd rw st
 refine k r hr m0 j b0 m w a l ?_ hnt hd rw st
 intro u hu
 by_cases e:d=u
 ·subst e
  obtain ⟨c,o,g⟩:=fr d (by rw [h]; intro e; cases e)
  rw [h] at g
  refine ⟨_,o,?_⟩
  rw [qAz,if_pos rfl]
  exact qHk g hv
 ·have he:look ((d,AV.own b n sz)::env) u=look env u:=by rw [qAz,if_neg e]
  rw [he] at hu ⊢
  exact fr u hu
mutual
def nref (n : Nat) : AV → Bool
 | .ptr r _ _ => !Nat.beq r n
 | .slice r _ _ _ _ => !Nat.beq r n
 | .own r _ _ => !Nat.beq r n
 | .optp _ r _ _ => !Nat.beq r n
 | .odat _ r _ _ => !Nat.beq r n
 | .ownt _ r _ _ => !Nat.beq r n
 | .tptr _ _ r _ _ => !Nat.beq r n
 | .agg xs=>nrefs n xs
 | .tuple xs=>nrefs n xs
 | .func _ a b=>nrefs n a && nrefs n b
 | .iface _ v=>nref n v
 | _=>true
def nrefs (n : Nat) : List AV → Bool
 | []=>true
 | x::xs=>nref n x && nrefs n xs
end
def Mp.out (m:Mp) (n:Nat) (F:Nat→Option (Nat×List AV)):Mp:=⟨λr v=>if r=n then none else m r v,F,m.tys⟩
theorem qEu {m:Mp} {n:Nat} {F:Nat→Option (Nat×List AV)} {r v:Nat} (h:(!Nat.beq r n)=true):(m.out n F) r v=m r v:=by
 show (if r=n then none else m r v)=m r v
 rw [if_neg]
 rintro rfl
 simp at h
mutual
theorem qGx {m : Mp} {n : Nat} {F : Nat → Option (Nat × List AV)} (l : ∀ i p, m.froz i = some p → F i = some p) : ∀ (x : AV) (c : Value), nref n x = true → VR m x c → VR (m.out n F) x c
 | .top,_,_,_=>by simp only [VR]
 | .int ..,_,_,e=>by simpa only [VR] using e
 | .resid ..,_,_,e=>by simpa only [VR] using e
 | .bool _,_,_,e=>by simpa only [VR] using e
 | .str _,_,_,e=>by simpa only [VR] using e
 | .nilp,_,_,e=>by simpa only [VR] using e
 | .nils,_,_,e=>by simpa only [VR] using e
 | .nilf,_,_,e=>by simpa only [VR] using e
 | .mapp _,_,_,e=>by simpa only [VR] using e
 | .nili,_,_,e=>by simpa only [VR] using e
 | .vec ..,_,_,e=>by
  simp only [VR] at e ⊢
  obtain ⟨u,a,cap,g,j,o,A⟩:=e
  exact ⟨u,a,cap,g,j,o,λC=>let ⟨i,B,off,all,q,r⟩:=A C; ⟨i,B,off,all,l _ _ q,r⟩⟩
 | .vptr ..,_,_,e=>by
  simp only [VR] at e ⊢
  obtain ⟨i,B,off,all,q,r⟩:=e
  exact ⟨i,B,off,all,l _ _ q,r⟩
 | .ptr r v off,_,h,e=>by
  simp only [VR] at e ⊢
  obtain ⟨B,N,g,j⟩:=e
  exact ⟨B,N,by rw [qEu (by simpa only [nref] using h)]; exact g,j⟩
 | .slice r v off len sz,_,h,e=>by
  simp only [VR] at e ⊢
  obtain ⟨B,N,cap,g,j⟩:=e
  exact ⟨B,N,cap,by rw [qEu (by simpa only [nref] using h)]; exact g,j⟩
 | .own r len sz,_,h,e=>by
  simp only [VR] at e ⊢
  rcases e with e | ⟨B,N,cap,g,j⟩
  ·exact .inl e
  ·exact .inr ⟨B,N,cap,by rw [qEu (by simpa only [nref] using h)]; exact g,j⟩
 | .optp s r v off,_,h,e=>by
  simp only [VR] at e ⊢
  rcases e with e | ⟨e,B,N,g,j⟩
  ·exact .inl e
  ·exact .inr ⟨e,B,N,by rw [qEu (by simpa only [nref] using h)]; exact g,j⟩
 | .ownt t r len sz,_,h,e=>by
  simp only [VR] at e ⊢
  rcases e with e | ⟨B,N,cap,g,j⟩
  ·exact .inl e
  ·exact .inr ⟨B,N,cap,by rw [qEu (by simpa only [nref] using h)]; exact g,j⟩
 | .odat t r len sz,_,h,e=>by
  simp only [VR] at e ⊢
  rcases e with e | ⟨B,N,g,j⟩
  ·exact .inl e
  ·exact .inr ⟨B,N,by rw [qEu (by simpa only [nref] using h)]; exact g,j⟩
 | .tptr t k r v off,_,h,e=>by
  simp only [VR] at e ⊢
  obtain ⟨B,g,j⟩:=e
  exact ⟨B,by rw [qEu (by simpa only [nref] using h)]; exact g,j⟩
 | .agg xs,c,h,e=>by
  simp only [VR] at e ⊢
  obtain ⟨ys,g,j⟩:=e
  exact ⟨ys,g,qCf l xs _ (by simpa only [nref] using h) j⟩
 | .tuple xs,c,h,e=>by
  simp only [VR] at e ⊢
  obtain ⟨ys,g,j⟩:=e
  exact ⟨ys,g,qCf l xs _ (by simpa only [nref] using h) j⟩
 | .func f a b,c,h,e=>by
  simp only [VR] at e ⊢
  simp only [nref,Bool.and_eq_true] at h
  obtain ⟨ys,zs,g,j,o⟩:=e
  exact ⟨ys,zs,g,qCf l a _ h.1 j,qCf l b _ h.2 o⟩
 | .iface t v,c,h,e=>by
  simp only [VR] at e ⊢
  obtain ⟨d,g,j⟩:=e
  exact ⟨d,g,qGx l v _ (by simpa only [nref] using h) j⟩
theorem qCf {m : Mp} {n : Nat} {F : Nat → Option (Nat × List AV)} (l : ∀ i p, m.froz i = some p → F i = some p) : ∀ (xs : List AV) (cs : List Value), nrefs n xs = true → VRs m xs cs → VRs (m.out n F) xs cs
 | [],_,_,e=>by simpa only [VRs] using e
 | x::xs,cs,h,e=>by
  simp only [VRs] at e ⊢
  simp only [nrefs,Bool.and_eq_true] at h
  obtain ⟨y,ys,rfl,g,j⟩:=e
  exact ⟨y,ys,rfl,qGx l x y h.1 g,qCf l xs ys h.2 j⟩
end
theorem qDw {n : Nat} : ∀ {xs : List AV} (k : Nat), nrefs n xs = true → nrefs n (xs.take k) = true
 | [],k,_=>by simp [nrefs]
 | x::xs,0,_=>by simp [nrefs]
 | x::xs,k+1,h=>by
  simp only [nrefs,List.take_succ_cons,Bool.and_eq_true] at h ⊢
  exact ⟨h.1,qDw k h.2⟩
def nrefE (n : Nat) : Env → Bool
 | []=>true
 | p::l=>nref n p.2 && nrefE n l
theorem qFu {n : Nat} : ∀ {e : Env} (t : Nat), nrefE n e = true → nref n (look e t) = true
 | [],t,_=>rfl
 | p::l,t,h=>by
  simp only [nrefE,Bool.and_eq_true] at h
  rw [qAz]
  split
  ·exact h.1
  ·exact qFu t h.2
mutual
theorem qKl {n : Nat} : ∀ x : AV, pur x = true → nref n x = true
 | .top,_ | .int ..,_ | .resid ..,_ | .bool _,_ | .str _,_ | .nilp,_ | .nils,_ | .nilf,_ | .mapp _,_ | .nili,_ | .vec ..,_ | .vptr ..,_=>by simp [nref]
 | .ptr ..,h | .slice ..,h | .own ..,h | .optp ..,h | .odat ..,h | .tptr ..,h | .ownt ..,h=>by simp [pur] at h
 | .agg xs,h=>by simp only [pur,nref] at h ⊢; exact qBp xs h
 | .tuple xs,h=>by simp only [pur,nref] at h ⊢; exact qBp xs h
 | .func _ a b,h=>by simp only [pur,nref,Bool.and_eq_true] at h ⊢; exact ⟨qBp a h.1,qBp b h.2⟩
 | .iface _ v,h=>by simp only [pur,nref] at h ⊢; exact qKl v h
theorem qBp {n : Nat} : ∀ xs : List AV, purs xs = true → nrefs n xs = true
 | [],_=>rfl
 | x::xs,h=>by simp only [purs,nrefs,Bool.and_eq_true] at h ⊢; exact ⟨qKl x h.1,qBp xs h.2⟩
end
def NB (n : Nat) : Nat → List Blk → Prop
 | _,[]=>True
 | i,b::l=>(i=n∨nrefs n b.cells=true)∧NB n (i+1) l
theorem NB_get {n : Nat} : ∀ {l : List Blk} {i j : Nat} {b : Blk}, NB n i l → l[j]? = some b → i + j ≠ n → nrefs n b.cells = true
 | [],i,j,b,_,h,_=>by simp at h
 | b0::l,i,j,b,a,h,hne=>by
  cases j with
  | zero=>simp at h; subst h; exact a.1.resolve_left (by omega)
  | succ j=>exact NB_get a.2 (by simpa using h) (by omega)
theorem ok_frz {R:Type} {X:Fx R} {p:Pt} {env env0:Env} {t:Option R} (L:List Blk) (d g n sz minv:Nat) (cells:List AV) (ks:LN) (M:Nat.ble X.n0 g=true) (hl:Nat.ble L.length roots=true) (D:look env d = .slice g (n * sz) 0 n sz∨look env d = .own g n sz) (hr:L[g]? = some ⟨cells,minv,false⟩) (hc:cells.length=n * sz) (hmin:minv≤n * sz) (hp:purs cells=true) (hk:keepOnly env ks=env0) (hne:nrefE g env0=true) (hnb:NB g 0 L) (k:Ok X p ((d,.vec n sz cells)::env0) (mkH (L.set g ⟨[],0,false⟩)) t):Ok X p env (mkH L) t:=by
 intro r hr' m0 w0 b0 m w a V E hnt hd rw st
 have fr:FR m env0 a.tmps:=E.less (hk ▸ qBh ks env)
 have hroot:(mkH L).t.get g=some ⟨cells,minv,false⟩:=qDy hl hr
 have hlt:g < L.length:=(List.getElem?_eq_some_iff.1 hr).1
 obtain ⟨c,O,A⟩:=E d (by rcases D with h | h <;> (rw [h]; intro e; cases e))
 have hcase:c = .slice none 0 0∧n=0∨∃ B N cap,m g (n * sz)=some (B,N)∧n≤cap∧c = .slice (some ⟨B,0,none⟩) n cap:=by
  rcases D with h | h <;> rw [h] at A <;> simp only [VR] at A
  ·obtain ⟨B,N,cap,l,o,W,Y,h5⟩:=A
   exact .inr ⟨B,N,cap,l,W,h5⟩
  ·rcases A with ⟨l,o⟩ | ⟨B,N,cap,l,o,W,Y⟩
   ·exact .inl ⟨o,l⟩
   ·exact .inr ⟨B,N,cap,l,o,Y⟩
 have G:FOk 0 m m.froz w b0:=⟨λi B cells hi=>rw.frz i B cells hi,rw.ffin,λi B cells h => .inl h,λ_ _ h=>h⟩
 have key:∃ F,FOk 0 m F w b0∧(∀ i B cs,F i=some (B,cs)→m.froz i=some (B,cs)∨∃ v N,m g v=some (B,N))∧VR ⟨λ_ _=>none,F,λ_=>none⟩ (.vec n sz cells) c:=by
  rcases hcase with ⟨rfl,rfl⟩ | ⟨B,N,cap,hm,hcap,rfl⟩
  ·have:cells=[]:=List.length_eq_zero_iff.1 (by omega)
   subst this
   exact ⟨m.froz,G,λi B cs h => .inl h,qDq _ _⟩
  ·obtain ⟨cs,ty,fr',K,Z,q3,q4,J⟩:=rw.blk _ _ _ _ _ hroot hm hmin (by show n * sz≤cells.length; omega)
   obtain ⟨b0,x,_,_,hbase⟩:=rw.dom _ _ _ _ hm
   rw [hroot] at x
   cases x
   simp only at J
   rw [List.take_of_length_le (by omega)] at J
   obtain ⟨nf,hnf⟩:=rw.ffin
   have q6:=qBk _ _ hp J
   obtain ⟨F,i,g1,g2,g3⟩:=qK1 G (hbase rfl) ⟨_,_,_,Nat.zero_le _,hm⟩ K (cells:=cells) (by omega) (by rw [hc]; exact q6)
   refine ⟨λj=>if j=nf then some (B,cells) else m.froz j,?_,?_,?_⟩
   ·refine ⟨?_,⟨nf+1,λj hj=>by show (if j=nf then some (B,cells) else m.froz j)=none; rw [if_neg (by omega)]; exact hnf j (by omega)⟩,?_,?_⟩
    ·intro j B' cells' hj
     have hS:Sub m.still ⟨λ_ _=>none,λj=>if j=nf then some (B,cells) else m.froz j,λ_=>none⟩:=⟨λ_ _ _ e=>(by cases e),λj q hq=>(by
      show (if j=nf then some (B,cells) else m.froz j)=some q
      rw [if_neg]
      ·exact hq
      ·rintro rfl
       have hq:m.froz j=some q:=hq
       rw [hnf _ (Nat.le_refl _)] at hq; cases hq),λ_ _ e=>(by cases e)⟩
     by_cases e:j=nf
     ·simp only [e,if_true] at hj
      cases hj
      exact ⟨cs,ty,fr',K,by omega,by rw [hc]; exact VRs.mono hS _ _ q6⟩
     ·simp only [e,if_false] at hj
      obtain ⟨S,T,U,e1,e2,e3⟩:=rw.frz j B' cells' hj
      exact ⟨S,T,U,e1,e2,VRs.mono hS _ _ e3⟩
    ·intro j B' cells' hj
     by_cases e:j=nf
     ·simp only [e,if_true] at hj
      cases hj
      exact .inr ⟨hbase rfl,_,_,_,Nat.zero_le _,hm⟩
     ·simp only [e,if_false] at hj
      exact .inl hj
    ·intro j q hq
     show (if j=nf then some (B,cells) else m.froz j)=some q
     rw [if_neg]
     ·exact hq
     ·rintro rfl; rw [hnf _ (Nat.le_refl _)] at hq; cases hq
   ·intro j B' cells' hj
    by_cases e:j=nf
    ·simp only [e,if_true] at hj
     cases hj
     exact .inr ⟨_,_,hm⟩
    ·simp only [e,if_false] at hj
     exact .inl hj
   ·simp only [VR]
    refine ⟨hc,_,cap,rfl,hcap,λe=>(by cases e),λ_=>⟨nf,B,0,cells,by simp,rfl,?_,by omega⟩⟩
    rw [List.drop_zero,List.take_of_length_le (by omega)]
 obtain ⟨F,hFok,hFnew,hvec⟩:=key
 have hget:∀ i,i ≠ g→(mkH (L.set g ⟨[],0,false⟩)).t.get i=(mkH L).t.get i:=by
  intro i hi
  show (mkT 0 (L.set g ⟨[],0,false⟩)).get i=(mkT 0 L).get i
  have hl':L.length≤roots:=Nat.le_of_ble_eq_true hl
  rw [qAq _ _ _ (by rw [List.length_set]; omega),qAq _ _ _ (by omega)]
  simp only [Nat.zero_le,if_true,Nat.sub_zero]
  rw [List.getElem?_set,if_neg (λe=>hi e.symm)]
 have hout:∀ {r v q},(m.out g F) r v=some q→r ≠ g∧m r v=some q:=by
  intro r v q h
  have h:(if r=g then none else m r v)=some q:=h
  by_cases e:r=g
  ·rw [if_pos e] at h; cases h
  ·rw [if_neg e] at h; exact ⟨e,h⟩
 refine k r hr' m0 w0 b0 (m.out g F) w a V ?_ hnt hd ⟨?_,?_,?_,?_,?_,hFok.ok,?_,hFok.fin,rw.base_le,?_,rw.tyk⟩ ⟨⟨λr v q hq=>(by
  have l:=V.1 r v q hq
  have o:=Nat.le_of_ble_eq_true M
  show (if r=g then none else m r v)=some q
  rw [if_neg (by omega)]
  exact st.sub.1 r v q hq),λi q hq=>hFok.sub i q (st.sub.2 i q hq),st.sub.3⟩,?_,?_,st.size,st.os,st.tape,st.output,st.same⟩
 ·intro u hu
  by_cases e:d=u
  ·subst e
   refine ⟨c,O,?_⟩
   rw [qAz,if_pos rfl]
   exact VR.mono (m:=⟨λ_ _=>none,F,λ_=>none⟩) (m':=m.out g F) ⟨λ_ _ _ h=>(by cases h),λ_ _ h=>h,λ_ _ h=>(by cases h)⟩ _ _ hvec
  ·have he:look ((d,AV.vec n sz cells)::env0) u=look env0 u:=by rw [qAz,if_neg e]
   rw [he] at hu ⊢
   obtain ⟨c,l,o⟩:=fr u hu
   exact ⟨c,l,qGx hFok.sub _ _ (qFu u hne) o⟩
 ·intro r b v B N C hm l o
  obtain ⟨hne',hm⟩:=hout hm
  rw [hget r hne'] at C
  obtain ⟨cs,ty,fr',K,Z,q3,q4,J⟩:=rw.blk r b v B N C hm l o
  have hbl:L[r]? = some b:=by
   have hb':(mkT 0 L).get r=some b:=C
   rw [qAq _ _ _ (by rw [Nat.zero_add]; exact Nat.le_of_ble_eq_true hl)] at hb'
   simpa using hb'
  exact ⟨cs,ty,fr',K,Z,q3,q4,qCf hFok.sub _ _ (qDw v (NB_get hnb hbl (by omega))) J⟩
 ·intro r v B N hm
  obtain ⟨hne',hm⟩:=hout hm
  rw [hget r hne']
  exact rw.dom r v B N hm
 ·intro r v B N r' v' N' hm hm' hB
  exact rw.sep _ _ _ _ _ _ _ (hout hm).2 (hout hm').2 hB
 ·intro r hr
  have hr:L.length≤r:=by
   have:(mkH (L.set g ⟨[],0,false⟩)).next=L.length:=by simp [mkH]
   rw [this] at hr; exact hr
  rw [hget r (by omega)]
  exact rw.fresh r hr
 ·intro r v B N hm
  exact rw.vle _ _ _ _ (hout hm).2
 ·intro i B cs r v N b hi hm C
  obtain ⟨hne',hm⟩:=hout hm
  rw [hget r hne'] at C
  rcases hFnew i B cs hi with h | ⟨v',N',h⟩
  ·exact rw.fsep i B cs r v N b h hm C
  ·obtain ⟨b0,x,_,_,hbase⟩:=rw.dom _ _ _ _ h
   rw [hroot] at x
   cases x
   exact absurd (rw.sep _ _ _ _ _ _ _ h hm (hbase rfl)).symm hne'
 ·show (L.set g ⟨[],0,false⟩).length≤roots
  rw [List.length_set]; exact Nat.le_of_ble_eq_true hl
 ·intro r v B N hm
  exact st.ext r v B N (hout hm).2
 ·intro i B cs hi
  rcases hFok.new i B cs hi with h | h
  ·exact st.fext i B cs h
  ·obtain ⟨l,r,v,N,_,hm⟩:=h
   rcases st.ext r v B N hm with ⟨v0,N0,e0⟩ | o
   ·exact .inr ⟨l,.inl ⟨r,v0,N0,e0⟩⟩
   ·exact .inr ⟨l,.inr o⟩
theorem qCo {R:Type} {X:Fx R} {p:Pt} {env:Env} {H:Hp} {b:Bool} {a c:Option R} (k1:b=true→Ok X p env H a) (g:b=false→Ok X p env H c):Ok X p env H (if b then a else c):=by
 cases b with
 | true=>exact k1 rfl
 | false=>exact g rfl
theorem qKk {α : Type} {f : α → AV} (h : ∀ x, pur (f x) = true) : ∀ l : List α, purs (l.map f) = true
 | []=>rfl
 | x::l=>by simp only [List.map_cons,purs,Bool.and_eq_true]; exact ⟨h x,qKk h l⟩
theorem arr_pur {α:Type} {f:α→AV} (h:∀ x,pur (f x)=true) (l:List α):pur (.agg (l.map f))=true:=by simp only [pur]; exact qKk h l
def toS : List Int → Option LN
 | []=>some []
 | n::r=>match toS r with | some l=>if 0≤n∧n≤255 then some (n.toNat::l) else none | none=>none
theorem qFe : ∀ l : List Int, bytesOf (l.map (AV.int .u8)) = toS l
 | []=>rfl
 | n::r=>by
  simp only [List.map_cons,bytesOf,toS,qFe r]
  cases toS r <;> rfl
theorem toSE (l:List Int) {e:Option (AV×Hp)} {H:Hp} (h:e=(match bytesOf (l.map (AV.int .u8)) with | some l=>some (AV.str l,H) | none=>none)):e=(toS l).map λx=>(AV.str x,H):=by
 rw [h,qFe]
 cases toS l <;> rfl
theorem ok_chk2 {R:Type} {X:Fx R} {p:Pt} {env:Env} {H:Hp} {α:Type} {m:Option α} {f:α→Option R} (g:α→AV×Hp) (p':Pt) (E:α→Env) (h:∀ x,m=some x→evalAt X.C X.fn.ntmps p env H=some (g x)) (ha:∀ x,advE X.fn.ntmps p env (g x).1=some (p',E x)) (k:∀ x,m=some x→Ok X p' (E x) (g x).2 (f x)):Ok X p env H (m.bind f) :=
 qA7 λx a=>ok_val (v:=(g x).1) (H':=(g x).2) (h x a) (ha x) (k x a)
theorem qAe {P:Program} {C:Cx} {D:DP} {all l l':List Oper} {env eE e:Env} {H:Hp} {hs a:List Hp} {α:Type} {x:α} (g:α→AV×Hp) (h:evalD C D all l env H=some (g x)) (ha:advD D all l env (g x).1 (g x).2=some (l',eE,hs)) (k:OpsD P C D all l' eE (g x).2 e a):OpsD P C D all l env H e (hs++a) :=
 qAa (m:=some x) g h rfl ha k
theorem qKr : ∀ (L : List Blk) (n : Nat) (b : Blk), mkT n (L ++ [b]) = PT.set depth (mkT n L) (n + L.length) b
 | [],n,b=>by rw [List.nil_append,qBn,qIz,qIz]; rfl
 | c::L,n,b=>by
  rw [List.cons_append,qBn,qBn,qKr L (n+1) b,PT.set_comm _ _ _ _ _ _ (by omega),List.length_cons,show n+(L.length+1)=n+1+L.length by omega]
theorem qKs (L:List Blk) (b:Blk):(⟨(mkH L).next+1,Tr.set depth (mkH L).t (mkH L).next b⟩:Hp)=mkH (L++[b]):=by
 show (⟨L.length+1,PT.set depth (mkT 0 L) L.length b⟩:Hp)=⟨(L++[b]).length,mkT 0 (L++[b])⟩
 rw [qKr,Nat.zero_add,List.length_append]
 rfl
theorem qEy {R:Type} {X:Fx R} {p:Pt} {env:Env} {t:Option R} (L:List Blk) (c:Nat) (cells:List AV) (minv minv':Nat) (hl:Nat.ble L.length roots=true) (hr:L[c]? = some ⟨cells,minv,false⟩) (hm:minv≤minv') (k:Ok X p env (mkH (L.set c ⟨cells,minv',false⟩)) t):Ok X p env (mkH L) t:=by
 intro r hr' m0 u b0 m w a x fr hnt hd rw st
 have hroot:(mkH L).t.get c=some ⟨cells,minv,false⟩:=qDy hl hr
 have hlt:c < L.length:=(List.getElem?_eq_some_iff.1 hr).1
 have hl':L.length≤roots:=Nat.le_of_ble_eq_true hl
 have hget:∀ i,i ≠ c→(mkH (L.set c ⟨cells,minv',false⟩)).t.get i=(mkH L).t.get i:=by
  intro i hi
  show (mkT 0 (L.set c ⟨cells,minv',false⟩)).get i=(mkT 0 L).get i
  rw [qAq _ _ _ (by rw [List.length_set]; omega),qAq _ _ _ (by omega)]
  simp only [Nat.zero_le,if_true,Nat.sub_zero]
  rw [List.getElem?_set,if_neg (λe=>hi e.symm)]
 have hget0:(mkH (L.set c ⟨cells,minv',false⟩)).t.get c=some ⟨cells,minv',false⟩:=qDy (by rw [List.length_set]; exact hl) (by rw [List.getElem?_set,if_pos rfl,if_pos hlt])
 refine k r hr' m0 u b0 m w a x fr hnt hd ⟨?_,?_,rw.sep,?_,rw.vle,rw.frz,?_,rw.ffin,rw.base_le,?_,rw.tyk⟩ st
 ·intro r b v B N g hm' j l
  by_cases e:r=c
  ·subst e
   rw [hget0] at g
   cases g
   exact rw.blk r ⟨cells,minv,false⟩ v B N hroot hm' (Nat.le_trans hm j) l
  ·rw [hget r e] at g
   exact rw.blk r b v B N g hm' j l
 ·intro r v B N hm'
  obtain ⟨b,h,n,o,q⟩:=rw.dom r v B N hm'
  by_cases e:r=c
  ·subst e
   rw [hroot] at h
   cases h
   exact ⟨_,hget0,n,o,q⟩
  ·exact ⟨b,by rw [hget r e]; exact h,n,o,q⟩
 ·intro r hr
  have hr:L.length≤r:=by
   have:(mkH (L.set c ⟨cells,minv',false⟩)).next=L.length:=by simp [mkH]
   rw [this] at hr; exact hr
  rw [hget r (by omega)]
  exact rw.fresh r hr
 ·intro i B cs r v N b hi hm' g
  by_cases e:r=c
  ·subst e
   have:=rw.fsep i B cs r v N _ hi hm' hroot
   cases this
  ·rw [hget r e] at g
   exact rw.fsep i B cs r v N b hi hm' g
 ·show (L.set c ⟨cells,minv',false⟩).length≤roots
  rw [List.length_set]; exact hl'
theorem ok_callM {R:Type} {X:Fx R} {p:Pt} {env:Env} {H:Hp} {α:Type} {m:Option α} {f:α→Option R} {fi:Nat} {args:List AV} (g:α→AV) (G:α→Hp) (p':Pt) (E:α→Env) (hc:callAt X.fn.ntmps p env=some (fi,args)) (hf:∀ x,m=some x→CallV X.P fi args H (g x) (G x)) (ha:∀ x,advE X.fn.ntmps p env (g x)=some (p',E x)) (k:∀ x,m=some x→Ok X p' (E x) (G x) (f x)):Ok X p env H (m.bind f):=by
 refine qA7 λx a=>?_
 have hpo:=hf x a
 have hax:=ha x
 unfold advE at hax
 unfold callAt at hc
 cases ho:operAt X.fn.ntmps p env with
 | none=>rw [ho] at hax; cases hax
 | some o =>
  rw [ho] at hax hc
  simp only [Option.some.injEq,Prod.mk.injEq] at hax hc
  obtain ⟨b,e2⟩:=hax
  obtain ⟨ops,n,K,rfl,h,j,l⟩:=qAd ho
  have kx:=k x a
  rw [← b,← e2] at kx
  split at hc
  ·rename_i c hoc
   split at hc
   ·rename_i q hq
    split at hc
    ·rename_i fi' first caps hfv
     cases hc
     exact qI h j l (.inr ⟨c,q,fi,first,caps,hoc,hq,hfv,hpo⟩) kx
    ·cases hc
   ·cases hc
  ·cases hc
theorem qA5 {P:Program} {C:Cx} {D:DP} {all l l':List Oper} {env eE e:Env} {H H':Hp} {hs a:List Hp} {fi:Nat} {args:List AV} {v:AV} (hc:callD all l env=some (fi,args)) (hpo:CallV P fi args H v H') (ha:advD D all l env v H'=some (l',eE,hs)) (k:OpsD P C D all l' eE H' e a):OpsD P C D all l env H e (hs++a):=by
 unfold callD at hc
 cases ho:headO all l env with
 | none=>rw [ho] at hc; cases hc
 | some o =>
  rw [ho] at hc
  simp only at hc
  split at hc
  ·rename_i c hoc
   split at hc
   ·rename_i q hq
    split at hc
    ·rename_i fi' first caps hfv
     cases hc
     exact qGr (v:=v) ho (.inr ⟨c,q,fi,first,caps,hoc,hq,hfv,hpo⟩) ha k
    ·cases hc
   ·cases hc
  ·cases hc
theorem ok_ownc {R:Type} {X:Fx R} {p:Pt} {env:Env} {t:Option R} (L:List Blk) (g i sz minv:Nat) (cells:List AV) (A:Nat.blt L.length roots=true) (hr:L[g]? = some ⟨cells,minv,false⟩) (hi:cells[i]? = some .nils) (k:Ok X p env (mkH (L.set g ⟨cells.set i (.own L.length 0 sz),minv,false⟩++[⟨[],0,false⟩])) t):Ok X p env (mkH L) t:=by
 intro r hr' m0 E b0 m w a F fr hnt hd rw st
 have A:L.length < roots:=by simpa using A
 have hlt:g < L.length:=(List.getElem?_eq_some_iff.1 hr).1
 have hroot:(mkH L).t.get g=some ⟨cells,minv,false⟩:=qDy (by simp; omega) hr
 refine k r hr' m0 E b0 m w a F fr hnt hd ?_ st
 have hlow:∀ r v q,m r v=some q→r < L.length:=by
  intro r v q h
  obtain ⟨b,l,_⟩:=rw.dom r v q.1 q.2 h
  exact rw.lt l
 have hget:∀ j,j ≠ g→j < L.length→(mkH (L.set g ⟨cells.set i (.own L.length 0 sz),minv,false⟩++[⟨[],0,false⟩])).t.get j=(mkH L).t.get j:=by
  intro j hj hjl
  show (mkT 0 _).get j=(mkT 0 L).get j
  rw [qAq _ _ _ (by simp; omega),qAq _ _ _ (by omega)]
  simp only [Nat.zero_le,if_true,Nat.sub_zero]
  rw [List.getElem?_append_left (by simpa using hjl),List.getElem?_set,if_neg (λe=>hj e.symm)]
 have hget0:(mkH (L.set g ⟨cells.set i (.own L.length 0 sz),minv,false⟩++[⟨[],0,false⟩])).t.get g=some ⟨cells.set i (.own L.length 0 sz),minv,false⟩:=by
  show (mkT 0 _).get g=_
  rw [qAq _ _ _ (by simp; omega)]
  simp only [Nat.zero_le,if_true,Nat.sub_zero]
  rw [List.getElem?_append_left (by simpa using hlt),List.getElem?_set,if_pos rfl,if_pos hlt]
 have hVR:∀ (cs:List Value) (v:Nat),VRs m (cells.take v) cs→VRs m ((cells.set i (.own L.length 0 sz)).take v) cs:=by
  intro cs v h
  rw [List.take_set]
  by_cases hiv:i < v
  ·have G:(cells.take v)[i]? = some .nils:=by rw [List.getElem?_take,if_pos hiv]; exact hi
   obtain ⟨c,hc,hv⟩:=VRs.get h i _ G
   simp only [VR] at hv
   have hs:=VRs.set i (.own L.length 0 sz) c h (by unfold VR; exact .inl ⟨rfl,hv⟩)
   have e:cs.set i c=cs:=by
    apply List.ext_getElem?
    intro j
    rw [List.getElem?_set]
    split
    ·rename_i e
     subst e
     split
     ·exact hc.symm
     ·rename_i hge
      rw [List.getElem?_eq_none (by omega)]
    ·rfl
   rw [e] at hs
   exact hs
  ·rw [List.set_eq_of_length_le (by simp; omega)]; exact h
 have hnext:(mkH (L.set g ⟨cells.set i (.own L.length 0 sz),minv,false⟩++[⟨[],0,false⟩])).next=L.length+1:=by simp [mkH]
 refine ⟨?_,?_,rw.sep,?_,rw.vle,rw.frz,?_,rw.ffin,rw.base_le,by rw [hnext]; exact A,rw.tyk⟩
 ·intro r b v B N l hm D C
  by_cases e:r=g
  ·subst e
   rw [hget0] at l
   cases l
   simp only [List.length_set] at C
   obtain ⟨cs,ty,fr',n,o,u,x,J⟩:=rw.blk r ⟨cells,minv,false⟩ v B N hroot hm D C
   exact ⟨cs,ty,fr',n,o,u,x,hVR _ v J⟩
  ·rw [hget r e (hlow _ _ _ hm)] at l
   exact rw.blk r b v B N l hm D C
 ·intro r v B N hm
  obtain ⟨b,n,o,u,x⟩:=rw.dom r v B N hm
  by_cases e:r=g
  ·subst e
   rw [hroot] at n
   cases n
   exact ⟨_,hget0,by simpa using o,u,x⟩
  ·exact ⟨b,by rw [hget r e (hlow _ _ _ hm)]; exact n,o,u,x⟩
 ·intro r hr
  rw [hnext] at hr
  show (mkT 0 _).get r=none
  rw [qAq _ _ _ (by simp; omega)]
  simp only [Nat.zero_le,if_true,Nat.sub_zero]
  exact List.getElem?_eq_none (by simp; omega)
 ·intro j B cs r v N b hj hm l
  by_cases e:r=g
  ·subst e
   have:=rw.fsep j B cs r v N _ hj hm hroot
   cases this
  ·rw [hget r e (hlow _ _ _ hm)] at l
   exact rw.fsep j B cs r v N b hj hm l
def PT.allB {α : Type} (p : Nat → α → Bool) : PT α → (Nat → Nat) → Bool
 | .nil,_=>true
 | .node l b r,g=>(match b with | some x=>p (g 0) x | none=>true) && l.allB p (λn=>g (2 * n+1)) && r.allB p (λn=>g (2 * n+2))
theorem PT.allB_get {α : Type} {p : Nat → α → Bool} : ∀ (t : PT α) (g : Nat → Nat), t.allB p g = true → ∀ (n : Nat) (x : α), t.get n = some x → p (g n) x = true
 | .nil,g,_,n,x,h=>by cases h
 | .node l b r,g,hh,n,x,h=>by
  simp only [PT.allB,Bool.and_eq_true] at hh
  obtain ⟨⟨c,j⟩,k⟩:=hh
  rw [PT.get_node] at h
  by_cases a:n=0
  ·rw [if_pos a] at h
   subst a
   subst h
   exact c
  ·rw [if_neg a] at h
   by_cases hm:n % 2=1
   ·rw [if_pos hm] at h
    have:=PT.allB_get l _ j _ _ h
    rwa [show 2 * (n / 2)+1=n by omega] at this
   ·rw [if_neg hm] at h
    have:=PT.allB_get r _ k _ _ h
    rwa [show 2 * (n / 2 - 1)+2=n by omega] at this
def beqZ : AV → AV → Bool
 | .top,.top=>true
 | .int k n,.int k' n'=>decide (k=k') && decide (n=n')
 | .bool a,.bool b=>a == b
 | .str a,.str b=>eqL a b
 | .nilp,.nilp=>true
 | .nils,.nils=>true
 | .nilf,.nilf=>true
 | .nili,.nili=>true
 | _,_=>false
theorem beqZ_eq {x y:AV} (h:beqZ x y=true):x=y:=by
 cases x <;> cases y <;> simp [beqZ,qFb] at h ⊢ <;> exact h
def beqZs : List AV → List AV → Bool
 | [],[]=>true
 | a::x,b::y=>beqZ a b && beqZs x y
 | _,_=>false
theorem qM5 : ∀ (x y : List AV), beqZs x y = true → x = y
 | [],[],_=>rfl
 | [],_::_,h=>by simp [beqZs] at h
 | _::_,[],h=>by simp [beqZs] at h
 | a::x,b::y,h=>by
  simp only [beqZs,Bool.and_eq_true] at h
  rw [beqZ_eq h.1,qM5 x y h.2]
def beqTi (i j:Ti):Bool :=
 Nat.beq i.size j.size && Nat.beq i.bytes j.bytes && (match i.zero,j.zero with | some a,some b=>beqZs a b | none,none=>true | _,_=>false) && decide (i.kind=j.kind) && decide (i.fields=j.fields) && Nat.beq i.elem j.elem && Nat.beq i.len j.len && decide (i.flat=j.flat)
theorem beqTi_eq {i j:Ti} (h:beqTi i j=true):i=j:=by
 obtain ⟨u,x,m,A,B,C,D,E⟩:=i
 obtain ⟨F,G,n,J,K,L,M,N⟩:=j
 simp only [beqTi,Bool.and_eq_true,decide_eq_true_eq] at h
 obtain ⟨⟨⟨⟨⟨⟨⟨a,b⟩,c⟩,o⟩,q⟩,g⟩,k⟩,r⟩:=h
 have a:=Nat.eq_of_beq_eq_true a
 have b:=Nat.eq_of_beq_eq_true b
 have g:=Nat.eq_of_beq_eq_true g
 have k:=Nat.eq_of_beq_eq_true k
 have l:m=n:=by
  cases m <;> cases n <;> simp only at c <;> first | rfl | cases c | exact congrArg some (qM5 _ _ c)
 subst a b l o q g k r
 rfl
def tiOk (P:Program) (t:Nat) (i:Ti):Bool:=match mkTi P t with | some j=>beqTi i j | none=>false
theorem tiOk_eq {P:Program} {t:Nat} {i:Ti} (h:tiOk P t i=true):mkTi P t=some i:=by
 unfold tiOk at h
 split at h
 ·rename_i j hj
  rw [hj,beqTi_eq h]
 ·cases h
def It (d:Nat) (s:ByteArray) (pos base:Nat) (m:Mp) (w:World) (a:Act):Prop :=
 ∃ B,a.tmps[d]? = some (.pointer (some ⟨B,0,none⟩))∧w.heap[B]? = some (.stringIter s pos)∧base≤B∧∀ r v N,m r v ≠ some (B,N)
section
variable {R:Type} (X:Fx R)
end
section
variable {R:Type} {X:Fx R} {p p':Pt} {env eE:Env} {H H':Hp} {d pos:Nat} {s:ByteArray}
def dneq (o:Oper) (d:Nat):Bool:=match o.dst with | some e => !Nat.beq e d | none=>true
theorem It.put {base:Nat} {m:Mp} {w:World} {a:Act} {o:Oper} (c:Value) (hd:dneq o d=true) (it:It d s pos base m w a):It d s pos base m w (a.put o.dst c):=by
 obtain ⟨B,b,g,h,j⟩:=it
 refine ⟨B,?_,g,h,j⟩
 unfold dneq at hd
 cases ho:o.dst with
 | none=>exact b
 | some e =>
  rw [ho] at hd
  simp only [Act.put]
  rw [Array.getElem?_setIfInBounds_ne]
  ·exact b
  ·rintro rfl; simp at hd
theorem It.step {base b0:Nat} {m m':Mp} {w w':World} {a:Act} (st:St m w b0 m' w') (it:It d s pos base m w a):It d s pos base m' w' a:=by
 obtain ⟨B,g,b,h,c⟩:=it
 have hlt:B < w.heap.size:=(Array.getElem?_eq_some_iff.1 b).1
 refine ⟨B,g,by rw [st.same B hlt (λr v N e=>absurd e (c r v N))]; exact b,h,?_⟩
 intro r v N e
 rcases st.ext r v B N e with ⟨j,k,l⟩ | hB
 ·exact c r j k l
 ·omega
end
end Go.Proofs.Ytjmmjhojbodbdaa.Am
set_option maxRecDepth 100000
namespace Go.Proofs.Ytjmmjhojbodbdaa.Am
noncomputable section
open Go
def tyT:PT Ti:=(.node (.node (.node (.node (.node (.node (.node .nil (some ⟨1,8,(some [.nilf]),.other,[],0,0,none⟩) .nil) (some ⟨7,104,(some [.int .i64 0,.str [],.nils,.bool false,.bool false,.nils,.nils]),.struct,[(0,3),(1,9),(2,28),(3,4),(4,4),(5,22),(6,22)],0,0,(some [(.int .i64),.string,.slice,.bool,.bool,.slice,.slice])⟩) (.node .nil (some ⟨1,8,(some [.nilf]),.other,[],0,0,none⟩) .nil)) (some ⟨1,8,(some [.nilp]),.pointer,[],109,0,none⟩) (.node (.node .nil (some ⟨1,8,(some [.nilf]),.other,[],0,0,none⟩) .nil) (some ⟨1,8,(some [.nilf]),.other,[],0,0,none⟩) (.node .nil (some ⟨0,0,(some []),.struct,[(0,110)],0,0,none⟩) .nil))) (some ⟨4,24,(some [.int .i64 0,.int .i64 0,.bool false,.int .u8 0]),.struct,[(0,2),(1,3),(2,4),(3,6)],0,0,(some [(.int .i64),(.int .i64),.bool,(.int .u8)])⟩) (.node (.node (.node .nil (some ⟨1,8,(some [.nilf]),.other,[],0,0,none⟩) .nil) (some ⟨3,32,(some [.int .i64 0,.str [],.int .i64 0]),.struct,[(0,3),(1,9),(2,3)],0,0,(some [(.int .i64),.string,(.int .i64)])⟩) (.node .nil (some ⟨1,8,(some [.nilf]),.other,[],0,0,none⟩) .nil)) (some ⟨1,24,(some [.nils]),.slice,[],3,0,none⟩) (.node (.node .nil (some ⟨0,0,(some []),.struct,[],0,0,(some [])⟩) .nil) (some ⟨1,8,(some [.nilf]),.other,[],0,0,none⟩) (.node .nil (some ⟨1,4,(some [.int .i32 0]),.int .i32,[],0,0,none⟩) .nil)))) (some ⟨1,8,(some [.int .i64 0]),.int .i64,[],0,0,none⟩) (.node (.node (.node (.node .nil (some ⟨1,8,(some [.nilf]),.other,[],0,0,none⟩) .nil) (some ⟨1,24,(some [.nils]),.slice,[],5,0,none⟩) (.node .nil (some ⟨1,8,(some [.nilf]),.other,[],0,0,none⟩) .nil)) (some ⟨1,8,(some [.nilp]),.struct,[(0,17)],0,0,none⟩) (.node (.node .nil (some ⟨1,8,(some [.nilf]),.other,[],0,0,none⟩) .nil) (some ⟨2,16,(some [.int .i64 0,.int .i64 0]),.struct,[(0,3),(1,3)],0,0,(some [(.int .i64),(.int .i64)])⟩) (.node .nil (some ⟨1,1,(some [.int .u8 0]),.int .u8,[],0,0,none⟩) .nil))) (some ⟨1,16,(some [.str []]),.string,[],0,0,none⟩) (.node (.node (.node .nil (some ⟨1,8,(some [.nilf]),.other,[],0,0,none⟩) .nil) (some ⟨1,0,(some [.top]),.other,[],0,0,none⟩) (.node .nil (some ⟨1,8,(some [.nilf]),.other,[],0,0,none⟩) .nil)) (some ⟨1,8,(some [.nilf]),.other,[],0,0,none⟩) (.node (.node .nil (some ⟨1,8,(some [.nilf]),.other,[],0,0,none⟩) .nil) (some ⟨1,8,(some [.nilf]),.other,[],0,0,none⟩) (.node .nil (some ⟨1,8,(some [.nilp]),.other,[],0,0,none⟩) .nil))))) (some ⟨1,8,(some [.nilf]),.other,[],0,0,none⟩) (.node (.node (.node (.node (.node .nil (some ⟨1,8,(some [.nilf]),.other,[],0,0,none⟩) .nil) (some ⟨1,8,(some [.nilf]),.other,[],0,0,none⟩) (.node .nil (some ⟨1,8,(some [.nilf]),.other,[],0,0,none⟩) .nil)) (some ⟨1,8,(some [.nilp]),.pointer,[],122,0,none⟩) (.node (.node .nil (some ⟨1,8,(some [.nilf]),.other,[],0,0,none⟩) .nil) (some ⟨4,24,(some [.int .i64 0,.int .i64 0,.bool false,.bool false]),.struct,[(0,3),(1,3),(2,4),(3,4)],0,0,(some [(.int .i64),(.int .i64),.bool,.bool])⟩) (.node .nil (some ⟨1,8,(some [.nilf]),.other,[],0,0,none⟩) .nil))) (some ⟨1,16,(some [.str []]),.string,[],0,0,none⟩) (.node (.node (.node .nil (some ⟨1,0,(some [.top]),.other,[],0,0,none⟩) .nil) (some ⟨1,8,(some [.nilf]),.other,[],0,0,none⟩) (.node .nil (some ⟨1,8,(some [.nilf]),.other,[],0,0,none⟩) .nil)) (some ⟨1,24,(some [.nils]),.slice,[],39,0,none⟩) (.node (.node .nil (some ⟨1,0,(some [.top]),.other,[],0,0,none⟩) .nil) (some ⟨1,8,(some [.nilf]),.other,[],0,0,none⟩) (.node .nil (some ⟨11,48,(some [.int .u64 0,.int .u64 0,.int .u32 0,.int .u8 0,.int .u8 0,.int .u8 0,.int .u8 0,.nilf,.nilp,.int .i32 0,.int .i32 0]),.struct,[(0,12),(1,12),(2,114),(3,115),(4,5),(5,5),(6,116),(7,117),(8,118),(9,119),(10,120)],0,0,none⟩) .nil)))) (some ⟨1,1,(some [.int .u8 0]),.int .u8,[],0,0,none⟩) (.node (.node (.node (.node .nil (some ⟨1,8,(some [.nilf]),.other,[],0,0,none⟩) .nil) (some ⟨1,24,(some [.nils]),.slice,[],23,0,none⟩) (.node .nil (some ⟨9,216,(some [.nils,.nils,.nils,.nils,.nils,.nils,.nils,.nils,.nils]),.array,[],22,9,(some (List.replicate 9 .slice))⟩) .nil)) (some ⟨1,4,(some [.int .i32 0]),.int .i32,[],0,0,none⟩) (.node (.node .nil (some ⟨4,56,(some [.str [],.nils,.int .i64 0,.int .i64 0]),.struct,[(0,9),(1,25),(2,3),(3,3)],0,0,(some [.string,.slice,(.int .i64),(.int .i64)])⟩) .nil) (some ⟨1,0,(some [.top]),.other,[],0,0,none⟩) (.node .nil (some ⟨1,8,(some [.nilf]),.other,[],0,0,none⟩) .nil))) (some ⟨2,24,(some [.str [],.int .u64 0]),.struct,[(0,9),(1,12)],0,0,none⟩) (.node (.node (.node .nil (some ⟨1,8,(some [.nilf]),.other,[],0,0,none⟩) .nil) (some ⟨1,8,(some [.top]),.other,[],0,0,none⟩) (.node .nil (some ⟨4,40,(some [.nilp,.nilp,.nilp,.str []]),.struct,[(0,17),(1,17),(2,17),(3,9)],0,0,none⟩) .nil)) (some ⟨1,8,(some [.nilf]),.other,[],0,0,none⟩) (.node (.node .nil (some ⟨1,8,(some [.nilf]),.other,[],0,0,none⟩) .nil) (some ⟨1,0,(some [.top]),.other,[],0,0,none⟩) .nil))))) (some ⟨1,0,(some [.top]),.other,[],0,0,none⟩) (.node (.node (.node (.node (.node (.node .nil (some ⟨1,8,(some [.nilf]),.other,[],0,0,none⟩) .nil) (some ⟨7,104,(some [.int .i64 0,.str [],.nils,.bool false,.bool false,.nils,.nils]),.struct,[(0,3),(1,9),(2,28),(3,4),(4,4),(5,22),(6,22)],0,0,(some [(.int .i64),.string,.slice,.bool,.bool,.slice,.slice])⟩) (.node .nil (some ⟨1,8,(some [.nilf]),.other,[],0,0,none⟩) .nil)) (some ⟨1,8,(some [.nilp]),.pointer,[],112,0,none⟩) (.node (.node .nil (some ⟨1,8,(some [.nilf]),.other,[],0,0,none⟩) .nil) (some ⟨4,24,(some [.int .i64 0,.int .i64 0,.bool false,.bool false]),.struct,[(0,3),(1,3),(2,4),(3,4)],0,0,(some [(.int .i64),(.int .i64),.bool,.bool])⟩) (.node .nil (some ⟨0,0,(some []),.struct,[(0,110)],0,0,none⟩) .nil))) (some ⟨4,24,(some [.int .i64 0,.int .i64 0,.bool false,.int .u8 0]),.struct,[(0,2),(1,3),(2,4),(3,6)],0,0,(some [(.int .i64),(.int .i64),.bool,(.int .u8)])⟩) (.node (.node (.node .nil (some ⟨1,8,(some [.nilf]),.other,[],0,0,none⟩) .nil) (some ⟨1,8,(some [.nilf]),.other,[],0,0,none⟩) (.node .nil (some ⟨1,8,(some [.nilf]),.other,[],0,0,none⟩) .nil)) (some ⟨1,8,(some [.int .u64 0]),.int .u64,[],0,0,none⟩) (.node (.node .nil (some ⟨0,0,(some []),.struct,[],0,0,(some [])⟩) .nil) (some ⟨1,8,(some [.nilf]),.other,[],0,0,none⟩) (.node .nil (some ⟨1,4,(some [.int .i32 0]),.int .i32,[],0,0,none⟩) .nil)))) (some ⟨1,1,(some [.bool false]),.bool,[],0,0,none⟩) (.node (.node (.node (.node .nil (some ⟨1,8,(some [.nilf]),.other,[],0,0,none⟩) .nil) (some ⟨1,8,(some [.nilf]),.other,[],0,0,none⟩) (.node .nil (some ⟨1,8,(some [.nilf]),.other,[],0,0,none⟩) .nil)) (some ⟨1,16,(some [.nili]),.iface,[],0,0,none⟩) (.node (.node .nil (some ⟨1,8,(some [.nilf]),.other,[],0,0,none⟩) .nil) (some ⟨2,16,(some [.int .i64 0,.int .i64 0]),.struct,[(0,3),(1,3)],0,0,(some [(.int .i64),(.int .i64)])⟩) (.node .nil (some ⟨1,1,(some [.int .u8 0]),.int .u8,[],0,0,none⟩) .nil))) (some ⟨1,8,(some [.int .u64 0]),.int .u64,[],0,0,none⟩) (.node (.node (.node .nil (some ⟨1,8,(some [.nilp]),.pointer,[],86,0,none⟩) .nil) (some ⟨1,8,(some [.nilf]),.other,[],0,0,none⟩) (.node .nil (some ⟨4,40,(some [.nilp,.nilp,.nilp,.str []]),.struct,[(0,17),(1,17),(2,17),(3,9)],0,0,none⟩) .nil)) (some ⟨1,24,(some [.nils]),.slice,[],32,0,none⟩) (.node (.node .nil (some ⟨1,8,(some [.nilf]),.other,[],0,0,none⟩) .nil) (some ⟨1,8,(some [.nilf]),.other,[],0,0,none⟩) .nil)))) (some ⟨1,8,(some [.int .i64 0]),.int .i64,[],0,0,none⟩) (.node (.node (.node (.node (.node .nil (some ⟨1,0,(some [.top]),.other,[],0,0,none⟩) .nil) (some ⟨1,24,(some [.nils]),.slice,[],4,0,none⟩) (.node .nil (some ⟨1,8,(some [.nilf]),.other,[],0,0,none⟩) .nil)) (some ⟨1,8,(some [.nilp]),.struct,[(0,17)],0,0,none⟩) (.node (.node .nil (some ⟨1,8,(some [.nilf]),.other,[],0,0,none⟩) .nil) (some ⟨1,8,(some [.nilf]),.other,[],0,0,none⟩) (.node .nil (some ⟨1,4,(some [.int .u32 0]),.int .u32,[],0,0,none⟩) .nil))) (some ⟨1,16,(some [.str []]),.string,[],0,0,none⟩) (.node (.node (.node .nil (some ⟨1,8,(some [.nilf]),.other,[],0,0,none⟩) .nil) (some ⟨1,8,(some [.nilf]),.other,[],0,0,none⟩) (.node .nil (some ⟨10,80,(some [.int .i64 0,.int .i64 0,.int .i64 0,.int .i64 0,.int .i64 0,.int .i64 0,.int .i64 0,.int .i64 0,.int .i64 0,.int .i64 0]),.array,[],3,10,(some (List.replicate 10 (.int .i64)))⟩) .nil)) (some ⟨1,0,(some [.top]),.other,[],0,0,none⟩) (.node (.node .nil (some ⟨1,8,(some [.nilf]),.other,[],0,0,none⟩) .nil) (some ⟨1,8,(some [.nilf]),.other,[],0,0,none⟩) (.node .nil (some ⟨11,48,(some [.int .u64 0,.int .u64 0,.int .u32 0,.int .u8 0,.int .u8 0,.int .u8 0,.int .u8 0,.nilf,.nilp,.int .i32 0,.int .i32 0]),.struct,[(0,12),(1,12),(2,114),(3,115),(4,5),(5,5),(6,116),(7,117),(8,118),(9,119),(10,120)],0,0,none⟩) .nil)))) (some ⟨1,1,(some [.int .u8 0]),.int .u8,[],0,0,none⟩) (.node (.node (.node (.node .nil (some ⟨1,8,(some [.nilf]),.other,[],0,0,none⟩) .nil) (some ⟨3,32,(some [.int .i64 0,.str [],.int .i64 0]),.struct,[(0,3),(1,9),(2,3)],0,0,(some [(.int .i64),.string,(.int .i64)])⟩) (.node .nil (some ⟨1,8,(some [.nilf]),.other,[],0,0,none⟩) .nil)) (some ⟨1,24,(some [.nils]),.slice,[],9,0,none⟩) (.node (.node .nil (some ⟨4,56,(some [.str [],.nils,.int .i64 0,.int .i64 0]),.struct,[(0,9),(1,25),(2,3),(3,3)],0,0,(some [.string,.slice,(.int .i64),(.int .i64)])⟩) .nil) (some ⟨1,8,(some [.nilf]),.other,[],0,0,none⟩) (.node .nil (some ⟨1,8,(some [.nilp]),.pointer,[],5,0,none⟩) .nil))) (some ⟨2,24,(some [.str [],.int .u64 0]),.struct,[(0,9),(1,12)],0,0,none⟩) (.node (.node (.node .nil (some ⟨1,8,(some [.nilf]),.other,[],0,0,none⟩) .nil) (some ⟨1,24,(some [.nils]),.slice,[],49,0,none⟩) (.node .nil (some ⟨0,0,(some []),.array,[],16,0,(some (List.replicate 0 .pointer))⟩) .nil)) (some ⟨1,8,(some [.nilf]),.other,[],0,0,none⟩) (.node (.node .nil (some ⟨1,8,(some [.nilf]),.other,[],0,0,none⟩) .nil) (some ⟨1,8,(some [.nilf]),.other,[],0,0,none⟩) .nil))))))
theorem tyOk:tyT.allB (tiOk Try.prog) id=true:=by decide +kernel
def cx:Cx:=⟨tyT.get⟩
theorem cxTi:∀ t i,cx.ti t=some i→mkTi Try.prog t=some i:=λt i h=>tiOk_eq (PT.allB_get tyT id tyOk t i h)
theorem cxOrd:Try.prog.follows .mixedOrders=true:=by decide +kernel
end
mutual
def renV (ρ : Nat → Nat) : AV → AV
 | .ptr r v off => .ptr (ρ r) v off
 | .slice r v off len sz => .slice (ρ r) v off len sz
 | .own r len sz => .own (ρ r) len sz
 | .optp s r v off => .optp s (ρ r) v off
 | .odat t r len sz => .odat t (ρ r) len sz
 | .ownt t r len sz => .ownt t (ρ r) len sz
 | .tptr t n r v off => .tptr t n (ρ r) v off
 | .agg xs => .agg (renVs ρ xs)
 | .tuple xs => .tuple (renVs ρ xs)
 | .func f a b => .func f (renVs ρ a) (renVs ρ b)
 | .iface t v => .iface t (renV ρ v)
 | .top => .top
 | .int k n => .int k n
 | .resid k q r => .resid k q r
 | .bool b => .bool b
 | .str s => .str s
 | .nilp => .nilp
 | .nils => .nils
 | .nilf => .nilf
 | .mapp b => .mapp b
 | .nili => .nili
 | .vec n sz c => .vec n sz c
 | .vptr c => .vptr c
def renVs (ρ : Nat → Nat) : List AV → List AV
 | []=>[]
 | x::xs=>renV ρ x::renVs ρ xs
end
mutual
theorem qGo {m m0 : Mp} {ρ : Nat → Nat} {n : Nat} (h : ∀ i v p, i < n → m (ρ i) v = some p → m0 i v = some p) (hf : ∀ i p, m.froz i = some p → m0.froz i = some p) (ht : ∀ B t, m.tys B = some t → m0.tys B = some t) : ∀ (x : AV) (c : Value), below n x = true → VR m (renV ρ x) c → VR m0 x c
 | .top,_,_,_=>by simp only [VR]
 | .int ..,_,_,e=>by simpa only [VR,renV] using e
 | .resid ..,_,_,e=>by simpa only [VR,renV] using e
 | .bool _,_,_,e=>by simpa only [VR,renV] using e
 | .str _,_,_,e=>by simpa only [VR,renV] using e
 | .nilp,_,_,e=>by simpa only [VR,renV] using e
 | .nils,_,_,e=>by simpa only [VR,renV] using e
 | .nilf,_,_,e=>by simpa only [VR,renV] using e
 | .mapp _,_,_,e=>by simpa only [VR,renV] using e
 | .nili,_,_,e=>by simpa only [VR,renV] using e
 | .vec ..,_,_,e=>by
  simp only [VR,renV] at e ⊢
  obtain ⟨o,a,cap,j,k,l,u⟩:=e
  exact ⟨o,a,cap,j,k,l,λA=>let ⟨i,B,off,all,q,r⟩:=u A; ⟨i,B,off,all,hf _ _ q,r⟩⟩
 | .vptr ..,_,_,e=>by
  simp only [VR,renV] at e ⊢
  obtain ⟨i,B,off,all,q,r⟩:=e
  exact ⟨i,B,off,all,hf _ _ q,r⟩
 | .ptr r v off,_,g,e=>by
  simp only [VR,renV,below,Nat.blt_eq] at e g ⊢
  obtain ⟨B,N,j,k⟩:=e
  exact ⟨B,N,h _ _ _ g j,k⟩
 | .slice r v off len sz,_,g,e=>by
  simp only [VR,renV,below,Nat.blt_eq] at e g ⊢
  obtain ⟨B,N,cap,j,k⟩:=e
  exact ⟨B,N,cap,h _ _ _ g j,k⟩
 | .own r len sz,_,g,e=>by
  simp only [VR,renV,below,Nat.blt_eq] at e g ⊢
  rcases e with e | ⟨B,N,cap,j,k⟩
  ·exact .inl e
  ·exact .inr ⟨B,N,cap,h _ _ _ g j,k⟩
 | .optp s r v off,_,g,e=>by
  simp only [VR,renV,below,Nat.blt_eq] at e g ⊢
  rcases e with e | ⟨e,B,N,j,k⟩
  ·exact .inl e
  ·exact .inr ⟨e,B,N,h _ _ _ g j,k⟩
 | .odat t r len sz,_,g,e=>by
  simp only [VR,renV,below,Nat.blt_eq] at e g ⊢
  rcases e with e | ⟨B,N,j,k,l⟩
  ·exact .inl e
  ·exact .inr ⟨B,N,h _ _ _ g j,ht _ _ k,l⟩
 | .ownt t r len sz,_,g,e=>by
  simp only [VR,renV,below,Nat.blt_eq] at e g ⊢
  rcases e with e | ⟨B,N,cap,j,k,l⟩
  ·exact .inl e
  ·exact .inr ⟨B,N,cap,h _ _ _ g j,ht _ _ k,l⟩
 | .tptr t n r v off,_,g,e=>by
  simp only [VR,renV,below,Nat.blt_eq] at e g ⊢
  obtain ⟨B,j,k,l⟩:=e
  exact ⟨B,h _ _ _ g j,ht _ _ k,l⟩
 | .agg xs,c,g,e=>by
  simp only [VR,renV] at e ⊢
  obtain ⟨ys,j,k⟩:=e
  exact ⟨ys,j,qB6 h hf ht xs _ (by simpa only [below] using g) k⟩
 | .tuple xs,c,g,e=>by
  simp only [VR,renV] at e ⊢
  obtain ⟨ys,j,k⟩:=e
  exact ⟨ys,j,qB6 h hf ht xs _ (by simpa only [below] using g) k⟩
 | .func f a b,c,g,e=>by
  simp only [VR,renV] at e ⊢
  simp only [below,Bool.and_eq_true] at g
  obtain ⟨ys,zs,j,k,l⟩:=e
  exact ⟨ys,zs,j,qB6 h hf ht a _ g.1 k,qB6 h hf ht b _ g.2 l⟩
 | .iface t v,c,g,e=>by
  simp only [VR,renV] at e ⊢
  obtain ⟨d,j,k⟩:=e
  exact ⟨d,j,qGo h hf ht v _ (by simpa only [below] using g) k⟩
theorem qB6 {m m0 : Mp} {ρ : Nat → Nat} {n : Nat} (h : ∀ i v p, i < n → m (ρ i) v = some p → m0 i v = some p) (hf : ∀ i p, m.froz i = some p → m0.froz i = some p) (ht : ∀ B t, m.tys B = some t → m0.tys B = some t) : ∀ (xs : List AV) (cs : List Value), belows n xs = true → VRs m (renVs ρ xs) cs → VRs m0 xs cs
 | [],_,_,e=>by simpa only [VRs,renVs] using e
 | x::xs,cs,g,e=>by
  simp only [VRs,renVs] at e ⊢
  simp only [belows,Bool.and_eq_true] at g
  obtain ⟨y,ys,rfl,j,k⟩:=e
  exact ⟨y,ys,rfl,qGo h hf ht x y g.1 j,qB6 h hf ht xs ys g.2 k⟩
end
mutual
theorem qIn {m m0 : Mp} {ρ : Nat → Nat} {n : Nat} (h : ∀ i v p, i < n → m0 i v = some p → m (ρ i) v = some p) (hf : ∀ i p, m0.froz i = some p → m.froz i = some p) (ht : ∀ B t, m0.tys B = some t → m.tys B = some t) : ∀ (x : AV) (c : Value), below n x = true → VR m0 x c → VR m (renV ρ x) c
 | .top,_,_,_=>by simp only [VR,renV]
 | .int ..,_,_,e=>by simpa only [VR,renV] using e
 | .resid ..,_,_,e=>by simpa only [VR,renV] using e
 | .bool _,_,_,e=>by simpa only [VR,renV] using e
 | .str _,_,_,e=>by simpa only [VR,renV] using e
 | .nilp,_,_,e=>by simpa only [VR,renV] using e
 | .nils,_,_,e=>by simpa only [VR,renV] using e
 | .nilf,_,_,e=>by simpa only [VR,renV] using e
 | .mapp _,_,_,e=>by simpa only [VR,renV] using e
 | .nili,_,_,e=>by simpa only [VR,renV] using e
 | .vec ..,_,_,e=>by
  simp only [VR,renV] at e ⊢
  obtain ⟨o,a,cap,j,k,l,u⟩:=e
  exact ⟨o,a,cap,j,k,l,λA=>let ⟨i,B,off,all,q,r⟩:=u A; ⟨i,B,off,all,hf _ _ q,r⟩⟩
 | .vptr ..,_,_,e=>by
  simp only [VR,renV] at e ⊢
  obtain ⟨i,B,off,all,q,r⟩:=e
  exact ⟨i,B,off,all,hf _ _ q,r⟩
 | .ptr r v off,_,g,e=>by
  simp only [VR,renV,below,Nat.blt_eq] at e g ⊢
  obtain ⟨B,N,j,k⟩:=e
  exact ⟨B,N,h _ _ _ g j,k⟩
 | .slice r v off len sz,_,g,e=>by
  simp only [VR,renV,below,Nat.blt_eq] at e g ⊢
  obtain ⟨B,N,cap,j,k⟩:=e
  exact ⟨B,N,cap,h _ _ _ g j,k⟩
 | .own r len sz,_,g,e=>by
  simp only [VR,renV,below,Nat.blt_eq] at e g ⊢
  rcases e with e | ⟨B,N,cap,j,k⟩
  ·exact .inl e
  ·exact .inr ⟨B,N,cap,h _ _ _ g j,k⟩
 | .optp s r v off,_,g,e=>by
  simp only [VR,renV,below,Nat.blt_eq] at e g ⊢
  rcases e with e | ⟨e,B,N,j,k⟩
  ·exact .inl e
  ·exact .inr ⟨e,B,N,h _ _ _ g j,k⟩
 | .odat t r len sz,_,g,e=>by
  simp only [VR,renV,below,Nat.blt_eq] at e g ⊢
  rcases e with e | ⟨B,N,j,k,l⟩
  ·exact .inl e
  ·exact .inr ⟨B,N,h _ _ _ g j,ht _ _ k,l⟩
 | .ownt t r len sz,_,g,e=>by
  simp only [VR,renV,below,Nat.blt_eq] at e g ⊢
  rcases e with e | ⟨B,N,cap,j,k,l⟩
  ·exact .inl e
  ·exact .inr ⟨B,N,cap,h _ _ _ g j,ht _ _ k,l⟩
 | .tptr t n r v off,_,g,e=>by
  simp only [VR,renV,below,Nat.blt_eq] at e g ⊢
  obtain ⟨B,j,k,l⟩:=e
  exact ⟨B,h _ _ _ g j,ht _ _ k,l⟩
 | .agg xs,c,g,e=>by
  simp only [VR,renV] at e ⊢
  obtain ⟨ys,j,k⟩:=e
  exact ⟨ys,j,qCx h hf ht xs _ (by simpa only [below] using g) k⟩
 | .tuple xs,c,g,e=>by
  simp only [VR,renV] at e ⊢
  obtain ⟨ys,j,k⟩:=e
  exact ⟨ys,j,qCx h hf ht xs _ (by simpa only [below] using g) k⟩
 | .func f a b,c,g,e=>by
  simp only [VR,renV] at e ⊢
  simp only [below,Bool.and_eq_true] at g
  obtain ⟨ys,zs,j,k,l⟩:=e
  exact ⟨ys,zs,j,qCx h hf ht a _ g.1 k,qCx h hf ht b _ g.2 l⟩
 | .iface t v,c,g,e=>by
  simp only [VR,renV] at e ⊢
  obtain ⟨d,j,k⟩:=e
  exact ⟨d,j,qIn h hf ht v _ (by simpa only [below] using g) k⟩
theorem qCx {m m0 : Mp} {ρ : Nat → Nat} {n : Nat} (h : ∀ i v p, i < n → m0 i v = some p → m (ρ i) v = some p) (hf : ∀ i p, m0.froz i = some p → m.froz i = some p) (ht : ∀ B t, m0.tys B = some t → m.tys B = some t) : ∀ (xs : List AV) (cs : List Value), belows n xs = true → VRs m0 xs cs → VRs m (renVs ρ xs) cs
 | [],_,_,e=>by simpa only [VRs,renVs] using e
 | x::xs,cs,g,e=>by
  simp only [VRs,renVs] at e ⊢
  simp only [belows,Bool.and_eq_true] at g
  obtain ⟨y,ys,rfl,j,k⟩:=e
  exact ⟨y,ys,rfl,qIn h hf ht x y g.1 j,qCx h hf ht xs ys g.2 k⟩
end
mutual
theorem qIo : ∀ x : AV, renV id x = x
 | .top | .int .. | .resid .. | .bool _ | .str _ | .nilp | .nils | .nilf | .mapp _ | .nili | .vec .. | .vptr .. | .ptr .. | .slice .. | .own .. | .optp .. | .odat .. | .tptr .. | .ownt .. => by simp [renV]
 | .agg xs=>by simp only [renV]; rw [qCy xs]
 | .tuple xs=>by simp only [renV]; rw [qCy xs]
 | .func _ a b=>by simp only [renV]; rw [qCy a,qCy b]
 | .iface _ v=>by simp only [renV]; rw [qIo v]
theorem qCy : ∀ xs : List AV, renVs id xs = xs
 | []=>rfl
 | x::xs=>by simp only [renVs]; rw [qIo x,qCy xs]
end
theorem qBe (ρ : Nat → Nat) : ∀ xs : List AV, (renVs ρ xs).length = xs.length
 | []=>rfl
 | x::xs=>by simp only [renVs,List.length_cons,qBe ρ xs]
theorem qC4 (ρ : Nat → Nat) : ∀ (xs : List AV) (k : Nat), (renVs ρ xs).take k = renVs ρ (xs.take k)
 | [],k=>by simp [renVs]
 | x::xs,0=>by simp [renVs]
 | x::xs,k+1=>by simp only [renVs,List.take_succ_cons,qC4 ρ xs k]
mutual
theorem qNo (ρ : Nat → Nat) : ∀ x : AV, pur x = true → renV ρ x = x
 | .top,_ | .int ..,_ | .resid ..,_ | .bool _,_ | .str _,_ | .nilp,_ | .nils,_ | .nilf,_ | .mapp _,_ | .nili,_ | .vec ..,_ | .vptr ..,_=>by simp [renV]
 | .ptr ..,h | .slice ..,h | .own ..,h | .optp ..,h | .odat ..,h | .tptr ..,h | .ownt ..,h=>by simp [pur] at h
 | .agg xs,h=>by simp only [pur,renV] at h ⊢; rw [qCb ρ xs h]
 | .tuple xs,h=>by simp only [pur,renV] at h ⊢; rw [qCb ρ xs h]
 | .func _ a b,h=>by simp only [pur,renV,Bool.and_eq_true] at h ⊢; rw [qCb ρ a h.1,qCb ρ b h.2]
 | .iface _ v,h=>by simp only [pur,renV] at h ⊢; rw [qNo ρ v h]
theorem qCb (ρ : Nat → Nat) : ∀ xs : List AV, purs xs = true → renVs ρ xs = xs
 | [],_=>rfl
 | x::xs,h=>by simp only [purs,renVs,Bool.and_eq_true] at h ⊢; rw [qNo ρ x h.1,qCb ρ xs h.2]
end
noncomputable def at0 (rs:LN) (i:Nat):Nat:=match nth rs i with | some r=>r | none=>0
def RB (rs:LN) (n:Nat) (b c:Blk):Prop:=c.ro=b.ro∧((c=b∧purs b.cells=true)∨(belows n b.cells=true∧c=⟨renVs (at0 rs) b.cells,b.minv,b.ro⟩))
def RBs (rs : LN) (n : Nat) (M : List Blk) : Nat → List Blk → Prop
 | _,[]=>True
 | i,b::L=>(match nth M (at0 rs i) with | some c=>RB rs n b c | none=>False)∧RBs rs n M (i+1) L
theorem qBl {rs : LN} {n : Nat} {M : List Blk} : ∀ {L : List Blk} {i j : Nat} {b : Blk}, RBs rs n M i L → L[j]? = some b → ∃ c, M[at0 rs (i + j)]? = some c ∧ RB rs n b c
 | [],i,j,b,_,h=>by simp at h
 | b0::L,i,j,b,hr,h=>by
  cases j with
  | zero =>
   simp at h
   subst h
   have a:=hr.1
   split at a
   ·rename_i c hc; exact ⟨c,by rw [← qCm]; exact hc,a⟩
   ·exact a.elim
  | succ j =>
   obtain ⟨c,a,g⟩:=qBl hr.2 (by simpa using h)
   exact ⟨c,by rw [show i+(j+1)=i+1+j by omega]; exact a,g⟩
theorem RB.cells {rs:LN} {n:Nat} {b c:Blk} (h:RB rs n b c):c.ro=b.ro∧c.ro=b.ro∧c.minv=b.minv∧belows n b.cells=true∧c.cells=renVs (at0 rs) b.cells:=by
 obtain ⟨g,⟨rfl,a⟩ | ⟨a,rfl⟩⟩:=h
 ·exact ⟨g,g,rfl,qA3 _ a,(qCb _ _ a).symm⟩
 ·exact ⟨g,rfl,rfl,a,rfl⟩
def SameB (rs : LN) : Nat → List Blk → List Blk → Prop
 | _,[],_=>True
 | _,_::_,[]=>False
 | i,b::M,c::M'=>(c=b∨(rs.any λr=>Nat.beq r i)=true)∧SameB rs (i+1) M M'
theorem qFg {rs : LN} : ∀ {M M' : List Blk} {i j : Nat}, SameB rs i M M' → j < M.length → (∀ r ∈ rs, r ≠ i + j) → M'[j]? = M[j]?
 | [],_,i,j,_,h,_=>by simp at h
 | b::M,[],i,j,h,_,_=>h.elim
 | b::M,c::M',i,j,h,hj,g=>by
  cases j with
  | zero =>
   rcases h.1 with a | a
   ·rw [a]; rfl
   ·obtain ⟨r,hr,he⟩:=List.any_eq_true.1 a
    exact absurd (Nat.eq_of_beq_eq_true he) (g r hr)
  | succ j =>
   simp only [List.getElem?_cons_succ]
   exact qFg h.2 (by simpa using hj) λr hr=>by rw [show i+1+j=i+(j+1) by omega]; exact g r hr
def frB (n k k' : Nat) : Nat → LN → Bool
 | _,[]=>true
 | i,r::l=>(bif Nat.blt i n then Nat.blt r k else Nat.ble k r && Nat.blt r k') && (l.all λs => !Nat.beq s r) && frB n k k' (i+1) l
def frOk (n n' k k':Nat) (rs:LN):Bool:=Nat.beq rs.length n' && Nat.ble n n' && Nat.ble k k' && Nat.ble k' roots && Nat.ble n' roots && frB n k k' 0 rs
theorem qH8 {n k k' : Nat} : ∀ {l : LN} {i : Nat}, frB n k k' i l = true → (∀ (j r : Nat), l[j]? = some r → (i + j < n → r < k) ∧ (n ≤ i + j → k ≤ r ∧ r < k')) ∧ (∀ (j j' r : Nat), l[j]? = some r → l[j']? = some r → j = j')
 | [],i,_=>⟨λj r h=>by simp at h,λj j' r h=>by simp at h⟩
 | b::l,i,h=>by
  simp only [frB,Bool.and_eq_true] at h
  obtain ⟨⟨a,c⟩,g⟩:=h
  obtain ⟨m,o⟩:=qH8 g
  have hne:∀ j:Nat,l[j]? ≠ some b:=by
   intro j hj
   have:=List.all_eq_true.1 c b (List.mem_of_getElem? hj)
   simp at this
  refine ⟨?_,?_⟩
  ·intro j r hj
   cases j with
   | zero =>
    simp at hj; subst hj
    refine ⟨λhlt=>?_,λhge=>?_⟩
    ·have:Nat.blt i n=true:=by simpa using hlt
     rw [this] at a; simpa using a
    ·have:Nat.blt i n=false:=by
      cases hq:Nat.blt i n with
      | false=>rfl
      | true=>rw [Nat.blt_eq] at hq; omega
     rw [this] at a; simpa using a
   | succ j =>
    have:=m j r (by simpa using hj)
    rw [show i+(j+1)=i+1+j by omega]
    exact this
  ·intro j j' r hj hj'
   cases j with
   | zero =>
    cases j' with
    | zero=>rfl
    | succ j'=>simp at hj hj'; subst hj; exact absurd hj' (hne j')
   | succ j =>
    cases j' with
    | zero=>simp at hj hj'; subst hj'; exact absurd hj (hne j)
    | succ j'=>rw [o j j' r (by simpa using hj) (by simpa using hj')]
theorem qAy {L:List Blk} (hl:L.length≤roots) (r:Nat):(mkH L).t.get r=L[r]? := by
 show (mkT 0 L).get r=_
 rw [qAq _ _ _ (by omega)]; simp
theorem frame {P : Program} {g : Nat} {ys : List AV} {L L' : List Blk} {v : AV} (h : CallT P g ys (mkH L) none v (mkH L')) (rs : LN) (M M' : List Blk)
 (hc:frOk L.length L'.length M.length M'.length rs=true) (hys:belows L.length ys=true) (hL:RBs rs L.length M 0 L) (hL':RBs rs L'.length M' 0 L') (hv:below L'.length v=true) (hS:SameB rs 0 M M') :
 CallT P g (renVs (at0 rs) ys) (mkH M) none (renV (at0 rs) v) (mkH M'):=by
 refine ⟨?_,h.2⟩
 intro m w base args hargs rw
 simp only [frOk,Bool.and_eq_true,Nat.beq_eq,Nat.ble_eq] at hc
 obtain ⟨⟨⟨⟨⟨c1,c2⟩,c3⟩,W⟩,c6⟩,Y⟩:=hc
 obtain ⟨hbd,hinj⟩:=qH8 Y
 have hat:∀ i,i < L'.length→∃ r,rs[i]? = some r∧at0 rs i=r:=by
  intro i hi
  have hi':i < rs.length:=by omega
  refine ⟨rs[i],List.getElem?_eq_getElem hi',?_⟩
  unfold at0
  rw [qCm,List.getElem?_eq_getElem hi']
 have hlow:∀ i,i < L.length→at0 rs i < M.length:=by
  intro i hi
  obtain ⟨r,a,u⟩:=hat i (by omega)
  rw [u]
  exact (hbd i r a).1 (by omega)
 have hhigh:∀ i,L.length≤i→i < L'.length→M.length≤at0 rs i:=by
  intro i hi hi'
  obtain ⟨r,a,u⟩:=hat i hi'
  rw [u]
  exact ((hbd i r a).2 (by omega)).1
 have hinj':∀ i j,i < L'.length→j < L'.length→at0 rs i=at0 rs j→i=j:=by
  intro i j hi hj e
  obtain ⟨r,a,u⟩:=hat i hi
  obtain ⟨s,Z,h4⟩:=hat j hj
  rw [u,h4] at e
  subst e
  exact hinj i j r a Z
 have hMget:=qAy (L:=M) (by omega)
 have hM'get:=qAy (L:=M') W
 have hroomL:L.length≤roots∧L'.length≤roots:=by omega
 have hLget:=qAy (L:=L) hroomL.1
 have hL'get:=qAy (L:=L') hroomL.2
 have hnoM:∀ r v,M.length≤r→m r v=none:=by
  intro r v hr
  cases e:m r v with
  | none=>rfl
  | some p =>
   obtain ⟨b,k,_⟩:=rw.dom r v p.1 p.2 e
   rw [hMget,List.getElem?_eq_none hr] at k; cases k
 let m0:Mp:=⟨λi v=>if i < L.length then m (at0 rs i) v else none,m.froz,m.tys⟩
 have n:∀ {i v p},m0 i v=some p→i < L.length∧m (at0 rs i) v=some p:=by
  intro i v p e
  have e:(if i < L.length then m (at0 rs i) v else none)=some p:=e
  by_cases hi:i < L.length
  ·rw [if_pos hi] at e; exact ⟨hi,e⟩
  ·rw [if_neg hi] at e; cases e
 have C:∀ i v p,i < L.length→m (at0 rs i) v=some p→m0 i v=some p:=by
  intro i v p hi e
  show (if i < L.length then m (at0 rs i) v else none)=some p
  rw [if_pos hi]; exact e
 have U:RW m0 (mkH L) w base:=by
  refine ⟨?_,?_,?_,?_,?_,rw.frz,?_,rw.ffin,rw.base_le,hroomL.1,rw.tyk⟩
  ·intro i b v B N k hm a u
   rw [hLget] at k
   obtain ⟨hi,hm⟩:=n hm
   obtain ⟨c,l,A⟩:=qBl hL k
   rw [Nat.zero_add] at l
   obtain ⟨G,e2,e3,e4,e5⟩:=A.cells
   obtain ⟨cs,ty,fr,J,p2,p3,p4,p5⟩:=rw.blk (at0 rs i) c v B N (by rw [hMget]; exact l) hm (by rw [e3]; exact a) (by rw [e5,qBe]; exact u)
   refine ⟨cs,ty,fr,J,p2,p3,λq=>p4 (e2.trans q),?_⟩
   rw [e5,qC4] at p5
   exact qB6 C (λ_ _ h=>h) (λ_ _ h=>h) _ _ (qB4 v e4) p5
  ·intro i v B N hm
   obtain ⟨hi,hm⟩:=n hm
   obtain ⟨c0,K,S,g3,g4⟩:=rw.dom _ _ _ _ hm
   have k:L[i]? = some L[i]:=List.getElem?_eq_getElem hi
   obtain ⟨c,l,A⟩:=qBl hL k
   rw [Nat.zero_add] at l
   rw [hMget,l] at K
   cases K
   obtain ⟨G,e2,e3,e4,e5⟩:=A.cells
   exact ⟨_,by rw [hLget]; exact k,by rw [e5,qBe] at S; exact S,g3,λq=>g4 (e2.trans q)⟩
  ·intro i v B N i' v' N' hm hm' hB
   obtain ⟨hi,hm⟩:=n hm
   obtain ⟨hi',hm'⟩:=n hm'
   exact hinj' i i' (by omega) (by omega) (rw.sep _ _ _ _ _ _ _ hm hm' hB)
  ·intro r hr
   have hr:L.length≤r:=hr
   rw [hLget,List.getElem?_eq_none hr]
  ·intro i v B N hm
   exact rw.vle _ _ _ _ (n hm).2
  ·intro i B cells r v N b hi hm k
   obtain ⟨hr,hm⟩:=n hm
   rw [hLget] at k
   obtain ⟨c,l,A⟩:=qBl hL k
   rw [Nat.zero_add] at l
   obtain ⟨G,e2,_⟩:=A.cells
   have:=rw.fsep i B cells _ v N c hi hm (by rw [hMget]; exact l)
   exact e2.symm.trans this
 have hargs0:VRs m0 ys args.toList:=qB6 C (λ_ _ h=>h) (λ_ _ h=>h) _ _ hys hargs
 refine Calls.mono (h.1 m0 w base args hargs0 U) ?_
 intro x w' hend
 have hsep:∀ {r v B N},m r v=some (B,N)→(∀ i,i < L.length→at0 rs i ≠ r)→∀ i v' N',m0 i v'=some (B,N')→B < base:=by
  intro r v B N hm hr i v' N' hi
  obtain ⟨hi,hm'⟩:=n hi
  rcases Nat.lt_or_ge B base with hlt | hge
  ·exact hlt
  ·exact absurd (rw.sep _ _ _ _ _ _ _ hm' hm hge) (hr i hi)
 obtain ⟨m1,c,rfl,o,st,hvc⟩:=hend
 have a2:∀ {i v p},m1 i v=some p→i < L'.length:=by
  intro i v p e
  obtain ⟨b,k,_⟩:=o.dom i v p.1 p.2 e
  rw [hL'get] at k
  exact (List.getElem?_eq_some_iff.1 k).1
 have hσ:∀ r,(∃ i,i < L'.length∧at0 rs i=r)∨(∀ i,i < L'.length→at0 rs i ≠ r):=by
  intro r
  rcases Classical.em (∃ i,i < L'.length∧at0 rs i=r) with h | h
  ·exact .inl h
  ·exact .inr λi hi e=>h ⟨i,hi,e⟩
 let O:Mp:=⟨λr v=>if h:∃ i,i < L'.length∧at0 rs i=r then m1 (Classical.choose h) v else m r v,m1.froz,m1.tys⟩
 have hin:∀ {i v},i < L'.length→O (at0 rs i) v=m1 i v:=by
  intro i v hi
  have hex:∃ j,j < L'.length∧at0 rs j=at0 rs i:=⟨i,hi,rfl⟩
  show (if h:∃ j,j < L'.length∧at0 rs j=at0 rs i then m1 (Classical.choose h) v else m (at0 rs i) v)=_
  rw [dif_pos hex]
  have hs:=Classical.choose_spec hex
  rw [hinj' _ _ hs.1 hi hs.2]
 have hout:∀ {r v},(∀ i,i < L'.length→at0 rs i ≠ r)→O r v=m r v:=by
  intro r v hr
  show (if h:∃ j,j < L'.length∧at0 rs j=r then m1 (Classical.choose h) v else m r v)=_
  rw [dif_neg]
  rintro ⟨j,a,u⟩
  exact hr j a u
 have hfwd:∀ i v p,i < L'.length→m1 i v=some p→O (at0 rs i) v=some p:=λi v p hi e=>by rw [hin hi]; exact e
 have hsub:Sub m O:=by
  refine ⟨?_,λi p hp=>st.sub.2 i p hp,λB t hp=>st.sub.3 B t hp⟩
  intro r v p hp
  rcases hσ r with ⟨i,hi,rfl⟩ | hr
  ·rw [hin hi]
   rcases Nat.lt_or_ge i L.length with a | a
   ·exact st.sub.1 i v p (C i v p a hp)
   ·have:=hnoM _ v (hhigh i a hi)
    rw [this] at hp; cases hp
  ·rw [hout hr]; exact hp
 have hother:∀ {r v B N},(∀ i,i < L'.length→at0 rs i ≠ r)→m r v=some (B,N)→w'.heap[B]? = w.heap[B]? := by
  intro r v B N hr hm
  obtain ⟨b,l,A,D,T⟩:=rw.dom r v B N hm
  exact st.same B D λi v' N' e=>hsep hm (λi hi=>hr i (by omega)) i v' N' e
 have hsameM:∀ {r b},(∀ i,i < L'.length→at0 rs i ≠ r)→r < M.length→M'[r]? = some b→M[r]? = some b:=by
  intro r b hr hlt k
  rw [← qFg hS hlt]
  ·exact k
  ·intro s hs
   obtain ⟨j,hj⟩:=List.mem_iff_getElem?.1 hs
   have hjl:j < L'.length:=by
    have:=(List.getElem?_eq_some_iff.1 hj).1
    omega
   obtain ⟨s',a,u⟩:=hat j hjl
   rw [hj] at a
   cases a
   rw [Nat.zero_add,← u]
   exact hr j hjl
 have hltM:∀ {r v p},m r v=some p→r < M.length:=by
  intro r v p hm
  rcases Nat.lt_or_ge r M.length with a | a
  ·exact a
  ·rw [hnoM r v a] at hm; cases hm
 have hsep2:∀ {i r v v' B N N'},i < L'.length→(∀ i,i < L'.length→at0 rs i ≠ r)→m1 i v=some (B,N)→m r v'=some (B,N')→base≤B→False:=by
  intro i r v v' B N N' hi hr a u hB
  rcases st.ext i v B N a with ⟨E,F,V⟩ | hnew
  ·exact absurd (hsep u (λi hi=>hr i (by omega)) i E F V) (by omega)
  ·obtain ⟨_,_,_,D,_⟩:=rw.dom r v' B N' u
   omega
 refine ⟨O,c,rfl,⟨?_,?_,?_,?_,?_,o.frz,?_,o.ffin,o.base_le,W,o.tyk⟩,⟨hsub,?_,?_,st.size,st.os,st.tape,st.output,λB hB hm=>st.same B hB λi v N e=>hm _ v N (n e).2⟩,qIn hfwd (λ_ _ h=>h) (λ_ _ h=>h) v c hv hvc⟩
 ·intro r b v B N k hm a u
  rw [hM'get] at k
  rcases hσ r with ⟨i,hi,rfl⟩ | hr
  ·rw [hin hi] at hm
   have hbl:L'[i]? = some L'[i]:=List.getElem?_eq_getElem hi
   obtain ⟨c',l,A⟩:=qBl hL' hbl
   rw [Nat.zero_add,k] at l
   cases l
   obtain ⟨G,e2,e3,e4,e5⟩:=A.cells
   rw [e3] at a
   rw [e5,qBe] at u
   obtain ⟨cs,ty,fr,J,p2,p3,p4,p5⟩:=o.blk i _ v B N (by rw [hL'get]; exact hbl) hm a u
   refine ⟨cs,ty,fr,J,p2,p3,λq=>p4 (G.symm.trans q),?_⟩
   rw [e5,qC4]
   exact qCx hfwd (λ_ _ h=>h) (λ_ _ h=>h) _ _ (qB4 v e4) p5
  ·rw [hout hr] at hm
   have hbM:=hsameM hr (hltM hm) k
   obtain ⟨cs,ty,fr,J,p2,p3,p4,p5⟩:=rw.blk r b v B N (by rw [hMget]; exact hbM) hm a u
   exact ⟨cs,ty,fr,by rw [hother hr hm]; exact J,p2,p3,p4,VRs.mono hsub _ _ p5⟩
 ·intro r v B N hm
  rcases hσ r with ⟨i,hi,rfl⟩ | hr
  ·rw [hin hi] at hm
   obtain ⟨b,l,A,D,T⟩:=o.dom i v B N hm
   rw [hL'get] at l
   obtain ⟨c',K,S⟩:=qBl hL' l
   rw [Nat.zero_add] at K
   obtain ⟨G,e2,e3,e4,e5⟩:=S.cells
   exact ⟨c',by rw [hM'get]; exact K,by rw [e5,qBe]; exact A,D,λq=>T (G.symm.trans q)⟩
  ·rw [hout hr] at hm
   obtain ⟨b,l,A,D,T⟩:=rw.dom r v B N hm
   rw [hMget] at l
   have hlt:=(List.getElem?_eq_some_iff.1 l).1
   have hM'r:M'[r]? = some b:=by
    have hlt':r < M'.length:=by omega
    have:=hsameM (b:=M'[r]) hr hlt (List.getElem?_eq_getElem hlt')
    rw [l] at this
    rw [List.getElem?_eq_getElem hlt',← this]
   exact ⟨b,by rw [hM'get]; exact hM'r,A,Nat.lt_of_lt_of_le D st.size,T⟩
 ·intro r v B N r' v' N' hm hm' hB
  rcases hσ r with ⟨i,hi,rfl⟩ | hr
  ·rw [hin hi] at hm
   rcases hσ r' with ⟨j,hj,rfl⟩ | hr'
   ·rw [hin hj] at hm'
    rw [o.sep _ _ _ _ _ _ _ hm hm' hB]
   ·rw [hout hr'] at hm'
    exact (hsep2 hi hr' hm hm' hB).elim
  ·rw [hout hr] at hm
   rcases hσ r' with ⟨j,hj,rfl⟩ | hr'
   ·rw [hin hj] at hm'
    exact (hsep2 hj hr hm' hm hB).elim
   ·rw [hout hr'] at hm'
    exact rw.sep _ _ _ _ _ _ _ hm hm' hB
 ·intro r hr
  have hr:M'.length≤r:=hr
  rw [hM'get,List.getElem?_eq_none hr]
 ·intro r v B N hm
  rcases hσ r with ⟨i,hi,rfl⟩ | hr
  ·rw [hin hi] at hm; exact o.vle _ _ _ _ hm
  ·rw [hout hr] at hm; exact rw.vle _ _ _ _ hm
 ·intro i B cells r v N b hi hm k
  rw [hM'get] at k
  rcases hσ r with ⟨j,hj,rfl⟩ | hr
  ·rw [hin hj] at hm
   have hbl:L'[j]? = some L'[j]:=List.getElem?_eq_getElem hj
   have:=o.fsep i B cells j v N _ hi hm (by rw [hL'get]; exact hbl)
   obtain ⟨c',l,A⟩:=qBl hL' hbl
   rw [Nat.zero_add,k] at l
   cases l
   exact A.1.trans this
  ·rw [hout hr] at hm
   have hbM:=hsameM hr (hltM hm) k
   rcases st.fext i B cells hi with hold | ⟨hB,⟨j,E,F,hj⟩ | hnew⟩
   ·exact rw.fsep i B cells r v N b hold hm (by rw [hMget]; exact hbM)
   ·exact absurd (hsep hm (λi hi=>hr i (by omega)) j E F hj) (by omega)
   ·obtain ⟨_,_,_,D,_⟩:=rw.dom r v B N hm
    omega
 ·intro r v B N hm
  rcases hσ r with ⟨i,hi,rfl⟩ | hr
  ·rw [hin hi] at hm
   rcases st.ext i v B N hm with ⟨E,F,V⟩ | hnew
   ·exact .inl ⟨E,F,(n V).2⟩
   ·exact .inr hnew
  ·rw [hout hr] at hm
   exact .inl ⟨v,N,hm⟩
 ·intro i B cells hi
  rcases st.fext i B cells hi with hold | ⟨hB,⟨j,E,F,hj⟩ | hnew⟩
  ·exact .inl hold
  ·exact .inr ⟨hB,.inl ⟨_,E,F,(n hj).2⟩⟩
  ·exact .inr ⟨hB,.inr hnew⟩
mutual
theorem qEr (ρ : Nat → Nat) : ∀ x : AV, pur (renV ρ x) = true → pur x = true
 | .top,_ | .int ..,_ | .resid ..,_ | .bool _,_ | .str _,_ | .nilp,_ | .nils,_ | .nilf,_ | .mapp _,_ | .nili,_ | .vec ..,_ | .vptr ..,_=>by simp [pur]
 | .ptr ..,h | .slice ..,h | .own ..,h | .optp ..,h | .odat ..,h | .tptr ..,h | .ownt ..,h=>by simp [pur,renV] at h
 | .agg xs,h=>by simp only [pur,renV] at h ⊢; exact qBq ρ xs h
 | .tuple xs,h=>by simp only [pur,renV] at h ⊢; exact qBq ρ xs h
 | .func _ a b,h=>by simp only [pur,renV,Bool.and_eq_true] at h ⊢; exact ⟨qBq ρ a h.1,qBq ρ b h.2⟩
 | .iface _ v,h=>by simp only [pur,renV] at h ⊢; exact qEr ρ v h
theorem qBq (ρ : Nat → Nat) : ∀ xs : List AV, purs (renVs ρ xs) = true → purs xs = true
 | [],_=>rfl
 | x::xs,h=>by simp only [purs,renVs,Bool.and_eq_true] at h ⊢; exact ⟨qEr ρ x h.1,qBq ρ xs h.2⟩
end
def dOk (rs a D : LN) : Nat → List Blk → Prop
 | _,[]=>True
 | r,b::M=>((D.any λs=>Nat.beq s r)=true∨(purs b.cells=true∧(a.all λi => !Nat.beq (at0 rs i) r)=true))∧dOk rs a D (r+1) M
theorem qK2 {rs c D : LN} : ∀ {M : List Blk} {r j : Nat} {b : Blk}, dOk rs c D r M → M[j]? = some b → r + j ∉ D → purs b.cells = true ∧ ∀ i ∈ c, at0 rs i ≠ r + j
 | [],r,j,b,_,h,_=>by simp at h
 | b0::M,r,j,b,h,hj,g=>by
  cases j with
  | zero =>
   simp at hj
   subst hj
   rcases h.1 with a | ⟨a,k⟩
   ·obtain ⟨s,hs,he⟩:=List.any_eq_true.1 a
    have:=Nat.eq_of_beq_eq_true he
    subst this
    exact absurd hs g
   ·refine ⟨a,λi hi e=>?_⟩
    have:=List.all_eq_true.1 k i hi
    rw [e] at this
    simp at this
  | succ j =>
   have:=qK2 h.2 (j:=j) (b:=b) (by simpa using hj) (by rw [show r+1+j=r+(j+1) by omega]; exact g)
   rw [show r+(j+1)=r+1+j by omega]
   exact this
theorem frameTh2 {P : Program} {g : Nat} {ys : List AV} {L L' : List Blk} {t : Value} {D0 : LN} {v : AV} (h : CallT P g ys (mkH L) (some (t, D0)) v (mkH L')) (rs : LN) (M M' : List Blk) (D : LN)
 (hc:frOk L.length L.length M.length M.length rs=true) (hys:belows L.length ys=true) (hL:RBs rs L.length M 0 L) (hL':RBs rs L.length M' 0 L') (hLl:L'.length=L.length) (hMl:M'.length=M.length) (hS:SameB rs 0 M M') (hD:dOk rs D0 D 0 M') (v':AV) :
 CallT P g (renVs (at0 rs) ys) (mkH M) (some (t,D)) v' (mkH M'):=by
 refine ⟨?_,h.2⟩
 intro m w base args hargs rw
 simp only [frOk,Bool.and_eq_true,Nat.beq_eq,Nat.ble_eq] at hc
 obtain ⟨⟨⟨⟨⟨c1,c2⟩,c3⟩,c4⟩,c6⟩,c5⟩:=hc
 obtain ⟨hbd,hinj⟩:=qH8 c5
 have hat:∀ i,i < L.length→∃ r,rs[i]? = some r∧at0 rs i=r:=by
  intro i hi
  have hi':i < rs.length:=by omega
  refine ⟨rs[i],List.getElem?_eq_getElem hi',?_⟩
  unfold at0
  rw [qCm,List.getElem?_eq_getElem hi']
 have hlow:∀ i,i < L.length→at0 rs i < M.length:=by
  intro i hi
  obtain ⟨r,n,A⟩:=hat i (by omega)
  rw [A]
  exact (hbd i r n).1 (by omega)
 have hhigh:∀ i,L.length≤i→i < L.length→M.length≤at0 rs i:=by
  intro i hi hi'
  obtain ⟨r,n,A⟩:=hat i hi'
  rw [A]
  exact ((hbd i r n).2 (by omega)).1
 have hinj':∀ i j,i < L.length→j < L.length→at0 rs i=at0 rs j→i=j:=by
  intro i j hi hj e
  obtain ⟨r,n,A⟩:=hat i hi
  obtain ⟨s,h3,h4⟩:=hat j hj
  rw [A,h4] at e
  subst e
  exact hinj i j r n h3
 have hMget:=qAy (L:=M) (by omega)
 have hMget:=qAy (L:=M) c4
 have hroomL:L.length≤roots∧L.length≤roots:=by omega
 have hLget:=qAy (L:=L) hroomL.1
 have hLget':=qAy (L:=L') (by omega)
 have hMget':=qAy (L:=M') (by omega)
 have hsame:∀ r,r < M.length→(∀ i,i < L.length→at0 rs i ≠ r)→M'[r]? = M[r]? := by
  intro r hr hno
  refine qFg hS hr λs hs e=>?_
  obtain ⟨i,hi,rfl⟩:=List.getElem_of_mem hs
  have hi':i < L.length:=by omega
  obtain ⟨q,n,A⟩:=hat i hi'
  rw [List.getElem?_eq_getElem hi] at n
  cases n
  exact hno i hi' (by rw [A,e,Nat.zero_add])
 have hnoM:∀ r v,M.length≤r→m r v=none:=by
  intro r v hr
  cases e:m r v with
  | none=>rfl
  | some p =>
   obtain ⟨b,a,_⟩:=rw.dom r v p.1 p.2 e
   rw [hMget,List.getElem?_eq_none hr] at a; cases a
 let m0:Mp:=⟨λi v=>if i < L.length then m (at0 rs i) v else none,m.froz,m.tys⟩
 have l:∀ {i v p},m0 i v=some p→i < L.length∧m (at0 rs i) v=some p:=by
  intro i v p e
  have e:(if i < L.length then m (at0 rs i) v else none)=some p:=e
  by_cases hi:i < L.length
  ·rw [if_pos hi] at e; exact ⟨hi,e⟩
  ·rw [if_neg hi] at e; cases e
 have C:∀ i v p,i < L.length→m (at0 rs i) v=some p→m0 i v=some p:=by
  intro i v p hi e
  show (if i < L.length then m (at0 rs i) v else none)=some p
  rw [if_pos hi]; exact e
 have V:RW m0 (mkH L) w base:=by
  refine ⟨?_,?_,?_,?_,?_,rw.frz,?_,rw.ffin,rw.base_le,hroomL.1,rw.tyk⟩
  ·intro i b v B N a hm n A
   rw [hLget] at a
   obtain ⟨hi,hm⟩:=l hm
   obtain ⟨c,k,u⟩:=qBl hL a
   rw [Nat.zero_add] at k
   obtain ⟨G,e2,e3,e4,e5⟩:=u.cells
   obtain ⟨cs,ty,fr,J,p2,p3,p4,p5⟩:=rw.blk (at0 rs i) c v B N (by rw [hMget]; exact k) hm (by rw [e3]; exact n) (by rw [e5,qBe]; exact A)
   refine ⟨cs,ty,fr,J,p2,p3,λq=>p4 (e2.trans q),?_⟩
   rw [e5,qC4] at p5
   exact qB6 C (λ_ _ h=>h) (λ_ _ h=>h) _ _ (qB4 v e4) p5
  ·intro i v B N hm
   obtain ⟨hi,hm⟩:=l hm
   obtain ⟨c0,K,T,W,g4⟩:=rw.dom _ _ _ _ hm
   have a:L[i]? = some L[i]:=List.getElem?_eq_getElem hi
   obtain ⟨c,k,u⟩:=qBl hL a
   rw [Nat.zero_add] at k
   rw [hMget,k] at K
   cases K
   obtain ⟨G,e2,e3,e4,e5⟩:=u.cells
   exact ⟨_,by rw [hLget]; exact a,by rw [e5,qBe] at T; exact T,W,λq=>g4 (e2.trans q)⟩
  ·intro i v B N i' v' N' hm hm' hB
   obtain ⟨hi,hm⟩:=l hm
   obtain ⟨hi',hm'⟩:=l hm'
   exact hinj' i i' (by omega) (by omega) (rw.sep _ _ _ _ _ _ _ hm hm' hB)
  ·intro r hr
   have hr:L.length≤r:=hr
   rw [hLget,List.getElem?_eq_none hr]
  ·intro i v B N hm
   exact rw.vle _ _ _ _ (l hm).2
  ·intro i B cells r v N b hi hm a
   obtain ⟨hr,hm⟩:=l hm
   rw [hLget] at a
   obtain ⟨c,k,u⟩:=qBl hL a
   rw [Nat.zero_add] at k
   obtain ⟨G,e2,_⟩:=u.cells
   have:=rw.fsep i B cells _ v N c hi hm (by rw [hMget]; exact k)
   exact e2.symm.trans this
 have hargs0:VRs m0 ys args.toList:=qB6 C (λ_ _ h=>h) (λ_ _ h=>h) _ _ hys hargs
 refine Calls.mono (h.1 m0 w base args hargs0 V) ?_
 intro x w' hend
 have hsep:∀ {r v B N},m r v=some (B,N)→(∀ i,i < L.length→at0 rs i ≠ r)→∀ i v' N',m0 i v'=some (B,N')→B < base:=by
  intro r v B N hm hr i v' N' hi
  obtain ⟨hi,hm'⟩:=l hi
  rcases Nat.lt_or_ge B base with hlt | hge
  ·exact hlt
  ·exact absurd (rw.sep _ _ _ _ _ _ _ hm' hm hge) (hr i hi)
 obtain ⟨rfl,q,m1,d1,⟨d2,d2t⟩,d3,o⟩:=hend
 have hin:∀ {r v p},(if r ∈ D then none else m r v)=some p→r ∉ D∧m r v=some p∧∀ i,i < L.length→at0 rs i=r→m1 i v=some p:=by
  intro r v p e
  by_cases hr:r ∈ D
  ·rw [if_pos hr] at e; cases e
  ·rw [if_neg hr] at e
   refine ⟨hr,e,λi hi hir=>?_⟩
   subst hir
   have hlt:at0 rs i < M'.length:=by rw [hMl]; exact hlow i hi
   obtain ⟨_,hne⟩:=qK2 (b:=M'[at0 rs i]) hD (List.getElem?_eq_getElem hlt) (by rw [Nat.zero_add]; exact hr)
   rw [d1,if_neg (λE=>hne i E (by rw [Nat.zero_add]))]
   exact C i v p hi e
 have hltM:∀ {r v p},m r v=some p→r < M.length:=by
  intro r v p hm
  rcases Nat.lt_or_ge r M.length with n | n
  ·exact n
  ·rw [hnoM r v n] at hm; cases hm
 refine ⟨rfl,⟨q.size,q.os,q.tape,q.output,λB hB hm=>q.same B hB λi v N e=>hm _ v N (l e).2⟩,⟨λr v=>if r ∈ D then none else m r v,m1.froz,m1.tys⟩,λ_ _=>rfl,⟨d2,d2t⟩,?_,?_⟩
 ·intro i B cells hi
  rcases d3 i B cells hi with h | ⟨hB,⟨r,v,N,hm⟩ | hn⟩
  ·exact .inl h
  ·exact .inr ⟨hB,.inl ⟨_,v,N,(l hm).2⟩⟩
  ·exact .inr ⟨hB,.inr hn⟩
 ·refine ⟨?_,?_,?_,?_,?_,o.frz,?_,o.ffin,o.base_le,by show M'.length≤roots; omega,o.tyk⟩
  ·intro r b v B N a hm n A
   rw [hMget'] at a
   obtain ⟨hr,hm,hcal⟩:=hin hm
   have hpur:=(qK2 hD a (by rw [Nat.zero_add]; exact hr)).1
   rcases Classical.em (∃ i,i < L.length∧at0 rs i=r) with ⟨i,hi,rfl⟩ | hno
   ·have F:=hcal i hi rfl
    have E:i < L'.length:=by omega
    have hbl:L'[i]? = some L'[i]:=List.getElem?_eq_getElem E
    obtain ⟨c',k,u⟩:=qBl hL' hbl
    rw [Nat.zero_add,a] at k
    cases k
    obtain ⟨G,e2,e3,e4,e5⟩:=u.cells
    rw [e3] at n
    rw [e5,qBe] at A
    obtain ⟨cs,ty,fr,J,p2,p3,p4,p5⟩:=o.blk i _ v B N (by rw [hLget']; exact hbl) F n A
    refine ⟨cs,ty,fr,J,p2,p3,λq=>p4 (G.symm.trans q),?_⟩
    have O:purs (L'[i].cells.take v)=true:=by
     rcases u.2 with ⟨Y,S⟩ | ⟨Y,S⟩
     ·exact qCn _ v S
     ·rw [e5] at hpur
      exact qCn _ v (qBq _ _ hpur)
    rw [e5,qC4,qCb _ _ O]
    exact VRs.mono (m:=m1.still) (m':=⟨λr v=>if r ∈ D then none else m r v,m1.froz,m1.tys⟩) ⟨λ_ _ _ h=>(by cases h),λ_ _ h=>h,λ_ _ h=>(by cases h)⟩ _ _ (qBk _ _ O p5)
   ·have hout:∀ i,i < L.length→at0 rs i ≠ r:=λi hi e=>hno ⟨i,hi,e⟩
    rw [hsame r (hltM hm) hout] at a
    obtain ⟨cs,ty,fr,J,p2,p3,p4,p5⟩:=rw.blk r b v B N (by rw [hMget]; exact a) hm n A
    obtain ⟨_,_,_,W,_⟩:=rw.dom r v B N hm
    refine ⟨cs,ty,fr,by rw [q.same B W λi v' N' e=>hsep hm hout i v' N' e]; exact J,p2,p3,p4,?_⟩
    exact VRs.mono (m:=m.still) (m':=⟨λr v=>if r ∈ D then none else m r v,m1.froz,m1.tys⟩) ⟨λ_ _ _ h=>(by cases h),λi p h=>d2 i p h,λ_ _ h=>(by cases h)⟩ _ _ (qBk _ _ (qCn _ v hpur) p5)
  ·intro r v B N hm
   obtain ⟨hr,hm,hcal⟩:=hin hm
   rcases Classical.em (∃ i,i < L.length∧at0 rs i=r) with ⟨i,hi,rfl⟩ | hno
   ·obtain ⟨b,k,u,U,Z⟩:=o.dom i v B N (hcal i hi rfl)
    rw [hLget'] at k
    obtain ⟨c',K,T⟩:=qBl hL' k
    rw [Nat.zero_add] at K
    obtain ⟨G,e2,e3,e4,e5⟩:=T.cells
    exact ⟨c',by rw [hMget']; exact K,by rw [e5,qBe]; exact u,U,λh=>Z (G.symm.trans h)⟩
   ·have hout:∀ i,i < L.length→at0 rs i ≠ r:=λi hi e=>hno ⟨i,hi,e⟩
    obtain ⟨b,k,u,U,Z⟩:=rw.dom r v B N hm
    rw [hMget,← hsame r (hltM hm) hout] at k
    exact ⟨b,by rw [hMget']; exact k,u,Nat.lt_of_lt_of_le U q.size,Z⟩
  ·intro r v B N r' v' N' hm hm' hB
   exact rw.sep _ _ _ _ _ _ _ (hin hm).2.1 (hin hm').2.1 hB
  ·intro r hr
   have hr:M'.length≤r:=hr
   rw [hMget',List.getElem?_eq_none hr]
  ·intro r v B N hm
   exact rw.vle _ _ _ _ (hin hm).2.1
  ·intro i B cells r v N b hi hm a
   obtain ⟨hr,hm,hcal⟩:=hin hm
   rw [hMget'] at a
   rcases Classical.em (∃ i,i < L.length∧at0 rs i=r) with ⟨j,hj,rfl⟩ | hno
   ·have F:=hcal j hj rfl
    have a0:j < L'.length:=by omega
    have hbl:L'[j]? = some L'[j]:=List.getElem?_eq_getElem a0
    have:=o.fsep i B cells j v N _ hi F (by rw [hLget']; exact hbl)
    obtain ⟨c',k,u⟩:=qBl hL' hbl
    rw [Nat.zero_add,a] at k
    cases k
    exact u.1.trans this
   ·have hout:∀ i,i < L.length→at0 rs i ≠ r:=λi hi e=>hno ⟨i,hi,e⟩
    rw [hsame r (hltM hm) hout] at a
    rcases d3 i B cells hi with hold | ⟨hB,⟨j,v0,N0,hj⟩ | hnew⟩
    ·exact rw.fsep i B cells r v N b hold hm (by rw [hMget]; exact a)
    ·exact absurd (hsep hm hout j v0 N0 hj) (by omega)
    ·obtain ⟨_,_,_,U,_⟩:=rw.dom r v B N hm
     omega
theorem qFq (rs : LN) : ∀ (i : Nat) (M : List Blk), SameB rs i M M
 | _,[]=>trivial
 | i,b::M=>⟨.inl rfl,qFq rs (i+1) M⟩
theorem frameTh {P : Program} {g : Nat} {ys : List AV} {L : List Blk} {t : Value} {a : LN} {v : AV} (h : CallT P g ys (mkH L) (some (t, a)) v (mkH L)) (rs : LN) (M : List Blk) (D : LN)
 (hc:frOk L.length L.length M.length M.length rs=true) (hys:belows L.length ys=true) (hL:RBs rs L.length M 0 L) (hD:dOk rs a D 0 M) (v':AV) :
 CallT P g (renVs (at0 rs) ys) (mkH M) (some (t,D)) v' (mkH M):=frameTh2 h rs M M D hc hys hL hL rfl rfl (qFq rs 0 M) hD v'
theorem qBf {P : Program} {Q : Exit → Act → World → Prop} {a : Act} {w : World} {ch : List PanicEntry} (h : Q (.panic ch) a w) : ∀ (K : List Fr), FinK P Q K (.panic ch) a w
 | []=>h
 | .seq b::K=>qBf h K
 | .loop b::K=>qBf h K
 | .block b::K=>qBf h K
 | .scope b::K=>qBf h K
noncomputable def advT (D:DP) (all l:List Oper) (env:Env) (H:Hp):Option (List Oper×Env×List Hp):=match headO all l env with | some o=>some (l.tail,putV env o.dst .top,bif Nat.beq (clsS D.S o) 2 then [H] else []) | none=>none
noncomputable def advN (D:DP) (l:List Oper) (env:Env) (H:Hp):Option (List Oper×Env×List Hp):=match l with | o::l=>some (l,putV env o.dst .top,bif Nat.beq (clsS D.S o) 2 then [H] else []) | []=>none
abbrev bT {α R:Type} (m:Option (Option α)) (f:α→Option (Option R)):Option (Option R) :=
 m.bind λx=>match x with | none=>some none | some y=>f y
section
variable {R:Type} {X:Fx (Option R)} {p p':Pt} {env eE:Env} {H H':Hp}
def keepOk (DX D : LN) : Nat → List Blk → List Blk → Prop
 | _,[],_=>True
 | _,_::_,[]=>False
 | r,b::LX,c::L=>((DX.any λs=>Nat.beq s r)=true∨((D.all λs => !Nat.beq s r)=true∧c=b∧purs b.cells=true))∧keepOk DX D (r+1) LX L
theorem qFz {DX D : LN} : ∀ {LX L : List Blk} {r j : Nat}, keepOk DX D r LX L → j < LX.length → r + j ∈ DX ∨ (r + j ∉ D ∧ ∃ b, L[j]? = some b ∧ LX[j]? = some b ∧ purs b.cells = true)
 | [],_,r,j,_,h=>by simp at h
 | b::LX,[],r,j,h,_=>h.elim
 | b::LX,c::L,r,j,h,hj=>by
  cases j with
  | zero =>
   rcases h.1 with a | ⟨a,rfl,g⟩
   ·obtain ⟨s,hs,he⟩:=List.any_eq_true.1 a
    have:=Nat.eq_of_beq_eq_true he
    subst this
    exact .inl hs
   ·refine .inr ⟨λhD=>?_,_,rfl,rfl,g⟩
    have:=List.all_eq_true.1 a _ hD
    simp at this
  | succ j =>
   rw [show r+(j+1)=r+1+j by omega]
   simpa using qFz h.2 (by simpa using hj)
theorem qN0 {tv : Value} {D DX : LN} {LX L : List Blk} {m0 m : Mp} {a w w' : World} {b0 : Nat} (hX : X.thr none = some (tv, DX)) (l : X.fin none = mkH LX) (c : X.n0 = LX.length) (hl : (Nat.ble LX.length roots && Nat.ble L.length roots) = true) (hk : keepOk DX D 0 LX L) (g : (∀ r v p, m0 r v = some p → r < X.n0) ∧ b0 ≤ a.heap.size) (st : St m0 a b0 m w) (q : Thr D (mkH L) m w b0 w') :
 EndT (X.thr none) (X.enc none) (X.fin none) m0 a b0 (.panicked [{ v:=tv,recovered:=false }]) w':=by
 rw [hX,l]
 simp only [Bool.and_eq_true,Nat.ble_eq] at hl
 have k:=qAy (L:=LX) hl.1
 have n:=qAy (L:=L) hl.2
 refine ⟨rfl,thr_up g.2 st g.1 q (λr hr=>?_) (λr hr=>?_) hl.1⟩
 ·rw [c] at hr
  have:=qFz (j:=r) hk hr
  rw [Nat.zero_add] at this
  rw [k,n]
  exact this.imp_right λh=>⟨h.1,let ⟨b,o,e2,e3⟩:=h.2; ⟨b,b,o,e2,.same e3⟩⟩
 ·have hr:LX.length≤r:=hr
  rw [k,List.getElem?_eq_none hr]
theorem qHz {tv:Value} {o:Oper} {D DX:LN} {LX L:List Blk} (hX:X.thr none=some (tv,DX)) (g:X.fin none=mkH LX) (b:X.n0=LX.length) (hl:(Nat.ble LX.length roots && Nat.ble L.length roots)=true) (hk:keepOk DX D 0 LX L) (ho:operAt X.fn.ntmps p env=some o) (h:ThrStp X.P env H o tv D (mkH L)):Ok X p env H (some none):=by
 obtain ⟨ops,n,K,rfl,c,l,j⟩:=qAd ho
 intro r hr m0 u b0 m w a k fr x hdf rw st
 cases hr
 show wpOps X.P ops _ (List.range' n (ops.size - n)) a w
 have hlt:n < ops.size:=(Array.getElem?_eq_some_iff.1 c).1
 rw [show ops.size - n=(ops.size - (n+1))+1 by omega,List.range'_succ]
 simp only [wpOps,c]
 rw [qAx j fr]
 simp only [if_true]
 refine .inl ?_
 refine qDe h fr rw _ _ λw' q=>qBf ?_ K
 exact qGm hdf (qN0 hX g b hl hk k st q)
theorem ok_panic {tv:Value} {DX:LN} {LX L:List Blk} (hX:X.thr none=some (tv,DX)) (b:X.fin none=mkH LX) (a:X.n0=LX.length) (hl:(Nat.ble LX.length roots && Nat.ble L.length roots)=true) (hH:H=mkH L) (hk:keepOk DX [] 0 LX L) (h:(match operAt X.fn.ntmps p env with | some o=>thrV env o | none=>none)=some tv):Ok X p env H (some none):=by
 subst hH
 cases ho:operAt X.fn.ntmps p env with
 | none=>rw [ho] at h; cases h
 | some o=>rw [ho] at h; exact qHz hX b a hl hk ho (.inl ⟨h,rfl,rfl⟩)
theorem qBa {n:Nat} {fi:Nat} {args:List AV} (h:callAt n p env=some (fi,args)):∃ o c g first caps,operAt n p env=some o∧o.op = .call c∧c.callee = .value g∧opnd env g = .func fi first caps∧args=first++opnds env c.args.toList++caps:=by
 unfold callAt at h
 cases ho:operAt n p env with
 | none=>rw [ho] at h; cases h
 | some o =>
  rw [ho] at h
  simp only at h
  split at h
  ·rename_i c hoc
   split at h
   ·rename_i q hq
    split at h
    ·rename_i fi' first caps hfv
     cases h
     exact ⟨o,c,q,first,caps,rfl,hoc,hq,hfv,rfl⟩
    ·cases h
   ·cases h
  ·cases h
theorem qKo {α : Type} {m : Option (Option α)} {f : α → Option (Option R)} {fi : Nat} {args : List AV} {tv : Value} {D DX : LN} {LX L : List Blk} (g : α → AV) (G : α → Hp) (p' : Pt) (E : α → Env) (hX : X.thr none = some (tv, DX)) (j : X.fin none = mkH LX) (a : X.n0 = LX.length) (hl : (Nat.ble LX.length roots && Nat.ble L.length roots) = true) (hk : keepOk DX D 0 LX L) (hc : callAt X.fn.ntmps p env = some (fi, args))
 (b:m=some none→∃ v,CallT X.P fi args H (some (tv,D)) v (mkH L)) (hf:∀ x,m=some (some x)→CallT X.P fi args H none (g x) (G x)) (ha:∀ x,advE X.fn.ntmps p env (g x)=some (p',E x)) (k:∀ x,m=some (some x)→Ok X p' (E x) (G x) (f x)):Ok X p env H (bT m f):=by
 refine qA7 λx h=>?_
 cases x with
 | none =>
  obtain ⟨o,c,q,first,caps,ho,hoc,hq,hfv,hargs⟩:=qBa hc
  obtain ⟨v,hcall⟩:=b h
  exact qHz hX j a hl hk ho (.inr ⟨c,q,fi,first,caps,v,hoc,hq,hfv,hargs ▸ hcall⟩)
 | some y =>
  obtain ⟨o,c,q,first,caps,ho,hoc,hq,hfv,hargs⟩:=qBa hc
  have hay:=ha y
  unfold advE at hay
  rw [ho] at hay
  simp only [Option.some.injEq,Prod.mk.injEq] at hay
  obtain ⟨l,e2⟩:=hay
  obtain ⟨ops,n,K,rfl,r,u,A⟩:=qAd ho
  have ky:=k y h
  rw [← l,← e2] at ky
  exact qI r u A (.inr ⟨c,q,fi,first,caps,hoc,hq,hfv,hargs ▸ (hf y h).v⟩) ky
theorem qAm (D:DP) {hs:List Hp} {DX:LN} {LX L:List Blk} (hX:X.thr none=some (D.tv,DX)) (j:X.fin none=mkH LX) (b:X.n0=LX.length) (hl:(Nat.ble LX.length roots && Nat.ble L.length roots)=true) (hH:D.tH=mkH L) (hk:keepOk DX D.tD 0 LX L) (h:(drawAt p).isSome=true) (hti:Nat.blt D.tI (opsAt p).size=true) (hp:planOk D.S (opsAt p) D.pl=true) (hds:(opsAt p).toList.all (dstOk X.fn.ntmps)=true) (hD:OpsD X.P X.C D (opsAt p).toList (opsAt p).toList env H eE hs) (hsome:(rdL X.C D (opsAt p).toList eE (H::hs) 0 (opsAt p).toList D.pl).all (λq=>q.1.isSome)=true) (hq:(rdL X.C D (opsAt p).toList eE (H::hs) 0 (opsAt p).toList D.pl).map (·.1)=(rdL X.C D (opsAt p).toList eE (H::hs) 0 (opsAt p).toList D.pl).map (·.2)):Ok X p env H (some none):=by
 obtain ⟨id,ops,K,rfl⟩:∃ id ops K,p = .code (.region id ops true) K:=by
  unfold drawAt at h
  split at h
  ·exact ⟨_,_,_,rfl⟩
  ·cases h
 intro r hr m0 l b0 m w a g fr k hd rw st
 cases hr
 have hlt:D.tI < ops.size:=by simpa [opsAt] using hti
 show (Code.region id ops true).wp X.P _ a w
 refine qHb (id:=id) X.hti X.ord hds hp hD (qEh hsome hq) fr k hd rw (λa w' h=>absurd hlt h) λa' m' n w' _ hdf c q=>qBf ?_ K
 rw [hH] at q
 exact qGm hdf (qN0 hX j b hl hk g (st.trans g.2 c) q)
theorem qAh {P:Program} {C:Cx} {D:DP} {all l l':List Oper} {env eE e:Env} {H:Hp} {hs a:List Hp} {fi:Nat} {args:List AV} (hc:callD all l env=some (fi,args)) (hi:Nat.beq (all.length - l.length) D.tI=true) (hpo:∃ v,CallT P fi args H (some (D.tv,D.tD)) v D.tH) (ha:advT D all l env H=some (l',eE,hs)) (k:OpsD P C D all l' eE H e a):OpsD P C D all l env H e (hs++a):=by
 obtain ⟨v,hpo⟩:=hpo
 unfold callD at hc
 unfold advT at ha
 cases ho:headO all l env with
 | none=>rw [ho] at hc; cases hc
 | some o =>
  rw [ho] at hc ha
  simp only at hc
  cases ha
  obtain ⟨r,rfl,hw⟩:=qG3 ho
  split at hc
  ·rename_i c hoc
   split at hc
   ·rename_i q hq
    split at hc
    ·rename_i fi' first caps hfv
     cases hc
     have:=OpsD.thr (C:=C) (D:=D) hi hw (.inr ⟨c,q,fi,first,caps,v,hoc,hq,hfv,hpo⟩) k
     cases hc:Nat.beq (clsS D.S o) 2 <;> rw [hc] at this <;> exact this
    ·cases hc
   ·cases hc
  ·cases hc
theorem qA0 {P:Program} {C:Cx} {D:DP} {all l l':List Oper} {env eE e:Env} {H:Hp} {hs a:List Hp} (hi:(maskAt D.pl (all.length - l.length)).testBit D.tI=true) (ha:advN D l env H=some (l',eE,hs)) (k:OpsD P C D all l' eE H e a):OpsD P C D all l env H e (hs++a):=by
 unfold advN at ha
 split at ha
 ·rename_i o r
  cases ha
  have:=OpsD.dead (o:=o) hi k
  cases hc:Nat.beq (clsS D.S o) 2 <;> rw [hc] at this <;> exact this
 ·cases ha
theorem qDk {R:Type} {X:Fx R} {p:Pt} {env:Env} {H:Hp} {α:Type} {m:Option α} {f:α→Option R} {fi:Nat} {args:List AV} (g:α→AV) (G:α→Hp) (p':Pt) (E:α→Env) (hc:callAt X.fn.ntmps p env=some (fi,args)) (hf:∀ x,m=some x→CallT X.P fi args H none (g x) (G x)) (ha:∀ x,advE X.fn.ntmps p env (g x)=some (p',E x)) (k:∀ x,m=some x→Ok X p' (E x) (G x) (f x)):Ok X p env H (m.bind f) :=
 ok_callM g G p' E hc (λx h=>(hf x h).v) ha k
end
inductive Wk:List AV→List AV→Prop where
 | refl {xs}:Wk xs xs
 | cons {x xs ys}:Wk xs ys→Wk (x::xs) (x::ys)
 | slice {r v len sz xs ys}:v=len * sz→Wk xs ys→Wk (.slice r v 0 len sz::xs) (.own r len sz::ys)
 | none {r sz xs ys}:Wk xs ys→Wk (.nils::xs) (.own r 0 sz::ys)
 | nil {sz xs ys}:Wk xs ys→Wk (.nils::xs) (.vec 0 sz []::ys)
 | optF {r v off xs ys}:Wk xs ys→Wk (.nilp::xs) (.optp false r v off::ys)
 | optT {r v off xs ys}:Wk xs ys→Wk (.ptr r v off::xs) (.optp true r v off::ys)
 | nont {t r sz xs ys}:Wk xs ys→Wk (.nils::xs) (.ownt t r 0 sz::ys)
 | tptr {t n r v off xs ys}:Wk xs ys→Wk (.tptr t n r v off::xs) (.ptr r v off::ys)
 | tptT {t n r v off xs ys}:Wk xs ys→Wk (.tptr t n r v off::xs) (.optp true r v off::ys)
 | agg {xs ys zs us}:Wk xs ys→Wk zs us→Wk (.agg xs::zs) (.agg ys::us)
 | func {f a b a' b' zs us}:Wk a a'→Wk b b'→Wk zs us→Wk (.func f a b::zs) (.func f a' b'::us)
theorem wk_ok {m:Mp} {xs ys:List AV} (h:Wk xs ys):∀ {cs:List Value},VRs m xs cs→VRs m ys cs:=by
 induction h with
 | refl=>exact λh=>h
 | cons _ ih =>
  intro cs h
  simp only [VRs] at h ⊢
  obtain ⟨y,ys,rfl,a,b⟩:=h
  exact ⟨y,ys,rfl,a,ih b⟩
 | slice hv _ ih =>
  intro cs h
  simp only [VRs] at h ⊢
  obtain ⟨y,ys,rfl,a,b⟩:=h
  refine ⟨y,ys,rfl,?_,ih b⟩
  simp only [VR] at a ⊢
  obtain ⟨B,N,cap,j,q,k,r,o⟩:=a
  subst hv
  exact .inr ⟨B,N,cap,j,k,by omega,o⟩
 | none _ ih =>
  intro cs h
  simp only [VRs] at h ⊢
  obtain ⟨y,ys,rfl,a,b⟩:=h
  refine ⟨y,ys,rfl,?_,ih b⟩
  simp only [VR] at a ⊢
  exact .inl ⟨trivial,a⟩
 | nil _ ih =>
  intro cs h
  simp only [VRs] at h ⊢
  obtain ⟨y,ys,rfl,a,b⟩:=h
  refine ⟨y,ys,rfl,?_,ih b⟩
  simp only [VR] at a
  subst a
  exact qDq _ _
 | optF _ ih =>
  intro cs h
  simp only [VRs] at h ⊢
  obtain ⟨y,ys,rfl,a,b⟩:=h
  refine ⟨y,ys,rfl,?_,ih b⟩
  simp only [VR] at a ⊢
  exact .inl ⟨trivial,a⟩
 | optT _ ih =>
  intro cs h
  simp only [VRs] at h ⊢
  obtain ⟨y,ys,rfl,a,b⟩:=h
  refine ⟨y,ys,rfl,?_,ih b⟩
  simp only [VR] at a ⊢
  exact .inr ⟨trivial,a⟩
 | nont _ ih =>
  intro cs h
  simp only [VRs] at h ⊢
  obtain ⟨y,ys,rfl,a,b⟩:=h
  refine ⟨y,ys,rfl,?_,ih b⟩
  simp only [VR] at a ⊢
  exact .inl ⟨trivial,a⟩
 | tptr _ ih =>
  intro cs h
  simp only [VRs] at h ⊢
  obtain ⟨y,ys,rfl,a,b⟩:=h
  refine ⟨y,ys,rfl,?_,ih b⟩
  simp only [VR] at a ⊢
  obtain ⟨B,j,_,k⟩:=a
  exact ⟨B,_,j,k⟩
 | tptT _ ih =>
  intro cs h
  simp only [VRs] at h ⊢
  obtain ⟨y,ys,rfl,a,b⟩:=h
  refine ⟨y,ys,rfl,?_,ih b⟩
  simp only [VR] at a ⊢
  obtain ⟨B,j,_,k⟩:=a
  exact .inr ⟨trivial,B,_,j,k⟩
 | agg _ _ c g =>
  intro cs h
  simp only [VRs,VR] at h ⊢
  obtain ⟨y,ys,rfl,⟨zs,rfl,a⟩,b⟩:=h
  exact ⟨_,ys,rfl,⟨zs,rfl,c a⟩,g b⟩
 | func _ _ _ c g l =>
  intro cs h
  simp only [VRs,VR] at h ⊢
  obtain ⟨y,ys,rfl,⟨zs,us,rfl,a,n⟩,b⟩:=h
  exact ⟨_,ys,rfl,⟨zs,us,rfl,c a,g n⟩,l b⟩
theorem CallT.wk {P:Program} {g:Nat} {xs ys:List AV} {H H':Hp} {tv:Option (Value×LN)} {v:AV} (h:CallT P g ys H tv v H') (k:Wk xs ys):CallT P g xs H tv v H' :=
 ⟨λm w base args ha rw=>h.1 m w base args (wk_ok k ha) rw,h.2⟩
theorem CallT.args {P:Program} {g:Nat} {xs ys:List AV} {H H':Hp} {tv:Option (Value×LN)} {v:AV} (h:CallT P g ys H tv v H') (k:xs=ys):CallT P g xs H tv v H':=k ▸ h
theorem CallT.heap {P:Program} {g:Nat} {xs:List AV} {H H' H'':Hp} {tv:Option (Value×LN)} {v v':AV} (h:CallT P g xs H tv v H') (k:H'=H'') (kv:v=v'):CallT P g xs H tv v' H'':=k ▸ kv ▸ h
theorem CallT.ghost {P:Program} {g:Nat} {xs:List AV} {L:List Blk} {H':Hp} {tv:Option (Value×LN)} {v:AV} (a:Nat.blt L.length roots=true) (h:CallT P g xs (mkH (L++[⟨[],0,false⟩])) tv v H'):CallT P g xs (mkH L) tv v H':=by
 refine ⟨λm w base args ha rw=>?_,h.2⟩
 have:=RW.ghost rw (by show L.length < roots; simpa using a)
 rw [qKs] at this
 exact h.1 m w base args ha this
section
variable {R:Type} {X:Fx R} {p p':Pt} {env eE:Env} {H H':Hp}
theorem qKh {r : R} {xs : List AV} {v : AV} {m0 m : Mp} {k w : World} {b0 : Nat} {a : Act} (F : (∀ r v p, m0 r v = some p → r < X.n0) ∧ b0 ≤ k.heap.size) (L j : List Blk) (ht : X.thr r = none) (hr : resV X.C env (mkH (L ++ j)) X.fn.results.toList = some xs) (A : Nat.ble (L.length + j.length) roots = true) (u : Nat.ble X.n0 L.length = true)
 (hz:FzG L.length (mkH (L++j)) [oneRes xs] [v]) (G:BB L.length L) (hv:X.enc r=v) (hf:X.fin r=mkH L) (fr:FR m env a.tmps) (rw:RW m (mkH (L++j)) w b0) (st:St m0 k b0 m w) :
 ∃ c,(results X.fn a.tmps).run X.P w = .ok c w∧EndT (X.thr r) (X.enc r) (X.fin r) m0 k b0 (.returned c) w:=by
 obtain ⟨c,D,n⟩:=qCw (P:=X.P) X.hti fr rw hr
 have J:FOk L.length m m.froz w b0:=⟨λi B cells hi=>rw.frz i B cells hi,rw.ffin,λi B cells h => .inl h,λ_ _ h=>h⟩
 obtain ⟨F',l,K,o⟩:=fz_ok rw hz J (cs:=[c]) (by simp only [VRs]; exact ⟨c,[],rfl,n,rfl⟩)
 simp only [VRs] at o
 obtain ⟨c',cs',e,o,_⟩:=o
 cases e
 have A:L.length+j.length≤roots:=Nat.le_of_ble_eq_true A
 have hget:∀ i,i < L.length→(mkH (L++j)).t.get i=(mkH L).t.get i:=by
  intro i hi
  rw [qAy (by simp; omega),qAy (by omega)]
  simp [List.getElem?_append_left hi]
 let m1:Mp:=⟨λr v=>if r < L.length then m r v else none,F',m.tys⟩
 have hcut:∀ {r v q},m1 r v=some q→r < L.length∧m r v=some q:=by
  intro r v q h
  have h:(if r < L.length then m r v else none)=some q:=h
  by_cases e:r < L.length
  ·rw [if_pos e] at h; exact ⟨e,h⟩
  ·rw [if_neg e] at h; cases h
 have hmono:Sub (m.cut L.length) m1:=⟨λr v p h=>h,l.sub,λ_ _ h=>h⟩
 have hrw:RW m1 (mkH L) w b0:=by
  refine ⟨?_,?_,?_,?_,?_,l.ok,?_,l.fin,rw.base_le,by show L.length≤roots; omega,rw.tyk⟩
  ·intro r b v B N hb' hm M O
   obtain ⟨hlt,hm⟩:=hcut hm
   obtain ⟨cs,ty,fr',S,p2,p3,p4,p5⟩:=rw.blk r b v B N (by rw [hget r hlt]; exact hb') hm M O
   have hbl:L[r]? = some b:=by
    rw [qAy (by omega)] at hb'
    exact hb'
   exact ⟨cs,ty,fr',S,p2,p3,p4,VRs.mono hmono _ _ (qBj _ _ (qB4 v (qId G hbl)) p5)⟩
  ·intro r v B N hm
   obtain ⟨hlt,hm⟩:=hcut hm
   rw [← hget r hlt]
   exact rw.dom r v B N hm
  ·intro r v B N r' v' N' hm hm' hB
   exact rw.sep _ _ _ _ _ _ _ (hcut hm).2 (hcut hm').2 hB
  ·intro r hr
   have hr:L.length≤r:=hr
   rw [qAy (by omega),List.getElem?_eq_none hr]
  ·intro r v B N hm
   exact rw.vle _ _ _ _ (hcut hm).2
  ·intro i B cells r v N b hi hm hb'
   obtain ⟨hlt,hm⟩:=hcut hm
   rw [← hget r hlt] at hb'
   rcases l.new i B cells hi with h | ⟨hB,x,v2,E,T,g⟩
   ·exact rw.fsep i B cells r v N b h hm hb'
   ·have:=rw.sep _ _ _ _ _ _ _ hm g hB
    omega
 have hst:St m0 k b0 m1 w:=by
  refine ⟨⟨λr v q hq=>?_,λi q hq=>K i q (st.sub.2 i q hq),st.sub.3⟩,?_,?_,st.size,st.os,st.tape,st.output,st.same⟩
  ·have D:=F.1 r v q hq
   have n:=Nat.le_of_ble_eq_true u
   show (if r < L.length then m r v else none)=some q
   rw [if_pos (by omega)]
   exact st.sub.1 r v q hq
  ·intro r v B N hm
   exact st.ext r v B N (hcut hm).2
  ·intro i B cells hi
   rcases l.new i B cells hi with h | ⟨hB,x,v2,E,_,g⟩
   ·exact st.fext i B cells h
   ·rcases st.ext x v2 B E g with ⟨U,V,W⟩ | n
    ·exact .inr ⟨hB,.inl ⟨x,U,V,W⟩⟩
    ·exact .inr ⟨hB,.inr n⟩
 have hvc:VR m1 v c:=VR.mono (m:=⟨λ_ _=>none,F',λ_=>none⟩) (m':=m1) ⟨λ_ _ _ h=>(by cases h),λ_ _ h=>h,λ_ _ h=>(by cases h)⟩ _ _ o
 have e:EndT (X.thr r) (X.enc r) (X.fin r) m0 k b0 (.returned c) w:=by rw [ht]; exact ⟨m1,c,rfl,by rw [hf]; exact hrw,hst,by rw [hv]; exact hvc⟩
 exact ⟨c,D,e⟩
theorem ok_retF {r : R} {xs : List AV} {v : AV} (L b : List Blk) (ht : X.thr r = none) (hr : resV X.C env (mkH (L ++ b)) X.fn.results.toList = some xs) (h : Nat.ble (L.length + b.length) roots = true) (g : Nat.ble X.n0 L.length = true)
 (hz:FzG L.length (mkH (L++b)) [oneRes xs] [v]) (j:BB L.length L) (hv:X.enc r=v) (hf:X.fin r=mkH L):Ok X .fin env (mkH (L++b)) (some r):=by
 intro r' e m0 n b0 m w a k fr hnt hd rw st
 cases e
 obtain ⟨c,l,e⟩:=qKh k L b ht hr h g hz j hv hf fr rw st
 exact qGn hd l e
end
def MinvLe : List Blk → List Blk → Prop
 | [],[]=>True
 | b::M,c::M'=>(c.cells=b.cells∧c.ro=b.ro∧b.minv≤c.minv)∧MinvLe M M'
 | _,_=>False
theorem MinvLe.get : ∀ {M M' : List Blk}, MinvLe M M' → M'.length = M.length ∧ ∀ (i : Nat) (c : Blk), M'[i]? = some c → ∃ b, M[i]? = some b ∧ c.cells = b.cells ∧ c.ro = b.ro ∧ b.minv ≤ c.minv
 | [],[],_=>⟨rfl,λi c h=>by simp at h⟩
 | [],_::_,h=>h.elim
 | _::_,[],h=>h.elim
 | b::M,c::M',h=>by
  obtain ⟨a,g⟩:=MinvLe.get h.2
  refine ⟨by simp [a],λi d hd=>?_⟩
  cases i with
  | zero=>simp at hd; subst hd; exact ⟨b,rfl,h.1⟩
  | succ i=>simpa using g i d (by simpa using hd)
theorem rw_minv {m:Mp} {w:World} {base:Nat} {M M':List Blk} (h:MinvLe M M') (hr:M.length≤roots) (rw:RW m (mkH M) w base):RW m (mkH M') w base:=by
 obtain ⟨hl,hg⟩:=h.get
 have n:=qAy (L:=M) hr
 have k:=qAy (L:=M') (by omega)
 refine ⟨?_,?_,rw.sep,?_,rw.vle,rw.frz,?_,rw.ffin,rw.base_le,by show M'.length≤roots; omega,rw.tyk⟩
 ·intro r c v B N g hm x q
  rw [k] at g
  obtain ⟨b,a,l,j,o⟩:=hg r c g
  rw [l] at q ⊢
  rw [j]
  exact rw.blk r b v B N (by rw [n]; exact a) hm (by omega) q
 ·intro r v B N hm
  obtain ⟨b,a,l,j,o⟩:=rw.dom r v B N hm
  rw [n] at a
  have hlt:r < M'.length:=by rw [hl]; exact (List.getElem?_eq_some_iff.1 a).1
  obtain ⟨b',u,e2,e3,e4⟩:=hg r _ (List.getElem?_eq_getElem hlt)
  rw [a] at u
  cases u
  exact ⟨_,by rw [k]; exact List.getElem?_eq_getElem hlt,by rw [e2]; exact l,j,by rw [e3]; exact o⟩
 ·intro r hr'
  have hr':M'.length≤r:=hr'
  rw [k,List.getElem?_eq_none hr']
 ·intro i B cells r v N c hi hm g
  rw [k] at g
  obtain ⟨b,a,l,j,o⟩:=hg r c g
  rw [j]
  exact rw.fsep i B cells r v N b hi hm (by rw [n]; exact a)
theorem CallT.minv {P:Program} {g:Nat} {xs:List AV} {M M':List Blk} {H':Hp} {tv:Option (Value×LN)} {v:AV} (hr:M.length≤roots) (hm:MinvLe M M') (h:CallT P g xs (mkH M') tv v H'):CallT P g xs (mkH M) tv v H' :=
 ⟨λm w base args ha rw=>h.1 m w base args ha (rw_minv hm hr rw),h.2⟩
theorem CallT.ghosts {P : Program} {g : Nat} {xs : List AV} {H' : Hp} {tv : Option (Value × LN)} {v : AV} : ∀ (gh : Nat) (a M : List Blk), a ++ List.replicate gh ⟨[], 0, false⟩ = M → M.length ≤ roots → CallT P g xs (mkH M) tv v H' → CallT P g xs (mkH a) tv v H'
 | 0,a,M,hg,hr,h=>by
  have e:a=M:=by simpa using hg
  rw [e]; exact h
 | n+1,a,M,hg,hr,h=>by
  have hl:a.length < M.length:=by rw [← hg]; simp
  refine CallT.ghost (by simpa using (by omega:a.length < roots)) (CallT.ghosts n (a++[⟨[],0,false⟩]) M ?_ hr h)
  rw [← hg,List.replicate_succ,List.append_assoc]; rfl
theorem frameC {P : Program} {g : Nat} {ys : List AV} {L L' : List Blk} {v : AV} (h : CallT P g ys (mkH L) none v (mkH L')) (rs : LN) (gh : Nat) (a b M M' : List Blk) (xs xs' : List AV) {v' : AV} {H H' : Hp} (hH : mkH a = H) (hg : a ++ List.replicate gh ⟨[], 0, false⟩ = b) (hm : MinvLe b M) (hw : Wk xs xs') (c : renVs (at0 rs) ys = xs') (hv' : renV (at0 rs) v = v') (hH' : mkH M' = H')
 (hc:frOk L.length L'.length M.length M'.length rs=true) (hys:belows L.length ys=true) (hL:RBs rs L.length M 0 L) (hL':RBs rs L'.length M' 0 L') (hv:below L'.length v=true) (hS:SameB rs 0 M M'):CallT P g xs H none v' H':=by
 subst hH; subst c; subst hv'; subst hH'
 have j:=(frame h rs M M' hc hys hL hL' hv hS).wk hw
 simp only [frOk,Bool.and_eq_true,Nat.ble_eq] at hc
 have hr:M.length≤roots:=by omega
 have hl:=hm.get.1
 exact CallT.ghosts gh a b hg (by omega) (CallT.minv (by omega) hm j)
theorem frameT {P : Program} {g : Nat} {ys : List AV} {L : List Blk} {t : Value} {c : LN} (h : ∃ v, CallT P g ys (mkH L) (some (t, c)) v (mkH L)) (rs : LN) (D : LN) (gh : Nat) (a b M : List Blk) (xs xs' : List AV) {H : Hp} (hH : mkH a = H) (hg : a ++ List.replicate gh ⟨[], 0, false⟩ = b) (hm : MinvLe b M) (hw : Wk xs xs') (j : renVs (at0 rs) ys = xs')
 (hc:frOk L.length L.length M.length M.length rs=true) (hys:belows L.length ys=true) (hL:RBs rs L.length M 0 L) (hD:dOk rs c D 0 M):∃ v,CallT P g xs H (some (t,D)) v (mkH M):=by
 obtain ⟨v,h⟩:=h
 subst hH; subst j
 have k:=(frameTh h rs M D hc hys hL hD .top).wk hw
 simp only [frOk,Bool.and_eq_true,Nat.ble_eq] at hc
 have hr:M.length≤roots:=by omega
 have hl:=hm.get.1
 exact ⟨_,CallT.ghosts gh a b hg (by omega) (CallT.minv (by omega) hm k)⟩
theorem qCe {R:Type} {X:Fx (Option R)} {p:Pt} {env:Env} {H:Hp} {α:Type} {m:Option (Option α)} {f:α→Option (Option R)} (b:m=some none→Ok X p env H (some none)) (c:∀ y,m=some (some y)→Ok X p env H (f y)):Ok X p env H (bT m f):=by
 refine qA7 λx a=>?_
 cases x with
 | none=>exact b a
 | some y=>exact c y a
section
variable {R:Type} {X:Fx R} {p p':Pt} {env eE:Env} {H H':Hp}
theorem qGv {t:Option R} (L:List Blk) (b:Nat.blt L.length roots=true) (k:Ok X p env (mkH (L++[⟨[],0,false⟩])) t):Ok X p env (mkH L) t:=by
 intro r hr m0 c b0 m w a g fr hnt hd rw st
 have:=RW.ghost rw (by show L.length < roots; simpa using b)
 rw [qKs] at this
 exact k r hr m0 c b0 m w a g fr hnt hd this st
theorem Wk.length {xs ys:List AV} (h:Wk xs ys):ys.length=xs.length:=by
 induction h <;> simp_all
theorem qMy {m:Mp} {xs ys:List AV} (h:Wk xs ys):∀ (v:Nat) {cs:List Value},VRs m (xs.take v) cs→VRs m (ys.take v) cs:=by
 have one:∀ {x y:AV} {xs ys:List AV} (v:Nat) {cs:List Value},Wk [x] [y]→(∀ (v:Nat) {cs:List Value},VRs m (xs.take v) cs→VRs m (ys.take v) cs)→VRs m ((x::xs).take v) cs→VRs m ((y::ys).take v) cs:=by
  intro x y xs ys v cs a ih h
  cases v with
  | zero=>simpa using h
  | succ v =>
   simp only [List.take_succ_cons,VRs] at h ⊢
   obtain ⟨c,cs',rfl,b,g⟩:=h
   have:=wk_ok a (cs:=[c]) (by simp only [VRs]; exact ⟨c,[],rfl,b,rfl⟩)
   simp only [VRs] at this
   obtain ⟨c',cs'',j,k,_⟩:=this
   cases j
   exact ⟨c,cs',rfl,k,ih v g⟩
 induction h with
 | refl=>exact λv cs h=>h
 | cons _ ih=>exact λv cs h=>one v .refl (λv cs=>ih v) h
 | slice hv _ ih=>exact λv cs h=>one v (.slice hv .refl) (λv cs=>ih v) h
 | none _ ih=>exact λv cs h=>one v (.none .refl) (λv cs=>ih v) h
 | nil _ ih=>exact λv cs h=>one v (.nil .refl) (λv cs=>ih v) h
 | optF _ ih=>exact λv cs h=>one v (.optF .refl) (λv cs=>ih v) h
 | optT _ ih=>exact λv cs h=>one v (.optT .refl) (λv cs=>ih v) h
 | nont _ ih=>exact λv cs h=>one v (.nont .refl) (λv cs=>ih v) h
 | tptr _ ih=>exact λv cs h=>one v (.tptr .refl) (λv cs=>ih v) h
 | tptT _ ih=>exact λv cs h=>one v (.tptT .refl) (λv cs=>ih v) h
 | agg a _ _ ih=>exact λv cs h=>one v (.agg a .refl) (λv cs=>ih v) h
 | func a l _ _ _ ih=>exact λv cs h=>one v (.func a l .refl) (λv cs=>ih v) h
theorem qBu {t:Option R} (L:List Blk) (c minv:Nat) (cells cells':List AV) (hl:Nat.ble L.length roots=true) (hr:L[c]? = some ⟨cells,minv,false⟩) (hw:Wk cells cells') (k:Ok X p env (mkH (L.set c ⟨cells',minv,false⟩)) t):Ok X p env (mkH L) t:=by
 intro r hr' m0 C b0 m w a D fr hnt hd rw st
 have hl:L.length≤roots:=Nat.le_of_ble_eq_true hl
 have hlt:c < L.length:=(List.getElem?_eq_some_iff.1 hr).1
 have u:=qAy (L:=L) hl
 have x:=qAy (L:=L.set c ⟨cells',minv,false⟩) (by simpa using hl)
 have gne:∀ j,j ≠ c→(mkH (L.set c ⟨cells',minv,false⟩)).t.get j=(mkH L).t.get j:=by
  intro j hj
  rw [u,x,List.getElem?_set,if_neg (λe=>hj e.symm)]
 have geq:(mkH (L.set c ⟨cells',minv,false⟩)).t.get c=some ⟨cells',minv,false⟩:=by
  rw [x,List.getElem?_set,if_pos rfl,if_pos hlt]
 have hroot:(mkH L).t.get c=some ⟨cells,minv,false⟩:=by rw [u]; exact hr
 have hlen:=hw.length
 have hnext:(mkH (L.set c ⟨cells',minv,false⟩)).next=L.length:=by simp [mkH]
 refine k r hr' m0 C b0 m w a D fr hnt hd ⟨?_,?_,rw.sep,?_,rw.vle,rw.frz,?_,rw.ffin,rw.base_le,by rw [hnext]; exact hl,rw.tyk⟩ st
 ·intro r b v B N g hm q A
  by_cases e:r=c
  ·subst e
   rw [geq] at g
   cases g
   simp only at q A
   obtain ⟨cs,ty,fr',h,l,n,o,E⟩:=rw.blk r ⟨cells,minv,false⟩ v B N hroot hm q (by show v≤cells.length; omega)
   exact ⟨cs,ty,fr',h,l,n,o,qMy hw v E⟩
  ·rw [gne r e] at g
   exact rw.blk r b v B N g hm q A
 ·intro r v B N hm
  obtain ⟨b,h,l,n,o⟩:=rw.dom r v B N hm
  by_cases e:r=c
  ·subst e
   rw [hroot] at h
   cases h
   exact ⟨_,geq,by show v≤cells'.length; rw [hlen]; exact l,n,o⟩
  ·exact ⟨b,by rw [gne r e]; exact h,l,n,o⟩
 ·intro r hr
  rw [hnext] at hr
  rw [gne r (by omega)]
  exact rw.fresh r hr
 ·intro i B cs r v N b hi hm g
  by_cases e:r=c
  ·subst e
   rw [geq] at g
   cases g
   have:=rw.fsep i B cs r v N ⟨cells,minv,false⟩ hi hm hroot
   exact this
  ·rw [gne r e] at g
   exact rw.fsep i B cs r v N b hi hm g
theorem qC1 {r : R} {xs : List AV} (L g : List Blk) (ht : X.thr r = none) (hr : resV X.C env (mkH (L ++ g)) X.fn.results.toList = some xs) (k : Nat.ble (L.length + g.length) roots = true) (j : Nat.ble X.n0 L.length = true)
 (hbe:below L.length (oneRes xs)=true) (u:BB L.length L) (hv:X.enc r=oneRes xs) (hf:X.fin r=mkH L):Ok X .fin env (mkH (L++g)) (some r):=by
 intro r' e m0 l b0 m w a x fr hnt hd rw st
 cases e
 obtain ⟨c,n,o⟩:=qCw (P:=X.P) X.hti fr rw hr
 have k:L.length+g.length≤roots:=Nat.le_of_ble_eq_true k
 have hget:∀ i,i < L.length→(mkH (L++g)).t.get i=(mkH L).t.get i:=by
  intro i hi
  rw [qAy (by simp; omega),qAy (by omega)]
  simp [List.getElem?_append_left hi]
 have hcut:∀ {r v q},(m.cut L.length) r v=some q→r < L.length∧m r v=some q:=by
  intro r v q h
  have h:(if r < L.length then m r v else none)=some q:=h
  by_cases e:r < L.length
  ·rw [if_pos e] at h; exact ⟨e,h⟩
  ·rw [if_neg e] at h; cases h
 have hrw:RW (m.cut L.length) (mkH L) w b0:=by
  refine ⟨?_,?_,?_,?_,?_,rw.frz,?_,rw.ffin,rw.base_le,by show L.length≤roots; omega,rw.tyk⟩
  ·intro r b v B N hb' hm A D
   obtain ⟨hlt,hm⟩:=hcut hm
   obtain ⟨cs,ty,fr',E,p2,p3,p4,p5⟩:=rw.blk r b v B N (by rw [hget r hlt]; exact hb') hm A D
   have hbl:L[r]? = some b:=by
    rw [qAy (by omega)] at hb'
    exact hb'
   exact ⟨cs,ty,fr',E,p2,p3,p4,qBj _ _ (qB4 v (qId u hbl)) p5⟩
  ·intro r v B N hm
   obtain ⟨hlt,hm⟩:=hcut hm
   rw [← hget r hlt]
   exact rw.dom r v B N hm
  ·intro r v B N r' v' N' hm hm' hB
   exact rw.sep _ _ _ _ _ _ _ (hcut hm).2 (hcut hm').2 hB
  ·intro r hr
   have hr:L.length≤r:=hr
   rw [qAy (by omega),List.getElem?_eq_none hr]
  ·intro r v B N hm
   exact rw.vle _ _ _ _ (hcut hm).2
  ·intro i B cells r v N b hi hm hb'
   obtain ⟨hlt,hm⟩:=hcut hm
   rw [← hget r hlt] at hb'
   exact rw.fsep i B cells r v N b hi hm hb'
 have hst:St m0 l b0 (m.cut L.length) w:=by
  refine ⟨⟨λr v q hq=>?_,st.sub.2,st.sub.3⟩,?_,st.fext,st.size,st.os,st.tape,st.output,st.same⟩
  ·have n:=x.1 r v q hq
   have o:=Nat.le_of_ble_eq_true j
   show (if r < L.length then m r v else none)=some q
   rw [if_pos (by omega)]
   exact st.sub.1 r v q hq
  ·intro r v B N hm
   exact st.ext r v B N (hcut hm).2
 have e:EndT (X.thr r) (X.enc r) (X.fin r) m0 l b0 (.returned c) w:=by rw [ht]; exact ⟨m.cut L.length,c,rfl,by rw [hf]; exact hrw,hst,by rw [hv]; exact qDp _ _ hbe o⟩
 exact qGn hd n e
theorem qDv {r:R} {xs:List AV} (ht:X.thr r=none) (hr:resV X.C env H X.fn.results.toList=some xs) (hv:X.enc r=oneRes xs) (hf:X.fin r=H):Ok X .fin env H (some r):=by
 intro r' e m0 b b0 m w a j fr hnt hd rw st
 cases e
 obtain ⟨c,g,h⟩:=qCw (P:=X.P) X.hti fr rw hr
 have e:EndT (X.thr r) (X.enc r) (X.fin r) m0 b b0 (.returned c) w:=by rw [ht]; exact ⟨m,c,rfl,by rw [hf]; exact rw,st,by rw [hv]; exact h⟩
 exact qGn hd g e
end
structure Raw where
 n:Nat
 cells:List AV
def nthR {α:Type} (d:List AV→Option α) (sz:Nat) (n:Nat) (cells:List AV) (k:Int):Option α:=if 0≤k∧k < (n:Int) then d ((cells.drop (k.toNat * sz)).take sz) else none
theorem vidxR {α:Type} {enc:α→List AV} {d:List AV→Option α} {sz:Nat} (hd:∀ cs x,d cs=some x→cs=enc x) {e:Option (AV×Hp)} {n:Nat} {cells:List AV} {k:Int} {H:Hp} {x:α} (a:nthR d sz n cells k=some x) (h:e=(if sz=sz∧0≤k∧k < ((n:Nat):Int) then some (AV.vptr ((cells.drop (k.toNat * sz)).take sz),H) else none)):e=some (AV.vptr (enc x),H):=by
 unfold nthR at a
 by_cases b:0≤k∧k < (n:Int)
 ·rw [if_pos b] at a
  rw [h,if_pos ⟨rfl,b.1,b.2⟩,hd _ _ a]
 ·rw [if_neg b] at a; cases a
def pI (k : IntKind) : List AV → Option (Int × List AV)
 | .int k' n::r=>if k'=k then some (n,r) else none
 | _=>none
def pB : List AV → Option (Bool × List AV)
 | .bool b::r=>some (b,r)
 | _=>none
def pS : List AV → Option (LN × List AV)
 | .str s::r=>some (s,r)
 | _=>none
def pN {α:Type} (p:List AV→Option (α×List AV)) (n:Nat) (cs:List AV):Option (List α×List AV) :=
 Nat.rec (motive:=λ_=>List AV→Option (List α×List AV)) (λcs=>some ([],cs)) (λ_ ih cs=>match p cs with | some (x,r)=>(match ih r with | some (l,r')=>some (x::l,r') | none=>none) | none=>none) n cs
def pV {α : Type} (p : List AV → Option (α × List AV)) (sz : Nat) : List AV → Option (List α × List AV)
 | .vec n s c::r=>if s=sz then (match pN p n c with | some (l,[])=>some (l,r) | _=>none) else none
 | _=>none
theorem pI_ok {k:IntKind} {cs r:List AV} {x:Int} (h:pI k cs=some (x,r)):cs=[AV.int k x]++r:=by
 unfold pI at h
 split at h
 ·split at h
  ·rename_i e; cases h; subst e; rfl
  ·cases h
 ·cases h
theorem pB_ok {cs r:List AV} {x:Bool} (h:pB cs=some (x,r)):cs=[AV.bool x]++r:=by
 unfold pB at h
 split at h
 ·cases h; rfl
 ·cases h
theorem pS_ok {cs r:List AV} {x:LN} (h:pS cs=some (x,r)):cs=[AV.str x]++r:=by
 unfold pS at h
 split at h
 ·cases h; rfl
 ·cases h
theorem pN_ok {α : Type} {p : List AV → Option (α × List AV)} {enc : α → List AV} (hp : ∀ cs x r, p cs = some (x, r) → cs = enc x ++ r) : ∀ (n : Nat) (cs : List AV) (l : List α) (r : List AV), pN p n cs = some (l, r) → cs = l.flatMap enc ++ r ∧ l.length = n
 | 0,cs,l,r,h=>by
  have h:some (([]:List α),cs)=some (l,r):=h
  cases h
  exact ⟨rfl,rfl⟩
 | n+1,cs,l,r,h=>by
  have h:(match p cs with | some (x,r)=>(match pN p n r with | some (l,r')=>some (x::l,r') | none=>none) | none=>none)=some (l,r):=h
  cases a:p cs with
  | none=>rw [a] at h; cases h
  | some xr =>
   obtain ⟨x,c⟩:=xr
   rw [a] at h
   simp only at h
   cases b:pN p n c with
   | none=>rw [b] at h; cases h
   | some lr =>
    obtain ⟨g,m⟩:=lr
    rw [b] at h
    cases h
    obtain ⟨j,k⟩:=pN_ok hp n c g r b
    rw [hp _ _ _ a,j,List.flatMap_cons,List.append_assoc]
    exact ⟨rfl,by simp [k]⟩
theorem pV_ok {α:Type} {p:List AV→Option (α×List AV)} {enc:α→List AV} {sz:Nat} (hp:∀ cs x r,p cs=some (x,r)→cs=enc x++r) {cs:List AV} {l:List α} {r:List AV} (h:pV p sz cs=some (l,r)):cs=[AV.vec l.length sz (l.flatMap enc)]++r:=by
 unfold pV at h
 split at h
 ·split at h
  ·rename_i e
   subst e
   split at h
   ·rename_i g b
    cases h
    obtain ⟨a,c⟩:=pN_ok hp _ _ _ _ b
    rw [List.append_nil] at a
    rw [a,c]; rfl
   ·cases h
  ·cases h
 ·cases h
def pall {α:Type} (p:List AV→Option (α×List AV)) (cs:List AV):Option α:=match p cs with | some (x,[])=>some x | _=>none
theorem pall_ok {α:Type} {p:List AV→Option (α×List AV)} {enc:α→List AV} (hp:∀ cs x r,p cs=some (x,r)→cs=enc x++r) (cs:List AV) (x:α) (h:pall p cs=some x):cs=enc x:=by
 unfold pall at h
 split at h
 ·rename_i y hy
  cases h
  have:=hp _ _ _ hy
  simpa using this
 ·cases h
inductive Fr1 (r0 n sz:Nat) (cells:List AV):List AV→List AV→Prop where
 | refl {xs}:nrefs r0 xs=true→Fr1 r0 n sz cells xs xs
 | cons {x xs ys}:nref r0 x=true→Fr1 r0 n sz cells xs ys→Fr1 r0 n sz cells (x::xs) (x::ys)
 | own {xs ys}:Fr1 r0 n sz cells xs ys→Fr1 r0 n sz cells (.own r0 n sz::xs) (.vec n sz cells::ys)
 | agg {xs ys zs us}:Fr1 r0 n sz cells xs ys→Fr1 r0 n sz cells zs us→Fr1 r0 n sz cells (.agg xs::zs) (.agg ys::us)
theorem fr1_ok {g n sz:Nat} {cells:List AV} {m:Mp} {F:Nat→Option (Nat×List AV)} (l:∀ i p,m.froz i=some p→F i=some p) (hvec:∀ c,VR m (.own g n sz) c→VR ⟨λ_ _=>none,F,λ_=>none⟩ (.vec n sz cells) c) {xs ys:List AV} (h:Fr1 g n sz cells xs ys):∀ {cs:List Value},VRs m xs cs→VRs (m.out g F) ys cs:=by
 induction h with
 | refl h=>exact λhv=>qCf l _ _ h hv
 | cons h _ ih =>
  intro cs hv
  simp only [VRs] at hv ⊢
  obtain ⟨y,ys,rfl,a,b⟩:=hv
  exact ⟨y,ys,rfl,qGx l _ _ h a,ih b⟩
 | own _ ih =>
  intro cs hv
  rw [VRs] at hv
  obtain ⟨y,ys,rfl,a,b⟩:=hv
  rw [VRs]
  exact ⟨y,ys,rfl,VR.mono (m:=⟨λ_ _=>none,F,λ_=>none⟩) (m':=m.out g F) ⟨λ_ _ _ h=>(by cases h),λ_ _ h=>h,λ_ _ h=>(by cases h)⟩ _ _ (hvec y a),ih b⟩
 | agg _ _ j k =>
  intro cs hv
  simp only [VRs,VR] at hv ⊢
  obtain ⟨y,ys,rfl,⟨zs,rfl,a⟩,b⟩:=hv
  exact ⟨_,ys,rfl,⟨zs,rfl,j a⟩,k b⟩
theorem Fr1.length {a n sz:Nat} {cells xs ys:List AV} (h:Fr1 a n sz cells xs ys):ys.length=xs.length:=by
 induction h <;> simp_all
theorem fr1_take {a n sz:Nat} {cells xs ys:List AV} (h:Fr1 a n sz cells xs ys):∀ v,Fr1 a n sz cells (xs.take v) (ys.take v):=by
 induction h with
 | refl h=>exact λv => .refl (qDw v h)
 | cons h _ ih=>intro v; cases v with
  | zero=>exact .refl rfl
  | succ v=>exact .cons h (ih v)
 | own _ ih=>intro v; cases v with
  | zero=>exact .refl rfl
  | succ v=>exact .own (ih v)
 | agg b _ _ ih=>intro v; cases v with
  | zero=>exact .refl rfl
  | succ v=>exact .agg b (ih v)
def FrE (a n sz : Nat) (cells : List AV) : Env → Env → Prop
 | [],[]=>True
 | p::e,q::e'=>(p.1=q.1∧Fr1 a n sz cells [p.2] [q.2])∧FrE a n sz cells e e'
 | _,_=>False
theorem qM7 {b n sz : Nat} {cells : List AV} : ∀ {e e' : Env}, FrE b n sz cells e e' → ∀ t, look e' t ≠ .top → look e t ≠ .top ∧ Fr1 b n sz cells [look e t] [look e' t]
 | [],[],_,t,h=>absurd rfl h
 | [],_::_,h,_,_=>h.elim
 | _::_,[],h,_,_=>h.elim
 | (g,k)::e,(l,v2)::e',h,t,hne=>by
  obtain ⟨⟨c,a⟩,j⟩:=h
  simp only at c a
  subst c
  rw [qAz] at hne ⊢
  rw [qAz]
  by_cases et:g=t
  ·rw [if_pos et] at hne ⊢
   rw [if_pos et]
   refine ⟨?_,a⟩
   rintro rfl
   cases a with
   | refl _=>exact hne rfl
   | cons _ _=>exact hne rfl
  ·rw [if_neg et] at hne ⊢
   rw [if_neg et]
   exact qM7 j t hne
def FrH (a n sz : Nat) (cells : List AV) : Nat → List Blk → List Blk → Prop
 | _,[],[]=>True
 | i,b::L,c::L'=>((i=a∧c=⟨[],0,false⟩)∨(Nat.beq i a=false∧c.minv=b.minv∧c.ro=b.ro∧Fr1 a n sz cells b.cells c.cells))∧FrH a n sz cells (i+1) L L'
 | _,_,_=>False
theorem qQq {a n sz : Nat} {cells : List AV} : ∀ {L L' : List Blk} {i : Nat}, FrH a n sz cells i L L' → L'.length = L.length ∧ ∀ j c, L'[j]? = some c → ∃ b, L[j]? = some b ∧ ((i + j = a ∧ c = ⟨[], 0, false⟩) ∨ (i + j ≠ a ∧ c.minv = b.minv ∧ c.ro = b.ro ∧ Fr1 a n sz cells b.cells c.cells))
 | [],[],i,_=>⟨rfl,λj c h=>by simp at h⟩
 | [],_::_,_,h=>h.elim
 | _::_,[],_,h=>h.elim
 | b::L,c::L',i,h=>by
  obtain ⟨k,l⟩:=qQq h.2
  refine ⟨by simp [k],λj d hd=>?_⟩
  cases j with
  | zero =>
   simp at hd; subst hd
   refine ⟨b,rfl,?_⟩
   rcases h.1 with ⟨g,e2⟩ | ⟨g,e2⟩
   ·exact .inl ⟨by omega,e2⟩
   ·refine .inr ⟨λe=>?_,e2⟩
    have:i=a:=by omega
    rw [this] at g; simp at g
  | succ j =>
   obtain ⟨b',m,o⟩:=l j d (by simpa using hd)
   refine ⟨b',by simpa using m,?_⟩
   rw [show i+(j+1)=i+1+j by omega]; exact o
theorem qIv {R:Type} {X:Fx R} {p:Pt} {env env0 eE:Env} {t:Option R} (L L':List Blk) (g n sz minv:Nat) (cells:List AV) (ks:LN) (S:Nat.ble X.n0 g=true) (hl:Nat.ble L.length roots=true) (hr:L[g]? = some ⟨cells,minv,false⟩) (hc:cells.length=n * sz) (hmin:minv≤n * sz) (hp:purs cells=true) (hk:keepOnly env ks=env0) (hE:FrE g n sz cells env0 eE) (hH:FrH g n sz cells 0 L L') (k:Ok X p eE (mkH L') t):Ok X p env (mkH L) t:=by
 intro r hr' m0 w0 b0 m w a h0 T hnt hd rw st
 have fr:FR m env0 a.tmps:=T.less (hk ▸ qBh ks env)
 have hl:L.length≤roots:=Nat.le_of_ble_eq_true hl
 have gL:=qAy (L:=L) hl
 obtain ⟨hlen,hget⟩:=qQq hH
 have gL':=qAy (L:=L') (by omega)
 have hroot:(mkH L).t.get g=some ⟨cells,minv,false⟩:=by rw [gL]; exact hr
 have J:FOk 0 m m.froz w b0:=⟨λi B cells hi=>rw.frz i B cells hi,rw.ffin,λi B cells h => .inl h,λ_ _ h=>h⟩
 have key:∃ F,FOk 0 m F w b0∧(∀ i B cs,F i=some (B,cs)→m.froz i=some (B,cs)∨∃ v N,m g v=some (B,N))∧(∀ c,VR m (.own g n sz) c→VR ⟨λ_ _=>none,F,λ_=>none⟩ (.vec n sz cells) c):=by
  cases hm:m g (n * sz) with
  | none =>
   refine ⟨m.froz,J,λi B cs h => .inl h,?_⟩
   intro c hv
   simp only [VR] at hv
   rcases hv with ⟨l,o⟩ | ⟨B,N,cap,l,_⟩
   ·subst l; subst o
    have:cells=[]:=List.length_eq_zero_iff.1 (by omega)
    subst this
    exact qDq _ _
   ·rw [hm] at l; cases l
  | some BN =>
   obtain ⟨B,N⟩:=BN
   obtain ⟨cs,ty,fr',A,C,E,M,K⟩:=rw.blk _ _ _ _ _ hroot hm hmin (by show n * sz≤cells.length; omega)
   obtain ⟨a5,x,_,_,hbase⟩:=rw.dom _ _ _ _ hm
   rw [hroot] at x
   cases x
   simp only at K
   rw [List.take_of_length_le (by omega)] at K
   have q6:=qBk _ _ hp K
   obtain ⟨F,i,D,U,G⟩:=qK1 J (hbase rfl) ⟨_,_,_,Nat.zero_le _,hm⟩ A (cells:=cells) (by omega) (by rw [hc]; exact q6)
   obtain ⟨nf,hnf⟩:=rw.ffin
   have hmono:∀ j q,m.froz j=some q→(λj=>if j=nf then some (B,cells) else m.froz j) j=some q:=by
    intro j q hq
    simp only
    rw [if_neg]
    ·exact hq
    ·rintro rfl; rw [hnf _ (Nat.le_refl _)] at hq; cases hq
   refine ⟨λj=>if j=nf then some (B,cells) else m.froz j,?_,?_,?_⟩
   ·refine ⟨?_,⟨nf+1,λj hj=>by show (if j=nf then some (B,cells) else m.froz j)=none; rw [if_neg (by omega)]; exact hnf j (by omega)⟩,?_,hmono⟩
    ·intro j B' cells' hj
     have hS:Sub m.still ⟨λ_ _=>none,λj=>if j=nf then some (B,cells) else m.froz j,λ_=>none⟩:=⟨λ_ _ _ e=>(by cases e),hmono,λ_ _ e=>(by cases e)⟩
     by_cases e:j=nf
     ·simp only [e,if_true] at hj
      cases hj
      exact ⟨cs,ty,fr',A,by omega,by rw [hc]; exact VRs.mono hS _ _ q6⟩
     ·simp only [e,if_false] at hj
      obtain ⟨V,W,Y,Z,e2,e3⟩:=rw.frz j B' cells' hj
      exact ⟨V,W,Y,Z,e2,VRs.mono hS _ _ e3⟩
    ·intro j B' cells' hj
     by_cases e:j=nf
     ·simp only [e,if_true] at hj
      cases hj
      exact .inr ⟨hbase rfl,_,_,_,Nat.zero_le _,hm⟩
     ·simp only [e,if_false] at hj
      exact .inl hj
   ·intro j B' cells' hj
    by_cases e:j=nf
    ·simp only [e,if_true] at hj
     cases hj
     exact .inr ⟨_,_,hm⟩
    ·simp only [e,if_false] at hj
     exact .inl hj
   ·intro c hv
    simp only [VR] at hv
    rcases hv with ⟨l,o⟩ | ⟨B2,N2,cap,l,o,h3,h4⟩
    ·subst l; subst o
     have:cells=[]:=List.length_eq_zero_iff.1 (by omega)
     subst this
     exact qDq _ _
    ·rw [hm] at l
     cases l
     subst h4
     simp only [VR]
     refine ⟨hc,_,cap,rfl,o,λe=>(by cases e),λ_=>⟨nf,B,0,cells,by simp,rfl,?_,by omega⟩⟩
     rw [List.drop_zero,List.take_of_length_le (by omega)]
 obtain ⟨F,hFok,hFnew,hvec⟩:=key
 have hout:∀ {r v q},(m.out g F) r v=some q→r ≠ g∧m r v=some q:=by
  intro r v q h
  have h:(if r=g then none else m r v)=some q:=h
  by_cases e:r=g
  ·rw [if_pos e] at h; cases h
  ·rw [if_neg e] at h; exact ⟨e,h⟩
 have hblk:∀ {r c},r ≠ g→(mkH L').t.get r=some c→∃ b,(mkH L).t.get r=some b∧c.minv=b.minv∧c.ro=b.ro∧Fr1 g n sz cells b.cells c.cells:=by
  intro r c hne hc'
  rw [gL'] at hc'
  obtain ⟨b,A,C⟩:=hget r c hc'
  rw [Nat.zero_add] at C
  rcases C with ⟨e,_⟩ | ⟨_,E⟩
  ·exact absurd e hne
  ·exact ⟨b,by rw [gL]; exact A,E⟩
 refine k r hr' m0 w0 b0 (m.out g F) w a h0 ?_ hnt hd ⟨?_,?_,?_,?_,?_,hFok.ok,?_,hFok.fin,rw.base_le,by show L'.length≤roots; omega,rw.tyk⟩ ⟨⟨λr v q hq=>(by
  have l:=h0.1 r v q hq
  have o:=Nat.le_of_ble_eq_true S
  show (if r=g then none else m r v)=some q
  rw [if_neg (by omega)]
  exact st.sub.1 r v q hq),λi q hq=>hFok.sub i q (st.sub.2 i q hq),st.sub.3⟩,?_,?_,st.size,st.os,st.tape,st.output,st.same⟩
 ·intro u hu
  obtain ⟨hne,hf⟩:=qM7 hE u hu
  obtain ⟨c,l,o⟩:=fr u hne
  refine ⟨c,l,?_⟩
  have:=fr1_ok hFok.sub hvec hf (cs:=[c]) (by simp only [VRs]; exact ⟨c,[],rfl,o,rfl⟩)
  simp only [VRs] at this
  obtain ⟨c',cs',Z,h3,_⟩:=this
  cases Z
  exact h3
 ·intro r b v B N hb hm l o
  obtain ⟨hne',hm⟩:=hout hm
  obtain ⟨O,D,U,G,g4⟩:=hblk hne' hb
  obtain ⟨cs,ty,fr',A,C,E,M,K⟩:=rw.blk r O v B N D hm (by omega) (by rw [← g4.length]; exact o)
  exact ⟨cs,ty,fr',A,C,E,by rw [G]; exact M,fr1_ok hFok.sub hvec (fr1_take g4 v) K⟩
 ·intro r v B N hm
  obtain ⟨hne',hm⟩:=hout hm
  obtain ⟨b,A,C,E,M⟩:=rw.dom r v B N hm
  rw [gL] at A
  have hlt:r < L'.length:=by rw [hlen]; exact (List.getElem?_eq_some_iff.1 A).1
  have hc':(mkH L').t.get r=some L'[r]:=by rw [gL']; exact List.getElem?_eq_getElem hlt
  obtain ⟨O,D,U,G,g4⟩:=hblk hne' hc'
  rw [gL,A] at D
  cases D
  exact ⟨_,hc',by rw [g4.length]; exact C,E,by rw [G]; exact M⟩
 ·intro r v B N r' v' N' hm hm' hB
  exact rw.sep _ _ _ _ _ _ _ (hout hm).2 (hout hm').2 hB
 ·intro r hr
  have hr:L'.length≤r:=hr
  rw [gL',List.getElem?_eq_none hr]
 ·intro r v B N hm
  exact rw.vle _ _ _ _ (hout hm).2
 ·intro i B cs r v N b hi hm hb
  obtain ⟨hne',hm⟩:=hout hm
  obtain ⟨O,D,U,G,g4⟩:=hblk hne' hb
  rw [G]
  rcases hFnew i B cs hi with h | ⟨v',N',h⟩
  ·exact rw.fsep i B cs r v N O h hm D
  ·obtain ⟨b0,x,_,_,hbase⟩:=rw.dom _ _ _ _ h
   rw [hroot] at x
   cases x
   exact absurd (rw.sep _ _ _ _ _ _ _ h hm (hbase rfl)).symm hne'
 ·intro r v B N hm
  exact st.ext r v B N (hout hm).2
 ·intro i B cs hi
  rcases hFok.new i B cs hi with h | h
  ·exact st.fext i B cs h
  ·obtain ⟨l,r,v,N,_,hm⟩:=h
   rcases st.ext r v B N hm with ⟨v0,N0,e0⟩ | o
   ·exact .inr ⟨l,.inl ⟨r,v0,N0,e0⟩⟩
   ·exact .inr ⟨l,.inr o⟩
def cT {α R:Type} (m:Option (Option α)) (tc:Option R) (f:α→Option R):Option R:=m.bind λx=>match x with | none=>tc | some y=>f y
def DfR (m:Mp) (f:Nat) (caps:List AV) (ds:List Deferred):Prop := ∃ vals:Array Value,ds=[{ target := .fn (.func f) vals,args := #[] }]∧VRs m caps vals.toList
def DefT (P:Program) (f:Nat) (caps:List AV) (L:List Blk) (u:FrameMode) (L':List Blk):Prop :=
 (∀ (m:Mp) (w:World) (base:Nat) (vals:Array Value),VRs m caps vals.toList→RW m (mkH L) w base→CallsD P f vals u w λe u' w'=>(∃ v,e = .returned v)∧settle u' = .returning∧∃ m',RW m' (mkH L') w' base∧St m w base m' w') ∧
 (∃ fn,P.funcs[f]? = some fn∧(fn.name == "runtime.NumGoroutine")=false∧fn.body.isSome=true)
section
variable {R:Type} (X:Fx R)
def OkD (f:Nat) (caps:List AV) (p:Pt) (env:Env) (H:Hp) (t:Option R):Prop := ∀ r,t=some r→∀ (m0:Mp) (b:World) (b0:Nat) (m:Mp) (w:World) (a:Act),((∀ r v p,m0 r v=some p→r < X.n0)∧b0≤b.heap.size)→FR m env a.tmps→X.fn.ntmps≤a.tmps.size→DfR m f caps a.defers→RW m H w b0→St m0 b b0 m w→At X.P (Ret X r m0 b b0) p a w
end
section
variable {R:Type} {X:Fx R} {f:Nat} {caps:List AV} {p p':Pt} {env eE:Env} {H H':Hp}
theorem put_defers (a:Act) (d:Option Nat) (c:Value):(a.put d c).defers=a.defers:=by cases d <;> rfl
theorem DfR.mono {m m':Mp} {ds:List Deferred} (h:Sub m m') (k:DfR m f caps ds):DfR m' f caps ds:=let ⟨v,e,q⟩:=k; ⟨v,e,VRs.mono h _ _ q⟩
theorem qM6 {m : Mp} {env : Env} {a : Act} {n : Nat} (fr : FR m env a.tmps) (j : n ≤ a.tmps.size) (o : Oper) (ho : dstOk n o = true) (v : AV) (c : Value) (hv : VR m v c) :
 FR m (putV env o.dst v) (a.put o.dst c).tmps∧n≤(a.put o.dst c).tmps.size:=by
 obtain ⟨b,g,_⟩:=qAu (a := { a with defers:=[] }) fr j rfl o ho v c hv
 cases h:o.dst <;> rw [h] at b g <;> exact ⟨b,g⟩
theorem qKp {t:Option R} (h:p=p') (k:OkD X f caps p' env H t):OkD X f caps p env H t:=h ▸ k
theorem qIw {t:Option R} {ops:Array Oper} {n:Nat} {K:List Fr} {o:Oper} {v:AV} (ho:ops[n]? = some o) (hd:dstOk X.fn.ntmps o=true) (hw:wantedV o ops.toList env=some true) (hs:Stp X.P X.C env H o v H') (k:OkD X f caps (.ops ops (n+1) K) (putV env o.dst v) H' t):OkD X f caps (.ops ops n K) env H t:=by
 intro r hr m0 h b0 m w a g fr j hdf rw st
 show wpOps X.P ops _ (List.range' n (ops.size - n)) a w
 have hlt:n < ops.size:=(Array.getElem?_eq_some_iff.1 ho).1
 rw [show ops.size - n=(ops.size - (n+1))+1 by omega,List.range'_succ]
 simp only [wpOps,ho]
 rw [qAx hw fr]
 simp only [if_true]
 refine .inl ?_
 refine qKc X.hti hs fr rw _ _ λm' w' c l b q=>?_
 obtain ⟨f1,f2⟩:=qM6 (fr.mono b.sub) j o hd v c q
 exact k r hr m0 h b0 m' w' _ g f1 f2 (by rw [put_defers]; exact hdf.mono b.sub) l (st.trans g.2 b)
theorem okD_skp {t:Option R} {ops:Array Oper} {n:Nat} {K:List Fr} {o:Oper} (ho:ops[n]? = some o) (hd:dstOk X.fn.ntmps o=true) (hw:wantedV o ops.toList env=some false) (k:OkD X f caps (.ops ops (n+1) K) (putV env o.dst (.tuple [])) H t):OkD X f caps (.ops ops n K) env H t:=by
 intro r hr m0 b b0 m w a c fr g hdf rw st
 show wpOps X.P ops _ (List.range' n (ops.size - n)) a w
 have hlt:n < ops.size:=(Array.getElem?_eq_some_iff.1 ho).1
 rw [show ops.size - n=(ops.size - (n+1))+1 by omega,List.range'_succ]
 simp only [wpOps,ho]
 rw [qAx hw fr]
 simp only [Bool.false_eq_true,if_false]
 obtain ⟨f1,f2⟩:=qM6 fr g o hd (.tuple []) undef (qEi _)
 exact k r hr m0 b b0 m w _ c f1 f2 (by rw [put_defers]; exact hdf) rw st
theorem qCq {t:Option R} (h:∀ (Q:Exit→Act→World→Prop) (a:Act) (w:World),At X.P Q p' a w→At X.P Q p a w) (k:OkD X f caps p' env H t):OkD X f caps p env H t :=
 λr hr m0 b b0 m w a c fr g hd rw st=>h _ a w (k r hr m0 b b0 m w a c fr g hd rw st)
theorem stepD_ok {t:Option R} (h:stepV X.C X.fn.ntmps p env H=some (p',eE,H')) (k:OkD X f caps p' eE H' t):OkD X f caps p env H t:=by
 cases p with
 | ops ops n K =>
  simp only [stepV] at h
  rw [qCm,Array.getElem?_toList] at h
  cases ho:ops[n]? with
  | none =>
   rw [ho] at h
   cases h
   refine qCq (λQ a w hh=>?_) k
   show wpOps X.P ops _ (List.range' n (ops.size - n)) a w
   have hle:ops.size≤n:=by
    rcases Nat.lt_or_ge n ops.size with g | g
    ·rw [Array.getElem?_eq_getElem g] at ho; cases ho
    ·exact g
   rw [show ops.size - n=0 by omega]
   exact qAr hh
  | some o =>
   rw [ho] at h
   simp only at h
   cases hd:dstOk X.fn.ntmps o with
   | false=>rw [hd] at h; cases h
   | true =>
    rw [hd] at h
    simp only [cond_true] at h
    split at h
    ·rename_i hw
     split at h
     ·rename_i v D hv
      cases h
      exact qIw ho hd hw (.inl hv) k
     ·cases h
    ·rename_i hw
     cases h
     exact okD_skp ho hd hw k
    ·cases h
 | code c K =>
  cases c <;> simp only [stepV] at h
  case seq x y=>cases h; exact qCq (p' := .code x (.seq y::K)) (λQ a w hh=>wp_seq (wp_mono hh λe a w he=>by cases e <;> exact he)) k
  case skip=>cases h; exact qCq (λQ a w hh=>wp_skip (qAr hh)) k
  case label=>cases h; exact qCq (λQ a w hh=>wp_label (qAr hh)) k
  case block id b=>cases h; exact qCq (p' := .code b (.block id::K)) (λQ a w hh=>wp_block hh) k
  case scope b=>cases h; exact qCq (p' := .code b (.scope b::K)) (λQ a w hh=>(qEd hh).wp) k
  case loop b=>cases h; exact qCq (p' := .loop _ _) (λQ a w hh=>LoopWp.wp hh) k
  case exit id =>
   split at h
   ·rename_i q hq
    cases h
    exact qCq (λQ a w hh=>wp_exit (qCg hq hh)) k
   ·cases h
  case goto l =>
   split at h
   ·rename_i q hq
    cases h
    exact qCq (λQ a w hh=>wp_goto (qCz hq hh)) k
   ·cases h
  case ret=>cases h; exact qCq (p' := .fin) (λQ a w hh=>wp_ret (qD8 hh.2 K)) k
  case region id ops draw =>
   cases draw with
   | true=>cases h
   | false =>
    cases h
    refine qCq (p' := .ops ops 0 K) (λQ a w hh=>wp_region ?_) k
    have hh':wpOps X.P ops (FinK X.P Q K) (List.range' 0 (ops.size - 0)) a w:=hh
    rw [List.range_eq_range']
    exact hh'
  case cond c x y =>
   split at h
   ·rename_i b j
    cases h
    intro r hr m0 u b0 m w a A fr B hd rw st
    have hc:=qB9 fr c
    rw [j] at hc
    simp only [VR] at hc
    refine wp_cond hc ?_
    have:=k r hr m0 u b0 m w a A fr B hd rw st
    cases b <;> exact this
   ·cases h
  all_goals cases h
 | loop b K=>cases h
 | fin=>cases h
theorem qCp {t : Option R} : ∀ (k : Nat) {p : Pt} {env : Env} {H : Hp}, runV X.C X.fn.ntmps k p env H = some (p', eE, H') → OkD X f caps p' eE H' t → OkD X f caps p env H t
 | 0,p,env,H,h,g=>by
  have h':some (p,env,H)=some (p',eE,H'):=h
  cases h'
  exact g
 | k+1,p,env,H,h,g=>by
  have h':(match stepV X.C X.fn.ntmps p env H with | some (p',eE,H')=>runV X.C X.fn.ntmps k p' eE H' | none=>none)=some (p',eE,H'):=h
  split at h'
  ·rename_i a env1 b hs
   exact stepD_ok hs (qCp k h' g)
  ·cases h'
noncomputable def deferAt (n:Nat) (p:Pt) (env:Env):Option (Nat×List AV) :=
 match operAt n p env with
 | some o=>match o.op,o.dst with
  | .defer c,none=>match c.callee,c.args.toList with
   | .value g,[]=>match opnd env g with
    | .func f [] caps=>some (f,caps)
    | _=>none
   | _,_=>none
  | _,_=>none
 | none=>none
theorem qEg {t:Option R} (h:deferAt X.fn.ntmps p env=some (f,caps)) (k:OkD X f caps (adv p) env H t):Ok X p env H t:=by
 unfold deferAt at h
 cases ho:operAt X.fn.ntmps p env with
 | none=>rw [ho] at h; cases h
 | some o =>
  rw [ho] at h
  simp only at h
  obtain ⟨ops,n,K,rfl,b,x,j⟩:=qAd ho
  split at h
  ·rename_i c hop hdst
   split at h
   ·rename_i g hcal hargs
    split at h
    ·rename_i f' caps' hg
     cases h
     intro r hr m0 l b0 m w a q fr u hdf rw st
     show wpOps X.P ops _ (List.range' n (ops.size - n)) a w
     have hlt:n < ops.size:=(Array.getElem?_eq_some_iff.1 b).1
     rw [show ops.size - n=(ops.size - (n+1))+1 by omega,List.range'_succ]
     simp only [wpOps,b]
     rw [qAx j fr]
     simp only [if_true]
     refine .inl ?_
     have hgv:=qB9 fr g
     rw [hg] at hgv
     simp only [VR,VRs] at hgv
     obtain ⟨ys,zs,hgv,hy,hz⟩:=hgv
     have hys:ys = #[]:=Array.toList_eq_nil_iff.1 hy
     subst hys
     have ha:c.args = #[]:=Array.toList_eq_nil_iff.1 hargs
     have hexec:(execOp a.eval o).run X.P w = .ok (.defer { target := .fn (.func f) zs,args := #[] }) w:=by
      simp [execOp,hop,resolve,hcal,hgv,Deferred.ofValue,ha,Sem.run,Bind.bind,Sem.bind,Pure.pure,Sem.pure]
     unfold Oper.wp
     rw [hexec]
     show wpOps X.P ops _ (List.range' (n+1) (ops.size - (n+1))) ({ a with defers := { target := .fn (.func f) zs,args := #[] }::a.defers }.put o.dst undef) w
     rw [hdst]
     refine k r hr m0 l b0 m w _ q fr u ⟨zs,?_,hz⟩ rw st
     show { target := .fn (.func f) zs,args := #[] }::a.defers=_
     rw [hdf]
    ·cases h
   ·cases h
  ·cases h
theorem qO7 {P:Program} {f:Nat} {vals:Array Value} {w:World} (h:∃ fn,P.funcs[f]? = some fn∧(fn.name == "runtime.NumGoroutine")=false∧fn.body.isSome=true):(invoke (.fn (.func f) vals) #[]).run P w = .ok (.enter f vals) w:=by
 obtain ⟨fn,c,e2,e3⟩:=h
 have a:¬ fn.name = "runtime.NumGoroutine" := by simpa using e2
 have b:¬ fn.body=none:=by intro e; rw [e] at e3; cases e3
 simp [invoke,callFunc,c,a,b]
theorem qFy {r : R} {xs : List AV} {v : AV} {u : FrameMode} {m0 m : Mp} {g w : World} {b0 : Nat} {a : Act} (k L b : List Blk) (hu : u ≠ .run) (hdT : DefT X.P f caps k u (L ++ b)) (ht : X.thr r = none) (hr : resV X.C env (mkH (L ++ b)) X.fn.results.toList = some xs) (n : Nat.ble (L.length + b.length) roots = true) (h : Nat.ble X.n0 L.length = true)
 (hz:FzG L.length (mkH (L++b)) [oneRes xs] [v]) (o:BB L.length L) (hv:X.enc r=v) (hf:X.fin r=mkH L) (l:(∀ r v p,m0 r v=some p→r < X.n0)∧b0≤g.heap.size) (fr:FR m env a.tmps) (hd:DfR m f caps a.defers) (rw:RW m (mkH k) w b0) (st:St m0 g b0 m w) :
 Leaves X.P X.fn a.tmps (EndT (X.thr r) (X.enc r) (X.fin r) m0 g b0) a.defers u w:=by
 obtain ⟨vals,hds,hvals⟩:=hd
 rw [hds]
 refine leaves_cons hu (qO7 hdT.2) (CallsD.mono (hdT.1 m w b0 vals hvals rw) ?_)
 rintro e u' w' ⟨⟨c,rfl⟩,hs,m',rw',st'⟩
 have j:=st.trans l.2 st'
 obtain ⟨c',q,e⟩:=qKh (env:=env) (a:=a) l L b ht hr n h hz o hv hf (fr.mono st'.sub) rw' j
 show Leaves X.P X.fn a.tmps _ [] (settle u') w'
 rw [hs]
 exact ⟨c',q,e⟩
theorem qIx {r : R} {xs : List AV} {v : AV} (c L b : List Blk) (hX : X.dfs = true) (hH : H = mkH c) (hdT : DefT X.P f caps c .returning (L ++ b)) (ht : X.thr r = none) (hr : resV X.C env (mkH (L ++ b)) X.fn.results.toList = some xs) (j : Nat.ble (L.length + b.length) roots = true) (g : Nat.ble X.n0 L.length = true)
 (hz:FzG L.length (mkH (L++b)) [oneRes xs] [v]) (k:BB L.length L) (hv:X.enc r=v) (hf:X.fin r=mkH L):OkD X f caps .fin env H (some r):=by
 intro r' e m0 h b0 m w a l fr hnt hd rw st
 cases e
 subst hH
 have:=qFy (u := .returning) c L b (by intro e; cases e) hdT ht hr j g hz k hv hf l fr hd rw st
 show Ret X r m0 h b0 .normal a w∧Ret X r m0 h b0 .ret a w
 unfold Ret
 rw [hX]
 exact ⟨this,this⟩
theorem qGw {α : Type} {mm : Option (Option α)} {ff : α → Option R} {tc : Option R} {fi : Nat} {args : List AV} {tv : Value} {D : LN} {xs : List AV} {v : AV} {rc : R} (g : α → AV) (G : α → Hp) (p' : Pt) (E : α → Env) (J L b : List Blk) (env2 : Env) (ks : LN) (nk : Nat) (hX : X.dfs = true) (htc : tc = some rc) (hc : callAt X.fn.ntmps p env = some (fi, args))
 (M:mm=some none→∃ v,CallT X.P fi args H (some (tv,D)) v (mkH J)) (hD:(D.all λr=>Nat.ble nk r && Nat.ble X.n0 r)=true) (hk:keepOnly env ks=env2) (hbe:belowE nk env2=true) (hbc:belows nk caps=true)
 (hdT:DefT X.P f caps J (.panicking [{ v:=tv,recovered:=false }]) (L++b)) (ht:X.thr rc=none) (hr:resV X.C env2 (mkH (L++b)) X.fn.results.toList=some xs) (j:Nat.ble (L.length+b.length) roots=true) (O:Nat.ble X.n0 L.length=true)
 (hz:FzG L.length (mkH (L++b)) [oneRes xs] [v]) (hb:BB L.length L) (hv:X.enc rc=v) (hff:X.fin rc=mkH L)
 (hf:∀ x,mm=some (some x)→CallT X.P fi args H none (g x) (G x)) (ha:∀ x,advE X.fn.ntmps p env (g x)=some (p',E x)) (k:∀ x,mm=some (some x)→OkD X f caps p' (E x) (G x) (ff x)):OkD X f caps p env H (cT mm tc ff):=by
 unfold cT
 intro r hr' m0 w0 b0 m w a A fr hnt hd rw st
 cases hmm:mm with
 | none=>rw [hmm] at hr'; cases hr'
 | some x =>
  rw [hmm] at hr'
  cases x with
  | some y =>
   obtain ⟨o,c,q,first,cps,ho,hoc,hq,hfv,hargs⟩:=qBa hc
   have hay:=ha y
   unfold advE at hay
   rw [ho] at hay
   simp only [Option.some.injEq,Prod.mk.injEq] at hay
   obtain ⟨S,e2⟩:=hay
   obtain ⟨ops,n,K,rfl,F,h2,T⟩:=qAd ho
   have ky:=k y hmm
   rw [← S,← e2] at ky
   exact qIw F h2 T (.inr ⟨c,q,fi,first,cps,hoc,hq,hfv,hargs ▸ (hf y hmm).v⟩) ky r hr' m0 w0 b0 m w a A fr hnt hd rw st
  | none =>
   obtain ⟨U,hcall⟩:=M hmm
   have hr':tc=some r:=hr'
   rw [htc] at hr'
   cases hr'
   obtain ⟨o,c,q,first,cps,ho,hoc,hq,hfv,hargs⟩:=qBa hc
   obtain ⟨ops,n,K,rfl,F,h2,T⟩:=qAd ho
   show wpOps X.P ops _ (List.range' n (ops.size - n)) a w
   have hlt:n < ops.size:=(Array.getElem?_eq_some_iff.1 F).1
   rw [show ops.size - n=(ops.size - (n+1))+1 by omega,List.range'_succ]
   simp only [wpOps,F]
   rw [qAx T fr]
   simp only [if_true]
   refine .inl ?_
   refine qDe (.inr ⟨c,q,fi,first,cps,U,hoc,hq,hfv,hargs ▸ hcall⟩) fr rw _ _ λw' th=>qBf ?_ K
   obtain ⟨qt,m1,d1,⟨d2,d2t⟩,d3,V⟩:=th
   have hDk:∀ r ∈ D,nk≤r∧X.n0≤r:=by
    intro r hr
    have:=List.all_eq_true.1 hD r hr
    simpa using this
   have hkeep:∀ i v p,i < nk→m i v=some p→m1 i v=some p:=by
    intro i v p hi e
    rw [d1,if_neg (λh=>by have:=(hDk i h).1; omega)]
    exact e
   have W:FR m1 env2 a.tmps:=by
    intro t ht
    obtain ⟨c,g1,g2⟩:=(fr.less (hk ▸ qBh ks env)) t ht
    refine ⟨c,g1,?_⟩
    have:=qGo (m:=m) (m0:=m1) (ρ:=id) (n:=nk) (λi v p hi e=>hkeep i v p hi e) d2 d2t _ c (qCh t hbe)
    exact this (by rw [qIo]; exact g2)
   have Y:DfR m1 f caps a.defers:=by
    obtain ⟨vals,S,e2⟩:=hd
    refine ⟨vals,S,?_⟩
    exact qB6 (m:=m) (m0:=m1) (ρ:=id) (n:=nk) (λi v p hi e=>hkeep i v p hi e) d2 d2t _ _ hbc (by rw [qCy]; exact e2)
   have Z:St m0 w0 b0 m1 w':=by
    have l:=st.qt A.2 qt
    refine ⟨⟨λr v p hp=>?_,λi p hp=>d2 i p (st.sub.2 i p hp),λB t hp=>d2t B t (st.sub.3 B t hp)⟩,?_,?_,l.size,l.os,l.tape,l.output,l.same⟩
    ·rw [d1,if_neg (λh=>by have:=(hDk r h).2; have:=A.1 r v p hp; omega)]
     exact st.sub.1 r v p hp
    ·intro r v B N e
     rw [d1] at e
     split at e
     ·cases e
     ·exact st.ext r v B N e
    ·intro i B cells e
     rcases d3 i B cells e with h | ⟨hB,⟨r,v,N,hm⟩ | j⟩
     ·exact st.fext i B cells h
     ·rcases st.ext r v B N hm with ⟨U,N0,e0⟩ | j
      ·exact .inr ⟨hB,.inl ⟨r,U,N0,e0⟩⟩
      ·exact .inr ⟨hB,.inr j⟩
     ·exact .inr ⟨hB,.inr (Nat.le_trans st.size j)⟩
   have:=qFy (env:=env2) (u := .panicking [{ v:=tv,recovered:=false }]) J L b (by intro e; cases e) hdT ht hr j O hz hb hv hff A W Y V Z
   unfold Ret
   rw [hX]
   exact this
end
theorem defT_of (Y : Fx Unit) {f : Nat} {L L' : List Blk} {caps : List AV} {id : Nat} {ops : Array Oper} {rest : Code} {g j : Oper} {d1 d2 : Nat} {u u' : FrameMode} {xv : Value} {x : AV} (hf : Y.P.funcs[f]? = some Y.fn) (O : (Y.fn.name == "runtime.NumGoroutine") = false) (C : Y.fn.body = some (.seq (.region id ops false) rest)) (hops : ops = #[g, j])
 (S:g.op = .call ⟨.builtin .recover,#[],#[]⟩) (M:g.dst=some d1) (T:g.guard=none) (g4:j.op = .assign (.tmp d1)) (U:j.dst=some d2) (g6:j.guard=none) (E:d1 < Y.fn.ntmps) (F:d2 < Y.fn.ntmps) (hdfs:Y.dfs=false) (hthr:Y.thr ()=none) (hfin:Y.fin ()=mkH L') (G:Y.n0=L.length)
 (N:∀ m,VR m x xv) (hu:∀ (c₀:Frame) (cs:List Frame),c₀.mode=u→(recoverD (c₀::cs)=some (xv,{ c₀ with mode:=u' }::cs))∨(recoverD (c₀::cs)=none∧xv = .nilIface∧u'=u)) (hset:settle u' = .returning)
 (h:Ok Y (.code rest []) ((d2,x)::(d1,x)::args0 0 caps) (mkH L) (some ())):DefT Y.P f caps L u L':=by
 refine ⟨?_,Y.fn,hf,O,by rw [C]; rfl⟩
 intro m w base vals hvals rw
 refine callsD_of_wpS hf C λc₀ cs hc=>?_
 let k:Act := { tmps:=vals++Array.replicate (Y.fn.ntmps - vals.size) undef,defers:=[] }
 have hmid:∀ n:Act,n=(k.put (some d1) xv).put (some d2) xv→rest.wp Y.P (Ret Y () m w base) n w:=by
  rintro n rfl
  have f1:FR m (args0 0 caps) k.tmps:=qK8 hvals
  have hsz:Y.fn.ntmps≤k.tmps.size:=by simp [k]; omega
  have f2:=f1.put d1 x xv (N m) (.inl (Nat.lt_of_lt_of_le E hsz))
  have f3:=f2.put d2 x xv (N m) (.inl (by simp; exact Nat.lt_of_lt_of_le F hsz))
  refine h () rfl m w base m w ((k.put (some d1) xv).put (some d2) xv) ⟨λr v p e=>?_,rw.base_le⟩ ?_ (by simp [Act.put]; exact hsz) rfl rw (St.refl _ _ _)
  ·obtain ⟨b,C,_⟩:=rw.dom r v p.1 p.2 e
   rw [G]
   exact rw.lt C
  ·refine f3.less ?_
   intro t
   right
   rw [qBg,qAz]
   by_cases e:d2=t
   ·rw [if_pos e,if_pos e]
   ·rw [if_neg e,if_neg e,qBg,qAz]
 have hend:∀ (n:Act),n=(k.put (some d1) xv).put (some d2) xv→rest.wpS Y.P (bodyPostS Y.P Y.fn c₀ cs λe o w'=>(∃ v,e = .returned v)∧settle o = .returning∧∃ m',RW m' (mkH L') w' base∧St m w base m' w') n ({ c₀ with mode:=u' }::cs) w:=by
  intro n J
  refine wpS_of_wp (wp_mono (hmid n J) λe a' w' he=>?_)
  have key:a'.defers=[]→(∃ v,(results Y.fn a'.tmps).run Y.P w' = .ok v w'∧EndT (Y.thr ()) (Y.enc ()) (Y.fin ()) m w base (.returned v) w')→a'.defers=[]∧∃ o,({ c₀ with mode:=u' }::cs) = { c₀ with mode:=o }::cs∧∃ v,(results Y.fn a'.tmps).run Y.P w' = .ok v w'∧((∃ v',Ending.returned v = .returned v')∧settle o = .returning∧∃ m',RW m' (mkH L') w' base∧St m w base m' w'):=by
   rintro hd ⟨v,V,q⟩
   rw [hthr,hfin] at q
   obtain ⟨m',c,D,e2,e3,_⟩:=q
   exact ⟨hd,u',rfl,v,V,⟨v,rfl⟩,hset,m',e2,e3⟩
  unfold Ret at he
  rw [hdfs] at he
  cases e with
  | normal=>exact key he.1 he.2
  | ret=>exact key he.1 he.2
  | panic ch =>
   have q:=he.2
   rw [hthr] at q
   obtain ⟨m',c,D,_⟩:=q
   cases D
  | exit id=>exact he.elim
  | goto l=>exact he.elim
  | outgrown =>
   have q:EndT (Y.thr ()) (Y.enc ()) (Y.fin ()) m w base .outgrown w':=he
   rw [hthr] at q
   obtain ⟨m',c,D,_⟩:=q
   cases D
 refine wpS_seq (wpS_region ?_)
 subst hops
 have A:Region.wanted g (yielded #[g,j] k.tmps)=true:=by simp [Region.wanted,T]
 have B:(execOp k.eval g).run Y.P w = .ok .recover w:=by simp [execOp,S,resolve,invoke,builtin,Sem.run,Bind.bind,Sem.bind,Pure.pure,Sem.pure]
 have hev:∀ a:Act,a=k.put (some d1) xv→(execOp a.eval j).run Y.P w = .ok (.value xv) w:=by
  rintro a rfl
  have hlt:d1 < k.tmps.size:=by simp [k]; omega
  simp [execOp,g4,Act.eval,Act.put,Sem.run,Pure.pure,Sem.pure,hlt]
 have K:∀ a:Act,Region.wanted j (yielded #[g,j] a.tmps)=true:=by intro a; simp [Region.wanted,g6]
 show wpOpsS Y.P #[g,j] _ [0,1] k (c₀::cs) w
 have step2:∀ (a:Act) (cs':List Frame),a=k.put (some d1) xv→cs' = { c₀ with mode:=u' }::cs→wpOpsS Y.P #[g,j] (Exit.thenS (rest.wpS Y.P (bodyPostS Y.P Y.fn c₀ cs λe o w'=>(∃ v,e = .returned v)∧settle o = .returning∧∃ m',RW m' (mkH L') w' base∧St m w base m' w')) (bodyPostS Y.P Y.fn c₀ cs λe o w'=>(∃ v,e = .returned v)∧settle o = .returning∧∃ m',RW m' (mkH L') w' base∧St m w base m' w')) [1] a cs' w:=by
  intro a cs' ha hcs
  subst hcs
  simp only [wpOpsS]
  rw [show (#[g,j]:Array Oper)[1]? = some j from rfl]
  simp only [K a,if_true,hev a ha,Oper.upon,U]
  exact hend _ (by rw [ha])
 rcases hu c₀ cs hc with hrec | ⟨hrec,hxv,huu⟩
 ·have:=step2 _ _ rfl rfl
  unfold wpOpsS
  rw [show (#[g,j]:Array Oper)[0]? = some g from rfl]
  simp only [A,if_true,B,M,hrec]
  exact this
 ·have hcs:({ c₀ with mode:=u' }::cs:List Frame)=c₀::cs:=by rw [huu,← hc]
  have:=step2 (k.put (some d1) .nilIface) (c₀::cs) (by rw [hxv]) hcs.symm
  unfold wpOpsS
  rw [show (#[g,j]:Array Oper)[0]? = some g from rfl]
  simp only [A,if_true,B,M,hrec]
  exact this
noncomputable def recAt (fn:Func) (d1 d2:Nat):Bool :=
 match fn.body with
 | some (.seq (.region _ ops false) _)=>match ops.toList with
  | [a, b] => (match a.op with | .call ⟨.builtin .recover, c, g⟩ => c.toList.isEmpty && g.toList.isEmpty | _ => false) && (match a.dst with | some d => Nat.beq d d1 | none => false) && a.guard.isNone &&
   (match b.op with | .assign (.tmp e)=>Nat.beq e d1 | _=>false) && (match b.dst with | some d=>Nat.beq d d2 | none=>false) && b.guard.isNone && Nat.blt d1 fn.ntmps && Nat.blt d2 fn.ntmps
  | _=>false
 | _=>false
def restAt (fn:Func):Pt:=match fn.body with | some (.seq _ rest) => .code rest [] | _ => .fin
structure Cat (u:FrameMode) (x:AV):Prop where
 ex:∃ u' xv,(∀ m,VR m x xv)∧(∀ (c₀:Frame) (cs:List Frame),c₀.mode=u→(recoverD (c₀::cs)=some (xv,{ c₀ with mode:=u' }::cs))∨(recoverD (c₀::cs)=none∧xv = .nilIface∧u'=u))∧settle u' = .returning
theorem qD (Y : Fx Unit) (d1 d2 : Nat) {f : Nat} {L L' : List Blk} {caps : List AV} {u : FrameMode} {x : AV} (hcat : Cat u x) (hf : Y.P.funcs[f]? = some Y.fn) (l : (Y.fn.name == "runtime.NumGoroutine") = false) (a : recAt Y.fn d1 d2 = true) (hdfs : Y.dfs = false) (hthr : Y.thr () = none) (hfin : Y.fin () = mkH L') (c : Y.n0 = L.length)
 (h:Ok Y (restAt Y.fn) ((d2,x)::(d1,x)::args0 0 caps) (mkH L) (some ())):DefT Y.P f caps L u L':=by
 obtain ⟨u',xv,m,hu,hset⟩:=hcat.ex
 unfold recAt at a
 split at a
 ·rename_i id ops rest hbody
  split at a
  ·rename_i C D hops
   simp only [Bool.and_eq_true] at a
   obtain ⟨⟨⟨⟨⟨⟨⟨b,g⟩,n⟩,j⟩,k⟩,o⟩,q⟩,r⟩:=a
   have hr:restAt Y.fn = .code rest []:=by simp [restAt,hbody]
   rw [hr] at h
   refine defT_of Y (d1:=d1) (d2:=d2) hf l hbody (by rw [← hops]) ?_ ?_ (by simpa using n) ?_ ?_ (by simpa using o) (by simpa using q) (by simpa using r) hdfs hthr hfin c m hu hset h
   ·split at b
    ·rename_i A B e
     simp only [Bool.and_eq_true,List.isEmpty_iff,Array.toList_eq_nil_iff] at b
     rw [e,b.1,b.2]
    ·cases b
   ·split at g
    ·rename_i d e; rw [e,Nat.eq_of_beq_eq_true g]
    ·cases g
   ·split at j
    ·rename_i d e; rw [e,Nat.eq_of_beq_eq_true j]
    ·cases j
   ·split at k
    ·rename_i d e; rw [e,Nat.eq_of_beq_eq_true k]
    ·cases k
  ·cases a
 ·cases a
theorem qGy:Cat .returning .nili :=
 ⟨.returning,.nilIface,λm=>by simp [VR],λc₀ cs hc => .inr ⟨by simp [recoverD,hc],rfl,rfl⟩,rfl⟩
theorem qDs {t:Nat}:Cat (.panicking [{ v := .iface t (.agg #[]),recovered:=false }]) (.iface t (.agg [])) :=
 ⟨.panicking [{ v := .iface t (.agg #[]),recovered:=true }],.iface t (.agg #[]),λm=>by simp [VR,VRs],λc₀ cs hc => .inl (by simp [recoverD,hc]),rfl⟩
noncomputable def lp {α:Type} (z:α) (f:α→α) (n:Nat):α:=Nat.rec (motive:=λ_=>α) z (λ_ ih=>f ih) n
abbrev AV.i (n:Int):AV := .int .i64 n
abbrev AV.y (n:Int):AV := .int .u8 n
def PTh {R:Type} (X:Fx (Option R)) (fi:Nat) (xs:List AV) (m:Option (Option R)):Prop := ∀ x,m=some (some x)→CallT X.P fi xs (X.fin none) (X.thr (some x)) (X.enc (some x)) (X.fin (some x))
def QTh {R:Type} (X:Fx (Option R)) (fi:Nat) (xs:List AV) (m:Option (Option R)):Prop:=m=some none→∃ v,CallT X.P fi xs (X.fin none) (X.thr none) v (X.fin none)
def PNh {R:Type} (X:Fx R) (fi:Nat) (xs:List AV) (H:Hp) (m:Option R):Prop := ∀ x,m=some x→CallT X.P fi xs H none (X.enc x) (X.fin x)
def PQh {R:Type} (X:Fx (Option R)) (fi:Nat) (xs:List AV) (m:Option (Option R)):Prop:=PTh X fi xs m∧QTh X fi xs m
noncomputable def DP.th (D:DP) (i:Nat) (v:Value) (ds:LN) (H:Hp):DP:=⟨D.S,D.pl,i,v,ds,H⟩
section
variable {R:Type} {X:Fx R} {p:Pt} {env:Env} {H:Hp} {t:Option R}
theorem oLH (k:Nat) (p':Pt) (eE:Env) (H':Hp) (g:Ok X p' eE H' t) (h:(runV X.C X.fn.ntmps k p env H).map (λx=>(x.1,keepOnly x.2.1 (eE.map Prod.fst),x.2.2))=some (p',eE,H'):=by kernel_rfl):Ok X p env H t:=by
 cases hr:runV X.C X.fn.ntmps k p env H with
 | none=>rw [hr] at h; cases h
 | some x =>
  obtain ⟨q,e,G⟩:=x
  rw [hr] at h
  simp only [Option.map_some,Option.some.injEq,Prod.mk.injEq] at h
  obtain ⟨rfl,a,rfl⟩:=h
  exact qFt k hr (qIu _ a g)
theorem oL (k:Nat) (p':Pt) (eE:Env) (g:Ok X p' eE H t) (h:(runV X.C X.fn.ntmps k p env H).map (λx=>(x.1,keepOnly x.2.1 (eE.map Prod.fst),x.2.2))=some (p',eE,H):=by kernel_rfl):Ok X p env H t:=oLH k p' eE H g h
theorem oR (k:Nat) (p':Pt) (eE:Env) (g:Ok X p' eE H t) (h:runV X.C X.fn.ntmps k p env H=some (p',eE,H):=by kernel_rfl):Ok X p env H t:=qFt k h g
theorem oH (k:Nat) (p':Pt) (eE:Env) (H':Hp) (g:Ok X p' eE H' t) (h:runV X.C X.fn.ntmps k p env H=some (p',eE,H'):=by kernel_rfl):Ok X p env H t:=qFt k h g
theorem oK0 (ks:LN) (k:Ok X p (keepOnly env ks) H t):Ok X p env H t:=qIu ks rfl k
theorem oK (ks:LN) (eE:Env) (k:Ok X p eE H t) (h:keepOnly env ks=eE:=by kernel_rfl):Ok X p env H t:=qIu ks h k
theorem oE (eE:Env) (k:Ok X p eE H t) (h:env=eE:=by kernel_rfl):Ok X p env H t:=qA h k
theorem oHp (H':Hp) (k:Ok X p env H' t) (h:H=H':=by kernel_rfl):Ok X p env H t:=ok_heap h k
theorem oS {a c:Option R} (d:Nat) {b:Bool} (k1:b=true→Ok X p ((d,.bool true)::env) H a) (g:b=false→Ok X p ((d,.bool false)::env) H c) (h:look env d = .bool b:=by kernel_rfl):Ok X p env H (if b then a else c):=ok_split d h k1 g
theorem oC {α:Type} {m:Option α} {f:α→Option R} (g:α→AV×Hp) (p':Pt) (d:Nat) (h:evalAt X.C X.fn.ntmps p env H=m.map g) (k:∀ x,m=some x→Ok X p' ((d,(g x).1)::env) (g x).2 (f x)) (ha:∀ x,advE X.fn.ntmps p env (g x).1=some (p',(d,(g x).1)::env):=by exact λ_=>by kernel_rfl):Ok X p env H (m.bind f):=ok_chk g p' (λx=>(d,(g x).1)::env) h ha k
theorem oA {α:Type} {m:Option α} {f:α→Option R} {fi:Nat} (g:α→AV) (p':Pt) (d:Nat) (args:List AV) (hf:∀ x,m=some x→PureOk X.P fi args (g x)) (k:∀ x,m=some x→Ok X p' ((d,g x)::env) H (f x)) (hc:(callAt X.fn.ntmps p env,purs args)=(some (fi,args),true):=by kernel_rfl) (hg:∀ x,(pur (g x),advE X.fn.ntmps p env (g x))=(true,some (p',(d,g x)::env)):=by exact λ_=>by kernel_rfl):Ok X p env H (m.bind f) :=
 qO0 g p' (λx=>(d,g x)::env) (congrArg Prod.fst hc) (congrArg Prod.snd hc) (λx=>congrArg Prod.fst (hg x)) hf (λx=>congrArg Prod.snd (hg x)) k
theorem oAp {α:Type} {m:Option α} {f:α→Option R} {fi:Nat} (g:α→AV) (p':Pt) (d:Nat) (args:List AV) (hp:∀ x,pur (g x)=true) (hf:∀ x,m=some x→PureOk X.P fi args (g x)) (k:∀ x,m=some x→Ok X p' ((d,g x)::env) H (f x)) (hc:(callAt X.fn.ntmps p env,purs args)=(some (fi,args),true):=by kernel_rfl) (hg:∀ x,advE X.fn.ntmps p env (g x)=some (p',(d,g x)::env):=by exact λ_=>by kernel_rfl):Ok X p env H (m.bind f) :=
 qO0 g p' (λx=>(d,g x)::env) (congrArg Prod.fst hc) (congrArg Prod.snd hc) hp hf hg k
theorem oP {r:R} (h:(X.n0,X.fin r,X.thr r,(resV X.C env H X.fn.results.toList).map λxs=>(oneRes xs,purs [oneRes xs]))=(0,H0,none,some (X.enc r,true)):=by kernel_rfl):Ok X .fin env H (some r):=by
 simp only [Prod.mk.injEq] at h
 obtain ⟨b,c,g,a⟩:=h
 cases hr:resV X.C env H X.fn.results.toList with
 | none=>rw [hr] at a; cases a
 | some xs =>
  rw [hr] at a
  simp only [Option.map_some,Option.some.injEq,Prod.mk.injEq] at a
  exact ok_ret b c g hr (.pures a.2) a.1.symm
theorem oT {r:R} (xs:List AV) (v:AV) (hz:FzG 0 H [oneRes xs] [v]) (h:(X.n0,X.fin r,X.thr r,resV X.C env H X.fn.results.toList,X.enc r)=(0,H0,none,some xs,v):=by kernel_rfl):Ok X .fin env H (some r):=by
 simp only [Prod.mk.injEq] at h
 obtain ⟨a,b,c,g,j⟩:=h
 exact ok_ret a b c g hz j
theorem oQ {r:R} (k:Nat) (h:(runV X.C X.fn.ntmps k p env H).map (λx=>(x.1,X.n0,X.fin r,X.thr r,(resV X.C x.2.1 x.2.2 X.fn.results.toList).map λxs=>(oneRes xs,purs [oneRes xs])))=some (.fin,0,H0,none,some (X.enc r,true)):=by kernel_rfl):Ok X p env H (some r):=by
 cases hr:runV X.C X.fn.ntmps k p env H with
 | none=>rw [hr] at h; cases h
 | some x =>
  obtain ⟨q,e,G⟩:=x
  rw [hr] at h
  simp only [Option.map_some,Option.some.injEq,Prod.mk.injEq] at h
  obtain ⟨rfl,a,b,c,g⟩:=h
  refine qFt k hr (oP ?_)
  rw [a,b,c,g]
end
theorem FzG.ps {n0:Nat} {H:Hp} {xs:List AV} (h:purs xs=true:=by kernel_rfl):FzG n0 H xs xs := .pures h
theorem FzG.cs {n0:Nat} {H:Hp} {x:AV} {xs ys:List AV} (k:FzG n0 H xs ys) (h:pur x=true:=by kernel_rfl):FzG n0 H (x::xs) (x::ys) := .cons h k
def pickB : LN → List Blk → List Blk
 | 0::ms,_::l=>pickB ms l
 | (_+1)::ms,b::l=>b::pickB ms l
 | _,_=>[]
def PurA : List Blk → Prop
 | []=>True
 | b::l=>purs b.cells=true∧PurA l
def mk0 : LN → Bool
 | 0::_=>false
 | (_+1)::_=>true
 | []=>false
theorem PurA.head {ms:LN} {b:Blk} {l:List Blk} (h:PurA (pickB ms (b::l))) (hm:mk0 ms=true):purs b.cells=true:=by
 cases ms with
 | nil=>cases hm
 | cons m ms=>cases m with | zero=>cases hm | succ m=>exact h.1
theorem PurA.tail {ms:LN} {b:Blk} {l:List Blk} (h:PurA (pickB ms (b::l))):PurA (pickB ms.tail l):=by
 cases ms with
 | nil=>cases l <;> (simp only [List.tail_nil,pickB]; exact trivial)
 | cons m ms=>cases m with | zero=>exact h | succ m=>exact h.2
noncomputable def rbA (rs : LN) (n : Nat) : LN → List Blk → List (Bool × Option Blk)
 | _,[]=>[]
 | ms,b::L=>(bif mk0 ms then (true,some b) else (belows n b.cells,some ⟨renVs (at0 rs) b.cells,b.minv,b.ro⟩))::rbA rs n ms.tail L
noncomputable def rbC (rs : LN) (M : List Blk) : Nat → List Blk → List (Bool × Option Blk)
 | _,[]=>[]
 | i,_::L=>(true,nth M (at0 rs i))::rbC rs M (i+1) L
theorem qD4 {rs : LN} {n : Nat} {M : List Blk} : ∀ {L : List Blk} {ms : LN} {i : Nat}, rbA rs n ms L = rbC rs M i L → PurA (pickB ms L) → RBs rs n M i L
 | [],_,_,_,_=>trivial
 | b::L,ms,i,h,hp=>by
  simp only [rbA,rbC,List.cons.injEq] at h
  obtain ⟨a,c⟩:=h
  refine ⟨?_,qD4 c hp.tail⟩
  cases hm:mk0 ms with
  | true =>
   rw [hm] at a
   simp only [cond_true,Prod.mk.injEq] at a
   rw [← a.2]
   exact ⟨rfl,.inl ⟨rfl,hp.head hm⟩⟩
  | false =>
   rw [hm] at a
   simp only [cond_false,Prod.mk.injEq] at a
   rw [← a.2]
   exact ⟨rfl,.inr ⟨a.1,rfl⟩⟩
def offs (rs : LN) : Nat → List Blk → List Blk
 | _,[]=>[]
 | i,b::M=>bif rs.any (λr=>Nat.beq r i) then offs rs (i+1) M else b::offs rs (i+1) M
theorem qEl {rs : LN} : ∀ {M M' : List Blk} {i : Nat}, Nat.ble M.length M'.length = true → offs rs i M = offs rs i (M'.take M.length) → SameB rs i M M'
 | [],_,_,_,_=>trivial
 | b::M,[],_,h,_=>by cases h
 | b::M,c::M',i,h,e=>by
  have h':Nat.ble M.length M'.length=true:=h
  cases hr:rs.any (λr=>Nat.beq r i) with
  | true =>
   simp only [offs,List.length_cons,List.take_succ_cons,hr,cond_true] at e
   exact ⟨.inr hr,qEl h' e⟩
  | false =>
   simp only [offs,List.length_cons,List.take_succ_cons,hr,cond_false,List.cons.injEq] at e
   exact ⟨.inl e.1.symm,qEl h' e.2⟩
noncomputable def thB (rs a D : LN) : LN → Nat → List Blk → Bool
 | _,_,[]=>true
 | ms,r,b::M=>((D.any λs=>Nat.beq s r) || ((mk0 ms || purs b.cells) && (a.all λi => !Nat.beq (at0 rs i) r))) && thB rs a D ms.tail (r+1) M
theorem qGh {rs c D : LN} : ∀ {M : List Blk} {ms : LN} {r : Nat}, thB rs c D ms r M = true → PurA (pickB ms M) → dOk rs c D r M
 | [],_,_,_,_=>trivial
 | b::M,ms,r,h,hp=>by
  simp only [thB,Bool.and_eq_true,Bool.or_eq_true] at h
  refine ⟨?_,qGh h.2 hp.tail⟩
  rcases h.1 with a | ⟨a | a,g⟩
  ·exact .inl a
  ·exact .inr ⟨hp.head a,g⟩
  ·exact .inr ⟨a,g⟩
def kpB (DX D : LN) : Nat → List Blk → List Blk → Bool
 | _,[],_=>true
 | _,_::_,[]=>false
 | r,_::LX,_::L=>((DX.any λs=>Nat.beq s r) || (D.all λs => !Nat.beq s r)) && kpB DX D (r+1) LX L
theorem qH0 {rs j DX D : LN} : ∀ {LX M : List Blk} {r : Nat}, kpB DX D r LX M = true → offs DX r LX = offs DX r (M.take LX.length) → dOk rs j D r M → keepOk DX D r LX M
 | [],_,_,_,_,_=>trivial
 | _::_,[],_,h,_,_=>by cases h
 | b::LX,c::M,r,h,e,hd=>by
  simp only [kpB,Bool.and_eq_true,Bool.or_eq_true] at h
  cases hr:DX.any (λs=>Nat.beq s r) with
  | true =>
   simp only [offs,List.length_cons,List.take_succ_cons,hr,cond_true] at e
   exact ⟨.inl hr,qH0 h.2 e hd.2⟩
  | false =>
   simp only [offs,List.length_cons,List.take_succ_cons,hr,cond_false,List.cons.injEq] at e
   refine ⟨.inr ?_,qH0 h.2 e.2 hd.2⟩
   have hD:(D.all λs => !Nat.beq s r)=true:=by
    rcases h.1 with a | a
    ·rw [hr] at a; cases a
    ·exact a
   refine ⟨hD,e.1.symm,?_⟩
   rcases hd.1 with g | g
   ·obtain ⟨s,hs,he⟩:=List.any_eq_true.1 g
    have:=List.all_eq_true.1 hD s hs
    rw [he] at this
    cases this
   ·rw [e.1]; exact g.1
noncomputable def frB1 (L L' M M':List Blk) (rs:LN) (ys:List AV) (v:AV):Bool:=frOk L.length L'.length M.length M'.length rs && belows L.length ys && below L'.length v && Nat.ble M.length M'.length
theorem frC {P : Program} {g : Nat} {ys xs : List AV} {L L' M M' : List Blk} {v v' : AV} {rs ms ms' : LN} (h : CallT P g ys (mkH L) none v (mkH L')) (hp : PurA (pickB ms L)) (hp' : PurA (pickB ms' L'))
 (he:(frB1 L L' M M' rs ys v,renVs (at0 rs) ys,renV (at0 rs) v,rbA rs L.length ms L,rbA rs L'.length ms' L',offs rs 0 M)=(true,xs,v',rbC rs M 0 L,rbC rs M' 0 L',offs rs 0 (M'.take M.length))):CallT P g xs (mkH M) none v' (mkH M'):=by
 simp only [Prod.mk.injEq,frB1,Bool.and_eq_true] at he
 obtain ⟨⟨⟨⟨a,b⟩,c⟩,j⟩,rfl,rfl,e3,e4,e5⟩:=he
 exact frame h rs M M' a b (qD4 e3 hp) (qD4 e4 hp') c (qEl j e5)
noncomputable def mvA : LN → List Blk → List Blk → List (List AV × Bool × Nat × Bool)
 | ms,b::a,c::M=>(b.cells,b.ro,(bif mk0 ms then b.minv else 0),mk0 ms || Nat.ble b.minv c.minv)::mvA ms.tail a M
 | _,[],[]=>[]
 | _,_,_=>[([],true,0,false)]
def mvC : LN → List Blk → List (List AV × Bool × Nat × Bool)
 | ms,c::M=>(c.cells,c.ro,(bif mk0 ms then c.minv else 0),true)::mvC ms.tail M
 | _,[]=>[]
theorem mv_of : ∀ {a M : List Blk} {ms : LN}, mvA ms a M = mvC ms M → MinvLe a M
 | [],[],_,_=>trivial
 | [],_::_,_,h=>by simp [mvA,mvC] at h
 | _::_,[],_,h=>by simp [mvA,mvC] at h
 | b::a,c::M,ms,h=>by
  simp only [mvA,mvC,List.cons.injEq,Prod.mk.injEq] at h
  obtain ⟨⟨k,l,g,j⟩,m⟩:=h
  refine ⟨⟨k.symm,l.symm,?_⟩,mv_of m⟩
  cases hm:mk0 ms with
  | true=>rw [hm] at g; simp only [cond_true] at g; rw [g]; exact Nat.le_refl _
  | false=>rw [hm] at j; simp only [Bool.false_or] at j; exact Nat.le_of_ble_eq_true j
theorem frW {P : Program} {g : Nat} {ys xs xs' : List AV} {L L' a M' : List Blk} {v v' : AV} {rs ms ms' mv : LN} (gh : Nat) (M : List Blk) (hw : Wk xs xs') (h : CallT P g ys (mkH L) none v (mkH L')) (hp : PurA (pickB ms L)) (hp' : PurA (pickB ms' L'))
 (he:(frB1 L L' M M' rs ys v,renVs (at0 rs) ys,renV (at0 rs) v,rbA rs L.length ms L,rbA rs L'.length ms' L',offs rs 0 M,mvA mv (a++List.replicate gh ⟨[],0,false⟩) M)=(true,xs',v',rbC rs M 0 L,rbC rs M' 0 L',offs rs 0 (M'.take M.length),mvC mv M)):CallT P g xs (mkH a) none v' (mkH M'):=by
 simp only [Prod.mk.injEq,frB1,Bool.and_eq_true] at he
 obtain ⟨⟨⟨⟨b,c⟩,j⟩,k⟩,l,e2,e3,e4,e5,e6⟩:=he
 exact frameC h rs gh a _ M M' xs xs' rfl rfl (mv_of e6) hw l e2 rfl b c (qD4 e3 hp) (qD4 e4 hp') j (qEl k e5)
theorem frS {P : Program} {g : Nat} {ys xs xs' : List AV} {L a M : List Blk} {t : Value} {b rs ms mv mm D : LN} (gh : Nat) (hw : Wk xs xs') (h : ∃ v, CallT P g ys (mkH L) (some (t, b)) v (mkH L)) (hp : PurA (pickB ms L)) (hm : PurA (pickB mm M))
 (he:(frOk L.length L.length M.length M.length rs,belows L.length ys,thB rs b D mm 0 M,renVs (at0 rs) ys,rbA rs L.length ms L,mvA mv (a++List.replicate gh ⟨[],0,false⟩) M)=(true,true,true,xs',rbC rs M 0 L,mvC mv M)):∃ v,CallT P g xs (mkH a) (some (t,D)) v (mkH M):=by
 simp only [Prod.mk.injEq] at he
 obtain ⟨c,j,k,l,e2,e3⟩:=he
 exact frameT h rs D gh a _ M xs xs' rfl rfl (mv_of e3) hw l c j (qD4 e2 hp) (qGh k hm)
theorem oN {R : Type} {X : Fx R} {p : Pt} {env : Env} {α : Type} {m : Option α} {f : α → Option R} {fi : Nat} {ys : List AV} {L M : List Blk} {v : α → AV} {L' : α → List Blk} (g : α → AV) (M' : α → List Blk) (p' : Pt) (d : Nat) (rs ms ms' : LN) (args : List AV)
 (h:∀ x,m=some x→CallT X.P fi ys (mkH L) none (v x) (mkH (L' x))) (hp:PurA (pickB ms L)) (hp':∀ x,PurA (pickB ms' (L' x))) (k:∀ x,m=some x→Ok X p' ((d,g x)::env) (mkH (M' x)) (f x))
 (hc:callAt X.fn.ntmps p env=some (fi,args):=by kernel_rfl)
 (he:∀ x,(frB1 L (L' x) M (M' x) rs ys (v x),renVs (at0 rs) ys,renV (at0 rs) (v x),rbA rs L.length ms L,rbA rs (L' x).length ms' (L' x),offs rs 0 M)=(true,args,g x,rbC rs M 0 L,rbC rs (M' x) 0 (L' x),offs rs 0 ((M' x).take M.length)):=by exact λ_=>by kernel_rfl)
 (ha:∀ x,advE X.fn.ntmps p env (g x)=some (p',(d,g x)::env):=by exact λ_=>by kernel_rfl):Ok X p env (mkH M) (m.bind f) :=
 qDk g (λx=>mkH (M' x)) p' (λx=>(d,g x)::env) hc (λx a=>frC (h x a) hp (hp' x) (he x)) ha k
theorem oX {R : Type} {X : Fx (Option R)} {p : Pt} {env : Env} {α : Type} {m : Option (Option α)} {f : α → Option (Option R)} {fi : Nat} {ys : List AV} {tv : Value} {a DX : LN} {LX L M : List Blk} {v : α → AV} {L' : α → List Blk} (g : α → AV) (M' : α → List Blk) (p' : Pt) (d : Nat) (rs ms ms' D mm : LN) (args : List AV)
 (hh:(∀ x,m=some (some x)→CallT X.P fi ys (mkH L) none (v x) (mkH (L' x)))∧(m=some none→∃ v,CallT X.P fi ys (mkH L) (some (tv,a)) v (mkH L))) (hp:PurA (pickB ms L)) (hp':∀ x,PurA (pickB ms' (L' x))) (hm:PurA (pickB mm M)) (k:∀ x,m=some (some x)→Ok X p' ((d,g x)::env) (mkH (M' x)) (f x))
 (hX:X.thr none=some (tv,DX):=by rfl) (c:X.fin none=mkH LX:=by rfl) (j:X.n0=LX.length:=by rfl)
 (hc:(callAt X.fn.ntmps p env,Nat.ble LX.length roots,Nat.ble M.length roots,thB (rs.take L.length) a D mm 0 M,kpB DX D 0 LX M,frOk L.length L.length M.length M.length (rs.take L.length),belows L.length ys,renVs (at0 (rs.take L.length)) ys,rbA (rs.take L.length) L.length ms L,offs DX 0 LX)=(some (fi,args),true,true,true,true,true,true,args,rbC (rs.take L.length) M 0 L,offs DX 0 (M.take LX.length)):=by kernel_rfl)
 (he:∀ x,(frB1 L (L' x) M (M' x) rs ys (v x),renVs (at0 rs) ys,renV (at0 rs) (v x),rbA rs L.length ms L,rbA rs (L' x).length ms' (L' x),offs rs 0 M)=(true,args,g x,rbC rs M 0 L,rbC rs (M' x) 0 (L' x),offs rs 0 ((M' x).take M.length)):=by exact λ_=>by kernel_rfl)
 (ha:∀ x,advE X.fn.ntmps p env (g x)=some (p',(d,g x)::env):=by exact λ_=>by kernel_rfl):Ok X p env (mkH M) (bT m f):=by
 obtain ⟨h,l⟩:=hh
 simp only [Prod.mk.injEq] at hc
 obtain ⟨n,o,q,r,u,A,B,C,E,b⟩:=hc
 have hd:dOk (rs.take L.length) a D 0 M:=qGh r hm
 refine qKo (tv:=tv) (D:=D) (LX:=LX) (L:=M) g (λx=>mkH (M' x)) p' (λx=>(d,g x)::env) hX c j (by simp [o,q]) (qH0 u b hd) n (λF=>?_) (λx G=>frC (h x G) hp (hp' x) (he x)) ha k
 obtain ⟨v,hv⟩:=l F
 exact C ▸ ⟨.top,frameTh hv (rs.take L.length) M D A B (qD4 E hp) hd .top⟩
theorem oXW {R : Type} {X : Fx (Option R)} {p : Pt} {env : Env} {α : Type} {m : Option (Option α)} {f : α → Option (Option R)} {fi : Nat} {ys : List AV} {tv : Value} {a DX : LN} {LX L b : List Blk} {v : α → AV} {L' : α → List Blk} (gh : Nat) (M : List Blk) (g : α → AV) (M' : α → List Blk) (p' : Pt) (d : Nat) (rs ms ms' D mm mv : LN) (args args' : List AV) (hw : Wk args args')
 (hh:(∀ x,m=some (some x)→CallT X.P fi ys (mkH L) none (v x) (mkH (L' x)))∧(m=some none→∃ v,CallT X.P fi ys (mkH L) (some (tv,a)) v (mkH L))) (hp:PurA (pickB ms L)) (hp':∀ x,PurA (pickB ms' (L' x))) (hm:PurA (pickB mm M)) (k:∀ x,m=some (some x)→Ok X p' ((d,g x)::env) (mkH (M' x)) (f x))
 (hX:X.thr none=some (tv,DX):=by rfl) (j:X.fin none=mkH LX:=by rfl) (l:X.n0=LX.length:=by rfl)
 (hc:(callAt X.fn.ntmps p env,Nat.ble LX.length roots,Nat.ble M.length roots,thB (rs.take L.length) a D mm 0 M,kpB DX D 0 LX M,offs DX 0 LX)=(some (fi,args),true,true,true,true,offs DX 0 (M.take LX.length)):=by kernel_rfl)
 (hs:(frOk L.length L.length M.length M.length (rs.take L.length),belows L.length ys,renVs (at0 (rs.take L.length)) ys,rbA (rs.take L.length) L.length ms L,mvA mv (b++List.replicate gh ⟨[],0,false⟩) M)=(true,true,args',rbC (rs.take L.length) M 0 L,mvC mv M):=by kernel_rfl)
 (he:∀ x,(frB1 L (L' x) M (M' x) rs ys (v x),renVs (at0 rs) ys,renV (at0 rs) (v x),rbA rs L.length ms L,rbA rs (L' x).length ms' (L' x),offs rs 0 M,mvA mv (b++List.replicate gh ⟨[],0,false⟩) M)=(true,args',g x,rbC rs M 0 L,rbC rs (M' x) 0 (L' x),offs rs 0 ((M' x).take M.length),mvC mv M):=by exact λ_=>by kernel_rfl)
 (ha:∀ x,advE X.fn.ntmps p env (g x)=some (p',(d,g x)::env):=by exact λ_=>by kernel_rfl):Ok X p env (mkH b) (bT m f):=by
 obtain ⟨h,n⟩:=hh
 simp only [Prod.mk.injEq] at hc hs
 obtain ⟨o,q,r,c,u,A⟩:=hc
 obtain ⟨B,C,E,F,G⟩:=hs
 have hd:dOk (rs.take L.length) a D 0 M:=qGh c hm
 refine qKo (tv:=tv) (D:=D) (LX:=LX) (L:=M) g (λx=>mkH (M' x)) p' (λx=>(d,g x)::env) hX j l (by simp [q,r]) (qH0 u A hd) o (λJ=>?_) (λx K=>frW gh M hw (h x K) hp (hp' x) (he x)) ha k
 exact frS gh hw (n J) hp hm (by rw [B,C,c,E,F,G])
section
variable {R:Type} {X:Fx R} {p:Pt} {env:Env} {H:Hp} {t:Option R}
def bbB (n : Nat) : LN → List Blk → Bool
 | _,[]=>true
 | ms,b::L=>(mk0 ms || belows n b.cells) && bbB n ms.tail L
theorem bb_of {n : Nat} : ∀ {L : List Blk} {ms : LN}, bbB n ms L = true → PurA (pickB ms L) → BB n L
 | [],_,_,_=>trivial
 | b::L,ms,h,hp=>by
  simp only [bbB,Bool.and_eq_true,Bool.or_eq_true] at h
  refine ⟨?_,bb_of h.2 hp.tail⟩
  rcases h.1 with a | a
  ·exact qA3 _ (hp.head a)
  ·exact a
theorem oF {r : R} {M : List Blk} (n : Nat) (ms : LN) (xs : List AV) (v : AV) (hz : FzG n (mkH M) [oneRes xs] [v]) (hp : PurA (pickB ms (M.take n)))
 (h:(X.thr r,resV X.C env (mkH M) X.fn.results.toList,Nat.ble M.length roots,Nat.ble X.n0 n,Nat.beq (M.take n).length n,bbB n ms (M.take n),X.enc r,X.fin r)=(none,some xs,true,true,true,true,v,mkH (M.take n)):=by kernel_rfl):Ok X .fin env (mkH M) (some r):=by
 simp only [Prod.mk.injEq] at h
 obtain ⟨b,c,g,j,a,k,l,m⟩:=h
 have a:(M.take n).length=n:=Nat.eq_of_beq_eq_true a
 have key:Ok X .fin env (mkH (M.take n++M.drop n)) (some r):=by
  refine ok_retF (M.take n) (M.drop n) b (v:=v) ?_ ?_ ?_ ?_ ?_ l m (xs:=xs)
  ·rw [List.take_append_drop]; exact c
  ·rw [← List.length_append,List.take_append_drop]; exact g
  ·rw [a]; exact j
  ·rw [a,List.take_append_drop]; exact hz
  ·rw [a]; exact bb_of k hp
 rwa [List.take_append_drop] at key
theorem oQF {r : R} (k : Nat) (M : List Blk) (n : Nat) (ms : LN) (xs : List AV) (v : AV) (hz : FzG n (mkH M) [oneRes xs] [v]) (hp : PurA (pickB ms (M.take n)))
 (a:(runV X.C X.fn.ntmps k p env H).map (λx=>(x.1,resV X.C x.2.1 x.2.2 X.fn.results.toList,x.2.2))=some (.fin,some xs,mkH M):=by kernel_rfl)
 (h:(X.thr r,Nat.ble M.length roots,Nat.ble X.n0 n,Nat.beq (M.take n).length n,bbB n ms (M.take n),X.enc r,X.fin r)=(none,true,true,true,true,v,mkH (M.take n)):=by kernel_rfl):Ok X p env H (some r):=by
 cases hr:runV X.C X.fn.ntmps k p env H with
 | none=>rw [hr] at a; cases a
 | some x =>
  obtain ⟨q,e,G⟩:=x
  rw [hr] at a
  simp only [Option.map_some,Option.some.injEq,Prod.mk.injEq] at a
  obtain ⟨rfl,b,rfl⟩:=a
  simp only [Prod.mk.injEq] at h
  obtain ⟨c,g,j,l,m,o,u⟩:=h
  refine qFt k hr (oF n ms xs v hz hp ?_)
  rw [b,c,g,j,l,m,o,u]
def nbB (a : Nat) : LN → Nat → List Blk → Bool
 | _,_,[]=>true
 | ms,i,b::l=>(Nat.beq i a || mk0 ms || nrefs a b.cells) && nbB a ms.tail (i+1) l
theorem nb_of {c : Nat} : ∀ {l : List Blk} {ms : LN} {i : Nat}, nbB c ms i l = true → PurA (pickB ms l) → NB c i l
 | [],_,_,_,_=>trivial
 | b::l,ms,i,h,hp=>by
  simp only [nbB,Bool.and_eq_true,Bool.or_eq_true] at h
  refine ⟨?_,nb_of h.2 hp.tail⟩
  rcases h.1 with (a | a) | a
  ·exact .inl (Nat.eq_of_beq_eq_true a)
  ·exact .inr (qBp _ (hp.head a))
  ·exact .inr a
theorem oZ {M : List Blk} (d a n sz : Nat) (cells : List AV) (ks ms : LN) (hp : PurA (pickB ms M)) (k : Ok X p ((d, .vec n sz cells) :: keepOnly env ks) (mkH (M.set a ⟨[], 0, false⟩)) t)
 (h:(Nat.ble X.n0 a,Nat.ble M.length roots,look env d,(nth M a).map (λb=>(b.cells,b.ro,Nat.ble b.minv (n * sz))),Nat.beq cells.length (n * sz),purs cells,nrefE a (keepOnly env ks),nbB a ms 0 M)=(true,true,.slice a (n * sz) 0 n sz,some (cells,false,true),true,true,true,true):=by kernel_rfl):Ok X p env (mkH M) t:=by
 simp only [Prod.mk.injEq] at h
 obtain ⟨j,l,m,c,o,q,r,u⟩:=h
 rw [qCm] at c
 cases g:M[a]? with
 | none=>rw [g] at c; cases c
 | some b =>
  obtain ⟨bc,bm,br⟩:=b
  rw [g] at c
  simp only [Option.map_some,Option.some.injEq,Prod.mk.injEq] at c
  obtain ⟨rfl,rfl,x⟩:=c
  exact ok_frz M d a n sz bm bc ks j l (.inl m) g (Nat.eq_of_beq_eq_true o) (Nat.le_of_ble_eq_true x) q rfl r (nb_of u hp) k
theorem oD {H' : Hp} (p' : Pt) (eE : Env) (hs : List Hp) (D : DP) (hD : OpsD X.P X.C D (opsAt p).toList (opsAt p).toList env H eE hs) (k : Ok X p' eE H' t) (h : (drawAt p, Nat.ble (opsAt p).size D.tI, planOk D.S (opsAt p) D.pl, (opsAt p).toList.all (dstOk X.fn.ntmps), lastH H hs) = (some p', true, true, true, H') := by kernel_rfl)
 (hsome:(rdL X.C D (opsAt p).toList eE (H::hs) 0 (opsAt p).toList D.pl).all (λq=>q.1.isSome)=true:=by kernel_rfl) (hq:(rdL X.C D (opsAt p).toList eE (H::hs) 0 (opsAt p).toList D.pl).map (·.1)=(rdL X.C D (opsAt p).toList eE (H::hs) 0 (opsAt p).toList D.pl).map (·.2):=by kernel_rfl):Ok X p env H t:=by
 simp only [Prod.mk.injEq] at h
 obtain ⟨a,b,c,g,j⟩:=h
 exact ok_draw D a b c g hD hsome hq j k
end
theorem oDe {P:Program} {C:Cx} {D:DP} {all l:List Oper} {e:Env} {H:Hp} {hs:List Hp} (f:Bool→Env) {b v:Bool} (h:b=v) (g:OpsD P C D all l (f v) H e hs):OpsD P C D all l (f b) H e hs:=h ▸ g
theorem oDr {P:Program} {C:Cx} {D:DP} {all l:List Oper} {e env:Env} {H:Hp} {a:List Hp} (k n:Nat) (eE:Env) (g:OpsD P C D all (all.drop n) eE H e a) (h:runD C D all k l env H=some (all.drop n,eE,H,[]):=by kernel_rfl):OpsD P C D all l env H e a:=qA8 k (hs:=[]) h g
theorem oDh {P:Program} {C:Cx} {D:DP} {all l:List Oper} {e env:Env} {H:Hp} {a:List Hp} (k n:Nat) (eE:Env) (H':Hp) (hs:List Hp) (g:OpsD P C D all (all.drop n) eE H' e a) (h:runD C D all k l env H=some (all.drop n,eE,H',hs):=by kernel_rfl):OpsD P C D all l env H e (hs++a):=qA8 k h g
section
variable {R:Type} {X:Fx R} {p p':Pt} {env eE:Env} {H H':Hp} {t:Option R}
end
section
variable {R:Type} {X:Fx R} {p p':Pt} {env eE:Env} {H H':Hp} {t:Option R}
end
structure S7 where
 f0:Int
 f1:Int
 f2:Bool
 f3:Int
structure S31 where
 f0:Int
 f1:LN
 f2:Raw
 f3:Bool
 f4:Bool
 f5:LL
 f6:LL
structure S38 where
 f0:Int
 f1:LN
 f2:Int
structure S48 where
 f0:Int
 f1:Int
 f2:Bool
 f3:Bool
abbrev q32 (x:Raw):AV := .vec x.n 7 x.cells
def e2 (x:Int):List AV:=[.int .i64 x]
def v2 (x:Int):AV := .int .i64 x
theorem e2_pur:∀ x,purs (e2 x)=true:=λ_=>rfl
theorem u2 (l:List Int):purs (l.flatMap e2)=true:=qAo e2_pur l
abbrev w2 (x:List Int):AV := .vec x.length 1 (x.flatMap e2)
def p2:List AV→Option (Int×List AV):=pI .i64
def e3 (x:Int):List AV:=[.int .i64 x]
def v3 (x:Int):AV := .int .i64 x
theorem e3_len:∀ x,(e3 x).length=1:=λ_=>rfl
theorem e3_pur:∀ x,purs (e3 x)=true:=λ_=>rfl
theorem u3 (l:List Int):purs (l.flatMap e3)=true:=qAo e3_pur l
abbrev w3 (x:List Int):AV := .vec x.length 1 (x.flatMap e3)
def p3:List AV→Option (Int×List AV):=pI .i64
theorem p3_ok (cs:List AV) (x:Int) (r:List AV) (h:p3 cs=some (x,r)):cs=e3 x++r:=pI_ok h
def e4 (x:Bool):List AV:=[.bool x]
theorem e4_len:∀ x,(e4 x).length=1:=λ_=>rfl
theorem e4_pur:∀ x,purs (e4 x)=true:=λ_=>rfl
theorem u4 (l:List Bool):purs (l.flatMap e4)=true:=qAo e4_pur l
abbrev w4 (x:List Bool):AV := .vec x.length 1 (x.flatMap e4)
def p4:List AV→Option (Bool×List AV):=pB
theorem p4_ok (cs:List AV) (x:Bool) (r:List AV) (h:p4 cs=some (x,r)):cs=e4 x++r:=pB_ok h
def e5 (x:Int):List AV:=[.int .u8 x]
theorem e5_pur:∀ x,purs (e5 x)=true:=λ_=>rfl
theorem u5 (l:List Int):purs (l.flatMap e5)=true:=qAo e5_pur l
abbrev w5 (x:List Int):AV := .vec x.length 1 (x.flatMap e5)
def p5:List AV→Option (Int×List AV):=pI .u8
def e6 (x:Int):List AV:=[.int .u8 x]
def e7 (x:S7):List AV:=[.int .i64 x.f0,.int .i64 x.f1,.bool x.f2,.int .u8 x.f3]
def e8 (x:S7):List AV:=[.int .i64 x.f0,.int .i64 x.f1,.bool x.f2,.int .u8 x.f3]
theorem e8_pur:∀ x,purs (e8 x)=true:=λ_=>rfl
theorem u8 (l:List S7):purs (l.flatMap e8)=true:=qAo e8_pur l
def e9 (x:LN):List AV:=[.str x]
theorem qE7:∀ x,(e9 x).length=1:=λ_=>rfl
theorem e9_pur:∀ x,purs (e9 x)=true:=λ_=>rfl
theorem e9_one:∀ x,(e9 x).all one1=true:=λ_=>rfl
abbrev w9 (x:LL):AV := .vec x.length 1 (x.flatMap e9)
def p9:List AV→Option (LN×List AV):=pS
theorem p9_ok (cs:List AV) (x:LN) (r:List AV) (h:p9 cs=some (x,r)):cs=e9 x++r:=pS_ok h
def e21 (x:Int):List AV:=[.int .i32 x]
def e22 (x:LL):List AV:=[w9 x]
def v22 (x:LL):AV:=w9 x
def p22:List AV→Option (LL×List AV):=pV p9 1
theorem p22_ok (cs:List AV) (x:LL) (r:List AV) (h:p22 cs=some (x,r)):cs=e22 x++r:=pV_ok p9_ok h
def e39 (x:S38):List AV:=[.int .i64 x.f0,.str x.f1,.int .i64 x.f2]
theorem qAn:∀ x,(e39 x).length=3:=λ_=>rfl
theorem qQi:∀ x,purs (e39 x)=true:=λ_=>rfl
theorem u39 (l:List S38):purs (l.flatMap e39)=true:=qAo qQi l
theorem e39_one:∀ x,(e39 x).all one1=true:=λ_=>rfl
abbrev w39 (x:List S38):AV := .vec x.length 3 (x.flatMap e39)
def e32 (x:S31):List AV:=[.int .i64 x.f0,.str x.f1,q32 x.f2,.bool x.f3,.bool x.f4,w9 x.f5,w9 x.f6]
theorem qA4:∀ x,(e32 x).length=7:=λ_=>rfl
theorem qAg:∀ x,purs (e32 x)=true:=λ_=>rfl
theorem u32 (l:List S31):purs (l.flatMap e32)=true:=qAo qAg l
theorem qB0:∀ x,(e32 x).all one1=true:=λ_=>rfl
abbrev w32 (x:List S31):AV := .vec x.length 7 (x.flatMap e32)
def p32 (cs:List AV):Option (S31×List AV):=(match p3 cs with | none=>none | some (a,b)=>(match p9 b with | none=>none | some (c,g)=>(match g with | .vec h j k::l=>(if j=7 then (match p4 l with | none=>none | some (m,n)=>(match p4 n with | none=>none | some (o,q)=>(match p22 q with | none=>none | some (r,u)=>(match p22 u with | none=>none | some (x,A)=>some (⟨a,c,⟨h,k⟩,m,o,r,x⟩,A))))) else none) | _=>none)))
theorem p32_ok (cs:List AV) (x:S31) (r:List AV) (h:p32 cs=some (x,r)):cs=e32 x++r:=by
 unfold p32 at h
 split at h
 ·cases h
 rename_i B C a
 have b:=p3_ok _ _ _ a
 split at h
 ·cases h
 rename_i D E c
 have g:=p9_ok _ _ _ c
 split at h
 rotate_left
 ·cases h
 rename_i F G J K
 split at h
 rotate_left
 ·cases h
 rename_i j; subst j
 split at h
 ·cases h
 rename_i L M k
 have l:=p4_ok _ _ _ k
 split at h
 ·cases h
 rename_i N O m
 have n:=p4_ok _ _ _ m
 split at h
 ·cases h
 rename_i S T o
 have q:=p22_ok _ _ _ o
 split at h
 ·cases h
 rename_i U V u
 have A:=p22_ok _ _ _ u
 cases h
 try subst A
 try subst q
 try subst n
 try subst l
 try subst g
 try subst b
 rfl
def d32:List AV→Option S31:=pall p32
theorem qBi (cs:List AV) (x:S31) (h:d32 cs=some x):cs=e32 x:=pall_ok p32_ok cs x h
def e49 (x:S48):List AV:=[.int .i64 x.f0,.int .i64 x.f1,.bool x.f2,.bool x.f3]
theorem qHa:∀ x,(e49 x).length=4:=λ_=>rfl
theorem qQh:∀ x,purs (e49 x)=true:=λ_=>rfl
theorem u49 (l:List S48):purs (l.flatMap e49)=true:=qAo qQh l
theorem e49_one:∀ x,(e49 x).all one1=true:=λ_=>rfl
abbrev w49 (x:List S48):AV := .vec x.length 4 (x.flatMap e49)
abbrev n32 (x:S31):AV := .agg [.int .i64 x.f0,.str x.f1,q32 x.f2,.bool x.f3,.bool x.f4,w9 x.f5,w9 x.f6]
abbrev n39 (x:S38):AV := .agg [.int .i64 x.f0,.str x.f1,.int .i64 x.f2]
abbrev n49 (x:S48):AV := .agg [.int .i64 x.f0,.int .i64 x.f1,.bool x.f2,.bool x.f3]
def thrown:Value := .iface 88 (.agg #[])
theorem fw64 (n:Int) (h1 : -9223372036854775808≤n) (h2:n≤9223372036854775807):fW .i64 n=n:=by
 have h1:lo .i64≤n:=h1
 have h2:n≤hi .i64:=h2
 unfold fW
 rw [if_pos (by simp [h1,h2])]
theorem qDn (n:Int):fW .u64 n=n % 18446744073709551616:=by
 rw [qAt]; simp [IntKind.wrap,IntKind.bits,IntKind.signed]
theorem rem_at (a:Int) (q:Nat) (h0:0 < q) (hq:q < 18446744073709551616):∃ i:Nat,i < q∧remS (fW .u64 a) (fW .u64 (q:Int))=some (i:Int)∧remS (fW .u64 (i:Int)) (fW .u64 (q:Int))=some (i:Int):=by
 have e1:fW .u64 (q:Int)=q:=by rw [qDn]; omega
 have e2:0≤fW .u64 a:=by rw [qDn]; omega
 have hne:¬ (q:Int)=0:=by omega
 have h1:0≤(fW .u64 a) % (q:Int):=Int.emod_nonneg _ hne
 have h2:(fW .u64 a) % (q:Int) < q:=Int.emod_lt_of_pos _ (by omega)
 refine ⟨((fW .u64 a) % (q:Int)).toNat,by omega,?_,?_⟩
 ·rw [e1]; unfold remS
  rw [if_neg hne,Int.tmod_eq_emod_of_nonneg e2]
  congr 1; omega
 ·rw [e1]; unfold remS
  have e3:fW .u64 ((((fW .u64 a) % (q:Int)).toNat:Nat):Int)=(fW .u64 a) % (q:Int):=by rw [qDn]; omega
  rw [e3,if_neg hne,Int.tmod_eq_emod_of_nonneg h1,Int.emod_emod_of_dvd _ (Int.dvd_refl _)]
  congr 1; omega
theorem tmod_at (a:Int) (q:Nat) (h0:0 < q) (hq:q < 18446744073709551616):∃ i:Nat,i < q∧(fW .u64 a).tmod (q:Int)=(i:Int)∧(fW .u64 (i:Int)).tmod (q:Int)=(i:Int):=by
 obtain ⟨i,h1,h2,h3⟩:=rem_at a q h0 hq
 have e1:fW .u64 (q:Int)=q:=by rw [qDn]; omega
 rw [e1] at h2 h3
 unfold remS at h2 h3
 rw [if_neg (by omega)] at h2 h3
 exact ⟨i,h1,Option.some.inj h2,Option.some.inj h3⟩
theorem andI64 (x:Int) (m:Nat) (hm:m≤62):andI .i64 x ((2 ^ m - 1:Nat):Int)=x % ((2 ^ m:Nat):Int):=by
 have hp:2 ^ m≤2 ^ 62:=Nat.pow_le_pow_right (by decide) hm
 have h0:0 < 2 ^ m:=Nat.two_pow_pos m
 have e1:(BitVec.ofInt 64 x).toNat=(x % 18446744073709551616).toNat:=by rw [BitVec.toNat_ofInt]; rfl
 have e2:(BitVec.ofInt 64 ((2 ^ m - 1:Nat):Int)).toNat=2 ^ m - 1:=by
  rw [BitVec.toNat_ofInt]
  omega
 have e3:(((BitVec.ofInt 64 x &&& BitVec.ofInt 64 ((2 ^ m - 1:Nat):Int)).toNat:Nat):Int)=x % ((2 ^ m:Nat):Int):=by
  rw [BitVec.toNat_and,e1,e2,Nat.and_two_pow_sub_one_eq_mod]
  have h1:0≤x % 18446744073709551616:=Int.emod_nonneg _ (by decide)
  have h2:(((x % 18446744073709551616).toNat:Nat):Int)=x % 18446744073709551616:=by omega
  rw [Int.natCast_emod,h2]
  refine Int.emod_emod_of_dvd x ?_
  have:(2:Nat) ^ m ∣ 2 ^ 64:=Nat.pow_dvd_pow 2 (by omega)
  have:=Int.natCast_dvd_natCast.2 this
  exact this
 unfold andI
 show fW .i64 (((BitVec.ofInt 64 x &&& BitVec.ofInt 64 ((2 ^ m - 1:Nat):Int)).toNat:Nat):Int)=_
 rw [e3]
 have h3:0≤x % ((2 ^ m:Nat):Int):=Int.emod_nonneg _ (by omega)
 have h4:x % ((2 ^ m:Nat):Int) < ((2 ^ m:Nat):Int):=Int.emod_lt_of_pos _ (by omega)
 exact fw64 _ (by omega) (by omega)
def isT (o:Option Bool):Bool:=match o with | some b=>b | none=>false
theorem isT_eq {o:Option Bool} (h:isT o=true):o=some true:=by
 unfold isT at h; split at h
 ·rw [h]
 ·cases h
theorem all1 {f:Nat→Option Bool} {p:Nat} (h:((List.range p).all λi=>isT (f i))=true) (i:Nat) (hi:i < p):f i=some true :=
 isT_eq (List.all_eq_true.1 h i (List.mem_range.2 hi))
theorem dT {p:Prop} [Decidable p] (h:p):decide p=true:=decide_eq_true h
theorem dF {p:Prop} [Decidable p] (h:¬ p):decide p=false:=decide_eq_false h
theorem fwI {n:Int} (h1 : -9223372036854775808≤n) (h2:n≤9223372036854775807):fW .i64 n=n:=fw64 n h1 h2
theorem sn {x y:Nat} (h:x=y):some (x:Int)=some (y:Int):=by rw [h]
theorem bS {α β:Type} {x:Option α} {a:α} {f:α→Option β} {r:Option β} (h:x=some a) (k:f a=r):x.bind f=r:=by rw [h]; exact k
theorem jS {α β:Type} {f:α→Option β} {g:(α→Option β)→Option β} {v:α} (h:∀ j:α→Option β,g j=j v):jn f g=f v:=h f
theorem jC {α β:Type} {f:α→Option β} {g:(α→Option β)→Option β} {r:Option β} (h:∀ j:α→Option β,g j=r):jn f g=r:=h f
theorem iT {α:Type} {c:Bool} {A B r:α} (h:c=true) (k:A=r):(if c then A else B)=r:=by rw [h]; exact k
theorem iF {α:Type} {c:Bool} {A B r:α} (h:c=false) (k:B=r):(if c then A else B)=r:=by rw [h]; exact k
theorem fw_s {n:Nat} (h:n < 300000000000000):fW .i64 ((n:Int)+1)=((n+1:Nat):Int):=by rw [fwI (by omega) (by omega)]; omega
theorem fw_a {n m:Nat} (h:n < 300000000000000) (h2:m < 300000000000000):fW .i64 ((n:Int)+(m:Int))=((n+m:Nat):Int):=by rw [fwI (by omega) (by omega)]; omega
theorem fw_d {n m:Nat} (h:m≤n) (h2:n < 300000000000000):fW .i64 ((n:Int) - (m:Int))=((n - m:Nat):Int):=by rw [fwI (by omega) (by omega)]; omega
theorem fw_p {n:Nat} (h2:n < 300000000000000):fW .i64 (((n+1:Nat):Int) - 1)=(n:Int):=by rw [fwI (by omega) (by omega)]; omega
theorem gsL : (∀ (p : Prop) [Decidable p], p → decide p = true) ∧ (∀ (p : Prop) [Decidable p], ¬ p → decide p = false) ∧ (∀ n : Int, -9223372036854775808 ≤ n → n ≤ 9223372036854775807 → fW .i64 n = n) ∧
 (∀ (α β:Type) (a:α) (f:α→Option β),(some a).bind f=f a)∧(∀ (α:Type) (a b:α),(if True then a else b)=a)∧(∀ (α:Type) (a b:α),(if False then a else b)=b)∧(∀ (α:Type) (a:α),(a=a)=True)∧((false=true)=False)∧((!true)=false)∧((!false)=true)∧(decide True=true)∧(decide False=false) ∧
 (∀ b,(true && b)=b)∧(∀ b,(b && true)=b)∧(∀ b,(false && b)=false)∧(∀ b,(b && false)=false)∧(∀ b,(true || b)=true)∧(∀ b,(b || true)=true)∧(∀ b,(false || b)=b)∧(∀ b,(b || false)=b) ∧
 (∀ p:Prop,(p∧p)=p)∧(∀ p:Prop,(p∧True)=p)∧(∀ p:Prop,(True∧p)=p)∧(∀ p:Prop,(p∧False)=False)∧(∀ p:Prop,(False∧p)=False):=by
 refine ⟨λp _ h=>dT h,λp _ h=>dF h,λn h1 h2=>fwI h1 h2,λ_ _ _ _=>rfl,?_,?_,?_,?_,rfl,rfl,rfl,rfl,?_,?_,?_,?_,?_,?_,?_,?_,?_,?_,?_,?_,?_⟩ <;> simp
theorem byteAll {f:Nat→Bool} (h:((List.range 256).all f)=true) {c:Nat} (hc:c < 256):f c=true:=List.all_eq_true.1 h c (List.mem_range.2 hc)
abbrev By (s:LN):Prop := ∀ b ∈ s,b < 256
abbrev Sz (s:LN):Prop:=s.length≤140737488351232
theorem By.drop {s:LN} (h:By s) (n:Nat):By (s.drop n):=λb hb=>h b (List.mem_of_mem_drop hb)
theorem By.take {s:LN} (h:By s) (n:Nat):By (s.take n):=λb hb=>h b (List.mem_of_mem_take hb)
theorem By.tail {c:Nat} {r:LN} (h:By (c::r)):By r:=λb hb=>h b (List.mem_cons_of_mem _ hb)
theorem By.head {c:Nat} {r:LN} (h:By (c::r)):c < 256:=h c List.mem_cons_self
theorem dcons {s:LN} {i:Nat} (h:i < s.length):∃ b r,s.drop i=b::r∧s.drop (i+1)=r∧b ∈ s∧r.length+i+1=s.length:=by
 refine ⟨s[i],s.drop (i+1),List.drop_eq_getElem_cons h,rfl,List.getElem_mem h,?_⟩
 rw [List.length_drop]; omega
theorem dnil {s:LN} {i:Nat} (h:s.length≤i):s.drop i=[]:=List.drop_eq_nil_of_le h
theorem nthX {s:LN} {x:Int} {i b:Nat} {r:LN} (hx:x=(i:Int)) (h:s.drop i=b::r):nthS s x=some (b:Int):=by
 subst hx
 have e:s[i]? = some b:=by
  have:=List.getElem?_drop (xs:=s) (i:=i) (j:=0)
  rw [h] at this
  simpa using this.symm
 unfold nthS
 rw [if_pos (by omega)]
 simp [e]
theorem subTo {s:LN} {x:Int} {i:Nat} (hx:x=(i:Int)) (h:i≤s.length):subL s none (some x)=some (s.take i):=by
 subst hx; unfold subL bnd; simp [h]
theorem subMid {s:LN} {x y:Int} {i j:Nat} (hx:x=(i:Int)) (hy:y=(j:Int)) (h1:i≤j) (h2:j≤s.length):subL s (some x) (some y)=some ((s.take j).drop i):=by
 subst hx hy; unfold subL bnd; simp [h1,h2]
theorem qBw {s:LN} {i c:Nat} {r:LN} (h:s.drop i=c::r):s.drop (i+1)=r:=by
 rw [← List.drop_drop,h]; rfl
theorem qC {s:LN} {i c:Nat} {r:LN} (h:s.drop i=c::r):r.length+i+1=s.length:=by
 have:=congrArg List.length h
 rw [List.length_drop,List.length_cons] at this; omega
theorem qBo {s:LN} {i c:Nat} {r:LN} (h:s.drop i=c::r):c ∈ s:=List.mem_of_mem_drop (i:=i) (by rw [h]; exact List.mem_cons_self)
end Go.Proofs.Ytjmmjhojbodbdaa.Am
set_option maxRecDepth 100000
set_option linter.unusedVariables false
namespace Go.Proofs.Ytjmmjhojbodbdaa.Am
noncomputable section
open Go
def Xg30:Fx Bool:=⟨Try.prog,cx,Try.f30,λr => .bool r,0,λ_=>H0,cxTi,cxOrd,λ_=>none,false⟩
def g30 (k:Nat) (a:Int):Option Bool :=
 if (decide (48≤a)) then (some (decide (a≤57))) else (some false)
theorem qPt (k:Nat) (a:Int) (r:Bool) (h:g30 k a=some r):PureOk Try.prog 30 [.y a] (.bool r):=by
 refine qA6 Xg30 (λ_=>⟨rfl,rfl⟩) Try.func30 (by decide +kernel) Kr (t:=g30 k a) ?_ h
 unfold g30
 refine qA (eE:=[(0,.y a)]) Kr ?_
 refine oH 9 (atN 3 (ctl1 (nav [0,0,0] (nav [0] (bodyAt Try.f30))))) [(5,.bool (decide (48≤a))),(4,.bool (decide (48≤a))),(3,.y a),(2,.bool false),(0,.y a)] (mkH []) ?_
 refine oS 5 (λb=>?_) (λb=>?_)
 ·exact oQ 6
 ·exact oQ 6
def Xg17:Fx Int:=⟨Try.prog,cx,Try.f17,λr => .i r,0,λ_=>H0,cxTi,cxOrd,λ_=>none,false⟩
def g17p1:Pt:=nav [0,0,0,0,0] (nav [0] (bodyAt Try.f17))
def g17p2:Pt:=nav [0,0] g17p1
def g17p4:Pt:=nav [2,0] g17p2
def g17p6:Pt:=nav [0,0] g17p4
def g17p8:Pt:=nav [2,0] g17p6
def g17 (k:Nat) (a:Int):Option Int :=
 jn (λ(h:Bool)=>if h then (some (1:Int)) else (jn (λ(j:Bool)=>if j then (some (2:Int)) else ((g30 k a).bind λb=>if b then (some (3:Int)) else (some (0:Int)))) (λc=>if (decide (65≤a)) then (if (decide (a≤90)) then (c true) else (c (decide (a=95)))) else (c (decide (a=95)))))) (λg=>if (decide (97≤a)) then (g (decide (a≤122))) else (g false))
theorem qPz (k:Nat) (a:Int) (r:Int) (h:g17 k a=some r):PureOk Try.prog 17 [.y a] (.i r):=by
 refine qA6 Xg17 (λ_=>⟨rfl,rfl⟩) Try.func17 (by decide +kernel) Kr (t:=g17 k a) ?_ h
 unfold g17
 refine qA (eE:=[(0,.y a)]) Kr ?_
 refine oH 11 (atN 3 (ctl1 g17p1)) [(6,.bool (decide (97≤a))),(5,.bool (decide (97≤a))),(4,.y a),(2,.i 0),(0,.y a)] (mkH []) ?_
 refine oJ g17p2 (λ(m:Bool)=>[(0,.y a),(3,.bool m)]) (λ(m:Bool)=>(mkH [])) (λm=>?_) (λq j=>?_)
 ·refine oS 3 (λc=>?_) (λc=>?_)
  ·exact oQ 6
  ·let o:Env:=[(13,.bool (decide (65≤a))),(12,.bool (decide (65≤a))),(11,.y a),(3,.bool false),(0,.y a),(3,.bool m)]
   refine oH 6 (atN 3 (ctl1 g17p4)) o (mkH []) ?_
   refine oJ g17p6 (λ(l:Bool)=>[(0,.y a),(10,.bool l)]) (λ(l:Bool)=>(mkH [])) (λl=>?_) (λu g=>?_)
   ·refine oS 10 (λc=>?_) (λc=>?_)
    ·exact oQ 6
    ·refine oH 4 (atN 1 (ctl1 g17p8)) [(22,.y a),(10,.bool false),(0,.y a),(10,.bool l)] (mkH []) ?_
     refine oA (λ(b:Bool) => .bool b) (atN 2 (ctl1 g17p8)) 23 [.y a] (qPt k a) λb n=>?_
     refine oR 2 (nav [0,0] g17p8) [(21,.bool b),(23,.bool b),(22,.y a),(10,.bool false),(0,.y a),(10,.bool l)] ?_
     refine oS 21 (λc=>?_) (λc=>?_)
     ·exact oQ 6
     ·exact oQ 7
   ·refine oS 13 (λc=>?_) (λc=>?_)
    ·refine oH 4 (atN 7 (ctl1 g17p4)) ((17,.bool (decide (a≤90)))::(16,.bool (decide (a≤90)))::(15,.bool (decide (a≤90)))::(14,.y a)::(13,.bool true)::o) (mkH []) ?_
     refine oS 17 (λc=>?_) (λc=>?_)
     ·refine oL 5 g17p6 [(0,.y a),(10,.bool true)] ?_
      exact g true
     ·refine oL 5 g17p6 [(0,.y a),(10,.bool (decide (a=95)))] ?_
      exact g (decide (a=95))
    ·refine oLH 9 g17p6 [(0,.y a),(10,.bool (decide (a=95)))] (mkH []) ?_
     exact g (decide (a=95))
 ·refine oS 6 (λc=>?_) (λc=>?_)
  ·refine oLH 5 g17p2 [(0,.y a),(3,.bool (decide (a≤122)))] (mkH []) ?_
   exact j (decide (a≤122))
  ·refine oLH 5 g17p2 [(0,.y a),(3,.bool false)] (mkH []) ?_
   exact j false
def Xg23:Fx Bool:=⟨Try.prog,cx,Try.f23,λr => .bool r,0,λ_=>H0,cxTi,cxOrd,λ_=>none,false⟩
def g23p1:Pt:=nav [0,0,0] (nav [0] (bodyAt Try.f23))
def g23 (k:Nat) (a:Int):Option Bool :=
 if (decide (97≤a)) then (if (decide (a≤122)) then (some true) else (if (decide (65≤a)) then (some (decide (a≤90))) else (some false))) else (if (decide (65≤a)) then (some (decide (a≤90))) else (some false))
theorem g23_ok (k:Nat) (a:Int) (r:Bool) (h:g23 k a=some r):PureOk Try.prog 23 [.y a] (.bool r):=by
 refine qA6 Xg23 (λ_=>⟨rfl,rfl⟩) Try.func23 (by decide +kernel) Kr (t:=g23 k a) ?_ h
 unfold g23
 refine qA (eE:=[(0,.y a)]) Kr ?_
 let c:Env:=[(5,.bool (decide (97≤a))),(4,.bool (decide (97≤a))),(3,.y a),(2,.bool false),(0,.y a)]
 refine oH 9 (atN 3 (ctl1 g23p1)) c (mkH []) ?_
 refine oS 5 (λb=>?_) (λb=>?_)
 ·let g:Env:=((9,.bool (decide (a≤122)))::(8,.bool (decide (a≤122)))::(7,.bool (decide (a≤122)))::(6,.y a)::(5,.bool true)::c)
  refine oR 4 (atN 7 (ctl1 g23p1)) g ?_
  refine oS 9 (λb=>?_) (λb=>?_)
  ·exact oQ 10
  ·refine oR 3 (atN 10 (ctl1 g23p1)) ((12,.bool (decide (65≤a)))::(11,.bool (decide (65≤a)))::(10,.y a)::(9,.bool false)::g) ?_
   refine oS 12 (λb=>?_) (λb=>?_)
   ·exact oQ 7
   ·exact oQ 7
 ·refine oR 7 (atN 10 (ctl1 g23p1)) ((12,.bool (decide (65≤a)))::(11,.bool (decide (65≤a)))::(10,.y a)::(9,.bool false)::(8,.bool false)::(7,.tuple [])::(6,.tuple [])::(5,.bool false)::c) ?_
  refine oS 12 (λb=>?_) (λb=>?_)
  ·exact oQ 7
  ·exact oQ 7
def Xg33:Fx Bool:=⟨Try.prog,cx,Try.f33,λr => .bool r,0,λ_=>H0,cxTi,cxOrd,λ_=>none,false⟩
def g33p1:Pt:=nav [0,0,0] (nav [0] (bodyAt Try.f33))
def g33 (k:Nat) (c:Int):Option Bool :=
 (g23 k c).bind λa=>if a then (some true) else ((g30 k c).bind λb=>if b then (some true) else (if (decide (c=95)) then (some true) else (some (decide (c=64)))))
theorem g33_ok (k:Nat) (a:Int) (r:Bool) (h:g33 k a=some r):PureOk Try.prog 33 [.y a] (.bool r):=by
 refine qA6 Xg33 (λ_=>⟨rfl,rfl⟩) Try.func33 (by decide +kernel) Kr (t:=g33 k a) ?_ h
 unfold g33
 refine qA (eE:=[(0,.y a)]) Kr ?_
 refine oH 7 (atN 1 (ctl1 g33p1)) [(3,.y a),(2,.bool false),(0,.y a)] (mkH []) ?_
 refine oA (λ(c:Bool) => .bool c) (atN 2 (ctl1 g33p1)) 4 [.y a] (g23_ok k a) λc j=>?_
 let l:Env:=[(5,.bool c),(4,.bool c),(3,.y a),(2,.bool false),(0,.y a)]
 refine oR 1 (atN 3 (ctl1 g33p1)) l ?_
 refine oS 5 (λg=>?_) (λg=>?_)
 ·exact oQ 14
 ·refine oR 1 (atN 4 (ctl1 g33p1)) ((6,.y a)::(5,.bool false)::l) ?_
  refine oA (λ(b:Bool) => .bool b) (atN 5 (ctl1 g33p1)) 7 [.y a] (qPt k a) λb m=>?_
  let n:Env:=((9,.bool b)::(8,.bool b)::(7,.bool b)::(6,.y a)::(5,.bool false)::l)
  refine oR 2 (atN 7 (ctl1 g33p1)) n ?_
  refine oS 9 (λg=>?_) (λg=>?_)
  ·exact oQ 10
  ·refine oR 4 (atN 11 (ctl1 g33p1)) ((13,.bool (decide (a=95)))::(12,.bool (decide (a=95)))::(11,.bool (decide (a=95)))::(10,.y a)::(9,.bool false)::n) ?_
   refine oS 13 (λg=>?_) (λg=>?_)
   ·exact oQ 6
   ·exact oQ 6
def Xg20:Fx Bool:=⟨Try.prog,cx,Try.f20,λr => .bool r,0,λ_=>H0,cxTi,cxOrd,λ_=>none,false⟩
def g20c0:LN:=[97,102,116,101,114]
def g20c1:LN:=[97,110,100,97,108,115,111]
def g20c2:LN:=[98,101,103,105,110]
def g20c3:LN:=[111,114,101,108,115,101]
def g20c4:LN:=[114,101,99,101,105,118,101]
def g20c5:LL:=[g20c0,([97,110,100]:LN),g20c1,([98,97,110,100]:LN),g20c2,([98,110,111,116]:LN),([98,111,114]:LN),([98,115,108]:LN),([98,115,114]:LN),([98,120,111,114]:LN),([99,97,115,101]:LN),([99,97,116,99,104]:LN),([100,105,118]:LN),([101,110,100]:LN),([102,117,110]:LN),([105,102]:LN),([110,111,116]:LN),([111,102]:LN),([111,114]:LN),g20c3,g20c4,([114,101,109]:LN),([119,104,101,110]:LN),([120,111,114]:LN)]
def g20p1:Pt:=nav [0,0,0] (nav [0] (bodyAt Try.f20))
def g20p3:Pt:=nav [0,0,0,0] (nav [0,0,0,0] g20p1)
def g20p5:Pt:=nav [0,0] (nav [0,0,0] g20p3)
def g20p6:Pt:=nav [1,0,0,0,0] g20p5
def qJr (k:Nat)  (c:LN) (ih:Int→Option Bool):Int→Option Bool :=
 λ(a:Int)=>if (decide (a < (g20c5.length:Int))) then ((nthL g20c5 a).bind λb=>if (eqL b c) then (some true) else (ih (fW .i64 (a+1)))) else (some false)
def qG9 (k:Nat)  (a:LN) (n:Nat):Int→Option Bool:=lp (λ_=>none) (qJr k a) n
theorem g20_l1_s (k:Nat)  (c:LN) (n:Nat) (a:Int):qG9 k c (n+1) a=(if (decide (a < (g20c5.length:Int))) then ((nthL g20c5 a).bind λb=>if (eqL b c) then (some true) else ((qG9 k c n) (fW .i64 (a+1)))) else (some false)):=rfl
theorem qPw (k:Nat)   (c:LN)  : ∀ (n:Nat) (a:Int),Ok Xg20 g20p3 [(0,.str c),(3,w9 g20c5),(4,.i a)] (mkH []) (qG9 k c n a):=by
 intro n
 induction n with
 | zero=>intro a; exact ok_none
 | succ n ih =>
  intro a
  show Ok _ _ _ _ (qJr k c (qG9 k c n) a)
  unfold qJr
  refine qAk (p':=nav [0] g20p3) Kr ?_
  let j:Env:=[(9,.bool (decide (a < (g20c5.length:Int)))),(8,.i (g20c5.length:Int)),(7,w9 g20c5),(6,.i a),(0,.str c),(3,w9 g20c5),(4,.i a)]
  refine oH 8 g20p5 j (mkH []) ?_
  refine oS 9 (λg=>?_) (λg=>?_)
  ·refine oR 8 (atN 2 (ctl1 g20p6)) ((13,.i a)::(12,w9 g20c5)::(9,.bool true)::j) ?_
   refine oC (λ(b:LN)=>(.vptr [.str b],(mkH []))) (atN 3 (ctl1 g20p6)) 14 (vidxH (sz:=1) qE7 Kr) λb h=>?_
   refine oLH 4 (nav [0,0] g20p6) [(0,.str c),(3,w9 g20c5),(4,.i a),(17,.bool (eqL b c))] (mkH []) ?_
   refine oS 17 (λg=>?_) (λg=>?_)
   ·exact oQ 6
   ·refine oL 7 g20p3 [(0,.str c),(3,w9 g20c5),(4,.i (fW .i64 (a+1)))] ?_
    exact ih (fW .i64 (a+1))
  ·exact oQ 7
def g20 (k:Nat) (a:LN):Option Bool :=
 qG9 k a k 0
theorem g20_ok (k:Nat) (a:LN) (r:Bool) (h:g20 k a=some r):PureOk Try.prog 20 [.str a] (.bool r):=by
 refine qA6 Xg20 (λ_=>⟨rfl,rfl⟩) Try.func20 (by decide +kernel) Kr (t:=g20 k a) ?_ h
 unfold g20
 refine qA (eE:=[(0,.str a)]) Kr ?_
 refine oH 7 (atN 1 (ctl1 g20p1)) [(5,.slice 0 24 0 24 1),(2,.bool false),(0,.str a)] (mkH [⟨[.str g20c0,.str [97,110,100],.str g20c1,.str [98,97,110,100],.str g20c2,.str [98,110,111,116],.str [98,111,114],.str [98,115,108],.str [98,115,114],.str [98,120,111,114],.str [99,97,115,101],.str [99,97,116,99,104],.str [100,105,118],.str [101,110,100],.str [102,117,110],.str [105,102],.str [110,111,116],.str [111,102],.str [111,114],.str g20c3,.str g20c4,.str [114,101,109],.str [119,104,101,110],.str [120,111,114]],0,false⟩]) ?_
 refine oZ 5 0 24 1 [.str g20c0,.str [97,110,100],.str g20c1,.str [98,97,110,100],.str g20c2,.str [98,110,111,116],.str [98,111,114],.str [98,115,108],.str [98,115,114],.str [98,120,111,114],.str [99,97,115,101],.str [99,97,116,99,104],.str [100,105,118],.str [101,110,100],.str [102,117,110],.str [105,102],.str [110,111,116],.str [111,102],.str [111,114],.str g20c3,.str g20c4,.str [114,101,109],.str [119,104,101,110],.str [120,111,114]] [0,2] [] trivial ?_
 refine oLH 9 g20p3 [(0,.str a),(3,w9 g20c5),(4,.i 0)] (mkH [⟨[],0,false⟩]) ?_
 refine qA9 [] [⟨[],0,false⟩] Kr rfl Kr trivial ?_
 exact (qPw k a k) 0
def Xg24:Fx Int:=⟨Try.prog,cx,Try.f24,λr => .i r,0,λ_=>H0,cxTi,cxOrd,λ_=>none,false⟩
def g24c0:LL:=[([61,58,61]:LN),([61,47,61]:LN),([60,60]:LN),([62,62]:LN),([45,62]:LN),([60,45]:LN),([60,61]:LN),([61,62]:LN),([58,61]:LN),([58,58]:LN),([61,61]:LN),([47,61]:LN),([61,60]:LN),([62,61]:LN),([124,124]:LN),([43,43]:LN),([45,45]:LN),([40]:LN),([41]:LN),([123]:LN),([125]:LN),([91]:LN),([93]:LN),([44]:LN),([59]:LN),([58]:LN),([61]:LN),([124]:LN),([33]:LN),([35]:LN),([43]:LN),([45]:LN),([42]:LN),([47]:LN),([60]:LN),([62]:LN),([46]:LN)]
def g24p1:Pt:=nav [0,0,0] (nav [0] (bodyAt Try.f24))
def g24p2:Pt:=nav [0,0,0,0] g24p1
def g24p3:Pt:=nav [0,0] g24p2
def g24p7:Pt:=nav [0,0,0,0] (nav [2,0,0,0] g24p3)
def g24p9:Pt:=nav [0,0] (nav [0,0,0] g24p7)
def g24p10:Pt:=nav [1,0,0,0,0] g24p9
def g24p12:Pt:=nav [0,0,0] g24p10
def g24d0:DP:=⟨[],[(0,0,0),(1,0,0),(0,0,0),(7,0,0),(0,0,0),(31,0,0),(63,0,0),(127,0,0),(127,0,0),(127,0,0),(127,0,0),(1663,0,0),(4095,0,0),(127,0,0),(127,0,0),(24703,0,0),(57471,0,0),(131071,0,0),(262143,0,0)],19,thrown,[],H0⟩
def qJp (k:Nat)  (j:LN) (h:Int) (ih:Int→Option Int):Int→Option Int :=
 λ(a:Int)=>if (decide (a < (g24c0.length:Int))) then ((nthL g24c0 a).bind λb=>jn (λ(l:Bool×Int)=>if l.1 then (some (b.length:Int)) else (ih (fW .i64 (l.2+1)))) (λm=>if (decide ((b.length:Int)≤fW .i64 ((j.length:Int) - h))) then ((subL j (some h) (some (fW .i64 (h+(b.length:Int))))).bind λc=>(nthL g24c0 a).bind λg=>m (eqL c g,a)) else (m (false,a)))) else (some (0:Int))
def qG8 (k:Nat)  (a:LN) (b:Int) (n:Nat):Int→Option Int:=lp (λ_=>none) (qJp k a b) n
theorem g24_l3_s (k:Nat)  (j:LN) (h:Int) (n:Nat) (a:Int):qG8 k j h (n+1) a=(if (decide (a < (g24c0.length:Int))) then ((nthL g24c0 a).bind λb=>jn (λ(l:Bool×Int)=>if l.1 then (some (b.length:Int)) else ((qG8 k j h n) (fW .i64 (l.2+1)))) (λm=>if (decide ((b.length:Int)≤fW .i64 ((j.length:Int) - h))) then ((subL j (some h) (some (fW .i64 (h+(b.length:Int))))).bind λc=>(nthL g24c0 a).bind λg=>m (eqL c g,a)) else (m (false,a)))) else (some (0:Int))):=rfl
theorem qPu (k:Nat)   (h:LN) (j:Int)  : ∀ (n:Nat) (b:Int),Ok Xg24 g24p7 [(0,.str h),(1,.i j),(5,w9 g24c0),(6,.i b)] (mkH []) (qG8 k h j n b):=by
 intro n
 induction n with
 | zero=>intro b; exact ok_none
 | succ n ih =>
  intro b
  show Ok _ _ _ _ (qJp k h j (qG8 k h j n) b)
  unfold qJp
  refine qAk (p':=nav [0] g24p7) Kr ?_
  let F:Env:=[(20,.bool (decide (b < (g24c0.length:Int)))),(19,.i (g24c0.length:Int)),(18,w9 g24c0),(17,.i b),(0,.str h),(1,.i j),(5,w9 g24c0),(6,.i b)]
  refine oH 8 g24p9 F (mkH []) ?_
  refine oS 20 (λD=>?_) (λD=>?_)
  ·refine oR 8 (atN 2 (ctl1 g24p10)) ((24,.i b)::(23,w9 g24c0)::(20,.bool true)::F) ?_
   refine oC (λ(a:LN)=>(.vptr [.str a],(mkH []))) (atN 3 (ctl1 g24p10)) 25 (vidxH (sz:=1) qE7 Kr) λa E=>?_
   refine oLH 5 g24p12 [(0,.str h),(1,.i j),(5,w9 g24c0),(6,.i b),(7,.i (a.length:Int))] (mkH []) ?_
   refine oJ (nav [0] g24p12) (λ(u:Bool×Int)=>[(0,.str h),(1,.i j),(5,w9 g24c0),(6,.i u.2),(7,.i (a.length:Int)),(46,.bool u.1)]) (λ(u:Bool×Int)=>(mkH [])) (λu=>?_) (λG A=>?_)
   ·refine oS 46 (λD=>?_) (λD=>?_)
    ·exact oQ 7
    ·refine oLH 7 g24p7 [(0,.str h),(1,.i j),(5,w9 g24c0),(6,.i (fW .i64 (u.2+1)))] (mkH []) ?_
     exact ih (fW .i64 (u.2+1))
   ·refine qCo (λq=>?_) (λq=>?_)
    ·refine qA7 (λc m=>?_)
     refine qA7 (λg o=>?_)
     let r:Env:=[(34,.bool (decide ((a.length:Int)≤fW .i64 ((h.length:Int) - j)))),(33,.bool (decide ((a.length:Int)≤fW .i64 ((h.length:Int) - j)))),(32,.i (a.length:Int)),(31,.i (fW .i64 ((h.length:Int) - j))),(30,.i j),(29,.i (h.length:Int)),(28,.str h),(0,.str h),(1,.i j),(5,w9 g24c0),(6,.i b),(7,.i (a.length:Int))]
     let l:Env:=[(39,.i (fW .i64 (j+(a.length:Int)))),(38,.i (a.length:Int)),(37,.i j),(36,.i j),(35,.str h),(34,.bool true),(33,.bool true),(32,.i (a.length:Int)),(31,.i (fW .i64 ((h.length:Int) - j))),(30,.i j),(29,.i (h.length:Int)),(28,.str h),(0,.str h),(1,.i j),(5,w9 g24c0),(6,.i b),(7,.i (a.length:Int))]
     let B:Env:=((46,.bool (eqL c g))::(45,.bool (eqL c g))::(44,.str g)::(43,.vptr [.str g])::(42,.i b)::(41,w9 g24c0)::(40,.str c)::l)
     refine oD (H':=(mkH [])) (nav [0] g24p12) B [] g24d0 (oDr 7 7 r (oDe (λz=>[(34,.bool z),(33,.bool z),(32,.i (a.length:Int)),(31,.i (fW .i64 ((h.length:Int) - j))),(30,.i j),(29,.i (h.length:Int)),(28,.str h),(0,.str h),(1,.i j),(5,w9 g24c0),(6,.i b),(7,.i (a.length:Int))]) q (oDr 5 12 l (qAa (l':=(opsAt g24p12).toList.drop 13) (eE:=((40,.str c)::l)) (hs:=[]) (x:=c) (λ(c:LN)=>(.str c,(mkH []))) (subH (some j) (some (fW .i64 (j+(a.length:Int)))) Kr) m Kr (oDr 2 15 ((42,.i b)::(41,w9 g24c0)::(40,.str c)::l) (qAa (l':=(opsAt g24p12).toList.drop 16) (eE:=((43,.vptr [.str g])::(42,.i b)::(41,w9 g24c0)::(40,.str c)::l)) (hs:=[]) (x:=g) (λ(g:LN)=>(.vptr [.str g],(mkH []))) (vidxH (sz:=1) qE7 Kr) o Kr (oDr 3 19 B .nil))))))) ?_
     refine oK [0,1,5,6,7,46] [(0,.str h),(1,.i j),(5,w9 g24c0),(6,.i b),(7,.i (a.length:Int)),(46,.bool (eqL c g))] ?_
     exact A (eqL c g,b)
    ·let r:Env:=[(34,.bool (decide ((a.length:Int)≤fW .i64 ((h.length:Int) - j)))),(33,.bool (decide ((a.length:Int)≤fW .i64 ((h.length:Int) - j)))),(32,.i (a.length:Int)),(31,.i (fW .i64 ((h.length:Int) - j))),(30,.i j),(29,.i (h.length:Int)),(28,.str h),(0,.str h),(1,.i j),(5,w9 g24c0),(6,.i b),(7,.i (a.length:Int))]
     let C:Env:=[(46,.bool false),(45,.tuple []),(44,.tuple []),(43,.tuple []),(42,.tuple []),(41,.tuple []),(40,.tuple []),(39,.tuple []),(38,.tuple []),(37,.tuple []),(36,.tuple []),(35,.tuple []),(34,.bool false),(33,.bool false),(32,.i (a.length:Int)),(31,.i (fW .i64 ((h.length:Int) - j))),(30,.i j),(29,.i (h.length:Int)),(28,.str h),(0,.str h),(1,.i j),(5,w9 g24c0),(6,.i b),(7,.i (a.length:Int))]
     refine oD (H':=(mkH [])) (nav [0] g24p12) C [] g24d0 (oDr 7 7 r (oDe (λz=>[(34,.bool z),(33,.bool z),(32,.i (a.length:Int)),(31,.i (fW .i64 ((h.length:Int) - j))),(30,.i j),(29,.i (h.length:Int)),(28,.str h),(0,.str h),(1,.i j),(5,w9 g24c0),(6,.i b),(7,.i (a.length:Int))]) q (oDr 12 19 C .nil))) ?_
     refine oK [0,1,5,6,7,46] [(0,.str h),(1,.i j),(5,w9 g24c0),(6,.i b),(7,.i (a.length:Int)),(46,.bool false)] ?_
     exact A (false,b)
  ·exact oQ 7
def g24 (k:Nat) (b:LN) (a:Int):Option Int :=
 jn (λ(g:Bool)=>if g then (some (0:Int)) else (qG8 k b a k 0)) (λc=>if (decide (a < 0)) then (c true) else (c (decide ((b.length:Int) < a))))
theorem g24_ok (k:Nat) (b:LN) (a:Int) (r:Int) (h:g24 k b a=some r):PureOk Try.prog 24 [.str b,.i a] (.i r):=by
 refine qA6 Xg24 (λ_=>⟨rfl,rfl⟩) Try.func24 (by decide +kernel) Kr (t:=g24 k b a) ?_ h
 unfold g24
 refine qA (eE:=[(0,.str b),(1,.i a)]) Kr ?_
 refine oH 7 (atN 1 (ctl1 g24p1)) [(8,.slice 0 37 0 37 1),(4,.i 0),(0,.str b),(1,.i a)] (mkH [⟨[.str [61,58,61],.str [61,47,61],.str [60,60],.str [62,62],.str [45,62],.str [60,45],.str [60,61],.str [61,62],.str [58,61],.str [58,58],.str [61,61],.str [47,61],.str [61,60],.str [62,61],.str [124,124],.str [43,43],.str [45,45],.str [40],.str [41],.str [123],.str [125],.str [91],.str [93],.str [44],.str [59],.str [58],.str [61],.str [124],.str [33],.str [35],.str [43],.str [45],.str [42],.str [47],.str [60],.str [62],.str [46]],0,false⟩]) ?_
 refine oZ 8 0 37 1 [.str [61,58,61],.str [61,47,61],.str [60,60],.str [62,62],.str [45,62],.str [60,45],.str [60,61],.str [61,62],.str [58,61],.str [58,58],.str [61,61],.str [47,61],.str [61,60],.str [62,61],.str [124,124],.str [43,43],.str [45,45],.str [40],.str [41],.str [123],.str [125],.str [91],.str [93],.str [44],.str [59],.str [58],.str [61],.str [124],.str [33],.str [35],.str [43],.str [45],.str [42],.str [47],.str [60],.str [62],.str [46]] [0,1,4] [] trivial ?_
 refine oH 8 (atN 3 (ctl1 g24p2)) [(11,.bool (decide (a < 0))),(10,.bool (decide (a < 0))),(9,.i a),(5,w9 g24c0),(8,w9 g24c0),(0,.str b),(1,.i a),(4,.i 0)] (mkH [⟨[],0,false⟩]) ?_
 refine oJ g24p3 (λ(g:Bool)=>[(0,.str b),(1,.i a),(5,w9 g24c0),(16,.bool g)]) (λ(g:Bool)=>(mkH [])) (λg=>?_) (λl c=>?_)
 ·refine oS 16 (λj=>?_) (λj=>?_)
  ·exact oQ 6
  ·refine oLH 9 g24p7 [(0,.str b),(1,.i a),(5,w9 g24c0),(6,.i 0)] (mkH []) ?_
   exact (qPu k b a k) 0
 ·refine oS 11 (λj=>?_) (λj=>?_)
  ·refine oLH 6 g24p3 [(0,.str b),(1,.i a),(5,w9 g24c0),(16,.bool true)] (mkH [⟨[],0,false⟩]) ?_
   refine qA9 [] [⟨[],0,false⟩] Kr rfl Kr trivial ?_
   exact c true
  ·refine oLH 6 g24p3 [(0,.str b),(1,.i a),(5,w9 g24c0),(16,.bool (decide ((b.length:Int) < a)))] (mkH [⟨[],0,false⟩]) ?_
   refine qA9 [] [⟨[],0,false⟩] Kr rfl Kr trivial ?_
   exact c (decide ((b.length:Int) < a))
end
def blkN (c:Nat):Bool:=decide (c=32) || decide (c=9) || decide (c=10) || decide (c=13)
def letN (c:Nat):Bool:=decide (97≤c) && decide (c≤122) || decide (65≤c) && decide (c≤90)
def begN (c:Nat):Nat:=if 97≤c∧c≤122 then 1 else if 65≤c∧c≤90∨c=95 then 2 else if 48≤c∧c≤57 then 3 else 0
def inrN (c:Nat):Bool:=decide (begN c ≠ 0) || decide (c=64)
def rsvL:LL:=[[97,102,116,101,114],[97,110,100],[97,110,100,97,108,115,111],[98,97,110,100],[98,101,103,105,110],[98,110,111,116],[98,111,114],[98,115,108],[98,115,114],[98,120,111,114],[99,97,115,101],[99,97,116,99,104],[100,105,118],[101,110,100],[102,117,110],[105,102],[110,111,116],[111,102],[111,114],[111,114,101,108,115,101],[114,101,99,101,105,118,101],[114,101,109],[119,104,101,110],[120,111,114]]
def rsvN (s:LN):Bool:=rsvL.any λw=>eqL s w
theorem eqL_comm (a b:LN):eqL a b=eqL b a:=by
 rw [Bool.eq_iff_iff,qFb,qFb]; exact eq_comm
theorem qK5 (k:Nat) {c:Nat} (h:c < 256):g17 k (c:Int)=some ((begN c:Nat):Int):=by
 have w:=byteAll (f:=λc=>decide (g17 0 (c:Int)=some ((begN c:Nat):Int))) (by decide +kernel) h
 exact of_decide_eq_true w
theorem qG (k:Nat) {c:Nat} (h:c < 256):g33 k (c:Int)=some (inrN c):=by
 have w:=byteAll (f:=λc=>decide (g33 0 (c:Int)=some (inrN c))) (by decide +kernel) h
 exact of_decide_eq_true w
theorem qO5 (k:Nat) {c:Nat} (h:c < 256):g23 k (c:Int)=some (letN c):=by
 have w:=byteAll (f:=λc=>decide (g23 0 (c:Int)=some (letN c))) (by decide +kernel) h
 exact of_decide_eq_true w
theorem qIy {α:Type} {L:List α} {i:Nat} {x:α} {r:List α} (h:L.drop i=x::r):nthL L (i:Int)=some x:=by
 unfold nthL
 rw [if_pos (by omega),Int.toNat_natCast]
 have:=List.getElem?_drop (xs:=L) (i:=i) (j:=0)
 rw [h] at this
 simpa using this.symm
theorem dconsL {α:Type} {s:List α} {i:Nat} (h:i < s.length):∃ b r,s.drop i=b::r∧s.drop (i+1)=r∧b ∈ s∧r.length+i+1=s.length:=by
 refine ⟨s[i],s.drop (i+1),List.drop_eq_getElem_cons h,rfl,List.getElem_mem h,?_⟩
 rw [List.length_drop]; omega
theorem qEm (k : Nat) (s : LN) : ∀ (f i : Nat), 24 < i + f → i ≤ 24 → qG9 k s f (i : Int) = some ((rsvL.drop i).any λw => eqL s w)
 | 0,i,h,h2=>by omega
 | f+1,i,h,h2=>by
  rw [g20_l1_s]
  have e:g20c5=rsvL:=rfl
  rw [e]
  have el:rsvL.length=24:=rfl
  rcases Nat.lt_or_ge i 24 with hi | hi
  ·obtain ⟨x,r,hx,hr,-,-⟩:=dconsL (s:=rsvL) (i:=i) (by rw [el]; exact hi)
   have ih:=qEm k s f (i+1) (by omega) (by omega)
   rw [el]
   refine iT (by first | (simp (disch:=omega) only [↓reduceIte,↓jn,gsL]; done) | rfl) ?_
   refine bS (by (try simp (disch:=omega) only [fwI]); exact qIy hx) ?_
   rw [fw_s (by omega),ih,hr,hx,List.any_cons,eqL_comm x s]
   cases eqL s x <;> rfl
  ·rw [el]
   refine iF (by first | (simp (disch:=omega) only [↓reduceIte,↓jn,gsL]; done) | rfl) ?_
   rw [List.drop_eq_nil_of_le (by rw [el]; exact hi)]
   rfl
theorem qHm {k:Nat} (hk:25≤k) (s:LN):g20 k s=some (rsvN s):=qEm k s k 0 (by omega) (by omega)
def signL:LL:=[[61,58,61],[61,47,61],[60,60],[62,62],[45,62],[60,45],[60,61],[61,62],[58,61],[58,58],[61,61],[47,61],[61,60],[62,61],[124,124],[43,43],[45,45],[40],[41],[123],[125],[91],[93],[44],[59],[58],[61],[124],[33],[35],[43],[45],[42],[47],[60],[62],[46]]
def preN : LN → LN → Bool
 | [],_=>true
 | x::l,y::s=>decide (y=x) && preN l s
 | _::_,[]=>false
def fstN : LL → LN → Nat
 | [],_=>0
 | l::L,s=>if preN l s then l.length else fstN L s
def lngN (s:LN):Nat:=fstN signL s
theorem qEs : ∀ (l s : LN), preN l s = (decide (l.length ≤ s.length) && eqL (s.take l.length) l)
 | [],s=>by simp [preN,eqL]
 | x::l,[]=>by simp [preN]
 | x::l,y::s=>by
  simp only [preN,qEs l s,List.length_cons,List.take_succ_cons,eqL]
  by_cases h:l.length≤s.length
  ·have:l.length+1≤s.length+1:=by omega
   simp [h,this]
   rw [Bool.eq_iff_iff]; simp [Nat.beq_eq]
  ·have:¬ l.length+1≤s.length+1:=by omega
   simp [h,this]
theorem preN_len {l s:LN} (h:preN l s=true):l.length≤s.length:=by
 rw [qEs,Bool.and_eq_true,decide_eq_true_eq] at h; exact h.1
theorem qQa : ∀ (L : LL) (s : LN), fstN L s ≤ s.length
 | [],s=>Nat.zero_le _
 | l::L,s=>by
  simp only [fstN]
  split
  ·rename_i h; exact preN_len h
  ·exact qQa L s
theorem qFs (k : Nat) {s : LN} (hl : Sz s) {a : Nat} (ha : a ≤ s.length) : ∀ (f i : Nat), 37 < i + f → i ≤ 37 → qG8 k s (a : Int) f (i : Int) = some ((fstN (signL.drop i) (s.drop a) : Nat) : Int)
 | 0,i,h,h2=>by omega
 | f+1,i,h,h2=>by
  have hl':=hl
  unfold Sz at hl
  rw [g24_l3_s]
  have e:g24c0=signL:=rfl
  rw [e]
  have el:signL.length=37:=rfl
  rcases Nat.lt_or_ge i 37 with hi | hi
  ·obtain ⟨x,r,hx,hr,hm,-⟩:=dconsL (s:=signL) (i:=i) (by rw [el]; exact hi)
   have ih:=qFs k hl' ha f (i+1) (by omega) (by omega)
   have hx3:x.length≤3:=by
    have:∀ l ∈ signL,l.length≤3:=by decide
    exact this x hm
   rw [el]
   refine iT (by first | (simp (disch:=omega) only [↓reduceIte,↓jn,gsL]; done) | rfl) ?_
   refine bS (by (try simp (disch:=omega) only [fwI]); exact qIy hx) ?_
   rw [hr] at ih
   rw [hx]
   simp only [fstN,qEs,List.length_drop]
   refine (jS (v:=(decide (x.length≤s.length - a) && eqL ((s.drop a).take x.length) x,(i:Int))) (λj=>?_)).trans ?_
   ·by_cases hc:x.length≤s.length - a
    ·have sb:subL s (some (a:Int)) (some ((a:Int)+(x.length:Int)))=some ((s.drop a).take x.length):=by
      rw [subMid (i:=a) (j:=a+x.length) rfl (by push_cast; rfl) (by omega) (by omega),List.drop_take,Nat.add_sub_cancel_left]
     refine iT (by first | (simp (disch:=omega) only [↓reduceIte,↓jn,gsL]; done) | rfl) ?_
     refine bS (by (try simp (disch:=omega) only [fwI]); exact sb) ?_
     refine bS (by (try simp (disch:=omega) only [fwI]); exact qIy hx) ?_
     simp (disch:=omega) only [↓reduceIte,↓jn,gsL,hc]
    ·simp (disch:=omega) only [↓reduceIte,↓jn,gsL,hc]
   ·cases hp:(decide (x.length≤s.length - a) && eqL ((s.drop a).take x.length) x) with
    | true=>rfl
    | false =>
     simp only [Bool.false_eq_true,if_false]
     rw [fw_s (by omega)]
     exact ih
  ·rw [el]
   refine iF (by first | (simp (disch:=omega) only [↓reduceIte,↓jn,gsL]; done) | rfl) ?_
   rw [List.drop_eq_nil_of_le (by rw [el]; exact hi)]
   rfl
theorem qIl {k:Nat} (hk:38≤k) {s:LN} (hl:Sz s) {a:Nat} (ha:a≤s.length):g24 k s (a:Int)=some ((lngN (s.drop a):Nat):Int):=by
 have hl':=hl
 unfold Sz at hl
 unfold g24
 refine (jS (v:=false) (λj=>by simp (disch:=omega) only [↓reduceIte,↓jn,gsL])).trans ?_
 exact qFs k hl' ha k 0 (by omega) (by omega)
end Go.Proofs.Ytjmmjhojbodbdaa.Am
set_option maxRecDepth 100000
set_option linter.unusedVariables false
namespace Go.Proofs.Ytjmmjhojbodbdaa.Am
noncomputable section
open Go
def Xg52:Fx Int:=⟨Try.prog,cx,Try.f52,λr => .i r,0,λ_=>H0,cxTi,cxOrd,λ_=>none,false⟩
def g52p2:Pt:=nav [0,0,0,0,0] (nav [0,0,0] (nav [0] (bodyAt Try.f52)))
def g52p3:Pt:=nav [0,0] g52p2
def g52p5:Pt:=nav [2,0] g52p3
def g52p6:Pt:=nav [0,0,0,0] (nav [1] g52p3)
def g52p7:Pt:=nav [0,0] g52p5
def g52p10:Pt:=nav [2,0] g52p7
def g52p13:Pt:=nav [0,0] g52p10
def g52 (k:Nat) (a:Int) (l:Int):Option Int :=
 (g30 k a).bind λb=>jn (λ(g:Int)=>if (decide (l≤g)) then (some ((-1):Int)) else (some g)) (λc=>if b then (c (fW .i64 (fW .u8 (a - 48)))) else (jn (λ(m:Bool)=>if m then (c (fW .i64 (fW .i64 (fW .u8 (a - 97))+10))) else (jn (λ(n:Bool)=>if n then (c (fW .i64 (fW .i64 (fW .u8 (a - 65))+10))) else (c (-1))) (λh=>if (decide (65≤a)) then (h (decide (a≤90))) else (h false)))) (λj=>if (decide (97≤a)) then (j (decide (a≤122))) else (j false))))
theorem qLt (k:Nat) (a:Int) (b:Int) (r:Int) (h:g52 k a b=some r):PureOk Try.prog 52 [.y a,.i b] (.i r):=by
 refine qA6 Xg52 (λ_=>⟨rfl,rfl⟩) Try.func52 (by decide +kernel) Kr (t:=g52 k a b) ?_ h
 unfold g52
 refine qA (eE:=[(0,.y a),(1,.i b)]) Kr ?_
 let q:Env:=[(7,.y a),(5,.i (-1)),(4,.i 0),(0,.y a),(1,.i b)]
 refine oH 13 (atN 1 (ctl1 g52p2)) q (mkH []) ?_
 refine oA (λ(c:Bool) => .bool c) (atN 2 (ctl1 g52p2)) 8 [.y a] (qPt k a) λc u=>?_
 refine oR 2 g52p3 ((6,.bool c)::(8,.bool c)::q) ?_
 refine oJ g52p6 (λ(l:Int)=>[(1,.i b),(5,.i l)]) (λ(l:Int)=>(mkH [])) (λl=>?_) (λA j=>?_)
 ·refine oH 5 (nav [0,0] g52p6) [(36,.bool (decide (b≤l))),(35,.i b),(34,.i l),(1,.i b),(5,.i l)] (mkH []) ?_
  refine oS 36 (λg=>?_) (λg=>?_)
  ·exact oQ 6
  ·exact oQ 8
 ·refine oS 6 (λg=>?_) (λg=>?_)
  ·refine oLH 9 g52p6 [(1,.i b),(5,.i (fW .i64 (fW .u8 (a - 48))))] (mkH []) ?_
   exact j (fW .i64 (fW .u8 (a - 48)))
  ·refine oH 6 (atN 3 (ctl1 g52p5)) ((15,.bool (decide (97≤a)))::(14,.bool (decide (97≤a)))::(13,.y a)::(6,.bool false)::(6,.bool c)::(8,.bool c)::q) (mkH []) ?_
   refine oJ g52p7 (λ(o:Bool)=>[(0,.y a),(1,.i b),(5,.i (-1)),(12,.bool o)]) (λ(o:Bool)=>(mkH [])) (λo=>?_) (λB m=>?_)
   ·refine oS 12 (λg=>?_) (λg=>?_)
    ·refine oLH 10 g52p6 [(1,.i b),(5,.i (fW .i64 (fW .i64 (fW .u8 (a - 97))+10)))] (mkH []) ?_
     exact j (fW .i64 (fW .i64 (fW .u8 (a - 97))+10))
    ·refine oH 6 (atN 3 (ctl1 g52p10)) [(26,.bool (decide (65≤a))),(25,.bool (decide (65≤a))),(24,.y a),(12,.bool false),(0,.y a),(1,.i b),(5,.i (-1)),(12,.bool o)] (mkH []) ?_
     refine oJ g52p13 (λ(x:Bool)=>[(0,.y a),(1,.i b),(5,.i (-1)),(23,.bool x)]) (λ(x:Bool)=>(mkH [])) (λx=>?_) (λC n=>?_)
     ·refine oS 23 (λg=>?_) (λg=>?_)
      ·refine oLH 10 g52p6 [(1,.i b),(5,.i (fW .i64 (fW .i64 (fW .u8 (a - 65))+10)))] (mkH []) ?_
       exact j (fW .i64 (fW .i64 (fW .u8 (a - 65))+10))
      ·refine oLH 4 g52p6 [(1,.i b),(5,.i (-1))] (mkH []) ?_
       exact j (-1)
     ·refine oS 26 (λg=>?_) (λg=>?_)
      ·refine oLH 5 g52p13 [(0,.y a),(1,.i b),(5,.i (-1)),(23,.bool (decide (a≤90)))] (mkH []) ?_
       exact n (decide (a≤90))
      ·refine oLH 5 g52p13 [(0,.y a),(1,.i b),(5,.i (-1)),(23,.bool false)] (mkH []) ?_
       exact n false
   ·refine oS 15 (λg=>?_) (λg=>?_)
    ·refine oLH 5 g52p7 [(0,.y a),(1,.i b),(5,.i (-1)),(12,.bool (decide (a≤122)))] (mkH []) ?_
     exact m (decide (a≤122))
    ·refine oLH 5 g52p7 [(0,.y a),(1,.i b),(5,.i (-1)),(12,.bool false)] (mkH []) ?_
     exact m false
def Xg39:Fx Int:=⟨Try.prog,cx,Try.f39,λr => .i r,0,λ_=>H0,cxTi,cxOrd,λ_=>none,false⟩
def g39p2:Pt:=nav [0,0,0,0,0] (nav [0,0,0] (nav [0] (bodyAt Try.f39)))
def g39p4:Pt:=nav [0,0] (nav [0,0,0] g39p2)
def g39p5:Pt:=nav [1,0,0,0,0] g39p4
def g39p6:Pt:=nav [2,0,0] g39p4
def g39p7:Pt:=nav [0,0] g39p5
def qJm (k:Nat)  (l:LN) (q:Int) (r:Int) (x:Bool) (ih:Int→Option Int):Int→Option Int :=
 λ(a:Int)=>jn (λ(A:Int)=>some (fW .i64 (A - q))) (λu=>if (decide (a < (l.length:Int))) then ((nthS l a).bind λm=>(g52 k m r).bind λn=>jn (λ(o:Bool×Int)=>if o.1 then (u o.2) else (ih (fW .i64 (o.2+1)))) (λb=>if (decide (n < 0)) then (if x then ((nthS l a).bind λc=>if (decide (c=95)) then (if (decide (q < a)) then ((nthS l (fW .i64 (a - 1))).bind λg=>if (!decide (g=95)) then (if (decide (fW .i64 (a+1) < (l.length:Int))) then ((nthS l (fW .i64 (a+1))).bind λh=>(g52 k h r).bind λj=>b (!(decide (0≤j)),a)) else (b (true,a))) else (b (true,a))) else (b (true,a))) else (b (true,a))) else (b (true,a))) else (b (false,a)))) else (u a))
def qF3 (k:Nat)  (a:LN) (b:Int) (c:Int) (g:Bool) (n:Nat):Int→Option Int:=lp (λ_=>none) (qJm k a b c g) n
theorem qLv (k:Nat)  (b:LN) (q:Int) (r:Int) (u:Bool) (n:Nat) (a:Int):qF3 k b q r u (n+1) a=(jn (λ(B:Int)=>some (fW .i64 (B - q))) (λA=>if (decide (a < (b.length:Int))) then ((nthS b a).bind λm=>(g52 k m r).bind λo=>jn (λ(x:Bool×Int)=>if x.1 then (A x.2) else ((qF3 k b q r u n) (fW .i64 (x.2+1)))) (λc=>if (decide (o < 0)) then (if u then ((nthS b a).bind λg=>if (decide (g=95)) then (if (decide (q < a)) then ((nthS b (fW .i64 (a - 1))).bind λh=>if (!decide (h=95)) then (if (decide (fW .i64 (a+1) < (b.length:Int))) then ((nthS b (fW .i64 (a+1))).bind λj=>(g52 k j r).bind λl=>c (!(decide (0≤l)),a)) else (c (true,a))) else (c (true,a))) else (c (true,a))) else (c (true,a))) else (c (true,a))) else (c (false,a)))) else (A a))):=rfl
theorem qPo (k:Nat)   (b:LN) (l:Int) (m:Int) (r:Bool)  : ∀ (n:Nat) (a:Int),Ok Xg39 g39p2 [(0,.str b),(1,.i l),(2,.i m),(3,.bool r),(9,.i a)] (mkH []) (qF3 k b l m r n a):=by
 intro n
 induction n with
 | zero=>intro a; exact ok_none
 | succ n ih =>
  intro a
  show Ok _ _ _ _ (qJm k b l m r (qF3 k b l m r n) a)
  unfold qJm
  refine qAk (p':=nav [0] g39p2) Kr ?_
  let M:Env:=[(14,.bool (decide (a < (b.length:Int)))),(13,.i (b.length:Int)),(12,.str b),(11,.i a),(0,.str b),(1,.i l),(2,.i m),(3,.bool r),(9,.i a)]
  refine oH 8 g39p4 M (mkH []) ?_
  refine oJ g39p6 (λ(N:Int)=>[(1,.i l),(9,.i N)]) (λ(N:Int)=>(mkH [])) (λN=>?_) (λV D=>?_)
  ·exact oQ 7
  ·refine oS 14 (λu=>?_) (λu=>?_)
   ·refine oH 8 (atN 2 (ctl1 g39p5)) ((16,.i a)::(15,.str b)::(14,.bool true)::M) (mkH []) ?_
    refine oC (λ(q:Int)=>(.y q,(mkH []))) (atN 3 (ctl1 g39p5)) 17 (idxH Kr) λq O=>?_
    let S:Env:=((18,.i m)::(17,.y q)::(16,.i a)::(15,.str b)::(14,.bool true)::M)
    refine oH 1 (atN 4 (ctl1 g39p5)) S (mkH []) ?_
    refine oA (λ(h:Int) => .i h) (atN 5 (ctl1 g39p5)) 19 [.y q,.i m] (qLt k q m) λh T=>?_
    refine oR 2 (atN 7 (ctl1 g39p5)) ((21,.bool (decide (h < 0)))::(20,.bool (decide (h < 0)))::(19,.i h)::S) ?_
    refine oJ g39p7 (λ(A:Bool×Int)=>[(0,.str b),(1,.i l),(2,.i m),(3,.bool r),(9,.i A.2),(58,.bool A.1)]) (λ(A:Bool×Int)=>(mkH [])) (λA=>?_) (λW x=>?_)
    ·refine oS 58 (λu=>?_) (λu=>?_)
     ·refine oLH 3 g39p6 [(1,.i l),(9,.i A.2)] (mkH []) ?_
      exact D A.2
     ·refine oLH 7 g39p2 [(0,.str b),(1,.i l),(2,.i m),(3,.bool r),(9,.i (fW .i64 (A.2+1)))] (mkH []) ?_
      exact ih (fW .i64 (A.2+1))
    ·refine oS 21 (λu=>?_) (λu=>?_)
     ·let U:Env:=((23,.bool r)::(22,.bool r)::(21,.bool true)::(21,.bool (decide (h < 0)))::(20,.bool (decide (h < 0)))::(19,.i h)::S)
      refine oH 2 (atN 9 (ctl1 g39p5)) U (mkH []) ?_
      refine oS 23 (λu=>?_) (λu=>?_)
      ·refine oR 2 (atN 11 (ctl1 g39p5)) ((25,.i a)::(24,.str b)::(23,.bool true)::U) ?_
       refine oC (λ(c:Int)=>(.y c,(mkH []))) (atN 12 (ctl1 g39p5)) 26 (idxH Kr) λc G=>?_
       let E:Env:=((29,.bool (decide (c=95)))::(28,.bool (decide (c=95)))::(27,.bool (decide (c=95)))::(26,.y c)::(25,.i a)::(24,.str b)::(23,.bool true)::U)
       refine oH 3 (atN 15 (ctl1 g39p5)) E (mkH []) ?_
       refine oS 29 (λu=>?_) (λu=>?_)
       ·let B:Env:=((34,.bool (decide (l < a)))::(33,.bool (decide (l < a)))::(32,.bool (decide (l < a)))::(31,.i l)::(30,.i a)::(29,.bool true)::E)
        refine oR 5 (atN 20 (ctl1 g39p5)) B ?_
        refine oS 34 (λu=>?_) (λu=>?_)
        ·refine oR 3 (atN 23 (ctl1 g39p5)) ((37,.i (fW .i64 (a - 1)))::(36,.i a)::(35,.str b)::(34,.bool true)::B) ?_
         refine oC (λ(g:Int)=>(.y g,(mkH []))) (atN 24 (ctl1 g39p5)) 38 (idxH Kr) λg J=>?_
         let F:Env:=((41,.bool (!decide (g=95)))::(40,.bool (!decide (g=95)))::(39,.bool (!decide (g=95)))::(38,.y g)::(37,.i (fW .i64 (a - 1)))::(36,.i a)::(35,.str b)::(34,.bool true)::B)
         refine oH 3 (atN 27 (ctl1 g39p5)) F (mkH []) ?_
         refine oS 41 (λu=>?_) (λu=>?_)
         ·let C:Env:=((48,.bool (decide (fW .i64 (a+1) < (b.length:Int))))::(47,.bool (decide (fW .i64 (a+1) < (b.length:Int))))::(46,.bool (decide (fW .i64 (a+1) < (b.length:Int))))::(45,.i (b.length:Int))::(44,.str b)::(43,.i (fW .i64 (a+1)))::(42,.i a)::(41,.bool true)::F)
          refine oR 7 (atN 34 (ctl1 g39p5)) C ?_
          refine oS 48 (λu=>?_) (λu=>?_)
          ·refine oR 3 (atN 37 (ctl1 g39p5)) ((51,.i (fW .i64 (a+1)))::(50,.i a)::(49,.str b)::(48,.bool true)::C) ?_
           refine oC (λ(j:Int)=>(.y j,(mkH []))) (atN 38 (ctl1 g39p5)) 52 (idxH Kr) λj K=>?_
           refine oH 1 (atN 39 (ctl1 g39p5)) ((53,.i m)::(52,.y j)::(51,.i (fW .i64 (a+1)))::(50,.i a)::(49,.str b)::(48,.bool true)::C) (mkH []) ?_
           refine oA (λ(o:Int) => .i o) (atN 40 (ctl1 g39p5)) 54 [.y j,.i m] (qLt k j m) λo L=>?_
           refine oL 5 g39p7 [(0,.str b),(1,.i l),(2,.i m),(3,.bool r),(9,.i a),(58,.bool (!(decide (0≤o))))] ?_
           exact x (!(decide (0≤o)),a)
          ·refine oL 11 g39p7 [(0,.str b),(1,.i l),(2,.i m),(3,.bool r),(9,.i a),(58,.bool true)] ?_
           exact x (true,a)
         ·refine oL 18 g39p7 [(0,.str b),(1,.i l),(2,.i m),(3,.bool r),(9,.i a),(58,.bool true)] ?_
          exact x (true,a)
        ·refine oL 25 g39p7 [(0,.str b),(1,.i l),(2,.i m),(3,.bool r),(9,.i a),(58,.bool true)] ?_
         exact x (true,a)
       ·refine oL 30 g39p7 [(0,.str b),(1,.i l),(2,.i m),(3,.bool r),(9,.i a),(58,.bool true)] ?_
        exact x (true,a)
      ·refine oL 36 g39p7 [(0,.str b),(1,.i l),(2,.i m),(3,.bool r),(9,.i a),(58,.bool true)] ?_
       exact x (true,a)
     ·refine oLH 38 g39p7 [(0,.str b),(1,.i l),(2,.i m),(3,.bool r),(9,.i a),(58,.bool false)] (mkH []) ?_
      exact x (false,a)
   ·refine oLH 3 g39p6 [(1,.i l),(9,.i a)] (mkH []) ?_
    exact D a
def g39 (k:Nat) (b:LN) (a:Int) (c:Int) (g:Bool):Option Int :=
 qF3 k b a c g k a
theorem qG7 (k:Nat) (b:LN) (a:Int) (c:Int) (g:Bool) (r:Int) (h:g39 k b a c g=some r):PureOk Try.prog 39 [.str b,.i a,.i c,.bool g] (.i r):=by
 refine qA6 Xg39 (λ_=>⟨rfl,rfl⟩) Try.func39 (by decide +kernel) Kr (t:=g39 k b a c g) ?_ h
 unfold g39
 refine qA (eE:=[(0,.str b),(1,.i a),(2,.i c),(3,.bool g)]) Kr ?_
 refine oLH 12 g39p2 [(0,.str b),(1,.i a),(2,.i c),(3,.bool g),(9,.i a)] (mkH []) ?_
 exact (qPo k b a c g k) a
end
def dgN (c:Nat):Nat:=if 48≤c∧c≤57 then c - 48 else if 97≤c∧c≤122 then c - 87 else if 65≤c∧c≤90 then c - 55 else 99
def isD (b:Nat) (s:LN):Bool:=match s with | d::_=>decide (dgN d < b) | []=>false
theorem isD_nil (b:Nat):isD b []=false:=rfl
theorem qKv (b d:Nat) (r:LN):isD b (d::r)=decide (dgN d < b):=rfl
def runN (b : Nat) : Bool → LN → Nat
 | _,[]=>0
 | p,c::r=>if dgN c < b then runN b true r+1 else if p && decide (c=95) && isD b r then runN b false r+1 else 0
theorem qBt (b:Nat) (p:Bool) (c:Nat) (r:LN):runN b p (c::r)=if dgN c < b then runN b true r+1 else if p && decide (c=95) && isD b r then runN b false r+1 else 0:=rfl
def barN (b : Nat) : LN → Nat
 | []=>0
 | c::r=>if dgN c < b then barN b r+1 else 0
theorem dg_le (c:Nat):dgN c≤99:=by
 unfold dgN; repeat' split
 all_goals omega
theorem qBs (b : Nat) : ∀ (p : Bool) (s : LN), runN b p s ≤ s.length
 | _,[]=>Nat.le_refl _
 | p,c::r=>by
  have h1:=qBs b true r
  have h2:=qBs b false r
  simp only [runN,List.length_cons]
  repeat' split
  all_goals omega
theorem qQm (b : Nat) : ∀ (s : LN), barN b s ≤ s.length
 | []=>Nat.le_refl _
 | c::r=>by
  have h1:=qQm b r
  simp only [barN,List.length_cons]
  split <;> omega
theorem dg_95:dgN 95=99:=by decide
theorem qBc (k:Nat) {c b:Nat} (h:c < 256) (hb:b≤99):g52 k (c:Int) (b:Int)=some (if dgN c < b then ((dgN c:Nat):Int) else -1):=by
 have w:=byteAll (f:=λc=>decide (g52 0 (c:Int) 99=some (if dgN c < 99 then ((dgN c:Nat):Int) else -1))) (by decide +kernel) h
 have w:g52 k (c:Int) 99=some (if dgN c < 99 then ((dgN c:Nat):Int) else -1):=of_decide_eq_true w
 have hd:=dg_le c
 unfold g52 at w ⊢
 revert w
 generalize g30 k (c:Int)=D
 generalize fW .i64 (fW .u8 ((c:Int) - 48))=A
 generalize fW .i64 (fW .i64 (fW .u8 ((c:Int) - 97))+10)=B
 generalize fW .i64 (fW .i64 (fW .u8 ((c:Int) - 65))+10)=C
 have key:∀ x:Int,(if decide ((99:Int)≤x) then some (-1:Int) else some x)=some (if dgN c < 99 then ((dgN c:Nat):Int) else -1)→(if decide ((b:Int)≤x) then some (-1:Int) else some x)=some (if dgN c < b then ((dgN c:Nat):Int) else -1):=by
  intro x hx
  by_cases h1:(99:Int)≤x
  ·rw [decide_eq_true h1,if_pos rfl] at hx
   have:=Option.some.inj hx
   rw [decide_eq_true (by omega:(b:Int)≤x),if_pos rfl]
   split at this
   ·omega
   ·rw [if_neg (by omega)]
  ·rw [decide_eq_false h1,if_neg (by decide)] at hx
   have:=Option.some.inj hx
   by_cases h2:(b:Int)≤x
   ·rw [decide_eq_true h2,if_pos rfl]
    split at this
    ·rw [if_neg (by omega)]
    ·omega
   ·rw [decide_eq_false h2,if_neg (by decide),this]
    split at this
    ·rw [if_pos (by omega),if_pos (by omega)]
    ·rw [if_neg (by omega),if_neg (by omega)]
 cases D with
 | none=>intro w; cases w
 | some d =>
  have m1:=key (-1)
  have m2:=key A
  have m3:=key B
  have m4:=key C
  simp only [Option.bind_some,jn]
  generalize decide (65≤(c:Int))=p1
  generalize decide ((c:Int)≤90)=p2
  generalize decide (97≤(c:Int))=p3
  generalize decide ((c:Int)≤122)=p4
  cases d <;> cases p1 <;> cases p2 <;> cases p3 <;> cases p4 <;> first | exact m1 | exact m2 | exact m3 | exact m4
theorem rrun_l (k : Nat) {s : LN} (hs : By s) (hl : Sz s) {b : Nat} (hb : b ≤ 99) (a : Nat) : ∀ (f i : Nat), s.length < i + f → i ≤ s.length → a ≤ i → ∀ p : Bool, (p = true ↔ a < i ∧ ∃ c r, s.drop (i - 1) = c :: r ∧ c ≠ 95) →
 qF3 k s (a:Int) (b:Int) true f (i:Int)=some ((i - a+runN b p (s.drop i):Nat):Int)
 | 0,i,h,h2,h3,p,hp=>by omega
 | f+1,i,h,h2,h3,p,hp=>by
  unfold Sz at hl
  rw [qLv]
  rcases Nat.lt_or_ge i s.length with hi | hi
  ·obtain ⟨c,r,hc,hr,hm,hrl⟩:=dcons hi
   have ih:=rrun_l k hs hl hb a f (i+1) (by omega) (by omega) (by omega)
   rw [hr] at ih
   have e:((i:Int)+1)=((i+1:Nat):Int):=by push_cast; rfl
   by_cases hd:dgN c < b
   ·have c95:c ≠ 95:=by intro h; rw [h,dg_95] at hd; omega
    have:=ih true ⟨λ_=>⟨by omega,c,r,by simpa using hc,c95⟩,λ_=>rfl⟩
    simp (disch:=omega) only [↓reduceIte,↓jn,gsL,nthX rfl hc,qBc k (hs c hm) hb,hc,qBt,hd,e,this]
    exact sn (by omega)
   ·have out:∀ x:Nat,x=0→some ((i:Int) - (a:Int))=some (((i - a+x:Nat)):Int):=by
     intro x hx; subst hx; congr 1; omega
    by_cases h95:c=95
    ·subst h95
     cases p with
     | true =>
      obtain ⟨ha,c',r',hc',hne⟩:=hp.1 rfl
      have hx:(i:Int) - 1=((i - 1:Nat):Int):=by omega
      have hne':¬ ((c':Int)=95):=by omega
      cases r with
      | nil =>
       simp only [List.length_nil] at hrl
       simp (disch:=omega) only [↓reduceIte,↓jn,gsL,nthX rfl hc,qBc k (hs _ hm) hb,hc,qBt,hd,nthX hx hc',hne',isD_nil]
       exact out _ rfl
      | cons d r =>
       simp only [List.length_cons] at hrl
       have d256:d < 256:=by
        have:=hs.drop i; rw [hc] at this; exact this d (by simp)
       by_cases hdd:dgN d < b
       ·have hq:false=true ↔ a < i+1∧∃ c r,s.drop (i+1 - 1)=c::r∧c ≠ 95:=by
         constructor
         ·intro h; cases h
         ·rintro ⟨-,c,r,h1,h2⟩
          rw [Nat.add_sub_cancel,hc] at h1
          exact absurd (List.cons.inj h1).1.symm h2
        have:=ih false hq
        simp (disch:=omega) only [↓reduceIte,↓jn,gsL,nthX rfl hc,qBc k (hs _ hm) hb,qBc k d256 hb,hc,qBt,hd,nthX hx hc',nthX e hr,nthX rfl hr,hne',qKv,hdd,e,this]
        exact sn (by omega)
       ·simp (disch:=omega) only [↓reduceIte,↓jn,gsL,nthX rfl hc,qBc k (hs _ hm) hb,qBc k d256 hb,hc,qBt,hd,nthX hx hc',nthX e hr,nthX rfl hr,hne',qKv,hdd]
        exact out _ rfl
     | false =>
      by_cases ha:a < i
      ·obtain ⟨c',r',hc',hr',hm',-⟩:=dcons (s:=s) (i:=i - 1) (by omega)
       have hx:(i:Int) - 1=((i - 1:Nat):Int):=by omega
       have h95':c'=95:=by
        rcases Nat.lt_or_ge c' 95 with h | h
        ·exact absurd (hp.2 ⟨ha,c',r',hc',by omega⟩) (by decide)
        ·rcases Nat.lt_or_ge 95 c' with h | h
         ·exact absurd (hp.2 ⟨ha,c',r',hc',by omega⟩) (by decide)
         ·omega
       subst h95'
       simp (disch:=omega) only [↓reduceIte,↓jn,gsL,nthX rfl hc,qBc k (hs _ hm) hb,hc,qBt,hd,nthX hx hc']
       exact out _ rfl
      ·simp (disch:=omega) only [↓reduceIte,↓jn,gsL,nthX rfl hc,qBc k (hs _ hm) hb,hc,qBt,hd]
       exact out _ rfl
    ·simp (disch:=omega) only [↓reduceIte,↓jn,gsL,nthX rfl hc,qBc k (hs _ hm) hb,hc,qBt,hd]
     exact out _ rfl
  ·simp (disch:=omega) only [↓reduceIte,↓jn,gsL,dnil hi,runN]
   congr 1; omega
theorem qIk {k:Nat} {s:LN} (hk:s.length < k) (hs:By s) (hl:Sz s) {b:Nat} (hb:b≤99) {a:Nat} (ha:a≤s.length):g39 k s (a:Int) (b:Int) true=some ((runN b false (s.drop a):Nat):Int):=by
 have:=rrun_l k hs hl hb a k a (by omega) ha (Nat.le_refl _) false ⟨λh=>(by cases h),λ⟨h,_⟩=>absurd h (Nat.lt_irrefl _)⟩
 rw [Nat.sub_self,Nat.zero_add] at this
 exact this
theorem rbar_l (k : Nat) {s : LN} (hs : By s) (hl : Sz s) (a : Nat) : ∀ (f i : Nat), s.length < i + f → i ≤ s.length → a ≤ i →
 qF3 k s (a:Int) 10 false f (i:Int)=some ((i - a+barN 10 (s.drop i):Nat):Int)
 | 0,i,h,h2,h3=>by omega
 | f+1,i,h,h2,h3=>by
  unfold Sz at hl
  rw [qLv]
  rcases Nat.lt_or_ge i s.length with hi | hi
  ·obtain ⟨c,r,hc,hr,hm,hrl⟩:=dcons hi
   have ih:=rbar_l k hs hl a f (i+1) (by omega) (by omega) (by omega)
   rw [hr] at ih
   have e:((i:Int)+1)=((i+1:Nat):Int):=by push_cast; rfl
   have v:=qBc k (b:=10) (hs c hm) (by decide)
   have v:g52 k (c:Int) 10=some (if dgN c < 10 then ((dgN c:Nat):Int) else -1):=v
   by_cases hd:dgN c < 10
   ·simp (disch:=omega) only [↓reduceIte,↓jn,gsL,nthX rfl hc,v,hc,barN,hd,e,ih]
    exact sn (by omega)
   ·simp (disch:=omega) only [↓reduceIte,↓jn,gsL,nthX rfl hc,v,hc,barN,hd]
    congr 1; omega
  ·simp (disch:=omega) only [↓reduceIte,↓jn,gsL,dnil hi,barN]
   congr 1; omega
theorem rbar_at {k:Nat} {s:LN} (hk:s.length < k) (hs:By s) (hl:Sz s) {a:Nat} (ha:a≤s.length):g39 k s (a:Int) 10 false=some ((barN 10 (s.drop a):Nat):Int):=by
 have:=rbar_l k hs hl a k a (by omega) ha (Nat.le_refl _)
 rw [Nat.sub_self,Nat.zero_add] at this
 exact this
end Go.Proofs.Ytjmmjhojbodbdaa.Am
set_option maxRecDepth 100000
set_option linter.unusedVariables false
namespace Go.Proofs.Ytjmmjhojbodbdaa.Am
noncomputable section
open Go
def Xg32:Fx Int:=⟨Try.prog,cx,Try.f32,λr => .i r,0,λ_=>H0,cxTi,cxOrd,λ_=>none,false⟩
def g32p1:Pt:=nav [0,0,0] (nav [0] (bodyAt Try.f32))
def g32p2:Pt:=nav [0,0,0] g32p1
def g32p3:Pt:=nav [0,0,0,0] g32p2
def g32p4:Pt:=nav [0,0] g32p3
def g32p6:Pt:=nav [2,0,0] g32p4
def g32p9:Pt:=nav [0,0,0,0] (nav [0,0,0,0] (nav [1,0] g32p4))
def g32p11:Pt:=nav [0,0] (nav [0,0,0] g32p9)
def g32p12:Pt:=nav [1,0,0,0] g32p11
def g32p13:Pt:=nav [2,0,0] g32p11
def g32p15:Pt:=nav [0,0,0] g32p13
def g32p16:Pt:=nav [0,0] g32p15
def qJo (k:Nat) (o:Unit→Option Int) (l:LN) (m:Int) (n:Int) (b:Int) (ih:Int→Int→Option Int):Int→Int→Option Int :=
 λ(a:Int) (c:Int)=>if (decide (c < fW .i64 (m+b))) then ((nthS l c).bind λh=>ih (fW .i64 (fW .i64 (a * 10)+fW .i64 (fW .u8 (h - 48)))) (fW .i64 (c+1))) else ((g39 k l (fW .i64 (fW .i64 (m+b)+1)) a true).bind λg=>jn (λ(q:Bool)=>if q then (some (fW .i64 (fW .i64 (b+1)+g))) else (o ())) (λj=>if (decide (2≤a)) then (if (decide (a≤36)) then (j (decide (0 < g))) else (j false)) else (j false)))
def qE5 (k:Nat) (c:Unit→Option Int) (g:LN) (h:Int) (a:Int) (b:Int) (n:Nat):Int→Int→Option Int:=lp (λ_ _=>none) (qJo k c g h a b) n
theorem qLw (k:Nat) (o:Unit→Option Int) (l:LN) (m:Int) (g:Int) (a:Int) (n:Nat) (b:Int) (c:Int):qE5 k o l m g a (n+1) b c=(if (decide (c < fW .i64 (m+a))) then ((nthS l c).bind λj=>(qE5 k o l m g a n) (fW .i64 (fW .i64 (b * 10)+fW .i64 (fW .u8 (j - 48)))) (fW .i64 (c+1))) else ((g39 k l (fW .i64 (fW .i64 (m+a)+1)) b true).bind λh=>jn (λ(r:Bool)=>if r then (some (fW .i64 (fW .i64 (a+1)+h))) else (o ())) (λq=>if (decide (2≤b)) then (if (decide (b≤36)) then (q (decide (0 < h))) else (q false)) else (q false)))):=rfl
theorem qPs (k:Nat)  (x:Unit→Option Int) (m:LN) (l:Int) (g:Int) (b:Int) (A:∀ u:Unit,Ok Xg32 g32p6 ((λ(u:Unit)=>[(5,.i g)]) u) ((λ(u:Unit)=>(mkH [])) u) (x u)):∀ (n:Nat) (a:Int) (c:Int),Ok Xg32 g32p9 [(0,.str m),(1,.i l),(5,.i g),(6,.i b),(7,.i a),(8,.i c)] (mkH []) (qE5 k x m l g b n a c):=by
 intro n
 induction n with
 | zero=>intro a c; exact ok_none
 | succ n ih =>
  intro a c
  show Ok _ _ _ _ (qJo k x m l g b (qE5 k x m l g b n) a c)
  unfold qJo
  refine qAk (p':=nav [0] g32p9) Kr ?_
  let B:Env:=[(43,.bool (decide (c < fW .i64 (l+b)))),(42,.i (fW .i64 (l+b))),(41,.i b),(40,.i l),(39,.i c),(0,.str m),(1,.i l),(5,.i g),(6,.i b),(7,.i a),(8,.i c)]
  refine oH 9 g32p11 B (mkH []) ?_
  refine oS 43 (λo=>?_) (λo=>?_)
  ·refine oR 9 (atN 4 (ctl1 g32p12)) ((49,.i c)::(48,.str m)::(47,.i (fW .i64 (a * 10)))::(46,.i a)::(43,.bool true)::B) ?_
   refine oC (λ(j:Int)=>(.y j,(mkH []))) (atN 5 (ctl1 g32p12)) 50 (idxH Kr) λj C=>?_
   let F:Env:=[(0,.str m),(1,.i l),(5,.i g),(6,.i b),(7,.i (fW .i64 (fW .i64 (a * 10)+fW .i64 (fW .u8 (j - 48))))),(8,.i c)]
   refine oLH 5 (nav [0,0] g32p12) F (mkH []) ?_
   refine oR 5 g32p9 ((8,.i (fW .i64 (c+1)))::(45,.i (fW .i64 (c+1)))::(44,.i c)::F) ?_
   refine oK [0,1,5,6,7,8] [(0,.str m),(1,.i l),(5,.i g),(6,.i b),(7,.i (fW .i64 (fW .i64 (a * 10)+fW .i64 (fW .u8 (j - 48))))),(8,.i (fW .i64 (c+1)))] ?_
   exact ih (fW .i64 (fW .i64 (a * 10)+fW .i64 (fW .u8 (j - 48)))) (fW .i64 (c+1))
  ·refine oR 10 (atN 6 (ctl1 g32p13)) ((59,.i a)::(58,.i (fW .i64 (fW .i64 (l+b)+1)))::(57,.i (fW .i64 (l+b)))::(56,.i b)::(55,.i l)::(54,.str m)::(43,.bool false)::B) ?_
   refine oA (λ(h:Int) => .i h) (atN 7 (ctl1 g32p13)) 60 [.str m,.i (fW .i64 (fW .i64 (l+b)+1)),.i a,.bool true] (qG7 k m (fW .i64 (fW .i64 (l+b)+1)) a true) λh D=>?_
   let q:Env:=[(5,.i g),(6,.i b),(7,.i a),(9,.i h)]
   refine oL 3 g32p15 q ?_
   refine oR 4 (atN 3 (ctl1 g32p15)) ((63,.bool (decide (2≤a)))::(62,.bool (decide (2≤a)))::(61,.i a)::q) ?_
   refine oJ g32p16 (λ(E:Bool)=>[(5,.i g),(6,.i b),(9,.i h),(70,.bool E)]) (λ(E:Bool)=>(mkH [])) (λE=>?_) (λG r=>?_)
   ·refine oS 70 (λo=>?_) (λo=>?_)
    ·exact oQ 10
    ·refine oLH 3 g32p6 [(5,.i g)] (mkH []) ?_
     exact A ()
   ·refine oS 63 (λo=>?_) (λo=>?_)
    ·refine oH 4 (atN 7 (ctl1 g32p15)) ((67,.bool (decide (a≤36)))::(66,.bool (decide (a≤36)))::(65,.bool (decide (a≤36)))::(64,.i a)::(63,.bool true)::(63,.bool (decide (2≤a)))::(62,.bool (decide (2≤a)))::(61,.i a)::q) (mkH []) ?_
     refine oS 67 (λo=>?_) (λo=>?_)
     ·refine oL 4 g32p16 [(5,.i g),(6,.i b),(9,.i h),(70,.bool (decide (0 < h)))] ?_
      exact r (decide (0 < h))
     ·refine oL 4 g32p16 [(5,.i g),(6,.i b),(9,.i h),(70,.bool false)] ?_
      exact r false
    ·refine oLH 8 g32p16 [(5,.i g),(6,.i b),(9,.i h),(70,.bool false)] (mkH []) ?_
     exact r false
def g32 (k:Nat) (h:LN) (g:Int):Option Int :=
 (g39 k h g (10:Int) true).bind λb=>(g39 k h g (10:Int) false).bind λa=>jn (λ(m:Bool)=>jn (λ(n:Unit)=>some b) (λl=>if m then (qE5 k l h g b a k 0 g) else (l ()))) (λj=>if (decide (0 < a)) then (if (decide (a < 3)) then (if (decide (fW .i64 (g+a) < (h.length:Int))) then ((nthS h (fW .i64 (g+a))).bind λc=>j (decide (c=35))) else (j false)) else (j false)) else (j false))
end
end Go.Proofs.Ytjmmjhojbodbdaa.Am
