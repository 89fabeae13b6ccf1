/- LawParseEnds, part 2: whatever the input, the law comes out true: our texts, joined by a tool, without what the claim does not name. -/
import Derived.Test.YthpplbkobokghaaGreatPkParseEnds1
import Derived.KernelRfl
import Derived.Recover
import Derived.Lib.OthersKept
import Derived.Laws.RangeString
import Derived.Test.YthpplbkobokghaaGreatProg
set_option maxRecDepth 100000
set_option linter.unusedVariables false
set_option linter.unusedSimpArgs false
set_option linter.unusedVariables false
set_option linter.unusedSimpArgs false
namespace Go.Proofs.YthpplbkobokghaaGreat.Am
open Go
theorem RW.still {m:Mp} {H:Hp} {w:World} {base:Nat} (h:RW m H w base):RW m.still H0 w w.heap.size where
 blk:=by intro r b v B N a hm; cases hm
 dom:=by intro r v B N hm; cases hm
 sep:=by intro r v B N r' v' N' hm; cases hm
 fresh:=by intro r _; rfl
 vle:=by intro r v B N hm; cases hm
 frz:=h.frz
 fsep:=by intro i B cells r v N b _ hm; cases hm
 ffin:=h.ffin
 base_le:=Nat.le_refl _
 low:=by show 0≤roots; unfold roots; omega
def PureOk (P:Program) (f:Nat) (xs:List AV) (v:AV):Prop :=
 (∀ (m0:Mp) (w:World) (args:Array Value),(∀ r v,m0 r v=none)→VRs m0 xs args.toList→RW m0 H0 w w.heap.size→Calls P f args w λx w' => ∃ m' c,x = .returned c∧RW m' H0 w' w.heap.size∧St m0 w w.heap.size m' w'∧VR m' v c) ∧
 (∃ fn,P.funcs[f]? = some fn∧(fn.name == "runtime.NumGoroutine")=false∧fn.body.isSome=true)
theorem qFu {P:Program} {f:Nat} {xs:List AV} {v:AV} (h:PureOk P f xs v) (o:purs xs=true) (hv:pur v=true) (H:Hp):CallV P f xs H v H:=by
 refine ⟨?_,h.2⟩
 intro m w base args hargs rw
 refine Calls.mono (h.1 m.still w args (λ_ _=>rfl) (qBd _ _ o hargs) rw.still) ?_
 rintro x w' ⟨m',c,rfl,rw',st',hvc⟩
 have hnone:∀ r v,m' r v=none:=by
  intro r v
  cases e:m' r v with
  | none=>rfl
  | some p =>
   obtain ⟨b,a,_⟩:=rw'.dom r v p.1 p.2 e
   cases a
 have hsame:∀ B,B < w.heap.size→w'.heap[B]? = w.heap[B]? := λB hB=>st'.same B hB (λ_ _ _ hm=>by cases hm)
 have hsub:Sub m ⟨m.map,m'.froz⟩:=⟨λ_ _ _ h=>h,st'.sub.2⟩
 refine ⟨⟨m.map,m'.froz⟩,c,rfl,⟨?_,?_,rw.sep,rw.fresh,rw.vle,rw'.frz,?_,rw'.ffin,Nat.le_trans rw.base_le st'.size,rw.low⟩,⟨hsub,λr v B N e => .inl ⟨v,N,e⟩,?_,st'.size,st'.os,st'.tape,st'.output,λB hB _=>hsame B hB⟩,?_⟩
 ·intro r b v B N a hm g q
  obtain ⟨cs,ty,fr,j,k,l,n,u⟩:=rw.blk r b v B N a hm g q
  obtain ⟨_,_,_,hlt,_⟩:=rw.dom r v B N hm
  exact ⟨cs,ty,fr,by rw [hsame B hlt]; exact j,k,l,n,VRs.mono hsub _ _ u⟩
 ·intro r v B N hm
  obtain ⟨b,j,k,l,n⟩:=rw.dom r v B N hm
  exact ⟨b,j,k,Nat.lt_of_lt_of_le l st'.size,n⟩
 ·intro i B cells r v N b hi hm a
  rcases st'.fext i B cells hi with hi' | ⟨hB,_⟩
  ·exact rw.fsep i B cells r v N b hi' hm a
  ·obtain ⟨_,_,_,hlt,_⟩:=rw.dom r v B N hm
   omega
 ·intro i B cells e
  rcases st'.fext i B cells e with hi' | ⟨hB,_⟩
  ·exact .inl hi'
  ·exact .inr ⟨Nat.le_trans rw.base_le hB,.inr hB⟩
 ·have g:=qIx v c hv hvc
  exact VR.mono (m:=m'.still) (m':=⟨m.map,m'.froz⟩) ⟨λ_ _ _ h=>(by cases h),λ_ _ h=>h⟩ v c g
inductive Fr where
 | seq (b:Code) | block (id:Nat) | loop (b:Code) | scope (b:Code)
inductive Pt where
 | code (c:Code) (K:List Fr)
 | ops (o:Array Oper) (n:Nat) (K:List Fr)
 | loop (b:Code) (K:List Fr)
 | fin
def FinK (P : Program) (Q : Exit → Act → World → Prop) : List Fr → Exit → Act → World → Prop
 | []=>Q
 | .seq b::K=>Exit.then (b.wp P (FinK P Q K)) (FinK P Q K)
 | .block id::K=>Exit.inBlock id (FinK P Q K)
 | .loop b::K=>Exit.then (LoopWp P b (FinK P Q K)) (FinK P Q K)
 | .scope b::K=>λe a w=>match e with | .goto l => ∃ rest,findLabel b l=some rest∧ScopeWp P b rest (FinK P Q K) a w | e=>FinK P Q K e a w
def At (P : Program) (Q : Exit → Act → World → Prop) : Pt → Act → World → Prop
 | .code c K,a,w=>c.wp P (FinK P Q K) a w
 | .ops o n K,a,w=>wpOps P o (FinK P Q K) (List.range' n (o.size - n)) a w
 | .loop b K,a,w=>LoopWp P b (FinK P Q K) a w
 | .fin,a,w=>Q .normal a w∧Q .ret a w
def resume : List Fr → Pt
 | [] => .fin
 | .seq b::K => .code b K
 | .block _::K=>resume K
 | .loop b::K => .loop b K
 | .scope _::K=>resume K
theorem qB3 {P : Program} {Q : Exit → Act → World → Prop} {a : Act} {w : World} : ∀ {K : List Fr}, At P Q (resume K) a w → FinK P Q K .normal a w
 | [],h=>h.1
 | .seq b::K,h=>h
 | .block id::K,h=>by show Exit.inBlock id (FinK P Q K) .normal a w; exact qB3 (K:=K) h
 | .loop b::K,h=>h
 | .scope b::K,h=>qB3 (K:=K) h
def exitK (id : Nat) : List Fr → Option Pt
 | []=>none
 | .block j::K=>if id=j then some (resume K) else exitK id K
 | .seq _::K=>exitK id K
 | .loop _::K=>exitK id K
 | .scope _::K=>exitK id K
theorem qCk {P : Program} {Q : Exit → Act → World → Prop} {a : Act} {w : World} {id : Nat} {p : Pt} : ∀ {K : List Fr}, exitK id K = some p → At P Q p a w → FinK P Q K (.exit id) a w
 | [],h,_=>by cases h
 | .seq b::K,h,k=>qCk (K:=K) h k
 | .loop b::K,h,k=>qCk (K:=K) h k
 | .scope b::K,h,k=>qCk (K:=K) h k
 | .block j::K,h,k=>by
  simp only [exitK] at h
  show Exit.inBlock j (FinK P Q K) (.exit id) a w
  simp only [Exit.inBlock]
  split at h
  ·rename_i e
   cases h
   rw [if_pos e]
   exact qB3 k
  ·rename_i e
   rw [if_neg e]
   exact qCk h k
def gotoK (l : Nat) : List Fr → Option Pt
 | []=>none
 | .scope b::K=>match findLabel b l with | some rest=>some (.code rest (.scope b::K)) | none=>none
 | .block _::K=>gotoK l K
 | .seq _::K=>gotoK l K
 | .loop _::K=>gotoK l K
theorem qEr {P:Program} {Q:Exit→Act→World→Prop} {a:Act} {w:World} {b c:Code} {K:List Fr} (h:c.wp P (FinK P Q (.scope b::K)) a w):ScopeWp P b c (FinK P Q K) a w :=
 ScopeWp.of (wp_mono h λe g j he=>by cases e <;> exact he)
theorem qD {P : Program} {Q : Exit → Act → World → Prop} {a : Act} {w : World} {l : Nat} {p : Pt} : ∀ {K : List Fr}, gotoK l K = some p → At P Q p a w → FinK P Q K (.goto l) a w
 | [],h,_=>by cases h
 | .seq b::K,h,k=>qD (K:=K) h k
 | .loop b::K,h,k=>qD (K:=K) h k
 | .block b::K,h,k=>qD (K:=K) h k
 | .scope b::K,h,k=>by
  simp only [gotoK] at h
  split at h
  ·rename_i rest hf
   cases h
   exact ⟨rest,hf,qEr k⟩
  ·cases h
theorem qD5 {P : Program} {Q : Exit → Act → World → Prop} {a : Act} {w : World} (h : Q .ret a w) : ∀ (K : List Fr), FinK P Q K .ret a w
 | []=>h
 | .seq b::K=>qD5 h K
 | .loop b::K=>qD5 h K
 | .block b::K=>qD5 h K
 | .scope b::K=>qD5 h K
inductive FzG (n0:Nat) (H:Hp):List AV→List AV→Prop where
 | pures {xs}:purs xs=true→FzG n0 H xs xs
 | cons {x xs ys}:pur x=true→FzG n0 H xs ys→FzG n0 H (x::xs) (x::ys)
 | nil {sz xs ys}:FzG n0 H xs ys→FzG n0 H (.nils::xs) (.vec 0 sz []::ys)
 | own {r len sz cells cells' minv xs ys}:Nat.ble n0 r=true→H.t.get r=some ⟨cells,minv,false⟩→cells.length=len * sz→minv≤len * sz→FzG n0 H cells cells'→FzG n0 H xs ys→FzG n0 H (.own r len sz::xs) (.vec len sz cells'::ys)
 | slice {r len sz v cells cells' minv xs ys}:Nat.ble n0 r=true→H.t.get r=some ⟨cells,minv,false⟩→cells.length=len * sz→v=len * sz→minv≤len * sz→FzG n0 H cells cells'→FzG n0 H xs ys→FzG n0 H (.slice r v 0 len sz::xs) (.vec len sz cells'::ys)
 | agg {xs ys zs us}:FzG n0 H xs ys→FzG n0 H zs us→FzG n0 H (.agg xs::zs) (.agg ys::us)
 | tuple {xs ys zs us}:FzG n0 H xs ys→FzG n0 H zs us→FzG n0 H (.tuple xs::zs) (.tuple ys::us)
structure FOk (n0:Nat) (m:Mp) (F:Nat→Option (Nat×List AV)) (w:World) (base:Nat):Prop where
 ok:∀ i B cells,F i=some (B,cells)→∃ cs ty fr,w.heap[B]? = some (.cells cs ty fr)∧cells.length≤cs.size∧VRs ⟨λ_ _=>none,F⟩ cells (cs.toList.take cells.length)
 fin:∃ n,∀ i,n≤i→F i=none
 new:∀ i B cells,F i=some (B,cells)→m.froz i=some (B,cells)∨base≤B∧∃ r v N,n0≤r∧m r v=some (B,N)
 sub:∀ i p,m.froz i=some p→F i=some p
theorem FzG.length {n0:Nat} {H:Hp} {xs ys:List AV} (h:FzG n0 H xs ys):ys.length=xs.length:=by
 induction h <;> simp_all
theorem qIi {n0 : Nat} {m : Mp} {F : Nat → Option (Nat × List AV)} {w : World} {base B : Nat} {cells : List AV} {cs : Array Value} {ty : TypeId} {fr : Nat × Nat} (h : FOk n0 m F w base) (hB : base ≤ B) (hmB : ∃ r v N, n0 ≤ r ∧ m r v = some (B, N)) (hw : w.heap[B]? = some (.cells cs ty fr)) (hl : cells.length ≤ cs.size) (hv : VRs ⟨λ_ _ => none, F⟩ cells (cs.toList.take cells.length)) :
 ∃ F' i,FOk n0 m F' w base∧F' i=some (B,cells)∧(∀ i p,F i=some p→F' i=some p):=by
 obtain ⟨n,g⟩:=h.fin
 have hsub:∀ i p,F i=some p→(λi=>if i=n then some (B,cells) else F i) i=some p:=by
  intro i p hi
  simp only
  rw [if_neg]
  ·exact hi
  ·rintro rfl; rw [g _ (Nat.le_refl _)] at hi; cases hi
 have hS:Sub ⟨λ_ _=>none,F⟩ ⟨λ_ _=>none,λi=>if i=n then some (B,cells) else F i⟩:=⟨λ_ _ _ e=>(by cases e),hsub⟩
 refine ⟨λi=>if i=n then some (B,cells) else F i,n,⟨?_,⟨n+1,λi hi=>?_⟩,?_,λi p hi=>hsub i p (h.sub i p hi)⟩,by simp,hsub⟩
 ·intro i B' cells' hi
  by_cases e:i=n
  ·simp only [e,if_true] at hi
   cases hi
   exact ⟨cs,ty,fr,hw,hl,VRs.mono hS _ _ hv⟩
  ·simp only [e,if_false] at hi
   obtain ⟨a,b,c,j,k,l⟩:=h.ok i B' cells' hi
   exact ⟨a,b,c,j,k,VRs.mono hS _ _ l⟩
 ·have hne:¬ i=n:=by omega
  show (if i=n then some (B,cells) else F i)=none
  rw [if_neg hne]
  exact g i (by omega)
 ·intro i B' cells' hi
  by_cases e:i=n
  ·simp only [e,if_true] at hi
   cases hi
   exact .inr ⟨hB,hmB⟩
  ·simp only [e,if_false] at hi
   exact h.new i B' cells' hi
theorem qCq (m:Mp) (sz:Nat):VR m (.vec 0 sz []) (.slice none 0 0):=by
 simp only [VR]
 exact ⟨by simp,none,0,rfl,Nat.le_refl _,by simp,by simp⟩
theorem fz_ok {n0:Nat} {m:Mp} {H:Hp} {w:World} {base:Nat} (rw:RW m H w base) {xs ys:List AV} (h:FzG n0 H xs ys):∀ {cs:List Value} {F:Nat→Option (Nat×List AV)},FOk n0 m F w base→VRs m xs cs→∃ F',FOk n0 m F' w base∧(∀ i p,F i=some p→F' i=some p)∧VRs ⟨λ_ _=>none,F'⟩ ys cs:=by
 have still:∀ {F:Nat→Option (Nat×List AV)},FOk n0 m F w base→Sub m.still ⟨λ_ _=>none,F⟩:=λa=>⟨λ_ _ _ e=>(by cases e),a.sub⟩
 have grow:∀ {F F':Nat→Option (Nat×List AV)},(∀ i p,F i=some p→F' i=some p)→Sub ⟨λ_ _=>none,F⟩ ⟨λ_ _=>none,F'⟩:=λh=>⟨λ_ _ _ e=>(by cases e),h⟩
 have block : ∀ {r len sz minv cap B N : Nat} {cells cells' : List AV}, Nat.ble n0 r = true → H.t.get r = some ⟨cells, minv, false⟩ → cells.length = len * sz → minv ≤ len * sz → cells'.length = cells.length →
  (∀ {cs:List Value} {F:Nat→Option (Nat×List AV)},FOk n0 m F w base→VRs m cells cs→∃ F',FOk n0 m F' w base∧(∀ i p,F i=some p→F' i=some p)∧VRs ⟨λ_ _=>none,F'⟩ cells' cs) →
  ∀ {F:Nat→Option (Nat×List AV)},FOk n0 m F w base→m r (len * sz)=some (B,N)→len≤cap→∃ F',FOk n0 m F' w base∧(∀ i p,F i=some p→F' i=some p)∧VR ⟨λ_ _=>none,F'⟩ (.vec len sz cells') (.slice (some ⟨B,0,none⟩) len cap):=by
  intro r len sz minv cap B N cells cells' h0r q hl hmin hl' ih F a hm hcap
  obtain ⟨cs,ty,fr,C,I,J,K,z⟩:=rw.blk _ _ _ _ _ q hm hmin (by rw [hl]; exact Nat.le_refl _)
  obtain ⟨L,u,_,_,hbase⟩:=rw.dom _ _ _ _ hm
  rw [q] at u
  cases u
  simp only at z
  rw [List.take_of_length_le (by omega)] at z
  obtain ⟨x,g,n,D⟩:=ih a z
  obtain ⟨E,i,j,k,g3⟩:=qIi g (hbase rfl) ⟨r,_,_,Nat.le_of_ble_eq_true h0r,hm⟩ C (cells:=cells') (by omega) (by rw [hl',hl]; exact D)
  refine ⟨E,j,λi p hi=>g3 i p (n i p hi),?_⟩
  simp only [VR]
  refine ⟨by omega,_,cap,rfl,hcap,λe=>(by cases e),λ_=>⟨i,B,0,cells',k,rfl,?_,by omega⟩⟩
  rw [List.drop_zero,List.take_of_length_le (by omega)]
 induction h with
 | pures hp =>
  intro cs F a hv
  exact ⟨F,a,λ_ _ h=>h,VRs.mono (still a) _ _ (qBd _ _ hp hv)⟩
 | cons hp _ ih =>
  intro cs F a hv
  simp only [VRs] at hv ⊢
  obtain ⟨y,ys,rfl,g,n⟩:=hv
  obtain ⟨F',j,k,g3⟩:=ih a n
  exact ⟨F',j,k,y,ys,rfl,VR.mono (still j) _ _ (qIx _ _ hp g),g3⟩
 | nil _ ih =>
  intro cs F a hv
  simp only [VRs] at hv ⊢
  obtain ⟨y,ys,rfl,g,n⟩:=hv
  obtain ⟨F',j,k,g3⟩:=ih a n
  simp only [VR] at g
  subst g
  exact ⟨F',j,k,_,ys,rfl,qCq _ _,g3⟩
 | @own r len sz cells cells' minv xs ys h0r q hl hmin hc _ l b =>
  intro cs F a hv
  simp only [VRs] at hv
  obtain ⟨c,cs',rfl,g,n⟩:=hv
  simp only [VR] at g
  rcases g with ⟨G,rfl⟩ | ⟨B,N,cap,hm,hcap,hN,rfl⟩
  ·obtain ⟨F',j,k,g3⟩:=b a n
   refine ⟨F',j,k,?_⟩
   subst G
   obtain rfl:cells'=[]:=List.length_eq_zero_iff.1 (by rw [hc.length]; omega)
   simp only [VRs]
   exact ⟨_,_,rfl,qCq _ _,g3⟩
  ·obtain ⟨x,j,k,g3⟩:=block h0r q hl hmin hc.length l a hm hcap
   obtain ⟨F',o,e2,e3⟩:=b j n
   refine ⟨F',o,λi p hi=>e2 i p (k i p hi),?_⟩
   simp only [VRs]
   exact ⟨_,_,rfl,VR.mono (grow e2) _ _ g3,e3⟩
 | @slice r len sz v cells cells' minv xs ys h0r q hl A hmin hc _ l b =>
  intro cs F a hv
  simp only [VRs] at hv
  obtain ⟨c,cs',rfl,g,n⟩:=hv
  simp only [VR] at g
  obtain ⟨B,N,cap,hm,_,hcap,hN,rfl⟩:=g
  subst A
  obtain ⟨x,j,k,g3⟩:=block h0r q hl hmin hc.length l a hm hcap
  obtain ⟨F',o,e2,e3⟩:=b j n
  refine ⟨F',o,λi p hi=>e2 i p (k i p hi),?_⟩
  simp only [VRs]
  exact ⟨_,_,rfl,VR.mono (grow e2) _ _ g3,e3⟩
 | agg _ _ l b =>
  intro cs F a hv
  simp only [VRs,VR] at hv ⊢
  obtain ⟨c,cs',rfl,⟨zs,rfl,g⟩,n⟩:=hv
  obtain ⟨x,j,k,g3⟩:=l a g
  obtain ⟨F',o,e2,e3⟩:=b j n
  exact ⟨F',o,λi p hi=>e2 i p (k i p hi),_,_,rfl,⟨zs,rfl,VRs.mono (grow e2) _ _ g3⟩,e3⟩
 | tuple _ _ l b =>
  intro cs F a hv
  simp only [VRs,VR] at hv ⊢
  obtain ⟨c,cs',rfl,⟨zs,rfl,g⟩,n⟩:=hv
  obtain ⟨x,j,k,g3⟩:=l a g
  obtain ⟨F',o,e2,e3⟩:=b j n
  exact ⟨F',o,λi p hi=>e2 i p (k i p hi),_,_,rfl,⟨zs,rfl,VRs.mono (grow e2) _ _ g3⟩,e3⟩
structure Fx (R:Type) where
 P:Program
 C:Cx
 fn:Func
 enc:R→AV
 n0:Nat
 fin:R→Hp
 hti:∀ t i,C.ti t=some i→mkTi P t=some i
 ord:P.follows .mixedOrders=true
 thr:R→Option (Value×LN)
 dfs:Bool
section
variable {R:Type} (X:Fx R)
def Ret (r:R) (m0:Mp) (a:World) (b:Nat):Exit→Act→World→Prop :=
 match X.dfs with
 | true=>bodyPostD X.P X.fn (EndT (X.thr r) (X.enc r) (X.fin r) m0 a b)
 | false=>bodyPost X.P X.fn (EndT (X.thr r) (X.enc r) (X.fin r) m0 a b)
theorem qEt {X:Fx R} {r:R} {m0:Mp} {b:World} {g:Nat} {a:Act} {w:World} {c:Value} (hd:a.defers=[]) (h:(results X.fn a.tmps).run X.P w = .ok c w) (j:EndT (X.thr r) (X.enc r) (X.fin r) m0 b g (.returned c) w):Ret X r m0 b g .normal a w∧Ret X r m0 b g .ret a w:=by
 have:Leaves X.P X.fn a.tmps (EndT (X.thr r) (X.enc r) (X.fin r) m0 b g) a.defers .returning w:=by rw [hd]; exact ⟨c,h,j⟩
 unfold Ret
 cases X.dfs
 ·exact ⟨⟨hd,c,h,j⟩,⟨hd,c,h,j⟩⟩
 ·exact ⟨this,this⟩
theorem qLd {X:Fx R} {r:R} {m0:Mp} {b:World} {c:Nat} {a:Act} {w:World} {ch:List PanicEntry} (hd:a.defers=[]) (g:EndT (X.thr r) (X.enc r) (X.fin r) m0 b c (.panicked ch) w):Ret X r m0 b c (.panic ch) a w:=by
 have:Leaves X.P X.fn a.tmps (EndT (X.thr r) (X.enc r) (X.fin r) m0 b c) a.defers (.panicking ch) w:=by rw [hd]; exact g
 unfold Ret
 cases X.dfs
 ·exact ⟨hd,g⟩
 ·exact this
theorem qFt {X:Fx R} {r:R} {m0:Mp} {a:World} {b:Nat} {f:Nat} {c:Code} {args:Array Value} {w:World} (hf:X.P.funcs[f]? = some X.fn) (hc:X.fn.body=some c) (h:c.wp X.P (Ret X r m0 a b) { tmps:=args++Array.replicate (X.fn.ntmps - args.size) undef,defers:=[] } w):Calls X.P f args w (EndT (X.thr r) (X.enc r) (X.fin r) m0 a b):=by
 unfold Ret at h
 cases hd:X.dfs with
 | true=>rw [hd] at h; exact calls_of_wp_defers hf hc h
 | false=>rw [hd] at h; exact calls_of_wp hf hc h
def Ok (p:Pt) (env:Env) (H:Hp) (t:Option R):Prop := ∀ r,t=some r→∀ (m0:Mp) (c:World) (b:Nat) (m:Mp) (w:World) (a:Act),((∀ r v p,m0 r v=some p→r < X.n0)∧b≤c.heap.size)→FR m env a.tmps→X.fn.ntmps≤a.tmps.size→a.defers=[]→RW m H w b→St m0 c b m w→At X.P (Ret X r m0 c b) p a w
end
section
variable {R:Type} {X:Fx R} {p p':Pt} {env eE:Env} {H H':Hp}
theorem ok_none:Ok X p env H none:=by intro r h; cases h
theorem qA7 {α:Type} {m:Option α} {f:α→Option R} (h:∀ x,m=some x→Ok X p env H (f x)):Ok X p env H (m.bind f):=by
 intro r hr
 cases hm:m with
 | none=>rw [hm] at hr; cases hr
 | some x=>rw [hm] at hr; exact h x hm r hr
theorem qDt {t:Option R} (h:Less env eE) (k:Ok X p eE H t):Ok X p env H t :=
 λr hr m0 b c m w a g fr j hd rw st=>k r hr m0 b c m w a g (fr.less h) j hd rw st
theorem qGx {t:Option R} (ks:LN) (h:keepOnly env ks=eE) (k:Ok X p eE H t):Ok X p env H t :=
 qDt (h ▸ qBl ks env) k
theorem ok_heap {t:Option R} (h:H=H') (k:Ok X p env H' t):Ok X p env H t:=h ▸ k
theorem qA1 {t:Option R} (h:env=eE) (k:Ok X p eE H t):Ok X p env H t:=h ▸ k
theorem qF3 {d:Nat} {v:AV} (h:look env d=v):Less env (putE env d v):=by
 intro t
 rw [qBb]
 split
 ·rename_i e; subst e; exact .inr h.symm
 ·exact .inr rfl
theorem ok_split {a c:Option R} (d:Nat) {b:Bool} (h:look env d = .bool b) (g:b=true→Ok X p ((d,.bool true)::env) H a) (j:b=false→Ok X p ((d,.bool false)::env) H c):Ok X p env H (if b then a else c):=by
 cases b with
 | true=>exact qDt (qF3 h) (g rfl)
 | false=>exact qDt (qF3 h) (j rfl)
abbrev jn {α R:Type} (f:α→Option R) (b:(α→Option R)→Option R):Option R:=b f
theorem oJ {α:Type} {f:α→Option R} {b:(α→Option R)→Option R} (pj:Pt) (E:α→Env) (G:α→Hp) (a:∀ x,Ok X pj (E x) (G x) (f x)) (c:∀ j:α→Option R,(∀ x,Ok X pj (E x) (G x) (j x))→Ok X p env H (b j)):Ok X p env H (jn f b):=c f a
theorem qG5 {t:Option R} {ops:Array Oper} {n:Nat} {K:List Fr} {o:Oper} {v:AV} (ho:ops[n]? = some o) (hd:dstOk X.fn.ntmps o=true) (hw:wantedV o ops.toList env=some true) (hs:Stp X.P X.C env H o v H') (k:Ok X (.ops ops (n+1) K) (putV env o.dst v) H' t):Ok X (.ops ops n K) env H t:=by
 intro r hr m0 h j m w a b fr l hdf rw st
 show wpOps X.P ops _ (List.range' n (ops.size - n)) a w
 have hlt:n < ops.size:=(Array.getElem?_eq_some_iff.1 ho).1
 rw [show ops.size - n=(ops.size - (n+1))+1 by omega,List.range'_succ]
 simp only [wpOps,ho]
 rw [qB8 hw fr]
 simp only [if_true]
 refine .inl ?_
 refine qL6 X.hti hs fr rw _ _ λm' w' c q g u=>?_
 obtain ⟨f1,f2,f3⟩:=qBm (fr.mono g.sub) l hdf o hd v c u
 exact k r hr m0 h j m' w' _ b f1 f2 f3 q (st.trans b.2 g)
theorem ok_skp {t:Option R} {ops:Array Oper} {n:Nat} {K:List Fr} {o:Oper} (ho:ops[n]? = some o) (hd:dstOk X.fn.ntmps o=true) (hw:wantedV o ops.toList env=some false) (k:Ok X (.ops ops (n+1) K) (putV env o.dst (.tuple [])) H t):Ok X (.ops ops n K) env H t:=by
 intro r hr m0 b c m w a g fr h hdf rw st
 show wpOps X.P ops _ (List.range' n (ops.size - n)) a w
 have hlt:n < ops.size:=(Array.getElem?_eq_some_iff.1 ho).1
 rw [show ops.size - n=(ops.size - (n+1))+1 by omega,List.range'_succ]
 simp only [wpOps,ho]
 rw [qB8 hw fr]
 simp only [Bool.false_eq_true,if_false]
 obtain ⟨f1,f2,f3⟩:=qBm fr h hdf o hd (.tuple []) undef (qFp _)
 exact k r hr m0 b c m w _ g f1 f2 f3 rw st
theorem qDu {t:Option R} (h:∀ (Q:Exit→Act→World→Prop) (a:Act) (w:World),True→At X.P Q p' a w→At X.P Q p a w) (k:Ok X p' env H t):Ok X p env H t :=
 λr hr m0 b c m w a g fr j hd rw st=>h _ a w trivial (k r hr m0 b c m w a g fr j hd rw st)
end
section
variable {R:Type} {X:Fx R} {p p':Pt} {env eE:Env} {H H':Hp}
noncomputable def stepV (C:Cx) (n:Nat) (p:Pt) (env:Env) (H:Hp):Option (Pt×Env×Hp) :=
 match p with
 | .ops ops k K=>match nth ops.toList k with
  | some o=>bif dstOk n o then (match wantedV o ops.toList env with
   | some true=>(match opV C env H o with | some (v,H')=>some (.ops ops (k+1) K,putV env o.dst v,H') | none=>none)
   | some false=>some (.ops ops (k+1) K,putV env o.dst (.tuple []),H)
   | none=>none) else none
  | none=>some (resume K,env,H)
 | .code c K=>match c with
  | .seq a b=>some (.code a (.seq b::K),env,H)
  | .skip=>some (resume K,env,H)
  | .label _=>some (resume K,env,H)
  | .block id b=>some (.code b (.block id::K),env,H)
  | .scope b=>some (.code b (.scope b::K),env,H)
  | .loop b=>some (.loop b K,env,H)
  | .exit id=>match exitK id K with | some q=>some (q,env,H) | none=>none
  | .goto l=>match gotoK l K with | some q=>some (q,env,H) | none=>none
  | .ret=>some (.fin,env,H)
  | .region id ops draw=>bif draw then none else some (.ops ops 0 K,env,H)
  | .cond c x y=>match opnd env c with | .bool b=>some (.code (bif b then x else y) K,env,H) | _=>none
  | _=>none
 | _=>none
theorem fin_ops {t:Option R} {ops:Array Oper} {n:Nat} {K:List Fr} (h:ops[n]? = none) (k:Ok X (resume K) env H t):Ok X (.ops ops n K) env H t:=by
 intro r hr m0 c g m w a j fr l hd rw st
 show wpOps X.P ops _ (List.range' n (ops.size - n)) a w
 have hle:ops.size≤n:=by
  rcases Nat.lt_or_ge n ops.size with b | b
  ·rw [Array.getElem?_eq_getElem b] at h; cases h
  ·exact b
 rw [show ops.size - n=0 by omega]
 exact qB3 (k r hr m0 c g m w a j fr l hd rw st)
theorem stepV_ok {t:Option R} (h:stepV X.C X.fn.ntmps p env H=some (p',eE,H')) (k:Ok X p' eE H' t):Ok X p env H t:=by
 cases p with
 | ops ops n K =>
  simp only [stepV] at h
  rw [qCb,Array.getElem?_toList] at h
  cases ho:ops[n]? with
  | none=>rw [ho] at h; cases h; exact fin_ops ho k
  | some o =>
   rw [ho] at h
   simp only at h
   cases hd:dstOk X.fn.ntmps o with
   | false=>rw [hd] at h; cases h
   | true =>
    rw [hd] at h
    simp only [cond_true] at h
    split at h
    ·rename_i hw
     split at h
     ·rename_i v B hv
      cases h
      exact qG5 ho hd hw (.inl hv) k
     ·cases h
    ·rename_i hw
     cases h
     exact ok_skp ho hd hw k
    ·cases h
 | code c K =>
  cases c <;> simp only [stepV] at h
  case seq x y=>cases h; exact qDu (p' := .code x (.seq y::K)) (λQ a w _ hh=>wp_seq (wp_mono hh λe a w he=>by cases e <;> exact he)) k
  case skip=>cases h; exact qDu (λQ a w _ hh=>wp_skip (qB3 hh)) k
  case label=>cases h; exact qDu (λQ a w _ hh=>wp_label (qB3 hh)) k
  case block id b=>cases h; exact qDu (p' := .code b (.block id::K)) (λQ a w _ hh=>wp_block hh) k
  case scope b=>cases h; exact qDu (p' := .code b (.scope b::K)) (λQ a w _ hh=>(qEr hh).wp) k
  case loop b=>cases h; exact qDu (p' := .loop _ _) (λQ a w _ hh=>LoopWp.wp hh) k
  case exit id =>
   split at h
   ·rename_i q hq
    cases h
    exact qDu (λQ a w _ hh=>wp_exit (qCk hq hh)) k
   ·cases h
  case goto l =>
   split at h
   ·rename_i q hq
    cases h
    exact qDu (λQ a w _ hh=>wp_goto (qD hq hh)) k
   ·cases h
  case ret=>cases h; exact qDu (p' := .fin) (λQ a w _ hh=>wp_ret (qD5 hh.2 K)) k
  case region id ops draw =>
   cases draw with
   | true=>cases h
   | false =>
    cases h
    refine qDu (λQ a w _ hh=>wp_region ?_) k
    have hh':wpOps X.P ops (FinK X.P Q K) (List.range' 0 (ops.size - 0)) a w:=hh
    rw [List.range_eq_range']
    exact hh'
  case cond c x y =>
   split at h
   ·rename_i b g
    cases h
    intro r hr m0 j u m w a z fr A hd rw st
    have hc:=qC3 fr c
    rw [g] at hc
    simp only [VR] at hc
    refine wp_cond hc ?_
    have:=k r hr m0 j u m w a z fr A hd rw st
    cases b <;> exact this
   ·cases h
  all_goals cases h
 | loop b K=>cases h
 | fin=>cases h
noncomputable def runV (C:Cx) (n:Nat) (k:Nat):Pt→Env→Hp→Option (Pt×Env×Hp) :=
 Nat.rec (motive := λ_ => Pt → Env → Hp → Option (Pt × Env × Hp)) (λp env H => some (p, env, H))
  (λ_ ih p env H=>match stepV C n p env H with | some (p',eE,H')=>ih p' eE H' | none=>none) k
theorem qEa {t : Option R} : ∀ (k : Nat) {p : Pt} {env : Env} {H : Hp}, runV X.C X.fn.ntmps k p env H = some (p', eE, H') → Ok X p' eE H' t → Ok X p env H t
 | 0,p,env,H,h,g=>by
  have h':some (p,env,H)=some (p',eE,H'):=h
  cases h'
  exact g
 | k+1,p,env,H,h,g=>by
  have h':(match stepV X.C X.fn.ntmps p env H with | some (p',eE,H')=>runV X.C X.fn.ntmps k p' eE H' | none=>none)=some (p',eE,H'):=h
  split at h'
  ·rename_i a env1 b hs
   exact stepV_ok hs (qEa k h' g)
  ·cases h'
def entL : Pt → Option Pt
 | .loop b K=>some (.code b (.loop b::K))
 | _=>none
theorem qAd {t:Option R} (h:entL p=some p') (k:Ok X p' env H t):Ok X p env H t:=by
 cases p <;> simp only [entL] at h <;> cases h
 exact qDu (p' := .code _ (.loop _::_)) (λQ a w _ hh=>LoopWp.of (wp_mono hh λe a w he=>by cases e <;> exact he)) k
noncomputable def operAt (n:Nat) (p:Pt) (env:Env):Option Oper :=
 match p with
 | .ops ops k K=>match nth ops.toList k with
  | some o=>bif dstOk n o then (match wantedV o ops.toList env with | some true=>some o | _=>none) else none
  | none=>none
 | _=>none
def adv : Pt → Pt
 | .ops ops k K => .ops ops (k+1) K
 | q=>q
noncomputable def evalAt (C:Cx) (n:Nat) (p:Pt) (env:Env) (H:Hp):Option (AV×Hp) :=
 match operAt n p env with | some o=>opV C env H o | none=>none
noncomputable def advE (n:Nat) (p:Pt) (env:Env) (v:AV):Option (Pt×Env) :=
 match operAt n p env with | some o=>some (adv p,putV env o.dst v) | none=>none
noncomputable def callAt (n:Nat) (p:Pt) (env:Env):Option (Nat×List AV) :=
 match operAt n p env with
 | some o=>match o.op with
  | .call c=>match c.callee with
   | .value g=>match opnd env g with
    | .func f first caps=>some (f,first++opnds env c.args.toList++caps)
    | _=>none
   | _=>none
  | _=>none
 | none=>none
theorem qB0 {n:Nat} {o:Oper} (h:operAt n p env=some o):∃ ops k K,p = .ops ops k K∧ops[k]? = some o∧dstOk n o=true∧wantedV o ops.toList env=some true:=by
 cases p <;> simp only [operAt] at h <;> try (cases h; done)
 rename_i ops k K
 rw [qCb,Array.getElem?_toList] at h
 cases ho:ops[k]? with
 | none=>rw [ho] at h; cases h
 | some o' =>
  rw [ho] at h
  simp only at h
  cases hd:dstOk n o' with
  | false=>rw [hd] at h; cases h
  | true =>
   rw [hd] at h
   simp only [cond_true] at h
   split at h
   ·rename_i hw
    cases h
    exact ⟨ops,k,K,rfl,ho,hd,hw⟩
   ·cases h
theorem ok_val {t:Option R} {v:AV} (h:evalAt X.C X.fn.ntmps p env H=some (v,H')) (ha:advE X.fn.ntmps p env v=some (p',eE)) (k:Ok X p' eE H' t):Ok X p env H t:=by
 unfold evalAt at h
 unfold advE at ha
 cases ho:operAt X.fn.ntmps p env with
 | none=>rw [ho] at h; cases h
 | some o =>
  rw [ho] at h ha
  simp only at h ha
  cases ha
  obtain ⟨ops,n,K,rfl,a,b,c⟩:=qB0 ho
  exact qG5 a b c (.inl h) k
theorem ok_chk {α:Type} {m:Option α} {f:α→Option R} (g:α→AV×Hp) (p':Pt) (E:α→Env) (h:evalAt X.C X.fn.ntmps p env H=m.map g) (ha:∀ x,advE X.fn.ntmps p env (g x).1=some (p',E x)) (k:∀ x,m=some x→Ok X p' (E x) (g x).2 (f x)):Ok X p env H (m.bind f):=by
 refine qA7 λx a=>?_
 subst a
 exact ok_val (v:=(g x).1) (H':=(g x).2) h (ha x) (k x rfl)
theorem qLt {α:Type} {m:Option α} {f:α→Option R} {fi:Nat} {args:List AV} (g:α→AV) (p':Pt) (E:α→Env) (hc:callAt X.fn.ntmps p env=some (fi,args)) (hp:purs args=true) (hg:∀ x,pur (g x)=true) (hf:∀ x,m=some x→PureOk X.P fi args (g x)) (ha:∀ x,advE X.fn.ntmps p env (g x)=some (p',E x)) (k:∀ x,m=some x→Ok X p' (E x) H (f x)):Ok X p env H (m.bind f):=by
 refine qA7 λx a=>?_
 have hpo:=qFu (hf x a) hp (hg x) H
 have hax:=ha x
 unfold advE at hax
 unfold callAt at hc
 cases ho:operAt X.fn.ntmps p env with
 | none=>rw [ho] at hax; cases hax
 | some o =>
  rw [ho] at hax hc
  simp only [Option.some.injEq,Prod.mk.injEq] at hax hc
  obtain ⟨b,e2⟩:=hax
  obtain ⟨ops,n,K,rfl,h,j,l⟩:=qB0 ho
  have kx:=k x a
  rw [← b,← e2] at kx
  split at hc
  ·rename_i c hoc
   split at hc
   ·rename_i q hq
    split at hc
    ·rename_i fi' first caps hfv
     cases hc
     exact qG5 h j l (.inr ⟨c,q,fi,first,caps,hoc,hq,hfv,hpo⟩) kx
    ·cases hc
   ·cases hc
  ·cases hc
def drawAt : Pt → Option Pt
 | .code (.region _ _ true) K=>some (resume K)
 | _=>none
def opsAt : Pt → Array Oper
 | .code (.region _ ops _) _=>ops
 | _ => #[]
noncomputable def rdOp (C:Cx) (env:Env) (hs:List Hp) (o:Oper) (j:Nat):List (Option (AV×Hp)×Option (AV×Hp)) :=
 match nth hs j with
 | some H=>[(opV C env H o,match o.dst with | some d=>some (look env d,H) | none=>opV C env H o)]
 | none=>[]
noncomputable def rdOps (C : Cx) (env : Env) (hs : List Hp) (o : Oper) : Nat → Nat → List (Option (AV × Hp) × Option (AV × Hp))
 | _,0=>[]
 | lo,n+1=>rdOp C env hs o lo++rdOps C env hs o (lo+1) n
noncomputable def rdL (C : Cx) (D : DP) (all : List Oper) (env : Env) (hs : List Hp) : Nat → List Oper → List (Nat × Nat × Nat) → List (Option (AV × Hp) × Option (AV × Hp))
 | c,o::l,(mk,lo,hi)::pl=>(bif Nat.beq (clsS D.S o) 1 && !(mk.testBit D.tI) && !(Nat.beq lo c && Nat.beq hi c) then (match wantedV o all env with | some true=>rdOps C env hs o lo (hi+1 - lo) | _=>[]) else [])++rdL C D all env hs (bif Nat.beq (clsS D.S o) 2 then c+1 else c) l pl
 | _,_,_=>[]
theorem qIu {C : Cx} {env : Env} {hs : List Hp} {o : Oper} : ∀ (n lo j : Nat) (H : Hp), lo ≤ j → j < lo + n → hs[j]? = some H → (opV C env H o, match o.dst with | some d => some (look env d, H) | none => opV C env H o) ∈ rdOps C env hs o lo n
 | 0,lo,j,H,b,c,_=>by omega
 | n+1,lo,j,H,b,c,a=>by
  rw [rdOps,List.mem_append]
  by_cases e:lo=j
  ·subst e
   left
   unfold rdOp
   rw [qCb,a]
   simp
  ·exact .inr (qIu n (lo+1) j H (by omega) (by omega) a)
theorem rdL_at {C : Cx} {D : DP} {all : List Oper} {env : Env} {hs : List Hp} : ∀ (l : List Oper) (pl : List (Nat × Nat × Nat)) (c i : Nat) (o : Oper) (mk lo hi : Nat), l[i]? = some o → pl[i]? = some (mk, lo, hi) → mk.testBit D.tI = false → clsS D.S o = 1 → wantedV o all env = some true → ¬ (lo = c + (l.take i).countP (λp => Nat.beq (clsS D.S p) 2) ∧ hi = c + (l.take i).countP (λp => Nat.beq (clsS D.S p) 2)) → ∀ j, lo ≤ j → j ≤ hi → ∀ H, hs[j]? = some H → (opV C env H o, match o.dst with | some d => some (look env d, H) | none => opV C env H o) ∈ rdL C D all env hs c l pl
 | [],pl,c,i,o,mk,lo,hi,ho,_,_,_,_,_,j,_,_,H,_=>by simp at ho
 | p::l,[],c,i,o,mk,lo,hi,ho,hp,_,_,_,_,j,_,_,H,_=>by simp at hp
 | p::l,(mk0,b,g)::pl,c,i,o,mk,lo,hi,ho,hp,hmk,hc,hw,k,j,m,q,H,hj=>by
  rw [rdL,List.mem_append]
  cases i with
  | zero =>
   simp at ho hp
   subst ho
   obtain ⟨rfl,rfl,rfl⟩:=hp
   left
   have e:Nat.beq (clsS D.S p) 1=true:=by rw [hc]; rfl
   have e2:(Nat.beq b c && Nat.beq g c)=false:=by
    cases h:(Nat.beq b c && Nat.beq g c) with
    | false=>rfl
    | true =>
     simp only [Bool.and_eq_true] at h
     refine absurd (a:=b=c∧g=c) ⟨Nat.eq_of_beq_eq_true h.1,Nat.eq_of_beq_eq_true h.2⟩ ?_
     simpa using k
   rw [e,e2,hw,hmk]
   exact qIu _ _ _ _ m (by omega) hj
  | succ i =>
   refine .inr (rdL_at l pl _ i o mk lo hi (by simpa using ho) (by simpa using hp) hmk hc hw ?_ j m q H hj)
   rw [List.take_succ_cons,List.countP_cons] at k
   cases n:Nat.beq (clsS D.S p) 2 with
   | true=>rw [n] at k; simp only [if_true] at k; simp only [cond_true]; omega
   | false=>rw [n] at k; simp only [Bool.false_eq_true,if_false] at k; simp only [cond_false]; omega
theorem qKd {C:Cx} {D:DP} {ops:Array Oper} {env:Env} {hs:List Hp} (hsome:(rdL C D ops.toList env hs 0 ops.toList D.pl).all (λq=>q.1.isSome)=true) (h:(rdL C D ops.toList env hs 0 ops.toList D.pl).map (·.1)=(rdL C D ops.toList env hs 0 ops.toList D.pl).map (·.2)):AlikeP C D ops env hs:=by
 intro i o mk lo hi ho hp hmk hc hw b j c g H hj
 have hm:=rdL_at (C:=C) (D:=D) _ _ 0 i o mk lo hi ho hp hmk hc hw (by simpa using b) j c g H hj
 have e:opV C env H o=(match o.dst with | some d=>some (look env d,H) | none=>opV C env H o):=by
  have key:∀ l:List (Option (AV×Hp)×Option (AV×Hp)),l.map (·.1)=l.map (·.2)→∀ q ∈ l,q.1=q.2:=by
   intro l
   induction l with
   | nil=>intro _ q hq; cases hq
   | cons x l ih =>
    intro hl q hq
    simp only [List.map_cons,List.cons.injEq] at hl
    rcases List.mem_cons.1 hq with rfl | hq
    ·exact hl.1
    ·exact ih hl.2 q hq
  exact key _ h _ hm
 have a:=List.all_eq_true.1 hsome _ hm
 cases hd:o.dst with
 | none =>
  simp only at a
  obtain ⟨⟨v,k⟩,hv⟩:=Option.isSome_iff_exists.1 a
  have:=qG2 (by rw [← qD8 (qIh (S:=D.S) (o:=o) (by omega))]; exact hc) hv
  subst this
  exact ⟨v,hv,λd hd=>by cases hd⟩
 | some d =>
  rw [hd] at e
  exact ⟨_,e,λd' hd'=>by cases hd'; rfl⟩
theorem ok_draw {t:Option R} (D:DP) {hs:List Hp} (h:drawAt p=some p') (hti:Nat.ble (opsAt p).size D.tI=true) (hp:planOk D.S (opsAt p) D.pl=true) (hds:(opsAt p).toList.all (dstOk X.fn.ntmps)=true) (hD:OpsD X.P X.C D (opsAt p).toList (opsAt p).toList env H eE hs) (hsome:(rdL X.C D (opsAt p).toList eE (H::hs) 0 (opsAt p).toList D.pl).all (λq=>q.1.isSome)=true) (hq:(rdL X.C D (opsAt p).toList eE (H::hs) 0 (opsAt p).toList D.pl).map (·.1)=(rdL X.C D (opsAt p).toList eE (H::hs) 0 (opsAt p).toList D.pl).map (·.2)) (hl:lastH H hs=H') (k:Ok X p' eE H' t):Ok X p env H t:=by
 subst hl
 unfold drawAt at h
 split at h
 ·rename_i id ops K
  cases h
  intro r hr m0 c g m w a b fr j hd rw st
  have hge:=Nat.le_of_ble_eq_true hti
  show (Code.region id ops true).wp X.P _ a w
  refine qK9 (id:=id) X.hti X.ord hds hp hD (qKd hsome hq) fr j hd rw ?_ λa m w w' hlt=>absurd hlt (Nat.not_lt.2 hge)
  rintro a' w' _ ⟨_,m',l,n,o,u,x⟩
  exact qB3 (k r hr m0 c g m' w' a' b o u x l (st.trans b.2 n))
 ·cases h
noncomputable def runD (C:Cx) (D:DP) (all:List Oper) (k:Nat):List Oper→Env→Hp→Option (List Oper×Env×Hp×List Hp) :=
 Nat.rec (motive := λ_ => List Oper → Env → Hp → Option (List Oper × Env × Hp × List Hp)) (λl env H => some (l, env, H, []))
  (λ_ ih l env H=>match l with
   | []=>none
   | o::l=>bif Nat.beq (all.length - (l.length+1)) D.tI then none else match wantedV o all env with
    | none=>none
    | some false=>(match ih l (putV env o.dst (.tuple [])) H with
     | some (l',e,H',hs)=>some (l',e,H',bif Nat.beq (clsS D.S o) 2 then H::hs else hs)
     | none=>none)
    | some true=>(match evS C D.S env H o with
     | some (v,a)=>(match ih l (putV env o.dst v) a with
      | some (l',e,H',hs)=>some (l',e,H',bif Nat.beq (clsS D.S o) 2 then a::hs else hs)
      | none=>none)
     | none=>none)) k
theorem qAc {P : Program} {C : Cx} {D : DP} {all : List Oper} {e : Env} {a : List Hp} : ∀ (k : Nat) {l l' : List Oper} {env eE : Env} {H H' : Hp} {hs : List Hp}, runD C D all k l env H = some (l', eE, H', hs) → OpsD P C D all l' eE H' e a → OpsD P C D all l env H e (hs ++ a)
 | 0,l,l',env,eE,H,H',hs,h,g=>by
  have h':some (l,env,H,([]:List Hp))=some (l',eE,H',hs):=h
  cases h'
  exact g
 | k+1,[],l',env,eE,H,H',hs,h,g=>by cases h
 | k+1,o::l,l',env,eE,H,H',hs,h,g=>by
  have h':(bif Nat.beq (all.length - (l.length+1)) D.tI then none else match wantedV o all env with
   | none=>none
   | some false=>(match runD C D all k l (putV env o.dst (.tuple [])) H with
    | some (l',e,H',hs)=>some (l',e,H',bif Nat.beq (clsS D.S o) 2 then H::hs else hs)
    | none=>none)
   | some true=>(match evS C D.S env H o with
    | some (v,b)=>(match runD C D all k l (putV env o.dst v) b with
     | some (l',e,H',hs)=>some (l',e,H',bif Nat.beq (clsS D.S o) 2 then b::hs else hs)
     | none=>none)
    | none=>none))=some (l',eE,H',hs):=h
  cases hix:Nat.beq (all.length - (l.length+1)) D.tI with
  | true=>rw [hix] at h'; cases h'
  | false =>
  rw [hix] at h'
  simp only [cond_false] at h'
  split at h'
  ·cases h'
  ·rename_i hw
   split at h'
   ·rename_i hr
    cases h'
    have:=OpsD.skip (P:=P) hix hw (qAc k hr g)
    cases hc:Nat.beq (clsS D.S o) 2 <;> rw [hc] at this <;> exact this
   ·cases h'
  ·rename_i hw
   split at h'
   ·rename_i v b hv
    split at h'
    ·rename_i hr
     cases h'
     have:=OpsD.val (P:=P) hix hw (.inl hv) (qAc k hr g)
     cases hc:Nat.beq (clsS D.S o) 2 <;> rw [hc] at this <;> exact this
    ·cases h'
   ·cases h'
noncomputable def headO (all l:List Oper) (env:Env):Option Oper:=match l with | o::_=>(match wantedV o all env with | some true=>some o | _=>none) | []=>none
noncomputable def evalD (C:Cx) (D:DP) (all l:List Oper) (env:Env) (H:Hp):Option (AV×Hp):=match headO all l env with | some o=>evS C D.S env H o | none=>none
noncomputable def advD (D:DP) (all l:List Oper) (env:Env) (v:AV) (H:Hp):Option (List Oper×Env×List Hp):=bif Nat.beq (all.length - l.length) D.tI then none else match headO all l env with | some o=>some (l.tail,putV env o.dst v,bif Nat.beq (clsS D.S o) 2 then [H] else []) | none=>none
noncomputable def callD (all l:List Oper) (env:Env):Option (Nat×List AV) :=
 match headO all l env with
 | some o=>match o.op with
  | .call c=>match c.callee with
   | .value g=>match opnd env g with
    | .func f first caps=>some (f,first++opnds env c.args.toList++caps)
    | _=>none
   | _=>none
  | _=>none
 | none=>none
theorem qEj {all l:List Oper} {o:Oper} (h:headO all l env=some o):∃ r,l=o::r∧wantedV o all env=some true:=by
 unfold headO at h
 split at h
 ·rename_i o' r
  split at h
  ·rename_i hw; cases h; exact ⟨r,rfl,hw⟩
  ·cases h
 ·cases h
theorem qEx {P:Program} {C:Cx} {D:DP} {all l l':List Oper} {e:Env} {hs a:List Hp} {o:Oper} {v:AV} (ho:headO all l env=some o) (b:StpS P C D.S env H o v H') (ha:advD D all l env v H'=some (l',eE,hs)) (g:OpsD P C D all l' eE H' e a):OpsD P C D all l env H e (hs++a):=by
 unfold advD at ha
 cases hix:Nat.beq (all.length - l.length) D.tI with
 | true=>rw [hix] at ha; cases ha
 | false =>
 rw [hix,ho] at ha
 cases ha
 obtain ⟨r,rfl,hw⟩:=qEj ho
 have:=OpsD.val hix hw b g
 cases hc:Nat.beq (clsS D.S o) 2 <;> rw [hc] at this <;> exact this
theorem qAb {P:Program} {C:Cx} {D:DP} {all l l':List Oper} {e:Env} {hs a:List Hp} {α:Type} {m:Option α} {x:α} (g:α→AV×Hp) (h:evalD C D all l env H=m.map g) (b:m=some x) (ha:advD D all l env (g x).1 (g x).2=some (l',eE,hs)) (k:OpsD P C D all l' eE (g x).2 e a):OpsD P C D all l env H e (hs++a):=by
 subst b
 unfold evalD at h
 cases ho:headO all l env with
 | none=>rw [ho] at h; cases h
 | some o =>
  rw [ho] at h
  exact qEx (v:=(g x).1) ho (.inl h) ha k
theorem qAq {P:Program} {C:Cx} {D:DP} {all l l':List Oper} {e:Env} {hs a:List Hp} {fi:Nat} {args:List AV} {v:AV} (hc:callD all l env=some (fi,args)) (hp:purs args=true) (hv:pur v=true) (hf:PureOk P fi args v) (ha:advD D all l env v H=some (l',eE,hs)) (k:OpsD P C D all l' eE H e a):OpsD P C D all l env H e (hs++a):=by
 have hpo:=qFu hf hp hv H
 unfold callD at hc
 cases ho:headO all l env with
 | none=>rw [ho] at hc; cases hc
 | some o =>
  rw [ho] at hc
  simp only at hc
  split at hc
  ·rename_i c hoc
   split at hc
   ·rename_i q hq
    split at hc
    ·rename_i fi' first caps hfv
     cases hc
     exact qEx (v:=v) ho (.inr ⟨c,q,fi,first,caps,hoc,hq,hfv,hpo⟩) ha k
    ·cases hc
   ·cases hc
  ·cases hc
noncomputable def mkT (n:Nat) (l:List Blk):Tr :=
 List.rec (motive:=λ_=>Nat→Tr) (λ_ => .nil) (λb _ ih n=>PT.set depth (ih (n+1)) n b) l n
theorem qGy (n:Nat):mkT n [] = .nil:=rfl
theorem qBk (n:Nat) (b:Blk) (l:List Blk):mkT n (b::l)=PT.set depth (mkT (n+1) l) n b:=rfl
noncomputable def mkH (l:List Blk):Hp:=⟨l.length,mkT 0 l⟩
theorem qBa : ∀ (l : List Blk) (n i : Nat), n + l.length ≤ roots → (mkT n l).get i = if n ≤ i then l[i - n]? else none
 | [],n,i,_=>by
  rw [qGy]
  simp only [List.getElem?_nil,ite_self]
  exact PT.get_nil i
 | b::l,n,i,h=>by
  simp only [List.length_cons] at h
  by_cases e:n=i
  ·subst e
   rw [qBk,Tr.get_set_eq _ _ _ _ (by unfold roots at h; unfold depth; omega)]
   simp
  ·rw [qBk,Tr.get_set_ne _ _ _ _ _ e,qBa l (n+1) i (by omega)]
   by_cases a:n≤i
   ·rw [if_pos (by omega),if_pos a,show i - n=(i - (n+1))+1 by omega,List.getElem?_cons_succ]
   ·rw [if_neg (by omega),if_neg a]
mutual
def below (n : Nat) : AV → Bool
 | .ptr r _ _=>Nat.blt r n
 | .slice r _ _ _ _=>Nat.blt r n
 | .own r _ _=>Nat.blt r n
 | .agg xs=>belows n xs
 | .tuple xs=>belows n xs
 | .func _ a b=>belows n a && belows n b
 | .iface _ v=>below n v
 | _=>true
def belows (n : Nat) : List AV → Bool
 | []=>true
 | x::xs=>below n x && belows n xs
end
def Mp.cut (m:Mp) (n:Nat):Mp:=⟨λr v=>if r < n then m r v else none,m.froz⟩
mutual
theorem qDk {m : Mp} {n : Nat} : ∀ (x : AV) (c : Value), below n x = true → VR m x c → VR (m.cut n) x c
 | .top,_,_,_=>by simp only [VR]
 | .int ..,_,_,e=>by simpa only [VR] using e
 | .resid ..,_,_,e=>by simpa only [VR] using e
 | .bool _,_,_,e=>by simpa only [VR] using e
 | .str _,_,_,e=>by simpa only [VR] using e
 | .nilp,_,_,e=>by simpa only [VR] using e
 | .nils,_,_,e=>by simpa only [VR] using e
 | .nilf,_,_,e=>by simpa only [VR] using e
 | .nili,_,_,e=>by simpa only [VR] using e
 | .vec ..,_,_,e=>by simp only [VR] at e ⊢; exact e
 | .vptr ..,_,_,e=>by simp only [VR] at e ⊢; exact e
 | .ptr r v off,_,h,e=>by
  simp only [VR,below,Nat.blt_eq] at e h ⊢
  obtain ⟨B,N,g,j⟩:=e
  exact ⟨B,N,by show (if r < n then m r v else none)=_; rw [if_pos h]; exact g,j⟩
 | .slice r v off len sz,_,h,e=>by
  simp only [VR,below,Nat.blt_eq] at e h ⊢
  obtain ⟨B,N,cap,g,j⟩:=e
  exact ⟨B,N,cap,by show (if r < n then m r v else none)=_; rw [if_pos h]; exact g,j⟩
 | .own r len sz,_,h,e=>by
  simp only [VR,below,Nat.blt_eq] at e h ⊢
  rcases e with e | ⟨B,N,cap,g,j⟩
  ·exact .inl e
  ·exact .inr ⟨B,N,cap,by show (if r < n then m r (len * sz) else none)=_; rw [if_pos h]; exact g,j⟩
 | .agg xs,c,h,e=>by
  simp only [VR] at e ⊢
  obtain ⟨ys,g,j⟩:=e
  exact ⟨ys,g,qBi xs _ (by simpa only [below] using h) j⟩
 | .tuple xs,c,h,e=>by
  simp only [VR] at e ⊢
  obtain ⟨ys,g,j⟩:=e
  exact ⟨ys,g,qBi xs _ (by simpa only [below] using h) j⟩
 | .func f a b,c,h,e=>by
  simp only [VR] at e ⊢
  simp only [below,Bool.and_eq_true] at h
  obtain ⟨ys,zs,g,j,k⟩:=e
  exact ⟨ys,zs,g,qBi a _ h.1 j,qBi b _ h.2 k⟩
 | .iface t v,c,h,e=>by
  simp only [VR] at e ⊢
  obtain ⟨d,g,j⟩:=e
  exact ⟨d,g,qDk v _ (by simpa only [below] using h) j⟩
theorem qBi {m : Mp} {n : Nat} : ∀ (xs : List AV) (cs : List Value), belows n xs = true → VRs m xs cs → VRs (m.cut n) xs cs
 | [],_,_,e=>by simpa only [VRs] using e
 | x::xs,cs,h,e=>by
  simp only [VRs] at e ⊢
  simp only [belows,Bool.and_eq_true] at h
  obtain ⟨y,ys,rfl,g,j⟩:=e
  exact ⟨y,ys,rfl,qDk x y h.1 g,qBi xs ys h.2 j⟩
end
mutual
theorem qFv {n : Nat} : ∀ x : AV, pur x = true → below n x = true
 | .top,_ | .int ..,_ | .resid ..,_ | .bool _,_ | .str _,_ | .nilp,_ | .nils,_ | .nilf,_ | .nili,_ | .vec ..,_ | .vptr ..,_=>by simp [below]
 | .ptr ..,h | .slice ..,h | .own ..,h=>by simp [pur] at h
 | .agg xs,h=>by simp only [pur,below] at h ⊢; exact qA xs h
 | .tuple xs,h=>by simp only [pur,below] at h ⊢; exact qA xs h
 | .func _ a b,h=>by simp only [pur,below,Bool.and_eq_true] at h ⊢; exact ⟨qA a h.1,qA b h.2⟩
 | .iface _ v,h=>by simp only [pur,below] at h ⊢; exact qFv v h
theorem qA {n : Nat} : ∀ xs : List AV, purs xs = true → belows n xs = true
 | [],_=>rfl
 | x::xs,h=>by simp only [purs,belows,Bool.and_eq_true] at h ⊢; exact ⟨qFv x h.1,qA xs h.2⟩
end
def belowE (n : Nat) : Env → Bool
 | []=>true
 | p::l=>below n p.2 && belowE n l
theorem qCu {n : Nat} : ∀ {e : Env} (t : Nat), belowE n e = true → below n (look e t) = true
 | [],t,_=>rfl
 | p::l,t,h=>by
  simp only [belowE,Bool.and_eq_true] at h
  rw [qAo]
  split
  ·exact h.1
  ·exact qCu t h.2
def BB (n : Nat) : List Blk → Prop
 | []=>True
 | b::l=>belows n b.cells=true∧BB n l
theorem qKg {n : Nat} : ∀ {l : List Blk} {i : Nat} {b : Blk}, BB n l → l[i]? = some b → belows n b.cells = true
 | [],i,b,_,h=>by simp at h
 | c::l,i,b,a,h=>by
  cases i with
  | zero=>simp at h; subst h; exact a.1
  | succ i=>exact qKg a.2 (by simpa using h)
theorem qB6 {n : Nat} : ∀ {xs : List AV} (k : Nat), belows n xs = true → belows n (xs.take k) = true
 | [],k,_=>by simp [belows]
 | x::xs,0,_=>by simp [belows]
 | x::xs,k+1,h=>by
  simp only [belows,List.take_succ_cons,Bool.and_eq_true] at h ⊢
  exact ⟨h.1,qB6 k h.2⟩
theorem qA8 {t:Option R} (l g:List Blk) (o:Nat.ble X.n0 l.length=true) (u:Nat.ble (l.length+g.length) roots=true) (he:belowE l.length env=true) (z:BB l.length l) (k:Ok X p env (mkH l) t):Ok X p env (mkH (l++g)) t:=by
 intro r hr m0 A C m w a x fr hnt hd rw st
 have u:l.length+g.length≤roots:=Nat.le_of_ble_eq_true u
 have hget:∀ i,i < l.length→(mkH (l++g)).t.get i=(mkH l).t.get i:=by
  intro i hi
  show (mkT 0 (l++g)).get i=(mkT 0 l).get i
  rw [qBa _ _ _ (by simp; omega),qBa _ _ _ (by omega)]
  simp [List.getElem?_append_left hi]
 have hcut:∀ {r v q},(m.cut l.length) r v=some q→r < l.length∧m r v=some q:=by
  intro r v q h
  have h:(if r < l.length then m r v else none)=some q:=h
  by_cases e:r < l.length
  ·rw [if_pos e] at h; exact ⟨e,h⟩
  ·rw [if_neg e] at h; cases h
 have hnone:∀ i,l.length≤i→(mkH l).t.get i=none:=by
  intro i hi
  show (mkT 0 l).get i=none
  rw [qBa _ _ _ (by omega)]
  simp [hi]
 refine k r hr m0 A C (m.cut l.length) w a x ?_ hnt hd ⟨?_,?_,?_,hnone,?_,rw.frz,?_,rw.ffin,rw.base_le,?_⟩ ⟨⟨λr v q hq=>(by
  have j:=x.1 r v q hq
  have n:=Nat.le_of_ble_eq_true o
  show (if r < l.length then m r v else none)=some q
  rw [if_pos (by omega)]
  exact st.sub.1 r v q hq),st.sub.2⟩,?_,st.fext,st.size,st.os,st.tape,st.output,st.same⟩
 ·intro t ht
  obtain ⟨c,j,n⟩:=fr t ht
  exact ⟨c,j,qDk _ _ (qCu t he) n⟩
 ·intro r b v B N hb' hm j n
  obtain ⟨hlt,hm⟩:=hcut hm
  obtain ⟨cs,ty,fr',D,E,F,G,I⟩:=rw.blk r b v B N (by rw [hget r hlt]; exact hb') hm j n
  have hbl:l[r]? = some b:=by
   have hb':(mkT 0 l).get r=some b:=hb'
   rw [qBa _ _ _ (by omega)] at hb'
   simpa using hb'
  exact ⟨cs,ty,fr',D,E,F,G,qBi _ _ (qB6 v (qKg z hbl)) I⟩
 ·intro r v B N hm
  obtain ⟨hlt,hm⟩:=hcut hm
  rw [← hget r hlt]
  exact rw.dom r v B N hm
 ·intro r v B N r' v' N' hm hm' hB
  exact rw.sep _ _ _ _ _ _ _ (hcut hm).2 (hcut hm').2 hB
 ·intro r v B N hm
  exact rw.vle _ _ _ _ (hcut hm).2
 ·intro i B cells r v N b hi hm hb'
  obtain ⟨hlt,hm⟩:=hcut hm
  exact rw.fsep i B cells r v N b hi hm (by rw [hget r hlt]; exact hb')
 ·show l.length≤roots
  omega
 ·intro r v B N hm
  exact st.ext r v B N (hcut hm).2
theorem qCn {t:Option R} (l:List Blk) (d sz:Nat) (g:Nat.blt l.length roots=true) (h:look env d = .nils) (k:Ok X p ((d,.own l.length 0 sz)::env) (mkH (l++[⟨[],0,false⟩])) t):Ok X p env (mkH l) t:=by
 intro r hr m0 u j m w a x fr hnt hd rw st
 have g:l.length < roots:=by simpa using g
 have hg:RW m ⟨l.length+1,Tr.set depth (mkH l).t l.length ⟨[],0,false⟩⟩ w j:=rw.ghost g
 have hH:RW m (mkH (l++[⟨[],0,false⟩])) w j:=by
  have e:∀ i,(mkH (l++[⟨[],0,false⟩])).t.get i=(Tr.set depth (mkH l).t l.length ⟨[],0,false⟩).get i:=by
   intro i
   show (mkT 0 (l++[⟨[],0,false⟩])).get i=(Tr.set depth (mkT 0 l) l.length ⟨[],0,false⟩).get i
   rw [qBa _ _ _ (by simp; omega)]
   by_cases ei:l.length=i
   ·subst ei
    rw [Tr.get_set_eq _ _ _ _ (by unfold roots at g; unfold depth; omega)]
    simp
   ·rw [Tr.get_set_ne _ _ _ _ _ ei,qBa _ _ _ (by omega)]
    by_cases n:i < l.length
    ·simp [List.getElem?_append_left n]
    ·rw [List.getElem?_eq_none (by simp; omega),List.getElem?_eq_none (by omega)]
  have en:(mkH (l++[⟨[],0,false⟩])).next=l.length+1:=by simp [mkH]
  refine ⟨λr b v B N o=>hg.blk r b v B N (by rw [← e]; exact o),λr v B N hm=>by rw [e]; exact hg.dom r v B N hm,hg.sep,λr hr=>by rw [e]; exact hg.fresh r (by rw [en] at hr; exact hr),hg.vle,hg.frz,λi B cells r v N b hi hm o=>hg.fsep i B cells r v N b hi hm (by rw [← e]; exact o),hg.ffin,hg.base_le,by rw [en]; exact g⟩
 refine k r hr m0 u j m w a x ?_ hnt hd hH st
 intro t ht
 by_cases e:d=t
 ·subst e
  obtain ⟨c,n,q⟩:=fr d (by rw [h]; intro e; cases e)
  rw [h] at q
  simp only [VR] at q
  refine ⟨c,n,?_⟩
  rw [qAo,if_pos rfl]
  unfold VR
  exact .inl ⟨rfl,q⟩
 ·have he:look ((d,AV.own l.length 0 sz)::env) t=look env t:=by rw [qAo,if_neg e]
  rw [he] at ht ⊢
  exact fr t ht
theorem qGg {P : Program} {C : Cx} (hti : ∀ t i, C.ti t = some i → mkTi P t = some i) {m : Mp} {H : Hp} {w : World} {base : Nat} {env : Env} {a : Act} (fr : FR m env a.tmps) (rw : RW m H w base) (g : ResultVar → Sem Value) (k : ∀ t, g (.tmp t) = pure (a.tmps.getD t undef)) (n : ∀ p t, g (.cell p t) = do loadVar t (← asAddr (a.tmps.getD p undef))) : ∀ (l : List ResultVar) (xs : List AV), resV C env H l = some xs →
 ∃ vs:List Value,(l.mapM g).run P w = .ok vs w∧VRs m xs vs
 | [],xs,h=>by simp only [resV] at h; cases h; exact ⟨[],by simp,by simp [VRs]⟩
 | .tmp t::l,xs,h=>by
  simp only [resV] at h
  cases hl:resV C env H l with
  | none=>rw [hl] at h; cases h
  | some ys =>
   rw [hl] at h
   cases h
   obtain ⟨vs,q,u⟩:=qGg hti fr rw g k n l ys hl
   refine ⟨a.tmps.getD t undef::vs,?_,by simp only [VRs]; exact ⟨_,_,rfl,fr.getD t,u⟩⟩
   simp only [List.mapM_cons,k,Sem.run_bind,Sem.run_pure,Result.andThen_ok,q]
 | .cell p t::l,xs,h=>by
  simp only [resV] at h
  split at h
  ·rename_i i r v off ys ht hp hl
   split at h
   ·rename_i cs hcs
    split at h
    ·rename_i x A
     cases h
     obtain ⟨vs,q,u⟩:=qGg hti fr rw g k n l ys hl
     have hv:=fr.getD p
     rw [hp] at hv
     have hld:∃ c,(loadVar t (match a.tmps.getD p undef with | .pointer (some b)=>b | _=>default)).run P w = .ok c w∧VR m x c∧∃ b,a.tmps.getD p undef = .pointer (some b):=by
      have hv':=hv
      simp only [VR] at hv'
      obtain ⟨B,N,hm,e⟩:=hv'
      obtain ⟨c,j,o⟩:=qGv (P:=P) hti ht hv hcs A rw
      rw [e] at j
      rw [e]
      exact ⟨c,j,o,_,rfl⟩
     obtain ⟨c,j,o,b,z⟩:=hld
     rw [z] at j
     refine ⟨c::vs,?_,by simp only [VRs]; exact ⟨_,_,rfl,o,u⟩⟩
     simp only [List.mapM_cons,n,Sem.run_bind,z,asAddr,Sem.run_pure,Result.andThen_ok,j,q]
    ·cases h
   ·cases h
  ·cases h
theorem qCh {P : Program} {C : Cx} (hti : ∀ t i, C.ti t = some i → mkTi P t = some i) {m : Mp} {H : Hp} {w : World} {base : Nat} {env : Env} {a : Act} {fn : Func} {xs : List AV} (fr : FR m env a.tmps) (rw : RW m H w base) (h : resV C env H fn.results.toList = some xs) :
 ∃ v,(results fn a.tmps).run P w = .ok v w∧VR m (oneRes xs) v:=by
 have key:∀ g:ResultVar→Sem Value,(∀ t,g (.tmp t)=pure (a.tmps.getD t undef))→(∀ p t,g (.cell p t)=do loadVar t (← asAddr (a.tmps.getD p undef)))→∃ vs:List Value,(fn.results.mapM g).run P w = .ok vs.toArray w∧VRs m xs vs:=by
  intro g c j
  obtain ⟨vs,k,b⟩:=qGg (P:=P) hti fr rw g c j _ _ h
  exact ⟨vs,by rw [Array.mapM_eq_mapM_toList,Sem.run_map,k]; rfl,b⟩
 unfold results
 obtain ⟨vs,hm,b⟩:=key (fun | .tmp t=>pure (a.tmps.getD t undef) | .cell p t=>do loadVar t (← asAddr (a.tmps.getD p undef))) (λ_=>rfl) (λ_ _=>rfl)
 have hlen:=VRs.len b
 refine ⟨if h:vs.toArray.size=1 then vs.toArray[0] else .tuple vs.toArray,?_,?_⟩
 ·rw [Sem.run_bind]
  erw [hm]
  rfl
 ·unfold oneRes
  split
  ·simp only [VRs] at b
   obtain ⟨y,ys,rfl,l,rfl⟩:=b
   simpa using l
  ·rename_i hne
   have:¬ vs.toArray.size=1:=by
    intro e
    have n:xs.length=1:=by simpa [hlen] using e
    obtain ⟨x,o⟩:=List.length_eq_one_iff.1 n
    exact hne x o
   rw [dif_neg this]
   simp only [VR]
   exact ⟨_,rfl,by simpa using b⟩
theorem ok_ret {r:R} {xs:List AV} {v:AV} (u:X.n0=0) (hfin:X.fin r=H0) (ht:X.thr r=none) (hr:resV X.C env H X.fn.results.toList=some xs) (hz:FzG 0 H [oneRes xs] [v]) (hv:X.enc r=v):Ok X .fin env H (some r):=by
 intro r' e m0 n g m w a x fr hnt hd rw st
 cases e
 have hnone:∀ r v,m0 r v=none:=by
  intro r v
  cases e:m0 r v with
  | none=>rfl
  | some p=>have:=x.1 r v p e; omega
 obtain ⟨c,j,k⟩:=qCh (P:=X.P) X.hti fr rw hr
 have z:FOk 0 m m.froz w g:=by
  refine ⟨λi B cells hi=>rw.frz i B cells hi,rw.ffin,λi B cells h => .inl h,λ_ _ h=>h⟩
 obtain ⟨F',l,A,g3⟩:=fz_ok rw hz z (cs:=[c]) (by simp only [VRs]; exact ⟨c,[],rfl,k,rfl⟩)
 simp only [VRs] at g3
 obtain ⟨c',cs',e,g3,_⟩:=g3
 cases e
 have fin:∃ m' c',Ending.returned c = .returned c'∧RW m' (X.fin r) w g∧St m0 n g m' w∧VR m' (X.enc r) c':=by
  rw [hfin]
  refine ⟨⟨λ_ _=>none,F'⟩,c,rfl,⟨?_,?_,?_,λ_ _=>rfl,?_,l.ok,?_,l.fin,rw.base_le,by show 0≤roots; unfold roots; omega⟩,⟨⟨λr v q hq=>(by rw [hnone] at hq; cases hq),λi p hp=>A i p (st.sub.2 i p hp)⟩,?_,?_,st.size,st.os,st.tape,st.output,st.same⟩,by rw [hv]; exact g3⟩
  ·intro r b v B N D hm; cases hm
  ·intro r v B N hm; cases hm
  ·intro r v B N r' v' N' hm; cases hm
  ·intro r v B N hm; cases hm
  ·intro i B cells r v N b _ hm; cases hm
  ·intro r v B N hm; cases hm
  ·intro i B cells hi
   rcases l.new i B cells hi with h | h
   ·exact st.fext i B cells h
   ·obtain ⟨j,r,v,N,_,hm⟩:=h
    rcases st.ext r v B N hm with ⟨E,F,o⟩ | k
    ·rw [hnone] at o; cases o
    ·exact .inr ⟨j,.inr k⟩
 have e:EndT (X.thr r) (X.enc r) (X.fin r) m0 n g (.returned c) w:=by rw [ht]; exact fin
 exact qEt hd j e
theorem qEd : ∀ (xs : List AV) (i t : Nat), look (args0 i xs) t = if i ≤ t then (xs[t - i]?).getD .top else .top
 | [],i,t=>by simp [args0,look_nil]
 | x::xs,i,t=>by
  rw [args0,qBb,qEd xs (i+1) t]
  by_cases e:i=t
  ·subst e; simp
  ·rw [if_neg e]
   by_cases h:i≤t
   ·rw [if_pos (by omega),if_pos h,show t - i=(t - (i+1))+1 by omega]; simp
   ·rw [if_neg (by omega),if_neg h]
theorem qIr {m:Mp} {xs:List AV} {args rest:Array Value} (h:VRs m xs args.toList):FR m (args0 0 xs) (args++rest):=by
 intro t ht
 rw [qEd] at ht ⊢
 simp only [Nat.zero_le,if_true,Nat.sub_zero] at ht ⊢
 cases a:xs[t]? with
 | none=>rw [a] at ht; exact absurd rfl ht
 | some x =>
  obtain ⟨c,hc,hv⟩:=VRs.get h t x a
  rw [Array.getElem?_toList] at hc
  obtain ⟨hlt,_⟩:=Array.getElem?_eq_some_iff.1 hc
  exact ⟨c,by rw [Array.getElem?_append_left hlt]; exact hc,by simpa using hv⟩
def bodyAt (fn:Func):Pt:=match fn.body with | some c => .code c [] | none => .fin
theorem qA5 (X:Fx R) {f:Nat} (hfin:∀ r,X.fin r=H0∧X.thr r=none) (hf:X.P.funcs[f]? = some X.fn) (b:(X.fn.name == "runtime.NumGoroutine")=false) (a:X.fn.body.isSome=true) {xs:List AV} {t:Option R} (h:Ok X (bodyAt X.fn) (args0 0 xs) (mkH []) t) {r:R} (ht:t=some r):PureOk X.P f xs (X.enc r):=by
 refine ⟨?_,X.fn,hf,b,a⟩
 intro m0 w args g hargs rw
 cases hc:X.fn.body with
 | none=>rw [hc] at a; cases a
 | some c =>
  have e:bodyAt X.fn = .code c []:=by simp [bodyAt,hc]
  rw [e] at h
  have:=h r ht m0 w w.heap.size m0 w { tmps:=args++Array.replicate (X.fn.ntmps - args.size) undef,defers:=[] } ⟨λr v p e=>(by rw [g] at e; cases e),Nat.le_refl _⟩ (qIr hargs) (by simp; omega) rfl rw (St.refl _ _ _)
  have e2:=qFt hf hc this
  rw [(hfin r).1,(hfin r).2] at e2
  exact e2
theorem qA0 (X:Fx R) {f:Nat} (hf:X.P.funcs[f]? = some X.fn) (j:(X.fn.name == "runtime.NumGoroutine")=false) (a:X.fn.body.isSome=true) {L:List Blk} (g:X.n0=L.length) {xs:List AV} {t:Option R} (h:Ok X (bodyAt X.fn) (args0 0 xs) (mkH L) t) {r:R} (ht:t=some r):CallT X.P f xs (mkH L) (X.thr r) (X.enc r) (X.fin r):=by
 refine ⟨?_,X.fn,hf,j,a⟩
 intro m w base args hargs rw
 cases hc:X.fn.body with
 | none=>rw [hc] at a; cases a
 | some c =>
  have e:bodyAt X.fn = .code c []:=by simp [bodyAt,hc]
  rw [e] at h
  have:=h r ht m w base m w { tmps:=args++Array.replicate (X.fn.ntmps - args.size) undef,defers:=[] } ⟨λr v p e=>(by
   obtain ⟨b,a,_⟩:=rw.dom r v p.1 p.2 e
   rw [g]
   exact rw.lt a),rw.base_le⟩ (qIr hargs) (by simp; omega) rfl rw (St.refl _ _ _)
  exact qFt hf hc this
theorem law_walk {P : Program} {n : Nat} {xs : List AV} {args : Array Value} (h : PureOk P n xs (.bool true)) (hargs : VRs ⟨λ_ _ => none, λ_ => none⟩ xs args.toList) (w : World) :
 Calls P n args w λe W'=>e = .returned (.bool true)∧RowKit.Below w.heap.size w W':=by
 refine Calls.mono (h.1 ⟨λ_ _=>none,λ_=>none⟩ w args (λ_ _=>rfl) hargs ?_) ?_
 ·refine ⟨?_,?_,?_,λ_ _=>rfl,?_,?_,?_,⟨0,λ_ _=>rfl⟩,Nat.le_refl _,by show 0≤roots; unfold roots; omega⟩
  ·intro r b v B N j hm; cases hm
  ·intro r v B N hm; cases hm
  ·intro r v B N r' v' N' hm; cases hm
  ·intro r v B N hm; cases hm
  ·intro i B cells hi; cases hi
  ·intro i B cells r v N b _ hm; cases hm
 ·rintro e w' ⟨m',c,rfl,k,g,a⟩
  simp only [VR] at a
  exact ⟨by rw [a],g.below (Nat.le_refl _)⟩
end
def nthS (s:LN) (k:Int):Option Int:=if 0≤k then (match s[k.toNat]? with | some b=>some (b:Int) | none=>none) else none
theorem idxH {e:Option (AV×Hp)} {s:LN} {k:Int} {H:Hp} (h:e=(if 0≤k then (match s[k.toNat]? with | some b=>some (AV.int .u8 (b:Int),H) | none=>none) else none)):e=(nthS s k).map λc=>(AV.int .u8 c,H):=by
 rw [h]; unfold nthS
 split
 ·cases s[k.toNat]? <;> rfl
 ·rfl
def bnd (x:Option Int) (y d:Nat):Option Nat:=match x with | none=>some d | some i=>if 0≤i∧i≤y then some i.toNat else none
def subL {α:Type} (l:List α) (lo hi:Option Int):Option (List α) :=
 match bnd hi l.length l.length with
 | some h=>(match bnd lo h 0 with | some b=>some ((l.take h).drop b) | none=>none)
 | none=>none
theorem qEp (x:Option Int) (k:IntKind) (y d:Nat):boundO (x.map (AV.int k)) y d=bnd x y d:=by cases x <;> rfl
theorem subH {e:Option (AV×Hp)} {s:LN} (lo hi:Option Int) {H:Hp} (h:e=(match boundO (hi.map (AV.int .i64)) s.length s.length with | some h=>(match boundO (lo.map (AV.int .i64)) h 0 with | some l=>some (AV.str ((s.take h).drop l)) | none=>none) | none=>none).map λv=>(v,H)):e=(subL s lo hi).map λx=>(AV.str x,H):=by
 rw [h,qEp]; unfold subL
 cases bnd hi s.length s.length with
 | none=>rfl
 | some h =>
  simp only
  rw [qEp]
  cases bnd lo h 0 <;> rfl
def catS (a b:LN):Option LN:=if a.length+b.length < 2 ^ 40 then some (a++b) else none
theorem catH {e:Option (AV×Hp)} {a b:LN} {H:Hp} (h:e=(if a.length+b.length < 2 ^ 40 then some (AV.str (a++b)) else none).map λv=>(v,H)):e=(catS a b).map λx=>(AV.str x,H):=by
 rw [h]; unfold catS; split <;> rfl
def nthL {α:Type} (l:List α) (k:Int):Option α:=if 0≤k then l[k.toNat]? else none
theorem qA9 {α : Type} {enc : α → List AV} {sz : Nat} (h : ∀ x, (enc x).length = sz) : ∀ l : List α, (l.flatMap enc).length = l.length * sz
 | []=>by simp
 | x::l=>by rw [List.flatMap_cons,List.length_append,h,qA9 h l,List.length_cons,Nat.add_mul]; omega
theorem qEm {α : Type} {enc : α → List AV} {sz : Nat} (h : ∀ x, (enc x).length = sz) : ∀ (l : List α) (k : Nat) (x : α), l[k]? = some x → ((l.flatMap enc).drop (k * sz)).take sz = enc x
 | [],k,x,e=>by simp at e
 | y::l,k,x,e=>by
  rw [List.flatMap_cons]
  cases k with
  | zero =>
   simp at e
   subst e
   rw [Nat.zero_mul,List.drop_zero,List.take_append_of_le_length (by rw [h]; exact Nat.le_refl _),List.take_of_length_le (by rw [h]; exact Nat.le_refl _)]
  | succ k =>
   rw [List.drop_append,List.drop_of_length_le (by rw [h,Nat.add_mul]; omega),List.nil_append,h,show (k+1) * sz - sz=k * sz by rw [Nat.add_mul]; omega]
   exact qEm h l k x (by simpa using e)
theorem vidxH {α:Type} {enc:α→List AV} {sz:Nat} (hsz:∀ x,(enc x).length=sz) {e:Option (AV×Hp)} {l:List α} {k:Int} {H:Hp} (h:e=(if sz=sz∧0≤k∧k < ((l.length:Nat):Int) then some (AV.vptr (((l.flatMap enc).drop (k.toNat * sz)).take sz),H) else none)):e=(nthL l k).map λx=>(AV.vptr (enc x),H):=by
 rw [h]; unfold nthL
 by_cases a:0≤k
 ·rw [if_pos a]
  by_cases b:k < (l.length:Int)
  ·rw [if_pos ⟨rfl,a,b⟩]
   have hlt:k.toNat < l.length:=by omega
   rw [List.getElem?_eq_getElem hlt,qEm hsz l k.toNat _ (List.getElem?_eq_getElem hlt)]
   rfl
  ·rw [if_neg (λhh=>b hh.2.2),List.getElem?_eq_none (by omega)]
   rfl
 ·rw [if_neg (λhh=>a hh.2.1),if_neg a]; rfl
def nthA {α:Type} (l:List α) (n:Nat) (k:Int):Option α:=if 0≤k∧k < (n:Int) then l[k.toNat]? else none
theorem aidxH {α:Type} (enc:α→AV) {e:Option (AV×Hp)} (l:List α) {n:Nat} {k:Int} {H:Hp} (h:e=(if 0≤k∧k < (n:Int) then ((l.map enc)[k.toNat * 1]?).map λv=>(v,H) else none)):e=(nthA l n k).map λx=>(enc x,H):=by
 rw [h]; unfold nthA
 split
 ·rw [Nat.mul_one,List.getElem?_map]
  cases l[k.toNat]? <;> rfl
 ·rfl
def remS (x y:Int):Option Int:=if y=0 then none else some (x.tmod y)
theorem remH {e:Option (AV×Hp)} {k:IntKind} {x y:Int} {H:Hp} (h:e=(if y=0 then none else some (AV.int k (x.tmod y))).map λv=>(v,H)):e=(remS x y).map λv=>(AV.int k v,H):=by
 rw [h]; unfold remS; split <;> rfl
def andI (k:IntKind) (x y:Int):Int:=fW k (BitVec.ofInt k.bits x &&& BitVec.ofInt k.bits y).toNat
def maxI (x y:Int):Int:=if x < y then y else x
def appS {α:Type} (bytes:Nat) (l x:List α):Option (List α):=if (l.length+x.length) * bytes≤2 ^ 40∧l.length+x.length≤2 ^ 40 then some (l++x) else none
theorem qDw {L:List Blk} {r:Nat} {b:Blk} (hl:Nat.ble L.length roots=true) (h:L[r]? = some b):(mkH L).t.get r=some b:=by
 show (mkT 0 L).get r=some b
 rw [qBa _ _ _ (by rw [Nat.zero_add]; exact Nat.le_of_ble_eq_true hl)]
 simpa using h
theorem PT.set_set {α : Type} : ∀ (k : Nat) (t : PT α) (n : Nat) (x y : α), PT.set k (PT.set k t n x) n y = PT.set k t n y
 | 0,_,_,_,_=>rfl
 | k+1,t,n,x,y=>by
  have ih:=λt n=>PT.set_set k t n x y
  rw [PT.set_succ,PT.set_succ,PT.set_succ]
  by_cases a:n=0
  ·simp only [a,if_true]; rfl
  ·simp only [a,if_false]
   by_cases b:n % 2=1
   ·simp only [b,if_true]
    show PT.node (PT.set k (PT.set k t.left (n / 2) x) (n / 2) y) t.mid t.right=_
    rw [ih]
   ·simp only [b,if_false]
    show PT.node t.left t.mid (PT.set k (PT.set k t.right (n / 2 - 1) x) (n / 2 - 1) y)=_
    rw [ih]
theorem PT.set_comm {α : Type} : ∀ (k : Nat) (t : PT α) (n m : Nat) (x y : α), n ≠ m → PT.set k (PT.set k t n x) m y = PT.set k (PT.set k t m y) n x
 | 0,_,_,_,_,_,_=>rfl
 | k+1,t,n,m,x,y,h=>by
  have ih:=λt n m h=>PT.set_comm k t n m x y h
  rw [PT.set_succ,PT.set_succ,PT.set_succ,PT.set_succ]
  by_cases n0:n=0
  ·have m0:m ≠ 0:=by omega
   simp only [n0,m0,if_true,if_false]
   by_cases a:m % 2=1 <;> simp only [a,if_true,if_false] <;> rfl
  ·by_cases m0:m=0
   ·simp only [n0,m0,if_true,if_false]
    by_cases b:n % 2=1 <;> simp only [b,if_true,if_false] <;> rfl
   ·simp only [n0,m0,if_false]
    by_cases b:n % 2=1
    ·by_cases a:m % 2=1
     ·simp only [b,a,if_true]
      show PT.node (PT.set k (PT.set k t.left (n / 2) x) (m / 2) y) t.mid t.right=PT.node (PT.set k (PT.set k t.left (m / 2) y) (n / 2) x) t.mid t.right
      rw [ih _ _ _ (by omega)]
     ·simp only [b,a,if_true,if_false]; rfl
    ·by_cases a:m % 2=1
     ·simp only [b,a,if_true,if_false]; rfl
     ·simp only [b,a,if_false]
      show PT.node t.left t.mid (PT.set k (PT.set k t.right (n / 2 - 1) x) (m / 2 - 1) y)=PT.node t.left t.mid (PT.set k (PT.set k t.right (m / 2 - 1) y) (n / 2 - 1) x)
      rw [ih _ _ _ (by omega)]
theorem qLw : ∀ (L : List Blk) (n r : Nat) (b : Blk), r < L.length → PT.set depth (mkT n L) (n + r) b = mkT n (L.set r b)
 | [],n,r,b,h=>by simp at h
 | c::L,n,0,b,h=>by
  rw [List.set_cons_zero,qBk,qBk]
  exact PT.set_set _ _ _ _ _
 | c::L,n,r+1,b,h=>by
  rw [List.set_cons_succ,qBk,qBk,PT.set_comm _ _ _ _ _ _ (by omega),show n+(r+1)=(n+1)+r by omega,qLw L (n+1) r b (by simpa using h)]
theorem mkH_set {L:List Blk} {r:Nat} {b:Blk} (h:r < L.length):(⟨(mkH L).next,Tr.set depth (mkH L).t r b⟩:Hp)=mkH (L.set r b):=by
 show (⟨L.length,PT.set depth (mkT 0 L) r b⟩:Hp)=⟨(L.set r b).length,mkT 0 (L.set r b)⟩
 have:=qLw L 0 r b h
 rw [Nat.zero_add] at this
 rw [this,List.length_set]
theorem appH {α:Type} {enc:α→List AV} {sz:Nat} (hsz:∀ x,(enc x).length=sz) (hpos:Nat.blt 0 sz=true) (hone:∀ x,(enc x).all one1=true) {e:Option (AV×Hp)} (L:List Blk) (r bytes:Nat) (l x:List α) (hl:Nat.ble L.length roots=true) (hr:L[r]? = some ⟨l.flatMap enc,0,false⟩) (h:e=appW (mkH L) (.own r l.length sz) sz bytes x.length (x.flatMap enc)):e=(appS bytes l x).map λy=>(AV.own r y.length sz,mkH (L.set r ⟨y.flatMap enc,0,false⟩)):=by
 have hpos:0 < sz:=by simpa using hpos
 have hone':(x.flatMap enc).all one1=true:=by
  rw [List.all_eq_true]
  intro a ha
  obtain ⟨y,_,hy⟩:=List.mem_flatMap.1 ha
  exact List.all_eq_true.1 (hone y) a hy
 have hlt:r < L.length:=(List.getElem?_eq_some_iff.1 hr).1
 rw [h]
 unfold appW appV appS
 simp only [qA9 hsz,hpos,hone',true_and,and_true,if_true]
 by_cases b:(l.length+x.length) * bytes≤2 ^ 40∧l.length+x.length≤2 ^ 40
 ·rw [if_pos b]
  by_cases c:x.length=0
  ·have:x=[]:=List.length_eq_zero_iff.1 c
   subst this
   simp only [List.length_nil,Nat.add_zero,List.append_nil,Option.map_some,if_true]
   rw [if_pos (by simpa using b)]
   have:L.set r ⟨l.flatMap enc,0,false⟩=L:=by
    apply List.ext_getElem?
    intro i
    rw [List.getElem?_set]
    split
    ·rename_i e; subst e; first | exact hr.symm | (rw [if_pos hlt]; exact hr.symm)
    ·rfl
   show some (AV.own r l.length sz,mkH L)=some (AV.own r l.length sz,mkH (L.set r ⟨l.flatMap enc,0,false⟩))
   rw [this]
  ·simp only [c,if_false]
   rw [qDw hl hr,if_pos b]
   simp only [qA9 hsz,Nat.zero_le,true_and,and_self,if_true,Option.map_some]
   rw [mkH_set hlt,List.flatMap_append,List.length_append]
 ·rw [if_neg b,if_neg b]; rfl
theorem appHV {α:Type} {enc:α→List AV} {sz:Nat} (hsz:∀ x,(enc x).length=sz) (hpos:Nat.blt 0 sz=true) (hone:∀ x,(enc x).all one1=true) {e:Option (AV×Hp)} (L:List Blk) (r bytes:Nat) (l x:List α) (hl:Nat.ble L.length roots=true) (hr:L[r]? = some ⟨l.flatMap enc,0,false⟩) (h:e=(match (if sz=sz∧x.length≤x.length then some ((x.flatMap enc).take (x.length * sz)) else none) with | some new=>appW (mkH L) (.own r l.length sz) sz bytes x.length new | none=>none)):e=(appS bytes l x).map λy=>(AV.own r y.length sz,mkH (L.set r ⟨y.flatMap enc,0,false⟩)):=by
 refine appH hsz hpos hone L r bytes l x hl hr ?_
 rw [h,if_pos ⟨rfl,Nat.le_refl _⟩]
 simp only
 rw [List.take_of_length_le (by rw [qA9 hsz]; exact Nat.le_refl _)]
theorem qAl {α:Type} {enc:α→List AV} {sz:Nat} (hsz:∀ x,(enc x).length=sz) (hpur:∀ x,purs (enc x)=true) {L:List Blk} {r:Nat} {l:List α} {xs ys:List AV} {n0:Nat} (hl:Nat.ble L.length roots=true) (hr:L[r]? = some ⟨l.flatMap enc,0,false⟩) (a:Nat.ble n0 r=true) (h:FzG n0 (mkH L) xs ys):FzG n0 (mkH L) (.own r l.length sz::xs) (.vec l.length sz (l.flatMap enc)::ys) :=
 .own a (qDw hl hr) (qA9 hsz l) (Nat.zero_le _) (.pures (qBf hpur l)) h
def ctl1 : Pt → Pt
 | .ops _ _ K=>resume K
 | .loop b K => .code b (.loop b::K)
 | .fin => .fin
 | .code c K=>match c with
  | .seq a b => .code a (.seq b::K)
  | .skip=>resume K
  | .label _=>resume K
  | .block id b => .code b (.block id::K)
  | .scope b => .code b (.scope b::K)
  | .loop b => .loop b K
  | .exit id=>match exitK id K with | some q=>q | none => .fin
  | .goto l=>match gotoK l K with | some q=>q | none => .fin
  | .ret => .fin
  | .region id ops draw=>bif draw then resume K else .ops ops 0 K
  | _ => .fin
def nav : LN → Pt → Pt
 | [],p=>p
 | 0::l,p=>nav l (ctl1 p)
 | 1::l,.code (.cond _ x _) K=>nav l (.code x K)
 | _::l,.code (.cond _ _ y) K=>nav l (.code y K)
 | _::_,p=>p
def atN (n : Nat) : Pt → Pt
 | .ops ops _ K => .ops ops n K
 | p=>p
theorem ok_nilv {R:Type} {X:Fx R} {p:Pt} {env:Env} {H:Hp} {t:Option R} (d sz:Nat) (h:look env d = .nils) (k:Ok X p ((d,.vec 0 sz [])::env) H t):Ok X p env H t:=by
 intro r hr m0 g j m w a l fr hnt hd rw st
 refine k r hr m0 g j m w a l ?_ hnt hd rw st
 intro u hu
 by_cases e:d=u
 ·subst e
  obtain ⟨c,n,b⟩:=fr d (by rw [h]; intro e; cases e)
  rw [h] at b
  simp only [VR] at b
  subst b
  refine ⟨_,n,?_⟩
  rw [qAo,if_pos rfl]
  exact qCq m sz
 ·have he:look ((d,AV.vec 0 sz [])::env) u=look env u:=by rw [qAo,if_neg e]
  rw [he] at hu ⊢
  exact fr u hu
theorem qAz {R:Type} {X:Fx R} {p:Pt} {env:Env} {H:Hp} {t:Option R} (d b v n sz:Nat) (h:look env d = .slice b v 0 n sz) (hv:v=n * sz) (k:Ok X p ((d,.own b n sz)::env) H t):Ok X p env H t:=by
 intro r hr m0 j l m w a o fr hnt hd rw st
 refine k r hr m0 j l m w a o ?_ hnt hd rw st
 intro u hu
 by_cases e:d=u
 ·subst e
  obtain ⟨c,q,g⟩:=fr d (by rw [h]; intro e; cases e)
  rw [h] at g
  refine ⟨_,q,?_⟩
  rw [qAo,if_pos rfl]
  exact qFr g hv
 ·have he:look ((d,AV.own b n sz)::env) u=look env u:=by rw [qAo,if_neg e]
  rw [he] at hu ⊢
  exact fr u hu
mutual
def nref (n : Nat) : AV → Bool
 | .ptr r _ _ => !Nat.beq r n
 | .slice r _ _ _ _ => !Nat.beq r n
 | .own r _ _ => !Nat.beq r n
 | .agg xs=>nrefs n xs
 | .tuple xs=>nrefs n xs
 | .func _ a b=>nrefs n a && nrefs n b
 | .iface _ v=>nref n v
 | _=>true
def nrefs (n : Nat) : List AV → Bool
 | []=>true
 | x::xs=>nref n x && nrefs n xs
end
def Mp.out (m:Mp) (n:Nat) (F:Nat→Option (Nat×List AV)):Mp:=⟨λr v=>if r=n then none else m r v,F⟩
theorem qLj {m:Mp} {n:Nat} {F:Nat→Option (Nat×List AV)} {r v:Nat} (h:(!Nat.beq r n)=true):(m.out n F) r v=m r v:=by
 show (if r=n then none else m r v)=m r v
 rw [if_neg]
 rintro rfl
 simp at h
mutual
theorem qF1 {m : Mp} {n : Nat} {F : Nat → Option (Nat × List AV)} (k : ∀ i p, m.froz i = some p → F i = some p) : ∀ (x : AV) (c : Value), nref n x = true → VR m x c → VR (m.out n F) x c
 | .top,_,_,_=>by simp only [VR]
 | .int ..,_,_,e=>by simpa only [VR] using e
 | .resid ..,_,_,e=>by simpa only [VR] using e
 | .bool _,_,_,e=>by simpa only [VR] using e
 | .str _,_,_,e=>by simpa only [VR] using e
 | .nilp,_,_,e=>by simpa only [VR] using e
 | .nils,_,_,e=>by simpa only [VR] using e
 | .nilf,_,_,e=>by simpa only [VR] using e
 | .nili,_,_,e=>by simpa only [VR] using e
 | .vec ..,_,_,e=>by
  simp only [VR] at e ⊢
  obtain ⟨o,a,cap,g,j,l,u⟩:=e
  exact ⟨o,a,cap,g,j,l,λz=>let ⟨i,B,off,all,q,r⟩:=u z; ⟨i,B,off,all,k _ _ q,r⟩⟩
 | .vptr ..,_,_,e=>by
  simp only [VR] at e ⊢
  obtain ⟨i,B,off,all,q,r⟩:=e
  exact ⟨i,B,off,all,k _ _ q,r⟩
 | .ptr r v off,_,h,e=>by
  simp only [VR] at e ⊢
  obtain ⟨B,N,g,j⟩:=e
  exact ⟨B,N,by rw [qLj (by simpa only [nref] using h)]; exact g,j⟩
 | .slice r v off len sz,_,h,e=>by
  simp only [VR] at e ⊢
  obtain ⟨B,N,cap,g,j⟩:=e
  exact ⟨B,N,cap,by rw [qLj (by simpa only [nref] using h)]; exact g,j⟩
 | .own r len sz,_,h,e=>by
  simp only [VR] at e ⊢
  rcases e with e | ⟨B,N,cap,g,j⟩
  ·exact .inl e
  ·exact .inr ⟨B,N,cap,by rw [qLj (by simpa only [nref] using h)]; exact g,j⟩
 | .agg xs,c,h,e=>by
  simp only [VR] at e ⊢
  obtain ⟨ys,g,j⟩:=e
  exact ⟨ys,g,qC4 k xs _ (by simpa only [nref] using h) j⟩
 | .tuple xs,c,h,e=>by
  simp only [VR] at e ⊢
  obtain ⟨ys,g,j⟩:=e
  exact ⟨ys,g,qC4 k xs _ (by simpa only [nref] using h) j⟩
 | .func f a b,c,h,e=>by
  simp only [VR] at e ⊢
  simp only [nref,Bool.and_eq_true] at h
  obtain ⟨ys,zs,g,j,l⟩:=e
  exact ⟨ys,zs,g,qC4 k a _ h.1 j,qC4 k b _ h.2 l⟩
 | .iface t v,c,h,e=>by
  simp only [VR] at e ⊢
  obtain ⟨d,g,j⟩:=e
  exact ⟨d,g,qF1 k v _ (by simpa only [nref] using h) j⟩
theorem qC4 {m : Mp} {n : Nat} {F : Nat → Option (Nat × List AV)} (k : ∀ i p, m.froz i = some p → F i = some p) : ∀ (xs : List AV) (cs : List Value), nrefs n xs = true → VRs m xs cs → VRs (m.out n F) xs cs
 | [],_,_,e=>by simpa only [VRs] using e
 | x::xs,cs,h,e=>by
  simp only [VRs] at e ⊢
  simp only [nrefs,Bool.and_eq_true] at h
  obtain ⟨y,ys,rfl,g,j⟩:=e
  exact ⟨y,ys,rfl,qF1 k x y h.1 g,qC4 k xs ys h.2 j⟩
end
theorem qD6 {n : Nat} : ∀ {xs : List AV} (k : Nat), nrefs n xs = true → nrefs n (xs.take k) = true
 | [],k,_=>by simp [nrefs]
 | x::xs,0,_=>by simp [nrefs]
 | x::xs,k+1,h=>by
  simp only [nrefs,List.take_succ_cons,Bool.and_eq_true] at h ⊢
  exact ⟨h.1,qD6 k h.2⟩
def nrefE (n : Nat) : Env → Bool
 | []=>true
 | p::l=>nref n p.2 && nrefE n l
theorem qEb {n : Nat} : ∀ {e : Env} (t : Nat), nrefE n e = true → nref n (look e t) = true
 | [],t,_=>rfl
 | p::l,t,h=>by
  simp only [nrefE,Bool.and_eq_true] at h
  rw [qAo]
  split
  ·exact h.1
  ·exact qEb t h.2
mutual
theorem qIw {n : Nat} : ∀ x : AV, pur x = true → nref n x = true
 | .top,_ | .int ..,_ | .resid ..,_ | .bool _,_ | .str _,_ | .nilp,_ | .nils,_ | .nilf,_ | .nili,_ | .vec ..,_ | .vptr ..,_=>by simp [nref]
 | .ptr ..,h | .slice ..,h | .own ..,h=>by simp [pur] at h
 | .agg xs,h=>by simp only [pur,nref] at h ⊢; exact qAn xs h
 | .tuple xs,h=>by simp only [pur,nref] at h ⊢; exact qAn xs h
 | .func _ a b,h=>by simp only [pur,nref,Bool.and_eq_true] at h ⊢; exact ⟨qAn a h.1,qAn b h.2⟩
 | .iface _ v,h=>by simp only [pur,nref] at h ⊢; exact qIw v h
theorem qAn {n : Nat} : ∀ xs : List AV, purs xs = true → nrefs n xs = true
 | [],_=>rfl
 | x::xs,h=>by simp only [purs,nrefs,Bool.and_eq_true] at h ⊢; exact ⟨qIw x h.1,qAn xs h.2⟩
end
def NB (n : Nat) : Nat → List Blk → Prop
 | _,[]=>True
 | i,b::l=>(i=n∨nrefs n b.cells=true)∧NB n (i+1) l
theorem NB_get {n : Nat} : ∀ {l : List Blk} {i j : Nat} {b : Blk}, NB n i l → l[j]? = some b → i + j ≠ n → nrefs n b.cells = true
 | [],i,j,b,_,h,_=>by simp at h
 | c::l,i,j,b,a,h,hne=>by
  cases j with
  | zero=>simp at h; subst h; exact a.1.resolve_left (by omega)
  | succ j=>exact NB_get a.2 (by simpa using h) (by omega)
theorem ok_frz {R:Type} {X:Fx R} {p:Pt} {env env0:Env} {t:Option R} (L:List Blk) (d g n sz minv:Nat) (cells:List AV) (ks:LN) (K:Nat.ble X.n0 g=true) (hl:Nat.ble L.length roots=true) (C:look env d = .slice g (n * sz) 0 n sz∨look env d = .own g n sz) (hr:L[g]? = some ⟨cells,minv,false⟩) (hc:cells.length=n * sz) (hmin:minv≤n * sz) (hp:purs cells=true) (hk:keepOnly env ks=env0) (hne:nrefE g env0=true) (hnb:NB g 0 L) (k:Ok X p ((d,.vec n sz cells)::env0) (mkH (L.set g ⟨[],0,false⟩)) t):Ok X p env (mkH L) t:=by
 intro r hr' m0 w0 D m w a T E hnt hd rw st
 have fr:FR m env0 a.tmps:=E.less (hk ▸ qBl ks env)
 have hroot:(mkH L).t.get g=some ⟨cells,minv,false⟩:=qDw hl hr
 have hlt:g < L.length:=(List.getElem?_eq_some_iff.1 hr).1
 obtain ⟨c,M,z⟩:=E d (by rcases C with h | h <;> (rw [h]; intro e; cases e))
 have hcase:c = .slice none 0 0∧n=0∨∃ B N cap,m g (n * sz)=some (B,N)∧n≤cap∧c = .slice (some ⟨B,0,none⟩) n cap:=by
  rcases C with h | h <;> rw [h] at z <;> simp only [VR] at z
  ·obtain ⟨B,N,cap,l,o,U,V,h5⟩:=z
   exact .inr ⟨B,N,cap,l,U,h5⟩
  ·rcases z with ⟨l,o⟩ | ⟨B,N,cap,l,o,U,V⟩
   ·exact .inl ⟨o,l⟩
   ·exact .inr ⟨B,N,cap,l,o,V⟩
 have G:FOk 0 m m.froz w D:=⟨λi B cells hi=>rw.frz i B cells hi,rw.ffin,λi B cells h => .inl h,λ_ _ h=>h⟩
 have key:∃ F,FOk 0 m F w D∧(∀ i B cs,F i=some (B,cs)→m.froz i=some (B,cs)∨∃ v N,m g v=some (B,N))∧VR ⟨λ_ _=>none,F⟩ (.vec n sz cells) c:=by
  rcases hcase with ⟨rfl,rfl⟩ | ⟨B,N,cap,hm,hcap,rfl⟩
  ·have:cells=[]:=List.length_eq_zero_iff.1 (by omega)
   subst this
   exact ⟨m.froz,G,λi B cs h => .inl h,qCq _ _⟩
  ·obtain ⟨cs,ty,fr',J,W,Y,Z,I⟩:=rw.blk _ _ _ _ _ hroot hm hmin (by show n * sz≤cells.length; omega)
   obtain ⟨D,x,_,_,hbase⟩:=rw.dom _ _ _ _ hm
   rw [hroot] at x
   cases x
   simp only at I
   rw [List.take_of_length_le (by omega)] at I
   obtain ⟨nf,hnf⟩:=rw.ffin
   have q6:=qBd _ _ hp I
   obtain ⟨F,i,g1,g2,g3⟩:=qIi G (hbase rfl) ⟨_,_,_,Nat.zero_le _,hm⟩ J (cells:=cells) (by omega) (by rw [hc]; exact q6)
   refine ⟨λj=>if j=nf then some (B,cells) else m.froz j,?_,?_,?_⟩
   ·refine ⟨?_,⟨nf+1,λj hj=>by show (if j=nf then some (B,cells) else m.froz j)=none; rw [if_neg (by omega)]; exact hnf j (by omega)⟩,?_,?_⟩
    ·intro j B' cells' hj
     have hS:Sub m.still ⟨λ_ _=>none,λj=>if j=nf then some (B,cells) else m.froz j⟩:=⟨λ_ _ _ e=>(by cases e),λj q hq=>by
      show (if j=nf then some (B,cells) else m.froz j)=some q
      rw [if_neg]
      ·exact hq
      ·rintro rfl
       have hq:m.froz j=some q:=hq
       rw [hnf _ (Nat.le_refl _)] at hq; cases hq⟩
     by_cases e:j=nf
     ·simp only [e,if_true] at hj
      cases hj
      exact ⟨cs,ty,fr',J,by omega,by rw [hc]; exact VRs.mono hS _ _ q6⟩
     ·simp only [e,if_false] at hj
      obtain ⟨O,Q,S,e1,e2,e3⟩:=rw.frz j B' cells' hj
      exact ⟨O,Q,S,e1,e2,VRs.mono hS _ _ e3⟩
    ·intro j B' cells' hj
     by_cases e:j=nf
     ·simp only [e,if_true] at hj
      cases hj
      exact .inr ⟨hbase rfl,_,_,_,Nat.zero_le _,hm⟩
     ·simp only [e,if_false] at hj
      exact .inl hj
    ·intro j q hq
     show (if j=nf then some (B,cells) else m.froz j)=some q
     rw [if_neg]
     ·exact hq
     ·rintro rfl; rw [hnf _ (Nat.le_refl _)] at hq; cases hq
   ·intro j B' cells' hj
    by_cases e:j=nf
    ·simp only [e,if_true] at hj
     cases hj
     exact .inr ⟨_,_,hm⟩
    ·simp only [e,if_false] at hj
     exact .inl hj
   ·simp only [VR]
    refine ⟨hc,_,cap,rfl,hcap,λe=>(by cases e),λ_=>⟨nf,B,0,cells,by simp,rfl,?_,by omega⟩⟩
    rw [List.drop_zero,List.take_of_length_le (by omega)]
 obtain ⟨F,hFok,hFnew,hvec⟩:=key
 have hget:∀ i,i ≠ g→(mkH (L.set g ⟨[],0,false⟩)).t.get i=(mkH L).t.get i:=by
  intro i hi
  show (mkT 0 (L.set g ⟨[],0,false⟩)).get i=(mkT 0 L).get i
  have hl':L.length≤roots:=Nat.le_of_ble_eq_true hl
  rw [qBa _ _ _ (by rw [List.length_set]; omega),qBa _ _ _ (by omega)]
  simp only [Nat.zero_le,if_true,Nat.sub_zero]
  rw [List.getElem?_set,if_neg (λe=>hi e.symm)]
 have hout:∀ {r v q},(m.out g F) r v=some q→r ≠ g∧m r v=some q:=by
  intro r v q h
  have h:(if r=g then none else m r v)=some q:=h
  by_cases e:r=g
  ·rw [if_pos e] at h; cases h
  ·rw [if_neg e] at h; exact ⟨e,h⟩
 refine k r hr' m0 w0 D (m.out g F) w a T ?_ hnt hd ⟨?_,?_,?_,?_,?_,hFok.ok,?_,hFok.fin,rw.base_le,?_⟩ ⟨⟨λr v q hq=>(by
  have l:=T.1 r v q hq
  have o:=Nat.le_of_ble_eq_true K
  show (if r=g then none else m r v)=some q
  rw [if_neg (by omega)]
  exact st.sub.1 r v q hq),λi q hq=>hFok.sub i q (st.sub.2 i q hq)⟩,?_,?_,st.size,st.os,st.tape,st.output,st.same⟩
 ·intro u hu
  by_cases e:d=u
  ·subst e
   refine ⟨c,M,?_⟩
   rw [qAo,if_pos rfl]
   exact VR.mono (m:=⟨λ_ _=>none,F⟩) (m':=m.out g F) ⟨λ_ _ _ h=>(by cases h),λ_ _ h=>h⟩ _ _ hvec
  ·have he:look ((d,AV.vec n sz cells)::env0) u=look env0 u:=by rw [qAo,if_neg e]
   rw [he] at hu ⊢
   obtain ⟨c,l,o⟩:=fr u hu
   exact ⟨c,l,qF1 hFok.sub _ _ (qEb u hne) o⟩
 ·intro r b v B N A hm l o
  obtain ⟨hne',hm⟩:=hout hm
  rw [hget r hne'] at A
  obtain ⟨cs,ty,fr',J,W,Y,Z,I⟩:=rw.blk r b v B N A hm l o
  have hbl:L[r]? = some b:=by
   have hb':(mkT 0 L).get r=some b:=A
   rw [qBa _ _ _ (by rw [Nat.zero_add]; exact Nat.le_of_ble_eq_true hl)] at hb'
   simpa using hb'
  exact ⟨cs,ty,fr',J,W,Y,Z,qC4 hFok.sub _ _ (qD6 v (NB_get hnb hbl (by omega))) I⟩
 ·intro r v B N hm
  obtain ⟨hne',hm⟩:=hout hm
  rw [hget r hne']
  exact rw.dom r v B N hm
 ·intro r v B N r' v' N' hm hm' hB
  exact rw.sep _ _ _ _ _ _ _ (hout hm).2 (hout hm').2 hB
 ·intro r hr
  have hr:L.length≤r:=by
   have:(mkH (L.set g ⟨[],0,false⟩)).next=L.length:=by simp [mkH]
   rw [this] at hr; exact hr
  rw [hget r (by omega)]
  exact rw.fresh r hr
 ·intro r v B N hm
  exact rw.vle _ _ _ _ (hout hm).2
 ·intro i B cs r v N b hi hm A
  obtain ⟨hne',hm⟩:=hout hm
  rw [hget r hne'] at A
  rcases hFnew i B cs hi with h | ⟨v',N',h⟩
  ·exact rw.fsep i B cs r v N b h hm A
  ·obtain ⟨D,x,_,_,hbase⟩:=rw.dom _ _ _ _ h
   rw [hroot] at x
   cases x
   exact absurd (rw.sep _ _ _ _ _ _ _ h hm (hbase rfl)).symm hne'
 ·show (L.set g ⟨[],0,false⟩).length≤roots
  rw [List.length_set]; exact Nat.le_of_ble_eq_true hl
 ·intro r v B N hm
  exact st.ext r v B N (hout hm).2
 ·intro i B cs hi
  rcases hFok.new i B cs hi with h | h
  ·exact st.fext i B cs h
  ·obtain ⟨l,r,v,N,_,hm⟩:=h
   rcases st.ext r v B N hm with ⟨v0,N0,e0⟩ | o
   ·exact .inr ⟨l,.inl ⟨r,v0,N0,e0⟩⟩
   ·exact .inr ⟨l,.inr o⟩
theorem qDf {R:Type} {X:Fx R} {p:Pt} {env:Env} {H:Hp} {b:Bool} {a c:Option R} (g:b=true→Ok X p env H a) (h:b=false→Ok X p env H c):Ok X p env H (if b then a else c):=by
 cases b with
 | true=>exact g rfl
 | false=>exact h rfl
theorem qIv {α : Type} {f : α → AV} (h : ∀ x, pur (f x) = true) : ∀ l : List α, purs (l.map f) = true
 | []=>rfl
 | x::l=>by simp only [List.map_cons,purs,Bool.and_eq_true]; exact ⟨h x,qIv h l⟩
theorem arr_pur {α:Type} {f:α→AV} (h:∀ x,pur (f x)=true) (l:List α):pur (.agg (l.map f))=true:=by simp only [pur]; exact qIv h l
theorem qLs {R:Type} {X:Fx R} {p:Pt} {env:Env} {H:Hp} {α:Type} {m:Option α} {f:α→Option R} (g:α→AV×Hp) (p':Pt) (E:α→Env) (h:∀ x,m=some x→evalAt X.C X.fn.ntmps p env H=some (g x)) (ha:∀ x,advE X.fn.ntmps p env (g x).1=some (p',E x)) (k:∀ x,m=some x→Ok X p' (E x) (g x).2 (f x)):Ok X p env H (m.bind f) :=
 qA7 λx a=>ok_val (v:=(g x).1) (H':=(g x).2) (h x a) (ha x) (k x a)
theorem qFz {P:Program} {C:Cx} {D:DP} {all l l':List Oper} {env eE e:Env} {H:Hp} {hs a:List Hp} {α:Type} {x:α} (g:α→AV×Hp) (h:evalD C D all l env H=some (g x)) (ha:advD D all l env (g x).1 (g x).2=some (l',eE,hs)) (k:OpsD P C D all l' eE (g x).2 e a):OpsD P C D all l env H e (hs++a) :=
 qAb (m:=some x) g h rfl ha k
theorem qJ2 : ∀ (L : List Blk) (n : Nat) (b : Blk), mkT n (L ++ [b]) = PT.set depth (mkT n L) (n + L.length) b
 | [],n,b=>by rw [List.nil_append,qBk,qGy,qGy]; rfl
 | c::L,n,b=>by
  rw [List.cons_append,qBk,qBk,qJ2 L (n+1) b,PT.set_comm _ _ _ _ _ _ (by omega),List.length_cons,show n+(L.length+1)=n+1+L.length by omega]
theorem qJ3 (L:List Blk) (b:Blk):(⟨(mkH L).next+1,Tr.set depth (mkH L).t (mkH L).next b⟩:Hp)=mkH (L++[b]):=by
 show (⟨L.length+1,PT.set depth (mkT 0 L) L.length b⟩:Hp)=⟨(L++[b]).length,mkT 0 (L++[b])⟩
 rw [qJ2,Nat.zero_add,List.length_append]
 rfl
theorem qGw {R:Type} {X:Fx R} {p:Pt} {env:Env} {t:Option R} (L:List Blk) (c:Nat) (cells:List AV) (minv minv':Nat) (hl:Nat.ble L.length roots=true) (hr:L[c]? = some ⟨cells,minv,false⟩) (hm:minv≤minv') (k:Ok X p env (mkH (L.set c ⟨cells,minv',false⟩)) t):Ok X p env (mkH L) t:=by
 intro r hr' m0 u x m w a z fr hnt hd rw st
 have hroot:(mkH L).t.get c=some ⟨cells,minv,false⟩:=qDw hl hr
 have hlt:c < L.length:=(List.getElem?_eq_some_iff.1 hr).1
 have hl':L.length≤roots:=Nat.le_of_ble_eq_true hl
 have hget:∀ i,i ≠ c→(mkH (L.set c ⟨cells,minv',false⟩)).t.get i=(mkH L).t.get i:=by
  intro i hi
  show (mkT 0 (L.set c ⟨cells,minv',false⟩)).get i=(mkT 0 L).get i
  rw [qBa _ _ _ (by rw [List.length_set]; omega),qBa _ _ _ (by omega)]
  simp only [Nat.zero_le,if_true,Nat.sub_zero]
  rw [List.getElem?_set,if_neg (λe=>hi e.symm)]
 have hget0:(mkH (L.set c ⟨cells,minv',false⟩)).t.get c=some ⟨cells,minv',false⟩:=qDw (by rw [List.length_set]; exact hl) (by rw [List.getElem?_set,if_pos rfl,if_pos hlt])
 refine k r hr' m0 u x m w a z fr hnt hd ⟨?_,?_,rw.sep,?_,rw.vle,rw.frz,?_,rw.ffin,rw.base_le,?_⟩ st
 ·intro r b v B N g hm' j l
  by_cases e:r=c
  ·subst e
   rw [hget0] at g
   cases g
   exact rw.blk r ⟨cells,minv,false⟩ v B N hroot hm' (Nat.le_trans hm j) l
  ·rw [hget r e] at g
   exact rw.blk r b v B N g hm' j l
 ·intro r v B N hm'
  obtain ⟨b,h,n,o,q⟩:=rw.dom r v B N hm'
  by_cases e:r=c
  ·subst e
   rw [hroot] at h
   cases h
   exact ⟨_,hget0,n,o,q⟩
  ·exact ⟨b,by rw [hget r e]; exact h,n,o,q⟩
 ·intro r hr
  have hr:L.length≤r:=by
   have:(mkH (L.set c ⟨cells,minv',false⟩)).next=L.length:=by simp [mkH]
   rw [this] at hr; exact hr
  rw [hget r (by omega)]
  exact rw.fresh r hr
 ·intro i B cs r v N b hi hm' g
  by_cases e:r=c
  ·subst e
   have:=rw.fsep i B cs r v N _ hi hm' hroot
   cases this
  ·rw [hget r e] at g
   exact rw.fsep i B cs r v N b hi hm' g
 ·show (L.set c ⟨cells,minv',false⟩).length≤roots
  rw [List.length_set]; exact hl'
theorem ok_callM {R:Type} {X:Fx R} {p:Pt} {env:Env} {H:Hp} {α:Type} {m:Option α} {f:α→Option R} {fi:Nat} {args:List AV} (g:α→AV) (G:α→Hp) (p':Pt) (E:α→Env) (hc:callAt X.fn.ntmps p env=some (fi,args)) (hf:∀ x,m=some x→CallV X.P fi args H (g x) (G x)) (ha:∀ x,advE X.fn.ntmps p env (g x)=some (p',E x)) (k:∀ x,m=some x→Ok X p' (E x) (G x) (f x)):Ok X p env H (m.bind f):=by
 refine qA7 λx a=>?_
 have hpo:=hf x a
 have hax:=ha x
 unfold advE at hax
 unfold callAt at hc
 cases ho:operAt X.fn.ntmps p env with
 | none=>rw [ho] at hax; cases hax
 | some o =>
  rw [ho] at hax hc
  simp only [Option.some.injEq,Prod.mk.injEq] at hax hc
  obtain ⟨b,e2⟩:=hax
  obtain ⟨ops,n,K,rfl,h,j,l⟩:=qB0 ho
  have kx:=k x a
  rw [← b,← e2] at kx
  split at hc
  ·rename_i c hoc
   split at hc
   ·rename_i q hq
    split at hc
    ·rename_i fi' first caps hfv
     cases hc
     exact qG5 h j l (.inr ⟨c,q,fi,first,caps,hoc,hq,hfv,hpo⟩) kx
    ·cases hc
   ·cases hc
  ·cases hc
theorem qA6 {P:Program} {C:Cx} {D:DP} {all l l':List Oper} {env eE e:Env} {H H':Hp} {hs a:List Hp} {fi:Nat} {args:List AV} {v:AV} (hc:callD all l env=some (fi,args)) (hpo:CallV P fi args H v H') (ha:advD D all l env v H'=some (l',eE,hs)) (k:OpsD P C D all l' eE H' e a):OpsD P C D all l env H e (hs++a):=by
 unfold callD at hc
 cases ho:headO all l env with
 | none=>rw [ho] at hc; cases hc
 | some o =>
  rw [ho] at hc
  simp only at hc
  split at hc
  ·rename_i c hoc
   split at hc
   ·rename_i q hq
    split at hc
    ·rename_i fi' first caps hfv
     cases hc
     exact qEx (v:=v) ho (.inr ⟨c,q,fi,first,caps,hoc,hq,hfv,hpo⟩) ha k
    ·cases hc
   ·cases hc
  ·cases hc
def PT.allB {α : Type} (p : Nat → α → Bool) : PT α → (Nat → Nat) → Bool
 | .nil,_=>true
 | .node l b r,g=>(match b with | some x=>p (g 0) x | none=>true) && l.allB p (λn=>g (2 * n+1)) && r.allB p (λn=>g (2 * n+2))
theorem PT.allB_get {α : Type} {p : Nat → α → Bool} : ∀ (t : PT α) (g : Nat → Nat), t.allB p g = true → ∀ (n : Nat) (x : α), t.get n = some x → p (g n) x = true
 | .nil,g,_,n,x,h=>by cases h
 | .node l b r,g,hh,n,x,h=>by
  simp only [PT.allB,Bool.and_eq_true] at hh
  obtain ⟨⟨c,j⟩,k⟩:=hh
  rw [PT.get_node] at h
  by_cases a:n=0
  ·rw [if_pos a] at h
   subst a
   subst h
   exact c
  ·rw [if_neg a] at h
   by_cases hm:n % 2=1
   ·rw [if_pos hm] at h
    have:=PT.allB_get l _ j _ _ h
    rwa [show 2 * (n / 2)+1=n by omega] at this
   ·rw [if_neg hm] at h
    have:=PT.allB_get r _ k _ _ h
    rwa [show 2 * (n / 2 - 1)+2=n by omega] at this
def beqZ : AV → AV → Bool
 | .top,.top=>true
 | .int k n,.int k' n'=>decide (k=k') && decide (n=n')
 | .bool a,.bool b=>a == b
 | .str a,.str b=>eqL a b
 | .nilp,.nilp=>true
 | .nils,.nils=>true
 | .nilf,.nilf=>true
 | .nili,.nili=>true
 | _,_=>false
theorem beqZ_eq {x y:AV} (h:beqZ x y=true):x=y:=by
 cases x <;> cases y <;> simp [beqZ,qIm] at h ⊢ <;> exact h
def beqZs : List AV → List AV → Bool
 | [],[]=>true
 | a::x,b::y=>beqZ a b && beqZs x y
 | _,_=>false
theorem qKc : ∀ (x y : List AV), beqZs x y = true → x = y
 | [],[],_=>rfl
 | [],_::_,h=>by simp [beqZs] at h
 | _::_,[],h=>by simp [beqZs] at h
 | a::x,b::y,h=>by
  simp only [beqZs,Bool.and_eq_true] at h
  rw [beqZ_eq h.1,qKc x y h.2]
def beqTi (i j:Ti):Bool :=
 Nat.beq i.size j.size && Nat.beq i.bytes j.bytes && (match i.zero,j.zero with | some a,some b=>beqZs a b | none,none=>true | _,_=>false) && decide (i.kind=j.kind) && decide (i.fields=j.fields) && Nat.beq i.elem j.elem && Nat.beq i.len j.len && decide (i.flat=j.flat)
theorem beqTi_eq {i j:Ti} (h:beqTi i j=true):i=j:=by
 obtain ⟨u,x,m,z,A,B,C,D⟩:=i
 obtain ⟨E,F,n,G,I,J,K,L⟩:=j
 simp only [beqTi,Bool.and_eq_true,decide_eq_true_eq] at h
 obtain ⟨⟨⟨⟨⟨⟨⟨a,b⟩,c⟩,o⟩,q⟩,g⟩,k⟩,r⟩:=h
 have a:=Nat.eq_of_beq_eq_true a
 have b:=Nat.eq_of_beq_eq_true b
 have g:=Nat.eq_of_beq_eq_true g
 have k:=Nat.eq_of_beq_eq_true k
 have l:m=n:=by
  cases m <;> cases n <;> simp only at c <;> first | rfl | cases c | exact congrArg some (qKc _ _ c)
 subst a b l o q g k r
 rfl
def tiOk (P:Program) (t:Nat) (i:Ti):Bool:=match mkTi P t with | some j=>beqTi i j | none=>false
theorem tiOk_eq {P:Program} {t:Nat} {i:Ti} (h:tiOk P t i=true):mkTi P t=some i:=by
 unfold tiOk at h
 split at h
 ·rename_i j hj
  rw [hj,beqTi_eq h]
 ·cases h
def It (d:Nat) (s:ByteArray) (pos base:Nat) (m:Mp) (w:World) (a:Act):Prop :=
 ∃ B,a.tmps[d]? = some (.pointer (some ⟨B,0,none⟩))∧w.heap[B]? = some (.stringIter s pos)∧base≤B∧∀ r v N,m r v ≠ some (B,N)
section
variable {R:Type} (X:Fx R)
end
section
variable {R:Type} {X:Fx R} {p p':Pt} {env eE:Env} {H H':Hp} {d pos:Nat} {s:ByteArray}
def dneq (o:Oper) (d:Nat):Bool:=match o.dst with | some e => !Nat.beq e d | none=>true
theorem It.put {base:Nat} {m:Mp} {w:World} {a:Act} {o:Oper} (c:Value) (hd:dneq o d=true) (it:It d s pos base m w a):It d s pos base m w (a.put o.dst c):=by
 obtain ⟨B,b,g,h,j⟩:=it
 refine ⟨B,?_,g,h,j⟩
 unfold dneq at hd
 cases ho:o.dst with
 | none=>exact b
 | some e =>
  rw [ho] at hd
  simp only [Act.put]
  rw [Array.getElem?_setIfInBounds_ne]
  ·exact b
  ·rintro rfl; simp at hd
theorem It.step {base g:Nat} {m m':Mp} {w w':World} {a:Act} (st:St m w g m' w') (it:It d s pos base m w a):It d s pos base m' w' a:=by
 obtain ⟨B,h,b,j,c⟩:=it
 have hlt:B < w.heap.size:=(Array.getElem?_eq_some_iff.1 b).1
 refine ⟨B,h,by rw [st.same B hlt (λr v N e=>absurd e (c r v N))]; exact b,j,?_⟩
 intro r v N e
 rcases st.ext r v B N e with ⟨k,l,n⟩ | hB
 ·exact c r k l n
 ·omega
end
end Go.Proofs.YthpplbkobokghaaGreat.Am
set_option maxRecDepth 100000
namespace Go.Proofs.YthpplbkobokghaaGreat.Am
noncomputable section
open Go
def tyT:PT Ti:=(.node (.node (.node (.node (.node (.node (.node (.node .nil (some ⟨11,48,(some [.int .u64 0,.int .u64 0,.int .u32 0,.int .u8 0,.int .u8 0,.int .u8 0,.int .u8 0,.nilf,.nilp,.int .i32 0,.int .i32 0]),.struct,[(0,12),(1,12),(2,120),(3,121),(4,5),(5,5),(6,122),(7,123),(8,124),(9,125),(10,126)],0,0,none⟩) .nil) (some ⟨1,8,(some [.nilf]),.other,[],0,0,none⟩) .nil) (some ⟨1,8,(some [.nilf]),.other,[],0,0,none⟩) (.node .nil (some ⟨1,8,(some [.nilf]),.other,[],0,0,none⟩) .nil)) (some ⟨1,8,(some [.nilp]),.pointer,[],116,0,none⟩) (.node (.node .nil (some ⟨1,8,(some [.nilf]),.other,[],0,0,none⟩) .nil) (some ⟨1,0,(some [.top]),.other,[],0,0,none⟩) (.node .nil (some ⟨1,8,(some [.nilf]),.other,[],0,0,none⟩) .nil))) (some ⟨4,24,(some [.int .i64 0,.int .i64 0,.bool false,.int .u8 0]),.struct,[(0,2),(1,3),(2,4),(3,6)],0,0,(some [(.int .i64),(.int .i64),.bool,(.int .u8)])⟩) (.node (.node (.node .nil (some ⟨1,0,(some [.top]),.other,[],0,0,none⟩) .nil) (some ⟨1,8,(some [.nilf]),.other,[],0,0,none⟩) (.node .nil (some ⟨1,8,(some [.nilf]),.other,[],0,0,none⟩) .nil)) (some ⟨1,8,(some [.int .u64 0]),.int .u64,[],0,0,none⟩) (.node (.node .nil (some ⟨9,216,(some [.nils,.nils,.nils,.nils,.nils,.nils,.nils,.nils,.nils]),.array,[],22,9,(some (List.replicate 9 .slice))⟩) .nil) (some ⟨5,64,(some [.str [],.nils,.int .i64 0,.int .i64 0,.bool false]),.struct,[(0,9),(1,24),(2,3),(3,3),(4,4)],0,0,(some [.string,.slice,(.int .i64),(.int .i64),.bool])⟩) (.node .nil (some ⟨0,0,(some []),.struct,[(0,117)],0,0,none⟩) .nil)))) (some ⟨1,8,(some [.int .i64 0]),.int .i64,[],0,0,none⟩) (.node (.node (.node (.node .nil (some ⟨4,56,(some [.str [],.nils,.int .i64 0,.int .i64 0]),.struct,[(0,9),(1,24),(2,3),(3,3)],0,0,(some [.string,.slice,(.int .i64),(.int .i64)])⟩) .nil) (some ⟨1,8,(some [.nilf]),.other,[],0,0,none⟩) (.node .nil (some ⟨1,8,(some [.nilf]),.other,[],0,0,none⟩) .nil)) (some ⟨1,8,(some [.nilp]),.struct,[(0,17)],0,0,none⟩) (.node (.node .nil (some ⟨1,8,(some [.nilf]),.other,[],0,0,none⟩) .nil) (some ⟨1,8,(some [.nilf]),.other,[],0,0,none⟩) (.node .nil (some ⟨4,40,(some [.nilp,.nilp,.nilp,.str []]),.struct,[(0,17),(1,17),(2,17),(3,9)],0,0,none⟩) .nil))) (some ⟨1,16,(some [.str []]),.string,[],0,0,none⟩) (.node (.node (.node .nil (some ⟨1,8,(some [.nilf]),.other,[],0,0,none⟩) .nil) (some ⟨3,32,(some [.int .i64 0,.str [],.int .i64 0]),.struct,[(0,3),(1,9),(2,3)],0,0,(some [(.int .i64),.string,(.int .i64)])⟩) (.node .nil (some ⟨1,8,(some [.nilf]),.other,[],0,0,none⟩) .nil)) (some ⟨1,24,(some [.nils]),.slice,[],29,0,none⟩) (.node (.node .nil (some ⟨1,24,(some [.nils]),.slice,[],22,0,none⟩) .nil) (some ⟨1,8,(some [.nilf]),.other,[],0,0,none⟩) (.node .nil (some ⟨1,8,(some [.nilf]),.other,[],0,0,none⟩) .nil))))) (some ⟨1,8,(some [.nilf]),.other,[],0,0,none⟩) (.node (.node (.node (.node (.node (.node .nil (some ⟨1,8,(some [.nilp]),.other,[],0,0,none⟩) .nil) (some ⟨1,8,(some [.nilf]),.other,[],0,0,none⟩) .nil) (some ⟨1,8,(some [.nilf]),.other,[],0,0,none⟩) (.node .nil (some ⟨1,8,(some [.nilf]),.other,[],0,0,none⟩) .nil)) (some ⟨1,8,(some [.nilp]),.pointer,[],128,0,none⟩) (.node (.node .nil (some ⟨1,8,(some [.nilf]),.other,[],0,0,none⟩) .nil) (some ⟨1,8,(some [.nilp]),.pointer,[],68,0,none⟩) (.node .nil (some ⟨1,8,(some [.nilf]),.other,[],0,0,none⟩) .nil))) (some ⟨1,16,(some [.str []]),.string,[],0,0,none⟩) (.node (.node (.node .nil (some ⟨1,8,(some [.nilf]),.other,[],0,0,none⟩) .nil) (some ⟨1,8,(some [.nilf]),.other,[],0,0,none⟩) (.node .nil (some ⟨1,8,(some [.nilf]),.other,[],0,0,none⟩) .nil)) (some ⟨1,0,(some [.top]),.other,[],0,0,none⟩) (.node (.node .nil (some ⟨1,8,(some [.nilf]),.other,[],0,0,none⟩) .nil) (some ⟨1,8,(some [.nilf]),.other,[],0,0,none⟩) (.node .nil (some ⟨1,1,(some [.int .u8 0]),.int .u8,[],0,0,none⟩) .nil)))) (some ⟨1,1,(some [.int .u8 0]),.int .u8,[],0,0,none⟩) (.node (.node (.node (.node .nil (some ⟨0,0,(some []),.struct,[],0,0,(some [])⟩) .nil) (some ⟨1,0,(some [.top]),.other,[],0,0,none⟩) (.node .nil (some ⟨10,80,(some [.int .i64 0,.int .i64 0,.int .i64 0,.int .i64 0,.int .i64 0,.int .i64 0,.int .i64 0,.int .i64 0,.int .i64 0,.int .i64 0]),.array,[],3,10,(some (List.replicate 10 (.int .i64)))⟩) .nil)) (some ⟨1,4,(some [.int .i32 0]),.int .i32,[],0,0,none⟩) (.node (.node .nil (some ⟨1,8,(some [.nilf]),.other,[],0,0,none⟩) .nil) (some ⟨1,8,(some [.nilp]),.pointer,[],56,0,none⟩) (.node .nil (some ⟨0,0,(some []),.array,[],16,0,(some (List.replicate 0 .pointer))⟩) .nil))) (some ⟨2,24,(some [.str [],.int .u64 0]),.struct,[(0,9),(1,12)],0,0,none⟩) (.node (.node (.node .nil (some ⟨1,8,(some [.nilf]),.other,[],0,0,none⟩) .nil) (some ⟨1,0,(some [.top]),.other,[],0,0,none⟩) (.node .nil (some ⟨1,8,(some [.nilf]),.other,[],0,0,none⟩) .nil)) (some ⟨7,104,(some [.int .i64 0,.str [],.nils,.bool false,.bool false,.nils,.nils]),.struct,[(0,3),(1,9),(2,27),(3,4),(4,4),(5,22),(6,22)],0,0,(some [(.int .i64),.string,.slice,.bool,.bool,.slice,.slice])⟩) (.node (.node .nil (some ⟨1,8,(some [.nilf]),.other,[],0,0,none⟩) .nil) (some ⟨1,8,(some [.nilf]),.other,[],0,0,none⟩) (.node .nil (some ⟨1,4,(some [.int .i32 0]),.int .i32,[],0,0,none⟩) .nil)))))) (some ⟨1,0,(some [.top]),.other,[],0,0,none⟩) (.node (.node (.node (.node (.node (.node (.node .nil (some ⟨11,48,(some [.int .u64 0,.int .u64 0,.int .u32 0,.int .u8 0,.int .u8 0,.int .u8 0,.int .u8 0,.nilf,.nilp,.int .i32 0,.int .i32 0]),.struct,[(0,12),(1,12),(2,120),(3,121),(4,5),(5,5),(6,122),(7,123),(8,124),(9,125),(10,126)],0,0,none⟩) .nil) (some ⟨1,8,(some [.nilf]),.other,[],0,0,none⟩) .nil) (some ⟨1,8,(some [.nilf]),.other,[],0,0,none⟩) (.node .nil (some ⟨1,24,(some [.nils]),.slice,[],3,0,none⟩) .nil)) (some ⟨1,8,(some [.nilp]),.pointer,[],119,0,none⟩) (.node (.node .nil (some ⟨1,8,(some [.nilf]),.other,[],0,0,none⟩) .nil) (some ⟨1,8,(some [.nilf]),.other,[],0,0,none⟩) (.node .nil (some ⟨1,8,(some [.nilf]),.other,[],0,0,none⟩) .nil))) (some ⟨4,24,(some [.int .i64 0,.int .i64 0,.bool false,.int .u8 0]),.struct,[(0,2),(1,3),(2,4),(3,6)],0,0,(some [(.int .i64),(.int .i64),.bool,(.int .u8)])⟩) (.node (.node (.node .nil (some ⟨1,0,(some [.top]),.other,[],0,0,none⟩) .nil) (some ⟨1,8,(some [.nilf]),.other,[],0,0,none⟩) (.node .nil (some ⟨1,8,(some [.nilf]),.other,[],0,0,none⟩) .nil)) (some ⟨1,24,(some [.nils]),.slice,[],44,0,none⟩) (.node (.node .nil (some ⟨1,8,(some [.nilf]),.other,[],0,0,none⟩) .nil) (some ⟨5,64,(some [.str [],.nils,.int .i64 0,.int .i64 0,.bool false]),.struct,[(0,9),(1,24),(2,3),(3,3),(4,4)],0,0,(some [.string,.slice,(.int .i64),(.int .i64),.bool])⟩) (.node .nil (some ⟨1,4,(some [.int .u32 0]),.int .u32,[],0,0,none⟩) .nil)))) (some ⟨1,1,(some [.bool false]),.bool,[],0,0,none⟩) (.node (.node (.node (.node .nil (some ⟨4,56,(some [.str [],.nils,.int .i64 0,.int .i64 0]),.struct,[(0,9),(1,24),(2,3),(3,3)],0,0,(some [.string,.slice,(.int .i64),(.int .i64)])⟩) .nil) (some ⟨1,8,(some [.nilf]),.other,[],0,0,none⟩) (.node .nil (some ⟨1,8,(some [.nilf]),.other,[],0,0,none⟩) .nil)) (some ⟨1,16,(some [.nili]),.iface,[],0,0,none⟩) (.node (.node .nil (some ⟨1,0,(some [.top]),.other,[],0,0,none⟩) .nil) (some ⟨1,8,(some [.nilf]),.other,[],0,0,none⟩) (.node .nil (some ⟨4,40,(some [.nilp,.nilp,.nilp,.str []]),.struct,[(0,17),(1,17),(2,17),(3,9)],0,0,none⟩) .nil))) (some ⟨1,8,(some [.int .u64 0]),.int .u64,[],0,0,none⟩) (.node (.node (.node .nil (some ⟨1,8,(some [.nilf]),.other,[],0,0,none⟩) .nil) (some ⟨3,32,(some [.int .i64 0,.str [],.int .i64 0]),.struct,[(0,3),(1,9),(2,3)],0,0,(some [(.int .i64),.string,(.int .i64)])⟩) (.node .nil (some ⟨1,8,(some [.nilf]),.other,[],0,0,none⟩) .nil)) (some ⟨7,104,(some [.int .i64 0,.str [],.nils,.bool false,.bool false,.nils,.nils]),.struct,[(0,3),(1,9),(2,27),(3,4),(4,4),(5,22),(6,22)],0,0,(some [(.int .i64),.string,.slice,.bool,.bool,.slice,.slice])⟩) (.node (.node .nil (some ⟨1,8,(some [.nilf]),.other,[],0,0,none⟩) .nil) (some ⟨1,8,(some [.nilf]),.other,[],0,0,none⟩) (.node .nil (some ⟨1,8,(some [.nilp]),.pointer,[],5,0,none⟩) .nil))))) (some ⟨1,8,(some [.int .i64 0]),.int .i64,[],0,0,none⟩) (.node (.node (.node (.node (.node .nil (some ⟨1,8,(some [.nilf]),.other,[],0,0,none⟩) .nil) (some ⟨1,8,(some [.nilf]),.other,[],0,0,none⟩) (.node .nil (some ⟨1,8,(some [.nilf]),.other,[],0,0,none⟩) .nil)) (some ⟨1,8,(some [.nilp]),.struct,[(0,17)],0,0,none⟩) (.node (.node .nil (some ⟨1,8,(some [.nilf]),.other,[],0,0,none⟩) .nil) (some ⟨1,8,(some [.nilf]),.other,[],0,0,none⟩) (.node .nil (some ⟨1,8,(some [.nilf]),.other,[],0,0,none⟩) .nil))) (some ⟨1,16,(some [.str []]),.string,[],0,0,none⟩) (.node (.node (.node .nil (some ⟨1,8,(some [.nilf]),.other,[],0,0,none⟩) .nil) (some ⟨1,8,(some [.nilf]),.other,[],0,0,none⟩) (.node .nil (some ⟨1,8,(some [.nilf]),.other,[],0,0,none⟩) .nil)) (some ⟨1,8,(some [.nilf]),.other,[],0,0,none⟩) (.node (.node .nil (some ⟨1,8,(some [.nilf]),.other,[],0,0,none⟩) .nil) (some ⟨1,8,(some [.nilf]),.other,[],0,0,none⟩) (.node .nil (some ⟨1,1,(some [.int .u8 0]),.int .u8,[],0,0,none⟩) .nil)))) (some ⟨1,1,(some [.int .u8 0]),.int .u8,[],0,0,none⟩) (.node (.node (.node (.node .nil (some ⟨0,0,(some []),.struct,[],0,0,(some [])⟩) .nil) (some ⟨1,8,(some [.nilf]),.other,[],0,0,none⟩) (.node .nil (some ⟨1,8,(some [.nilf]),.other,[],0,0,none⟩) .nil)) (some ⟨1,24,(some [.nils]),.slice,[],9,0,none⟩) (.node (.node .nil (some ⟨1,8,(some [.nilf]),.other,[],0,0,none⟩) .nil) (some ⟨1,8,(some [.nilf]),.other,[],0,0,none⟩) (.node .nil (some ⟨0,0,(some []),.struct,[(0,117)],0,0,none⟩) .nil))) (some ⟨2,24,(some [.str [],.int .u64 0]),.struct,[(0,9),(1,12)],0,0,none⟩) (.node (.node (.node .nil (some ⟨1,8,(some [.nilf]),.other,[],0,0,none⟩) .nil) (some ⟨1,8,(some [.nilf]),.other,[],0,0,none⟩) (.node .nil (some ⟨1,8,(some [.nilf]),.other,[],0,0,none⟩) .nil)) (some ⟨1,0,(some [.top]),.other,[],0,0,none⟩) (.node (.node .nil (some ⟨1,8,(some [.nilf]),.other,[],0,0,none⟩) .nil) (some ⟨1,8,(some [.nilf]),.other,[],0,0,none⟩) (.node .nil (some ⟨1,4,(some [.int .i32 0]),.int .i32,[],0,0,none⟩) .nil)))))))
theorem tyOk:tyT.allB (tiOk Tryz.prog) id=true:=by decide +kernel
def cx:Cx:=⟨tyT.get⟩
theorem cxTi:∀ t i,cx.ti t=some i→mkTi Tryz.prog t=some i:=λt i h=>tiOk_eq (PT.allB_get tyT id tyOk t i h)
theorem cxOrd:Tryz.prog.follows .mixedOrders=true:=by decide +kernel
end
mutual
def renV (ρ : Nat → Nat) : AV → AV
 | .ptr r v off => .ptr (ρ r) v off
 | .slice r v off len sz => .slice (ρ r) v off len sz
 | .own r len sz => .own (ρ r) len sz
 | .agg xs => .agg (renVs ρ xs)
 | .tuple xs => .tuple (renVs ρ xs)
 | .func f a b => .func f (renVs ρ a) (renVs ρ b)
 | .iface t v => .iface t (renV ρ v)
 | .top => .top
 | .int k n => .int k n
 | .resid k q r => .resid k q r
 | .bool b => .bool b
 | .str s => .str s
 | .nilp => .nilp
 | .nils => .nils
 | .nilf => .nilf
 | .nili => .nili
 | .vec n sz c => .vec n sz c
 | .vptr c => .vptr c
def renVs (ρ : Nat → Nat) : List AV → List AV
 | []=>[]
 | x::xs=>renV ρ x::renVs ρ xs
end
mutual
theorem qEu {m m0 : Mp} {ρ : Nat → Nat} {n : Nat} (h : ∀ i v p, i < n → m (ρ i) v = some p → m0 i v = some p) (hf : ∀ i p, m.froz i = some p → m0.froz i = some p) : ∀ (x : AV) (c : Value), below n x = true → VR m (renV ρ x) c → VR m0 x c
 | .top,_,_,_=>by simp only [VR]
 | .int ..,_,_,e=>by simpa only [VR,renV] using e
 | .resid ..,_,_,e=>by simpa only [VR,renV] using e
 | .bool _,_,_,e=>by simpa only [VR,renV] using e
 | .str _,_,_,e=>by simpa only [VR,renV] using e
 | .nilp,_,_,e=>by simpa only [VR,renV] using e
 | .nils,_,_,e=>by simpa only [VR,renV] using e
 | .nilf,_,_,e=>by simpa only [VR,renV] using e
 | .nili,_,_,e=>by simpa only [VR,renV] using e
 | .vec ..,_,_,e=>by
  simp only [VR,renV] at e ⊢
  obtain ⟨o,a,cap,j,k,l,u⟩:=e
  exact ⟨o,a,cap,j,k,l,λz=>let ⟨i,B,off,all,q,r⟩:=u z; ⟨i,B,off,all,hf _ _ q,r⟩⟩
 | .vptr ..,_,_,e=>by
  simp only [VR,renV] at e ⊢
  obtain ⟨i,B,off,all,q,r⟩:=e
  exact ⟨i,B,off,all,hf _ _ q,r⟩
 | .ptr r v off,_,g,e=>by
  simp only [VR,renV,below,Nat.blt_eq] at e g ⊢
  obtain ⟨B,N,j,k⟩:=e
  exact ⟨B,N,h _ _ _ g j,k⟩
 | .slice r v off len sz,_,g,e=>by
  simp only [VR,renV,below,Nat.blt_eq] at e g ⊢
  obtain ⟨B,N,cap,j,k⟩:=e
  exact ⟨B,N,cap,h _ _ _ g j,k⟩
 | .own r len sz,_,g,e=>by
  simp only [VR,renV,below,Nat.blt_eq] at e g ⊢
  rcases e with e | ⟨B,N,cap,j,k⟩
  ·exact .inl e
  ·exact .inr ⟨B,N,cap,h _ _ _ g j,k⟩
 | .agg xs,c,g,e=>by
  simp only [VR,renV] at e ⊢
  obtain ⟨ys,j,k⟩:=e
  exact ⟨ys,j,qB4 h hf xs _ (by simpa only [below] using g) k⟩
 | .tuple xs,c,g,e=>by
  simp only [VR,renV] at e ⊢
  obtain ⟨ys,j,k⟩:=e
  exact ⟨ys,j,qB4 h hf xs _ (by simpa only [below] using g) k⟩
 | .func f a b,c,g,e=>by
  simp only [VR,renV] at e ⊢
  simp only [below,Bool.and_eq_true] at g
  obtain ⟨ys,zs,j,k,l⟩:=e
  exact ⟨ys,zs,j,qB4 h hf a _ g.1 k,qB4 h hf b _ g.2 l⟩
 | .iface t v,c,g,e=>by
  simp only [VR,renV] at e ⊢
  obtain ⟨d,j,k⟩:=e
  exact ⟨d,j,qEu h hf v _ (by simpa only [below] using g) k⟩
theorem qB4 {m m0 : Mp} {ρ : Nat → Nat} {n : Nat} (h : ∀ i v p, i < n → m (ρ i) v = some p → m0 i v = some p) (hf : ∀ i p, m.froz i = some p → m0.froz i = some p) : ∀ (xs : List AV) (cs : List Value), belows n xs = true → VRs m (renVs ρ xs) cs → VRs m0 xs cs
 | [],_,_,e=>by simpa only [VRs,renVs] using e
 | x::xs,cs,g,e=>by
  simp only [VRs,renVs] at e ⊢
  simp only [belows,Bool.and_eq_true] at g
  obtain ⟨y,ys,rfl,j,k⟩:=e
  exact ⟨y,ys,rfl,qEu h hf x y g.1 j,qB4 h hf xs ys g.2 k⟩
end
mutual
theorem qGh {m m0 : Mp} {ρ : Nat → Nat} {n : Nat} (h : ∀ i v p, i < n → m0 i v = some p → m (ρ i) v = some p) (hf : ∀ i p, m0.froz i = some p → m.froz i = some p) : ∀ (x : AV) (c : Value), below n x = true → VR m0 x c → VR m (renV ρ x) c
 | .top,_,_,_=>by simp only [VR,renV]
 | .int ..,_,_,e=>by simpa only [VR,renV] using e
 | .resid ..,_,_,e=>by simpa only [VR,renV] using e
 | .bool _,_,_,e=>by simpa only [VR,renV] using e
 | .str _,_,_,e=>by simpa only [VR,renV] using e
 | .nilp,_,_,e=>by simpa only [VR,renV] using e
 | .nils,_,_,e=>by simpa only [VR,renV] using e
 | .nilf,_,_,e=>by simpa only [VR,renV] using e
 | .nili,_,_,e=>by simpa only [VR,renV] using e
 | .vec ..,_,_,e=>by
  simp only [VR,renV] at e ⊢
  obtain ⟨o,a,cap,j,k,l,u⟩:=e
  exact ⟨o,a,cap,j,k,l,λz=>let ⟨i,B,off,all,q,r⟩:=u z; ⟨i,B,off,all,hf _ _ q,r⟩⟩
 | .vptr ..,_,_,e=>by
  simp only [VR,renV] at e ⊢
  obtain ⟨i,B,off,all,q,r⟩:=e
  exact ⟨i,B,off,all,hf _ _ q,r⟩
 | .ptr r v off,_,g,e=>by
  simp only [VR,renV,below,Nat.blt_eq] at e g ⊢
  obtain ⟨B,N,j,k⟩:=e
  exact ⟨B,N,h _ _ _ g j,k⟩
 | .slice r v off len sz,_,g,e=>by
  simp only [VR,renV,below,Nat.blt_eq] at e g ⊢
  obtain ⟨B,N,cap,j,k⟩:=e
  exact ⟨B,N,cap,h _ _ _ g j,k⟩
 | .own r len sz,_,g,e=>by
  simp only [VR,renV,below,Nat.blt_eq] at e g ⊢
  rcases e with e | ⟨B,N,cap,j,k⟩
  ·exact .inl e
  ·exact .inr ⟨B,N,cap,h _ _ _ g j,k⟩
 | .agg xs,c,g,e=>by
  simp only [VR,renV] at e ⊢
  obtain ⟨ys,j,k⟩:=e
  exact ⟨ys,j,qCi h hf xs _ (by simpa only [below] using g) k⟩
 | .tuple xs,c,g,e=>by
  simp only [VR,renV] at e ⊢
  obtain ⟨ys,j,k⟩:=e
  exact ⟨ys,j,qCi h hf xs _ (by simpa only [below] using g) k⟩
 | .func f a b,c,g,e=>by
  simp only [VR,renV] at e ⊢
  simp only [below,Bool.and_eq_true] at g
  obtain ⟨ys,zs,j,k,l⟩:=e
  exact ⟨ys,zs,j,qCi h hf a _ g.1 k,qCi h hf b _ g.2 l⟩
 | .iface t v,c,g,e=>by
  simp only [VR,renV] at e ⊢
  obtain ⟨d,j,k⟩:=e
  exact ⟨d,j,qGh h hf v _ (by simpa only [below] using g) k⟩
theorem qCi {m m0 : Mp} {ρ : Nat → Nat} {n : Nat} (h : ∀ i v p, i < n → m0 i v = some p → m (ρ i) v = some p) (hf : ∀ i p, m0.froz i = some p → m.froz i = some p) : ∀ (xs : List AV) (cs : List Value), belows n xs = true → VRs m0 xs cs → VRs m (renVs ρ xs) cs
 | [],_,_,e=>by simpa only [VRs,renVs] using e
 | x::xs,cs,g,e=>by
  simp only [VRs,renVs] at e ⊢
  simp only [belows,Bool.and_eq_true] at g
  obtain ⟨y,ys,rfl,j,k⟩:=e
  exact ⟨y,ys,rfl,qGh h hf x y g.1 j,qCi h hf xs ys g.2 k⟩
end
mutual
theorem qGi : ∀ x : AV, renV id x = x
 | .top | .int .. | .resid .. | .bool _ | .str _ | .nilp | .nils | .nilf | .nili | .vec .. | .vptr .. | .ptr .. | .slice .. | .own .. => by simp [renV]
 | .agg xs=>by simp only [renV]; rw [qCj xs]
 | .tuple xs=>by simp only [renV]; rw [qCj xs]
 | .func _ a b=>by simp only [renV]; rw [qCj a,qCj b]
 | .iface _ v=>by simp only [renV]; rw [qGi v]
theorem qCj : ∀ xs : List AV, renVs id xs = xs
 | []=>rfl
 | x::xs=>by simp only [renVs]; rw [qGi x,qCj xs]
end
theorem qBe (ρ : Nat → Nat) : ∀ xs : List AV, (renVs ρ xs).length = xs.length
 | []=>rfl
 | x::xs=>by simp only [renVs,List.length_cons,qBe ρ xs]
theorem qBx (ρ : Nat → Nat) : ∀ (xs : List AV) (k : Nat), (renVs ρ xs).take k = renVs ρ (xs.take k)
 | [],k=>by simp [renVs]
 | x::xs,0=>by simp [renVs]
 | x::xs,k+1=>by simp only [renVs,List.take_succ_cons,qBx ρ xs k]
mutual
theorem qLg (ρ : Nat → Nat) : ∀ x : AV, pur x = true → renV ρ x = x
 | .top,_ | .int ..,_ | .resid ..,_ | .bool _,_ | .str _,_ | .nilp,_ | .nils,_ | .nilf,_ | .nili,_ | .vec ..,_ | .vptr ..,_=>by simp [renV]
 | .ptr ..,h | .slice ..,h | .own ..,h=>by simp [pur] at h
 | .agg xs,h=>by simp only [pur,renV] at h ⊢; rw [qC0 ρ xs h]
 | .tuple xs,h=>by simp only [pur,renV] at h ⊢; rw [qC0 ρ xs h]
 | .func _ a b,h=>by simp only [pur,renV,Bool.and_eq_true] at h ⊢; rw [qC0 ρ a h.1,qC0 ρ b h.2]
 | .iface _ v,h=>by simp only [pur,renV] at h ⊢; rw [qLg ρ v h]
theorem qC0 (ρ : Nat → Nat) : ∀ xs : List AV, purs xs = true → renVs ρ xs = xs
 | [],_=>rfl
 | x::xs,h=>by simp only [purs,renVs,Bool.and_eq_true] at h ⊢; rw [qLg ρ x h.1,qC0 ρ xs h.2]
end
noncomputable def at0 (rs:LN) (i:Nat):Nat:=match nth rs i with | some r=>r | none=>0
def RB (rs:LN) (n:Nat) (b c:Blk):Prop:=b.ro=false∧((c=b∧purs b.cells=true)∨(belows n b.cells=true∧c=⟨renVs (at0 rs) b.cells,b.minv,false⟩))
def RBs (rs : LN) (n : Nat) (M : List Blk) : Nat → List Blk → Prop
 | _,[]=>True
 | i,b::L=>(match nth M (at0 rs i) with | some c=>RB rs n b c | none=>False)∧RBs rs n M (i+1) L
theorem qBj {rs : LN} {n : Nat} {M : List Blk} : ∀ {L : List Blk} {i j : Nat} {b : Blk}, RBs rs n M i L → L[j]? = some b → ∃ c, M[at0 rs (i + j)]? = some c ∧ RB rs n b c
 | [],i,j,b,_,h=>by simp at h
 | k::L,i,j,b,hr,h=>by
  cases j with
  | zero =>
   simp at h
   subst h
   have a:=hr.1
   split at a
   ·rename_i c hc; exact ⟨c,by rw [← qCb]; exact hc,a⟩
   ·exact a.elim
  | succ j =>
   obtain ⟨c,a,g⟩:=qBj hr.2 (by simpa using h)
   exact ⟨c,by rw [show i+(j+1)=i+1+j by omega]; exact a,g⟩
theorem RB.cells {rs:LN} {n:Nat} {b c:Blk} (h:RB rs n b c):b.ro=false∧c.ro=false∧c.minv=b.minv∧belows n b.cells=true∧c.cells=renVs (at0 rs) b.cells:=by
 obtain ⟨g,⟨rfl,a⟩ | ⟨a,rfl⟩⟩:=h
 ·exact ⟨g,g,rfl,qA _ a,(qC0 _ _ a).symm⟩
 ·exact ⟨g,rfl,rfl,a,rfl⟩
def SameB (rs : LN) : Nat → List Blk → List Blk → Prop
 | _,[],_=>True
 | _,_::_,[]=>False
 | i,b::M,c::M'=>(c=b∨(rs.any λr=>Nat.beq r i)=true)∧SameB rs (i+1) M M'
theorem qGf {rs : LN} : ∀ {M M' : List Blk} {i j : Nat}, SameB rs i M M' → j < M.length → (∀ r ∈ rs, r ≠ i + j) → M'[j]? = M[j]?
 | [],_,i,j,_,h,_=>by simp at h
 | b::M,[],i,j,h,_,_=>h.elim
 | b::M,c::M',i,j,h,hj,g=>by
  cases j with
  | zero =>
   rcases h.1 with a | a
   ·rw [a]; rfl
   ·obtain ⟨r,hr,he⟩:=List.any_eq_true.1 a
    exact absurd (Nat.eq_of_beq_eq_true he) (g r hr)
  | succ j =>
   simp only [List.getElem?_cons_succ]
   exact qGf h.2 (by simpa using hj) λr hr=>by rw [show i+1+j=i+(j+1) by omega]; exact g r hr
def frB (n k k' : Nat) : Nat → LN → Bool
 | _,[]=>true
 | i,r::l=>(bif Nat.blt i n then Nat.blt r k else Nat.ble k r && Nat.blt r k') && (l.all λs => !Nat.beq s r) && frB n k k' (i+1) l
def frOk (n n' k k':Nat) (rs:LN):Bool:=Nat.beq rs.length n' && Nat.ble n n' && Nat.ble k k' && Nat.ble k' roots && Nat.ble n' roots && frB n k k' 0 rs
theorem qFl {n k k' : Nat} : ∀ {l : LN} {i : Nat}, frB n k k' i l = true → (∀ (j r : Nat), l[j]? = some r → (i + j < n → r < k) ∧ (n ≤ i + j → k ≤ r ∧ r < k')) ∧ (∀ (j j' r : Nat), l[j]? = some r → l[j']? = some r → j = j')
 | [],i,_=>⟨λj r h=>by simp at h,λj j' r h=>by simp at h⟩
 | b::l,i,h=>by
  simp only [frB,Bool.and_eq_true] at h
  obtain ⟨⟨a,c⟩,g⟩:=h
  obtain ⟨m,o⟩:=qFl g
  have hne:∀ j:Nat,l[j]? ≠ some b:=by
   intro j hj
   have:=List.all_eq_true.1 c b (List.mem_of_getElem? hj)
   simp at this
  refine ⟨?_,?_⟩
  ·intro j r hj
   cases j with
   | zero =>
    simp at hj; subst hj
    refine ⟨λhlt=>?_,λhge=>?_⟩
    ·have:Nat.blt i n=true:=by simpa using hlt
     rw [this] at a; simpa using a
    ·have:Nat.blt i n=false:=by
      cases hq:Nat.blt i n with
      | false=>rfl
      | true=>rw [Nat.blt_eq] at hq; omega
     rw [this] at a; simpa using a
   | succ j =>
    have:=m j r (by simpa using hj)
    rw [show i+(j+1)=i+1+j by omega]
    exact this
  ·intro j j' r hj hj'
   cases j with
   | zero =>
    cases j' with
    | zero=>rfl
    | succ j'=>simp at hj hj'; subst hj; exact absurd hj' (hne j')
   | succ j =>
    cases j' with
    | zero=>simp at hj hj'; subst hj'; exact absurd hj (hne j)
    | succ j'=>rw [o j j' r (by simpa using hj) (by simpa using hj')]
theorem qB {L:List Blk} (hl:L.length≤roots) (r:Nat):(mkH L).t.get r=L[r]? := by
 show (mkT 0 L).get r=_
 rw [qBa _ _ _ (by omega)]; simp
theorem frame {P : Program} {g : Nat} {ys : List AV} {L L' : List Blk} {v : AV} (h : CallT P g ys (mkH L) none v (mkH L')) (rs : LN) (M M' : List Blk)
 (hc:frOk L.length L'.length M.length M'.length rs=true) (hys:belows L.length ys=true) (hL:RBs rs L.length M 0 L) (hL':RBs rs L'.length M' 0 L') (hv:below L'.length v=true) (hS:SameB rs 0 M M') :
 CallT P g (renVs (at0 rs) ys) (mkH M) none (renV (at0 rs) v) (mkH M'):=by
 refine ⟨?_,h.2⟩
 intro m w base args hargs rw
 simp only [frOk,Bool.and_eq_true,Nat.beq_eq,Nat.ble_eq] at hc
 obtain ⟨⟨⟨⟨⟨c1,c2⟩,c3⟩,T⟩,c6⟩,U⟩:=hc
 obtain ⟨hbd,hinj⟩:=qFl U
 have hat:∀ i,i < L'.length→∃ r,rs[i]? = some r∧at0 rs i=r:=by
  intro i hi
  have hi':i < rs.length:=by omega
  refine ⟨rs[i],List.getElem?_eq_getElem hi',?_⟩
  unfold at0
  rw [qCb,List.getElem?_eq_getElem hi']
 have hlow:∀ i,i < L.length→at0 rs i < M.length:=by
  intro i hi
  obtain ⟨r,a,q⟩:=hat i (by omega)
  rw [q]
  exact (hbd i r a).1 (by omega)
 have hhigh:∀ i,L.length≤i→i < L'.length→M.length≤at0 rs i:=by
  intro i hi hi'
  obtain ⟨r,a,q⟩:=hat i hi'
  rw [q]
  exact ((hbd i r a).2 (by omega)).1
 have hinj':∀ i j,i < L'.length→j < L'.length→at0 rs i=at0 rs j→i=j:=by
  intro i j hi hj e
  obtain ⟨r,a,q⟩:=hat i hi
  obtain ⟨s,V,W⟩:=hat j hj
  rw [q,W] at e
  subst e
  exact hinj i j r a V
 have hMget:=qB (L:=M) (by omega)
 have hM'get:=qB (L:=M') T
 have hroomL:L.length≤roots∧L'.length≤roots:=by omega
 have hLget:=qB (L:=L) hroomL.1
 have hL'get:=qB (L:=L') hroomL.2
 have hnoM:∀ r v,M.length≤r→m r v=none:=by
  intro r v hr
  cases e:m r v with
  | none=>rfl
  | some p =>
   obtain ⟨b,k,_⟩:=rw.dom r v p.1 p.2 e
   rw [hMget,List.getElem?_eq_none hr] at k; cases k
 let m0:Mp:=⟨λi v=>if i < L.length then m (at0 rs i) v else none,m.froz⟩
 have l:∀ {i v p},m0 i v=some p→i < L.length∧m (at0 rs i) v=some p:=by
  intro i v p e
  have e:(if i < L.length then m (at0 rs i) v else none)=some p:=e
  by_cases hi:i < L.length
  ·rw [if_pos hi] at e; exact ⟨hi,e⟩
  ·rw [if_neg hi] at e; cases e
 have z:∀ i v p,i < L.length→m (at0 rs i) v=some p→m0 i v=some p:=by
  intro i v p hi e
  show (if i < L.length then m (at0 rs i) v else none)=some p
  rw [if_pos hi]; exact e
 have Q:RW m0 (mkH L) w base:=by
  refine ⟨?_,?_,?_,?_,?_,rw.frz,?_,rw.ffin,rw.base_le,hroomL.1⟩
  ·intro i b v B N k hm a q
   rw [hLget] at k
   obtain ⟨hi,hm⟩:=l hm
   obtain ⟨c,n,u⟩:=qBj hL k
   rw [Nat.zero_add] at n
   obtain ⟨F,e2,e3,e4,e5⟩:=u.cells
   obtain ⟨cs,ty,fr,G,p2,p3,p4,p5⟩:=rw.blk (at0 rs i) c v B N (by rw [hMget]; exact n) hm (by rw [e3]; exact a) (by rw [e5,qBe]; exact q)
   refine ⟨cs,ty,fr,G,p2,p3,λ_=>p4 e2,?_⟩
   rw [e5,qBx] at p5
   exact qB4 z (λ_ _ h=>h) _ _ (qB6 v e4) p5
  ·intro i v B N hm
   obtain ⟨hi,hm⟩:=l hm
   obtain ⟨c0,I,K,g3,Y⟩:=rw.dom _ _ _ _ hm
   have k:L[i]? = some L[i]:=List.getElem?_eq_getElem hi
   obtain ⟨c,n,u⟩:=qBj hL k
   rw [Nat.zero_add] at n
   rw [hMget,n] at I
   cases I
   obtain ⟨F,e2,e3,e4,e5⟩:=u.cells
   exact ⟨_,by rw [hLget]; exact k,by rw [e5,qBe] at K; exact K,g3,λ_=>Y e2⟩
  ·intro i v B N i' v' N' hm hm' hB
   obtain ⟨hi,hm⟩:=l hm
   obtain ⟨hi',hm'⟩:=l hm'
   exact hinj' i i' (by omega) (by omega) (rw.sep _ _ _ _ _ _ _ hm hm' hB)
  ·intro r hr
   have hr:L.length≤r:=hr
   rw [hLget,List.getElem?_eq_none hr]
  ·intro i v B N hm
   exact rw.vle _ _ _ _ (l hm).2
  ·intro i B cells r v N b hi hm k
   obtain ⟨hr,hm⟩:=l hm
   rw [hLget] at k
   obtain ⟨c,n,u⟩:=qBj hL k
   rw [Nat.zero_add] at n
   obtain ⟨F,e2,_⟩:=u.cells
   have:=rw.fsep i B cells _ v N c hi hm (by rw [hMget]; exact n)
   rw [e2] at this; cases this
 have hargs0:VRs m0 ys args.toList:=qB4 z (λ_ _ h=>h) _ _ hys hargs
 refine Calls.mono (h.1 m0 w base args hargs0 Q) ?_
 intro x w' hend
 have hsep:∀ {r v B N},m r v=some (B,N)→(∀ i,i < L.length→at0 rs i ≠ r)→∀ i v' N',m0 i v'=some (B,N')→B < base:=by
  intro r v B N hm hr i v' N' hi
  obtain ⟨hi,hm'⟩:=l hi
  rcases Nat.lt_or_ge B base with hlt | hge
  ·exact hlt
  ·exact absurd (rw.sep _ _ _ _ _ _ _ hm' hm hge) (hr i hi)
 obtain ⟨A,c,rfl,o,st,hvc⟩:=hend
 have Z:∀ {i v p},A i v=some p→i < L'.length:=by
  intro i v p e
  obtain ⟨b,k,_⟩:=o.dom i v p.1 p.2 e
  rw [hL'get] at k
  exact (List.getElem?_eq_some_iff.1 k).1
 have hσ:∀ r,(∃ i,i < L'.length∧at0 rs i=r)∨(∀ i,i < L'.length→at0 rs i ≠ r):=by
  intro r
  rcases Classical.em (∃ i,i < L'.length∧at0 rs i=r) with h | h
  ·exact .inl h
  ·exact .inr λi hi e=>h ⟨i,hi,e⟩
 let J:Mp:=⟨λr v=>if h:∃ i,i < L'.length∧at0 rs i=r then A (Classical.choose h) v else m r v,A.froz⟩
 have hin:∀ {i v},i < L'.length→J (at0 rs i) v=A i v:=by
  intro i v hi
  have hex:∃ j,j < L'.length∧at0 rs j=at0 rs i:=⟨i,hi,rfl⟩
  show (if h:∃ j,j < L'.length∧at0 rs j=at0 rs i then A (Classical.choose h) v else m (at0 rs i) v)=_
  rw [dif_pos hex]
  have hs:=Classical.choose_spec hex
  rw [hinj' _ _ hs.1 hi hs.2]
 have hout:∀ {r v},(∀ i,i < L'.length→at0 rs i ≠ r)→J r v=m r v:=by
  intro r v hr
  show (if h:∃ j,j < L'.length∧at0 rs j=r then A (Classical.choose h) v else m r v)=_
  rw [dif_neg]
  rintro ⟨j,a,q⟩
  exact hr j a q
 have hfwd:∀ i v p,i < L'.length→A i v=some p→J (at0 rs i) v=some p:=λi v p hi e=>by rw [hin hi]; exact e
 have hsub:Sub m J:=by
  refine ⟨?_,λi p hp=>st.sub.2 i p hp⟩
  intro r v p hp
  rcases hσ r with ⟨i,hi,rfl⟩ | hr
  ·rw [hin hi]
   rcases Nat.lt_or_ge i L.length with a | a
   ·exact st.sub.1 i v p (z i v p a hp)
   ·have:=hnoM _ v (hhigh i a hi)
    rw [this] at hp; cases hp
  ·rw [hout hr]; exact hp
 have hother:∀ {r v B N},(∀ i,i < L'.length→at0 rs i ≠ r)→m r v=some (B,N)→w'.heap[B]? = w.heap[B]? := by
  intro r v B N hr hm
  obtain ⟨b,n,u,C,O⟩:=rw.dom r v B N hm
  exact st.same B C λi v' N' e=>hsep hm (λi hi=>hr i (by omega)) i v' N' e
 have hsameM:∀ {r b},(∀ i,i < L'.length→at0 rs i ≠ r)→r < M.length→M'[r]? = some b→M[r]? = some b:=by
  intro r b hr hlt k
  rw [← qGf hS hlt]
  ·exact k
  ·intro s hs
   obtain ⟨j,hj⟩:=List.mem_iff_getElem?.1 hs
   have hjl:j < L'.length:=by
    have:=(List.getElem?_eq_some_iff.1 hj).1
    omega
   obtain ⟨s',a,q⟩:=hat j hjl
   rw [hj] at a
   cases a
   rw [Nat.zero_add,← q]
   exact hr j hjl
 have hltM:∀ {r v p},m r v=some p→r < M.length:=by
  intro r v p hm
  rcases Nat.lt_or_ge r M.length with a | a
  ·exact a
  ·rw [hnoM r v a] at hm; cases hm
 have hsep2:∀ {i r v v' B N N'},i < L'.length→(∀ i,i < L'.length→at0 rs i ≠ r)→A i v=some (B,N)→m r v'=some (B,N')→base≤B→False:=by
  intro i r v v' B N N' hi hr a q hB
  rcases st.ext i v B N a with ⟨D,E,S⟩ | hnew
  ·exact absurd (hsep q (λi hi=>hr i (by omega)) i D E S) (by omega)
  ·obtain ⟨_,_,_,C,_⟩:=rw.dom r v' B N' q
   omega
 refine ⟨J,c,rfl,⟨?_,?_,?_,?_,?_,o.frz,?_,o.ffin,o.base_le,T⟩,⟨hsub,?_,?_,st.size,st.os,st.tape,st.output,λB hB hm=>st.same B hB λi v N e=>hm _ v N (l e).2⟩,qGh hfwd (λ_ _ h=>h) v c hv hvc⟩
 ·intro r b v B N k hm a q
  rw [hM'get] at k
  rcases hσ r with ⟨i,hi,rfl⟩ | hr
  ·rw [hin hi] at hm
   have hbl:L'[i]? = some L'[i]:=List.getElem?_eq_getElem hi
   obtain ⟨c',n,u⟩:=qBj hL' hbl
   rw [Nat.zero_add,k] at n
   cases n
   obtain ⟨F,e2,e3,e4,e5⟩:=u.cells
   rw [e3] at a
   rw [e5,qBe] at q
   obtain ⟨cs,ty,fr,G,p2,p3,p4,p5⟩:=o.blk i _ v B N (by rw [hL'get]; exact hbl) hm a q
   refine ⟨cs,ty,fr,G,p2,p3,λ_=>p4 F,?_⟩
   rw [e5,qBx]
   exact qCi hfwd (λ_ _ h=>h) _ _ (qB6 v e4) p5
  ·rw [hout hr] at hm
   have hbM:=hsameM hr (hltM hm) k
   obtain ⟨cs,ty,fr,G,p2,p3,p4,p5⟩:=rw.blk r b v B N (by rw [hMget]; exact hbM) hm a q
   exact ⟨cs,ty,fr,by rw [hother hr hm]; exact G,p2,p3,p4,VRs.mono hsub _ _ p5⟩
 ·intro r v B N hm
  rcases hσ r with ⟨i,hi,rfl⟩ | hr
  ·rw [hin hi] at hm
   obtain ⟨b,n,u,C,O⟩:=o.dom i v B N hm
   rw [hL'get] at n
   obtain ⟨c',I,K⟩:=qBj hL' n
   rw [Nat.zero_add] at I
   obtain ⟨F,e2,e3,e4,e5⟩:=K.cells
   exact ⟨c',by rw [hM'get]; exact I,by rw [e5,qBe]; exact u,C,λ_=>O F⟩
  ·rw [hout hr] at hm
   obtain ⟨b,n,u,C,O⟩:=rw.dom r v B N hm
   rw [hMget] at n
   have hlt:=(List.getElem?_eq_some_iff.1 n).1
   have hM'r:M'[r]? = some b:=by
    have hlt':r < M'.length:=by omega
    have:=hsameM (b:=M'[r]) hr hlt (List.getElem?_eq_getElem hlt')
    rw [n] at this
    rw [List.getElem?_eq_getElem hlt',← this]
   exact ⟨b,by rw [hM'get]; exact hM'r,u,Nat.lt_of_lt_of_le C st.size,O⟩
 ·intro r v B N r' v' N' hm hm' hB
  rcases hσ r with ⟨i,hi,rfl⟩ | hr
  ·rw [hin hi] at hm
   rcases hσ r' with ⟨j,hj,rfl⟩ | hr'
   ·rw [hin hj] at hm'
    rw [o.sep _ _ _ _ _ _ _ hm hm' hB]
   ·rw [hout hr'] at hm'
    exact (hsep2 hi hr' hm hm' hB).elim
  ·rw [hout hr] at hm
   rcases hσ r' with ⟨j,hj,rfl⟩ | hr'
   ·rw [hin hj] at hm'
    exact (hsep2 hj hr hm' hm hB).elim
   ·rw [hout hr'] at hm'
    exact rw.sep _ _ _ _ _ _ _ hm hm' hB
 ·intro r hr
  have hr:M'.length≤r:=hr
  rw [hM'get,List.getElem?_eq_none hr]
 ·intro r v B N hm
  rcases hσ r with ⟨i,hi,rfl⟩ | hr
  ·rw [hin hi] at hm; exact o.vle _ _ _ _ hm
  ·rw [hout hr] at hm; exact rw.vle _ _ _ _ hm
 ·intro i B cells r v N b hi hm k
  rw [hM'get] at k
  rcases hσ r with ⟨j,hj,rfl⟩ | hr
  ·rw [hin hj] at hm
   have hbl:L'[j]? = some L'[j]:=List.getElem?_eq_getElem hj
   have:=o.fsep i B cells j v N _ hi hm (by rw [hL'get]; exact hbl)
   obtain ⟨c',n,u⟩:=qBj hL' hbl
   rw [u.1] at this; cases this
  ·rw [hout hr] at hm
   have hbM:=hsameM hr (hltM hm) k
   rcases st.fext i B cells hi with hold | ⟨hB,⟨j,D,E,hj⟩ | hnew⟩
   ·exact rw.fsep i B cells r v N b hold hm (by rw [hMget]; exact hbM)
   ·exact absurd (hsep hm (λi hi=>hr i (by omega)) j D E hj) (by omega)
   ·obtain ⟨_,_,_,C,_⟩:=rw.dom r v B N hm
    omega
 ·intro r v B N hm
  rcases hσ r with ⟨i,hi,rfl⟩ | hr
  ·rw [hin hi] at hm
   rcases st.ext i v B N hm with ⟨D,E,S⟩ | hnew
   ·exact .inl ⟨D,E,(l S).2⟩
   ·exact .inr hnew
  ·rw [hout hr] at hm
   exact .inl ⟨v,N,hm⟩
 ·intro i B cells hi
  rcases st.fext i B cells hi with hold | ⟨hB,⟨j,D,E,hj⟩ | hnew⟩
  ·exact .inl hold
  ·exact .inr ⟨hB,.inl ⟨_,D,E,(l hj).2⟩⟩
  ·exact .inr ⟨hB,.inr hnew⟩
mutual
theorem qDp (ρ : Nat → Nat) : ∀ x : AV, pur (renV ρ x) = true → pur x = true
 | .top,_ | .int ..,_ | .resid ..,_ | .bool _,_ | .str _,_ | .nilp,_ | .nils,_ | .nilf,_ | .nili,_ | .vec ..,_ | .vptr ..,_=>by simp [pur]
 | .ptr ..,h | .slice ..,h | .own ..,h=>by simp [pur,renV] at h
 | .agg xs,h=>by simp only [pur,renV] at h ⊢; exact qBn ρ xs h
 | .tuple xs,h=>by simp only [pur,renV] at h ⊢; exact qBn ρ xs h
 | .func _ a b,h=>by simp only [pur,renV,Bool.and_eq_true] at h ⊢; exact ⟨qBn ρ a h.1,qBn ρ b h.2⟩
 | .iface _ v,h=>by simp only [pur,renV] at h ⊢; exact qDp ρ v h
theorem qBn (ρ : Nat → Nat) : ∀ xs : List AV, purs (renVs ρ xs) = true → purs xs = true
 | [],_=>rfl
 | x::xs,h=>by simp only [purs,renVs,Bool.and_eq_true] at h ⊢; exact ⟨qDp ρ x h.1,qBn ρ xs h.2⟩
end
def dOk (rs a D : LN) : Nat → List Blk → Prop
 | _,[]=>True
 | r,b::M=>((D.any λs=>Nat.beq s r)=true∨(purs b.cells=true∧(a.all λi => !Nat.beq (at0 rs i) r)=true))∧dOk rs a D (r+1) M
theorem qIn {rs c D : LN} : ∀ {M : List Blk} {r j : Nat} {b : Blk}, dOk rs c D r M → M[j]? = some b → r + j ∉ D → purs b.cells = true ∧ ∀ i ∈ c, at0 rs i ≠ r + j
 | [],r,j,b,_,h,_=>by simp at h
 | l::M,r,j,b,h,hj,g=>by
  cases j with
  | zero =>
   simp at hj
   subst hj
   rcases h.1 with a | ⟨a,k⟩
   ·obtain ⟨s,hs,he⟩:=List.any_eq_true.1 a
    have:=Nat.eq_of_beq_eq_true he
    subst this
    exact absurd hs g
   ·refine ⟨a,λi hi e=>?_⟩
    have:=List.all_eq_true.1 k i hi
    rw [e] at this
    simp at this
  | succ j =>
   have:=qIn h.2 (j:=j) (b:=b) (by simpa using hj) (by rw [show r+1+j=r+(j+1) by omega]; exact g)
   rw [show r+(j+1)=r+1+j by omega]
   exact this
theorem frameTh {P : Program} {g : Nat} {ys : List AV} {L : List Blk} {t : Value} {S : LN} {v : AV} (h : CallT P g ys (mkH L) (some (t, S)) v (mkH L)) (rs : LN) (M : List Blk) (D : LN)
 (hc:frOk L.length L.length M.length M.length rs=true) (hys:belows L.length ys=true) (hL:RBs rs L.length M 0 L) (hD:dOk rs S D 0 M) (v':AV) :
 CallT P g (renVs (at0 rs) ys) (mkH M) (some (t,D)) v' (mkH M):=by
 refine ⟨?_,h.2⟩
 intro m w base args hargs rw
 simp only [frOk,Bool.and_eq_true,Nat.beq_eq,Nat.ble_eq] at hc
 obtain ⟨⟨⟨⟨⟨c1,c2⟩,c3⟩,Y⟩,c6⟩,Z⟩:=hc
 obtain ⟨hbd,hinj⟩:=qFl Z
 have hat:∀ i,i < L.length→∃ r,rs[i]? = some r∧at0 rs i=r:=by
  intro i hi
  have hi':i < rs.length:=by omega
  refine ⟨rs[i],List.getElem?_eq_getElem hi',?_⟩
  unfold at0
  rw [qCb,List.getElem?_eq_getElem hi']
 have hlow:∀ i,i < L.length→at0 rs i < M.length:=by
  intro i hi
  obtain ⟨r,l,u⟩:=hat i (by omega)
  rw [u]
  exact (hbd i r l).1 (by omega)
 have hhigh:∀ i,L.length≤i→i < L.length→M.length≤at0 rs i:=by
  intro i hi hi'
  obtain ⟨r,l,u⟩:=hat i hi'
  rw [u]
  exact ((hbd i r l).2 (by omega)).1
 have hinj':∀ i j,i < L.length→j < L.length→at0 rs i=at0 rs j→i=j:=by
  intro i j hi hj e
  obtain ⟨r,l,u⟩:=hat i hi
  obtain ⟨s,h3,h4⟩:=hat j hj
  rw [u,h4] at e
  subst e
  exact hinj i j r l h3
 have hMget:=qB (L:=M) (by omega)
 have hMget:=qB (L:=M) Y
 have hroomL:L.length≤roots∧L.length≤roots:=by omega
 have hLget:=qB (L:=L) hroomL.1
 have hLget:=qB (L:=L) hroomL.2
 have hnoM:∀ r v,M.length≤r→m r v=none:=by
  intro r v hr
  cases e:m r v with
  | none=>rfl
  | some p =>
   obtain ⟨b,a,_⟩:=rw.dom r v p.1 p.2 e
   rw [hMget,List.getElem?_eq_none hr] at a; cases a
 let m0:Mp:=⟨λi v=>if i < L.length then m (at0 rs i) v else none,m.froz⟩
 have k:∀ {i v p},m0 i v=some p→i < L.length∧m (at0 rs i) v=some p:=by
  intro i v p e
  have e:(if i < L.length then m (at0 rs i) v else none)=some p:=e
  by_cases hi:i < L.length
  ·rw [if_pos hi] at e; exact ⟨hi,e⟩
  ·rw [if_neg hi] at e; cases e
 have z:∀ i v p,i < L.length→m (at0 rs i) v=some p→m0 i v=some p:=by
  intro i v p hi e
  show (if i < L.length then m (at0 rs i) v else none)=some p
  rw [if_pos hi]; exact e
 have K:RW m0 (mkH L) w base:=by
  refine ⟨?_,?_,?_,?_,?_,rw.frz,?_,rw.ffin,rw.base_le,hroomL.1⟩
  ·intro i b v B N a hm l u
   rw [hLget] at a
   obtain ⟨hi,hm⟩:=k hm
   obtain ⟨c,n,o⟩:=qBj hL a
   rw [Nat.zero_add] at n
   obtain ⟨J,e2,e3,e4,e5⟩:=o.cells
   obtain ⟨cs,ty,fr,E,p2,p3,p4,p5⟩:=rw.blk (at0 rs i) c v B N (by rw [hMget]; exact n) hm (by rw [e3]; exact l) (by rw [e5,qBe]; exact u)
   refine ⟨cs,ty,fr,E,p2,p3,λ_=>p4 e2,?_⟩
   rw [e5,qBx] at p5
   exact qB4 z (λ_ _ h=>h) _ _ (qB6 v e4) p5
  ·intro i v B N hm
   obtain ⟨hi,hm⟩:=k hm
   obtain ⟨c0,T,U,g3,g4⟩:=rw.dom _ _ _ _ hm
   have a:L[i]? = some L[i]:=List.getElem?_eq_getElem hi
   obtain ⟨c,n,o⟩:=qBj hL a
   rw [Nat.zero_add] at n
   rw [hMget,n] at T
   cases T
   obtain ⟨J,e2,e3,e4,e5⟩:=o.cells
   exact ⟨_,by rw [hLget]; exact a,by rw [e5,qBe] at U; exact U,g3,λ_=>g4 e2⟩
  ·intro i v B N i' v' N' hm hm' hB
   obtain ⟨hi,hm⟩:=k hm
   obtain ⟨hi',hm'⟩:=k hm'
   exact hinj' i i' (by omega) (by omega) (rw.sep _ _ _ _ _ _ _ hm hm' hB)
  ·intro r hr
   have hr:L.length≤r:=hr
   rw [hLget,List.getElem?_eq_none hr]
  ·intro i v B N hm
   exact rw.vle _ _ _ _ (k hm).2
  ·intro i B cells r v N b hi hm a
   obtain ⟨hr,hm⟩:=k hm
   rw [hLget] at a
   obtain ⟨c,n,o⟩:=qBj hL a
   rw [Nat.zero_add] at n
   obtain ⟨J,e2,_⟩:=o.cells
   have:=rw.fsep i B cells _ v N c hi hm (by rw [hMget]; exact n)
   rw [e2] at this; cases this
 have hargs0:VRs m0 ys args.toList:=qB4 z (λ_ _ h=>h) _ _ hys hargs
 refine Calls.mono (h.1 m0 w base args hargs0 K) ?_
 intro x w' hend
 have hsep:∀ {r v B N},m r v=some (B,N)→(∀ i,i < L.length→at0 rs i ≠ r)→∀ i v' N',m0 i v'=some (B,N')→B < base:=by
  intro r v B N hm hr i v' N' hi
  obtain ⟨hi,hm'⟩:=k hi
  rcases Nat.lt_or_ge B base with hlt | hge
  ·exact hlt
  ·exact absurd (rw.sep _ _ _ _ _ _ _ hm' hm hge) (hr i hi)
 obtain ⟨rfl,q,F,d1,d2,V,A⟩:=hend
 have hin:∀ {r v p},(if r ∈ D then none else m r v)=some p→r ∉ D∧m r v=some p∧∀ i,i < L.length→at0 rs i=r→F i v=some p:=by
  intro r v p e
  by_cases hr:r ∈ D
  ·rw [if_pos hr] at e; cases e
  ·rw [if_neg hr] at e
   refine ⟨hr,e,λi hi hir=>?_⟩
   subst hir
   have hlt:=hlow i hi
   obtain ⟨_,hne⟩:=qIn (b:=M[at0 rs i]) hD (List.getElem?_eq_getElem hlt) (by rw [Nat.zero_add]; exact hr)
   rw [d1,if_neg (λO=>hne i O (by rw [Nat.zero_add]))]
   exact z i v p hi e
 have hltM:∀ {r v p},m r v=some p→r < M.length:=by
  intro r v p hm
  rcases Nat.lt_or_ge r M.length with l | l
  ·exact l
  ·rw [hnoM r v l] at hm; cases hm
 refine ⟨rfl,⟨q.size,q.os,q.tape,q.output,λB hB hm=>q.same B hB λi v N e=>hm _ v N (k e).2⟩,⟨λr v=>if r ∈ D then none else m r v,F.froz⟩,λ_ _=>rfl,d2,?_,?_⟩
 ·intro i B cells hi
  rcases V i B cells hi with h | ⟨hB,⟨r,v,N,hm⟩ | hn⟩
  ·exact .inl h
  ·exact .inr ⟨hB,.inl ⟨_,v,N,(k hm).2⟩⟩
  ·exact .inr ⟨hB,.inr hn⟩
 ·refine ⟨?_,?_,?_,?_,?_,A.frz,?_,A.ffin,A.base_le,by show M.length≤roots; omega⟩
  ·intro r b v B N a hm l u
   rw [hMget] at a
   obtain ⟨hr,hm,hcal⟩:=hin hm
   have hpur:=(qIn hD a (by rw [Nat.zero_add]; exact hr)).1
   rcases Classical.em (∃ i,i < L.length∧at0 rs i=r) with ⟨i,hi,rfl⟩ | hno
   ·have C:=hcal i hi rfl
    have hbl:L[i]? = some L[i]:=List.getElem?_eq_getElem hi
    obtain ⟨c',n,o⟩:=qBj hL hbl
    rw [Nat.zero_add,a] at n
    cases n
    obtain ⟨J,e2,e3,e4,e5⟩:=o.cells
    rw [e3] at l
    rw [e5,qBe] at u
    obtain ⟨cs,ty,fr,E,p2,p3,p4,p5⟩:=A.blk i _ v B N (by rw [hLget]; exact hbl) C l u
    refine ⟨cs,ty,fr,E,p2,p3,λ_=>p4 J,?_⟩
    have G:purs (L[i].cells.take v)=true:=by
     rcases o.2 with ⟨Q,I⟩ | ⟨Q,I⟩
     ·exact qC7 _ v I
     ·rw [e5] at hpur
      exact qC7 _ v (qBn _ _ hpur)
    rw [e5,qBx,qC0 _ _ G]
    exact VRs.mono (m:=F.still) (m':=⟨λr v=>if r ∈ D then none else m r v,F.froz⟩) ⟨λ_ _ _ h=>(by cases h),λ_ _ h=>h⟩ _ _ (qBd _ _ G p5)
   ·have hout:∀ i,i < L.length→at0 rs i ≠ r:=λi hi e=>hno ⟨i,hi,e⟩
    obtain ⟨cs,ty,fr,E,p2,p3,p4,p5⟩:=rw.blk r b v B N (by rw [hMget]; exact a) hm l u
    obtain ⟨_,_,_,g3,_⟩:=rw.dom r v B N hm
    refine ⟨cs,ty,fr,by rw [q.same B g3 λi v' N' e=>hsep hm hout i v' N' e]; exact E,p2,p3,p4,?_⟩
    exact VRs.mono (m:=m.still) (m':=⟨λr v=>if r ∈ D then none else m r v,F.froz⟩) ⟨λ_ _ _ h=>(by cases h),λi p h=>d2 i p h⟩ _ _ (qBd _ _ (qC7 _ v hpur) p5)
  ·intro r v B N hm
   obtain ⟨hr,hm,_⟩:=hin hm
   obtain ⟨b,n,o,W,q4⟩:=rw.dom r v B N hm
   exact ⟨b,n,o,Nat.lt_of_lt_of_le W q.size,q4⟩
  ·intro r v B N r' v' N' hm hm' hB
   exact rw.sep _ _ _ _ _ _ _ (hin hm).2.1 (hin hm').2.1 hB
  ·intro r hr
   have hr:M.length≤r:=hr
   rw [hMget,List.getElem?_eq_none hr]
  ·intro r v B N hm
   exact rw.vle _ _ _ _ (hin hm).2.1
  ·intro i B cells r v N b hi hm a
   obtain ⟨hr,hm,hcal⟩:=hin hm
   rw [hMget] at a
   rcases Classical.em (∃ i,i < L.length∧at0 rs i=r) with ⟨j,hj,rfl⟩ | hno
   ·have C:=hcal j hj rfl
    have hbl:L[j]? = some L[j]:=List.getElem?_eq_getElem hj
    have:=A.fsep i B cells j v N _ hi C (by rw [hLget]; exact hbl)
    obtain ⟨c',n,o⟩:=qBj hL hbl
    rw [o.1] at this; cases this
   ·have hout:∀ i,i < L.length→at0 rs i ≠ r:=λi hi e=>hno ⟨i,hi,e⟩
    rcases V i B cells hi with hold | ⟨hB,⟨j,v0,N0,hj⟩ | hnew⟩
    ·exact rw.fsep i B cells r v N b hold hm (by rw [hMget]; exact a)
    ·exact absurd (hsep hm hout j v0 N0 hj) (by omega)
    ·obtain ⟨_,_,_,W,_⟩:=rw.dom r v B N hm
     omega
theorem qBo {P : Program} {Q : Exit → Act → World → Prop} {a : Act} {w : World} {ch : List PanicEntry} (h : Q (.panic ch) a w) : ∀ (K : List Fr), FinK P Q K (.panic ch) a w
 | []=>h
 | .seq b::K=>qBo h K
 | .loop b::K=>qBo h K
 | .block b::K=>qBo h K
 | .scope b::K=>qBo h K
noncomputable def advT (D:DP) (all l:List Oper) (env:Env) (H:Hp):Option (List Oper×Env×List Hp):=match headO all l env with | some o=>some (l.tail,putV env o.dst .top,bif Nat.beq (clsS D.S o) 2 then [H] else []) | none=>none
noncomputable def advN (D:DP) (l:List Oper) (env:Env) (H:Hp):Option (List Oper×Env×List Hp):=match l with | o::l=>some (l,putV env o.dst .top,bif Nat.beq (clsS D.S o) 2 then [H] else []) | []=>none
abbrev bT {α R:Type} (m:Option (Option α)) (f:α→Option (Option R)):Option (Option R) :=
 m.bind λx=>match x with | none=>some none | some y=>f y
section
variable {R:Type} {X:Fx (Option R)} {p p':Pt} {env eE:Env} {H H':Hp}
def keepOk (DX D : LN) : Nat → List Blk → List Blk → Prop
 | _,[],_=>True
 | _,_::_,[]=>False
 | r,b::LX,c::L=>((DX.any λs=>Nat.beq s r)=true∨((D.all λs => !Nat.beq s r)=true∧c=b∧purs b.cells=true))∧keepOk DX D (r+1) LX L
theorem qEf {DX D : LN} : ∀ {LX L : List Blk} {r j : Nat}, keepOk DX D r LX L → j < LX.length → r + j ∈ DX ∨ (r + j ∉ D ∧ ∃ b, L[j]? = some b ∧ LX[j]? = some b ∧ purs b.cells = true)
 | [],_,r,j,_,h=>by simp at h
 | b::LX,[],r,j,h,_=>h.elim
 | b::LX,c::L,r,j,h,hj=>by
  cases j with
  | zero =>
   rcases h.1 with a | ⟨a,rfl,g⟩
   ·obtain ⟨s,hs,he⟩:=List.any_eq_true.1 a
    have:=Nat.eq_of_beq_eq_true he
    subst this
    exact .inl hs
   ·refine .inr ⟨λhD=>?_,_,rfl,rfl,g⟩
    have:=List.all_eq_true.1 a _ hD
    simp at this
  | succ j =>
   rw [show r+(j+1)=r+1+j by omega]
   simpa using qEf h.2 (by simpa using hj)
theorem qL5 {tv : Value} {D DX : LN} {LX L : List Blk} {m0 m : Mp} {b w w' : World} {a : Nat} (hX : X.thr none = some (tv, DX)) (k : X.fin none = mkH LX) (c : X.n0 = LX.length) (hl : (Nat.ble LX.length roots && Nat.ble L.length roots) = true) (hk : keepOk DX D 0 LX L) (g : (∀ r v p, m0 r v = some p → r < X.n0) ∧ a ≤ b.heap.size) (st : St m0 b a m w) (q : Thr D (mkH L) m w a w') :
 EndT (X.thr none) (X.enc none) (X.fin none) m0 b a (.panicked [{ v:=tv,recovered:=false }]) w':=by
 rw [hX,k]
 simp only [Bool.and_eq_true,Nat.ble_eq] at hl
 have h:=qB (L:=LX) hl.1
 have l:=qB (L:=L) hl.2
 refine ⟨rfl,thr_up g.2 st g.1 q (λr hr=>?_) (λr hr=>?_) hl.1⟩
 ·rw [c] at hr
  have:=qEf (j:=r) hk hr
  rw [Nat.zero_add] at this
  rw [h,l]
  exact this
 ·have hr:LX.length≤r:=hr
  rw [h,List.getElem?_eq_none hr]
theorem qG4 {tv:Value} {o:Oper} {D DX:LN} {LX L:List Blk} (hX:X.thr none=some (tv,DX)) (g:X.fin none=mkH LX) (b:X.n0=LX.length) (hl:(Nat.ble LX.length roots && Nat.ble L.length roots)=true) (hk:keepOk DX D 0 LX L) (ho:operAt X.fn.ntmps p env=some o) (h:ThrStp X.P env H o tv D (mkH L)):Ok X p env H (some none):=by
 obtain ⟨ops,n,K,rfl,c,l,j⟩:=qB0 ho
 intro r hr m0 u x m w a k fr z hdf rw st
 cases hr
 show wpOps X.P ops _ (List.range' n (ops.size - n)) a w
 have hlt:n < ops.size:=(Array.getElem?_eq_some_iff.1 c).1
 rw [show ops.size - n=(ops.size - (n+1))+1 by omega,List.range'_succ]
 simp only [wpOps,c]
 rw [qB8 j fr]
 simp only [if_true]
 refine .inl ?_
 refine qDl h fr rw _ _ λw' q=>qBo ?_ K
 exact qLd hdf (qL5 hX g b hl hk k st q)
theorem ok_panic {tv:Value} {DX:LN} {LX L:List Blk} (hX:X.thr none=some (tv,DX)) (b:X.fin none=mkH LX) (a:X.n0=LX.length) (hl:(Nat.ble LX.length roots && Nat.ble L.length roots)=true) (hH:H=mkH L) (hk:keepOk DX [] 0 LX L) (h:(match operAt X.fn.ntmps p env with | some o=>thrV env o | none=>none)=some tv):Ok X p env H (some none):=by
 subst hH
 cases ho:operAt X.fn.ntmps p env with
 | none=>rw [ho] at h; cases h
 | some o=>rw [ho] at h; exact qG4 hX b a hl hk ho (.inl ⟨h,rfl,rfl⟩)
theorem qC5 {n:Nat} {fi:Nat} {args:List AV} (h:callAt n p env=some (fi,args)):∃ o c g first caps,operAt n p env=some o∧o.op = .call c∧c.callee = .value g∧opnd env g = .func fi first caps∧args=first++opnds env c.args.toList++caps:=by
 unfold callAt at h
 cases ho:operAt n p env with
 | none=>rw [ho] at h; cases h
 | some o =>
  rw [ho] at h
  simp only at h
  split at h
  ·rename_i c hoc
   split at h
   ·rename_i q hq
    split at h
    ·rename_i fi' first caps hfv
     cases h
     exact ⟨o,c,q,first,caps,rfl,hoc,hq,hfv,rfl⟩
    ·cases h
   ·cases h
  ·cases h
theorem qIz {α : Type} {m : Option (Option α)} {f : α → Option (Option R)} {fi : Nat} {args : List AV} {tv : Value} {D DX : LN} {LX L : List Blk} (g : α → AV) (G : α → Hp) (p' : Pt) (E : α → Env) (hX : X.thr none = some (tv, DX)) (j : X.fin none = mkH LX) (a : X.n0 = LX.length) (hl : (Nat.ble LX.length roots && Nat.ble L.length roots) = true) (hk : keepOk DX D 0 LX L) (hc : callAt X.fn.ntmps p env = some (fi, args))
 (b:m=some none→∃ v,CallT X.P fi args H (some (tv,D)) v (mkH L)) (hf:∀ x,m=some (some x)→CallT X.P fi args H none (g x) (G x)) (ha:∀ x,advE X.fn.ntmps p env (g x)=some (p',E x)) (k:∀ x,m=some (some x)→Ok X p' (E x) (G x) (f x)):Ok X p env H (bT m f):=by
 refine qA7 λx h=>?_
 cases x with
 | none =>
  obtain ⟨o,c,q,first,caps,ho,hoc,hq,hfv,hargs⟩:=qC5 hc
  obtain ⟨v,hcall⟩:=b h
  exact qG4 hX j a hl hk ho (.inr ⟨c,q,fi,first,caps,v,hoc,hq,hfv,hargs ▸ hcall⟩)
 | some y =>
  obtain ⟨o,c,q,first,caps,ho,hoc,hq,hfv,hargs⟩:=qC5 hc
  have hay:=ha y
  unfold advE at hay
  rw [ho] at hay
  simp only [Option.some.injEq,Prod.mk.injEq] at hay
  obtain ⟨l,e2⟩:=hay
  obtain ⟨ops,n,K,rfl,r,u,z⟩:=qB0 ho
  have ky:=k y h
  rw [← l,← e2] at ky
  exact qG5 r u z (.inr ⟨c,q,fi,first,caps,hoc,hq,hfv,hargs ▸ (hf y h).v⟩) ky
theorem qAu (D:DP) {hs:List Hp} {DX:LN} {LX L:List Blk} (hX:X.thr none=some (D.tv,DX)) (j:X.fin none=mkH LX) (b:X.n0=LX.length) (hl:(Nat.ble LX.length roots && Nat.ble L.length roots)=true) (hH:D.tH=mkH L) (hk:keepOk DX D.tD 0 LX L) (h:(drawAt p).isSome=true) (hti:Nat.blt D.tI (opsAt p).size=true) (hp:planOk D.S (opsAt p) D.pl=true) (hds:(opsAt p).toList.all (dstOk X.fn.ntmps)=true) (hD:OpsD X.P X.C D (opsAt p).toList (opsAt p).toList env H eE hs) (hsome:(rdL X.C D (opsAt p).toList eE (H::hs) 0 (opsAt p).toList D.pl).all (λq=>q.1.isSome)=true) (hq:(rdL X.C D (opsAt p).toList eE (H::hs) 0 (opsAt p).toList D.pl).map (·.1)=(rdL X.C D (opsAt p).toList eE (H::hs) 0 (opsAt p).toList D.pl).map (·.2)):Ok X p env H (some none):=by
 obtain ⟨id,ops,K,rfl⟩:∃ id ops K,p = .code (.region id ops true) K:=by
  unfold drawAt at h
  split at h
  ·exact ⟨_,_,_,rfl⟩
  ·cases h
 intro r hr m0 l n m w a g fr k hd rw st
 cases hr
 have hlt:D.tI < ops.size:=by simpa [opsAt] using hti
 show (Code.region id ops true).wp X.P _ a w
 refine qK9 (id:=id) X.hti X.ord hds hp hD (qKd hsome hq) fr k hd rw (λa w' h=>absurd hlt h) λa' m' o w' _ hdf c q=>qBo ?_ K
 rw [hH] at q
 exact qLd hdf (qL5 hX j b hl hk g (st.trans g.2 c) q)
theorem qAt {P:Program} {C:Cx} {D:DP} {all l l':List Oper} {env eE e:Env} {H:Hp} {hs a:List Hp} {fi:Nat} {args:List AV} (hc:callD all l env=some (fi,args)) (hi:Nat.beq (all.length - l.length) D.tI=true) (hpo:∃ v,CallT P fi args H (some (D.tv,D.tD)) v D.tH) (ha:advT D all l env H=some (l',eE,hs)) (k:OpsD P C D all l' eE H e a):OpsD P C D all l env H e (hs++a):=by
 obtain ⟨v,hpo⟩:=hpo
 unfold callD at hc
 unfold advT at ha
 cases ho:headO all l env with
 | none=>rw [ho] at hc; cases hc
 | some o =>
  rw [ho] at hc ha
  simp only at hc
  cases ha
  obtain ⟨r,rfl,hw⟩:=qEj ho
  split at hc
  ·rename_i c hoc
   split at hc
   ·rename_i q hq
    split at hc
    ·rename_i fi' first caps hfv
     cases hc
     have:=OpsD.thr (C:=C) (D:=D) hi hw (.inr ⟨c,q,fi,first,caps,v,hoc,hq,hfv,hpo⟩) k
     cases hc:Nat.beq (clsS D.S o) 2 <;> rw [hc] at this <;> exact this
    ·cases hc
   ·cases hc
  ·cases hc
theorem qA4 {P:Program} {C:Cx} {D:DP} {all l l':List Oper} {env eE e:Env} {H:Hp} {hs a:List Hp} (hi:(maskAt D.pl (all.length - l.length)).testBit D.tI=true) (ha:advN D l env H=some (l',eE,hs)) (k:OpsD P C D all l' eE H e a):OpsD P C D all l env H e (hs++a):=by
 unfold advN at ha
 split at ha
 ·rename_i o r
  cases ha
  have:=OpsD.dead (o:=o) hi k
  cases hc:Nat.beq (clsS D.S o) 2 <;> rw [hc] at this <;> exact this
 ·cases ha
theorem qAg {R:Type} {X:Fx R} {p:Pt} {env:Env} {H:Hp} {α:Type} {m:Option α} {f:α→Option R} {fi:Nat} {args:List AV} (g:α→AV) (G:α→Hp) (p':Pt) (E:α→Env) (hc:callAt X.fn.ntmps p env=some (fi,args)) (hf:∀ x,m=some x→CallT X.P fi args H none (g x) (G x)) (ha:∀ x,advE X.fn.ntmps p env (g x)=some (p',E x)) (k:∀ x,m=some x→Ok X p' (E x) (G x) (f x)):Ok X p env H (m.bind f) :=
 ok_callM g G p' E hc (λx h=>(hf x h).v) ha k
end
inductive Wk:List AV→List AV→Prop where
 | refl {xs}:Wk xs xs
 | cons {x xs ys}:Wk xs ys→Wk (x::xs) (x::ys)
 | slice {r v len sz xs ys}:v=len * sz→Wk xs ys→Wk (.slice r v 0 len sz::xs) (.own r len sz::ys)
 | none {r sz xs ys}:Wk xs ys→Wk (.nils::xs) (.own r 0 sz::ys)
 | nil {sz xs ys}:Wk xs ys→Wk (.nils::xs) (.vec 0 sz []::ys)
 | agg {xs ys zs us}:Wk xs ys→Wk zs us→Wk (.agg xs::zs) (.agg ys::us)
 | func {f a b a' b' zs us}:Wk a a'→Wk b b'→Wk zs us→Wk (.func f a b::zs) (.func f a' b'::us)
theorem wk_ok {m:Mp} {xs ys:List AV} (h:Wk xs ys):∀ {cs:List Value},VRs m xs cs→VRs m ys cs:=by
 induction h with
 | refl=>exact λh=>h
 | cons _ ih =>
  intro cs h
  simp only [VRs] at h ⊢
  obtain ⟨y,ys,rfl,a,b⟩:=h
  exact ⟨y,ys,rfl,a,ih b⟩
 | slice hv _ ih =>
  intro cs h
  simp only [VRs] at h ⊢
  obtain ⟨y,ys,rfl,a,b⟩:=h
  refine ⟨y,ys,rfl,?_,ih b⟩
  simp only [VR] at a ⊢
  obtain ⟨B,N,cap,l,q,n,r,o⟩:=a
  subst hv
  exact .inr ⟨B,N,cap,l,n,by omega,o⟩
 | none _ ih =>
  intro cs h
  simp only [VRs] at h ⊢
  obtain ⟨y,ys,rfl,a,b⟩:=h
  refine ⟨y,ys,rfl,?_,ih b⟩
  simp only [VR] at a ⊢
  exact .inl ⟨trivial,a⟩
 | nil _ ih =>
  intro cs h
  simp only [VRs] at h ⊢
  obtain ⟨y,ys,rfl,a,b⟩:=h
  refine ⟨y,ys,rfl,?_,ih b⟩
  simp only [VR] at a
  subst a
  exact qCq _ _
 | agg _ _ c g =>
  intro cs h
  simp only [VRs,VR] at h ⊢
  obtain ⟨y,ys,rfl,⟨zs,rfl,a⟩,b⟩:=h
  exact ⟨_,ys,rfl,⟨zs,rfl,c a⟩,g b⟩
 | func _ _ _ c g j =>
  intro cs h
  simp only [VRs,VR] at h ⊢
  obtain ⟨y,ys,rfl,⟨zs,us,rfl,a,k⟩,b⟩:=h
  exact ⟨_,ys,rfl,⟨zs,us,rfl,c a,g k⟩,j b⟩
theorem CallT.wk {P:Program} {g:Nat} {xs ys:List AV} {H H':Hp} {tv:Option (Value×LN)} {v:AV} (h:CallT P g ys H tv v H') (k:Wk xs ys):CallT P g xs H tv v H' :=
 ⟨λm w base args ha rw=>h.1 m w base args (wk_ok k ha) rw,h.2⟩
theorem CallT.args {P:Program} {g:Nat} {xs ys:List AV} {H H':Hp} {tv:Option (Value×LN)} {v:AV} (h:CallT P g ys H tv v H') (k:xs=ys):CallT P g xs H tv v H':=k ▸ h
theorem CallT.heap {P:Program} {g:Nat} {xs:List AV} {H H' H'':Hp} {tv:Option (Value×LN)} {v v':AV} (h:CallT P g xs H tv v H') (k:H'=H'') (kv:v=v'):CallT P g xs H tv v' H'':=k ▸ kv ▸ h
theorem CallT.ghost {P:Program} {g:Nat} {xs:List AV} {L:List Blk} {H':Hp} {tv:Option (Value×LN)} {v:AV} (a:Nat.blt L.length roots=true) (h:CallT P g xs (mkH (L++[⟨[],0,false⟩])) tv v H'):CallT P g xs (mkH L) tv v H':=by
 refine ⟨λm w base args ha rw=>?_,h.2⟩
 have:=RW.ghost rw (by show L.length < roots; simpa using a)
 rw [qJ3] at this
 exact h.1 m w base args ha this
section
variable {R:Type} {X:Fx R} {p p':Pt} {env eE:Env} {H H':Hp}
theorem qIt {r : R} {xs : List AV} {v : AV} {m0 m : Mp} {n w : World} {g : Nat} {a : Act} (F : (∀ r v p, m0 r v = some p → r < X.n0) ∧ g ≤ n.heap.size) (L l : List Blk) (ht : X.thr r = none) (hr : resV X.C env (mkH (L ++ l)) X.fn.results.toList = some xs) (A : Nat.ble (L.length + l.length) roots = true) (x : Nat.ble X.n0 L.length = true)
 (hz:FzG L.length (mkH (L++l)) [oneRes xs] [v]) (G:BB L.length L) (hv:X.enc r=v) (hf:X.fin r=mkH L) (fr:FR m env a.tmps) (rw:RW m (mkH (L++l)) w g) (st:St m0 n g m w) :
 ∃ c,(results X.fn a.tmps).run X.P w = .ok c w∧EndT (X.thr r) (X.enc r) (X.fin r) m0 n g (.returned c) w:=by
 obtain ⟨c,D,u⟩:=qCh (P:=X.P) X.hti fr rw hr
 have I:FOk L.length m m.froz w g:=⟨λi B cells hi=>rw.frz i B cells hi,rw.ffin,λi B cells h => .inl h,λ_ _ h=>h⟩
 obtain ⟨F',o,J,g3⟩:=fz_ok rw hz I (cs:=[c]) (by simp only [VRs]; exact ⟨c,[],rfl,u,rfl⟩)
 simp only [VRs] at g3
 obtain ⟨c',cs',e,g3,_⟩:=g3
 cases e
 have A:L.length+l.length≤roots:=Nat.le_of_ble_eq_true A
 have hget:∀ i,i < L.length→(mkH (L++l)).t.get i=(mkH L).t.get i:=by
  intro i hi
  rw [qB (by simp; omega),qB (by omega)]
  simp [List.getElem?_append_left hi]
 let j:Mp:=⟨λr v=>if r < L.length then m r v else none,F'⟩
 have hcut:∀ {r v q},j r v=some q→r < L.length∧m r v=some q:=by
  intro r v q h
  have h:(if r < L.length then m r v else none)=some q:=h
  by_cases e:r < L.length
  ·rw [if_pos e] at h; exact ⟨e,h⟩
  ·rw [if_neg e] at h; cases h
 have hmono:Sub (m.cut L.length) j:=⟨λr v p h=>h,o.sub⟩
 have hrw:RW j (mkH L) w g:=by
  refine ⟨?_,?_,?_,?_,?_,o.ok,?_,o.fin,rw.base_le,by show L.length≤roots; omega⟩
  ·intro r b v B N hb' hm K M
   obtain ⟨hlt,hm⟩:=hcut hm
   obtain ⟨cs,ty,fr',O,p2,p3,p4,p5⟩:=rw.blk r b v B N (by rw [hget r hlt]; exact hb') hm K M
   have hbl:L[r]? = some b:=by
    rw [qB (by omega)] at hb'
    exact hb'
   exact ⟨cs,ty,fr',O,p2,p3,p4,VRs.mono hmono _ _ (qBi _ _ (qB6 v (qKg G hbl)) p5)⟩
  ·intro r v B N hm
   obtain ⟨hlt,hm⟩:=hcut hm
   rw [← hget r hlt]
   exact rw.dom r v B N hm
  ·intro r v B N r' v' N' hm hm' hB
   exact rw.sep _ _ _ _ _ _ _ (hcut hm).2 (hcut hm').2 hB
  ·intro r hr
   have hr:L.length≤r:=hr
   rw [qB (by omega),List.getElem?_eq_none hr]
  ·intro r v B N hm
   exact rw.vle _ _ _ _ (hcut hm).2
  ·intro i B cells r v N b hi hm hb'
   obtain ⟨hlt,hm⟩:=hcut hm
   rw [← hget r hlt] at hb'
   rcases o.new i B cells hi with h | ⟨hB,z,v2,E,Q,k⟩
   ·exact rw.fsep i B cells r v N b h hm hb'
   ·have:=rw.sep _ _ _ _ _ _ _ hm k hB
    omega
 have hst:St m0 n g j w:=by
  refine ⟨⟨λr v q hq=>?_,λi q hq=>J i q (st.sub.2 i q hq)⟩,?_,?_,st.size,st.os,st.tape,st.output,st.same⟩
  ·have D:=F.1 r v q hq
   have u:=Nat.le_of_ble_eq_true x
   show (if r < L.length then m r v else none)=some q
   rw [if_pos (by omega)]
   exact st.sub.1 r v q hq
  ·intro r v B N hm
   exact st.ext r v B N (hcut hm).2
  ·intro i B cells hi
   rcases o.new i B cells hi with h | ⟨hB,z,v2,E,_,k⟩
   ·exact st.fext i B cells h
   ·rcases st.ext z v2 B E k with ⟨S,T,U⟩ | u
    ·exact .inr ⟨hB,.inl ⟨z,S,T,U⟩⟩
    ·exact .inr ⟨hB,.inr u⟩
 have hvc:VR j v c:=VR.mono (m:=⟨λ_ _=>none,F'⟩) (m':=j) ⟨λ_ _ _ h=>(by cases h),λ_ _ h=>h⟩ _ _ g3
 have e:EndT (X.thr r) (X.enc r) (X.fin r) m0 n g (.returned c) w:=by rw [ht]; exact ⟨j,c,rfl,by rw [hf]; exact hrw,hst,by rw [hv]; exact hvc⟩
 exact ⟨c,D,e⟩
theorem ok_retF {r : R} {xs : List AV} {v : AV} (L b : List Blk) (ht : X.thr r = none) (hr : resV X.C env (mkH (L ++ b)) X.fn.results.toList = some xs) (h : Nat.ble (L.length + b.length) roots = true) (g : Nat.ble X.n0 L.length = true)
 (hz:FzG L.length (mkH (L++b)) [oneRes xs] [v]) (j:BB L.length L) (hv:X.enc r=v) (hf:X.fin r=mkH L):Ok X .fin env (mkH (L++b)) (some r):=by
 intro r' e m0 n o m w a k fr hnt hd rw st
 cases e
 obtain ⟨c,l,e⟩:=qIt k L b ht hr h g hz j hv hf fr rw st
 exact qEt hd l e
end
def MinvLe : List Blk → List Blk → Prop
 | [],[]=>True
 | b::M,c::M'=>(c.cells=b.cells∧c.ro=b.ro∧b.minv≤c.minv)∧MinvLe M M'
 | _,_=>False
theorem MinvLe.get : ∀ {M M' : List Blk}, MinvLe M M' → M'.length = M.length ∧ ∀ (i : Nat) (c : Blk), M'[i]? = some c → ∃ b, M[i]? = some b ∧ c.cells = b.cells ∧ c.ro = b.ro ∧ b.minv ≤ c.minv
 | [],[],_=>⟨rfl,λi c h=>by simp at h⟩
 | [],_::_,h=>h.elim
 | _::_,[],h=>h.elim
 | b::M,c::M',h=>by
  obtain ⟨a,g⟩:=MinvLe.get h.2
  refine ⟨by simp [a],λi d hd=>?_⟩
  cases i with
  | zero=>simp at hd; subst hd; exact ⟨b,rfl,h.1⟩
  | succ i=>simpa using g i d (by simpa using hd)
theorem rw_minv {m:Mp} {w:World} {base:Nat} {M M':List Blk} (h:MinvLe M M') (hr:M.length≤roots) (rw:RW m (mkH M) w base):RW m (mkH M') w base:=by
 obtain ⟨hl,hg⟩:=h.get
 have n:=qB (L:=M) hr
 have k:=qB (L:=M') (by omega)
 refine ⟨?_,?_,rw.sep,?_,rw.vle,rw.frz,?_,rw.ffin,rw.base_le,by show M'.length≤roots; omega⟩
 ·intro r c v B N g hm x q
  rw [k] at g
  obtain ⟨b,a,l,j,o⟩:=hg r c g
  rw [l] at q ⊢
  rw [j]
  exact rw.blk r b v B N (by rw [n]; exact a) hm (by omega) q
 ·intro r v B N hm
  obtain ⟨b,a,l,j,o⟩:=rw.dom r v B N hm
  rw [n] at a
  have hlt:r < M'.length:=by rw [hl]; exact (List.getElem?_eq_some_iff.1 a).1
  obtain ⟨b',u,e2,e3,e4⟩:=hg r _ (List.getElem?_eq_getElem hlt)
  rw [a] at u
  cases u
  exact ⟨_,by rw [k]; exact List.getElem?_eq_getElem hlt,by rw [e2]; exact l,j,by rw [e3]; exact o⟩
 ·intro r hr'
  have hr':M'.length≤r:=hr'
  rw [k,List.getElem?_eq_none hr']
 ·intro i B cells r v N c hi hm g
  rw [k] at g
  obtain ⟨b,a,l,j,o⟩:=hg r c g
  rw [j]
  exact rw.fsep i B cells r v N b hi hm (by rw [n]; exact a)
theorem CallT.minv {P:Program} {g:Nat} {xs:List AV} {M M':List Blk} {H':Hp} {tv:Option (Value×LN)} {v:AV} (hr:M.length≤roots) (hm:MinvLe M M') (h:CallT P g xs (mkH M') tv v H'):CallT P g xs (mkH M) tv v H' :=
 ⟨λm w base args ha rw=>h.1 m w base args ha (rw_minv hm hr rw),h.2⟩
theorem CallT.ghosts {P : Program} {g : Nat} {xs : List AV} {H' : Hp} {tv : Option (Value × LN)} {v : AV} : ∀ (gh : Nat) (a M : List Blk), a ++ List.replicate gh ⟨[], 0, false⟩ = M → M.length ≤ roots → CallT P g xs (mkH M) tv v H' → CallT P g xs (mkH a) tv v H'
 | 0,a,M,hg,hr,h=>by
  have e:a=M:=by simpa using hg
  rw [e]; exact h
 | n+1,a,M,hg,hr,h=>by
  have hl:a.length < M.length:=by rw [← hg]; simp
  refine CallT.ghost (by simpa using (by omega:a.length < roots)) (CallT.ghosts n (a++[⟨[],0,false⟩]) M ?_ hr h)
  rw [← hg,List.replicate_succ,List.append_assoc]; rfl
theorem frameC {P : Program} {g : Nat} {ys : List AV} {L L' : List Blk} {v : AV} (h : CallT P g ys (mkH L) none v (mkH L')) (rs : LN) (gh : Nat) (a b M M' : List Blk) (xs xs' : List AV) {v' : AV} {H H' : Hp} (hH : mkH a = H) (hg : a ++ List.replicate gh ⟨[], 0, false⟩ = b) (hm : MinvLe b M) (hw : Wk xs xs') (c : renVs (at0 rs) ys = xs') (hv' : renV (at0 rs) v = v') (hH' : mkH M' = H')
 (hc:frOk L.length L'.length M.length M'.length rs=true) (hys:belows L.length ys=true) (hL:RBs rs L.length M 0 L) (hL':RBs rs L'.length M' 0 L') (hv:below L'.length v=true) (hS:SameB rs 0 M M'):CallT P g xs H none v' H':=by
 subst hH; subst c; subst hv'; subst hH'
 have j:=(frame h rs M M' hc hys hL hL' hv hS).wk hw
 simp only [frOk,Bool.and_eq_true,Nat.ble_eq] at hc
 have hr:M.length≤roots:=by omega
 have hl:=hm.get.1
 exact CallT.ghosts gh a b hg (by omega) (CallT.minv (by omega) hm j)
theorem frameT {P : Program} {g : Nat} {ys : List AV} {L : List Blk} {t : Value} {c : LN} (h : ∃ v, CallT P g ys (mkH L) (some (t, c)) v (mkH L)) (rs : LN) (D : LN) (gh : Nat) (a b M : List Blk) (xs xs' : List AV) {H : Hp} (hH : mkH a = H) (hg : a ++ List.replicate gh ⟨[], 0, false⟩ = b) (hm : MinvLe b M) (hw : Wk xs xs') (j : renVs (at0 rs) ys = xs')
 (hc:frOk L.length L.length M.length M.length rs=true) (hys:belows L.length ys=true) (hL:RBs rs L.length M 0 L) (hD:dOk rs c D 0 M):∃ v,CallT P g xs H (some (t,D)) v (mkH M):=by
 obtain ⟨v,h⟩:=h
 subst hH; subst j
 have k:=(frameTh h rs M D hc hys hL hD .top).wk hw
 simp only [frOk,Bool.and_eq_true,Nat.ble_eq] at hc
 have hr:M.length≤roots:=by omega
 have hl:=hm.get.1
 exact ⟨_,CallT.ghosts gh a b hg (by omega) (CallT.minv (by omega) hm k)⟩
theorem qC9 {R:Type} {X:Fx (Option R)} {p:Pt} {env:Env} {H:Hp} {α:Type} {m:Option (Option α)} {f:α→Option (Option R)} (b:m=some none→Ok X p env H (some none)) (c:∀ y,m=some (some y)→Ok X p env H (f y)):Ok X p env H (bT m f):=by
 refine qA7 λx a=>?_
 cases x with
 | none=>exact b a
 | some y=>exact c y a
section
variable {R:Type} {X:Fx R} {p p':Pt} {env eE:Env} {H H':Hp}
theorem qBu {t:Option R} (L:List Blk) (b:Nat.blt L.length roots=true) (k:Ok X p env (mkH (L++[⟨[],0,false⟩])) t):Ok X p env (mkH L) t:=by
 intro r hr m0 c g m w a h fr hnt hd rw st
 have:=RW.ghost rw (by show L.length < roots; simpa using b)
 rw [qJ3] at this
 exact k r hr m0 c g m w a h fr hnt hd this st
theorem Wk.length {xs ys:List AV} (h:Wk xs ys):ys.length=xs.length:=by
 induction h <;> simp_all
theorem wk_take {m:Mp} {xs ys:List AV} (h:Wk xs ys):∀ (v:Nat) {cs:List Value},VRs m (xs.take v) cs→VRs m (ys.take v) cs:=by
 have one:∀ {x y:AV} {xs ys:List AV} (v:Nat) {cs:List Value},Wk [x] [y]→(∀ (v:Nat) {cs:List Value},VRs m (xs.take v) cs→VRs m (ys.take v) cs)→VRs m ((x::xs).take v) cs→VRs m ((y::ys).take v) cs:=by
  intro x y xs ys v cs a ih h
  cases v with
  | zero=>simpa using h
  | succ v =>
   simp only [List.take_succ_cons,VRs] at h ⊢
   obtain ⟨c,cs',rfl,b,g⟩:=h
   have:=wk_ok a (cs:=[c]) (by simp only [VRs]; exact ⟨c,[],rfl,b,rfl⟩)
   simp only [VRs] at this
   obtain ⟨c',cs'',j,k,_⟩:=this
   cases j
   exact ⟨c,cs',rfl,k,ih v g⟩
 induction h with
 | refl=>exact λv cs h=>h
 | cons _ ih=>exact λv cs h=>one v .refl (λv cs=>ih v) h
 | slice hv _ ih=>exact λv cs h=>one v (.slice hv .refl) (λv cs=>ih v) h
 | none _ ih=>exact λv cs h=>one v (.none .refl) (λv cs=>ih v) h
 | nil _ ih=>exact λv cs h=>one v (.nil .refl) (λv cs=>ih v) h
 | agg a _ _ ih=>exact λv cs h=>one v (.agg a .refl) (λv cs=>ih v) h
 | func a l _ _ _ ih=>exact λv cs h=>one v (.func a l .refl) (λv cs=>ih v) h
theorem qAw {t:Option R} (L:List Blk) (c minv:Nat) (cells cells':List AV) (hl:Nat.ble L.length roots=true) (hr:L[c]? = some ⟨cells,minv,false⟩) (hw:Wk cells cells') (k:Ok X p env (mkH (L.set c ⟨cells',minv,false⟩)) t):Ok X p env (mkH L) t:=by
 intro r hr' m0 A C m w a D fr hnt hd rw st
 have hl:L.length≤roots:=Nat.le_of_ble_eq_true hl
 have hlt:c < L.length:=(List.getElem?_eq_some_iff.1 hr).1
 have u:=qB (L:=L) hl
 have x:=qB (L:=L.set c ⟨cells',minv,false⟩) (by simpa using hl)
 have gne:∀ j,j ≠ c→(mkH (L.set c ⟨cells',minv,false⟩)).t.get j=(mkH L).t.get j:=by
  intro j hj
  rw [u,x,List.getElem?_set,if_neg (λe=>hj e.symm)]
 have geq:(mkH (L.set c ⟨cells',minv,false⟩)).t.get c=some ⟨cells',minv,false⟩:=by
  rw [x,List.getElem?_set,if_pos rfl,if_pos hlt]
 have hroot:(mkH L).t.get c=some ⟨cells,minv,false⟩:=by rw [u]; exact hr
 have hlen:=hw.length
 have hnext:(mkH (L.set c ⟨cells',minv,false⟩)).next=L.length:=by simp [mkH]
 refine k r hr' m0 A C m w a D fr hnt hd ⟨?_,?_,rw.sep,?_,rw.vle,rw.frz,?_,rw.ffin,rw.base_le,by rw [hnext]; exact hl⟩ st
 ·intro r b v B N g hm q z
  by_cases e:r=c
  ·subst e
   rw [geq] at g
   cases g
   simp only at q z
   obtain ⟨cs,ty,fr',h,l,n,o,E⟩:=rw.blk r ⟨cells,minv,false⟩ v B N hroot hm q (by show v≤cells.length; omega)
   exact ⟨cs,ty,fr',h,l,n,o,wk_take hw v E⟩
  ·rw [gne r e] at g
   exact rw.blk r b v B N g hm q z
 ·intro r v B N hm
  obtain ⟨b,h,l,n,o⟩:=rw.dom r v B N hm
  by_cases e:r=c
  ·subst e
   rw [hroot] at h
   cases h
   exact ⟨_,geq,by show v≤cells'.length; rw [hlen]; exact l,n,o⟩
  ·exact ⟨b,by rw [gne r e]; exact h,l,n,o⟩
 ·intro r hr
  rw [hnext] at hr
  rw [gne r (by omega)]
  exact rw.fresh r hr
 ·intro i B cs r v N b hi hm g
  by_cases e:r=c
  ·subst e
   rw [geq] at g
   cases g
   have:=rw.fsep i B cs r v N ⟨cells,minv,false⟩ hi hm hroot
   exact this
  ·rw [gne r e] at g
   exact rw.fsep i B cs r v N b hi hm g
theorem qAx {r : R} {xs : List AV} (L g : List Blk) (ht : X.thr r = none) (hr : resV X.C env (mkH (L ++ g)) X.fn.results.toList = some xs) (l : Nat.ble (L.length + g.length) roots = true) (j : Nat.ble X.n0 L.length = true)
 (hbe:below L.length (oneRes xs)=true) (x:BB L.length L) (hv:X.enc r=oneRes xs) (hf:X.fin r=mkH L):Ok X .fin env (mkH (L++g)) (some r):=by
 intro r' e m0 n k m w a z fr hnt hd rw st
 cases e
 obtain ⟨c,o,u⟩:=qCh (P:=X.P) X.hti fr rw hr
 have l:L.length+g.length≤roots:=Nat.le_of_ble_eq_true l
 have hget:∀ i,i < L.length→(mkH (L++g)).t.get i=(mkH L).t.get i:=by
  intro i hi
  rw [qB (by simp; omega),qB (by omega)]
  simp [List.getElem?_append_left hi]
 have hcut:∀ {r v q},(m.cut L.length) r v=some q→r < L.length∧m r v=some q:=by
  intro r v q h
  have h:(if r < L.length then m r v else none)=some q:=h
  by_cases e:r < L.length
  ·rw [if_pos e] at h; exact ⟨e,h⟩
  ·rw [if_neg e] at h; cases h
 have hrw:RW (m.cut L.length) (mkH L) w k:=by
  refine ⟨?_,?_,?_,?_,?_,rw.frz,?_,rw.ffin,rw.base_le,by show L.length≤roots; omega⟩
  ·intro r b v B N hb' hm A D
   obtain ⟨hlt,hm⟩:=hcut hm
   obtain ⟨cs,ty,fr',E,p2,p3,p4,p5⟩:=rw.blk r b v B N (by rw [hget r hlt]; exact hb') hm A D
   have hbl:L[r]? = some b:=by
    rw [qB (by omega)] at hb'
    exact hb'
   exact ⟨cs,ty,fr',E,p2,p3,p4,qBi _ _ (qB6 v (qKg x hbl)) p5⟩
  ·intro r v B N hm
   obtain ⟨hlt,hm⟩:=hcut hm
   rw [← hget r hlt]
   exact rw.dom r v B N hm
  ·intro r v B N r' v' N' hm hm' hB
   exact rw.sep _ _ _ _ _ _ _ (hcut hm).2 (hcut hm').2 hB
  ·intro r hr
   have hr:L.length≤r:=hr
   rw [qB (by omega),List.getElem?_eq_none hr]
  ·intro r v B N hm
   exact rw.vle _ _ _ _ (hcut hm).2
  ·intro i B cells r v N b hi hm hb'
   obtain ⟨hlt,hm⟩:=hcut hm
   rw [← hget r hlt] at hb'
   exact rw.fsep i B cells r v N b hi hm hb'
 have hst:St m0 n k (m.cut L.length) w:=by
  refine ⟨⟨λr v q hq=>?_,st.sub.2⟩,?_,st.fext,st.size,st.os,st.tape,st.output,st.same⟩
  ·have o:=z.1 r v q hq
   have u:=Nat.le_of_ble_eq_true j
   show (if r < L.length then m r v else none)=some q
   rw [if_pos (by omega)]
   exact st.sub.1 r v q hq
  ·intro r v B N hm
   exact st.ext r v B N (hcut hm).2
 have e:EndT (X.thr r) (X.enc r) (X.fin r) m0 n k (.returned c) w:=by rw [ht]; exact ⟨m.cut L.length,c,rfl,by rw [hf]; exact hrw,hst,by rw [hv]; exact qDk _ _ hbe u⟩
 exact qEt hd o e
theorem qF0 {r:R} {xs:List AV} (ht:X.thr r=none) (hr:resV X.C env H X.fn.results.toList=some xs) (hv:X.enc r=oneRes xs) (hf:X.fin r=H):Ok X .fin env H (some r):=by
 intro r' e m0 b g m w a k fr hnt hd rw st
 cases e
 obtain ⟨c,h,j⟩:=qCh (P:=X.P) X.hti fr rw hr
 have e:EndT (X.thr r) (X.enc r) (X.fin r) m0 b g (.returned c) w:=by rw [ht]; exact ⟨m,c,rfl,by rw [hf]; exact rw,st,by rw [hv]; exact j⟩
 exact qEt hd h e
end
structure Raw where
 n:Nat
 cells:List AV
def nthR {α:Type} (d:List AV→Option α) (sz:Nat) (n:Nat) (cells:List AV) (k:Int):Option α:=if 0≤k∧k < (n:Int) then d ((cells.drop (k.toNat * sz)).take sz) else none
theorem vidxR {α:Type} {enc:α→List AV} {d:List AV→Option α} {sz:Nat} (hd:∀ cs x,d cs=some x→cs=enc x) {e:Option (AV×Hp)} {n:Nat} {cells:List AV} {k:Int} {H:Hp} {x:α} (a:nthR d sz n cells k=some x) (h:e=(if sz=sz∧0≤k∧k < ((n:Nat):Int) then some (AV.vptr ((cells.drop (k.toNat * sz)).take sz),H) else none)):e=some (AV.vptr (enc x),H):=by
 unfold nthR at a
 by_cases b:0≤k∧k < (n:Int)
 ·rw [if_pos b] at a
  rw [h,if_pos ⟨rfl,b.1,b.2⟩,hd _ _ a]
 ·rw [if_neg b] at a; cases a
def pI (k : IntKind) : List AV → Option (Int × List AV)
 | .int k' n::r=>if k'=k then some (n,r) else none
 | _=>none
def pB : List AV → Option (Bool × List AV)
 | .bool b::r=>some (b,r)
 | _=>none
def pS : List AV → Option (LN × List AV)
 | .str s::r=>some (s,r)
 | _=>none
def pN {α:Type} (p:List AV→Option (α×List AV)) (n:Nat) (cs:List AV):Option (List α×List AV) :=
 Nat.rec (motive:=λ_=>List AV→Option (List α×List AV)) (λcs=>some ([],cs)) (λ_ ih cs=>match p cs with | some (x,r)=>(match ih r with | some (l,r')=>some (x::l,r') | none=>none) | none=>none) n cs
def pV {α : Type} (p : List AV → Option (α × List AV)) (sz : Nat) : List AV → Option (List α × List AV)
 | .vec n s c::r=>if s=sz then (match pN p n c with | some (l,[])=>some (l,r) | _=>none) else none
 | _=>none
theorem pI_ok {k:IntKind} {cs r:List AV} {x:Int} (h:pI k cs=some (x,r)):cs=[AV.int k x]++r:=by
 unfold pI at h
 split at h
 ·split at h
  ·rename_i e; cases h; subst e; rfl
  ·cases h
 ·cases h
theorem pB_ok {cs r:List AV} {x:Bool} (h:pB cs=some (x,r)):cs=[AV.bool x]++r:=by
 unfold pB at h
 split at h
 ·cases h; rfl
 ·cases h
theorem pS_ok {cs r:List AV} {x:LN} (h:pS cs=some (x,r)):cs=[AV.str x]++r:=by
 unfold pS at h
 split at h
 ·cases h; rfl
 ·cases h
theorem pN_ok {α : Type} {p : List AV → Option (α × List AV)} {enc : α → List AV} (hp : ∀ cs x r, p cs = some (x, r) → cs = enc x ++ r) : ∀ (n : Nat) (cs : List AV) (l : List α) (r : List AV), pN p n cs = some (l, r) → cs = l.flatMap enc ++ r ∧ l.length = n
 | 0,cs,l,r,h=>by
  have h:some (([]:List α),cs)=some (l,r):=h
  cases h
  exact ⟨rfl,rfl⟩
 | n+1,cs,l,r,h=>by
  have h:(match p cs with | some (x,r)=>(match pN p n r with | some (l,r')=>some (x::l,r') | none=>none) | none=>none)=some (l,r):=h
  cases a:p cs with
  | none=>rw [a] at h; cases h
  | some xr =>
   obtain ⟨x,c⟩:=xr
   rw [a] at h
   simp only at h
   cases b:pN p n c with
   | none=>rw [b] at h; cases h
   | some lr =>
    obtain ⟨g,m⟩:=lr
    rw [b] at h
    cases h
    obtain ⟨j,k⟩:=pN_ok hp n c g r b
    rw [hp _ _ _ a,j,List.flatMap_cons,List.append_assoc]
    exact ⟨rfl,by simp [k]⟩
theorem pV_ok {α:Type} {p:List AV→Option (α×List AV)} {enc:α→List AV} {sz:Nat} (hp:∀ cs x r,p cs=some (x,r)→cs=enc x++r) {cs:List AV} {l:List α} {r:List AV} (h:pV p sz cs=some (l,r)):cs=[AV.vec l.length sz (l.flatMap enc)]++r:=by
 unfold pV at h
 split at h
 ·split at h
  ·rename_i e
   subst e
   split at h
   ·rename_i g b
    cases h
    obtain ⟨a,c⟩:=pN_ok hp _ _ _ _ b
    rw [List.append_nil] at a
    rw [a,c]; rfl
   ·cases h
  ·cases h
 ·cases h
def pall {α:Type} (p:List AV→Option (α×List AV)) (cs:List AV):Option α:=match p cs with | some (x,[])=>some x | _=>none
theorem pall_ok {α:Type} {p:List AV→Option (α×List AV)} {enc:α→List AV} (hp:∀ cs x r,p cs=some (x,r)→cs=enc x++r) (cs:List AV) (x:α) (h:pall p cs=some x):cs=enc x:=by
 unfold pall at h
 split at h
 ·rename_i y hy
  cases h
  have:=hp _ _ _ hy
  simpa using this
 ·cases h
inductive Fr1 (r0 n sz:Nat) (cells:List AV):List AV→List AV→Prop where
 | refl {xs}:nrefs r0 xs=true→Fr1 r0 n sz cells xs xs
 | cons {x xs ys}:nref r0 x=true→Fr1 r0 n sz cells xs ys→Fr1 r0 n sz cells (x::xs) (x::ys)
 | own {xs ys}:Fr1 r0 n sz cells xs ys→Fr1 r0 n sz cells (.own r0 n sz::xs) (.vec n sz cells::ys)
 | agg {xs ys zs us}:Fr1 r0 n sz cells xs ys→Fr1 r0 n sz cells zs us→Fr1 r0 n sz cells (.agg xs::zs) (.agg ys::us)
theorem fr1_ok {g n sz:Nat} {cells:List AV} {m:Mp} {F:Nat→Option (Nat×List AV)} (l:∀ i p,m.froz i=some p→F i=some p) (hvec:∀ c,VR m (.own g n sz) c→VR ⟨λ_ _=>none,F⟩ (.vec n sz cells) c) {xs ys:List AV} (h:Fr1 g n sz cells xs ys):∀ {cs:List Value},VRs m xs cs→VRs (m.out g F) ys cs:=by
 induction h with
 | refl h=>exact λhv=>qC4 l _ _ h hv
 | cons h _ ih =>
  intro cs hv
  simp only [VRs] at hv ⊢
  obtain ⟨y,ys,rfl,a,b⟩:=hv
  exact ⟨y,ys,rfl,qF1 l _ _ h a,ih b⟩
 | own _ ih =>
  intro cs hv
  rw [VRs] at hv
  obtain ⟨y,ys,rfl,a,b⟩:=hv
  rw [VRs]
  exact ⟨y,ys,rfl,VR.mono (m:=⟨λ_ _=>none,F⟩) (m':=m.out g F) ⟨λ_ _ _ h=>(by cases h),λ_ _ h=>h⟩ _ _ (hvec y a),ih b⟩
 | agg _ _ j k =>
  intro cs hv
  simp only [VRs,VR] at hv ⊢
  obtain ⟨y,ys,rfl,⟨zs,rfl,a⟩,b⟩:=hv
  exact ⟨_,ys,rfl,⟨zs,rfl,j a⟩,k b⟩
theorem Fr1.length {a n sz:Nat} {cells xs ys:List AV} (h:Fr1 a n sz cells xs ys):ys.length=xs.length:=by
 induction h <;> simp_all
theorem fr1_take {a n sz:Nat} {cells xs ys:List AV} (h:Fr1 a n sz cells xs ys):∀ v,Fr1 a n sz cells (xs.take v) (ys.take v):=by
 induction h with
 | refl h=>exact λv => .refl (qD6 v h)
 | cons h _ ih=>intro v; cases v with
  | zero=>exact .refl rfl
  | succ v=>exact .cons h (ih v)
 | own _ ih=>intro v; cases v with
  | zero=>exact .refl rfl
  | succ v=>exact .own (ih v)
 | agg b _ _ ih=>intro v; cases v with
  | zero=>exact .refl rfl
  | succ v=>exact .agg b (ih v)
def FrE (a n sz : Nat) (cells : List AV) : Env → Env → Prop
 | [],[]=>True
 | p::e,q::e'=>(p.1=q.1∧Fr1 a n sz cells [p.2] [q.2])∧FrE a n sz cells e e'
 | _,_=>False
theorem qKf {b n sz : Nat} {cells : List AV} : ∀ {e e' : Env}, FrE b n sz cells e e' → ∀ t, look e' t ≠ .top → look e t ≠ .top ∧ Fr1 b n sz cells [look e t] [look e' t]
 | [],[],_,t,h=>absurd rfl h
 | [],_::_,h,_,_=>h.elim
 | _::_,[],h,_,_=>h.elim
 | (g,k)::e,(l,v2)::e',h,t,hne=>by
  obtain ⟨⟨c,a⟩,j⟩:=h
  simp only at c a
  subst c
  rw [qAo] at hne ⊢
  rw [qAo]
  by_cases et:g=t
  ·rw [if_pos et] at hne ⊢
   rw [if_pos et]
   refine ⟨?_,a⟩
   rintro rfl
   cases a with
   | refl _=>exact hne rfl
   | cons _ _=>exact hne rfl
  ·rw [if_neg et] at hne ⊢
   rw [if_neg et]
   exact qKf j t hne
def FrH (a n sz : Nat) (cells : List AV) : Nat → List Blk → List Blk → Prop
 | _,[],[]=>True
 | i,b::L,c::L'=>((i=a∧c=⟨[],0,false⟩)∨(Nat.beq i a=false∧c.minv=b.minv∧c.ro=b.ro∧Fr1 a n sz cells b.cells c.cells))∧FrH a n sz cells (i+1) L L'
 | _,_,_=>False
theorem qOx {a n sz : Nat} {cells : List AV} : ∀ {L L' : List Blk} {i : Nat}, FrH a n sz cells i L L' → L'.length = L.length ∧ ∀ j c, L'[j]? = some c → ∃ b, L[j]? = some b ∧ ((i + j = a ∧ c = ⟨[], 0, false⟩) ∨ (i + j ≠ a ∧ c.minv = b.minv ∧ c.ro = b.ro ∧ Fr1 a n sz cells b.cells c.cells))
 | [],[],i,_=>⟨rfl,λj c h=>by simp at h⟩
 | [],_::_,_,h=>h.elim
 | _::_,[],_,h=>h.elim
 | b::L,c::L',i,h=>by
  obtain ⟨k,l⟩:=qOx h.2
  refine ⟨by simp [k],λj d hd=>?_⟩
  cases j with
  | zero =>
   simp at hd; subst hd
   refine ⟨b,rfl,?_⟩
   rcases h.1 with ⟨g,e2⟩ | ⟨g,e2⟩
   ·exact .inl ⟨by omega,e2⟩
   ·refine .inr ⟨λe=>?_,e2⟩
    have:i=a:=by omega
    rw [this] at g; simp at g
  | succ j =>
   obtain ⟨b',m,o⟩:=l j d (by simpa using hd)
   refine ⟨b',by simpa using m,?_⟩
   rw [show i+(j+1)=i+1+j by omega]; exact o
theorem qB1 {R:Type} {X:Fx R} {p:Pt} {env env0 eE:Env} {t:Option R} (L L':List Blk) (g n sz minv:Nat) (cells:List AV) (ks:LN) (O:Nat.ble X.n0 g=true) (hl:Nat.ble L.length roots=true) (hr:L[g]? = some ⟨cells,minv,false⟩) (hc:cells.length=n * sz) (hmin:minv≤n * sz) (hp:purs cells=true) (hk:keepOnly env ks=env0) (hE:FrE g n sz cells env0 eE) (hH:FrH g n sz cells 0 L L') (k:Ok X p eE (mkH L') t):Ok X p env (mkH L) t:=by
 intro r hr' m0 w0 J m w a Z Q hnt hd rw st
 have fr:FR m env0 a.tmps:=Q.less (hk ▸ qBl ks env)
 have hl:L.length≤roots:=Nat.le_of_ble_eq_true hl
 have gL:=qB (L:=L) hl
 obtain ⟨hlen,hget⟩:=qOx hH
 have gL':=qB (L:=L') (by omega)
 have hroot:(mkH L).t.get g=some ⟨cells,minv,false⟩:=by rw [gL]; exact hr
 have E:FOk 0 m m.froz w J:=⟨λi B cells hi=>rw.frz i B cells hi,rw.ffin,λi B cells h => .inl h,λ_ _ h=>h⟩
 have key:∃ F,FOk 0 m F w J∧(∀ i B cs,F i=some (B,cs)→m.froz i=some (B,cs)∨∃ v N,m g v=some (B,N))∧(∀ c,VR m (.own g n sz) c→VR ⟨λ_ _=>none,F⟩ (.vec n sz cells) c):=by
  cases hm:m g (n * sz) with
  | none =>
   refine ⟨m.froz,E,λi B cs h => .inl h,?_⟩
   intro c hv
   simp only [VR] at hv
   rcases hv with ⟨l,o⟩ | ⟨B,N,cap,l,_⟩
   ·subst l; subst o
    have:cells=[]:=List.length_eq_zero_iff.1 (by omega)
    subst this
    exact qCq _ _
   ·rw [hm] at l; cases l
  | some BN =>
   obtain ⟨B,N⟩:=BN
   obtain ⟨cs,ty,fr',z,A,D,K,G⟩:=rw.blk _ _ _ _ _ hroot hm hmin (by show n * sz≤cells.length; omega)
   obtain ⟨a3,x,_,_,hbase⟩:=rw.dom _ _ _ _ hm
   rw [hroot] at x
   cases x
   simp only at G
   rw [List.take_of_length_le (by omega)] at G
   have q6:=qBd _ _ hp G
   obtain ⟨F,i,C,S,g3⟩:=qIi E (hbase rfl) ⟨_,_,_,Nat.zero_le _,hm⟩ z (cells:=cells) (by omega) (by rw [hc]; exact q6)
   obtain ⟨nf,hnf⟩:=rw.ffin
   have hmono:∀ j q,m.froz j=some q→(λj=>if j=nf then some (B,cells) else m.froz j) j=some q:=by
    intro j q hq
    simp only
    rw [if_neg]
    ·exact hq
    ·rintro rfl; rw [hnf _ (Nat.le_refl _)] at hq; cases hq
   refine ⟨λj=>if j=nf then some (B,cells) else m.froz j,?_,?_,?_⟩
   ·refine ⟨?_,⟨nf+1,λj hj=>by show (if j=nf then some (B,cells) else m.froz j)=none; rw [if_neg (by omega)]; exact hnf j (by omega)⟩,?_,hmono⟩
    ·intro j B' cells' hj
     have hS:Sub m.still ⟨λ_ _=>none,λj=>if j=nf then some (B,cells) else m.froz j⟩:=⟨λ_ _ _ e=>(by cases e),hmono⟩
     by_cases e:j=nf
     ·simp only [e,if_true] at hj
      cases hj
      exact ⟨cs,ty,fr',z,by omega,by rw [hc]; exact VRs.mono hS _ _ q6⟩
     ·simp only [e,if_false] at hj
      obtain ⟨T,U,V,W,e2,e3⟩:=rw.frz j B' cells' hj
      exact ⟨T,U,V,W,e2,VRs.mono hS _ _ e3⟩
    ·intro j B' cells' hj
     by_cases e:j=nf
     ·simp only [e,if_true] at hj
      cases hj
      exact .inr ⟨hbase rfl,_,_,_,Nat.zero_le _,hm⟩
     ·simp only [e,if_false] at hj
      exact .inl hj
   ·intro j B' cells' hj
    by_cases e:j=nf
    ·simp only [e,if_true] at hj
     cases hj
     exact .inr ⟨_,_,hm⟩
    ·simp only [e,if_false] at hj
     exact .inl hj
   ·intro c hv
    simp only [VR] at hv
    rcases hv with ⟨l,o⟩ | ⟨B2,N2,cap,l,o,h3,h4⟩
    ·subst l; subst o
     have:cells=[]:=List.length_eq_zero_iff.1 (by omega)
     subst this
     exact qCq _ _
    ·rw [hm] at l
     cases l
     subst h4
     simp only [VR]
     refine ⟨hc,_,cap,rfl,o,λe=>(by cases e),λ_=>⟨nf,B,0,cells,by simp,rfl,?_,by omega⟩⟩
     rw [List.drop_zero,List.take_of_length_le (by omega)]
 obtain ⟨F,hFok,hFnew,hvec⟩:=key
 have hout:∀ {r v q},(m.out g F) r v=some q→r ≠ g∧m r v=some q:=by
  intro r v q h
  have h:(if r=g then none else m r v)=some q:=h
  by_cases e:r=g
  ·rw [if_pos e] at h; cases h
  ·rw [if_neg e] at h; exact ⟨e,h⟩
 have hblk:∀ {r c},r ≠ g→(mkH L').t.get r=some c→∃ b,(mkH L).t.get r=some b∧c.minv=b.minv∧c.ro=b.ro∧Fr1 g n sz cells b.cells c.cells:=by
  intro r c hne hc'
  rw [gL'] at hc'
  obtain ⟨b,z,A⟩:=hget r c hc'
  rw [Nat.zero_add] at A
  rcases A with ⟨e,_⟩ | ⟨_,D⟩
  ·exact absurd e hne
  ·exact ⟨b,by rw [gL]; exact z,D⟩
 refine k r hr' m0 w0 J (m.out g F) w a Z ?_ hnt hd ⟨?_,?_,?_,?_,?_,hFok.ok,?_,hFok.fin,rw.base_le,by show L'.length≤roots; omega⟩ ⟨⟨λr v q hq=>(by
  have l:=Z.1 r v q hq
  have o:=Nat.le_of_ble_eq_true O
  show (if r=g then none else m r v)=some q
  rw [if_neg (by omega)]
  exact st.sub.1 r v q hq),λi q hq=>hFok.sub i q (st.sub.2 i q hq)⟩,?_,?_,st.size,st.os,st.tape,st.output,st.same⟩
 ·intro u hu
  obtain ⟨hne,hf⟩:=qKf hE u hu
  obtain ⟨c,l,o⟩:=fr u hne
  refine ⟨c,l,?_⟩
  have:=fr1_ok hFok.sub hvec hf (cs:=[c]) (by simp only [VRs]; exact ⟨c,[],rfl,o,rfl⟩)
  simp only [VRs] at this
  obtain ⟨c',cs',W,h3,_⟩:=this
  cases W
  exact h3
 ·intro r b v B N Y hm l o
  obtain ⟨hne',hm⟩:=hout hm
  obtain ⟨M,C,S,g3,I⟩:=hblk hne' Y
  obtain ⟨cs,ty,fr',z,A,D,K,G⟩:=rw.blk r M v B N C hm (by omega) (by rw [← I.length]; exact o)
  exact ⟨cs,ty,fr',z,A,D,by rw [g3]; exact K,fr1_ok hFok.sub hvec (fr1_take I v) G⟩
 ·intro r v B N hm
  obtain ⟨hne',hm⟩:=hout hm
  obtain ⟨b,z,A,D,K⟩:=rw.dom r v B N hm
  rw [gL] at z
  have hlt:r < L'.length:=by rw [hlen]; exact (List.getElem?_eq_some_iff.1 z).1
  have hc':(mkH L').t.get r=some L'[r]:=by rw [gL']; exact List.getElem?_eq_getElem hlt
  obtain ⟨M,C,S,g3,I⟩:=hblk hne' hc'
  rw [gL,z] at C
  cases C
  exact ⟨_,hc',by rw [I.length]; exact A,D,by rw [g3]; exact K⟩
 ·intro r v B N r' v' N' hm hm' hB
  exact rw.sep _ _ _ _ _ _ _ (hout hm).2 (hout hm').2 hB
 ·intro r hr
  have hr:L'.length≤r:=hr
  rw [gL',List.getElem?_eq_none hr]
 ·intro r v B N hm
  exact rw.vle _ _ _ _ (hout hm).2
 ·intro i B cs r v N b hi hm Y
  obtain ⟨hne',hm⟩:=hout hm
  obtain ⟨M,C,S,g3,I⟩:=hblk hne' Y
  rw [g3]
  rcases hFnew i B cs hi with h | ⟨v',N',h⟩
  ·exact rw.fsep i B cs r v N M h hm C
  ·obtain ⟨J,x,_,_,hbase⟩:=rw.dom _ _ _ _ h
   rw [hroot] at x
   cases x
   exact absurd (rw.sep _ _ _ _ _ _ _ h hm (hbase rfl)).symm hne'
 ·intro r v B N hm
  exact st.ext r v B N (hout hm).2
 ·intro i B cs hi
  rcases hFok.new i B cs hi with h | h
  ·exact st.fext i B cs h
  ·obtain ⟨l,r,v,N,_,hm⟩:=h
   rcases st.ext r v B N hm with ⟨v0,N0,e0⟩ | o
   ·exact .inr ⟨l,.inl ⟨r,v0,N0,e0⟩⟩
   ·exact .inr ⟨l,.inr o⟩
def cT {α R:Type} (m:Option (Option α)) (tc:Option R) (f:α→Option R):Option R:=m.bind λx=>match x with | none=>tc | some y=>f y
def DfR (m:Mp) (f:Nat) (caps:List AV) (ds:List Deferred):Prop := ∃ vals:Array Value,ds=[{ target := .fn (.func f) vals,args := #[] }]∧VRs m caps vals.toList
def DefT (P:Program) (f:Nat) (caps:List AV) (L:List Blk) (u:FrameMode) (L':List Blk):Prop :=
 (∀ (m:Mp) (w:World) (base:Nat) (vals:Array Value),VRs m caps vals.toList→RW m (mkH L) w base→CallsD P f vals u w λe u' w'=>(∃ v,e = .returned v)∧settle u' = .returning∧∃ m',RW m' (mkH L') w' base∧St m w base m' w') ∧
 (∃ fn,P.funcs[f]? = some fn∧(fn.name == "runtime.NumGoroutine")=false∧fn.body.isSome=true)
section
variable {R:Type} (X:Fx R)
def OkD (f:Nat) (caps:List AV) (p:Pt) (env:Env) (H:Hp) (t:Option R):Prop := ∀ r,t=some r→∀ (m0:Mp) (c:World) (b:Nat) (m:Mp) (w:World) (a:Act),((∀ r v p,m0 r v=some p→r < X.n0)∧b≤c.heap.size)→FR m env a.tmps→X.fn.ntmps≤a.tmps.size→DfR m f caps a.defers→RW m H w b→St m0 c b m w→At X.P (Ret X r m0 c b) p a w
end
section
variable {R:Type} {X:Fx R} {f:Nat} {caps:List AV} {p p':Pt} {env eE:Env} {H H':Hp}
theorem put_defers (a:Act) (d:Option Nat) (c:Value):(a.put d c).defers=a.defers:=by cases d <;> rfl
theorem DfR.mono {m m':Mp} {ds:List Deferred} (h:Sub m m') (k:DfR m f caps ds):DfR m' f caps ds:=let ⟨v,e,q⟩:=k; ⟨v,e,VRs.mono h _ _ q⟩
theorem qKe {m : Mp} {env : Env} {a : Act} {n : Nat} (fr : FR m env a.tmps) (j : n ≤ a.tmps.size) (o : Oper) (ho : dstOk n o = true) (v : AV) (c : Value) (hv : VR m v c) :
 FR m (putV env o.dst v) (a.put o.dst c).tmps∧n≤(a.put o.dst c).tmps.size:=by
 obtain ⟨b,g,_⟩:=qBm (a := { a with defers:=[] }) fr j rfl o ho v c hv
 cases h:o.dst <;> rw [h] at b g <;> exact ⟨b,g⟩
theorem okD_at {t:Option R} (h:p=p') (k:OkD X f caps p' env H t):OkD X f caps p env H t:=h ▸ k
theorem qLu {t:Option R} {ops:Array Oper} {n:Nat} {K:List Fr} {o:Oper} {v:AV} (ho:ops[n]? = some o) (hd:dstOk X.fn.ntmps o=true) (hw:wantedV o ops.toList env=some true) (hs:Stp X.P X.C env H o v H') (k:OkD X f caps (.ops ops (n+1) K) (putV env o.dst v) H' t):OkD X f caps (.ops ops n K) env H t:=by
 intro r hr m0 h j m w a g fr l hdf rw st
 show wpOps X.P ops _ (List.range' n (ops.size - n)) a w
 have hlt:n < ops.size:=(Array.getElem?_eq_some_iff.1 ho).1
 rw [show ops.size - n=(ops.size - (n+1))+1 by omega,List.range'_succ]
 simp only [wpOps,ho]
 rw [qB8 hw fr]
 simp only [if_true]
 refine .inl ?_
 refine qL6 X.hti hs fr rw _ _ λm' w' c q b u=>?_
 obtain ⟨f1,f2⟩:=qKe (fr.mono b.sub) l o hd v c u
 exact k r hr m0 h j m' w' _ g f1 f2 (by rw [put_defers]; exact hdf.mono b.sub) q (st.trans g.2 b)
theorem okD_skp {t:Option R} {ops:Array Oper} {n:Nat} {K:List Fr} {o:Oper} (ho:ops[n]? = some o) (hd:dstOk X.fn.ntmps o=true) (hw:wantedV o ops.toList env=some false) (k:OkD X f caps (.ops ops (n+1) K) (putV env o.dst (.tuple [])) H t):OkD X f caps (.ops ops n K) env H t:=by
 intro r hr m0 b c m w a g fr h hdf rw st
 show wpOps X.P ops _ (List.range' n (ops.size - n)) a w
 have hlt:n < ops.size:=(Array.getElem?_eq_some_iff.1 ho).1
 rw [show ops.size - n=(ops.size - (n+1))+1 by omega,List.range'_succ]
 simp only [wpOps,ho]
 rw [qB8 hw fr]
 simp only [Bool.false_eq_true,if_false]
 obtain ⟨f1,f2⟩:=qKe fr h o hd (.tuple []) undef (qFp _)
 exact k r hr m0 b c m w _ g f1 f2 (by rw [put_defers]; exact hdf) rw st
theorem qCa {t:Option R} (h:∀ (Q:Exit→Act→World→Prop) (a:Act) (w:World),At X.P Q p' a w→At X.P Q p a w) (k:OkD X f caps p' env H t):OkD X f caps p env H t :=
 λr hr m0 b c m w a g fr j hd rw st=>h _ a w (k r hr m0 b c m w a g fr j hd rw st)
theorem stepD_ok {t:Option R} (h:stepV X.C X.fn.ntmps p env H=some (p',eE,H')) (k:OkD X f caps p' eE H' t):OkD X f caps p env H t:=by
 cases p with
 | ops ops n K =>
  simp only [stepV] at h
  rw [qCb,Array.getElem?_toList] at h
  cases ho:ops[n]? with
  | none =>
   rw [ho] at h
   cases h
   refine qCa (λQ a w hh=>?_) k
   show wpOps X.P ops _ (List.range' n (ops.size - n)) a w
   have hle:ops.size≤n:=by
    rcases Nat.lt_or_ge n ops.size with g | g
    ·rw [Array.getElem?_eq_getElem g] at ho; cases ho
    ·exact g
   rw [show ops.size - n=0 by omega]
   exact qB3 hh
  | some o =>
   rw [ho] at h
   simp only at h
   cases hd:dstOk X.fn.ntmps o with
   | false=>rw [hd] at h; cases h
   | true =>
    rw [hd] at h
    simp only [cond_true] at h
    split at h
    ·rename_i hw
     split at h
     ·rename_i v D hv
      cases h
      exact qLu ho hd hw (.inl hv) k
     ·cases h
    ·rename_i hw
     cases h
     exact okD_skp ho hd hw k
    ·cases h
 | code c K =>
  cases c <;> simp only [stepV] at h
  case seq x y=>cases h; exact qCa (p' := .code x (.seq y::K)) (λQ a w hh=>wp_seq (wp_mono hh λe a w he=>by cases e <;> exact he)) k
  case skip=>cases h; exact qCa (λQ a w hh=>wp_skip (qB3 hh)) k
  case label=>cases h; exact qCa (λQ a w hh=>wp_label (qB3 hh)) k
  case block id b=>cases h; exact qCa (p' := .code b (.block id::K)) (λQ a w hh=>wp_block hh) k
  case scope b=>cases h; exact qCa (p' := .code b (.scope b::K)) (λQ a w hh=>(qEr hh).wp) k
  case loop b=>cases h; exact qCa (p' := .loop _ _) (λQ a w hh=>LoopWp.wp hh) k
  case exit id =>
   split at h
   ·rename_i q hq
    cases h
    exact qCa (λQ a w hh=>wp_exit (qCk hq hh)) k
   ·cases h
  case goto l =>
   split at h
   ·rename_i q hq
    cases h
    exact qCa (λQ a w hh=>wp_goto (qD hq hh)) k
   ·cases h
  case ret=>cases h; exact qCa (p' := .fin) (λQ a w hh=>wp_ret (qD5 hh.2 K)) k
  case region id ops draw =>
   cases draw with
   | true=>cases h
   | false =>
    cases h
    refine qCa (p' := .ops ops 0 K) (λQ a w hh=>wp_region ?_) k
    have hh':wpOps X.P ops (FinK X.P Q K) (List.range' 0 (ops.size - 0)) a w:=hh
    rw [List.range_eq_range']
    exact hh'
  case cond c x y =>
   split at h
   ·rename_i b j
    cases h
    intro r hr m0 u z m w a A fr B hd rw st
    have hc:=qC3 fr c
    rw [j] at hc
    simp only [VR] at hc
    refine wp_cond hc ?_
    have:=k r hr m0 u z m w a A fr B hd rw st
    cases b <;> exact this
   ·cases h
  all_goals cases h
 | loop b K=>cases h
 | fin=>cases h
theorem qDv {t : Option R} : ∀ (k : Nat) {p : Pt} {env : Env} {H : Hp}, runV X.C X.fn.ntmps k p env H = some (p', eE, H') → OkD X f caps p' eE H' t → OkD X f caps p env H t
 | 0,p,env,H,h,g=>by
  have h':some (p,env,H)=some (p',eE,H'):=h
  cases h'
  exact g
 | k+1,p,env,H,h,g=>by
  have h':(match stepV X.C X.fn.ntmps p env H with | some (p',eE,H')=>runV X.C X.fn.ntmps k p' eE H' | none=>none)=some (p',eE,H'):=h
  split at h'
  ·rename_i a env1 b hs
   exact stepD_ok hs (qDv k h' g)
  ·cases h'
noncomputable def deferAt (n:Nat) (p:Pt) (env:Env):Option (Nat×List AV) :=
 match operAt n p env with
 | some o=>match o.op,o.dst with
  | .defer c,none=>match c.callee,c.args.toList with
   | .value g,[]=>match opnd env g with
    | .func f [] caps=>some (f,caps)
    | _=>none
   | _,_=>none
  | _,_=>none
 | none=>none
theorem qIy {t:Option R} (h:deferAt X.fn.ntmps p env=some (f,caps)) (k:OkD X f caps (adv p) env H t):Ok X p env H t:=by
 unfold deferAt at h
 cases ho:operAt X.fn.ntmps p env with
 | none=>rw [ho] at h; cases h
 | some o =>
  rw [ho] at h
  simp only at h
  obtain ⟨ops,n,K,rfl,b,z,j⟩:=qB0 ho
  split at h
  ·rename_i c hop hdst
   split at h
   ·rename_i g hcal hargs
    split at h
    ·rename_i f' caps' hg
     cases h
     intro r hr m0 l q m w a u fr x hdf rw st
     show wpOps X.P ops _ (List.range' n (ops.size - n)) a w
     have hlt:n < ops.size:=(Array.getElem?_eq_some_iff.1 b).1
     rw [show ops.size - n=(ops.size - (n+1))+1 by omega,List.range'_succ]
     simp only [wpOps,b]
     rw [qB8 j fr]
     simp only [if_true]
     refine .inl ?_
     have hgv:=qC3 fr g
     rw [hg] at hgv
     simp only [VR,VRs] at hgv
     obtain ⟨ys,zs,hgv,hy,hz⟩:=hgv
     have hys:ys = #[]:=Array.toList_eq_nil_iff.1 hy
     subst hys
     have ha:c.args = #[]:=Array.toList_eq_nil_iff.1 hargs
     have hexec:(execOp a.eval o).run X.P w = .ok (.defer { target := .fn (.func f) zs,args := #[] }) w:=by
      simp [execOp,hop,resolve,hcal,hgv,Deferred.ofValue,ha,Sem.run,Bind.bind,Sem.bind,Pure.pure,Sem.pure]
     unfold Oper.wp
     rw [hexec]
     show wpOps X.P ops _ (List.range' (n+1) (ops.size - (n+1))) ({ a with defers := { target := .fn (.func f) zs,args := #[] }::a.defers }.put o.dst undef) w
     rw [hdst]
     refine k r hr m0 l q m w _ u fr x ⟨zs,?_,hz⟩ rw st
     show { target := .fn (.func f) zs,args := #[] }::a.defers=_
     rw [hdf]
    ·cases h
   ·cases h
  ·cases h
theorem qLy {P:Program} {f:Nat} {vals:Array Value} {w:World} (h:∃ fn,P.funcs[f]? = some fn∧(fn.name == "runtime.NumGoroutine")=false∧fn.body.isSome=true):(invoke (.fn (.func f) vals) #[]).run P w = .ok (.enter f vals) w:=by
 obtain ⟨fn,c,e2,e3⟩:=h
 have a:¬ fn.name = "runtime.NumGoroutine" := by simpa using e2
 have b:¬ fn.body=none:=by intro e; rw [e] at e3; cases e3
 simp [invoke,callFunc,c,a,b]
theorem qEe {r : R} {xs : List AV} {v : AV} {u : FrameMode} {m0 m : Mp} {h w : World} {b : Nat} {a : Act} (l L g : List Blk) (hu : u ≠ .run) (hdT : DefT X.P f caps l u (L ++ g)) (ht : X.thr r = none) (hr : resV X.C env (mkH (L ++ g)) X.fn.results.toList = some xs) (o : Nat.ble (L.length + g.length) roots = true) (j : Nat.ble X.n0 L.length = true)
 (hz:FzG L.length (mkH (L++g)) [oneRes xs] [v]) (q:BB L.length L) (hv:X.enc r=v) (hf:X.fin r=mkH L) (n:(∀ r v p,m0 r v=some p→r < X.n0)∧b≤h.heap.size) (fr:FR m env a.tmps) (hd:DfR m f caps a.defers) (rw:RW m (mkH l) w b) (st:St m0 h b m w) :
 Leaves X.P X.fn a.tmps (EndT (X.thr r) (X.enc r) (X.fin r) m0 h b) a.defers u w:=by
 obtain ⟨vals,hds,hvals⟩:=hd
 rw [hds]
 refine leaves_cons hu (qLy hdT.2) (CallsD.mono (hdT.1 m w b vals hvals rw) ?_)
 rintro e u' w' ⟨⟨c,rfl⟩,hs,m',rw',st'⟩
 have k:=st.trans n.2 st'
 obtain ⟨c',x,e⟩:=qIt (env:=env) (a:=a) n L g ht hr o j hz q hv hf (fr.mono st'.sub) rw' k
 show Leaves X.P X.fn a.tmps _ [] (settle u') w'
 rw [hs]
 exact ⟨c',x,e⟩
theorem qLv {r : R} {xs : List AV} {v : AV} (c L b : List Blk) (hX : X.dfs = true) (hH : H = mkH c) (hdT : DefT X.P f caps c .returning (L ++ b)) (ht : X.thr r = none) (hr : resV X.C env (mkH (L ++ b)) X.fn.results.toList = some xs) (k : Nat.ble (L.length + b.length) roots = true) (g : Nat.ble X.n0 L.length = true)
 (hz:FzG L.length (mkH (L++b)) [oneRes xs] [v]) (l:BB L.length L) (hv:X.enc r=v) (hf:X.fin r=mkH L):OkD X f caps .fin env H (some r):=by
 intro r' e m0 h j m w a n fr hnt hd rw st
 cases e
 subst hH
 have:=qEe (u := .returning) c L b (by intro e; cases e) hdT ht hr k g hz l hv hf n fr hd rw st
 show Ret X r m0 h j .normal a w∧Ret X r m0 h j .ret a w
 unfold Ret
 rw [hX]
 exact ⟨this,this⟩
theorem qJ {α : Type} {mm : Option (Option α)} {ff : α → Option R} {tc : Option R} {fi : Nat} {args : List AV} {tv : Value} {D : LN} {xs : List AV} {v : AV} {rc : R} (g : α → AV) (G : α → Hp) (p' : Pt) (E : α → Env) (I L j : List Blk) (env2 : Env) (ks : LN) (nk : Nat) (hX : X.dfs = true) (htc : tc = some rc) (hc : callAt X.fn.ntmps p env = some (fi, args))
 (J:mm=some none→∃ v,CallT X.P fi args H (some (tv,D)) v (mkH I)) (hD:(D.all λr=>Nat.ble nk r && Nat.ble X.n0 r)=true) (hk:keepOnly env ks=env2) (hbe:belowE nk env2=true) (hbc:belows nk caps=true)
 (hdT:DefT X.P f caps I (.panicking [{ v:=tv,recovered:=false }]) (L++j)) (ht:X.thr rc=none) (hr:resV X.C env2 (mkH (L++j)) X.fn.results.toList=some xs) (l:Nat.ble (L.length+j.length) roots=true) (M:Nat.ble X.n0 L.length=true)
 (hz:FzG L.length (mkH (L++j)) [oneRes xs] [v]) (hb:BB L.length L) (hv:X.enc rc=v) (hff:X.fin rc=mkH L)
 (hf:∀ x,mm=some (some x)→CallT X.P fi args H none (g x) (G x)) (ha:∀ x,advE X.fn.ntmps p env (g x)=some (p',E x)) (k:∀ x,mm=some (some x)→OkD X f caps p' (E x) (G x) (ff x)):OkD X f caps p env H (cT mm tc ff):=by
 unfold cT
 intro r hr' m0 Y Z m w a A fr hnt hd rw st
 cases hmm:mm with
 | none=>rw [hmm] at hr'; cases hr'
 | some x =>
  rw [hmm] at hr'
  cases x with
  | some y =>
   obtain ⟨o,c,q,first,cps,ho,hoc,hq,hfv,hargs⟩:=qC5 hc
   have hay:=ha y
   unfold advE at hay
   rw [ho] at hay
   simp only [Option.some.injEq,Prod.mk.injEq] at hay
   obtain ⟨O,e2⟩:=hay
   obtain ⟨ops,n,K,rfl,F,h2,Q⟩:=qB0 ho
   have ky:=k y hmm
   rw [← O,← e2] at ky
   exact qLu F h2 Q (.inr ⟨c,q,fi,first,cps,hoc,hq,hfv,hargs ▸ (hf y hmm).v⟩) ky r hr' m0 Y Z m w a A fr hnt hd rw st
  | none =>
   obtain ⟨S,hcall⟩:=J hmm
   have hr':tc=some r:=hr'
   rw [htc] at hr'
   cases hr'
   obtain ⟨o,c,q,first,cps,ho,hoc,hq,hfv,hargs⟩:=qC5 hc
   obtain ⟨ops,n,K,rfl,F,h2,Q⟩:=qB0 ho
   show wpOps X.P ops _ (List.range' n (ops.size - n)) a w
   have hlt:n < ops.size:=(Array.getElem?_eq_some_iff.1 F).1
   rw [show ops.size - n=(ops.size - (n+1))+1 by omega,List.range'_succ]
   simp only [wpOps,F]
   rw [qB8 Q fr]
   simp only [if_true]
   refine .inl ?_
   refine qDl (.inr ⟨c,q,fi,first,cps,S,hoc,hq,hfv,hargs ▸ hcall⟩) fr rw _ _ λw' th=>qBo ?_ K
   obtain ⟨qt,b,d1,d2,d3,T⟩:=th
   have hDk:∀ r ∈ D,nk≤r∧X.n0≤r:=by
    intro r hr
    have:=List.all_eq_true.1 hD r hr
    simpa using this
   have hkeep:∀ i v p,i < nk→m i v=some p→b i v=some p:=by
    intro i v p hi e
    rw [d1,if_neg (λh=>by have:=(hDk i h).1; omega)]
    exact e
   have U:FR b env2 a.tmps:=by
    intro t ht
    obtain ⟨c,g1,g2⟩:=(fr.less (hk ▸ qBl ks env)) t ht
    refine ⟨c,g1,?_⟩
    have:=qEu (m:=m) (m0:=b) (ρ:=id) (n:=nk) (λi v p hi e=>hkeep i v p hi e) d2 _ c (qCu t hbe)
    exact this (by rw [qGi]; exact g2)
   have V:DfR b f caps a.defers:=by
    obtain ⟨vals,O,e2⟩:=hd
    refine ⟨vals,O,?_⟩
    exact qB4 (m:=m) (m0:=b) (ρ:=id) (n:=nk) (λi v p hi e=>hkeep i v p hi e) d2 _ _ hbc (by rw [qCj]; exact e2)
   have W:St m0 Y Z b w':=by
    have z:=st.qt A.2 qt
    refine ⟨⟨λr v p hp=>?_,λi p hp=>d2 i p (st.sub.2 i p hp)⟩,?_,?_,z.size,z.os,z.tape,z.output,z.same⟩
    ·rw [d1,if_neg (λh=>by have:=(hDk r h).2; have:=A.1 r v p hp; omega)]
     exact st.sub.1 r v p hp
    ·intro r v B N e
     rw [d1] at e
     split at e
     ·cases e
     ·exact st.ext r v B N e
    ·intro i B cells e
     rcases d3 i B cells e with h | ⟨hB,⟨r,v,N,hm⟩ | l⟩
     ·exact st.fext i B cells h
     ·rcases st.ext r v B N hm with ⟨S,N0,e0⟩ | l
      ·exact .inr ⟨hB,.inl ⟨r,S,N0,e0⟩⟩
      ·exact .inr ⟨hB,.inr l⟩
     ·exact .inr ⟨hB,.inr (Nat.le_trans st.size l)⟩
   have:=qEe (env:=env2) (u := .panicking [{ v:=tv,recovered:=false }]) I L j (by intro e; cases e) hdT ht hr l M hz hb hv hff A U V T W
   unfold Ret
   rw [hX]
   exact this
end
theorem defT_of (Y : Fx Unit) {f : Nat} {L L' : List Blk} {caps : List AV} {id : Nat} {ops : Array Oper} {rest : Code} {g j : Oper} {d1 d2 : Nat} {u u' : FrameMode} {xv : Value} {x : AV} (hf : Y.P.funcs[f]? = some Y.fn) (M : (Y.fn.name == "runtime.NumGoroutine") = false) (B : Y.fn.body = some (.seq (.region id ops false) rest)) (hops : ops = #[g, j])
 (N:g.op = .call ⟨.builtin .recover,#[],#[]⟩) (J:g.dst=some d1) (g3:g.guard=none) (O:j.op = .assign (.tmp d1)) (g5:j.dst=some d2) (g6:j.guard=none) (D:d1 < Y.fn.ntmps) (E:d2 < Y.fn.ntmps) (hdfs:Y.dfs=false) (hthr:Y.thr ()=none) (hfin:Y.fin ()=mkH L') (F:Y.n0=L.length)
 (K:∀ m,VR m x xv) (hu:∀ (c₀:Frame) (cs:List Frame),c₀.mode=u→(recoverD (c₀::cs)=some (xv,{ c₀ with mode:=u' }::cs))∨(recoverD (c₀::cs)=none∧xv = .nilIface∧u'=u)) (hset:settle u' = .returning)
 (h:Ok Y (.code rest []) ((d2,x)::(d1,x)::args0 0 caps) (mkH L) (some ())):DefT Y.P f caps L u L':=by
 refine ⟨?_,Y.fn,hf,M,by rw [B]; rfl⟩
 intro m w base vals hvals rw
 refine callsD_of_wpS hf B λc₀ cs hc=>?_
 let k:Act := { tmps:=vals++Array.replicate (Y.fn.ntmps - vals.size) undef,defers:=[] }
 have hmid:∀ n:Act,n=(k.put (some d1) xv).put (some d2) xv→rest.wp Y.P (Ret Y () m w base) n w:=by
  rintro n rfl
  have f1:FR m (args0 0 caps) k.tmps:=qIr hvals
  have hsz:Y.fn.ntmps≤k.tmps.size:=by simp [k]; omega
  have f2:=f1.put d1 x xv (K m) (.inl (Nat.lt_of_lt_of_le D hsz))
  have f3:=f2.put d2 x xv (K m) (.inl (by simp; exact Nat.lt_of_lt_of_le E hsz))
  refine h () rfl m w base m w ((k.put (some d1) xv).put (some d2) xv) ⟨λr v p e=>?_,rw.base_le⟩ ?_ (by simp [Act.put]; exact hsz) rfl rw (St.refl _ _ _)
  ·obtain ⟨b,B,_⟩:=rw.dom r v p.1 p.2 e
   rw [F]
   exact rw.lt B
  ·refine f3.less ?_
   intro t
   right
   rw [qBb,qAo]
   by_cases e:d2=t
   ·rw [if_pos e,if_pos e]
   ·rw [if_neg e,if_neg e,qBb,qAo]
 have hend:∀ (n:Act),n=(k.put (some d1) xv).put (some d2) xv→rest.wpS Y.P (bodyPostS Y.P Y.fn c₀ cs λe o w'=>(∃ v,e = .returned v)∧settle o = .returning∧∃ m',RW m' (mkH L') w' base∧St m w base m' w') n ({ c₀ with mode:=u' }::cs) w:=by
  intro n G
  refine wpS_of_wp (wp_mono (hmid n G) λe a' w' he=>?_)
  have key:a'.defers=[]→(∃ v,(results Y.fn a'.tmps).run Y.P w' = .ok v w'∧EndT (Y.thr ()) (Y.enc ()) (Y.fin ()) m w base (.returned v) w')→a'.defers=[]∧∃ o,({ c₀ with mode:=u' }::cs) = { c₀ with mode:=o }::cs∧∃ v,(results Y.fn a'.tmps).run Y.P w' = .ok v w'∧((∃ v',Ending.returned v = .returned v')∧settle o = .returning∧∃ m',RW m' (mkH L') w' base∧St m w base m' w'):=by
   rintro hd ⟨v,Q,q⟩
   rw [hthr,hfin] at q
   obtain ⟨m',c,C,e2,e3,_⟩:=q
   exact ⟨hd,u',rfl,v,Q,⟨v,rfl⟩,hset,m',e2,e3⟩
  unfold Ret at he
  rw [hdfs] at he
  cases e with
  | normal=>exact key he.1 he.2
  | ret=>exact key he.1 he.2
  | panic ch =>
   have q:=he.2
   rw [hthr] at q
   obtain ⟨m',c,C,_⟩:=q
   cases C
  | exit id=>exact he.elim
  | goto l=>exact he.elim
  | outgrown =>
   have q:EndT (Y.thr ()) (Y.enc ()) (Y.fin ()) m w base .outgrown w':=he
   rw [hthr] at q
   obtain ⟨m',c,C,_⟩:=q
   cases C
 refine wpS_seq (wpS_region ?_)
 subst hops
 have z:Region.wanted g (yielded #[g,j] k.tmps)=true:=by simp [Region.wanted,g3]
 have A:(execOp k.eval g).run Y.P w = .ok .recover w:=by simp [execOp,N,resolve,invoke,builtin,Sem.run,Bind.bind,Sem.bind,Pure.pure,Sem.pure]
 have hev:∀ a:Act,a=k.put (some d1) xv→(execOp a.eval j).run Y.P w = .ok (.value xv) w:=by
  rintro a rfl
  have hlt:d1 < k.tmps.size:=by simp [k]; omega
  simp [execOp,O,Act.eval,Act.put,Sem.run,Pure.pure,Sem.pure,hlt]
 have I:∀ a:Act,Region.wanted j (yielded #[g,j] a.tmps)=true:=by intro a; simp [Region.wanted,g6]
 show wpOpsS Y.P #[g,j] _ [0,1] k (c₀::cs) w
 have step2:∀ (a:Act) (cs':List Frame),a=k.put (some d1) xv→cs' = { c₀ with mode:=u' }::cs→wpOpsS Y.P #[g,j] (Exit.thenS (rest.wpS Y.P (bodyPostS Y.P Y.fn c₀ cs λe o w'=>(∃ v,e = .returned v)∧settle o = .returning∧∃ m',RW m' (mkH L') w' base∧St m w base m' w')) (bodyPostS Y.P Y.fn c₀ cs λe o w'=>(∃ v,e = .returned v)∧settle o = .returning∧∃ m',RW m' (mkH L') w' base∧St m w base m' w')) [1] a cs' w:=by
  intro a cs' ha hcs
  subst hcs
  simp only [wpOpsS]
  rw [show (#[g,j]:Array Oper)[1]? = some j from rfl]
  simp only [I a,if_true,hev a ha,Oper.upon,g5]
  exact hend _ (by rw [ha])
 rcases hu c₀ cs hc with hrec | ⟨hrec,hxv,huu⟩
 ·have:=step2 _ _ rfl rfl
  unfold wpOpsS
  rw [show (#[g,j]:Array Oper)[0]? = some g from rfl]
  simp only [z,if_true,A,J,hrec]
  exact this
 ·have hcs:({ c₀ with mode:=u' }::cs:List Frame)=c₀::cs:=by rw [huu,← hc]
  have:=step2 (k.put (some d1) .nilIface) (c₀::cs) (by rw [hxv]) hcs.symm
  unfold wpOpsS
  rw [show (#[g,j]:Array Oper)[0]? = some g from rfl]
  simp only [z,if_true,A,J,hrec]
  exact this
noncomputable def recAt (fn:Func) (d1 d2:Nat):Bool :=
 match fn.body with
 | some (.seq (.region _ ops false) _)=>match ops.toList with
  | [a, b] => (match a.op with | .call ⟨.builtin .recover, c, g⟩ => c.toList.isEmpty && g.toList.isEmpty | _ => false) && (match a.dst with | some d => Nat.beq d d1 | none => false) && a.guard.isNone &&
   (match b.op with | .assign (.tmp e)=>Nat.beq e d1 | _=>false) && (match b.dst with | some d=>Nat.beq d d2 | none=>false) && b.guard.isNone && Nat.blt d1 fn.ntmps && Nat.blt d2 fn.ntmps
  | _=>false
 | _=>false
def restAt (fn:Func):Pt:=match fn.body with | some (.seq _ rest) => .code rest [] | _ => .fin
structure Cat (u:FrameMode) (x:AV):Prop where
 ex:∃ u' xv,(∀ m,VR m x xv)∧(∀ (c₀:Frame) (cs:List Frame),c₀.mode=u→(recoverD (c₀::cs)=some (xv,{ c₀ with mode:=u' }::cs))∨(recoverD (c₀::cs)=none∧xv = .nilIface∧u'=u))∧settle u' = .returning
theorem qDj (Y : Fx Unit) (d1 d2 : Nat) {f : Nat} {L L' : List Blk} {caps : List AV} {u : FrameMode} {x : AV} (hcat : Cat u x) (hf : Y.P.funcs[f]? = some Y.fn) (l : (Y.fn.name == "runtime.NumGoroutine") = false) (a : recAt Y.fn d1 d2 = true) (hdfs : Y.dfs = false) (hthr : Y.thr () = none) (hfin : Y.fin () = mkH L') (c : Y.n0 = L.length)
 (h:Ok Y (restAt Y.fn) ((d2,x)::(d1,x)::args0 0 caps) (mkH L) (some ())):DefT Y.P f caps L u L':=by
 obtain ⟨u',xv,m,hu,hset⟩:=hcat.ex
 unfold recAt at a
 split at a
 ·rename_i id ops rest hbody
  split at a
  ·rename_i B C hops
   simp only [Bool.and_eq_true] at a
   obtain ⟨⟨⟨⟨⟨⟨⟨b,g⟩,n⟩,j⟩,k⟩,o⟩,q⟩,r⟩:=a
   have hr:restAt Y.fn = .code rest []:=by simp [restAt,hbody]
   rw [hr] at h
   refine defT_of Y (d1:=d1) (d2:=d2) hf l hbody (by rw [← hops]) ?_ ?_ (by simpa using n) ?_ ?_ (by simpa using o) (by simpa using q) (by simpa using r) hdfs hthr hfin c m hu hset h
   ·split at b
    ·rename_i z A e
     simp only [Bool.and_eq_true,List.isEmpty_iff,Array.toList_eq_nil_iff] at b
     rw [e,b.1,b.2]
    ·cases b
   ·split at g
    ·rename_i d e; rw [e,Nat.eq_of_beq_eq_true g]
    ·cases g
   ·split at j
    ·rename_i d e; rw [e,Nat.eq_of_beq_eq_true j]
    ·cases j
   ·split at k
    ·rename_i d e; rw [e,Nat.eq_of_beq_eq_true k]
    ·cases k
  ·cases a
 ·cases a
theorem qJ1:Cat .returning .nili :=
 ⟨.returning,.nilIface,λm=>by simp [VR],λc₀ cs hc => .inr ⟨by simp [recoverD,hc],rfl,rfl⟩,rfl⟩
theorem qE8 {t:Nat}:Cat (.panicking [{ v := .iface t (.agg #[]),recovered:=false }]) (.iface t (.agg [])) :=
 ⟨.panicking [{ v := .iface t (.agg #[]),recovered:=true }],.iface t (.agg #[]),λm=>by simp [VR,VRs],λc₀ cs hc => .inl (by simp [recoverD,hc]),rfl⟩
noncomputable def lp {α:Type} (z:α) (f:α→α) (n:Nat):α:=Nat.rec (motive:=λ_=>α) z (λ_ ih=>f ih) n
def orO {α R:Type} (m:Option α) (f:α→Option R) (t:Option R):Option R:=match m with
 | some x=>f x
 | none=>t
abbrev AV.i (n:Int):AV := .int .i64 n
abbrev AV.y (n:Int):AV := .int .u8 n
def PTh {R:Type} (X:Fx (Option R)) (fi:Nat) (xs:List AV) (m:Option (Option R)):Prop := ∀ x,m=some (some x)→CallT X.P fi xs (X.fin none) (X.thr (some x)) (X.enc (some x)) (X.fin (some x))
def QTh {R:Type} (X:Fx (Option R)) (fi:Nat) (xs:List AV) (m:Option (Option R)):Prop:=m=some none→∃ v,CallT X.P fi xs (X.fin none) (X.thr none) v (X.fin none)
def PNh {R:Type} (X:Fx R) (fi:Nat) (xs:List AV) (H:Hp) (m:Option R):Prop := ∀ x,m=some x→CallT X.P fi xs H none (X.enc x) (X.fin x)
def PQh {R:Type} (X:Fx (Option R)) (fi:Nat) (xs:List AV) (m:Option (Option R)):Prop:=PTh X fi xs m∧QTh X fi xs m
noncomputable def DP.th (D:DP) (i:Nat) (v:Value) (ds:LN) (H:Hp):DP:=⟨D.S,D.pl,i,v,ds,H⟩
section
variable {R:Type} {X:Fx R} {p:Pt} {env:Env} {H:Hp} {t:Option R}
theorem oLH (k:Nat) (p':Pt) (eE:Env) (H':Hp) (g:Ok X p' eE H' t) (h:(runV X.C X.fn.ntmps k p env H).map (λx=>(x.1,keepOnly x.2.1 (eE.map Prod.fst),x.2.2))=some (p',eE,H'):=by kernel_rfl):Ok X p env H t:=by
 cases hr:runV X.C X.fn.ntmps k p env H with
 | none=>rw [hr] at h; cases h
 | some x =>
  obtain ⟨q,e,G⟩:=x
  rw [hr] at h
  simp only [Option.map_some,Option.some.injEq,Prod.mk.injEq] at h
  obtain ⟨rfl,a,rfl⟩:=h
  exact qEa k hr (qGx _ a g)
theorem oL (k:Nat) (p':Pt) (eE:Env) (g:Ok X p' eE H t) (h:(runV X.C X.fn.ntmps k p env H).map (λx=>(x.1,keepOnly x.2.1 (eE.map Prod.fst),x.2.2))=some (p',eE,H):=by kernel_rfl):Ok X p env H t:=oLH k p' eE H g h
theorem oR (k:Nat) (p':Pt) (eE:Env) (g:Ok X p' eE H t) (h:runV X.C X.fn.ntmps k p env H=some (p',eE,H):=by kernel_rfl):Ok X p env H t:=qEa k h g
theorem oH (k:Nat) (p':Pt) (eE:Env) (H':Hp) (g:Ok X p' eE H' t) (h:runV X.C X.fn.ntmps k p env H=some (p',eE,H'):=by kernel_rfl):Ok X p env H t:=qEa k h g
theorem oK0 (ks:LN) (k:Ok X p (keepOnly env ks) H t):Ok X p env H t:=qGx ks rfl k
theorem oK (ks:LN) (eE:Env) (k:Ok X p eE H t) (h:keepOnly env ks=eE:=by kernel_rfl):Ok X p env H t:=qGx ks h k
theorem ok_orO {α:Type} {m:Option α} {f:α→Option R} (h:Ok X p env H (m.bind f)) (k:Ok X p env H t):Ok X p env H (orO m f t):=by
 cases m with
 | none=>exact k
 | some x=>exact h
theorem oE (eE:Env) (k:Ok X p eE H t) (h:env=eE:=by kernel_rfl):Ok X p env H t:=qA1 h k
theorem oHp (H':Hp) (k:Ok X p env H' t) (h:H=H':=by kernel_rfl):Ok X p env H t:=ok_heap h k
theorem oS {a c:Option R} (d:Nat) {b:Bool} (g:b=true→Ok X p ((d,.bool true)::env) H a) (j:b=false→Ok X p ((d,.bool false)::env) H c) (h:look env d = .bool b:=by kernel_rfl):Ok X p env H (if b then a else c):=ok_split d h g j
theorem oC {α:Type} {m:Option α} {f:α→Option R} (g:α→AV×Hp) (p':Pt) (d:Nat) (h:evalAt X.C X.fn.ntmps p env H=m.map g) (k:∀ x,m=some x→Ok X p' ((d,(g x).1)::env) (g x).2 (f x)) (ha:∀ x,advE X.fn.ntmps p env (g x).1=some (p',(d,(g x).1)::env):=by exact λ_=>by kernel_rfl):Ok X p env H (m.bind f):=ok_chk g p' (λx=>(d,(g x).1)::env) h ha k
theorem oRem {f : Int → Option R} {a b : Int} (k : IntKind) (s d : Nat) (p' : Pt) (kk : ∀ z, remS a b = some z → Ok X p' ((d, .int k z) :: env) H (f z)) (hs : look env s = .int k b := by kernel_rfl)
 (h:∀ y,evalAt X.C X.fn.ntmps p ((s,.int k y)::env) H=(if y=0 then none else some (AV.int k (a.tmod y))).map λv=>(v,H):=by exact λ_=>by kernel_rfl)
 (ha:∀ y z,advE X.fn.ntmps p ((s,.int k y)::env) (.int k z)=some (p',(d,.int k z)::(s,.int k y)::env):=by exact λ_ _=>by kernel_rfl):Ok X p env H ((remS a b).bind f):=by
 refine qDt (qF3 hs) (ok_chk (λz=>(.int k z,H)) p' (λz=>(d,.int k z)::(s,.int k b)::env) (remH (h b)) (ha b) λz hz=>qDt ?_ (kk z hz))
 intro t
 simp only [qAo]
 by_cases e:d=t
 ·simp [e]
 ·by_cases e2:s=t
  ·subst e2; simp [e,hs]
  ·simp [e,e2]
theorem oA {α:Type} {m:Option α} {f:α→Option R} {fi:Nat} (g:α→AV) (p':Pt) (d:Nat) (args:List AV) (hf:∀ x,m=some x→PureOk X.P fi args (g x)) (k:∀ x,m=some x→Ok X p' ((d,g x)::env) H (f x)) (hc:(callAt X.fn.ntmps p env,purs args)=(some (fi,args),true):=by kernel_rfl) (hg:∀ x,(pur (g x),advE X.fn.ntmps p env (g x))=(true,some (p',(d,g x)::env)):=by exact λ_=>by kernel_rfl):Ok X p env H (m.bind f) :=
 qLt g p' (λx=>(d,g x)::env) (congrArg Prod.fst hc) (congrArg Prod.snd hc) (λx=>congrArg Prod.fst (hg x)) hf (λx=>congrArg Prod.snd (hg x)) k
theorem oAp {α:Type} {m:Option α} {f:α→Option R} {fi:Nat} (g:α→AV) (p':Pt) (d:Nat) (args:List AV) (hp:∀ x,pur (g x)=true) (hf:∀ x,m=some x→PureOk X.P fi args (g x)) (k:∀ x,m=some x→Ok X p' ((d,g x)::env) H (f x)) (hc:(callAt X.fn.ntmps p env,purs args)=(some (fi,args),true):=by kernel_rfl) (hg:∀ x,advE X.fn.ntmps p env (g x)=some (p',(d,g x)::env):=by exact λ_=>by kernel_rfl):Ok X p env H (m.bind f) :=
 qLt g p' (λx=>(d,g x)::env) (congrArg Prod.fst hc) (congrArg Prod.snd hc) hp hf hg k
theorem oP {r:R} (h:(X.n0,X.fin r,X.thr r,(resV X.C env H X.fn.results.toList).map λxs=>(oneRes xs,purs [oneRes xs]))=(0,H0,none,some (X.enc r,true)):=by kernel_rfl):Ok X .fin env H (some r):=by
 simp only [Prod.mk.injEq] at h
 obtain ⟨b,c,g,a⟩:=h
 cases hr:resV X.C env H X.fn.results.toList with
 | none=>rw [hr] at a; cases a
 | some xs =>
  rw [hr] at a
  simp only [Option.map_some,Option.some.injEq,Prod.mk.injEq] at a
  exact ok_ret b c g hr (.pures a.2) a.1.symm
theorem oT {r:R} (xs:List AV) (v:AV) (hz:FzG 0 H [oneRes xs] [v]) (h:(X.n0,X.fin r,X.thr r,resV X.C env H X.fn.results.toList,X.enc r)=(0,H0,none,some xs,v):=by kernel_rfl):Ok X .fin env H (some r):=by
 simp only [Prod.mk.injEq] at h
 obtain ⟨a,b,c,g,j⟩:=h
 exact ok_ret a b c g hz j
theorem oQ {r:R} (k:Nat) (h:(runV X.C X.fn.ntmps k p env H).map (λx=>(x.1,X.n0,X.fin r,X.thr r,(resV X.C x.2.1 x.2.2 X.fn.results.toList).map λxs=>(oneRes xs,purs [oneRes xs])))=some (.fin,0,H0,none,some (X.enc r,true)):=by kernel_rfl):Ok X p env H (some r):=by
 cases hr:runV X.C X.fn.ntmps k p env H with
 | none=>rw [hr] at h; cases h
 | some x =>
  obtain ⟨q,e,G⟩:=x
  rw [hr] at h
  simp only [Option.map_some,Option.some.injEq,Prod.mk.injEq] at h
  obtain ⟨rfl,a,b,c,g⟩:=h
  refine qEa k hr (oP ?_)
  rw [a,b,c,g]
end
theorem FzG.ps {n0:Nat} {H:Hp} {xs:List AV} (h:purs xs=true:=by kernel_rfl):FzG n0 H xs xs := .pures h
theorem FzG.cs {n0:Nat} {H:Hp} {x:AV} {xs ys:List AV} (k:FzG n0 H xs ys) (h:pur x=true:=by kernel_rfl):FzG n0 H (x::xs) (x::ys) := .cons h k
def pickB : LN → List Blk → List Blk
 | 0::ms,_::l=>pickB ms l
 | (_+1)::ms,b::l=>b::pickB ms l
 | _,_=>[]
def PurA : List Blk → Prop
 | []=>True
 | b::l=>purs b.cells=true∧PurA l
def mk0 : LN → Bool
 | 0::_=>false
 | (_+1)::_=>true
 | []=>false
theorem PurA.head {ms:LN} {b:Blk} {l:List Blk} (h:PurA (pickB ms (b::l))) (hm:mk0 ms=true):purs b.cells=true:=by
 cases ms with
 | nil=>cases hm
 | cons m ms=>cases m with | zero=>cases hm | succ m=>exact h.1
theorem PurA.tail {ms:LN} {b:Blk} {l:List Blk} (h:PurA (pickB ms (b::l))):PurA (pickB ms.tail l):=by
 cases ms with
 | nil=>cases l <;> (simp only [List.tail_nil,pickB]; exact trivial)
 | cons m ms=>cases m with | zero=>exact h | succ m=>exact h.2
noncomputable def rbA (rs : LN) (n : Nat) : LN → List Blk → List (Bool × Option Blk)
 | _,[]=>[]
 | ms,b::L=>(bif mk0 ms then (!b.ro,some b) else (!b.ro && belows n b.cells,some ⟨renVs (at0 rs) b.cells,b.minv,false⟩))::rbA rs n ms.tail L
noncomputable def rbC (rs : LN) (M : List Blk) : Nat → List Blk → List (Bool × Option Blk)
 | _,[]=>[]
 | i,_::L=>(true,nth M (at0 rs i))::rbC rs M (i+1) L
theorem qDm {rs : LN} {n : Nat} {M : List Blk} : ∀ {L : List Blk} {ms : LN} {i : Nat}, rbA rs n ms L = rbC rs M i L → PurA (pickB ms L) → RBs rs n M i L
 | [],_,_,_,_=>trivial
 | b::L,ms,i,h,hp=>by
  simp only [rbA,rbC,List.cons.injEq] at h
  obtain ⟨a,c⟩:=h
  refine ⟨?_,qDm c hp.tail⟩
  cases hm:mk0 ms with
  | true =>
   rw [hm] at a
   simp only [cond_true,Prod.mk.injEq] at a
   rw [← a.2]
   have hro:b.ro=false:=by have:=a.1; revert this; cases b.ro <;> simp
   exact ⟨hro,.inl ⟨rfl,hp.head hm⟩⟩
  | false =>
   rw [hm] at a
   simp only [cond_false,Prod.mk.injEq,Bool.and_eq_true] at a
   rw [← a.2]
   have hro:b.ro=false:=by have:=a.1.1; revert this; cases b.ro <;> simp
   exact ⟨hro,.inr ⟨a.1.2,rfl⟩⟩
def offs (rs : LN) : Nat → List Blk → List Blk
 | _,[]=>[]
 | i,b::M=>bif rs.any (λr=>Nat.beq r i) then offs rs (i+1) M else b::offs rs (i+1) M
theorem qEs {rs : LN} : ∀ {M M' : List Blk} {i : Nat}, Nat.ble M.length M'.length = true → offs rs i M = offs rs i (M'.take M.length) → SameB rs i M M'
 | [],_,_,_,_=>trivial
 | b::M,[],_,h,_=>by cases h
 | b::M,c::M',i,h,e=>by
  have h':Nat.ble M.length M'.length=true:=h
  cases hr:rs.any (λr=>Nat.beq r i) with
  | true =>
   simp only [offs,List.length_cons,List.take_succ_cons,hr,cond_true] at e
   exact ⟨.inr hr,qEs h' e⟩
  | false =>
   simp only [offs,List.length_cons,List.take_succ_cons,hr,cond_false,List.cons.injEq] at e
   exact ⟨.inl e.1.symm,qEs h' e.2⟩
noncomputable def thB (rs a D : LN) : LN → Nat → List Blk → Bool
 | _,_,[]=>true
 | ms,r,b::M=>((D.any λs=>Nat.beq s r) || ((mk0 ms || purs b.cells) && (a.all λi => !Nat.beq (at0 rs i) r))) && thB rs a D ms.tail (r+1) M
theorem qKa {rs c D : LN} : ∀ {M : List Blk} {ms : LN} {r : Nat}, thB rs c D ms r M = true → PurA (pickB ms M) → dOk rs c D r M
 | [],_,_,_,_=>trivial
 | b::M,ms,r,h,hp=>by
  simp only [thB,Bool.and_eq_true,Bool.or_eq_true] at h
  refine ⟨?_,qKa h.2 hp.tail⟩
  rcases h.1 with a | ⟨a | a,g⟩
  ·exact .inl a
  ·exact .inr ⟨hp.head a,g⟩
  ·exact .inr ⟨a,g⟩
def kpB (DX D : LN) : Nat → List Blk → List Blk → Bool
 | _,[],_=>true
 | _,_::_,[]=>false
 | r,_::LX,_::L=>((DX.any λs=>Nat.beq s r) || (D.all λs => !Nat.beq s r)) && kpB DX D (r+1) LX L
theorem qF4 {rs j DX D : LN} : ∀ {LX M : List Blk} {r : Nat}, kpB DX D r LX M = true → offs DX r LX = offs DX r (M.take LX.length) → dOk rs j D r M → keepOk DX D r LX M
 | [],_,_,_,_,_=>trivial
 | _::_,[],_,h,_,_=>by cases h
 | b::LX,c::M,r,h,e,hd=>by
  simp only [kpB,Bool.and_eq_true,Bool.or_eq_true] at h
  cases hr:DX.any (λs=>Nat.beq s r) with
  | true =>
   simp only [offs,List.length_cons,List.take_succ_cons,hr,cond_true] at e
   exact ⟨.inl hr,qF4 h.2 e hd.2⟩
  | false =>
   simp only [offs,List.length_cons,List.take_succ_cons,hr,cond_false,List.cons.injEq] at e
   refine ⟨.inr ?_,qF4 h.2 e.2 hd.2⟩
   have hD:(D.all λs => !Nat.beq s r)=true:=by
    rcases h.1 with a | a
    ·rw [hr] at a; cases a
    ·exact a
   refine ⟨hD,e.1.symm,?_⟩
   rcases hd.1 with g | g
   ·obtain ⟨s,hs,he⟩:=List.any_eq_true.1 g
    have:=List.all_eq_true.1 hD s hs
    rw [he] at this
    cases this
   ·rw [e.1]; exact g.1
noncomputable def frB1 (L L' M M':List Blk) (rs:LN) (ys:List AV) (v:AV):Bool:=frOk L.length L'.length M.length M'.length rs && belows L.length ys && below L'.length v && Nat.ble M.length M'.length
theorem frC {P : Program} {g : Nat} {ys xs : List AV} {L L' M M' : List Blk} {v v' : AV} {rs ms ms' : LN} (h : CallT P g ys (mkH L) none v (mkH L')) (hp : PurA (pickB ms L)) (hp' : PurA (pickB ms' L'))
 (he:(frB1 L L' M M' rs ys v,renVs (at0 rs) ys,renV (at0 rs) v,rbA rs L.length ms L,rbA rs L'.length ms' L',offs rs 0 M)=(true,xs,v',rbC rs M 0 L,rbC rs M' 0 L',offs rs 0 (M'.take M.length))):CallT P g xs (mkH M) none v' (mkH M'):=by
 simp only [Prod.mk.injEq,frB1,Bool.and_eq_true] at he
 obtain ⟨⟨⟨⟨a,b⟩,c⟩,j⟩,rfl,rfl,e3,e4,e5⟩:=he
 exact frame h rs M M' a b (qDm e3 hp) (qDm e4 hp') c (qEs j e5)
noncomputable def mvA : LN → List Blk → List Blk → List (List AV × Bool × Nat × Bool)
 | ms,b::a,c::M=>(b.cells,b.ro,(bif mk0 ms then b.minv else 0),mk0 ms || Nat.ble b.minv c.minv)::mvA ms.tail a M
 | _,[],[]=>[]
 | _,_,_=>[([],true,0,false)]
def mvC : LN → List Blk → List (List AV × Bool × Nat × Bool)
 | ms,c::M=>(c.cells,c.ro,(bif mk0 ms then c.minv else 0),true)::mvC ms.tail M
 | _,[]=>[]
theorem mv_of : ∀ {a M : List Blk} {ms : LN}, mvA ms a M = mvC ms M → MinvLe a M
 | [],[],_,_=>trivial
 | [],_::_,_,h=>by simp [mvA,mvC] at h
 | _::_,[],_,h=>by simp [mvA,mvC] at h
 | b::a,c::M,ms,h=>by
  simp only [mvA,mvC,List.cons.injEq,Prod.mk.injEq] at h
  obtain ⟨⟨k,l,g,j⟩,m⟩:=h
  refine ⟨⟨k.symm,l.symm,?_⟩,mv_of m⟩
  cases hm:mk0 ms with
  | true=>rw [hm] at g; simp only [cond_true] at g; rw [g]; exact Nat.le_refl _
  | false=>rw [hm] at j; simp only [Bool.false_or] at j; exact Nat.le_of_ble_eq_true j
theorem frW {P : Program} {g : Nat} {ys xs xs' : List AV} {L L' a M' : List Blk} {v v' : AV} {rs ms ms' mv : LN} (gh : Nat) (M : List Blk) (hw : Wk xs xs') (h : CallT P g ys (mkH L) none v (mkH L')) (hp : PurA (pickB ms L)) (hp' : PurA (pickB ms' L'))
 (he:(frB1 L L' M M' rs ys v,renVs (at0 rs) ys,renV (at0 rs) v,rbA rs L.length ms L,rbA rs L'.length ms' L',offs rs 0 M,mvA mv (a++List.replicate gh ⟨[],0,false⟩) M)=(true,xs',v',rbC rs M 0 L,rbC rs M' 0 L',offs rs 0 (M'.take M.length),mvC mv M)):CallT P g xs (mkH a) none v' (mkH M'):=by
 simp only [Prod.mk.injEq,frB1,Bool.and_eq_true] at he
 obtain ⟨⟨⟨⟨b,c⟩,j⟩,k⟩,l,e2,e3,e4,e5,e6⟩:=he
 exact frameC h rs gh a _ M M' xs xs' rfl rfl (mv_of e6) hw l e2 rfl b c (qDm e3 hp) (qDm e4 hp') j (qEs k e5)
theorem frS {P : Program} {g : Nat} {ys xs xs' : List AV} {L a M : List Blk} {t : Value} {b rs ms mv mm D : LN} (gh : Nat) (hw : Wk xs xs') (h : ∃ v, CallT P g ys (mkH L) (some (t, b)) v (mkH L)) (hp : PurA (pickB ms L)) (hm : PurA (pickB mm M))
 (he:(frOk L.length L.length M.length M.length rs,belows L.length ys,thB rs b D mm 0 M,renVs (at0 rs) ys,rbA rs L.length ms L,mvA mv (a++List.replicate gh ⟨[],0,false⟩) M)=(true,true,true,xs',rbC rs M 0 L,mvC mv M)):∃ v,CallT P g xs (mkH a) (some (t,D)) v (mkH M):=by
 simp only [Prod.mk.injEq] at he
 obtain ⟨c,j,k,l,e2,e3⟩:=he
 exact frameT h rs D gh a _ M xs xs' rfl rfl (mv_of e3) hw l c j (qDm e2 hp) (qKa k hm)
theorem oN {R : Type} {X : Fx R} {p : Pt} {env : Env} {α : Type} {m : Option α} {f : α → Option R} {fi : Nat} {ys : List AV} {L M : List Blk} {v : α → AV} {L' : α → List Blk} (g : α → AV) (M' : α → List Blk) (p' : Pt) (d : Nat) (rs ms ms' : LN) (args : List AV)
 (h:∀ x,m=some x→CallT X.P fi ys (mkH L) none (v x) (mkH (L' x))) (hp:PurA (pickB ms L)) (hp':∀ x,PurA (pickB ms' (L' x))) (k:∀ x,m=some x→Ok X p' ((d,g x)::env) (mkH (M' x)) (f x))
 (hc:callAt X.fn.ntmps p env=some (fi,args):=by kernel_rfl)
 (he:∀ x,(frB1 L (L' x) M (M' x) rs ys (v x),renVs (at0 rs) ys,renV (at0 rs) (v x),rbA rs L.length ms L,rbA rs (L' x).length ms' (L' x),offs rs 0 M)=(true,args,g x,rbC rs M 0 L,rbC rs (M' x) 0 (L' x),offs rs 0 ((M' x).take M.length)):=by exact λ_=>by kernel_rfl)
 (ha:∀ x,advE X.fn.ntmps p env (g x)=some (p',(d,g x)::env):=by exact λ_=>by kernel_rfl):Ok X p env (mkH M) (m.bind f) :=
 qAg g (λx=>mkH (M' x)) p' (λx=>(d,g x)::env) hc (λx a=>frC (h x a) hp (hp' x) (he x)) ha k
theorem oX {R : Type} {X : Fx (Option R)} {p : Pt} {env : Env} {α : Type} {m : Option (Option α)} {f : α → Option (Option R)} {fi : Nat} {ys : List AV} {tv : Value} {a DX : LN} {LX L M : List Blk} {v : α → AV} {L' : α → List Blk} (g : α → AV) (M' : α → List Blk) (p' : Pt) (d : Nat) (rs ms ms' D mm : LN) (args : List AV)
 (hh:(∀ x,m=some (some x)→CallT X.P fi ys (mkH L) none (v x) (mkH (L' x)))∧(m=some none→∃ v,CallT X.P fi ys (mkH L) (some (tv,a)) v (mkH L))) (hp:PurA (pickB ms L)) (hp':∀ x,PurA (pickB ms' (L' x))) (hm:PurA (pickB mm M)) (k:∀ x,m=some (some x)→Ok X p' ((d,g x)::env) (mkH (M' x)) (f x))
 (hX:X.thr none=some (tv,DX):=by rfl) (c:X.fin none=mkH LX:=by rfl) (j:X.n0=LX.length:=by rfl)
 (hc:(callAt X.fn.ntmps p env,Nat.ble LX.length roots,Nat.ble M.length roots,thB (rs.take L.length) a D mm 0 M,kpB DX D 0 LX M,frOk L.length L.length M.length M.length (rs.take L.length),belows L.length ys,renVs (at0 (rs.take L.length)) ys,rbA (rs.take L.length) L.length ms L,offs DX 0 LX)=(some (fi,args),true,true,true,true,true,true,args,rbC (rs.take L.length) M 0 L,offs DX 0 (M.take LX.length)):=by kernel_rfl)
 (he:∀ x,(frB1 L (L' x) M (M' x) rs ys (v x),renVs (at0 rs) ys,renV (at0 rs) (v x),rbA rs L.length ms L,rbA rs (L' x).length ms' (L' x),offs rs 0 M)=(true,args,g x,rbC rs M 0 L,rbC rs (M' x) 0 (L' x),offs rs 0 ((M' x).take M.length)):=by exact λ_=>by kernel_rfl)
 (ha:∀ x,advE X.fn.ntmps p env (g x)=some (p',(d,g x)::env):=by exact λ_=>by kernel_rfl):Ok X p env (mkH M) (bT m f):=by
 obtain ⟨h,l⟩:=hh
 simp only [Prod.mk.injEq] at hc
 obtain ⟨n,o,q,r,u,z,A,B,C,b⟩:=hc
 have hd:dOk (rs.take L.length) a D 0 M:=qKa r hm
 refine qIz (tv:=tv) (D:=D) (LX:=LX) (L:=M) g (λx=>mkH (M' x)) p' (λx=>(d,g x)::env) hX c j (by simp [o,q]) (qF4 u b hd) n (λE=>?_) (λx F=>frC (h x F) hp (hp' x) (he x)) ha k
 obtain ⟨v,hv⟩:=l E
 exact B ▸ ⟨.top,frameTh hv (rs.take L.length) M D z A (qDm C hp) hd .top⟩
theorem oXW {R : Type} {X : Fx (Option R)} {p : Pt} {env : Env} {α : Type} {m : Option (Option α)} {f : α → Option (Option R)} {fi : Nat} {ys : List AV} {tv : Value} {a DX : LN} {LX L b : List Blk} {v : α → AV} {L' : α → List Blk} (gh : Nat) (M : List Blk) (g : α → AV) (M' : α → List Blk) (p' : Pt) (d : Nat) (rs ms ms' D mm mv : LN) (args args' : List AV) (hw : Wk args args')
 (hh:(∀ x,m=some (some x)→CallT X.P fi ys (mkH L) none (v x) (mkH (L' x)))∧(m=some none→∃ v,CallT X.P fi ys (mkH L) (some (tv,a)) v (mkH L))) (hp:PurA (pickB ms L)) (hp':∀ x,PurA (pickB ms' (L' x))) (hm:PurA (pickB mm M)) (k:∀ x,m=some (some x)→Ok X p' ((d,g x)::env) (mkH (M' x)) (f x))
 (hX:X.thr none=some (tv,DX):=by rfl) (j:X.fin none=mkH LX:=by rfl) (l:X.n0=LX.length:=by rfl)
 (hc:(callAt X.fn.ntmps p env,Nat.ble LX.length roots,Nat.ble M.length roots,thB (rs.take L.length) a D mm 0 M,kpB DX D 0 LX M,offs DX 0 LX)=(some (fi,args),true,true,true,true,offs DX 0 (M.take LX.length)):=by kernel_rfl)
 (hs:(frOk L.length L.length M.length M.length (rs.take L.length),belows L.length ys,renVs (at0 (rs.take L.length)) ys,rbA (rs.take L.length) L.length ms L,mvA mv (b++List.replicate gh ⟨[],0,false⟩) M)=(true,true,args',rbC (rs.take L.length) M 0 L,mvC mv M):=by kernel_rfl)
 (he:∀ x,(frB1 L (L' x) M (M' x) rs ys (v x),renVs (at0 rs) ys,renV (at0 rs) (v x),rbA rs L.length ms L,rbA rs (L' x).length ms' (L' x),offs rs 0 M,mvA mv (b++List.replicate gh ⟨[],0,false⟩) M)=(true,args',g x,rbC rs M 0 L,rbC rs (M' x) 0 (L' x),offs rs 0 ((M' x).take M.length),mvC mv M):=by exact λ_=>by kernel_rfl)
 (ha:∀ x,advE X.fn.ntmps p env (g x)=some (p',(d,g x)::env):=by exact λ_=>by kernel_rfl):Ok X p env (mkH b) (bT m f):=by
 obtain ⟨h,n⟩:=hh
 simp only [Prod.mk.injEq] at hc hs
 obtain ⟨o,q,r,c,u,z⟩:=hc
 obtain ⟨A,B,C,E,F⟩:=hs
 have hd:dOk (rs.take L.length) a D 0 M:=qKa c hm
 refine qIz (tv:=tv) (D:=D) (LX:=LX) (L:=M) g (λx=>mkH (M' x)) p' (λx=>(d,g x)::env) hX j l (by simp [q,r]) (qF4 u z hd) o (λG=>?_) (λx I=>frW gh M hw (h x I) hp (hp' x) (he x)) ha k
 exact frS gh hw (n G) hp hm (by rw [A,B,c,C,E,F])
section
variable {R:Type} {X:Fx R} {p:Pt} {env:Env} {H:Hp} {t:Option R}
def bbB (n : Nat) : LN → List Blk → Bool
 | _,[]=>true
 | ms,b::L=>(mk0 ms || belows n b.cells) && bbB n ms.tail L
theorem bb_of {n : Nat} : ∀ {L : List Blk} {ms : LN}, bbB n ms L = true → PurA (pickB ms L) → BB n L
 | [],_,_,_=>trivial
 | b::L,ms,h,hp=>by
  simp only [bbB,Bool.and_eq_true,Bool.or_eq_true] at h
  refine ⟨?_,bb_of h.2 hp.tail⟩
  rcases h.1 with a | a
  ·exact qA _ (hp.head a)
  ·exact a
theorem oF {r : R} {M : List Blk} (n : Nat) (ms : LN) (xs : List AV) (v : AV) (hz : FzG n (mkH M) [oneRes xs] [v]) (hp : PurA (pickB ms (M.take n)))
 (h:(X.thr r,resV X.C env (mkH M) X.fn.results.toList,Nat.ble M.length roots,Nat.ble X.n0 n,Nat.beq (M.take n).length n,bbB n ms (M.take n),X.enc r,X.fin r)=(none,some xs,true,true,true,true,v,mkH (M.take n)):=by kernel_rfl):Ok X .fin env (mkH M) (some r):=by
 simp only [Prod.mk.injEq] at h
 obtain ⟨b,c,g,j,a,k,l,m⟩:=h
 have a:(M.take n).length=n:=Nat.eq_of_beq_eq_true a
 have key:Ok X .fin env (mkH (M.take n++M.drop n)) (some r):=by
  refine ok_retF (M.take n) (M.drop n) b (v:=v) ?_ ?_ ?_ ?_ ?_ l m (xs:=xs)
  ·rw [List.take_append_drop]; exact c
  ·rw [← List.length_append,List.take_append_drop]; exact g
  ·rw [a]; exact j
  ·rw [a,List.take_append_drop]; exact hz
  ·rw [a]; exact bb_of k hp
 rwa [List.take_append_drop] at key
theorem oQF {r : R} (k : Nat) (M : List Blk) (n : Nat) (ms : LN) (xs : List AV) (v : AV) (hz : FzG n (mkH M) [oneRes xs] [v]) (hp : PurA (pickB ms (M.take n)))
 (a:(runV X.C X.fn.ntmps k p env H).map (λx=>(x.1,resV X.C x.2.1 x.2.2 X.fn.results.toList,x.2.2))=some (.fin,some xs,mkH M):=by kernel_rfl)
 (h:(X.thr r,Nat.ble M.length roots,Nat.ble X.n0 n,Nat.beq (M.take n).length n,bbB n ms (M.take n),X.enc r,X.fin r)=(none,true,true,true,true,v,mkH (M.take n)):=by kernel_rfl):Ok X p env H (some r):=by
 cases hr:runV X.C X.fn.ntmps k p env H with
 | none=>rw [hr] at a; cases a
 | some x =>
  obtain ⟨q,e,G⟩:=x
  rw [hr] at a
  simp only [Option.map_some,Option.some.injEq,Prod.mk.injEq] at a
  obtain ⟨rfl,b,rfl⟩:=a
  simp only [Prod.mk.injEq] at h
  obtain ⟨c,g,j,l,m,o,u⟩:=h
  refine qEa k hr (oF n ms xs v hz hp ?_)
  rw [b,c,g,j,l,m,o,u]
def nbB (a : Nat) : LN → Nat → List Blk → Bool
 | _,_,[]=>true
 | ms,i,b::l=>(Nat.beq i a || mk0 ms || nrefs a b.cells) && nbB a ms.tail (i+1) l
theorem nb_of {c : Nat} : ∀ {l : List Blk} {ms : LN} {i : Nat}, nbB c ms i l = true → PurA (pickB ms l) → NB c i l
 | [],_,_,_,_=>trivial
 | b::l,ms,i,h,hp=>by
  simp only [nbB,Bool.and_eq_true,Bool.or_eq_true] at h
  refine ⟨?_,nb_of h.2 hp.tail⟩
  rcases h.1 with (a | a) | a
  ·exact .inl (Nat.eq_of_beq_eq_true a)
  ·exact .inr (qAn _ (hp.head a))
  ·exact .inr a
theorem oZ {M : List Blk} (d a n sz : Nat) (cells : List AV) (ks ms : LN) (hp : PurA (pickB ms M)) (k : Ok X p ((d, .vec n sz cells) :: keepOnly env ks) (mkH (M.set a ⟨[], 0, false⟩)) t)
 (h:(Nat.ble X.n0 a,Nat.ble M.length roots,look env d,(nth M a).map (λb=>(b.cells,b.ro,Nat.ble b.minv (n * sz))),Nat.beq cells.length (n * sz),purs cells,nrefE a (keepOnly env ks),nbB a ms 0 M)=(true,true,.slice a (n * sz) 0 n sz,some (cells,false,true),true,true,true,true):=by kernel_rfl):Ok X p env (mkH M) t:=by
 simp only [Prod.mk.injEq] at h
 obtain ⟨j,l,m,c,o,q,r,u⟩:=h
 rw [qCb] at c
 cases g:M[a]? with
 | none=>rw [g] at c; cases c
 | some b =>
  obtain ⟨bc,bm,br⟩:=b
  rw [g] at c
  simp only [Option.map_some,Option.some.injEq,Prod.mk.injEq] at c
  obtain ⟨rfl,rfl,x⟩:=c
  exact ok_frz M d a n sz bm bc ks j l (.inl m) g (Nat.eq_of_beq_eq_true o) (Nat.le_of_ble_eq_true x) q rfl r (nb_of u hp) k
theorem oD {H' : Hp} (p' : Pt) (eE : Env) (hs : List Hp) (D : DP) (hD : OpsD X.P X.C D (opsAt p).toList (opsAt p).toList env H eE hs) (k : Ok X p' eE H' t) (h : (drawAt p, Nat.ble (opsAt p).size D.tI, planOk D.S (opsAt p) D.pl, (opsAt p).toList.all (dstOk X.fn.ntmps), lastH H hs) = (some p', true, true, true, H') := by kernel_rfl)
 (hsome:(rdL X.C D (opsAt p).toList eE (H::hs) 0 (opsAt p).toList D.pl).all (λq=>q.1.isSome)=true:=by kernel_rfl) (hq:(rdL X.C D (opsAt p).toList eE (H::hs) 0 (opsAt p).toList D.pl).map (·.1)=(rdL X.C D (opsAt p).toList eE (H::hs) 0 (opsAt p).toList D.pl).map (·.2):=by kernel_rfl):Ok X p env H t:=by
 simp only [Prod.mk.injEq] at h
 obtain ⟨a,b,c,g,j⟩:=h
 exact ok_draw D a b c g hD hsome hq j k
end
theorem oDe {P:Program} {C:Cx} {D:DP} {all l:List Oper} {e:Env} {H:Hp} {hs:List Hp} (f:Bool→Env) {b v:Bool} (h:b=v) (g:OpsD P C D all l (f v) H e hs):OpsD P C D all l (f b) H e hs:=h ▸ g
theorem oDr {P:Program} {C:Cx} {D:DP} {all l:List Oper} {e env:Env} {H:Hp} {a:List Hp} (k n:Nat) (eE:Env) (g:OpsD P C D all (all.drop n) eE H e a) (h:runD C D all k l env H=some (all.drop n,eE,H,[]):=by kernel_rfl):OpsD P C D all l env H e a:=qAc k (hs:=[]) h g
theorem oDh {P:Program} {C:Cx} {D:DP} {all l:List Oper} {e env:Env} {H:Hp} {a:List Hp} (k n:Nat) (eE:Env) (H':Hp) (hs:List Hp) (g:OpsD P C D all (all.drop n) eE H' e a) (h:runD C D all k l env H=some (all.drop n,eE,H',hs):=by kernel_rfl):OpsD P C D all l env H e (hs++a):=qAc k h g
structure S7 where
 f0:Int
 f1:Int
 f2:Bool
 f3:Int
structure S28 where
 f0:Int
 f1:LN
 f2:Raw
 f3:Bool
 f4:Bool
 f5:LL
 f6:LL
structure S43 where
 f0:Int
 f1:LN
 f2:Int
abbrev q29 (x:Raw):AV := .vec x.n 7 x.cells
def e2 (x:Int):List AV:=[.int .i64 x]
def v2 (x:Int):AV := .int .i64 x
def p2:List AV→Option (Int×List AV):=pI .i64
def e3 (x:Int):List AV:=[.int .i64 x]
def v3 (x:Int):AV := .int .i64 x
theorem qOt:∀ x,(e3 x).length=1:=λ_=>rfl
abbrev w3 (x:List Int):AV := .vec x.length 1 (x.flatMap e3)
def p3:List AV→Option (Int×List AV):=pI .i64
theorem p3_ok (cs:List AV) (x:Int) (r:List AV) (h:p3 cs=some (x,r)):cs=e3 x++r:=pI_ok h
def e4 (x:Bool):List AV:=[.bool x]
def p4:List AV→Option (Bool×List AV):=pB
theorem p4_ok (cs:List AV) (x:Bool) (r:List AV) (h:p4 cs=some (x,r)):cs=e4 x++r:=pB_ok h
def e5 (x:Int):List AV:=[.int .u8 x]
def p5:List AV→Option (Int×List AV):=pI .u8
def e6 (x:Int):List AV:=[.int .u8 x]
def e8 (x:S7):List AV:=[.int .i64 x.f0,.int .i64 x.f1,.bool x.f2,.int .u8 x.f3]
theorem e8_pur:∀ x,purs (e8 x)=true:=λ_=>rfl
theorem u8 (l:List S7):purs (l.flatMap e8)=true:=qBf e8_pur l
def e9 (x:LN):List AV:=[.str x]
theorem qBq:∀ x,(e9 x).length=1:=λ_=>rfl
theorem e9_pur:∀ x,purs (e9 x)=true:=λ_=>rfl
theorem e9_one:∀ x,(e9 x).all one1=true:=λ_=>rfl
abbrev w9 (x:LL):AV := .vec x.length 1 (x.flatMap e9)
def p9:List AV→Option (LN×List AV):=pS
theorem p9_ok (cs:List AV) (x:LN) (r:List AV) (h:p9 cs=some (x,r)):cs=e9 x++r:=pS_ok h
def e22 (x:LL):List AV:=[w9 x]
def v22 (x:LL):AV:=w9 x
theorem qOu:∀ x,(e22 x).length=1:=λ_=>rfl
abbrev w22 (x:List LL):AV := .vec x.length 1 (x.flatMap e22)
def p22:List AV→Option (LL×List AV):=pV p9 1
theorem p22_ok (cs:List AV) (x:LL) (r:List AV) (h:p22 cs=some (x,r)):cs=e22 x++r:=pV_ok p9_ok h
def e44 (x:S43):List AV:=[.int .i64 x.f0,.str x.f1,.int .i64 x.f2]
theorem qAs:∀ x,(e44 x).length=3:=λ_=>rfl
theorem qOs:∀ x,purs (e44 x)=true:=λ_=>rfl
theorem u44 (l:List S43):purs (l.flatMap e44)=true:=qBf qOs l
theorem e44_one:∀ x,(e44 x).all one1=true:=λ_=>rfl
abbrev w44 (x:List S43):AV := .vec x.length 3 (x.flatMap e44)
def e29 (x:S28):List AV:=[.int .i64 x.f0,.str x.f1,q29 x.f2,.bool x.f3,.bool x.f4,w9 x.f5,w9 x.f6]
theorem qA2:∀ x,(e29 x).length=7:=λ_=>rfl
theorem qAf:∀ x,purs (e29 x)=true:=λ_=>rfl
theorem u29 (l:List S28):purs (l.flatMap e29)=true:=qBf qAf l
theorem qAh:∀ x,(e29 x).all one1=true:=λ_=>rfl
abbrev w29 (x:List S28):AV := .vec x.length 7 (x.flatMap e29)
def p29 (cs:List AV):Option (S28×List AV):=(match p3 cs with | none=>none | some (a,b)=>(match p9 b with | none=>none | some (c,g)=>(match g with | .vec h j k::l=>(if j=7 then (match p4 l with | none=>none | some (m,n)=>(match p4 n with | none=>none | some (o,q)=>(match p22 q with | none=>none | some (r,u)=>(match p22 u with | none=>none | some (x,z)=>some (⟨a,c,⟨h,k⟩,m,o,r,x⟩,z))))) else none) | _=>none)))
theorem p29_ok (cs:List AV) (x:S28) (r:List AV) (h:p29 cs=some (x,r)):cs=e29 x++r:=by
 unfold p29 at h
 split at h
 ·cases h
 rename_i A B a
 have b:=p3_ok _ _ _ a
 split at h
 ·cases h
 rename_i C D c
 have g:=p9_ok _ _ _ c
 split at h
 rotate_left
 ·cases h
 rename_i E F G I
 split at h
 rotate_left
 ·cases h
 rename_i j; subst j
 split at h
 ·cases h
 rename_i J K k
 have l:=p4_ok _ _ _ k
 split at h
 ·cases h
 rename_i L M m
 have n:=p4_ok _ _ _ m
 split at h
 ·cases h
 rename_i N O o
 have q:=p22_ok _ _ _ o
 split at h
 ·cases h
 rename_i Q S u
 have z:=p22_ok _ _ _ u
 cases h
 try subst z
 try subst q
 try subst n
 try subst l
 try subst g
 try subst b
 rfl
def d29:List AV→Option S28:=pall p29
theorem qKb (cs:List AV) (x:S28) (h:d29 cs=some x):cs=e29 x:=pall_ok p29_ok cs x h
abbrev n29 (x:S28):AV := .agg [.int .i64 x.f0,.str x.f1,q29 x.f2,.bool x.f3,.bool x.f4,w9 x.f5,w9 x.f6]
abbrev n44 (x:S43):AV := .agg [.int .i64 x.f0,.str x.f1,.int .i64 x.f2]
def thrown:Value := .iface 70 (.agg #[])
end Go.Proofs.YthpplbkobokghaaGreat.Am
set_option maxRecDepth 100000
set_option linter.unusedVariables false
namespace Go.Proofs.YthpplbkobokghaaGreat.Am
noncomputable section
open Go
def Xg72:Fx Bool:=⟨Tryz.prog,cx,Tryz.f72,λr => .bool r,0,λ_=>H0,cxTi,cxOrd,λ_=>none,false⟩
def g72p1:Pt:=nav [0,0,0] (nav [0] (bodyAt Tryz.f72))
def g72 (k:Nat) (a:Int):Option Bool :=
 if (decide (0≤a)) then (if (decide (a≤1114111)) then (if (decide (a < 55296)) then (some true) else (some (decide (57343 < a)))) else (some false)) else (some false)
theorem g72_ok (k:Nat) (a:Int) (r:Bool) (h:g72 k a=some r):PureOk Tryz.prog 72 [.i a] (.bool r):=by
 refine qA5 Xg72 (λ_=>⟨rfl,rfl⟩) Tryz.func72 (by decide +kernel) Kr (t:=g72 k a) ?_ h
 unfold g72
 refine qA1 (eE:=[(0,.i a)]) Kr ?_
 let c:Env:=[(5,.bool (decide (0≤a))),(4,.bool (decide (0≤a))),(3,.i a),(2,.bool false),(0,.i a)]
 refine oH 9 (atN 3 (ctl1 g72p1)) c (mkH []) ?_
 refine oS 5 (λb=>?_) (λb=>?_)
 ·let g:Env:=((9,.bool (decide (a≤1114111)))::(8,.bool (decide (a≤1114111)))::(7,.bool (decide (a≤1114111)))::(6,.i a)::(5,.bool true)::c)
  refine oR 4 (atN 7 (ctl1 g72p1)) g ?_
  refine oS 9 (λb=>?_) (λb=>?_)
  ·refine oR 3 (atN 10 (ctl1 g72p1)) ((12,.bool (decide (a < 55296)))::(11,.bool (decide (a < 55296)))::(10,.i a)::(9,.bool true)::g) ?_
   refine oS 12 (λb=>?_) (λb=>?_)
   ·exact oQ 7
   ·exact oQ 7
  ·exact oQ 10
 ·exact oQ 14
def Xg36:Fx (Int×Int):=⟨Tryz.prog,cx,Tryz.f36,λr => .tuple [.i r.1,.i r.2],0,λ_=>H0,cxTi,cxOrd,λ_=>none,false⟩
def g36p1:Pt:=nav [0,0,0,0] (nav [0] (bodyAt Tryz.f36))
def g36p2:Pt:=nav [0,0] g36p1
def g36p4:Pt:=nav [2,0,0] g36p2
def g36p7:Pt:=nav [0,0,0,0,0] (nav [0,0,0] g36p4)
def g36p8:Pt:=nav [0,0] g36p7
def g36p10:Pt:=nav [2,0] g36p8
def g36p11:Pt:=nav [0,0] g36p10
def g36p13:Pt:=nav [2,0] g36p11
def g36p14:Pt:=nav [0,0,0,0] (nav [1] g36p11)
def g36p15:Pt:=nav [0,0] g36p13
def g36p16:Pt:=nav [0,0] g36p14
def g36p18:Pt:=nav [2,0] g36p15
def g36p21:Pt:=nav [0,0] g36p18
def g36p22:Pt:=nav [0,0,0,0] (nav [2,0,0,0] g36p16)
def g36p26:Pt:=nav [0,0] (nav [0,0,0] g36p22)
def g36p27:Pt:=nav [1,0,0,0,0,0] g36p26
def g36p28:Pt:=nav [2,0,0,0] g36p26
def g36p29:Pt:=nav [0,0] g36p27
def g36p30:Pt:=nav [0,0] g36p28
def g36p32:Pt:=nav [2,0] g36p29
def qIb (k:Nat)  (n:LN) (o:Int) (m:Int×Int×Int) (ih:Int→Int→Option (Int×Int)):Int→Int→Option (Int×Int) :=
 λ(a:Int) (b:Int)=>if (decide (b < m.2.1)) then ((nthS n (fW .i64 (o+b))).bind λc=>if (!decide (andI .u8 c 192=128)) then (some (((-1):Int),(1:Int))) else ((nthS n (fW .i64 (o+b))).bind λg=>ih (fW .i64 (fW .i64 (a * 64)+fW .i64 (andI .u8 g 63))) (fW .i64 (b+1)))) else (jn (λ(h:Bool×Int)=>if h.1 then (some (((-1):Int),(1:Int))) else (some (h.2,m.2.1))) (λj=>if (decide (a < m.2.2)) then (j (true,a)) else ((g72 k a).bind λl=>j (!l,a))))
def qOd (k:Nat)  (a:LN) (b:Int) (c:Int×Int×Int) (n:Nat):Int→Int→Option (Int×Int):=lp (λ_ _=>none) (qIb k a b c) n
theorem qOc (k:Nat)   (m:LN) (l:Int) (g:Int×Int×Int)  : ∀ (n:Nat) (a:Int) (b:Int),Ok Xg36 g36p22 [(0,.str m),(1,.i l),(6,.i a),(7,.i g.2.1),(8,.i g.2.2),(9,.i b)] (mkH []) (qOd k m l g n a b):=by
 intro n
 induction n with
 | zero=>intro a b; exact ok_none
 | succ n ih =>
  intro a b
  show Ok _ _ _ _ (qIb k m l g (qOd k m l g n) a b)
  unfold qIb
  refine qAd (p':=nav [0] g36p22) Kr ?_
  let A:Env:=[(61,.bool (decide (b < g.2.1))),(60,.i g.2.1),(59,.i b),(0,.str m),(1,.i l),(6,.i a),(7,.i g.2.1),(8,.i g.2.2),(9,.i b)]
  refine oH 7 g36p26 A (mkH []) ?_
  refine oS 61 (λr=>?_) (λr=>?_)
  ·let u:Env:=((67,.i (fW .i64 (l+b)))::(66,.i b)::(65,.i l)::(64,.str m)::(61,.bool true)::A)
   refine oR 11 (atN 4 (ctl1 g36p27)) u ?_
   refine oC (λ(c:Int)=>(.y c,(mkH []))) (atN 5 (ctl1 g36p27)) 68 (idxH Kr) λc B=>?_
   refine oH 3 g36p29 ((70,.bool (!decide (andI .u8 c 192=128)))::(69,.y (andI .u8 c 192))::(68,.y c)::u) (mkH []) ?_
   refine oK [0,1,6,7,8,9,70] [(0,.str m),(1,.i l),(6,.i a),(7,.i g.2.1),(8,.i g.2.2),(9,.i b),(70,.bool (!decide (andI .u8 c 192=128)))] ?_
   refine oS 70 (λr=>?_) (λr=>?_)
   ·exact oQ 7
   ·refine oR 9 (atN 6 (ctl1 g36p32)) ((76,.i (fW .i64 (l+b)))::(75,.i b)::(74,.i l)::(73,.str m)::(72,.i (fW .i64 (a * 64)))::(71,.i a)::(70,.bool false)::(keepOnly ((70,.bool (!decide (andI .u8 c 192=128)))::(69,.y (andI .u8 c 192))::(68,.y c)::u) [0,1,6,7,8,9,70])) ?_
    refine oC (λ(h:Int)=>(.y h,(mkH []))) (atN 7 (ctl1 g36p32)) 77 (idxH Kr) λh C=>?_
    let x:Env:=[(0,.str m),(1,.i l),(6,.i (fW .i64 (fW .i64 (a * 64)+fW .i64 (andI .u8 h 63)))),(7,.i g.2.1),(8,.i g.2.2),(9,.i b)]
    refine oLH 5 (nav [0,0] g36p32) x (mkH []) ?_
    refine oR 5 g36p22 ((9,.i (fW .i64 (b+1)))::(63,.i (fW .i64 (b+1)))::(62,.i b)::x) ?_
    refine oK [0,1,6,7,8,9] [(0,.str m),(1,.i l),(6,.i (fW .i64 (fW .i64 (a * 64)+fW .i64 (andI .u8 h 63)))),(7,.i g.2.1),(8,.i g.2.2),(9,.i (fW .i64 (b+1)))] ?_
    exact ih (fW .i64 (fW .i64 (a * 64)+fW .i64 (andI .u8 h 63))) (fW .i64 (b+1))
  ·let z:Env:=((84,.bool (decide (a < g.2.2)))::(83,.bool (decide (a < g.2.2)))::(82,.i g.2.2)::(81,.i a)::(61,.bool false)::A)
   refine oR 9 (atN 4 (ctl1 g36p28)) z ?_
   refine oJ g36p30 (λ(o:Bool×Int)=>[(6,.i o.2),(7,.i g.2.1),(88,.bool o.1)]) (λ(o:Bool×Int)=>(mkH [])) (λo=>?_) (λE q=>?_)
   ·refine oS 88 (λr=>?_) (λr=>?_)
    ·exact oQ 7
    ·exact oQ 10
   ·refine oS 84 (λr=>?_) (λr=>?_)
    ·refine oLH 5 g36p30 [(6,.i a),(7,.i g.2.1),(88,.bool true)] (mkH []) ?_
     exact q (true,a)
    ·refine oH 1 (atN 5 (ctl1 g36p28)) ((85,.i a)::(84,.bool false)::z) (mkH []) ?_
     refine oA (λ(j:Bool) => .bool j) (atN 6 (ctl1 g36p28)) 86 [.i a] (g72_ok k a) λj D=>?_
     refine oL 3 g36p30 [(6,.i a),(7,.i g.2.1),(88,.bool (!j))] ?_
     exact q (!j,a)
def g36 (k:Nat) (c:LN) (b:Int):Option (Int×Int) :=
 jn (λ(o:Bool)=>if o then (some ((0:Int),(0:Int))) else ((nthS c b).bind λa=>if (decide (fW .i64 a < 128)) then (some (fW .i64 a,(1:Int))) else (jn (λ(q:Bool)=>jn (λ(g:Int×Int×Int)=>if (decide (fW .i64 ((c.length:Int) - b) < g.2.1)) then (some (((-1):Int),(1:Int))) else (qOd k c b g k g.1 1)) (λh=>if q then (h (andI .i64 (fW .i64 a) 31,2,128)) else (jn (λ(r:Bool)=>if r then (h (andI .i64 (fW .i64 a) 15,3,2048)) else (jn (λ(u:Bool)=>if u then (h (andI .i64 (fW .i64 a) 7,4,65536)) else (some (((-1):Int),(1:Int)))) (λj=>if (decide (240≤fW .i64 a)) then (j (decide (fW .i64 a < 248))) else (j false)))) (λl=>if (decide (224≤fW .i64 a)) then (l (decide (fW .i64 a < 240))) else (l false))))) (λm=>if (decide (192≤fW .i64 a)) then (m (decide (fW .i64 a < 224))) else (m false))))) (λn=>if (decide (b < 0)) then (n true) else (n (decide ((c.length:Int)≤b))))
theorem qK7 (k:Nat) (c:LN) (b:Int) (r:(Int×Int)) (h:g36 k c b=some r):PureOk Tryz.prog 36 [.str c,.i b] (.tuple [.i r.1,.i r.2]):=by
 refine qA5 Xg36 (λ_=>⟨rfl,rfl⟩) Tryz.func36 (by decide +kernel) Kr (t:=g36 k c b) ?_ h
 unfold g36
 refine qA1 (eE:=[(0,.str c),(1,.i b)]) Kr ?_
 refine oH 11 (atN 3 (ctl1 g36p1)) [(12,.bool (decide (b < 0))),(11,.bool (decide (b < 0))),(10,.i b),(5,.i 0),(4,.i 0),(0,.str c),(1,.i b)] (mkH []) ?_
 refine oJ g36p2 (λ(u:Bool)=>[(0,.str c),(1,.i b),(17,.bool u)]) (λ(u:Bool)=>(mkH [])) (λu=>?_) (λE m=>?_)
 ·refine oS 17 (λg=>?_) (λg=>?_)
  ·exact oQ 7
  ·refine oH 6 (atN 2 (ctl1 g36p4)) [(19,.i b),(18,.str c),(17,.bool false),(0,.str c),(1,.i b),(17,.bool u)] (mkH []) ?_
   refine oC (λ(a:Int)=>(.y a,(mkH []))) (atN 3 (ctl1 g36p4)) 20 (idxH Kr) λa A=>?_
   let B:Env:=[(0,.str c),(1,.i b),(6,.i (fW .i64 a))]
   refine oLH 11 g36p7 B (mkH []) ?_
   refine oR 5 g36p8 ((22,.bool (decide (fW .i64 a < 128)))::(24,.bool (decide (fW .i64 a < 128)))::(23,.i (fW .i64 a))::B) ?_
   refine oS 22 (λg=>?_) (λg=>?_)
   ·exact oQ 8
   ·refine oR 6 (atN 3 (ctl1 g36p10)) ((29,.bool (decide (192≤fW .i64 a)))::(28,.bool (decide (192≤fW .i64 a)))::(27,.i (fW .i64 a))::(22,.bool false)::(22,.bool (decide (fW .i64 a < 128)))::(24,.bool (decide (fW .i64 a < 128)))::(23,.i (fW .i64 a))::B) ?_
    refine oJ g36p11 (λ(x:Bool)=>[(0,.str c),(1,.i b),(6,.i (fW .i64 a)),(26,.bool x)]) (λ(x:Bool)=>(mkH [])) (λx=>?_) (λF n=>?_)
    ·refine oJ g36p14 (λ(j:Int×Int×Int)=>[(0,.str c),(1,.i b),(6,.i j.1),(7,.i j.2.1),(8,.i j.2.2)]) (λ(j:Int×Int×Int)=>(mkH [])) (λj=>?_) (λG l=>?_)
     ·let D:Env:=[(58,.bool (decide (fW .i64 ((c.length:Int) - b) < j.2.1))),(57,.i j.2.1),(56,.i (fW .i64 ((c.length:Int) - b))),(55,.i b),(54,.i (c.length:Int)),(53,.str c),(0,.str c),(1,.i b),(6,.i j.1),(7,.i j.2.1),(8,.i j.2.2)]
      refine oH 8 g36p16 D (mkH []) ?_
      refine oS 58 (λg=>?_) (λg=>?_)
      ·exact oQ 7
      ·refine oR 9 g36p22 ((9,.i 1)::(58,.bool false)::D) ?_
       refine oK [0,1,6,7,8,9] [(0,.str c),(1,.i b),(6,.i j.1),(7,.i j.2.1),(8,.i j.2.2),(9,.i 1)] ?_
       exact (qOc k c b j k) j.1 1
     ·refine oS 26 (λg=>?_) (λg=>?_)
      ·refine oLH 10 g36p14 [(0,.str c),(1,.i b),(6,.i (andI .i64 (fW .i64 a) 31)),(7,.i 2),(8,.i 128)] (mkH []) ?_
       exact l (andI .i64 (fW .i64 a) 31,2,128)
      ·refine oH 6 (atN 3 (ctl1 g36p13)) [(38,.bool (decide (224≤fW .i64 a))),(37,.bool (decide (224≤fW .i64 a))),(36,.i (fW .i64 a)),(26,.bool false),(0,.str c),(1,.i b),(6,.i (fW .i64 a)),(26,.bool x)] (mkH []) ?_
       refine oJ g36p15 (λ(z:Bool)=>[(0,.str c),(1,.i b),(6,.i (fW .i64 a)),(35,.bool z)]) (λ(z:Bool)=>(mkH [])) (λz=>?_) (λI o=>?_)
       ·refine oS 35 (λg=>?_) (λg=>?_)
        ·refine oLH 10 g36p14 [(0,.str c),(1,.i b),(6,.i (andI .i64 (fW .i64 a) 15)),(7,.i 3),(8,.i 2048)] (mkH []) ?_
         exact l (andI .i64 (fW .i64 a) 15,3,2048)
        ·refine oH 6 (atN 3 (ctl1 g36p18)) [(47,.bool (decide (240≤fW .i64 a))),(46,.bool (decide (240≤fW .i64 a))),(45,.i (fW .i64 a)),(35,.bool false),(0,.str c),(1,.i b),(6,.i (fW .i64 a)),(35,.bool z)] (mkH []) ?_
         refine oJ g36p21 (λ(C:Bool)=>[(0,.str c),(1,.i b),(6,.i (fW .i64 a)),(44,.bool C)]) (λ(C:Bool)=>(mkH [])) (λC=>?_) (λJ q=>?_)
         ·refine oS 44 (λg=>?_) (λg=>?_)
          ·refine oLH 10 g36p14 [(0,.str c),(1,.i b),(6,.i (andI .i64 (fW .i64 a) 7)),(7,.i 4),(8,.i 65536)] (mkH []) ?_
           exact l (andI .i64 (fW .i64 a) 7,4,65536)
          ·exact oQ 7
         ·refine oS 47 (λg=>?_) (λg=>?_)
          ·refine oLH 5 g36p21 [(0,.str c),(1,.i b),(6,.i (fW .i64 a)),(44,.bool (decide (fW .i64 a < 248)))] (mkH []) ?_
           exact q (decide (fW .i64 a < 248))
          ·refine oLH 5 g36p21 [(0,.str c),(1,.i b),(6,.i (fW .i64 a)),(44,.bool false)] (mkH []) ?_
           exact q false
       ·refine oS 38 (λg=>?_) (λg=>?_)
        ·refine oLH 5 g36p15 [(0,.str c),(1,.i b),(6,.i (fW .i64 a)),(35,.bool (decide (fW .i64 a < 240)))] (mkH []) ?_
         exact o (decide (fW .i64 a < 240))
        ·refine oLH 5 g36p15 [(0,.str c),(1,.i b),(6,.i (fW .i64 a)),(35,.bool false)] (mkH []) ?_
         exact o false
    ·refine oS 29 (λg=>?_) (λg=>?_)
     ·refine oLH 5 g36p11 [(0,.str c),(1,.i b),(6,.i (fW .i64 a)),(26,.bool (decide (fW .i64 a < 224)))] (mkH []) ?_
      exact n (decide (fW .i64 a < 224))
     ·refine oLH 5 g36p11 [(0,.str c),(1,.i b),(6,.i (fW .i64 a)),(26,.bool false)] (mkH []) ?_
      exact n false
 ·refine oS 12 (λg=>?_) (λg=>?_)
  ·refine oLH 6 g36p2 [(0,.str c),(1,.i b),(17,.bool true)] (mkH []) ?_
   exact m true
  ·refine oLH 6 g36p2 [(0,.str c),(1,.i b),(17,.bool (decide ((c.length:Int)≤b)))] (mkH []) ?_
   exact m (decide ((c.length:Int)≤b))
def Xg16:Fx Bool:=⟨Tryz.prog,cx,Tryz.f16,λr => .bool r,0,λ_=>H0,cxTi,cxOrd,λ_=>none,false⟩
def g16p2:Pt:=nav [0,0,0,0] (nav [0,0,0,0] (nav [0] (bodyAt Tryz.f16)))
def g16p4:Pt:=nav [0,0] (nav [0,0,0] g16p2)
def g16p5:Pt:=nav [1,0,0,0] g16p4
def g16p7:Pt:=nav [0,0,0,0] g16p5
def qIf (k:Nat)  (c:LN) (ih:Int→Option Bool):Int→Option Bool :=
 λ(a:Int)=>if (decide (a < (c.length:Int))) then ((g36 k c a).bind λb=>if (decide (b.1 < 0)) then (some false) else (ih (fW .i64 (a+b.2)))) else (some true)
def qOk (k:Nat)  (a:LN) (n:Nat):Int→Option Bool:=lp (λ_=>none) (qIf k a) n
theorem qOj (k:Nat)   (c:LN)  : ∀ (n:Nat) (a:Int),Ok Xg16 g16p2 [(0,.str c),(3,.i a)] (mkH []) (qOk k c n a):=by
 intro n
 induction n with
 | zero=>intro a; exact ok_none
 | succ n ih =>
  intro a
  show Ok _ _ _ _ (qIf k c (qOk k c n) a)
  unfold qIf
  refine qAd (p':=nav [0] g16p2) Kr ?_
  let j:Env:=[(9,.bool (decide (a < (c.length:Int)))),(8,.i (c.length:Int)),(7,.str c),(6,.i a),(0,.str c),(3,.i a)]
  refine oH 8 g16p4 j (mkH []) ?_
  refine oS 9 (λg=>?_) (λg=>?_)
  ·refine oR 7 (atN 2 (ctl1 g16p5)) ((12,.i a)::(11,.str c)::(9,.bool true)::j) ?_
   refine oA (λ(b:(Int×Int)) => .tuple [.i b.1,.i b.2]) (atN 3 (ctl1 g16p5)) 13 [.str c,.i a] (qK7 k c a) λb h=>?_
   let l:Env:=[(0,.str c),(3,.i a),(4,.i b.1),(5,.i b.2)]
   refine oL 8 g16p7 l ?_
   refine oR 4 (nav [0,0] g16p7) ((17,.bool (decide (b.1 < 0)))::(16,.i b.1)::l) ?_
   refine oS 17 (λg=>?_) (λg=>?_)
   ·exact oQ 6
   ·refine oL 8 g16p2 [(0,.str c),(3,.i (fW .i64 (a+b.2)))] ?_
    exact ih (fW .i64 (a+b.2))
  ·exact oQ 7
def g16 (k:Nat) (a:LN):Option Bool :=
 qOk k a k 0
theorem g16_ok (k:Nat) (a:LN) (r:Bool) (h:g16 k a=some r):PureOk Tryz.prog 16 [.str a] (.bool r):=by
 refine qA5 Xg16 (λ_=>⟨rfl,rfl⟩) Tryz.func16 (by decide +kernel) Kr (t:=g16 k a) ?_ h
 unfold g16
 refine qA1 (eE:=[(0,.str a)]) Kr ?_
 refine oLH 11 g16p2 [(0,.str a),(3,.i 0)] (mkH []) ?_
 exact (qOj k a k) 0
def Xg17:Fx Int:=⟨Tryz.prog,cx,Tryz.f17,λr => .i r,0,λ_=>H0,cxTi,cxOrd,λ_=>none,false⟩
def g17p1:Pt:=nav [0,0,0,0,0] (nav [0] (bodyAt Tryz.f17))
def g17p2:Pt:=nav [0,0,0] g17p1
def g17p3:Pt:=nav [0,0] g17p2
def qIe (k:Nat)  (h:LN) (ih:Int→Option Int):Int→Option Int :=
 λ(a:Int)=>jn (λ(m:Bool×Int)=>if m.1 then (ih (fW .i64 (m.2+1))) else (some m.2)) (λj=>if (decide (a < (h.length:Int))) then ((nthS h a).bind λl=>if (decide (l=32)) then (j (true,a)) else ((nthS h a).bind λb=>if (decide (b=9)) then (j (true,a)) else ((nthS h a).bind λc=>if (decide (c=10)) then (j (true,a)) else ((nthS h a).bind λg=>j (decide (g=13),a))))) else (j (false,a)))
def qOi (k:Nat)  (a:LN) (n:Nat):Int→Option Int:=lp (λ_=>none) (qIe k a) n
theorem qOh (k:Nat)   (g:LN)  : ∀ (n:Nat) (a:Int),Ok Xg17 g17p1 [(0,.str g),(1,.i a)] (mkH []) (qOi k g n a):=by
 intro n
 induction n with
 | zero=>intro a; exact ok_none
 | succ n ih =>
  intro a
  show Ok _ _ _ _ (qIe k g (qOi k g n) a)
  unfold qIe
  refine qAd (p':=nav [0] g17p1) Kr ?_
  let z:Env:=[(9,.bool (decide (a < (g.length:Int)))),(8,.bool (decide (a < (g.length:Int)))),(7,.i (g.length:Int)),(6,.str g),(5,.i a),(0,.str g),(1,.i a)]
  refine oH 8 (atN 5 (ctl1 g17p2)) z (mkH []) ?_
  refine oJ g17p3 (λ(o:Bool×Int)=>[(0,.str g),(1,.i o.2),(32,.bool o.1)]) (λ(o:Bool×Int)=>(mkH [])) (λo=>?_) (λD l=>?_)
  ·refine oS 32 (λm=>?_) (λm=>?_)
   ·refine oLH 8 g17p1 [(0,.str g),(1,.i (fW .i64 (o.2+1)))] (mkH []) ?_
    exact ih (fW .i64 (o.2+1))
   ·exact oQ 8
  ·refine oS 9 (λm=>?_) (λm=>?_)
   ·refine oH 2 (atN 7 (ctl1 g17p2)) ((11,.i a)::(10,.str g)::(9,.bool true)::z) (mkH []) ?_
    refine oC (λ(j:Int)=>(.y j,(mkH []))) (atN 8 (ctl1 g17p2)) 12 (idxH Kr) λj A=>?_
    let B:Env:=((14,.bool (decide (j=32)))::(13,.bool (decide (j=32)))::(12,.y j)::(11,.i a)::(10,.str g)::(9,.bool true)::z)
    refine oH 2 (atN 10 (ctl1 g17p2)) B (mkH []) ?_
    refine oS 14 (λm=>?_) (λm=>?_)
    ·refine oL 19 g17p3 [(0,.str g),(1,.i a),(32,.bool true)] ?_
     exact l (true,a)
    ·refine oR 2 (atN 12 (ctl1 g17p2)) ((16,.i a)::(15,.str g)::(14,.bool false)::B) ?_
     refine oC (λ(b:Int)=>(.y b,(mkH []))) (atN 13 (ctl1 g17p2)) 17 (idxH Kr) λb r=>?_
     let C:Env:=((20,.bool (decide (b=9)))::(19,.bool (decide (b=9)))::(18,.bool (decide (b=9)))::(17,.y b)::(16,.i a)::(15,.str g)::(14,.bool false)::B)
     refine oH 3 (atN 16 (ctl1 g17p2)) C (mkH []) ?_
     refine oS 20 (λm=>?_) (λm=>?_)
     ·refine oL 13 g17p3 [(0,.str g),(1,.i a),(32,.bool true)] ?_
      exact l (true,a)
     ·refine oR 2 (atN 18 (ctl1 g17p2)) ((22,.i a)::(21,.str g)::(20,.bool false)::C) ?_
      refine oC (λ(c:Int)=>(.y c,(mkH []))) (atN 19 (ctl1 g17p2)) 23 (idxH Kr) λc u=>?_
      let q:Env:=((26,.bool (decide (c=10)))::(25,.bool (decide (c=10)))::(24,.bool (decide (c=10)))::(23,.y c)::(22,.i a)::(21,.str g)::(20,.bool false)::C)
      refine oH 3 (atN 22 (ctl1 g17p2)) q (mkH []) ?_
      refine oS 26 (λm=>?_) (λm=>?_)
      ·refine oL 7 g17p3 [(0,.str g),(1,.i a),(32,.bool true)] ?_
       exact l (true,a)
      ·refine oR 2 (atN 24 (ctl1 g17p2)) ((28,.i a)::(27,.str g)::(26,.bool false)::q) ?_
       refine oC (λ(h:Int)=>(.y h,(mkH []))) (atN 25 (ctl1 g17p2)) 29 (idxH Kr) λh x=>?_
       refine oLH 4 g17p3 [(0,.str g),(1,.i a),(32,.bool (decide (h=13)))] (mkH []) ?_
       exact l (decide (h=13),a)
   ·refine oLH 24 g17p3 [(0,.str g),(1,.i a),(32,.bool false)] (mkH []) ?_
    exact l (false,a)
def g17 (k:Nat) (a:LN) (b:Int):Option Int :=
 qOi k a k b
theorem qOg (k:Nat) (a:LN) (b:Int) (r:Int) (h:g17 k a b=some r):PureOk Tryz.prog 17 [.str a,.i b] (.i r):=by
 refine qA5 Xg17 (λ_=>⟨rfl,rfl⟩) Tryz.func17 (by decide +kernel) Kr (t:=g17 k a b) ?_ h
 unfold g17
 refine qA1 (eE:=[(0,.str a),(1,.i b)]) Kr ?_
 refine oLH 7 g17p1 [(0,.str a),(1,.i b)] (mkH []) ?_
 exact (qOh k a k) b
def Xg37:Fx LN:=⟨Tryz.prog,cx,Tryz.f37,λr => .str r,0,λ_=>H0,cxTi,cxOrd,λ_=>none,false⟩
def g37p2:Pt:=nav [0,0,0,0,0] (nav [0,0,0] (nav [0] (bodyAt Tryz.f37)))
def g37p3:Pt:=nav [0,0,0] g37p2
def g37p4:Pt:=nav [0,0] g37p3
def g37p6:Pt:=nav [2,0,0] g37p4
def qIa (k:Nat)  (j:LN) (ih:Int→Option LN):Int→Option LN :=
 λ(a:Int)=>jn (λ(m:Bool×Int)=>if m.1 then (ih (fW .i64 (m.2 - 1))) else ((subL j none (some m.2)).bind λg=>some g)) (λl=>if (decide (0 < a)) then ((nthS j (fW .i64 (a - 1))).bind λh=>if (decide (h=32)) then (l (true,a)) else ((nthS j (fW .i64 (a - 1))).bind λb=>if (decide (b=9)) then (l (true,a)) else ((nthS j (fW .i64 (a - 1))).bind λc=>l (decide (c=13),a)))) else (l (false,a)))
def qOb (k:Nat)  (a:LN) (n:Nat):Int→Option LN:=lp (λ_=>none) (qIa k a) n
theorem qOa (k:Nat)   (g:LN)  : ∀ (n:Nat) (a:Int),Ok Xg37 g37p2 [(0,.str g),(3,.i a)] (mkH []) (qOb k g n a):=by
 intro n
 induction n with
 | zero=>intro a; exact ok_none
 | succ n ih =>
  intro a
  show Ok _ _ _ _ (qIa k g (qOb k g n) a)
  unfold qIa
  refine qAd (p':=nav [0] g37p2) Kr ?_
  let u:Env:=[(8,.bool (decide (0 < a))),(7,.bool (decide (0 < a))),(6,.i a),(0,.str g),(3,.i a)]
  refine oH 6 (atN 3 (ctl1 g37p3)) u (mkH []) ?_
  refine oJ g37p4 (λ(j:Bool×Int)=>[(0,.str g),(3,.i j.2),(28,.bool j.1)]) (λ(j:Bool×Int)=>(mkH [])) (λj=>?_) (λC l=>?_)
  ·refine oS 28 (λo=>?_) (λo=>?_)
   ·refine oLH 8 g37p2 [(0,.str g),(3,.i (fW .i64 (j.2 - 1)))] (mkH []) ?_
    exact ih (fW .i64 (j.2 - 1))
   ·refine oH 6 (atN 2 (ctl1 g37p6)) [(32,.i j.2),(31,.str g),(28,.bool false),(0,.str g),(3,.i j.2),(28,.bool j.1)] (mkH []) ?_
    refine oC (λ(m:LN)=>(.str m,(mkH []))) (atN 3 (ctl1 g37p6)) 33 (subH none (some j.2) Kr) λm x=>?_
    exact oQ 3
  ·refine oS 8 (λo=>?_) (λo=>?_)
   ·refine oH 3 (atN 6 (ctl1 g37p3)) ((11,.i (fW .i64 (a - 1)))::(10,.i a)::(9,.str g)::(8,.bool true)::u) (mkH []) ?_
    refine oC (λ(h:Int)=>(.y h,(mkH []))) (atN 7 (ctl1 g37p3)) 12 (idxH Kr) λh z=>?_
    let A:Env:=((14,.bool (decide (h=32)))::(13,.bool (decide (h=32)))::(12,.y h)::(11,.i (fW .i64 (a - 1)))::(10,.i a)::(9,.str g)::(8,.bool true)::u)
    refine oH 2 (atN 9 (ctl1 g37p3)) A (mkH []) ?_
    refine oS 14 (λo=>?_) (λo=>?_)
    ·refine oL 15 g37p4 [(0,.str g),(3,.i a),(28,.bool true)] ?_
     exact l (true,a)
    ·refine oR 3 (atN 12 (ctl1 g37p3)) ((17,.i (fW .i64 (a - 1)))::(16,.i a)::(15,.str g)::(14,.bool false)::A) ?_
     refine oC (λ(b:Int)=>(.y b,(mkH []))) (atN 13 (ctl1 g37p3)) 18 (idxH Kr) λb q=>?_
     let B:Env:=((21,.bool (decide (b=9)))::(20,.bool (decide (b=9)))::(19,.bool (decide (b=9)))::(18,.y b)::(17,.i (fW .i64 (a - 1)))::(16,.i a)::(15,.str g)::(14,.bool false)::A)
     refine oH 3 (atN 16 (ctl1 g37p3)) B (mkH []) ?_
     refine oS 21 (λo=>?_) (λo=>?_)
     ·refine oL 8 g37p4 [(0,.str g),(3,.i a),(28,.bool true)] ?_
      exact l (true,a)
     ·refine oR 3 (atN 19 (ctl1 g37p3)) ((24,.i (fW .i64 (a - 1)))::(23,.i a)::(22,.str g)::(21,.bool false)::B) ?_
      refine oC (λ(c:Int)=>(.y c,(mkH []))) (atN 20 (ctl1 g37p3)) 25 (idxH Kr) λc r=>?_
      refine oLH 4 g37p4 [(0,.str g),(3,.i a),(28,.bool (decide (c=13)))] (mkH []) ?_
      exact l (decide (c=13),a)
   ·refine oLH 21 g37p4 [(0,.str g),(3,.i a),(28,.bool false)] (mkH []) ?_
    exact l (false,a)
def g37 (k:Nat) (a:LN):Option LN :=
 qOb k a k (a.length:Int)
theorem g37_ok (k:Nat) (a:LN) (r:LN) (h:g37 k a=some r):PureOk Tryz.prog 37 [.str a] (.str r):=by
 refine qA5 Xg37 (λ_=>⟨rfl,rfl⟩) Tryz.func37 (by decide +kernel) Kr (t:=g37 k a) ?_ h
 unfold g37
 refine qA1 (eE:=[(0,.str a)]) Kr ?_
 refine oLH 13 g37p2 [(0,.str a),(3,.i (a.length:Int))] (mkH []) ?_
 exact (qOa k a k) (a.length:Int)
def Xg73:Fx Bool:=⟨Tryz.prog,cx,Tryz.f73,λr => .bool r,0,λ_=>H0,cxTi,cxOrd,λ_=>none,false⟩
def g73 (k:Nat) (a:Int):Option Bool :=
 if (decide (48≤a)) then (some (decide (a≤57))) else (some false)
theorem qNo (k:Nat) (a:Int) (r:Bool) (h:g73 k a=some r):PureOk Tryz.prog 73 [.y a] (.bool r):=by
 refine qA5 Xg73 (λ_=>⟨rfl,rfl⟩) Tryz.func73 (by decide +kernel) Kr (t:=g73 k a) ?_ h
 unfold g73
 refine qA1 (eE:=[(0,.y a)]) Kr ?_
 refine oH 9 (atN 3 (ctl1 (nav [0,0,0] (nav [0] (bodyAt Tryz.f73))))) [(5,.bool (decide (48≤a))),(4,.bool (decide (48≤a))),(3,.y a),(2,.bool false),(0,.y a)] (mkH []) ?_
 refine oS 5 (λb=>?_) (λb=>?_)
 ·exact oQ 6
 ·exact oQ 6
def Xg38:Fx Int:=⟨Tryz.prog,cx,Tryz.f38,λr => .i r,0,λ_=>H0,cxTi,cxOrd,λ_=>none,false⟩
def g38p1:Pt:=nav [0,0,0,0,0] (nav [0] (bodyAt Tryz.f38))
def g38p2:Pt:=nav [0,0] g38p1
def g38p4:Pt:=nav [2,0] g38p2
def g38p6:Pt:=nav [0,0] g38p4
def g38p8:Pt:=nav [2,0] g38p6
def g38 (k:Nat) (a:Int):Option Int :=
 jn (λ(h:Bool)=>if h then (some (1:Int)) else (jn (λ(j:Bool)=>if j then (some (2:Int)) else ((g73 k a).bind λb=>if b then (some (3:Int)) else (some (0:Int)))) (λc=>if (decide (65≤a)) then (if (decide (a≤90)) then (c true) else (c (decide (a=95)))) else (c (decide (a=95)))))) (λg=>if (decide (97≤a)) then (g (decide (a≤122))) else (g false))
theorem qO9 (k:Nat) (a:Int) (r:Int) (h:g38 k a=some r):PureOk Tryz.prog 38 [.y a] (.i r):=by
 refine qA5 Xg38 (λ_=>⟨rfl,rfl⟩) Tryz.func38 (by decide +kernel) Kr (t:=g38 k a) ?_ h
 unfold g38
 refine qA1 (eE:=[(0,.y a)]) Kr ?_
 refine oH 11 (atN 3 (ctl1 g38p1)) [(6,.bool (decide (97≤a))),(5,.bool (decide (97≤a))),(4,.y a),(2,.i 0),(0,.y a)] (mkH []) ?_
 refine oJ g38p2 (λ(m:Bool)=>[(0,.y a),(3,.bool m)]) (λ(m:Bool)=>(mkH [])) (λm=>?_) (λq j=>?_)
 ·refine oS 3 (λc=>?_) (λc=>?_)
  ·exact oQ 6
  ·let o:Env:=[(13,.bool (decide (65≤a))),(12,.bool (decide (65≤a))),(11,.y a),(3,.bool false),(0,.y a),(3,.bool m)]
   refine oH 6 (atN 3 (ctl1 g38p4)) o (mkH []) ?_
   refine oJ g38p6 (λ(l:Bool)=>[(0,.y a),(10,.bool l)]) (λ(l:Bool)=>(mkH [])) (λl=>?_) (λu g=>?_)
   ·refine oS 10 (λc=>?_) (λc=>?_)
    ·exact oQ 6
    ·refine oH 4 (atN 1 (ctl1 g38p8)) [(22,.y a),(10,.bool false),(0,.y a),(10,.bool l)] (mkH []) ?_
     refine oA (λ(b:Bool) => .bool b) (atN 2 (ctl1 g38p8)) 23 [.y a] (qNo k a) λb n=>?_
     refine oR 2 (nav [0,0] g38p8) [(21,.bool b),(23,.bool b),(22,.y a),(10,.bool false),(0,.y a),(10,.bool l)] ?_
     refine oS 21 (λc=>?_) (λc=>?_)
     ·exact oQ 6
     ·exact oQ 7
   ·refine oS 13 (λc=>?_) (λc=>?_)
    ·refine oH 4 (atN 7 (ctl1 g38p4)) ((17,.bool (decide (a≤90)))::(16,.bool (decide (a≤90)))::(15,.bool (decide (a≤90)))::(14,.y a)::(13,.bool true)::o) (mkH []) ?_
     refine oS 17 (λc=>?_) (λc=>?_)
     ·refine oL 5 g38p6 [(0,.y a),(10,.bool true)] ?_
      exact g true
     ·refine oL 5 g38p6 [(0,.y a),(10,.bool (decide (a=95)))] ?_
      exact g (decide (a=95))
    ·refine oLH 9 g38p6 [(0,.y a),(10,.bool (decide (a=95)))] (mkH []) ?_
     exact g (decide (a=95))
 ·refine oS 6 (λc=>?_) (λc=>?_)
  ·refine oLH 5 g38p2 [(0,.y a),(3,.bool (decide (a≤122)))] (mkH []) ?_
   exact j (decide (a≤122))
  ·refine oLH 5 g38p2 [(0,.y a),(3,.bool false)] (mkH []) ?_
   exact j false
def Xg131:Fx Int:=⟨Tryz.prog,cx,Tryz.f131,λr => .i r,0,λ_=>H0,cxTi,cxOrd,λ_=>none,false⟩
def g131p2:Pt:=nav [0,0,0,0,0] (nav [0,0,0] (nav [0] (bodyAt Tryz.f131)))
def g131p3:Pt:=nav [0,0] g131p2
def g131p5:Pt:=nav [2,0] g131p3
def g131p6:Pt:=nav [0,0,0,0] (nav [1] g131p3)
def g131p7:Pt:=nav [0,0] g131p5
def g131p10:Pt:=nav [2,0] g131p7
def g131p13:Pt:=nav [0,0] g131p10
def g131 (k:Nat) (a:Int) (l:Int):Option Int :=
 (g73 k a).bind λb=>jn (λ(g:Int)=>if (decide (l≤g)) then (some ((-1):Int)) else (some g)) (λc=>if b then (c (fW .i64 (fW .u8 (a - 48)))) else (jn (λ(m:Bool)=>if m then (c (fW .i64 (fW .i64 (fW .u8 (a - 97))+10))) else (jn (λ(n:Bool)=>if n then (c (fW .i64 (fW .i64 (fW .u8 (a - 65))+10))) else (c (-1))) (λh=>if (decide (65≤a)) then (h (decide (a≤90))) else (h false)))) (λj=>if (decide (97≤a)) then (j (decide (a≤122))) else (j false))))
theorem qFk (k:Nat) (a:Int) (b:Int) (r:Int) (h:g131 k a b=some r):PureOk Tryz.prog 131 [.y a,.i b] (.i r):=by
 refine qA5 Xg131 (λ_=>⟨rfl,rfl⟩) Tryz.func131 (by decide +kernel) Kr (t:=g131 k a b) ?_ h
 unfold g131
 refine qA1 (eE:=[(0,.y a),(1,.i b)]) Kr ?_
 let q:Env:=[(7,.y a),(5,.i (-1)),(4,.i 0),(0,.y a),(1,.i b)]
 refine oH 13 (atN 1 (ctl1 g131p2)) q (mkH []) ?_
 refine oA (λ(c:Bool) => .bool c) (atN 2 (ctl1 g131p2)) 8 [.y a] (qNo k a) λc u=>?_
 refine oR 2 g131p3 ((6,.bool c)::(8,.bool c)::q) ?_
 refine oJ g131p6 (λ(l:Int)=>[(1,.i b),(5,.i l)]) (λ(l:Int)=>(mkH [])) (λl=>?_) (λz j=>?_)
 ·refine oH 5 (nav [0,0] g131p6) [(36,.bool (decide (b≤l))),(35,.i b),(34,.i l),(1,.i b),(5,.i l)] (mkH []) ?_
  refine oS 36 (λg=>?_) (λg=>?_)
  ·exact oQ 6
  ·exact oQ 8
 ·refine oS 6 (λg=>?_) (λg=>?_)
  ·refine oLH 9 g131p6 [(1,.i b),(5,.i (fW .i64 (fW .u8 (a - 48))))] (mkH []) ?_
   exact j (fW .i64 (fW .u8 (a - 48)))
  ·refine oH 6 (atN 3 (ctl1 g131p5)) ((15,.bool (decide (97≤a)))::(14,.bool (decide (97≤a)))::(13,.y a)::(6,.bool false)::(6,.bool c)::(8,.bool c)::q) (mkH []) ?_
   refine oJ g131p7 (λ(o:Bool)=>[(0,.y a),(1,.i b),(5,.i (-1)),(12,.bool o)]) (λ(o:Bool)=>(mkH [])) (λo=>?_) (λA m=>?_)
   ·refine oS 12 (λg=>?_) (λg=>?_)
    ·refine oLH 10 g131p6 [(1,.i b),(5,.i (fW .i64 (fW .i64 (fW .u8 (a - 97))+10)))] (mkH []) ?_
     exact j (fW .i64 (fW .i64 (fW .u8 (a - 97))+10))
    ·refine oH 6 (atN 3 (ctl1 g131p10)) [(26,.bool (decide (65≤a))),(25,.bool (decide (65≤a))),(24,.y a),(12,.bool false),(0,.y a),(1,.i b),(5,.i (-1)),(12,.bool o)] (mkH []) ?_
     refine oJ g131p13 (λ(x:Bool)=>[(0,.y a),(1,.i b),(5,.i (-1)),(23,.bool x)]) (λ(x:Bool)=>(mkH [])) (λx=>?_) (λB n=>?_)
     ·refine oS 23 (λg=>?_) (λg=>?_)
      ·refine oLH 10 g131p6 [(1,.i b),(5,.i (fW .i64 (fW .i64 (fW .u8 (a - 65))+10)))] (mkH []) ?_
       exact j (fW .i64 (fW .i64 (fW .u8 (a - 65))+10))
      ·refine oLH 4 g131p6 [(1,.i b),(5,.i (-1))] (mkH []) ?_
       exact j (-1)
     ·refine oS 26 (λg=>?_) (λg=>?_)
      ·refine oLH 5 g131p13 [(0,.y a),(1,.i b),(5,.i (-1)),(23,.bool (decide (a≤90)))] (mkH []) ?_
       exact n (decide (a≤90))
      ·refine oLH 5 g131p13 [(0,.y a),(1,.i b),(5,.i (-1)),(23,.bool false)] (mkH []) ?_
       exact n false
   ·refine oS 15 (λg=>?_) (λg=>?_)
    ·refine oLH 5 g131p7 [(0,.y a),(1,.i b),(5,.i (-1)),(12,.bool (decide (a≤122)))] (mkH []) ?_
     exact m (decide (a≤122))
    ·refine oLH 5 g131p7 [(0,.y a),(1,.i b),(5,.i (-1)),(12,.bool false)] (mkH []) ?_
     exact m false
def Xg97:Fx Int:=⟨Tryz.prog,cx,Tryz.f97,λr => .i r,0,λ_=>H0,cxTi,cxOrd,λ_=>none,false⟩
def g97p2:Pt:=nav [0,0,0,0,0] (nav [0,0,0] (nav [0] (bodyAt Tryz.f97)))
def g97p4:Pt:=nav [0,0] (nav [0,0,0] g97p2)
def g97p5:Pt:=nav [1,0,0,0,0] g97p4
def g97p6:Pt:=nav [2,0,0] g97p4
def g97p7:Pt:=nav [0,0] g97p5
def qHw (k:Nat)  (l:LN) (q:Int) (r:Int) (x:Bool) (ih:Int→Option Int):Int→Option Int :=
 λ(a:Int)=>jn (λ(z:Int)=>some (fW .i64 (z - q))) (λu=>if (decide (a < (l.length:Int))) then ((nthS l a).bind λm=>(g131 k m r).bind λn=>jn (λ(o:Bool×Int)=>if o.1 then (u o.2) else (ih (fW .i64 (o.2+1)))) (λb=>if (decide (n < 0)) then (if x then ((nthS l a).bind λc=>if (decide (c=95)) then (if (decide (q < a)) then ((nthS l (fW .i64 (a - 1))).bind λg=>if (!decide (g=95)) then (if (decide (fW .i64 (a+1) < (l.length:Int))) then ((nthS l (fW .i64 (a+1))).bind λh=>(g131 k h r).bind λj=>b (!(decide (0≤j)),a)) else (b (true,a))) else (b (true,a))) else (b (true,a))) else (b (true,a))) else (b (true,a))) else (b (false,a)))) else (u a))
def qNj (k:Nat)  (a:LN) (b:Int) (c:Int) (g:Bool) (n:Nat):Int→Option Int:=lp (λ_=>none) (qHw k a b c g) n
theorem qNi (k:Nat)   (b:LN) (l:Int) (m:Int) (r:Bool)  : ∀ (n:Nat) (a:Int),Ok Xg97 g97p2 [(0,.str b),(1,.i l),(2,.i m),(3,.bool r),(9,.i a)] (mkH []) (qNj k b l m r n a):=by
 intro n
 induction n with
 | zero=>intro a; exact ok_none
 | succ n ih =>
  intro a
  show Ok _ _ _ _ (qHw k b l m r (qNj k b l m r n) a)
  unfold qHw
  refine qAd (p':=nav [0] g97p2) Kr ?_
  let K:Env:=[(14,.bool (decide (a < (b.length:Int)))),(13,.i (b.length:Int)),(12,.str b),(11,.i a),(0,.str b),(1,.i l),(2,.i m),(3,.bool r),(9,.i a)]
  refine oH 8 g97p4 K (mkH []) ?_
  refine oJ g97p6 (λ(L:Int)=>[(1,.i l),(9,.i L)]) (λ(L:Int)=>(mkH [])) (λL=>?_) (λS C=>?_)
  ·exact oQ 7
  ·refine oS 14 (λu=>?_) (λu=>?_)
   ·refine oH 8 (atN 2 (ctl1 g97p5)) ((16,.i a)::(15,.str b)::(14,.bool true)::K) (mkH []) ?_
    refine oC (λ(q:Int)=>(.y q,(mkH []))) (atN 3 (ctl1 g97p5)) 17 (idxH Kr) λq M=>?_
    let N:Env:=((18,.i m)::(17,.y q)::(16,.i a)::(15,.str b)::(14,.bool true)::K)
    refine oH 1 (atN 4 (ctl1 g97p5)) N (mkH []) ?_
    refine oA (λ(h:Int) => .i h) (atN 5 (ctl1 g97p5)) 19 [.y q,.i m] (qFk k q m) λh O=>?_
    refine oR 2 (atN 7 (ctl1 g97p5)) ((21,.bool (decide (h < 0)))::(20,.bool (decide (h < 0)))::(19,.i h)::N) ?_
    refine oJ g97p7 (λ(z:Bool×Int)=>[(0,.str b),(1,.i l),(2,.i m),(3,.bool r),(9,.i z.2),(58,.bool z.1)]) (λ(z:Bool×Int)=>(mkH [])) (λz=>?_) (λT x=>?_)
    ·refine oS 58 (λu=>?_) (λu=>?_)
     ·refine oLH 3 g97p6 [(1,.i l),(9,.i z.2)] (mkH []) ?_
      exact C z.2
     ·refine oLH 7 g97p2 [(0,.str b),(1,.i l),(2,.i m),(3,.bool r),(9,.i (fW .i64 (z.2+1)))] (mkH []) ?_
      exact ih (fW .i64 (z.2+1))
    ·refine oS 21 (λu=>?_) (λu=>?_)
     ·let Q:Env:=((23,.bool r)::(22,.bool r)::(21,.bool true)::(21,.bool (decide (h < 0)))::(20,.bool (decide (h < 0)))::(19,.i h)::N)
      refine oH 2 (atN 9 (ctl1 g97p5)) Q (mkH []) ?_
      refine oS 23 (λu=>?_) (λu=>?_)
      ·refine oR 2 (atN 11 (ctl1 g97p5)) ((25,.i a)::(24,.str b)::(23,.bool true)::Q) ?_
       refine oC (λ(c:Int)=>(.y c,(mkH []))) (atN 12 (ctl1 g97p5)) 26 (idxH Kr) λc F=>?_
       let D:Env:=((29,.bool (decide (c=95)))::(28,.bool (decide (c=95)))::(27,.bool (decide (c=95)))::(26,.y c)::(25,.i a)::(24,.str b)::(23,.bool true)::Q)
       refine oH 3 (atN 15 (ctl1 g97p5)) D (mkH []) ?_
       refine oS 29 (λu=>?_) (λu=>?_)
       ·let A:Env:=((34,.bool (decide (l < a)))::(33,.bool (decide (l < a)))::(32,.bool (decide (l < a)))::(31,.i l)::(30,.i a)::(29,.bool true)::D)
        refine oR 5 (atN 20 (ctl1 g97p5)) A ?_
        refine oS 34 (λu=>?_) (λu=>?_)
        ·refine oR 3 (atN 23 (ctl1 g97p5)) ((37,.i (fW .i64 (a - 1)))::(36,.i a)::(35,.str b)::(34,.bool true)::A) ?_
         refine oC (λ(g:Int)=>(.y g,(mkH []))) (atN 24 (ctl1 g97p5)) 38 (idxH Kr) λg G=>?_
         let E:Env:=((41,.bool (!decide (g=95)))::(40,.bool (!decide (g=95)))::(39,.bool (!decide (g=95)))::(38,.y g)::(37,.i (fW .i64 (a - 1)))::(36,.i a)::(35,.str b)::(34,.bool true)::A)
         refine oH 3 (atN 27 (ctl1 g97p5)) E (mkH []) ?_
         refine oS 41 (λu=>?_) (λu=>?_)
         ·let B:Env:=((48,.bool (decide (fW .i64 (a+1) < (b.length:Int))))::(47,.bool (decide (fW .i64 (a+1) < (b.length:Int))))::(46,.bool (decide (fW .i64 (a+1) < (b.length:Int))))::(45,.i (b.length:Int))::(44,.str b)::(43,.i (fW .i64 (a+1)))::(42,.i a)::(41,.bool true)::E)
          refine oR 7 (atN 34 (ctl1 g97p5)) B ?_
          refine oS 48 (λu=>?_) (λu=>?_)
          ·refine oR 3 (atN 37 (ctl1 g97p5)) ((51,.i (fW .i64 (a+1)))::(50,.i a)::(49,.str b)::(48,.bool true)::B) ?_
           refine oC (λ(j:Int)=>(.y j,(mkH []))) (atN 38 (ctl1 g97p5)) 52 (idxH Kr) λj I=>?_
           refine oH 1 (atN 39 (ctl1 g97p5)) ((53,.i m)::(52,.y j)::(51,.i (fW .i64 (a+1)))::(50,.i a)::(49,.str b)::(48,.bool true)::B) (mkH []) ?_
           refine oA (λ(o:Int) => .i o) (atN 40 (ctl1 g97p5)) 54 [.y j,.i m] (qFk k j m) λo J=>?_
           refine oL 5 g97p7 [(0,.str b),(1,.i l),(2,.i m),(3,.bool r),(9,.i a),(58,.bool (!(decide (0≤o))))] ?_
           exact x (!(decide (0≤o)),a)
          ·refine oL 11 g97p7 [(0,.str b),(1,.i l),(2,.i m),(3,.bool r),(9,.i a),(58,.bool true)] ?_
           exact x (true,a)
         ·refine oL 18 g97p7 [(0,.str b),(1,.i l),(2,.i m),(3,.bool r),(9,.i a),(58,.bool true)] ?_
          exact x (true,a)
        ·refine oL 25 g97p7 [(0,.str b),(1,.i l),(2,.i m),(3,.bool r),(9,.i a),(58,.bool true)] ?_
         exact x (true,a)
       ·refine oL 30 g97p7 [(0,.str b),(1,.i l),(2,.i m),(3,.bool r),(9,.i a),(58,.bool true)] ?_
        exact x (true,a)
      ·refine oL 36 g97p7 [(0,.str b),(1,.i l),(2,.i m),(3,.bool r),(9,.i a),(58,.bool true)] ?_
       exact x (true,a)
     ·refine oLH 38 g97p7 [(0,.str b),(1,.i l),(2,.i m),(3,.bool r),(9,.i a),(58,.bool false)] (mkH []) ?_
      exact x (false,a)
   ·refine oLH 3 g97p6 [(1,.i l),(9,.i a)] (mkH []) ?_
    exact C a
def g97 (k:Nat) (b:LN) (a:Int) (c:Int) (g:Bool):Option Int :=
 qNj k b a c g k a
theorem qEk (k:Nat) (b:LN) (a:Int) (c:Int) (g:Bool) (r:Int) (h:g97 k b a c g=some r):PureOk Tryz.prog 97 [.str b,.i a,.i c,.bool g] (.i r):=by
 refine qA5 Xg97 (λ_=>⟨rfl,rfl⟩) Tryz.func97 (by decide +kernel) Kr (t:=g97 k b a c g) ?_ h
 unfold g97
 refine qA1 (eE:=[(0,.str b),(1,.i a),(2,.i c),(3,.bool g)]) Kr ?_
 refine oLH 12 g97p2 [(0,.str b),(1,.i a),(2,.i c),(3,.bool g),(9,.i a)] (mkH []) ?_
 exact (qNi k b a c g k) a
def Xg74:Fx Int:=⟨Tryz.prog,cx,Tryz.f74,λr => .i r,0,λ_=>H0,cxTi,cxOrd,λ_=>none,false⟩
def g74p1:Pt:=nav [0,0,0] (nav [0] (bodyAt Tryz.f74))
def g74p2:Pt:=nav [0,0,0,0] g74p1
def g74p3:Pt:=nav [0,0] g74p2
def g74p5:Pt:=nav [2,0,0] g74p3
def g74p8:Pt:=nav [0,0] (nav [0,0,0,0] g74p5)
def g74p11:Pt:=nav [0,0,0,0] (nav [2,0,0] g74p8)
def g74p12:Pt:=nav [0,0] g74p11
def g74p14:Pt:=nav [2,0,0] g74p12
def g74p15:Pt:=nav [0,0,0,0] (nav [1,0] g74p12)
def g74p16:Pt:=nav [0,0] g74p15
def g74p18:Pt:=nav [2,0,0] g74p16
def g74 (k:Nat) (g:LN) (c:Int):Option Int :=
 (g97 k g c (10:Int) true).bind λa=>jn (λ(B:Bool)=>if B then (some (0:Int)) else ((g97 k g (fW .i64 (fW .i64 (c+a)+1)) (10:Int) true).bind λb=>if (decide (b=0)) then (some (0:Int)) else (jn (λ(C:Bool)=>jn (λ(D:Int)=>some (fW .i64 (D - c))) (λu=>if C then (jn (λ(E:Bool)=>jn (λ(n:Int)=>(g97 k g n (10:Int) true).bind λh=>if (decide (0 < h)) then (u (fW .i64 (n+h))) else (u (fW .i64 (fW .i64 (fW .i64 (c+a)+1)+b)))) (λo=>if E then (o (fW .i64 (fW .i64 (fW .i64 (fW .i64 (fW .i64 (c+a)+1)+b)+1)+1))) else (o (fW .i64 (fW .i64 (fW .i64 (fW .i64 (c+a)+1)+b)+1))))) (λx=>if (decide (fW .i64 (fW .i64 (fW .i64 (fW .i64 (c+a)+1)+b)+1) < (g.length:Int))) then ((nthS g (fW .i64 (fW .i64 (fW .i64 (fW .i64 (c+a)+1)+b)+1))).bind λq=>if (decide (q=43)) then (x true) else ((nthS g (fW .i64 (fW .i64 (fW .i64 (fW .i64 (c+a)+1)+b)+1))).bind λj=>x (decide (j=45)))) else (x false))) else (u (fW .i64 (fW .i64 (fW .i64 (c+a)+1)+b))))) (λz=>if (decide (fW .i64 (fW .i64 (fW .i64 (c+a)+1)+b) < (g.length:Int))) then ((nthS g (fW .i64 (fW .i64 (fW .i64 (c+a)+1)+b))).bind λr=>if (decide (r=101)) then (z true) else ((nthS g (fW .i64 (fW .i64 (fW .i64 (c+a)+1)+b))).bind λl=>z (decide (l=69)))) else (z false))))) (λA=>if (decide (fW .i64 (c+a)=c)) then (A true) else (if (decide ((g.length:Int)≤fW .i64 (c+a))) then (A true) else ((nthS g (fW .i64 (c+a))).bind λm=>A (!decide (m=46)))))
theorem g74_ok (k:Nat) (g:LN) (c:Int) (r:Int) (h:g74 k g c=some r):PureOk Tryz.prog 74 [.str g,.i c] (.i r):=by
 refine qA5 Xg74 (λ_=>⟨rfl,rfl⟩) Tryz.func74 (by decide +kernel) Kr (t:=g74 k g c) ?_ h
 unfold g74
 refine qA1 (eE:=[(0,.str g),(1,.i c)]) Kr ?_
 let E1:Env:=[(11,.i c),(10,.str g),(9,.i c),(4,.i 0),(0,.str g),(1,.i c)]
 refine oH 9 (atN 3 (ctl1 g74p1)) E1 (mkH []) ?_
 refine oA (λ(a:Int) => .i a) (atN 4 (ctl1 g74p1)) 12 [.str g,.i c,.i 10,.bool true] (qEk k g c (10:Int) true) λa Q=>?_
 let E2:Env:=((17,.bool (decide (fW .i64 (c+a)=c)))::(16,.bool (decide (fW .i64 (c+a)=c)))::(15,.i c)::(14,.i (fW .i64 (c+a)))::(5,.i (fW .i64 (c+a)))::(13,.i (fW .i64 (c+a)))::(12,.i a)::E1)
 refine oR 10 (atN 4 (ctl1 g74p2)) E2 ?_
 refine oJ g74p3 (λ(K:Bool)=>[(0,.str g),(1,.i c),(5,.i (fW .i64 (c+a))),(28,.bool K)]) (λ(K:Bool)=>(mkH [])) (λK=>?_) (λj6 A=>?_)
 ·refine oS 28 (λl=>?_) (λl=>?_)
  ·exact oQ 6
  ·refine oH 7 (atN 3 (ctl1 g74p5)) [(31,.i (fW .i64 (fW .i64 (c+a)+1))),(30,.i (fW .i64 (c+a))),(29,.str g),(28,.bool false),(0,.str g),(1,.i c),(5,.i (fW .i64 (c+a))),(28,.bool K)] (mkH []) ?_
   refine oA (λ(b:Int) => .i b) (atN 4 (ctl1 g74p5)) 32 [.str g,.i (fW .i64 (fW .i64 (c+a)+1)),.i 10,.bool true] (qEk k g (fW .i64 (fW .i64 (c+a)+1)) (10:Int) true) λb S=>?_
   refine oL 8 g74p8 [(0,.str g),(1,.i c),(5,.i (fW .i64 (c+a))),(6,.i b),(34,.bool (decide (b=0)))] ?_
   refine oS 34 (λl=>?_) (λl=>?_)
   ·exact oQ 6
   ·let E7:Env:=[(0,.str g),(1,.i c),(5,.i (fW .i64 (fW .i64 (fW .i64 (c+a)+1)+b)))]
    refine oL 12 g74p11 E7 ?_
    let T:Env:=((43,.bool (decide (fW .i64 (fW .i64 (fW .i64 (c+a)+1)+b) < (g.length:Int))))::(42,.bool (decide (fW .i64 (fW .i64 (fW .i64 (c+a)+1)+b) < (g.length:Int))))::(41,.i (g.length:Int))::(40,.str g)::(39,.i (fW .i64 (fW .i64 (fW .i64 (c+a)+1)+b)))::E7)
    refine oR 6 (atN 5 (ctl1 g74p11)) T ?_
    refine oJ g74p12 (λ(L:Bool)=>[(0,.str g),(1,.i c),(5,.i (fW .i64 (fW .i64 (fW .i64 (c+a)+1)+b))),(54,.bool L)]) (λ(L:Bool)=>(mkH [])) (λL=>?_) (λj7 B=>?_)
    ·refine oJ g74p14 (λ(U:Int)=>[(1,.i c),(5,.i U)]) (λ(U:Int)=>(mkH [])) (λU=>?_) (λj9 C=>?_)
     ·exact oQ 7
     ·refine oS 54 (λl=>?_) (λl=>?_)
      ·let D:Env:=[(61,.bool (decide (fW .i64 (fW .i64 (fW .i64 (fW .i64 (c+a)+1)+b)+1) < (g.length:Int)))),(60,.bool (decide (fW .i64 (fW .i64 (fW .i64 (fW .i64 (c+a)+1)+b)+1) < (g.length:Int)))),(59,.i (g.length:Int)),(58,.str g),(57,.i (fW .i64 (fW .i64 (fW .i64 (fW .i64 (c+a)+1)+b)+1))),(7,.i (fW .i64 (fW .i64 (fW .i64 (fW .i64 (c+a)+1)+b)+1))),(56,.i (fW .i64 (fW .i64 (fW .i64 (fW .i64 (c+a)+1)+b)+1))),(55,.i (fW .i64 (fW .i64 (fW .i64 (c+a)+1)+b))),(54,.bool true),(0,.str g),(1,.i c),(5,.i (fW .i64 (fW .i64 (fW .i64 (c+a)+1)+b))),(54,.bool L)]
       refine oH 15 (atN 5 (ctl1 g74p15)) D (mkH []) ?_
       refine oJ g74p16 (λ(V:Bool)=>[(0,.str g),(1,.i c),(5,.i (fW .i64 (fW .i64 (fW .i64 (c+a)+1)+b))),(7,.i (fW .i64 (fW .i64 (fW .i64 (fW .i64 (c+a)+1)+b)+1))),(72,.bool V)]) (λ(V:Bool)=>(mkH [])) (λV=>?_) (λj8 E=>?_)
       ·refine oJ g74p18 (λ(m:Int)=>[(0,.str g),(1,.i c),(5,.i (fW .i64 (fW .i64 (fW .i64 (c+a)+1)+b))),(7,.i m)]) (λ(m:Int)=>(mkH [])) (λm=>?_) (λa5 z=>?_)
        ·let G:Env:=[(76,.i m),(75,.str g),(0,.str g),(1,.i c),(5,.i (fW .i64 (fW .i64 (fW .i64 (c+a)+1)+b))),(7,.i m)]
         refine oH 3 (atN 2 (ctl1 g74p18)) G (mkH []) ?_
         refine oA (λ(j:Int) => .i j) (atN 3 (ctl1 g74p18)) 77 [.str g,.i m,.i 10,.bool true] (qEk k g m (10:Int) true) λj W=>?_
         refine oR 7 (nav [0,0] (nav [0,0,0] g74p18)) ((79,.bool (decide (0 < j)))::(78,.i j)::(8,.i j)::(77,.i j)::G) ?_
         refine oS 79 (λl=>?_) (λl=>?_)
         ·refine oL 8 g74p14 [(1,.i c),(5,.i (fW .i64 (m+j)))] ?_
          exact C (fW .i64 (m+j))
         ·refine oL 3 g74p14 [(1,.i c),(5,.i (fW .i64 (fW .i64 (fW .i64 (c+a)+1)+b)))] ?_
          exact C (fW .i64 (fW .i64 (fW .i64 (c+a)+1)+b))
        ·refine oS 72 (λl=>?_) (λl=>?_)
         ·refine oLH 7 g74p18 [(0,.str g),(1,.i c),(5,.i (fW .i64 (fW .i64 (fW .i64 (c+a)+1)+b))),(7,.i (fW .i64 (fW .i64 (fW .i64 (fW .i64 (fW .i64 (c+a)+1)+b)+1)+1)))] (mkH []) ?_
          exact z (fW .i64 (fW .i64 (fW .i64 (fW .i64 (fW .i64 (c+a)+1)+b)+1)+1))
         ·refine oLH 3 g74p18 [(0,.str g),(1,.i c),(5,.i (fW .i64 (fW .i64 (fW .i64 (c+a)+1)+b))),(7,.i (fW .i64 (fW .i64 (fW .i64 (fW .i64 (c+a)+1)+b)+1)))] (mkH []) ?_
          exact z (fW .i64 (fW .i64 (fW .i64 (fW .i64 (c+a)+1)+b)+1))
       ·refine oS 61 (λl=>?_) (λl=>?_)
        ·refine oH 2 (atN 7 (ctl1 g74p15)) ((63,.i (fW .i64 (fW .i64 (fW .i64 (fW .i64 (c+a)+1)+b)+1)))::(62,.str g)::(61,.bool true)::D) (mkH []) ?_
         refine oC (λ(u:Int)=>(.y u,(mkH []))) (atN 8 (ctl1 g74p15)) 64 (idxH Kr) λu Y=>?_
         let F:Env:=((66,.bool (decide (u=43)))::(65,.bool (decide (u=43)))::(64,.y u)::(63,.i (fW .i64 (fW .i64 (fW .i64 (fW .i64 (c+a)+1)+b)+1)))::(62,.str g)::(61,.bool true)::D)
         refine oH 2 (atN 10 (ctl1 g74p15)) F (mkH []) ?_
         refine oS 66 (λl=>?_) (λl=>?_)
         ·refine oR 7 g74p16 ((72,.bool true)::(71,.bool true)::(70,.tuple [])::(69,.tuple [])::(68,.tuple [])::(67,.tuple [])::(66,.bool true)::F) ?_
          refine oK [0,1,5,7,72] [(0,.str g),(1,.i c),(5,.i (fW .i64 (fW .i64 (fW .i64 (c+a)+1)+b))),(7,.i (fW .i64 (fW .i64 (fW .i64 (fW .i64 (c+a)+1)+b)+1))),(72,.bool true)] ?_
          exact E true
         ·refine oR 2 (atN 12 (ctl1 g74p15)) ((68,.i (fW .i64 (fW .i64 (fW .i64 (fW .i64 (c+a)+1)+b)+1)))::(67,.str g)::(66,.bool false)::F) ?_
          refine oC (λ(n:Int)=>(.y n,(mkH []))) (atN 13 (ctl1 g74p15)) 69 (idxH Kr) λn M=>?_
          refine oLH 4 g74p16 [(0,.str g),(1,.i c),(5,.i (fW .i64 (fW .i64 (fW .i64 (c+a)+1)+b))),(7,.i (fW .i64 (fW .i64 (fW .i64 (fW .i64 (c+a)+1)+b)+1))),(72,.bool (decide (n=45)))] (mkH []) ?_
          exact E (decide (n=45))
        ·refine oLH 12 g74p16 [(0,.str g),(1,.i c),(5,.i (fW .i64 (fW .i64 (fW .i64 (c+a)+1)+b))),(7,.i (fW .i64 (fW .i64 (fW .i64 (fW .i64 (c+a)+1)+b)+1))),(72,.bool false)] (mkH []) ?_
         exact E false
      ·refine oLH 3 g74p14 [(1,.i c),(5,.i (fW .i64 (fW .i64 (fW .i64 (c+a)+1)+b)))] (mkH []) ?_
       exact C (fW .i64 (fW .i64 (fW .i64 (c+a)+1)+b))
    ·refine oS 43 (λl=>?_) (λl=>?_)
     ·refine oH 2 (atN 7 (ctl1 g74p11)) ((45,.i (fW .i64 (fW .i64 (fW .i64 (c+a)+1)+b)))::(44,.str g)::(43,.bool true)::T) (mkH []) ?_
      refine oC (λ(x:Int)=>(.y x,(mkH []))) (atN 8 (ctl1 g74p11)) 46 (idxH Kr) λx Z=>?_
      let I:Env:=((48,.bool (decide (x=101)))::(47,.bool (decide (x=101)))::(46,.y x)::(45,.i (fW .i64 (fW .i64 (fW .i64 (c+a)+1)+b)))::(44,.str g)::(43,.bool true)::T)
      refine oH 2 (atN 10 (ctl1 g74p11)) I (mkH []) ?_
      refine oS 48 (λl=>?_) (λl=>?_)
      ·refine oL 7 g74p12 [(0,.str g),(1,.i c),(5,.i (fW .i64 (fW .i64 (fW .i64 (c+a)+1)+b))),(54,.bool true)] ?_
       exact B true
      ·refine oR 2 (atN 12 (ctl1 g74p11)) ((50,.i (fW .i64 (fW .i64 (fW .i64 (c+a)+1)+b)))::(49,.str g)::(48,.bool false)::I) ?_
       refine oC (λ(o:Int)=>(.y o,(mkH []))) (atN 13 (ctl1 g74p11)) 51 (idxH Kr) λo N=>?_
       refine oLH 4 g74p12 [(0,.str g),(1,.i c),(5,.i (fW .i64 (fW .i64 (fW .i64 (c+a)+1)+b))),(54,.bool (decide (o=69)))] (mkH []) ?_
       exact B (decide (o=69))
     ·refine oLH 12 g74p12 [(0,.str g),(1,.i c),(5,.i (fW .i64 (fW .i64 (fW .i64 (c+a)+1)+b))),(54,.bool false)] (mkH []) ?_
      exact B false
 ·refine oS 17 (λl=>?_) (λl=>?_)
  ·refine oLH 12 g74p3 [(0,.str g),(1,.i c),(5,.i (fW .i64 (c+a))),(28,.bool true)] (mkH []) ?_
   exact A true
  ·let J:Env:=((23,.bool (decide ((g.length:Int)≤fW .i64 (c+a))))::(22,.bool (decide ((g.length:Int)≤fW .i64 (c+a))))::(21,.bool (decide ((g.length:Int)≤fW .i64 (c+a))))::(20,.i (g.length:Int))::(19,.str g)::(18,.i (fW .i64 (c+a)))::(17,.bool false)::E2)
   refine oH 6 (atN 10 (ctl1 g74p2)) J (mkH []) ?_
   refine oS 23 (λl=>?_) (λl=>?_)
   ·refine oL 6 g74p3 [(0,.str g),(1,.i c),(5,.i (fW .i64 (c+a))),(28,.bool true)] ?_
    exact A true
   ·refine oR 2 (atN 12 (ctl1 g74p2)) ((25,.i (fW .i64 (c+a)))::(24,.str g)::(23,.bool false)::J) ?_
    refine oC (λ(q:Int)=>(.y q,(mkH []))) (atN 13 (ctl1 g74p2)) 26 (idxH Kr) λq O=>?_
    refine oLH 3 g74p3 [(0,.str g),(1,.i c),(5,.i (fW .i64 (c+a))),(28,.bool (!decide (q=46)))] (mkH []) ?_
    exact A (!decide (q=46))
def Xg75:Fx Int:=⟨Tryz.prog,cx,Tryz.f75,λr => .i r,0,λ_=>H0,cxTi,cxOrd,λ_=>none,false⟩
def g75p1:Pt:=nav [0,0,0] (nav [0] (bodyAt Tryz.f75))
def g75p2:Pt:=nav [0,0,0] g75p1
def g75p3:Pt:=nav [0,0,0,0] g75p2
def g75p4:Pt:=nav [0,0] g75p3
def g75p6:Pt:=nav [2,0,0] g75p4
def g75p9:Pt:=nav [0,0,0,0] (nav [0,0,0,0] (nav [1,0] g75p4))
def g75p11:Pt:=nav [0,0] (nav [0,0,0] g75p9)
def g75p12:Pt:=nav [1,0,0,0] g75p11
def g75p13:Pt:=nav [2,0,0] g75p11
def g75p15:Pt:=nav [0,0,0] g75p13
def g75p16:Pt:=nav [0,0] g75p15
def qHz (k:Nat) (o:Unit→Option Int) (l:LN) (m:Int) (n:Int) (b:Int) (ih:Int→Int→Option Int):Int→Int→Option Int :=
 λ(a:Int) (c:Int)=>if (decide (c < fW .i64 (m+b))) then ((nthS l c).bind λh=>ih (fW .i64 (fW .i64 (a * 10)+fW .i64 (fW .u8 (h - 48)))) (fW .i64 (c+1))) else ((g97 k l (fW .i64 (fW .i64 (m+b)+1)) a true).bind λg=>jn (λ(q:Bool)=>if q then (some (fW .i64 (fW .i64 (b+1)+g))) else (o ())) (λj=>if (decide (2≤a)) then (if (decide (a≤36)) then (j (decide (0 < g))) else (j false)) else (j false)))
def qNn (k:Nat) (c:Unit→Option Int) (g:LN) (h:Int) (a:Int) (b:Int) (n:Nat):Int→Int→Option Int:=lp (λ_ _=>none) (qHz k c g h a b) n
theorem qNm (k:Nat)  (x:Unit→Option Int) (m:LN) (l:Int) (g:Int) (b:Int) (z:∀ u:Unit,Ok Xg75 g75p6 ((λ(u:Unit)=>[(5,.i g)]) u) ((λ(u:Unit)=>(mkH [])) u) (x u)):∀ (n:Nat) (a:Int) (c:Int),Ok Xg75 g75p9 [(0,.str m),(1,.i l),(5,.i g),(6,.i b),(7,.i a),(8,.i c)] (mkH []) (qNn k x m l g b n a c):=by
 intro n
 induction n with
 | zero=>intro a c; exact ok_none
 | succ n ih =>
  intro a c
  show Ok _ _ _ _ (qHz k x m l g b (qNn k x m l g b n) a c)
  unfold qHz
  refine qAd (p':=nav [0] g75p9) Kr ?_
  let A:Env:=[(43,.bool (decide (c < fW .i64 (l+b)))),(42,.i (fW .i64 (l+b))),(41,.i b),(40,.i l),(39,.i c),(0,.str m),(1,.i l),(5,.i g),(6,.i b),(7,.i a),(8,.i c)]
  refine oH 9 g75p11 A (mkH []) ?_
  refine oS 43 (λo=>?_) (λo=>?_)
  ·refine oR 9 (atN 4 (ctl1 g75p12)) ((49,.i c)::(48,.str m)::(47,.i (fW .i64 (a * 10)))::(46,.i a)::(43,.bool true)::A) ?_
   refine oC (λ(j:Int)=>(.y j,(mkH []))) (atN 5 (ctl1 g75p12)) 50 (idxH Kr) λj B=>?_
   let E:Env:=[(0,.str m),(1,.i l),(5,.i g),(6,.i b),(7,.i (fW .i64 (fW .i64 (a * 10)+fW .i64 (fW .u8 (j - 48))))),(8,.i c)]
   refine oLH 5 (nav [0,0] g75p12) E (mkH []) ?_
   refine oR 5 g75p9 ((8,.i (fW .i64 (c+1)))::(45,.i (fW .i64 (c+1)))::(44,.i c)::E) ?_
   refine oK [0,1,5,6,7,8] [(0,.str m),(1,.i l),(5,.i g),(6,.i b),(7,.i (fW .i64 (fW .i64 (a * 10)+fW .i64 (fW .u8 (j - 48))))),(8,.i (fW .i64 (c+1)))] ?_
   exact ih (fW .i64 (fW .i64 (a * 10)+fW .i64 (fW .u8 (j - 48)))) (fW .i64 (c+1))
  ·refine oR 10 (atN 6 (ctl1 g75p13)) ((59,.i a)::(58,.i (fW .i64 (fW .i64 (l+b)+1)))::(57,.i (fW .i64 (l+b)))::(56,.i b)::(55,.i l)::(54,.str m)::(43,.bool false)::A) ?_
   refine oA (λ(h:Int) => .i h) (atN 7 (ctl1 g75p13)) 60 [.str m,.i (fW .i64 (fW .i64 (l+b)+1)),.i a,.bool true] (qEk k m (fW .i64 (fW .i64 (l+b)+1)) a true) λh C=>?_
   let q:Env:=[(5,.i g),(6,.i b),(7,.i a),(9,.i h)]
   refine oL 3 g75p15 q ?_
   refine oR 4 (atN 3 (ctl1 g75p15)) ((63,.bool (decide (2≤a)))::(62,.bool (decide (2≤a)))::(61,.i a)::q) ?_
   refine oJ g75p16 (λ(D:Bool)=>[(5,.i g),(6,.i b),(9,.i h),(70,.bool D)]) (λ(D:Bool)=>(mkH [])) (λD=>?_) (λF r=>?_)
   ·refine oS 70 (λo=>?_) (λo=>?_)
    ·exact oQ 10
    ·refine oLH 3 g75p6 [(5,.i g)] (mkH []) ?_
     exact z ()
   ·refine oS 63 (λo=>?_) (λo=>?_)
    ·refine oH 4 (atN 7 (ctl1 g75p15)) ((67,.bool (decide (a≤36)))::(66,.bool (decide (a≤36)))::(65,.bool (decide (a≤36)))::(64,.i a)::(63,.bool true)::(63,.bool (decide (2≤a)))::(62,.bool (decide (2≤a)))::(61,.i a)::q) (mkH []) ?_
     refine oS 67 (λo=>?_) (λo=>?_)
     ·refine oL 4 g75p16 [(5,.i g),(6,.i b),(9,.i h),(70,.bool (decide (0 < h)))] ?_
      exact r (decide (0 < h))
     ·refine oL 4 g75p16 [(5,.i g),(6,.i b),(9,.i h),(70,.bool false)] ?_
      exact r false
    ·refine oLH 8 g75p16 [(5,.i g),(6,.i b),(9,.i h),(70,.bool false)] (mkH []) ?_
     exact r false
def g75 (k:Nat) (h:LN) (g:Int):Option Int :=
 (g97 k h g (10:Int) true).bind λb=>(g97 k h g (10:Int) false).bind λa=>jn (λ(m:Bool)=>jn (λ(n:Unit)=>some b) (λl=>if m then (qNn k l h g b a k 0 g) else (l ()))) (λj=>if (decide (0 < a)) then (if (decide (a < 3)) then (if (decide (fW .i64 (g+a) < (h.length:Int))) then ((nthS h (fW .i64 (g+a))).bind λc=>j (decide (c=35))) else (j false)) else (j false)) else (j false))
theorem g75_ok (k:Nat) (g:LN) (c:Int) (r:Int) (h:g75 k g c=some r):PureOk Tryz.prog 75 [.str g,.i c] (.i r):=by
 refine qA5 Xg75 (λ_=>⟨rfl,rfl⟩) Tryz.func75 (by decide +kernel) Kr (t:=g75 k g c) ?_ h
 unfold g75
 refine qA1 (eE:=[(0,.str g),(1,.i c)]) Kr ?_
 let C:Env:=[(11,.i c),(10,.str g),(4,.i 0),(0,.str g),(1,.i c)]
 refine oH 8 (atN 2 (ctl1 g75p1)) C (mkH []) ?_
 refine oA (λ(b:Int) => .i b) (atN 3 (ctl1 g75p1)) 12 [.str g,.i c,.i 10,.bool true] (qEk k g c (10:Int) true) λb x=>?_
 refine oR 6 (atN 2 (ctl1 g75p2)) ((14,.i c)::(13,.str g)::(5,.i b)::(12,.i b)::C) ?_
 refine oA (λ(a:Int) => .i a) (atN 3 (ctl1 g75p2)) 15 [.str g,.i c,.i 10,.bool false] (qEk k g c (10:Int) false) λa z=>?_
 let A:Env:=[(0,.str g),(1,.i c),(5,.i b),(6,.i a)]
 refine oL 4 g75p3 A ?_
 refine oR 4 (atN 3 (ctl1 g75p3)) ((18,.bool (decide (0 < a)))::(17,.bool (decide (0 < a)))::(16,.i a)::A) ?_
 refine oJ g75p4 (λ(B:Bool)=>[(0,.str g),(1,.i c),(5,.i b),(6,.i a),(37,.bool B)]) (λ(B:Bool)=>(mkH [])) (λB=>?_) (λF l=>?_)
 ·refine oJ g75p6 (λ(D:Unit)=>[(5,.i b)]) (λ(D:Unit)=>(mkH [])) (λD=>?_) (λE n=>?_)
  ·exact oQ 5
  ·refine oS 37 (λm=>?_) (λm=>?_)
   ·refine oLH 13 g75p9 [(0,.str g),(1,.i c),(5,.i b),(6,.i a),(7,.i 0),(8,.i c)] (mkH []) ?_
    exact (qNm k E g c b a n k) 0 c
   ·refine oLH 3 g75p6 [(5,.i b)] (mkH []) ?_
    exact n ()
 ·refine oS 18 (λm=>?_) (λm=>?_)
  ·let o:Env:=((22,.bool (decide (a < 3)))::(21,.bool (decide (a < 3)))::(20,.bool (decide (a < 3)))::(19,.i a)::(18,.bool true)::(18,.bool (decide (0 < a)))::(17,.bool (decide (0 < a)))::(16,.i a)::A)
   refine oH 4 (atN 7 (ctl1 g75p3)) o (mkH []) ?_
   refine oS 22 (λm=>?_) (λm=>?_)
   ·let q:Env:=((30,.bool (decide (fW .i64 (c+a) < (g.length:Int))))::(29,.bool (decide (fW .i64 (c+a) < (g.length:Int))))::(28,.bool (decide (fW .i64 (c+a) < (g.length:Int))))::(27,.i (g.length:Int))::(26,.str g)::(25,.i (fW .i64 (c+a)))::(24,.i a)::(23,.i c)::(22,.bool true)::o)
    refine oR 8 (atN 15 (ctl1 g75p3)) q ?_
    refine oS 30 (λm=>?_) (λm=>?_)
    ·refine oR 4 (atN 19 (ctl1 g75p3)) ((34,.i (fW .i64 (c+a)))::(33,.i a)::(32,.i c)::(31,.str g)::(30,.bool true)::q) ?_
     refine oC (λ(j:Int)=>(.y j,(mkH []))) (atN 20 (ctl1 g75p3)) 35 (idxH Kr) λj u=>?_
     refine oLH 3 g75p4 [(0,.str g),(1,.i c),(5,.i b),(6,.i a),(37,.bool (decide (j=35)))] (mkH []) ?_
     exact l (decide (j=35))
    ·refine oL 8 g75p4 [(0,.str g),(1,.i c),(5,.i b),(6,.i a),(37,.bool false)] ?_
     exact l false
   ·refine oL 16 g75p4 [(0,.str g),(1,.i c),(5,.i b),(6,.i a),(37,.bool false)] ?_
    exact l false
  ·refine oLH 20 g75p4 [(0,.str g),(1,.i c),(5,.i b),(6,.i a),(37,.bool false)] (mkH []) ?_
   exact l false
def Xg44:Fx Bool:=⟨Tryz.prog,cx,Tryz.f44,λr => .bool r,0,λ_=>H0,cxTi,cxOrd,λ_=>none,false⟩
def g44p1:Pt:=nav [0,0,0] (nav [0] (bodyAt Tryz.f44))
def g44 (k:Nat) (a:Int):Option Bool :=
 if (decide (97≤a)) then (if (decide (a≤122)) then (some true) else (if (decide (65≤a)) then (some (decide (a≤90))) else (some false))) else (if (decide (65≤a)) then (some (decide (a≤90))) else (some false))
theorem g44_ok (k:Nat) (a:Int) (r:Bool) (h:g44 k a=some r):PureOk Tryz.prog 44 [.y a] (.bool r):=by
 refine qA5 Xg44 (λ_=>⟨rfl,rfl⟩) Tryz.func44 (by decide +kernel) Kr (t:=g44 k a) ?_ h
 unfold g44
 refine qA1 (eE:=[(0,.y a)]) Kr ?_
 let c:Env:=[(5,.bool (decide (97≤a))),(4,.bool (decide (97≤a))),(3,.y a),(2,.bool false),(0,.y a)]
 refine oH 9 (atN 3 (ctl1 g44p1)) c (mkH []) ?_
 refine oS 5 (λb=>?_) (λb=>?_)
 ·let g:Env:=((9,.bool (decide (a≤122)))::(8,.bool (decide (a≤122)))::(7,.bool (decide (a≤122)))::(6,.y a)::(5,.bool true)::c)
  refine oR 4 (atN 7 (ctl1 g44p1)) g ?_
  refine oS 9 (λb=>?_) (λb=>?_)
  ·exact oQ 10
  ·refine oR 3 (atN 10 (ctl1 g44p1)) ((12,.bool (decide (65≤a)))::(11,.bool (decide (65≤a)))::(10,.y a)::(9,.bool false)::g) ?_
   refine oS 12 (λb=>?_) (λb=>?_)
   ·exact oQ 7
   ·exact oQ 7
 ·refine oR 7 (atN 10 (ctl1 g44p1)) ((12,.bool (decide (65≤a)))::(11,.bool (decide (65≤a)))::(10,.y a)::(9,.bool false)::(8,.bool false)::(7,.tuple [])::(6,.tuple [])::(5,.bool false)::c) ?_
  refine oS 12 (λb=>?_) (λb=>?_)
  ·exact oQ 7
  ·exact oQ 7
def Xg76:Fx Bool:=⟨Tryz.prog,cx,Tryz.f76,λr => .bool r,0,λ_=>H0,cxTi,cxOrd,λ_=>none,false⟩
def g76p1:Pt:=nav [0,0,0] (nav [0] (bodyAt Tryz.f76))
def g76 (k:Nat) (c:Int):Option Bool :=
 (g44 k c).bind λa=>if a then (some true) else ((g73 k c).bind λb=>if b then (some true) else (if (decide (c=95)) then (some true) else (some (decide (c=64)))))
theorem g76_ok (k:Nat) (a:Int) (r:Bool) (h:g76 k a=some r):PureOk Tryz.prog 76 [.y a] (.bool r):=by
 refine qA5 Xg76 (λ_=>⟨rfl,rfl⟩) Tryz.func76 (by decide +kernel) Kr (t:=g76 k a) ?_ h
 unfold g76
 refine qA1 (eE:=[(0,.y a)]) Kr ?_
 refine oH 7 (atN 1 (ctl1 g76p1)) [(3,.y a),(2,.bool false),(0,.y a)] (mkH []) ?_
 refine oA (λ(c:Bool) => .bool c) (atN 2 (ctl1 g76p1)) 4 [.y a] (g44_ok k a) λc j=>?_
 let l:Env:=[(5,.bool c),(4,.bool c),(3,.y a),(2,.bool false),(0,.y a)]
 refine oR 1 (atN 3 (ctl1 g76p1)) l ?_
 refine oS 5 (λg=>?_) (λg=>?_)
 ·exact oQ 14
 ·refine oR 1 (atN 4 (ctl1 g76p1)) ((6,.y a)::(5,.bool false)::l) ?_
  refine oA (λ(b:Bool) => .bool b) (atN 5 (ctl1 g76p1)) 7 [.y a] (qNo k a) λb m=>?_
  let n:Env:=((9,.bool b)::(8,.bool b)::(7,.bool b)::(6,.y a)::(5,.bool false)::l)
  refine oR 2 (atN 7 (ctl1 g76p1)) n ?_
  refine oS 9 (λg=>?_) (λg=>?_)
  ·exact oQ 10
  ·refine oR 4 (atN 11 (ctl1 g76p1)) ((13,.bool (decide (a=95)))::(12,.bool (decide (a=95)))::(11,.bool (decide (a=95)))::(10,.y a)::(9,.bool false)::n) ?_
   refine oS 13 (λg=>?_) (λg=>?_)
   ·exact oQ 6
   ·exact oQ 6
def Xg39:Fx (S43×Int):=⟨Tryz.prog,cx,Tryz.f39,λr => .tuple [.agg [.i r.1.f0,.str r.1.f1,.i r.1.f2],.i r.2],0,λ_=>H0,cxTi,cxOrd,λ_=>none,false⟩
def g39p1:Pt:=nav [0,0,0] (nav [0] (bodyAt Tryz.f39))
def g39p3:Pt:=nav [0,0] (nav [0,0,0,0] g39p1)
def g39p4:Pt:=nav [1] g39p3
def g39p5:Pt:=nav [2,0,0] g39p3
def g39p6:Pt:=nav [0,0,0,0] g39p5
def g39p7:Pt:=nav [0,0] g39p6
def g39p9:Pt:=nav [2,0,0,0] g39p7
def g39p11:Pt:=nav [0,0] g39p9
def g39p13:Pt:=nav [2,0,0] g39p11
def g39p15:Pt:=nav [0,0,0,0] (nav [0,0,0,0] (nav [1,0] g39p11))
def g39p17:Pt:=nav [0,0] (nav [0,0,0] g39p15)
def g39p18:Pt:=nav [1,0,0,0] g39p17
def g39p20:Pt:=nav [0,0] g39p18
def qI9 (k:Nat) (j:Unit→Option (S43×Int)) (l:LN) (m:Int) (n:Int×Int) (ih:Bool→Int→Option (S43×Int)):Bool→Int→Option (S43×Int) :=
 λ(b:Bool) (a:Int)=>if (decide (a < fW .i64 (m+n.2))) then (jn (λ(c:Bool×Int)=>ih c.1 (fW .i64 (c.2+1))) (λg=>if b then (g (true,a)) else ((nthS l a).bind λh=>g (decide (h=35),a)))) else (if (!b) then (some ((⟨(0:Int),([]:LN),(0:Int)⟩:S43),(4:Int))) else (j ()))
def qO8 (k:Nat) (a:Unit→Option (S43×Int)) (b:LN) (c:Int) (g:Int×Int) (n:Nat):Bool→Int→Option (S43×Int):=lp (λ_ _=>none) (qI9 k a b c g) n
theorem qO7 (k:Nat)  (o:Unit→Option (S43×Int)) (l:LN) (c:Int) (g:Int×Int) (u:∀ m:Unit,Ok Xg39 g39p13 ((λ(m:Unit)=>[(0,.str l),(1,.i c),(4,.ptr 0 3 0),(6,.i g.1),(8,.i (fW .i64 (c+g.2)))]) m) ((λ(m:Unit)=>(mkH [⟨[.i 0,.str [],.i 0],0,false⟩])) m) (o m)):∀ (n:Nat) (a:Bool) (b:Int),Ok Xg39 g39p15 [(0,.str l),(1,.i c),(4,.ptr 0 3 0),(6,.i g.1),(8,.i (fW .i64 (c+g.2))),(9,.bool a),(10,.i b)] (mkH [⟨[.i 0,.str [],.i 0],0,false⟩]) (qO8 k o l c g n a b):=by
 intro n
 induction n with
 | zero=>intro a b; exact ok_none
 | succ n ih =>
  intro a b
  show Ok _ _ _ _ (qI9 k o l c g (qO8 k o l c g n) a b)
  unfold qI9
  refine qAd (p':=nav [0] g39p15) Kr ?_
  let x:Env:=[(54,.bool (decide (b < fW .i64 (c+g.2)))),(53,.i (fW .i64 (c+g.2))),(52,.i b),(0,.str l),(1,.i c),(4,.ptr 0 3 0),(6,.i g.1),(8,.i (fW .i64 (c+g.2))),(9,.bool a),(10,.i b)]
  let r:Blk:=⟨[.i 0,.str [],.i 0],0,false⟩
  refine oH 7 g39p17 x (mkH [r]) ?_
  refine oS 54 (λz=>?_) (λz=>?_)
  ·refine oR 7 (atN 2 (ctl1 g39p18)) ((58,.bool a)::(57,.bool a)::(54,.bool true)::x) ?_
   refine oJ g39p20 (λ(h:Bool×Int)=>[(0,.str l),(1,.i c),(4,.ptr 0 3 0),(6,.i g.1),(8,.i (fW .i64 (c+g.2))),(9,.bool h.1),(10,.i h.2)]) (λ(h:Bool×Int)=>(mkH [r])) (λh=>?_) (λB q=>?_)
   ·refine oLH 5 g39p15 [(0,.str l),(1,.i c),(4,.ptr 0 3 0),(6,.i g.1),(8,.i (fW .i64 (c+g.2))),(9,.bool h.1),(10,.i (fW .i64 (h.2+1)))] (mkH [r]) ?_
    exact ih h.1 (fW .i64 (h.2+1))
   ·refine oS 58 (λz=>?_) (λz=>?_)
    ·refine oLH 7 g39p20 [(0,.str l),(1,.i c),(4,.ptr 0 3 0),(6,.i g.1),(8,.i (fW .i64 (c+g.2))),(9,.bool true),(10,.i b)] (mkH [r]) ?_
     exact q (true,b)
    ·refine oH 2 (atN 4 (ctl1 g39p18)) ((60,.i b)::(59,.str l)::(58,.bool false)::(58,.bool a)::(57,.bool a)::(54,.bool true)::x) (mkH [r]) ?_
     refine oC (λ(j:Int)=>(.y j,(mkH [r]))) (atN 5 (ctl1 g39p18)) 61 (idxH Kr) λj A=>?_
     refine oLH 4 g39p20 [(0,.str l),(1,.i c),(4,.ptr 0 3 0),(6,.i g.1),(8,.i (fW .i64 (c+g.2))),(9,.bool (decide (j=35))),(10,.i b)] (mkH [r]) ?_
     exact q (decide (j=35),b)
  ·refine oR 7 (nav [0,0] (nav [2,0,0] g39p17)) ((65,.bool (!a))::(64,.bool a)::(54,.bool false)::x) ?_
   refine oK [0,1,4,6,8,65] [(0,.str l),(1,.i c),(4,.ptr 0 3 0),(6,.i g.1),(8,.i (fW .i64 (c+g.2))),(65,.bool (!a))] ?_
   refine oS 65 (λz=>?_) (λz=>?_)
   ·exact oQ 8
   ·refine oR 3 g39p13 ((65,.bool false)::(keepOnly ((65,.bool (!a))::(64,.bool a)::(54,.bool false)::x) [0,1,4,6,8,65])) ?_
    refine oK [0,1,4,6,8] [(0,.str l),(1,.i c),(4,.ptr 0 3 0),(6,.i g.1),(8,.i (fW .i64 (c+g.2)))] ?_
    exact u ()
def g39 (k:Nat) (c:LN) (a:Int):Option (S43×Int) :=
 (g74 k c a).bind λg=>jn (λ(b:Int×Int)=>jn (λ(x:Bool)=>if x then (some ((⟨(0:Int),([]:LN),(0:Int)⟩:S43),(4:Int))) else (jn (λ(z:Bool)=>jn (λ(A:Unit)=>(subL c (some a) (some (fW .i64 (a+b.2)))).bind λm=>some ((⟨b.1,m,a⟩:S43),(0:Int))) (λn=>if z then (qO8 k n c a b k false a) else (n ()))) (λq=>if (decide (b.1=3)) then (if (decide (fW .i64 (a+b.2) < (c.length:Int))) then ((nthS c (fW .i64 (a+b.2))).bind λh=>q (decide (h=35))) else (q false)) else (q false)))) (λr=>if (decide (b.2=0)) then (r true) else (if (decide (fW .i64 (a+b.2) < (c.length:Int))) then ((nthS c (fW .i64 (a+b.2))).bind λj=>(g76 k j).bind λl=>r l) else (r false)))) (λu=>if (decide (g=0)) then ((g75 k c a).bind λo=>u (3,o)) else (u (4,g)))
theorem g39_ok (k:Nat) (c:LN) (a:Int) (r:(S43×Int)) (h:g39 k c a=some r):PureOk Tryz.prog 39 [.str c,.i a] (.tuple [.agg [.i r.1.f0,.str r.1.f1,.i r.1.f2],.i r.2]):=by
 refine qA5 Xg39 (λ_=>⟨rfl,rfl⟩) Tryz.func39 (by decide +kernel) Kr (t:=g39 k c a) ?_ h
 unfold g39
 refine qA1 (eE:=[(0,.str c),(1,.i a)]) Kr ?_
 let S:Env:=[(12,.i a),(11,.str c),(5,.i 0),(4,.ptr 0 3 0),(0,.str c),(1,.i a)]
 let j:Blk:=⟨[.i 0,.str [],.i 0],0,false⟩
 refine oH 9 (atN 2 (ctl1 g39p1)) S (mkH [j]) ?_
 refine oA (λ(g:Int) => .i g) (atN 3 (ctl1 g39p1)) 13 [.str c,.i a] (g74_ok k c a) λg K=>?_
 let L:Env:=((15,.bool (decide (g=0)))::(14,.i g)::(7,.i g)::(6,.i 4)::(13,.i g)::S)
 refine oR 9 g39p3 L ?_
 refine oJ g39p5 (λ(b:Int×Int)=>[(0,.str c),(1,.i a),(4,.ptr 0 3 0),(6,.i b.1),(7,.i b.2)]) (λ(b:Int×Int)=>(mkH [j])) (λb=>?_) (λV B=>?_)
 ·let T:Env:=[(24,.bool (decide (b.2=0))),(23,.bool (decide (b.2=0))),(22,.i b.2),(8,.i (fW .i64 (a+b.2))),(21,.i (fW .i64 (a+b.2))),(20,.i b.2),(19,.i a),(0,.str c),(1,.i a),(4,.ptr 0 3 0),(6,.i b.1),(7,.i b.2)]
  refine oH 12 (atN 3 (ctl1 g39p6)) T (mkH [j]) ?_
  refine oJ g39p7 (λ(F:Bool)=>[(0,.str c),(1,.i a),(4,.ptr 0 3 0),(6,.i b.1),(8,.i (fW .i64 (a+b.2))),(35,.bool F)]) (λ(F:Bool)=>(mkH [j])) (λF=>?_) (λW z=>?_)
  ·refine oS 35 (λq=>?_) (λq=>?_)
   ·exact oQ 8
   ·let U:Env:=[(39,.bool (decide (b.1=3))),(38,.bool (decide (b.1=3))),(37,.i b.1),(35,.bool false),(0,.str c),(1,.i a),(4,.ptr 0 3 0),(6,.i b.1),(8,.i (fW .i64 (a+b.2))),(35,.bool F)]
    refine oH 8 (atN 3 (ctl1 g39p9)) U (mkH [j]) ?_
    refine oJ g39p11 (λ(M:Bool)=>[(0,.str c),(1,.i a),(4,.ptr 0 3 0),(6,.i b.1),(8,.i (fW .i64 (a+b.2))),(50,.bool M)]) (λ(M:Bool)=>(mkH [j])) (λM=>?_) (λY A=>?_)
    ·refine oJ g39p13 (λ(C:Unit)=>[(0,.str c),(1,.i a),(4,.ptr 0 3 0),(6,.i b.1),(8,.i (fW .i64 (a+b.2)))]) (λ(C:Unit)=>(mkH [j])) (λC=>?_) (λN u=>?_)
     ·refine oH 5 (atN 4 (ctl1 g39p13)) [(70,.i (fW .i64 (a+b.2))),(69,.i a),(68,.str c),(67,.i b.1),(0,.str c),(1,.i a),(4,.ptr 0 3 0),(6,.i b.1),(8,.i (fW .i64 (a+b.2)))] (mkH [j]) ?_
      refine oC (λ(x:LN)=>(.str x,(mkH [j]))) (atN 5 (ctl1 g39p13)) 71 (subH (some a) (some (fW .i64 (a+b.2))) Kr) λx O=>?_
      exact oQ 6
     ·refine oS 50 (λq=>?_) (λq=>?_)
      ·refine oLH 13 g39p15 [(0,.str c),(1,.i a),(4,.ptr 0 3 0),(6,.i b.1),(8,.i (fW .i64 (a+b.2))),(9,.bool false),(10,.i a)] (mkH [j]) ?_
       exact (qO7 k N c a b u k) false a
      ·refine oLH 3 g39p13 [(0,.str c),(1,.i a),(4,.ptr 0 3 0),(6,.i b.1),(8,.i (fW .i64 (a+b.2)))] (mkH [j]) ?_
       exact u ()
    ·refine oS 39 (λq=>?_) (λq=>?_)
     ·let D:Env:=((45,.bool (decide (fW .i64 (a+b.2) < (c.length:Int))))::(44,.bool (decide (fW .i64 (a+b.2) < (c.length:Int))))::(43,.bool (decide (fW .i64 (a+b.2) < (c.length:Int))))::(42,.i (c.length:Int))::(41,.str c)::(40,.i (fW .i64 (a+b.2)))::(39,.bool true)::U)
      refine oH 6 (atN 9 (ctl1 g39p9)) D (mkH [j]) ?_
      refine oS 45 (λq=>?_) (λq=>?_)
      ·refine oR 2 (atN 11 (ctl1 g39p9)) ((47,.i (fW .i64 (a+b.2)))::(46,.str c)::(45,.bool true)::D) ?_
       refine oC (λ(l:Int)=>(.y l,(mkH [j]))) (atN 12 (ctl1 g39p9)) 48 (idxH Kr) λl G=>?_
       refine oLH 3 g39p11 [(0,.str c),(1,.i a),(4,.ptr 0 3 0),(6,.i b.1),(8,.i (fW .i64 (a+b.2))),(50,.bool (decide (l=35)))] (mkH [j]) ?_
       exact A (decide (l=35))
      ·refine oL 6 g39p11 [(0,.str c),(1,.i a),(4,.ptr 0 3 0),(6,.i b.1),(8,.i (fW .i64 (a+b.2))),(50,.bool false)] ?_
       exact A false
     ·refine oLH 12 g39p11 [(0,.str c),(1,.i a),(4,.ptr 0 3 0),(6,.i b.1),(8,.i (fW .i64 (a+b.2))),(50,.bool false)] (mkH [j]) ?_
      exact A false
  ·refine oS 24 (λq=>?_) (λq=>?_)
   ·refine oLH 12 g39p7 [(0,.str c),(1,.i a),(4,.ptr 0 3 0),(6,.i b.1),(8,.i (fW .i64 (a+b.2))),(35,.bool true)] (mkH [j]) ?_
    exact z true
   ·let E:Env:=((29,.bool (decide (fW .i64 (a+b.2) < (c.length:Int))))::(28,.bool (decide (fW .i64 (a+b.2) < (c.length:Int))))::(27,.i (c.length:Int))::(26,.str c)::(25,.i (fW .i64 (a+b.2)))::(24,.bool false)::T)
    refine oH 5 (atN 8 (ctl1 g39p6)) E (mkH [j]) ?_
    refine oS 29 (λq=>?_) (λq=>?_)
    ·refine oR 2 (atN 10 (ctl1 g39p6)) ((31,.i (fW .i64 (a+b.2)))::(30,.str c)::(29,.bool true)::E) ?_
     refine oC (λ(m:Int)=>(.y m,(mkH [j]))) (atN 11 (ctl1 g39p6)) 32 (idxH Kr) λm I=>?_
     refine oA (λ(n:Bool) => .bool n) (atN 12 (ctl1 g39p6)) 33 [.y m] (g76_ok k m) λn J=>?_
     refine oLH 3 g39p7 [(0,.str c),(1,.i a),(4,.ptr 0 3 0),(6,.i b.1),(8,.i (fW .i64 (a+b.2))),(35,.bool n)] (mkH [j]) ?_
     exact z n
    ·refine oL 7 g39p7 [(0,.str c),(1,.i a),(4,.ptr 0 3 0),(6,.i b.1),(8,.i (fW .i64 (a+b.2))),(35,.bool false)] ?_
     exact z false
 ·refine oS 15 (λq=>?_) (λq=>?_)
  ·refine oH 4 (atN 2 (ctl1 g39p4)) ((17,.i a)::(16,.str c)::(15,.bool true)::L) (mkH [j]) ?_
   refine oA (λ(o:Int) => .i o) (atN 3 (ctl1 g39p4)) 18 [.str c,.i a] (g75_ok k c a) λo Q=>?_
   refine oL 4 g39p5 [(0,.str c),(1,.i a),(4,.ptr 0 3 0),(6,.i 3),(7,.i o)] ?_
   exact B (3,o)
  ·refine oH 3 g39p5 ((15,.bool false)::L) (mkH [j]) ?_
   refine oK [0,1,4,6,7] [(0,.str c),(1,.i a),(4,.ptr 0 3 0),(6,.i 4),(7,.i g)] ?_
   exact B (4,g)
def Xg40:Fx Int:=⟨Tryz.prog,cx,Tryz.f40,λr => .i r,0,λ_=>H0,cxTi,cxOrd,λ_=>none,false⟩
def g40p1:Pt:=nav [0,0,0,0,0] (nav [0] (bodyAt Tryz.f40))
def g40p2:Pt:=nav [0,0,0] g40p1
def g40p3:Pt:=nav [0,0] g40p2
def qI8 (k:Nat)  (h:LN) (ih:Int→Option Int):Int→Option Int :=
 λ(a:Int)=>jn (λ(g:Bool×Int)=>if g.1 then (ih (fW .i64 (g.2+1))) else (some g.2)) (λj=>if (decide (a < (h.length:Int))) then ((nthS h a).bind λb=>(g76 k b).bind λc=>j (c,a)) else (j (false,a)))
def qO6 (k:Nat)  (a:LN) (n:Nat):Int→Option Int:=lp (λ_=>none) (qI8 k a) n
theorem qO5 (k:Nat)   (b:LN)  : ∀ (n:Nat) (a:Int),Ok Xg40 g40p1 [(0,.str b),(1,.i a)] (mkH []) (qO6 k b n a):=by
 intro n
 induction n with
 | zero=>intro a; exact ok_none
 | succ n ih =>
  intro a
  show Ok _ _ _ _ (qI8 k b (qO6 k b n) a)
  unfold qI8
  refine qAd (p':=nav [0] g40p1) Kr ?_
  let q:Env:=[(9,.bool (decide (a < (b.length:Int)))),(8,.bool (decide (a < (b.length:Int)))),(7,.i (b.length:Int)),(6,.str b),(5,.i a),(0,.str b),(1,.i a)]
  refine oH 8 (atN 5 (ctl1 g40p2)) q (mkH []) ?_
  refine oJ g40p3 (λ(h:Bool×Int)=>[(0,.str b),(1,.i h.2),(14,.bool h.1)]) (λ(h:Bool×Int)=>(mkH [])) (λh=>?_) (λr j=>?_)
  ·refine oS 14 (λl=>?_) (λl=>?_)
   ·refine oLH 8 g40p1 [(0,.str b),(1,.i (fW .i64 (h.2+1)))] (mkH []) ?_
    exact ih (fW .i64 (h.2+1))
   ·exact oQ 8
  ·refine oS 9 (λl=>?_) (λl=>?_)
   ·refine oH 2 (atN 7 (ctl1 g40p2)) ((11,.i a)::(10,.str b)::(9,.bool true)::q) (mkH []) ?_
    refine oC (λ(c:Int)=>(.y c,(mkH []))) (atN 8 (ctl1 g40p2)) 12 (idxH Kr) λc m=>?_
    refine oA (λ(g:Bool) => .bool g) (atN 9 (ctl1 g40p2)) 13 [.y c] (g76_ok k c) λg o=>?_
    refine oLH 2 g40p3 [(0,.str b),(1,.i a),(14,.bool g)] (mkH []) ?_
    exact j (g,a)
   ·refine oLH 6 g40p3 [(0,.str b),(1,.i a),(14,.bool false)] (mkH []) ?_
    exact j (false,a)
def g40 (k:Nat) (a:LN) (b:Int):Option Int :=
 qO6 k a k b
theorem g40_ok (k:Nat) (a:LN) (b:Int) (r:Int) (h:g40 k a b=some r):PureOk Tryz.prog 40 [.str a,.i b] (.i r):=by
 refine qA5 Xg40 (λ_=>⟨rfl,rfl⟩) Tryz.func40 (by decide +kernel) Kr (t:=g40 k a b) ?_ h
 unfold g40
 refine qA1 (eE:=[(0,.str a),(1,.i b)]) Kr ?_
 refine oLH 7 g40p1 [(0,.str a),(1,.i b)] (mkH []) ?_
 exact (qO5 k a k) b
def Xg41:Fx Bool:=⟨Tryz.prog,cx,Tryz.f41,λr => .bool r,0,λ_=>H0,cxTi,cxOrd,λ_=>none,false⟩
def g41c0:LN:=[97,102,116,101,114]
def g41c1:LN:=[97,110,100,97,108,115,111]
def g41c2:LN:=[98,101,103,105,110]
def g41c3:LN:=[111,114,101,108,115,101]
def g41c4:LN:=[114,101,99,101,105,118,101]
def g41c5:LL:=[g41c0,([97,110,100]:LN),g41c1,([98,97,110,100]:LN),g41c2,([98,110,111,116]:LN),([98,111,114]:LN),([98,115,108]:LN),([98,115,114]:LN),([98,120,111,114]:LN),([99,97,115,101]:LN),([99,97,116,99,104]:LN),([100,105,118]:LN),([101,110,100]:LN),([102,117,110]:LN),([105,102]:LN),([110,111,116]:LN),([111,102]:LN),([111,114]:LN),g41c3,g41c4,([114,101,109]:LN),([119,104,101,110]:LN),([120,111,114]:LN)]
def g41p1:Pt:=nav [0,0,0] (nav [0] (bodyAt Tryz.f41))
def g41p3:Pt:=nav [0,0,0,0] (nav [0,0,0,0] g41p1)
def g41p5:Pt:=nav [0,0] (nav [0,0,0] g41p3)
def g41p6:Pt:=nav [1,0,0,0,0] g41p5
def qI7 (k:Nat)  (c:LN) (ih:Int→Option Bool):Int→Option Bool :=
 λ(a:Int)=>if (decide (a < (g41c5.length:Int))) then ((nthL g41c5 a).bind λb=>if (eqL b c) then (some true) else (ih (fW .i64 (a+1)))) else (some false)
def qO4 (k:Nat)  (a:LN) (n:Nat):Int→Option Bool:=lp (λ_=>none) (qI7 k a) n
theorem qO3 (k:Nat)   (c:LN)  : ∀ (n:Nat) (a:Int),Ok Xg41 g41p3 [(0,.str c),(3,w9 g41c5),(4,.i a)] (mkH []) (qO4 k c n a):=by
 intro n
 induction n with
 | zero=>intro a; exact ok_none
 | succ n ih =>
  intro a
  show Ok _ _ _ _ (qI7 k c (qO4 k c n) a)
  unfold qI7
  refine qAd (p':=nav [0] g41p3) Kr ?_
  let j:Env:=[(9,.bool (decide (a < (g41c5.length:Int)))),(8,.i (g41c5.length:Int)),(7,w9 g41c5),(6,.i a),(0,.str c),(3,w9 g41c5),(4,.i a)]
  refine oH 8 g41p5 j (mkH []) ?_
  refine oS 9 (λg=>?_) (λg=>?_)
  ·refine oR 8 (atN 2 (ctl1 g41p6)) ((13,.i a)::(12,w9 g41c5)::(9,.bool true)::j) ?_
   refine oC (λ(b:LN)=>(.vptr [.str b],(mkH []))) (atN 3 (ctl1 g41p6)) 14 (vidxH (sz:=1) qBq Kr) λb h=>?_
   refine oLH 4 (nav [0,0] g41p6) [(0,.str c),(3,w9 g41c5),(4,.i a),(17,.bool (eqL b c))] (mkH []) ?_
   refine oS 17 (λg=>?_) (λg=>?_)
   ·exact oQ 6
   ·refine oL 7 g41p3 [(0,.str c),(3,w9 g41c5),(4,.i (fW .i64 (a+1)))] ?_
    exact ih (fW .i64 (a+1))
  ·exact oQ 7
def g41 (k:Nat) (a:LN):Option Bool :=
 qO4 k a k 0
end
end Go.Proofs.YthpplbkobokghaaGreat.Am
