/- LawParseNotes, part 2: whatever the input, the law comes out true: our texts, joined by a tool, without what the claim does not name. -/
import Derived.Test.YthpplbkobokghaaPkParseNotes1
import Derived.KernelRfl
import Derived.Recover
import Derived.Lib.OthersKept
import Derived.Laws.RangeString
import Derived.Test.YthpplbkobokghaaProg
set_option maxRecDepth 100000
set_option linter.unusedVariables false
set_option linter.unusedSimpArgs false
set_option linter.unusedVariables false
set_option linter.unusedSimpArgs false
namespace Go.Proofs.Ythpplbkobokghaa.Am
open Go
theorem RW.still {m:Mp} {H:Hp} {w:World} {base:Nat} (h:RW m H w base):RW m.still H0 w w.heap.size where
 blk:=by intro r b v B N a hm; cases hm
 dom:=by intro r v B N hm; cases hm
 sep:=by intro r v B N r' v' N' hm; cases hm
 fresh:=by intro r _; rfl
 vle:=by intro r v B N hm; cases hm
 frz:=h.frz
 fsep:=by intro i B cells r v N b _ hm; cases hm
 ffin:=h.ffin
 base_le:=Nat.le_refl _
 low:=by show 0≤roots; unfold roots; omega
def PureOk (P:Program) (f:Nat) (xs:List AV) (v:AV):Prop :=
 (∀ (m0:Mp) (w:World) (args:Array Value),(∀ r v,m0 r v=none)→VRs m0 xs args.toList→RW m0 H0 w w.heap.size→Calls P f args w λx w' => ∃ m' c,x = .returned c∧RW m' H0 w' w.heap.size∧St m0 w w.heap.size m' w'∧VR m' v c) ∧
 (∃ fn,P.funcs[f]? = some fn∧(fn.name == "runtime.NumGoroutine")=false∧fn.body.isSome=true)
theorem qIz {P:Program} {f:Nat} {xs:List AV} {v:AV} (h:PureOk P f xs v) (u:purs xs=true) (hv:pur v=true) (H:Hp):CallV P f xs H v H:=by
 refine ⟨?_,h.2⟩
 intro m w base args hargs rw
 refine Calls.mono (h.1 m.still w args (λ_ _=>rfl) (qBa _ _ u hargs) rw.still) ?_
 rintro x w' ⟨m',c,rfl,rw',st',hvc⟩
 have hnone:∀ r v,m' r v=none:=by
  intro r v
  cases e:m' r v with
  | none=>rfl
  | some p =>
   obtain ⟨b,a,_⟩:=rw'.dom r v p.1 p.2 e
   cases a
 have hsame:∀ B,B < w.heap.size→w'.heap[B]? = w.heap[B]? := λB hB=>st'.same B hB (λ_ _ _ hm=>by cases hm)
 have hsub:Sub m ⟨m.map,m'.froz⟩:=⟨λ_ _ _ h=>h,st'.sub.2⟩
 refine ⟨⟨m.map,m'.froz⟩,c,rfl,⟨?_,?_,rw.sep,rw.fresh,rw.vle,rw'.frz,?_,rw'.ffin,Nat.le_trans rw.base_le st'.size,rw.low⟩,⟨hsub,λr v B N e => .inl ⟨v,N,e⟩,?_,st'.size,st'.os,st'.tape,st'.output,λB hB _=>hsame B hB⟩,?_⟩
 ·intro r b v B N a hm g z
  obtain ⟨cs,ty,fr,j,n,o,q,D⟩:=rw.blk r b v B N a hm g z
  obtain ⟨_,_,_,hlt,_⟩:=rw.dom r v B N hm
  exact ⟨cs,ty,fr,by rw [hsame B hlt]; exact j,n,o,q,VRs.mono hsub _ _ D⟩
 ·intro r v B N hm
  obtain ⟨b,j,n,o,q⟩:=rw.dom r v B N hm
  exact ⟨b,j,n,Nat.lt_of_lt_of_le o st'.size,q⟩
 ·intro i B cells r v N b hi hm a
  rcases st'.fext i B cells hi with hi' | ⟨hB,_⟩
  ·exact rw.fsep i B cells r v N b hi' hm a
  ·obtain ⟨_,_,_,hlt,_⟩:=rw.dom r v B N hm
   omega
 ·intro i B cells e
  rcases st'.fext i B cells e with hi' | ⟨hB,_⟩
  ·exact .inl hi'
  ·exact .inr ⟨Nat.le_trans rw.base_le hB,.inr hB⟩
 ·have g:=qLs v c hv hvc
  exact VR.mono (m:=m'.still) (m':=⟨m.map,m'.froz⟩) ⟨λ_ _ _ h=>(by cases h),λ_ _ h=>h⟩ v c g
inductive Fr where
 | seq (b:Code) | block (id:Nat) | loop (b:Code) | scope (b:Code)
inductive Pt where
 | code (c:Code) (K:List Fr)
 | ops (o:Array Oper) (n:Nat) (K:List Fr)
 | loop (b:Code) (K:List Fr)
 | fin
def FinK (P : Program) (Q : Exit → Act → World → Prop) : List Fr → Exit → Act → World → Prop
 | []=>Q
 | .seq b::K=>Exit.then (b.wp P (FinK P Q K)) (FinK P Q K)
 | .block id::K=>Exit.inBlock id (FinK P Q K)
 | .loop b::K=>Exit.then (LoopWp P b (FinK P Q K)) (FinK P Q K)
 | .scope b::K=>λe a w=>match e with | .goto l => ∃ rest,findLabel b l=some rest∧ScopeWp P b rest (FinK P Q K) a w | e=>FinK P Q K e a w
def At (P : Program) (Q : Exit → Act → World → Prop) : Pt → Act → World → Prop
 | .code c K,a,w=>c.wp P (FinK P Q K) a w
 | .ops o n K,a,w=>wpOps P o (FinK P Q K) (List.range' n (o.size - n)) a w
 | .loop b K,a,w=>LoopWp P b (FinK P Q K) a w
 | .fin,a,w=>Q .normal a w∧Q .ret a w
def resume : List Fr → Pt
 | [] => .fin
 | .seq b::K => .code b K
 | .block _::K=>resume K
 | .loop b::K => .loop b K
 | .scope _::K=>resume K
theorem qAz {P : Program} {Q : Exit → Act → World → Prop} {a : Act} {w : World} : ∀ {K : List Fr}, At P Q (resume K) a w → FinK P Q K .normal a w
 | [],h=>h.1
 | .seq b::K,h=>h
 | .block id::K,h=>by show Exit.inBlock id (FinK P Q K) .normal a w; exact qAz (K:=K) h
 | .loop b::K,h=>h
 | .scope b::K,h=>qAz (K:=K) h
def exitK (id : Nat) : List Fr → Option Pt
 | []=>none
 | .block j::K=>if id=j then some (resume K) else exitK id K
 | .seq _::K=>exitK id K
 | .loop _::K=>exitK id K
 | .scope _::K=>exitK id K
theorem qDd {P : Program} {Q : Exit → Act → World → Prop} {a : Act} {w : World} {id : Nat} {p : Pt} : ∀ {K : List Fr}, exitK id K = some p → At P Q p a w → FinK P Q K (.exit id) a w
 | [],h,_=>by cases h
 | .seq b::K,h,k=>qDd (K:=K) h k
 | .loop b::K,h,k=>qDd (K:=K) h k
 | .scope b::K,h,k=>qDd (K:=K) h k
 | .block j::K,h,k=>by
  simp only [exitK] at h
  show Exit.inBlock j (FinK P Q K) (.exit id) a w
  simp only [Exit.inBlock]
  split at h
  ·rename_i e
   cases h
   rw [if_pos e]
   exact qAz k
  ·rename_i e
   rw [if_neg e]
   exact qDd h k
def gotoK (l : Nat) : List Fr → Option Pt
 | []=>none
 | .scope b::K=>match findLabel b l with | some rest=>some (.code rest (.scope b::K)) | none=>none
 | .block _::K=>gotoK l K
 | .seq _::K=>gotoK l K
 | .loop _::K=>gotoK l K
theorem qHv {P:Program} {Q:Exit→Act→World→Prop} {a:Act} {w:World} {b c:Code} {K:List Fr} (h:c.wp P (FinK P Q (.scope b::K)) a w):ScopeWp P b c (FinK P Q K) a w :=
 ScopeWp.of (wp_mono h λe g j he=>by cases e <;> exact he)
theorem qE2 {P : Program} {Q : Exit → Act → World → Prop} {a : Act} {w : World} {l : Nat} {p : Pt} : ∀ {K : List Fr}, gotoK l K = some p → At P Q p a w → FinK P Q K (.goto l) a w
 | [],h,_=>by cases h
 | .seq b::K,h,k=>qE2 (K:=K) h k
 | .loop b::K,h,k=>qE2 (K:=K) h k
 | .block b::K,h,k=>qE2 (K:=K) h k
 | .scope b::K,h,k=>by
  simp only [gotoK] at h
  split at h
  ·rename_i rest hf
   cases h
   exact ⟨rest,hf,qHv k⟩
  ·cases h
theorem qEh {P : Program} {Q : Exit → Act → World → Prop} {a : Act} {w : World} (h : Q .ret a w) : ∀ (K : List Fr), FinK P Q K .ret a w
 | []=>h
 | .seq b::K=>qEh h K
 | .loop b::K=>qEh h K
 | .block b::K=>qEh h K
 | .scope b::K=>qEh h K
inductive FzG (n0:Nat) (H:Hp):List AV→List AV→Prop where
 | pures {xs}:purs xs=true→FzG n0 H xs xs
 | cons {x xs ys}:pur x=true→FzG n0 H xs ys→FzG n0 H (x::xs) (x::ys)
 | nil {sz xs ys}:FzG n0 H xs ys→FzG n0 H (.nils::xs) (.vec 0 sz []::ys)
 | own {r len sz cells cells' minv xs ys}:Nat.ble n0 r=true→H.t.get r=some ⟨cells,minv,false⟩→cells.length=len * sz→minv≤len * sz→FzG n0 H cells cells'→FzG n0 H xs ys→FzG n0 H (.own r len sz::xs) (.vec len sz cells'::ys)
 | slice {r len sz v cells cells' minv xs ys}:Nat.ble n0 r=true→H.t.get r=some ⟨cells,minv,false⟩→cells.length=len * sz→v=len * sz→minv≤len * sz→FzG n0 H cells cells'→FzG n0 H xs ys→FzG n0 H (.slice r v 0 len sz::xs) (.vec len sz cells'::ys)
 | agg {xs ys zs us}:FzG n0 H xs ys→FzG n0 H zs us→FzG n0 H (.agg xs::zs) (.agg ys::us)
 | tuple {xs ys zs us}:FzG n0 H xs ys→FzG n0 H zs us→FzG n0 H (.tuple xs::zs) (.tuple ys::us)
structure FOk (n0:Nat) (m:Mp) (F:Nat→Option (Nat×List AV)) (w:World) (base:Nat):Prop where
 ok:∀ i B cells,F i=some (B,cells)→∃ cs ty fr,w.heap[B]? = some (.cells cs ty fr)∧cells.length≤cs.size∧VRs ⟨λ_ _=>none,F⟩ cells (cs.toList.take cells.length)
 fin:∃ n,∀ i,n≤i→F i=none
 new:∀ i B cells,F i=some (B,cells)→m.froz i=some (B,cells)∨base≤B∧∃ r v N,n0≤r∧m r v=some (B,N)
 sub:∀ i p,m.froz i=some p→F i=some p
theorem FzG.length {n0:Nat} {H:Hp} {xs ys:List AV} (h:FzG n0 H xs ys):ys.length=xs.length:=by
 induction h <;> simp_all
theorem qL3 {n0 : Nat} {m : Mp} {F : Nat → Option (Nat × List AV)} {w : World} {base B : Nat} {cells : List AV} {cs : Array Value} {ty : TypeId} {fr : Nat × Nat} (h : FOk n0 m F w base) (hB : base ≤ B) (hmB : ∃ r v N, n0 ≤ r ∧ m r v = some (B, N)) (hw : w.heap[B]? = some (.cells cs ty fr)) (hl : cells.length ≤ cs.size) (hv : VRs ⟨λ_ _ => none, F⟩ cells (cs.toList.take cells.length)) :
 ∃ F' i,FOk n0 m F' w base∧F' i=some (B,cells)∧(∀ i p,F i=some p→F' i=some p):=by
 obtain ⟨n,g⟩:=h.fin
 have hsub:∀ i p,F i=some p→(λi=>if i=n then some (B,cells) else F i) i=some p:=by
  intro i p hi
  simp only
  rw [if_neg]
  ·exact hi
  ·rintro rfl; rw [g _ (Nat.le_refl _)] at hi; cases hi
 have hS:Sub ⟨λ_ _=>none,F⟩ ⟨λ_ _=>none,λi=>if i=n then some (B,cells) else F i⟩:=⟨λ_ _ _ e=>(by cases e),hsub⟩
 refine ⟨λi=>if i=n then some (B,cells) else F i,n,⟨?_,⟨n+1,λi hi=>?_⟩,?_,λi p hi=>hsub i p (h.sub i p hi)⟩,by simp,hsub⟩
 ·intro i B' cells' hi
  by_cases e:i=n
  ·simp only [e,if_true] at hi
   cases hi
   exact ⟨cs,ty,fr,hw,hl,VRs.mono hS _ _ hv⟩
  ·simp only [e,if_false] at hi
   obtain ⟨a,b,c,j,o,q⟩:=h.ok i B' cells' hi
   exact ⟨a,b,c,j,o,VRs.mono hS _ _ q⟩
 ·have hne:¬ i=n:=by omega
  show (if i=n then some (B,cells) else F i)=none
  rw [if_neg hne]
  exact g i (by omega)
 ·intro i B' cells' hi
  by_cases e:i=n
  ·simp only [e,if_true] at hi
   cases hi
   exact .inr ⟨hB,hmB⟩
  ·simp only [e,if_false] at hi
   exact h.new i B' cells' hi
theorem qEc (m:Mp) (sz:Nat):VR m (.vec 0 sz []) (.slice none 0 0):=by
 simp only [VR]
 exact ⟨by simp,none,0,rfl,Nat.le_refl _,by simp,by simp⟩
theorem fz_ok {n0:Nat} {m:Mp} {H:Hp} {w:World} {base:Nat} (rw:RW m H w base) {xs ys:List AV} (h:FzG n0 H xs ys):∀ {cs:List Value} {F:Nat→Option (Nat×List AV)},FOk n0 m F w base→VRs m xs cs→∃ F',FOk n0 m F' w base∧(∀ i p,F i=some p→F' i=some p)∧VRs ⟨λ_ _=>none,F'⟩ ys cs:=by
 have still:∀ {F:Nat→Option (Nat×List AV)},FOk n0 m F w base→Sub m.still ⟨λ_ _=>none,F⟩:=λa=>⟨λ_ _ _ e=>(by cases e),a.sub⟩
 have grow:∀ {F F':Nat→Option (Nat×List AV)},(∀ i p,F i=some p→F' i=some p)→Sub ⟨λ_ _=>none,F⟩ ⟨λ_ _=>none,F'⟩:=λh=>⟨λ_ _ _ e=>(by cases e),h⟩
 have block : ∀ {r len sz minv cap B N : Nat} {cells cells' : List AV}, Nat.ble n0 r = true → H.t.get r = some ⟨cells, minv, false⟩ → cells.length = len * sz → minv ≤ len * sz → cells'.length = cells.length →
  (∀ {cs:List Value} {F:Nat→Option (Nat×List AV)},FOk n0 m F w base→VRs m cells cs→∃ F',FOk n0 m F' w base∧(∀ i p,F i=some p→F' i=some p)∧VRs ⟨λ_ _=>none,F'⟩ cells' cs) →
  ∀ {F:Nat→Option (Nat×List AV)},FOk n0 m F w base→m r (len * sz)=some (B,N)→len≤cap→∃ F',FOk n0 m F' w base∧(∀ i p,F i=some p→F' i=some p)∧VR ⟨λ_ _=>none,F'⟩ (.vec len sz cells') (.slice (some ⟨B,0,none⟩) len cap):=by
  intro r len sz minv cap B N cells cells' h0r z hl hmin hl' ih F a hm hcap
  obtain ⟨cs,ty,fr,K,S,T,U,I⟩:=rw.blk _ _ _ _ _ z hm hmin (by rw [hl]; exact Nat.le_refl _)
  obtain ⟨Y,D,_,_,hbase⟩:=rw.dom _ _ _ _ hm
  rw [z] at D
  cases D
  simp only at I
  rw [List.take_of_length_le (by omega)] at I
  obtain ⟨E,g,u,M⟩:=ih a I
  obtain ⟨O,i,j,n,o⟩:=qL3 g (hbase rfl) ⟨r,_,_,Nat.le_of_ble_eq_true h0r,hm⟩ K (cells:=cells') (by omega) (by rw [hl',hl]; exact M)
  refine ⟨O,j,λi p hi=>o i p (u i p hi),?_⟩
  simp only [VR]
  refine ⟨by omega,_,cap,rfl,hcap,λe=>(by cases e),λ_=>⟨i,B,0,cells',n,rfl,?_,by omega⟩⟩
  rw [List.drop_zero,List.take_of_length_le (by omega)]
 induction h with
 | pures hp =>
  intro cs F a hv
  exact ⟨F,a,λ_ _ h=>h,VRs.mono (still a) _ _ (qBa _ _ hp hv)⟩
 | cons hp _ ih =>
  intro cs F a hv
  simp only [VRs] at hv ⊢
  obtain ⟨y,ys,rfl,g,u⟩:=hv
  obtain ⟨F',j,n,o⟩:=ih a u
  exact ⟨F',j,n,y,ys,rfl,VR.mono (still j) _ _ (qLs _ _ hp g),o⟩
 | nil _ ih =>
  intro cs F a hv
  simp only [VRs] at hv ⊢
  obtain ⟨y,ys,rfl,g,u⟩:=hv
  obtain ⟨F',j,n,o⟩:=ih a u
  simp only [VR] at g
  subst g
  exact ⟨F',j,n,_,ys,rfl,qEc _ _,o⟩
 | @own r len sz cells cells' minv xs ys h0r z hl hmin hc _ q b =>
  intro cs F a hv
  simp only [VRs] at hv
  obtain ⟨c,cs',rfl,g,u⟩:=hv
  simp only [VR] at g
  rcases g with ⟨Q,rfl⟩ | ⟨B,N,cap,hm,hcap,hN,rfl⟩
  ·obtain ⟨F',j,n,o⟩:=b a u
   refine ⟨F',j,n,?_⟩
   subst Q
   obtain rfl:cells'=[]:=List.length_eq_zero_iff.1 (by rw [hc.length]; omega)
   simp only [VRs]
   exact ⟨_,_,rfl,qEc _ _,o⟩
  ·obtain ⟨E,j,n,o⟩:=block h0r z hl hmin hc.length q a hm hcap
   obtain ⟨F',x,e2,e3⟩:=b j u
   refine ⟨F',x,λi p hi=>e2 i p (n i p hi),?_⟩
   simp only [VRs]
   exact ⟨_,_,rfl,VR.mono (grow e2) _ _ o,e3⟩
 | @slice r len sz v cells cells' minv xs ys h0r z hl J hmin hc _ q b =>
  intro cs F a hv
  simp only [VRs] at hv
  obtain ⟨c,cs',rfl,g,u⟩:=hv
  simp only [VR] at g
  obtain ⟨B,N,cap,hm,_,hcap,hN,rfl⟩:=g
  subst J
  obtain ⟨E,j,n,o⟩:=block h0r z hl hmin hc.length q a hm hcap
  obtain ⟨F',x,e2,e3⟩:=b j u
  refine ⟨F',x,λi p hi=>e2 i p (n i p hi),?_⟩
  simp only [VRs]
  exact ⟨_,_,rfl,VR.mono (grow e2) _ _ o,e3⟩
 | agg _ _ q b =>
  intro cs F a hv
  simp only [VRs,VR] at hv ⊢
  obtain ⟨c,cs',rfl,⟨zs,rfl,g⟩,u⟩:=hv
  obtain ⟨E,j,n,o⟩:=q a g
  obtain ⟨F',x,e2,e3⟩:=b j u
  exact ⟨F',x,λi p hi=>e2 i p (n i p hi),_,_,rfl,⟨zs,rfl,VRs.mono (grow e2) _ _ o⟩,e3⟩
 | tuple _ _ q b =>
  intro cs F a hv
  simp only [VRs,VR] at hv ⊢
  obtain ⟨c,cs',rfl,⟨zs,rfl,g⟩,u⟩:=hv
  obtain ⟨E,j,n,o⟩:=q a g
  obtain ⟨F',x,e2,e3⟩:=b j u
  exact ⟨F',x,λi p hi=>e2 i p (n i p hi),_,_,rfl,⟨zs,rfl,VRs.mono (grow e2) _ _ o⟩,e3⟩
structure Fx (R:Type) where
 P:Program
 C:Cx
 fn:Func
 enc:R→AV
 n0:Nat
 fin:R→Hp
 hti:∀ t i,C.ti t=some i→mkTi P t=some i
 ord:P.follows .mixedOrders=true
 thr:R→Option (Value×LN)
 dfs:Bool
section
variable {R:Type} (X:Fx R)
def Ret (r:R) (m0:Mp) (a:World) (b:Nat):Exit→Act→World→Prop :=
 match X.dfs with
 | true=>bodyPostD X.P X.fn (EndT (X.thr r) (X.enc r) (X.fin r) m0 a b)
 | false=>bodyPost X.P X.fn (EndT (X.thr r) (X.enc r) (X.fin r) m0 a b)
theorem qHz {X:Fx R} {r:R} {m0:Mp} {b:World} {g:Nat} {a:Act} {w:World} {c:Value} (hd:a.defers=[]) (h:(results X.fn a.tmps).run X.P w = .ok c w) (j:EndT (X.thr r) (X.enc r) (X.fin r) m0 b g (.returned c) w):Ret X r m0 b g .normal a w∧Ret X r m0 b g .ret a w:=by
 have:Leaves X.P X.fn a.tmps (EndT (X.thr r) (X.enc r) (X.fin r) m0 b g) a.defers .returning w:=by rw [hd]; exact ⟨c,h,j⟩
 unfold Ret
 cases X.dfs
 ·exact ⟨⟨hd,c,h,j⟩,⟨hd,c,h,j⟩⟩
 ·exact ⟨this,this⟩
theorem qPk {X:Fx R} {r:R} {m0:Mp} {b:World} {c:Nat} {a:Act} {w:World} {ch:List PanicEntry} (hd:a.defers=[]) (g:EndT (X.thr r) (X.enc r) (X.fin r) m0 b c (.panicked ch) w):Ret X r m0 b c (.panic ch) a w:=by
 have:Leaves X.P X.fn a.tmps (EndT (X.thr r) (X.enc r) (X.fin r) m0 b c) a.defers (.panicking ch) w:=by rw [hd]; exact g
 unfold Ret
 cases X.dfs
 ·exact ⟨hd,g⟩
 ·exact this
theorem qIy {X:Fx R} {r:R} {m0:Mp} {a:World} {b:Nat} {f:Nat} {c:Code} {args:Array Value} {w:World} (hf:X.P.funcs[f]? = some X.fn) (hc:X.fn.body=some c) (h:c.wp X.P (Ret X r m0 a b) { tmps:=args++Array.replicate (X.fn.ntmps - args.size) undef,defers:=[] } w):Calls X.P f args w (EndT (X.thr r) (X.enc r) (X.fin r) m0 a b):=by
 unfold Ret at h
 cases hd:X.dfs with
 | true=>rw [hd] at h; exact calls_of_wp_defers hf hc h
 | false=>rw [hd] at h; exact calls_of_wp hf hc h
def Ok (p:Pt) (env:Env) (H:Hp) (t:Option R):Prop := ∀ r,t=some r→∀ (m0:Mp) (c:World) (b:Nat) (m:Mp) (w:World) (a:Act),((∀ r v p,m0 r v=some p→r < X.n0)∧b≤c.heap.size)→FR m env a.tmps→X.fn.ntmps≤a.tmps.size→a.defers=[]→RW m H w b→St m0 c b m w→At X.P (Ret X r m0 c b) p a w
end
section
variable {R:Type} {X:Fx R} {p p':Pt} {env eE:Env} {H H':Hp}
theorem ok_none:Ok X p env H none:=by intro r h; cases h
theorem qA9 {α:Type} {m:Option α} {f:α→Option R} (h:∀ x,m=some x→Ok X p env H (f x)):Ok X p env H (m.bind f):=by
 intro r hr
 cases hm:m with
 | none=>rw [hm] at hr; cases hr
 | some x=>rw [hm] at hr; exact h x hm r hr
theorem qKf {t:Option R} (h:Less env eE) (k:Ok X p eE H t):Ok X p env H t :=
 λr hr m0 b c m w a g fr j hd rw st=>k r hr m0 b c m w a g (fr.less h) j hd rw st
theorem qKg {t:Option R} (ks:LN) (h:keepOnly env ks=eE) (k:Ok X p eE H t):Ok X p env H t :=
 qKf (h ▸ qBi ks env) k
theorem ok_heap {t:Option R} (h:H=H') (k:Ok X p env H' t):Ok X p env H t:=h ▸ k
theorem qA {t:Option R} (h:env=eE) (k:Ok X p eE H t):Ok X p env H t:=h ▸ k
theorem qM3 {d:Nat} {v:AV} (h:look env d=v):Less env (putE env d v):=by
 intro t
 rw [qB8]
 split
 ·rename_i e; subst e; exact .inr h.symm
 ·exact .inr rfl
theorem ok_split {a c:Option R} (d:Nat) {b:Bool} (h:look env d = .bool b) (g:b=true→Ok X p ((d,.bool true)::env) H a) (j:b=false→Ok X p ((d,.bool false)::env) H c):Ok X p env H (if b then a else c):=by
 cases b with
 | true=>exact qKf (qM3 h) (g rfl)
 | false=>exact qKf (qM3 h) (j rfl)
abbrev jn {α R:Type} (f:α→Option R) (b:(α→Option R)→Option R):Option R:=b f
theorem oJ {α:Type} {f:α→Option R} {b:(α→Option R)→Option R} (pj:Pt) (E:α→Env) (G:α→Hp) (a:∀ x,Ok X pj (E x) (G x) (f x)) (c:∀ j:α→Option R,(∀ x,Ok X pj (E x) (G x) (j x))→Ok X p env H (b j)):Ok X p env H (jn f b):=c f a
theorem qJ7 {t:Option R} {ops:Array Oper} {n:Nat} {K:List Fr} {o:Oper} {v:AV} (ho:ops[n]? = some o) (hd:dstOk X.fn.ntmps o=true) (hw:wantedV o ops.toList env=some true) (hs:Stp X.P X.C env H o v H') (k:Ok X (.ops ops (n+1) K) (putV env o.dst v) H' t):Ok X (.ops ops n K) env H t:=by
 intro r hr m0 h j m w a b fr q hdf rw st
 show wpOps X.P ops _ (List.range' n (ops.size - n)) a w
 have hlt:n < ops.size:=(Array.getElem?_eq_some_iff.1 ho).1
 rw [show ops.size - n=(ops.size - (n+1))+1 by omega,List.range'_succ]
 simp only [wpOps,ho]
 rw [qB4 hw fr]
 simp only [if_true]
 refine .inl ?_
 refine qP7 X.hti hs fr rw _ _ λm' w' c u g x=>?_
 obtain ⟨f1,f2,f3⟩:=qBk (fr.mono g.sub) q hdf o hd v c x
 exact k r hr m0 h j m' w' _ b f1 f2 f3 u (st.trans b.2 g)
theorem ok_skp {t:Option R} {ops:Array Oper} {n:Nat} {K:List Fr} {o:Oper} (ho:ops[n]? = some o) (hd:dstOk X.fn.ntmps o=true) (hw:wantedV o ops.toList env=some false) (k:Ok X (.ops ops (n+1) K) (putV env o.dst (.tuple [])) H t):Ok X (.ops ops n K) env H t:=by
 intro r hr m0 b c m w a g fr h hdf rw st
 show wpOps X.P ops _ (List.range' n (ops.size - n)) a w
 have hlt:n < ops.size:=(Array.getElem?_eq_some_iff.1 ho).1
 rw [show ops.size - n=(ops.size - (n+1))+1 by omega,List.range'_succ]
 simp only [wpOps,ho]
 rw [qB4 hw fr]
 simp only [Bool.false_eq_true,if_false]
 obtain ⟨f1,f2,f3⟩:=qBk fr h hdf o hd (.tuple []) undef (qIo _)
 exact k r hr m0 b c m w _ g f1 f2 f3 rw st
theorem qFk {t:Option R} (h:∀ (Q:Exit→Act→World→Prop) (a:Act) (w:World),True→At X.P Q p' a w→At X.P Q p a w) (k:Ok X p' env H t):Ok X p env H t :=
 λr hr m0 b c m w a g fr j hd rw st=>h _ a w trivial (k r hr m0 b c m w a g fr j hd rw st)
end
section
variable {R:Type} {X:Fx R} {p p':Pt} {env eE:Env} {H H':Hp}
noncomputable def stepV (C:Cx) (n:Nat) (p:Pt) (env:Env) (H:Hp):Option (Pt×Env×Hp) :=
 match p with
 | .ops ops k K=>match nth ops.toList k with
  | some o=>bif dstOk n o then (match wantedV o ops.toList env with
   | some true=>(match opV C env H o with | some (v,H')=>some (.ops ops (k+1) K,putV env o.dst v,H') | none=>none)
   | some false=>some (.ops ops (k+1) K,putV env o.dst (.tuple []),H)
   | none=>none) else none
  | none=>some (resume K,env,H)
 | .code c K=>match c with
  | .seq a b=>some (.code a (.seq b::K),env,H)
  | .skip=>some (resume K,env,H)
  | .label _=>some (resume K,env,H)
  | .block id b=>some (.code b (.block id::K),env,H)
  | .scope b=>some (.code b (.scope b::K),env,H)
  | .loop b=>some (.loop b K,env,H)
  | .exit id=>match exitK id K with | some q=>some (q,env,H) | none=>none
  | .goto l=>match gotoK l K with | some q=>some (q,env,H) | none=>none
  | .ret=>some (.fin,env,H)
  | .region id ops draw=>bif draw then none else some (.ops ops 0 K,env,H)
  | .cond c x y=>match opnd env c with | .bool b=>some (.code (bif b then x else y) K,env,H) | _=>none
  | _=>none
 | _=>none
theorem fin_ops {t:Option R} {ops:Array Oper} {n:Nat} {K:List Fr} (h:ops[n]? = none) (k:Ok X (resume K) env H t):Ok X (.ops ops n K) env H t:=by
 intro r hr m0 c g m w a j fr o hd rw st
 show wpOps X.P ops _ (List.range' n (ops.size - n)) a w
 have hle:ops.size≤n:=by
  rcases Nat.lt_or_ge n ops.size with b | b
  ·rw [Array.getElem?_eq_getElem b] at h; cases h
  ·exact b
 rw [show ops.size - n=0 by omega]
 exact qAz (k r hr m0 c g m w a j fr o hd rw st)
theorem stepV_ok {t:Option R} (h:stepV X.C X.fn.ntmps p env H=some (p',eE,H')) (k:Ok X p' eE H' t):Ok X p env H t:=by
 cases p with
 | ops ops n K =>
  simp only [stepV] at h
  rw [qCr,Array.getElem?_toList] at h
  cases ho:ops[n]? with
  | none=>rw [ho] at h; cases h; exact fin_ops ho k
  | some o =>
   rw [ho] at h
   simp only at h
   cases hd:dstOk X.fn.ntmps o with
   | false=>rw [hd] at h; cases h
   | true =>
    rw [hd] at h
    simp only [cond_true] at h
    split at h
    ·rename_i hw
     split at h
     ·rename_i v E hv
      cases h
      exact qJ7 ho hd hw (.inl hv) k
     ·cases h
    ·rename_i hw
     cases h
     exact ok_skp ho hd hw k
    ·cases h
 | code c K =>
  cases c <;> simp only [stepV] at h
  case seq x y=>cases h; exact qFk (p' := .code x (.seq y::K)) (λQ a w _ hh=>wp_seq (wp_mono hh λe a w he=>by cases e <;> exact he)) k
  case skip=>cases h; exact qFk (λQ a w _ hh=>wp_skip (qAz hh)) k
  case label=>cases h; exact qFk (λQ a w _ hh=>wp_label (qAz hh)) k
  case block id b=>cases h; exact qFk (p' := .code b (.block id::K)) (λQ a w _ hh=>wp_block hh) k
  case scope b=>cases h; exact qFk (p' := .code b (.scope b::K)) (λQ a w _ hh=>(qHv hh).wp) k
  case loop b=>cases h; exact qFk (p' := .loop _ _) (λQ a w _ hh=>LoopWp.wp hh) k
  case exit id =>
   split at h
   ·rename_i q hq
    cases h
    exact qFk (λQ a w _ hh=>wp_exit (qDd hq hh)) k
   ·cases h
  case goto l =>
   split at h
   ·rename_i q hq
    cases h
    exact qFk (λQ a w _ hh=>wp_goto (qE2 hq hh)) k
   ·cases h
  case ret=>cases h; exact qFk (p' := .fin) (λQ a w _ hh=>wp_ret (qEh hh.2 K)) k
  case region id ops draw =>
   cases draw with
   | true=>cases h
   | false =>
    cases h
    refine qFk (λQ a w _ hh=>wp_region ?_) k
    have hh':wpOps X.P ops (FinK X.P Q K) (List.range' 0 (ops.size - 0)) a w:=hh
    rw [List.range_eq_range']
    exact hh'
  case cond c x y =>
   split at h
   ·rename_i b g
    cases h
    intro r hr m0 j u m w a z fr D hd rw st
    have hc:=qCe fr c
    rw [g] at hc
    simp only [VR] at hc
    refine wp_cond hc ?_
    have:=k r hr m0 j u m w a z fr D hd rw st
    cases b <;> exact this
   ·cases h
  all_goals cases h
 | loop b K=>cases h
 | fin=>cases h
noncomputable def runV (C:Cx) (n:Nat) (k:Nat):Pt→Env→Hp→Option (Pt×Env×Hp) :=
 Nat.rec (motive := λ_ => Pt → Env → Hp → Option (Pt × Env × Hp)) (λp env H => some (p, env, H))
  (λ_ ih p env H=>match stepV C n p env H with | some (p',eE,H')=>ih p' eE H' | none=>none) k
theorem qGt {t : Option R} : ∀ (k : Nat) {p : Pt} {env : Env} {H : Hp}, runV X.C X.fn.ntmps k p env H = some (p', eE, H') → Ok X p' eE H' t → Ok X p env H t
 | 0,p,env,H,h,g=>by
  have h':some (p,env,H)=some (p',eE,H'):=h
  cases h'
  exact g
 | k+1,p,env,H,h,g=>by
  have h':(match stepV X.C X.fn.ntmps p env H with | some (p',eE,H')=>runV X.C X.fn.ntmps k p' eE H' | none=>none)=some (p',eE,H'):=h
  split at h'
  ·rename_i a env1 b hs
   exact stepV_ok hs (qGt k h' g)
  ·cases h'
def entL : Pt → Option Pt
 | .loop b K=>some (.code b (.loop b::K))
 | _=>none
theorem qAi {t:Option R} (h:entL p=some p') (k:Ok X p' env H t):Ok X p env H t:=by
 cases p <;> simp only [entL] at h <;> cases h
 exact qFk (p' := .code _ (.loop _::_)) (λQ a w _ hh=>LoopWp.of (wp_mono hh λe a w he=>by cases e <;> exact he)) k
noncomputable def operAt (n:Nat) (p:Pt) (env:Env):Option Oper :=
 match p with
 | .ops ops k K=>match nth ops.toList k with
  | some o=>bif dstOk n o then (match wantedV o ops.toList env with | some true=>some o | _=>none) else none
  | none=>none
 | _=>none
def adv : Pt → Pt
 | .ops ops k K => .ops ops (k+1) K
 | q=>q
noncomputable def evalAt (C:Cx) (n:Nat) (p:Pt) (env:Env) (H:Hp):Option (AV×Hp) :=
 match operAt n p env with | some o=>opV C env H o | none=>none
noncomputable def advE (n:Nat) (p:Pt) (env:Env) (v:AV):Option (Pt×Env) :=
 match operAt n p env with | some o=>some (adv p,putV env o.dst v) | none=>none
noncomputable def callAt (n:Nat) (p:Pt) (env:Env):Option (Nat×List AV) :=
 match operAt n p env with
 | some o=>match o.op with
  | .call c=>match c.callee with
   | .value g=>match opnd env g with
    | .func f first caps=>some (f,first++opnds env c.args.toList++caps)
    | _=>none
   | _=>none
  | _=>none
 | none=>none
theorem qAv {n:Nat} {o:Oper} (h:operAt n p env=some o):∃ ops k K,p = .ops ops k K∧ops[k]? = some o∧dstOk n o=true∧wantedV o ops.toList env=some true:=by
 cases p <;> simp only [operAt] at h <;> try (cases h; done)
 rename_i ops k K
 rw [qCr,Array.getElem?_toList] at h
 cases ho:ops[k]? with
 | none=>rw [ho] at h; cases h
 | some o' =>
  rw [ho] at h
  simp only at h
  cases hd:dstOk n o' with
  | false=>rw [hd] at h; cases h
  | true =>
   rw [hd] at h
   simp only [cond_true] at h
   split at h
   ·rename_i hw
    cases h
    exact ⟨ops,k,K,rfl,ho,hd,hw⟩
   ·cases h
theorem ok_val {t:Option R} {v:AV} (h:evalAt X.C X.fn.ntmps p env H=some (v,H')) (ha:advE X.fn.ntmps p env v=some (p',eE)) (k:Ok X p' eE H' t):Ok X p env H t:=by
 unfold evalAt at h
 unfold advE at ha
 cases ho:operAt X.fn.ntmps p env with
 | none=>rw [ho] at h; cases h
 | some o =>
  rw [ho] at h ha
  simp only at h ha
  cases ha
  obtain ⟨ops,n,K,rfl,a,b,c⟩:=qAv ho
  exact qJ7 a b c (.inl h) k
theorem ok_chk {α:Type} {m:Option α} {f:α→Option R} (g:α→AV×Hp) (p':Pt) (E:α→Env) (h:evalAt X.C X.fn.ntmps p env H=m.map g) (ha:∀ x,advE X.fn.ntmps p env (g x).1=some (p',E x)) (k:∀ x,m=some x→Ok X p' (E x) (g x).2 (f x)):Ok X p env H (m.bind f):=by
 refine qA9 λx a=>?_
 subst a
 exact ok_val (v:=(g x).1) (H':=(g x).2) h (ha x) (k x rfl)
theorem qQ4 {α:Type} {m:Option α} {f:α→Option R} {fi:Nat} {args:List AV} (g:α→AV) (p':Pt) (E:α→Env) (hc:callAt X.fn.ntmps p env=some (fi,args)) (hp:purs args=true) (hg:∀ x,pur (g x)=true) (hf:∀ x,m=some x→PureOk X.P fi args (g x)) (ha:∀ x,advE X.fn.ntmps p env (g x)=some (p',E x)) (k:∀ x,m=some x→Ok X p' (E x) H (f x)):Ok X p env H (m.bind f):=by
 refine qA9 λx a=>?_
 have hpo:=qIz (hf x a) hp (hg x) H
 have hax:=ha x
 unfold advE at hax
 unfold callAt at hc
 cases ho:operAt X.fn.ntmps p env with
 | none=>rw [ho] at hax; cases hax
 | some o =>
  rw [ho] at hax hc
  simp only [Option.some.injEq,Prod.mk.injEq] at hax hc
  obtain ⟨b,e2⟩:=hax
  obtain ⟨ops,n,K,rfl,h,j,u⟩:=qAv ho
  have kx:=k x a
  rw [← b,← e2] at kx
  split at hc
  ·rename_i c hoc
   split at hc
   ·rename_i q hq
    split at hc
    ·rename_i fi' first caps hfv
     cases hc
     exact qJ7 h j u (.inr ⟨c,q,fi,first,caps,hoc,hq,hfv,hpo⟩) kx
    ·cases hc
   ·cases hc
  ·cases hc
def drawAt : Pt → Option Pt
 | .code (.region _ _ true) K=>some (resume K)
 | _=>none
def opsAt : Pt → Array Oper
 | .code (.region _ ops _) _=>ops
 | _ => #[]
noncomputable def rdOp (C:Cx) (env:Env) (hs:List Hp) (o:Oper) (j:Nat):List (Option (AV×Hp)×Option (AV×Hp)) :=
 match nth hs j with
 | some H=>[(opV C env H o,match o.dst with | some d=>some (look env d,H) | none=>opV C env H o)]
 | none=>[]
noncomputable def rdOps (C : Cx) (env : Env) (hs : List Hp) (o : Oper) : Nat → Nat → List (Option (AV × Hp) × Option (AV × Hp))
 | _,0=>[]
 | lo,n+1=>rdOp C env hs o lo++rdOps C env hs o (lo+1) n
noncomputable def rdL (C : Cx) (D : DP) (all : List Oper) (env : Env) (hs : List Hp) : Nat → List Oper → List (Nat × Nat × Nat) → List (Option (AV × Hp) × Option (AV × Hp))
 | c,o::l,(mk,lo,hi)::pl=>(bif Nat.beq (clsS D.S o) 1 && !(mk.testBit D.tI) && !(Nat.beq lo c && Nat.beq hi c) then (match wantedV o all env with | some true=>rdOps C env hs o lo (hi+1 - lo) | _=>[]) else [])++rdL C D all env hs (bif Nat.beq (clsS D.S o) 2 then c+1 else c) l pl
 | _,_,_=>[]
theorem qLo {C : Cx} {env : Env} {hs : List Hp} {o : Oper} : ∀ (n lo j : Nat) (H : Hp), lo ≤ j → j < lo + n → hs[j]? = some H → (opV C env H o, match o.dst with | some d => some (look env d, H) | none => opV C env H o) ∈ rdOps C env hs o lo n
 | 0,lo,j,H,b,c,_=>by omega
 | n+1,lo,j,H,b,c,a=>by
  rw [rdOps,List.mem_append]
  by_cases e:lo=j
  ·subst e
   left
   unfold rdOp
   rw [qCr,a]
   simp
  ·exact .inr (qLo n (lo+1) j H (by omega) (by omega) a)
theorem rdL_at {C : Cx} {D : DP} {all : List Oper} {env : Env} {hs : List Hp} : ∀ (l : List Oper) (pl : List (Nat × Nat × Nat)) (c i : Nat) (o : Oper) (mk lo hi : Nat), l[i]? = some o → pl[i]? = some (mk, lo, hi) → mk.testBit D.tI = false → clsS D.S o = 1 → wantedV o all env = some true → ¬ (lo = c + (l.take i).countP (λp => Nat.beq (clsS D.S p) 2) ∧ hi = c + (l.take i).countP (λp => Nat.beq (clsS D.S p) 2)) → ∀ j, lo ≤ j → j ≤ hi → ∀ H, hs[j]? = some H → (opV C env H o, match o.dst with | some d => some (look env d, H) | none => opV C env H o) ∈ rdL C D all env hs c l pl
 | [],pl,c,i,o,mk,lo,hi,ho,_,_,_,_,_,j,_,_,H,_=>by simp at ho
 | p::l,[],c,i,o,mk,lo,hi,ho,hp,_,_,_,_,j,_,_,H,_=>by simp at hp
 | p::l,(mk0,b,g)::pl,c,i,o,mk,lo,hi,ho,hp,hmk,hc,hw,n,j,q,x,H,hj=>by
  rw [rdL,List.mem_append]
  cases i with
  | zero =>
   simp at ho hp
   subst ho
   obtain ⟨rfl,rfl,rfl⟩:=hp
   left
   have e:Nat.beq (clsS D.S p) 1=true:=by rw [hc]; rfl
   have e2:(Nat.beq b c && Nat.beq g c)=false:=by
    cases h:(Nat.beq b c && Nat.beq g c) with
    | false=>rfl
    | true =>
     simp only [Bool.and_eq_true] at h
     refine absurd (a:=b=c∧g=c) ⟨Nat.eq_of_beq_eq_true h.1,Nat.eq_of_beq_eq_true h.2⟩ ?_
     simpa using n
   rw [e,e2,hw,hmk]
   exact qLo _ _ _ _ q (by omega) hj
  | succ i =>
   refine .inr (rdL_at l pl _ i o mk lo hi (by simpa using ho) (by simpa using hp) hmk hc hw ?_ j q x H hj)
   rw [List.take_succ_cons,List.countP_cons] at n
   cases u:Nat.beq (clsS D.S p) 2 with
   | true=>rw [u] at n; simp only [if_true] at n; simp only [cond_true]; omega
   | false=>rw [u] at n; simp only [Bool.false_eq_true,if_false] at n; simp only [cond_false]; omega
theorem qNy {C:Cx} {D:DP} {ops:Array Oper} {env:Env} {hs:List Hp} (hsome:(rdL C D ops.toList env hs 0 ops.toList D.pl).all (λq=>q.1.isSome)=true) (h:(rdL C D ops.toList env hs 0 ops.toList D.pl).map (·.1)=(rdL C D ops.toList env hs 0 ops.toList D.pl).map (·.2)):AlikeP C D ops env hs:=by
 intro i o mk lo hi ho hp hmk hc hw b j c g H hj
 have hm:=rdL_at (C:=C) (D:=D) _ _ 0 i o mk lo hi ho hp hmk hc hw (by simpa using b) j c g H hj
 have e:opV C env H o=(match o.dst with | some d=>some (look env d,H) | none=>opV C env H o):=by
  have key:∀ l:List (Option (AV×Hp)×Option (AV×Hp)),l.map (·.1)=l.map (·.2)→∀ q ∈ l,q.1=q.2:=by
   intro l
   induction l with
   | nil=>intro _ q hq; cases hq
   | cons x l ih =>
    intro hl q hq
    simp only [List.map_cons,List.cons.injEq] at hl
    rcases List.mem_cons.1 hq with rfl | hq
    ·exact hl.1
    ·exact ih hl.2 q hq
  exact key _ h _ hm
 have a:=List.all_eq_true.1 hsome _ hm
 cases hd:o.dst with
 | none =>
  simp only at a
  obtain ⟨⟨v,n⟩,hv⟩:=Option.isSome_iff_exists.1 a
  have:=qJ4 (by rw [← qEp (qL2 (S:=D.S) (o:=o) (by omega))]; exact hc) hv
  subst this
  exact ⟨v,hv,λd hd=>by cases hd⟩
 | some d =>
  rw [hd] at e
  exact ⟨_,e,λd' hd'=>by cases hd'; rfl⟩
theorem ok_draw {t:Option R} (D:DP) {hs:List Hp} (h:drawAt p=some p') (hti:Nat.ble (opsAt p).size D.tI=true) (hp:planOk D.S (opsAt p) D.pl=true) (hds:(opsAt p).toList.all (dstOk X.fn.ntmps)=true) (hD:OpsD X.P X.C D (opsAt p).toList (opsAt p).toList env H eE hs) (hsome:(rdL X.C D (opsAt p).toList eE (H::hs) 0 (opsAt p).toList D.pl).all (λq=>q.1.isSome)=true) (hq:(rdL X.C D (opsAt p).toList eE (H::hs) 0 (opsAt p).toList D.pl).map (·.1)=(rdL X.C D (opsAt p).toList eE (H::hs) 0 (opsAt p).toList D.pl).map (·.2)) (hl:lastH H hs=H') (k:Ok X p' eE H' t):Ok X p env H t:=by
 subst hl
 unfold drawAt at h
 split at h
 ·rename_i id ops K
  cases h
  intro r hr m0 c g m w a b fr j hd rw st
  have hge:=Nat.le_of_ble_eq_true hti
  show (Code.region id ops true).wp X.P _ a w
  refine qNk (id:=id) X.hti X.ord hds hp hD (qNy hsome hq) fr j hd rw ?_ λa m w w' hlt=>absurd hlt (Nat.not_lt.2 hge)
  rintro a' w' _ ⟨_,m',n,o,u,x,z⟩
  exact qAz (k r hr m0 c g m' w' a' b u x z n (st.trans b.2 o))
 ·cases h
noncomputable def runD (C:Cx) (D:DP) (all:List Oper) (k:Nat):List Oper→Env→Hp→Option (List Oper×Env×Hp×List Hp) :=
 Nat.rec (motive := λ_ => List Oper → Env → Hp → Option (List Oper × Env × Hp × List Hp)) (λl env H => some (l, env, H, []))
  (λ_ ih l env H=>match l with
   | []=>none
   | o::l=>bif Nat.beq (all.length - (l.length+1)) D.tI then none else match wantedV o all env with
    | none=>none
    | some false=>(match ih l (putV env o.dst (.tuple [])) H with
     | some (l',e,H',hs)=>some (l',e,H',bif Nat.beq (clsS D.S o) 2 then H::hs else hs)
     | none=>none)
    | some true=>(match evS C D.S env H o with
     | some (v,a)=>(match ih l (putV env o.dst v) a with
      | some (l',e,H',hs)=>some (l',e,H',bif Nat.beq (clsS D.S o) 2 then a::hs else hs)
      | none=>none)
     | none=>none)) k
theorem qA7 {P : Program} {C : Cx} {D : DP} {all : List Oper} {e : Env} {a : List Hp} : ∀ (k : Nat) {l l' : List Oper} {env eE : Env} {H H' : Hp} {hs : List Hp}, runD C D all k l env H = some (l', eE, H', hs) → OpsD P C D all l' eE H' e a → OpsD P C D all l env H e (hs ++ a)
 | 0,l,l',env,eE,H,H',hs,h,g=>by
  have h':some (l,env,H,([]:List Hp))=some (l',eE,H',hs):=h
  cases h'
  exact g
 | k+1,[],l',env,eE,H,H',hs,h,g=>by cases h
 | k+1,o::l,l',env,eE,H,H',hs,h,g=>by
  have h':(bif Nat.beq (all.length - (l.length+1)) D.tI then none else match wantedV o all env with
   | none=>none
   | some false=>(match runD C D all k l (putV env o.dst (.tuple [])) H with
    | some (l',e,H',hs)=>some (l',e,H',bif Nat.beq (clsS D.S o) 2 then H::hs else hs)
    | none=>none)
   | some true=>(match evS C D.S env H o with
    | some (v,b)=>(match runD C D all k l (putV env o.dst v) b with
     | some (l',e,H',hs)=>some (l',e,H',bif Nat.beq (clsS D.S o) 2 then b::hs else hs)
     | none=>none)
    | none=>none))=some (l',eE,H',hs):=h
  cases hix:Nat.beq (all.length - (l.length+1)) D.tI with
  | true=>rw [hix] at h'; cases h'
  | false =>
  rw [hix] at h'
  simp only [cond_false] at h'
  split at h'
  ·cases h'
  ·rename_i hw
   split at h'
   ·rename_i hr
    cases h'
    have:=OpsD.skip (P:=P) hix hw (qA7 k hr g)
    cases hc:Nat.beq (clsS D.S o) 2 <;> rw [hc] at this <;> exact this
   ·cases h'
  ·rename_i hw
   split at h'
   ·rename_i v b hv
    split at h'
    ·rename_i hr
     cases h'
     have:=OpsD.val (P:=P) hix hw (.inl hv) (qA7 k hr g)
     cases hc:Nat.beq (clsS D.S o) 2 <;> rw [hc] at this <;> exact this
    ·cases h'
   ·cases h'
noncomputable def headO (all l:List Oper) (env:Env):Option Oper:=match l with | o::_=>(match wantedV o all env with | some true=>some o | _=>none) | []=>none
noncomputable def evalD (C:Cx) (D:DP) (all l:List Oper) (env:Env) (H:Hp):Option (AV×Hp):=match headO all l env with | some o=>evS C D.S env H o | none=>none
noncomputable def advD (D:DP) (all l:List Oper) (env:Env) (v:AV) (H:Hp):Option (List Oper×Env×List Hp):=bif Nat.beq (all.length - l.length) D.tI then none else match headO all l env with | some o=>some (l.tail,putV env o.dst v,bif Nat.beq (clsS D.S o) 2 then [H] else []) | none=>none
noncomputable def callD (all l:List Oper) (env:Env):Option (Nat×List AV) :=
 match headO all l env with
 | some o=>match o.op with
  | .call c=>match c.callee with
   | .value g=>match opnd env g with
    | .func f first caps=>some (f,first++opnds env c.args.toList++caps)
    | _=>none
   | _=>none
  | _=>none
 | none=>none
theorem qHa {all l:List Oper} {o:Oper} (h:headO all l env=some o):∃ r,l=o::r∧wantedV o all env=some true:=by
 unfold headO at h
 split at h
 ·rename_i o' r
  split at h
  ·rename_i hw; cases h; exact ⟨r,rfl,hw⟩
  ·cases h
 ·cases h
theorem qI3 {P:Program} {C:Cx} {D:DP} {all l l':List Oper} {e:Env} {hs a:List Hp} {o:Oper} {v:AV} (ho:headO all l env=some o) (b:StpS P C D.S env H o v H') (ha:advD D all l env v H'=some (l',eE,hs)) (g:OpsD P C D all l' eE H' e a):OpsD P C D all l env H e (hs++a):=by
 unfold advD at ha
 cases hix:Nat.beq (all.length - l.length) D.tI with
 | true=>rw [hix] at ha; cases ha
 | false =>
 rw [hix,ho] at ha
 cases ha
 obtain ⟨r,rfl,hw⟩:=qHa ho
 have:=OpsD.val hix hw b g
 cases hc:Nat.beq (clsS D.S o) 2 <;> rw [hc] at this <;> exact this
theorem qAb {P:Program} {C:Cx} {D:DP} {all l l':List Oper} {e:Env} {hs a:List Hp} {α:Type} {m:Option α} {x:α} (g:α→AV×Hp) (h:evalD C D all l env H=m.map g) (b:m=some x) (ha:advD D all l env (g x).1 (g x).2=some (l',eE,hs)) (k:OpsD P C D all l' eE (g x).2 e a):OpsD P C D all l env H e (hs++a):=by
 subst b
 unfold evalD at h
 cases ho:headO all l env with
 | none=>rw [ho] at h; cases h
 | some o =>
  rw [ho] at h
  exact qI3 (v:=(g x).1) ho (.inl h) ha k
theorem qAu {P:Program} {C:Cx} {D:DP} {all l l':List Oper} {e:Env} {hs a:List Hp} {fi:Nat} {args:List AV} {v:AV} (hc:callD all l env=some (fi,args)) (hp:purs args=true) (hv:pur v=true) (hf:PureOk P fi args v) (ha:advD D all l env v H=some (l',eE,hs)) (k:OpsD P C D all l' eE H e a):OpsD P C D all l env H e (hs++a):=by
 have hpo:=qIz hf hp hv H
 unfold callD at hc
 cases ho:headO all l env with
 | none=>rw [ho] at hc; cases hc
 | some o =>
  rw [ho] at hc
  simp only at hc
  split at hc
  ·rename_i c hoc
   split at hc
   ·rename_i q hq
    split at hc
    ·rename_i fi' first caps hfv
     cases hc
     exact qI3 (v:=v) ho (.inr ⟨c,q,fi,first,caps,hoc,hq,hfv,hpo⟩) ha k
    ·cases hc
   ·cases hc
  ·cases hc
noncomputable def mkT (n:Nat) (l:List Blk):Tr :=
 List.rec (motive:=λ_=>Nat→Tr) (λ_ => .nil) (λb _ ih n=>PT.set depth (ih (n+1)) n b) l n
theorem qKj (n:Nat):mkT n [] = .nil:=rfl
theorem qBh (n:Nat) (b:Blk) (l:List Blk):mkT n (b::l)=PT.set depth (mkT (n+1) l) n b:=rfl
noncomputable def mkH (l:List Blk):Hp:=⟨l.length,mkT 0 l⟩
theorem qB7 : ∀ (l : List Blk) (n i : Nat), n + l.length ≤ roots → (mkT n l).get i = if n ≤ i then l[i - n]? else none
 | [],n,i,_=>by
  rw [qKj]
  simp only [List.getElem?_nil,ite_self]
  exact PT.get_nil i
 | b::l,n,i,h=>by
  simp only [List.length_cons] at h
  by_cases e:n=i
  ·subst e
   rw [qBh,Tr.get_set_eq _ _ _ _ (by unfold roots at h; unfold depth; omega)]
   simp
  ·rw [qBh,Tr.get_set_ne _ _ _ _ _ e,qB7 l (n+1) i (by omega)]
   by_cases a:n≤i
   ·rw [if_pos (by omega),if_pos a,show i - n=(i - (n+1))+1 by omega,List.getElem?_cons_succ]
   ·rw [if_neg (by omega),if_neg a]
mutual
def below (n : Nat) : AV → Bool
 | .ptr r _ _=>Nat.blt r n
 | .slice r _ _ _ _=>Nat.blt r n
 | .own r _ _=>Nat.blt r n
 | .agg xs=>belows n xs
 | .tuple xs=>belows n xs
 | .func _ a b=>belows n a && belows n b
 | .iface _ v=>below n v
 | _=>true
def belows (n : Nat) : List AV → Bool
 | []=>true
 | x::xs=>below n x && belows n xs
end
def Mp.cut (m:Mp) (n:Nat):Mp:=⟨λr v=>if r < n then m r v else none,m.froz⟩
mutual
theorem qF7 {m : Mp} {n : Nat} : ∀ (x : AV) (c : Value), below n x = true → VR m x c → VR (m.cut n) x c
 | .top,_,_,_=>by simp only [VR]
 | .int ..,_,_,e=>by simpa only [VR] using e
 | .resid ..,_,_,e=>by simpa only [VR] using e
 | .bool _,_,_,e=>by simpa only [VR] using e
 | .str _,_,_,e=>by simpa only [VR] using e
 | .nilp,_,_,e=>by simpa only [VR] using e
 | .nils,_,_,e=>by simpa only [VR] using e
 | .nilf,_,_,e=>by simpa only [VR] using e
 | .nili,_,_,e=>by simpa only [VR] using e
 | .vec ..,_,_,e=>by simp only [VR] at e ⊢; exact e
 | .vptr ..,_,_,e=>by simp only [VR] at e ⊢; exact e
 | .ptr r v off,_,h,e=>by
  simp only [VR,below,Nat.blt_eq] at e h ⊢
  obtain ⟨B,N,g,j⟩:=e
  exact ⟨B,N,by show (if r < n then m r v else none)=_; rw [if_pos h]; exact g,j⟩
 | .slice r v off len sz,_,h,e=>by
  simp only [VR,below,Nat.blt_eq] at e h ⊢
  obtain ⟨B,N,cap,g,j⟩:=e
  exact ⟨B,N,cap,by show (if r < n then m r v else none)=_; rw [if_pos h]; exact g,j⟩
 | .own r len sz,_,h,e=>by
  simp only [VR,below,Nat.blt_eq] at e h ⊢
  rcases e with e | ⟨B,N,cap,g,j⟩
  ·exact .inl e
  ·exact .inr ⟨B,N,cap,by show (if r < n then m r (len * sz) else none)=_; rw [if_pos h]; exact g,j⟩
 | .agg xs,c,h,e=>by
  simp only [VR] at e ⊢
  obtain ⟨ys,g,j⟩:=e
  exact ⟨ys,g,qBf xs _ (by simpa only [below] using h) j⟩
 | .tuple xs,c,h,e=>by
  simp only [VR] at e ⊢
  obtain ⟨ys,g,j⟩:=e
  exact ⟨ys,g,qBf xs _ (by simpa only [below] using h) j⟩
 | .func f a b,c,h,e=>by
  simp only [VR] at e ⊢
  simp only [below,Bool.and_eq_true] at h
  obtain ⟨ys,zs,g,j,o⟩:=e
  exact ⟨ys,zs,g,qBf a _ h.1 j,qBf b _ h.2 o⟩
 | .iface t v,c,h,e=>by
  simp only [VR] at e ⊢
  obtain ⟨d,g,j⟩:=e
  exact ⟨d,g,qF7 v _ (by simpa only [below] using h) j⟩
theorem qBf {m : Mp} {n : Nat} : ∀ (xs : List AV) (cs : List Value), belows n xs = true → VRs m xs cs → VRs (m.cut n) xs cs
 | [],_,_,e=>by simpa only [VRs] using e
 | x::xs,cs,h,e=>by
  simp only [VRs] at e ⊢
  simp only [belows,Bool.and_eq_true] at h
  obtain ⟨y,ys,rfl,g,j⟩:=e
  exact ⟨y,ys,rfl,qF7 x y h.1 g,qBf xs ys h.2 j⟩
end
mutual
theorem qJ {n : Nat} : ∀ x : AV, pur x = true → below n x = true
 | .top,_ | .int ..,_ | .resid ..,_ | .bool _,_ | .str _,_ | .nilp,_ | .nils,_ | .nilf,_ | .nili,_ | .vec ..,_ | .vptr ..,_=>by simp [below]
 | .ptr ..,h | .slice ..,h | .own ..,h=>by simp [pur] at h
 | .agg xs,h=>by simp only [pur,below] at h ⊢; exact qA3 xs h
 | .tuple xs,h=>by simp only [pur,below] at h ⊢; exact qA3 xs h
 | .func _ a b,h=>by simp only [pur,below,Bool.and_eq_true] at h ⊢; exact ⟨qA3 a h.1,qA3 b h.2⟩
 | .iface _ v,h=>by simp only [pur,below] at h ⊢; exact qJ v h
theorem qA3 {n : Nat} : ∀ xs : List AV, purs xs = true → belows n xs = true
 | [],_=>rfl
 | x::xs,h=>by simp only [purs,belows,Bool.and_eq_true] at h ⊢; exact ⟨qJ x h.1,qA3 xs h.2⟩
end
def belowE (n : Nat) : Env → Bool
 | []=>true
 | p::l=>below n p.2 && belowE n l
theorem qDp {n : Nat} : ∀ {e : Env} (t : Nat), belowE n e = true → below n (look e t) = true
 | [],t,_=>rfl
 | p::l,t,h=>by
  simp only [belowE,Bool.and_eq_true] at h
  rw [qAq]
  split
  ·exact h.1
  ·exact qDp t h.2
def BB (n : Nat) : List Blk → Prop
 | []=>True
 | b::l=>belows n b.cells=true∧BB n l
theorem qO0 {n : Nat} : ∀ {l : List Blk} {i : Nat} {b : Blk}, BB n l → l[i]? = some b → belows n b.cells = true
 | [],i,b,_,h=>by simp at h
 | c::l,i,b,a,h=>by
  cases i with
  | zero=>simp at h; subst h; exact a.1
  | succ i=>exact qO0 a.2 (by simpa using h)
theorem qB2 {n : Nat} : ∀ {xs : List AV} (k : Nat), belows n xs = true → belows n (xs.take k) = true
 | [],k,_=>by simp [belows]
 | x::xs,0,_=>by simp [belows]
 | x::xs,k+1,h=>by
  simp only [belows,List.take_succ_cons,Bool.and_eq_true] at h ⊢
  exact ⟨h.1,qB2 k h.2⟩
theorem qAf {t:Option R} (l g:List Blk) (o:Nat.ble X.n0 l.length=true) (u:Nat.ble (l.length+g.length) roots=true) (he:belowE l.length env=true) (z:BB l.length l) (k:Ok X p env (mkH l) t):Ok X p env (mkH (l++g)) t:=by
 intro r hr m0 D E m w a x fr hnt hd rw st
 have u:l.length+g.length≤roots:=Nat.le_of_ble_eq_true u
 have hget:∀ i,i < l.length→(mkH (l++g)).t.get i=(mkH l).t.get i:=by
  intro i hi
  show (mkT 0 (l++g)).get i=(mkT 0 l).get i
  rw [qB7 _ _ _ (by simp; omega),qB7 _ _ _ (by omega)]
  simp [List.getElem?_append_left hi]
 have hcut:∀ {r v q},(m.cut l.length) r v=some q→r < l.length∧m r v=some q:=by
  intro r v q h
  have h:(if r < l.length then m r v else none)=some q:=h
  by_cases e:r < l.length
  ·rw [if_pos e] at h; exact ⟨e,h⟩
  ·rw [if_neg e] at h; cases h
 have hnone:∀ i,l.length≤i→(mkH l).t.get i=none:=by
  intro i hi
  show (mkT 0 l).get i=none
  rw [qB7 _ _ _ (by omega)]
  simp [hi]
 refine k r hr m0 D E (m.cut l.length) w a x ?_ hnt hd ⟨?_,?_,?_,hnone,?_,rw.frz,?_,rw.ffin,rw.base_le,?_⟩ ⟨⟨λr v q hq=>(by
  have j:=x.1 r v q hq
  have n:=Nat.le_of_ble_eq_true o
  show (if r < l.length then m r v else none)=some q
  rw [if_pos (by omega)]
  exact st.sub.1 r v q hq),st.sub.2⟩,?_,st.fext,st.size,st.os,st.tape,st.output,st.same⟩
 ·intro t ht
  obtain ⟨c,j,n⟩:=fr t ht
  exact ⟨c,j,qF7 _ _ (qDp t he) n⟩
 ·intro r b v B N hb' hm j n
  obtain ⟨hlt,hm⟩:=hcut hm
  obtain ⟨cs,ty,fr',I,J,K,M,O⟩:=rw.blk r b v B N (by rw [hget r hlt]; exact hb') hm j n
  have hbl:l[r]? = some b:=by
   have hb':(mkT 0 l).get r=some b:=hb'
   rw [qB7 _ _ _ (by omega)] at hb'
   simpa using hb'
  exact ⟨cs,ty,fr',I,J,K,M,qBf _ _ (qB2 v (qO0 z hbl)) O⟩
 ·intro r v B N hm
  obtain ⟨hlt,hm⟩:=hcut hm
  rw [← hget r hlt]
  exact rw.dom r v B N hm
 ·intro r v B N r' v' N' hm hm' hB
  exact rw.sep _ _ _ _ _ _ _ (hcut hm).2 (hcut hm').2 hB
 ·intro r v B N hm
  exact rw.vle _ _ _ _ (hcut hm).2
 ·intro i B cells r v N b hi hm hb'
  obtain ⟨hlt,hm⟩:=hcut hm
  exact rw.fsep i B cells r v N b hi hm (by rw [hget r hlt]; exact hb')
 ·show l.length≤roots
  omega
 ·intro r v B N hm
  exact st.ext r v B N (hcut hm).2
theorem qGu {t:Option R} (l:List Blk) (d sz:Nat) (g:Nat.blt l.length roots=true) (h:look env d = .nils) (k:Ok X p ((d,.own l.length 0 sz)::env) (mkH (l++[⟨[],0,false⟩])) t):Ok X p env (mkH l) t:=by
 intro r hr m0 u j m w a x fr hnt hd rw st
 have g:l.length < roots:=by simpa using g
 have hg:RW m ⟨l.length+1,Tr.set depth (mkH l).t l.length ⟨[],0,false⟩⟩ w j:=rw.ghost g
 have hH:RW m (mkH (l++[⟨[],0,false⟩])) w j:=by
  have e:∀ i,(mkH (l++[⟨[],0,false⟩])).t.get i=(Tr.set depth (mkH l).t l.length ⟨[],0,false⟩).get i:=by
   intro i
   show (mkT 0 (l++[⟨[],0,false⟩])).get i=(Tr.set depth (mkT 0 l) l.length ⟨[],0,false⟩).get i
   rw [qB7 _ _ _ (by simp; omega)]
   by_cases ei:l.length=i
   ·subst ei
    rw [Tr.get_set_eq _ _ _ _ (by unfold roots at g; unfold depth; omega)]
    simp
   ·rw [Tr.get_set_ne _ _ _ _ _ ei,qB7 _ _ _ (by omega)]
    by_cases n:i < l.length
    ·simp [List.getElem?_append_left n]
    ·rw [List.getElem?_eq_none (by simp; omega),List.getElem?_eq_none (by omega)]
  have en:(mkH (l++[⟨[],0,false⟩])).next=l.length+1:=by simp [mkH]
  refine ⟨λr b v B N o=>hg.blk r b v B N (by rw [← e]; exact o),λr v B N hm=>by rw [e]; exact hg.dom r v B N hm,hg.sep,λr hr=>by rw [e]; exact hg.fresh r (by rw [en] at hr; exact hr),hg.vle,hg.frz,λi B cells r v N b hi hm o=>hg.fsep i B cells r v N b hi hm (by rw [← e]; exact o),hg.ffin,hg.base_le,by rw [en]; exact g⟩
 refine k r hr m0 u j m w a x ?_ hnt hd hH st
 intro t ht
 by_cases e:d=t
 ·subst e
  obtain ⟨c,n,q⟩:=fr d (by rw [h]; intro e; cases e)
  rw [h] at q
  simp only [VR] at q
  refine ⟨c,n,?_⟩
  rw [qAq,if_pos rfl]
  unfold VR
  exact .inl ⟨rfl,q⟩
 ·have he:look ((d,AV.own l.length 0 sz)::env) t=look env t:=by rw [qAq,if_neg e]
  rw [he] at ht ⊢
  exact fr t ht
theorem qK8 {P : Program} {C : Cx} (hti : ∀ t i, C.ti t = some i → mkTi P t = some i) {m : Mp} {H : Hp} {w : World} {base : Nat} {env : Env} {a : Act} (fr : FR m env a.tmps) (rw : RW m H w base) (g : ResultVar → Sem Value) (n : ∀ t, g (.tmp t) = pure (a.tmps.getD t undef)) (o : ∀ p t, g (.cell p t) = do loadVar t (← asAddr (a.tmps.getD p undef))) : ∀ (l : List ResultVar) (xs : List AV), resV C env H l = some xs →
 ∃ vs:List Value,(l.mapM g).run P w = .ok vs w∧VRs m xs vs
 | [],xs,h=>by simp only [resV] at h; cases h; exact ⟨[],by simp,by simp [VRs]⟩
 | .tmp t::l,xs,h=>by
  simp only [resV] at h
  cases hl:resV C env H l with
  | none=>rw [hl] at h; cases h
  | some ys =>
   rw [hl] at h
   cases h
   obtain ⟨vs,u,z⟩:=qK8 hti fr rw g n o l ys hl
   refine ⟨a.tmps.getD t undef::vs,?_,by simp only [VRs]; exact ⟨_,_,rfl,fr.getD t,z⟩⟩
   simp only [List.mapM_cons,n,Sem.run_bind,Sem.run_pure,Result.andThen_ok,u]
 | .cell p t::l,xs,h=>by
  simp only [resV] at h
  split at h
  ·rename_i i r v off ys ht hp hl
   split at h
   ·rename_i cs hcs
    split at h
    ·rename_i x E
     cases h
     obtain ⟨vs,u,z⟩:=qK8 hti fr rw g n o l ys hl
     have hv:=fr.getD p
     rw [hp] at hv
     have hld:∃ c,(loadVar t (match a.tmps.getD p undef with | .pointer (some b)=>b | _=>default)).run P w = .ok c w∧VR m x c∧∃ b,a.tmps.getD p undef = .pointer (some b):=by
      have hv':=hv
      simp only [VR] at hv'
      obtain ⟨B,N,hm,e⟩:=hv'
      obtain ⟨c,j,q⟩:=qKe (P:=P) hti ht hv hcs E rw
      rw [e] at j
      rw [e]
      exact ⟨c,j,q,_,rfl⟩
     obtain ⟨c,j,q,b,D⟩:=hld
     rw [D] at j
     refine ⟨c::vs,?_,by simp only [VRs]; exact ⟨_,_,rfl,q,z⟩⟩
     simp only [List.mapM_cons,o,Sem.run_bind,D,asAddr,Sem.run_pure,Result.andThen_ok,j,u]
    ·cases h
   ·cases h
  ·cases h
theorem qD9 {P : Program} {C : Cx} (hti : ∀ t i, C.ti t = some i → mkTi P t = some i) {m : Mp} {H : Hp} {w : World} {base : Nat} {env : Env} {a : Act} {fn : Func} {xs : List AV} (fr : FR m env a.tmps) (rw : RW m H w base) (h : resV C env H fn.results.toList = some xs) :
 ∃ v,(results fn a.tmps).run P w = .ok v w∧VR m (oneRes xs) v:=by
 have key:∀ g:ResultVar→Sem Value,(∀ t,g (.tmp t)=pure (a.tmps.getD t undef))→(∀ p t,g (.cell p t)=do loadVar t (← asAddr (a.tmps.getD p undef)))→∃ vs:List Value,(fn.results.mapM g).run P w = .ok vs.toArray w∧VRs m xs vs:=by
  intro g c j
  obtain ⟨vs,n,b⟩:=qK8 (P:=P) hti fr rw g c j _ _ h
  exact ⟨vs,by rw [Array.mapM_eq_mapM_toList,Sem.run_map,n]; rfl,b⟩
 unfold results
 obtain ⟨vs,hm,b⟩:=key (fun | .tmp t=>pure (a.tmps.getD t undef) | .cell p t=>do loadVar t (← asAddr (a.tmps.getD p undef))) (λ_=>rfl) (λ_ _=>rfl)
 have hlen:=VRs.len b
 refine ⟨if h:vs.toArray.size=1 then vs.toArray[0] else .tuple vs.toArray,?_,?_⟩
 ·rw [Sem.run_bind]
  erw [hm]
  rfl
 ·unfold oneRes
  split
  ·simp only [VRs] at b
   obtain ⟨y,ys,rfl,o,rfl⟩:=b
   simpa using o
  ·rename_i hne
   have:¬ vs.toArray.size=1:=by
    intro e
    have q:xs.length=1:=by simpa [hlen] using e
    obtain ⟨x,u⟩:=List.length_eq_one_iff.1 q
    exact hne x u
   rw [dif_neg this]
   simp only [VR]
   exact ⟨_,rfl,by simpa using b⟩
theorem ok_ret {r:R} {xs:List AV} {v:AV} (D:X.n0=0) (hfin:X.fin r=H0) (ht:X.thr r=none) (hr:resV X.C env H X.fn.results.toList=some xs) (hz:FzG 0 H [oneRes xs] [v]) (hv:X.enc r=v):Ok X .fin env H (some r):=by
 intro r' e m0 x g m w a E fr hnt hd rw st
 cases e
 have hnone:∀ r v,m0 r v=none:=by
  intro r v
  cases e:m0 r v with
  | none=>rfl
  | some p=>have:=E.1 r v p e; omega
 obtain ⟨c,n,o⟩:=qD9 (P:=X.P) X.hti fr rw hr
 have I:FOk 0 m m.froz w g:=by
  refine ⟨λi B cells hi=>rw.frz i B cells hi,rw.ffin,λi B cells h => .inl h,λ_ _ h=>h⟩
 obtain ⟨F',u,J,j⟩:=fz_ok rw hz I (cs:=[c]) (by simp only [VRs]; exact ⟨c,[],rfl,o,rfl⟩)
 simp only [VRs] at j
 obtain ⟨c',cs',e,j,_⟩:=j
 cases e
 have fin:∃ m' c',Ending.returned c = .returned c'∧RW m' (X.fin r) w g∧St m0 x g m' w∧VR m' (X.enc r) c':=by
  rw [hfin]
  refine ⟨⟨λ_ _=>none,F'⟩,c,rfl,⟨?_,?_,?_,λ_ _=>rfl,?_,u.ok,?_,u.fin,rw.base_le,by show 0≤roots; unfold roots; omega⟩,⟨⟨λr v q hq=>(by rw [hnone] at hq; cases hq),λi p hp=>J i p (st.sub.2 i p hp)⟩,?_,?_,st.size,st.os,st.tape,st.output,st.same⟩,by rw [hv]; exact j⟩
  ·intro r b v B N K hm; cases hm
  ·intro r v B N hm; cases hm
  ·intro r v B N r' v' N' hm; cases hm
  ·intro r v B N hm; cases hm
  ·intro i B cells r v N b _ hm; cases hm
  ·intro r v B N hm; cases hm
  ·intro i B cells hi
   rcases u.new i B cells hi with h | h
   ·exact st.fext i B cells h
   ·obtain ⟨n,r,v,N,_,hm⟩:=h
    rcases st.ext r v B N hm with ⟨M,O,z⟩ | o
    ·rw [hnone] at z; cases z
    ·exact .inr ⟨n,.inr o⟩
 have e:EndT (X.thr r) (X.enc r) (X.fin r) m0 x g (.returned c) w:=by rw [ht]; exact fin
 exact qHz hd n e
theorem qH1 : ∀ (xs : List AV) (i t : Nat), look (args0 i xs) t = if i ≤ t then (xs[t - i]?).getD .top else .top
 | [],i,t=>by simp [args0,look_nil]
 | x::xs,i,t=>by
  rw [args0,qB8,qH1 xs (i+1) t]
  by_cases e:i=t
  ·subst e; simp
  ·rw [if_neg e]
   by_cases h:i≤t
   ·rw [if_pos (by omega),if_pos h,show t - i=(t - (i+1))+1 by omega]; simp
   ·rw [if_neg (by omega),if_neg h]
theorem qLh {m:Mp} {xs:List AV} {args rest:Array Value} (h:VRs m xs args.toList):FR m (args0 0 xs) (args++rest):=by
 intro t ht
 rw [qH1] at ht ⊢
 simp only [Nat.zero_le,if_true,Nat.sub_zero] at ht ⊢
 cases a:xs[t]? with
 | none=>rw [a] at ht; exact absurd rfl ht
 | some x =>
  obtain ⟨c,hc,hv⟩:=VRs.get h t x a
  rw [Array.getElem?_toList] at hc
  obtain ⟨hlt,_⟩:=Array.getElem?_eq_some_iff.1 hc
  exact ⟨c,by rw [Array.getElem?_append_left hlt]; exact hc,by simpa using hv⟩
def bodyAt (fn:Func):Pt:=match fn.body with | some c => .code c [] | none => .fin
theorem qA4 (X:Fx R) {f:Nat} (hfin:∀ r,X.fin r=H0∧X.thr r=none) (hf:X.P.funcs[f]? = some X.fn) (b:(X.fn.name == "runtime.NumGoroutine")=false) (a:X.fn.body.isSome=true) {xs:List AV} {t:Option R} (h:Ok X (bodyAt X.fn) (args0 0 xs) (mkH []) t) {r:R} (ht:t=some r):PureOk X.P f xs (X.enc r):=by
 refine ⟨?_,X.fn,hf,b,a⟩
 intro m0 w args g hargs rw
 cases hc:X.fn.body with
 | none=>rw [hc] at a; cases a
 | some c =>
  have e:bodyAt X.fn = .code c []:=by simp [bodyAt,hc]
  rw [e] at h
  have:=h r ht m0 w w.heap.size m0 w { tmps:=args++Array.replicate (X.fn.ntmps - args.size) undef,defers:=[] } ⟨λr v p e=>(by rw [g] at e; cases e),Nat.le_refl _⟩ (qLh hargs) (by simp; omega) rfl rw (St.refl _ _ _)
  have e2:=qIy hf hc this
  rw [(hfin r).1,(hfin r).2] at e2
  exact e2
theorem qA2 (X:Fx R) {f:Nat} (hf:X.P.funcs[f]? = some X.fn) (j:(X.fn.name == "runtime.NumGoroutine")=false) (a:X.fn.body.isSome=true) {L:List Blk} (g:X.n0=L.length) {xs:List AV} {t:Option R} (h:Ok X (bodyAt X.fn) (args0 0 xs) (mkH L) t) {r:R} (ht:t=some r):CallT X.P f xs (mkH L) (X.thr r) (X.enc r) (X.fin r):=by
 refine ⟨?_,X.fn,hf,j,a⟩
 intro m w base args hargs rw
 cases hc:X.fn.body with
 | none=>rw [hc] at a; cases a
 | some c =>
  have e:bodyAt X.fn = .code c []:=by simp [bodyAt,hc]
  rw [e] at h
  have:=h r ht m w base m w { tmps:=args++Array.replicate (X.fn.ntmps - args.size) undef,defers:=[] } ⟨λr v p e=>(by
   obtain ⟨b,a,_⟩:=rw.dom r v p.1 p.2 e
   rw [g]
   exact rw.lt a),rw.base_le⟩ (qLh hargs) (by simp; omega) rfl rw (St.refl _ _ _)
  exact qIy hf hc this
theorem law_walk {P : Program} {n : Nat} {xs : List AV} {args : Array Value} (h : PureOk P n xs (.bool true)) (hargs : VRs ⟨λ_ _ => none, λ_ => none⟩ xs args.toList) (w : World) :
 Calls P n args w λe W'=>e = .returned (.bool true)∧RowKit.Below w.heap.size w W':=by
 refine Calls.mono (h.1 ⟨λ_ _=>none,λ_=>none⟩ w args (λ_ _=>rfl) hargs ?_) ?_
 ·refine ⟨?_,?_,?_,λ_ _=>rfl,?_,?_,?_,⟨0,λ_ _=>rfl⟩,Nat.le_refl _,by show 0≤roots; unfold roots; omega⟩
  ·intro r b v B N j hm; cases hm
  ·intro r v B N hm; cases hm
  ·intro r v B N r' v' N' hm; cases hm
  ·intro r v B N hm; cases hm
  ·intro i B cells hi; cases hi
  ·intro i B cells r v N b _ hm; cases hm
 ·rintro e w' ⟨m',c,rfl,o,g,a⟩
  simp only [VR] at a
  exact ⟨by rw [a],g.below (Nat.le_refl _)⟩
end
def nthS (s:LN) (k:Int):Option Int:=if 0≤k then (match s[k.toNat]? with | some b=>some (b:Int) | none=>none) else none
theorem idxH {e:Option (AV×Hp)} {s:LN} {k:Int} {H:Hp} (h:e=(if 0≤k then (match s[k.toNat]? with | some b=>some (AV.int .u8 (b:Int),H) | none=>none) else none)):e=(nthS s k).map λc=>(AV.int .u8 c,H):=by
 rw [h]; unfold nthS
 split
 ·cases s[k.toNat]? <;> rfl
 ·rfl
def bnd (x:Option Int) (y d:Nat):Option Nat:=match x with | none=>some d | some i=>if 0≤i∧i≤y then some i.toNat else none
def subL {α:Type} (l:List α) (lo hi:Option Int):Option (List α) :=
 match bnd hi l.length l.length with
 | some h=>(match bnd lo h 0 with | some b=>some ((l.take h).drop b) | none=>none)
 | none=>none
theorem qHs (x:Option Int) (k:IntKind) (y d:Nat):boundO (x.map (AV.int k)) y d=bnd x y d:=by cases x <;> rfl
theorem subH {e:Option (AV×Hp)} {s:LN} (lo hi:Option Int) {H:Hp} (h:e=(match boundO (hi.map (AV.int .i64)) s.length s.length with | some h=>(match boundO (lo.map (AV.int .i64)) h 0 with | some l=>some (AV.str ((s.take h).drop l)) | none=>none) | none=>none).map λv=>(v,H)):e=(subL s lo hi).map λx=>(AV.str x,H):=by
 rw [h,qHs]; unfold subL
 cases bnd hi s.length s.length with
 | none=>rfl
 | some h =>
  simp only
  rw [qHs]
  cases bnd lo h 0 <;> rfl
def catS (a b:LN):Option LN:=if a.length+b.length < 2 ^ 40 then some (a++b) else none
theorem catH {e:Option (AV×Hp)} {a b:LN} {H:Hp} (h:e=(if a.length+b.length < 2 ^ 40 then some (AV.str (a++b)) else none).map λv=>(v,H)):e=(catS a b).map λx=>(AV.str x,H):=by
 rw [h]; unfold catS; split <;> rfl
def nthL {α:Type} (l:List α) (k:Int):Option α:=if 0≤k then l[k.toNat]? else none
theorem qB1 {α : Type} {enc : α → List AV} {sz : Nat} (h : ∀ x, (enc x).length = sz) : ∀ l : List α, (l.flatMap enc).length = l.length * sz
 | []=>by simp
 | x::l=>by rw [List.flatMap_cons,List.length_append,h,qB1 h l,List.length_cons,Nat.add_mul]; omega
theorem qHm {α : Type} {enc : α → List AV} {sz : Nat} (h : ∀ x, (enc x).length = sz) : ∀ (l : List α) (k : Nat) (x : α), l[k]? = some x → ((l.flatMap enc).drop (k * sz)).take sz = enc x
 | [],k,x,e=>by simp at e
 | y::l,k,x,e=>by
  rw [List.flatMap_cons]
  cases k with
  | zero =>
   simp at e
   subst e
   rw [Nat.zero_mul,List.drop_zero,List.take_append_of_le_length (by rw [h]; exact Nat.le_refl _),List.take_of_length_le (by rw [h]; exact Nat.le_refl _)]
  | succ k =>
   rw [List.drop_append,List.drop_of_length_le (by rw [h,Nat.add_mul]; omega),List.nil_append,h,show (k+1) * sz - sz=k * sz by rw [Nat.add_mul]; omega]
   exact qHm h l k x (by simpa using e)
theorem vidxH {α:Type} {enc:α→List AV} {sz:Nat} (hsz:∀ x,(enc x).length=sz) {e:Option (AV×Hp)} {l:List α} {k:Int} {H:Hp} (h:e=(if sz=sz∧0≤k∧k < ((l.length:Nat):Int) then some (AV.vptr (((l.flatMap enc).drop (k.toNat * sz)).take sz),H) else none)):e=(nthL l k).map λx=>(AV.vptr (enc x),H):=by
 rw [h]; unfold nthL
 by_cases a:0≤k
 ·rw [if_pos a]
  by_cases b:k < (l.length:Int)
  ·rw [if_pos ⟨rfl,a,b⟩]
   have hlt:k.toNat < l.length:=by omega
   rw [List.getElem?_eq_getElem hlt,qHm hsz l k.toNat _ (List.getElem?_eq_getElem hlt)]
   rfl
  ·rw [if_neg (λhh=>b hh.2.2),List.getElem?_eq_none (by omega)]
   rfl
 ·rw [if_neg (λhh=>a hh.2.1),if_neg a]; rfl
def nthA {α:Type} (l:List α) (n:Nat) (k:Int):Option α:=if 0≤k∧k < (n:Int) then l[k.toNat]? else none
theorem aidxH {α:Type} (enc:α→AV) {e:Option (AV×Hp)} (l:List α) {n:Nat} {k:Int} {H:Hp} (h:e=(if 0≤k∧k < (n:Int) then ((l.map enc)[k.toNat * 1]?).map λv=>(v,H) else none)):e=(nthA l n k).map λx=>(enc x,H):=by
 rw [h]; unfold nthA
 split
 ·rw [Nat.mul_one,List.getElem?_map]
  cases l[k.toNat]? <;> rfl
 ·rfl
def andI (k:IntKind) (x y:Int):Int:=fW k (BitVec.ofInt k.bits x &&& BitVec.ofInt k.bits y).toNat
def maxI (x y:Int):Int:=if x < y then y else x
def appS {α:Type} (bytes:Nat) (l x:List α):Option (List α):=if (l.length+x.length) * bytes≤2 ^ 40∧l.length+x.length≤2 ^ 40 then some (l++x) else none
theorem qFn {L:List Blk} {r:Nat} {b:Blk} (hl:Nat.ble L.length roots=true) (h:L[r]? = some b):(mkH L).t.get r=some b:=by
 show (mkT 0 L).get r=some b
 rw [qB7 _ _ _ (by rw [Nat.zero_add]; exact Nat.le_of_ble_eq_true hl)]
 simpa using h
theorem PT.set_set {α : Type} : ∀ (k : Nat) (t : PT α) (n : Nat) (x y : α), PT.set k (PT.set k t n x) n y = PT.set k t n y
 | 0,_,_,_,_=>rfl
 | k+1,t,n,x,y=>by
  have ih:=λt n=>PT.set_set k t n x y
  rw [PT.set_succ,PT.set_succ,PT.set_succ]
  by_cases a:n=0
  ·simp only [a,if_true]; rfl
  ·simp only [a,if_false]
   by_cases b:n % 2=1
   ·simp only [b,if_true]
    show PT.node (PT.set k (PT.set k t.left (n / 2) x) (n / 2) y) t.mid t.right=_
    rw [ih]
   ·simp only [b,if_false]
    show PT.node t.left t.mid (PT.set k (PT.set k t.right (n / 2 - 1) x) (n / 2 - 1) y)=_
    rw [ih]
theorem PT.set_comm {α : Type} : ∀ (k : Nat) (t : PT α) (n m : Nat) (x y : α), n ≠ m → PT.set k (PT.set k t n x) m y = PT.set k (PT.set k t m y) n x
 | 0,_,_,_,_,_,_=>rfl
 | k+1,t,n,m,x,y,h=>by
  have ih:=λt n m h=>PT.set_comm k t n m x y h
  rw [PT.set_succ,PT.set_succ,PT.set_succ,PT.set_succ]
  by_cases n0:n=0
  ·have m0:m ≠ 0:=by omega
   simp only [n0,m0,if_true,if_false]
   by_cases a:m % 2=1 <;> simp only [a,if_true,if_false] <;> rfl
  ·by_cases m0:m=0
   ·simp only [n0,m0,if_true,if_false]
    by_cases b:n % 2=1 <;> simp only [b,if_true,if_false] <;> rfl
   ·simp only [n0,m0,if_false]
    by_cases b:n % 2=1
    ·by_cases a:m % 2=1
     ·simp only [b,a,if_true]
      show PT.node (PT.set k (PT.set k t.left (n / 2) x) (m / 2) y) t.mid t.right=PT.node (PT.set k (PT.set k t.left (m / 2) y) (n / 2) x) t.mid t.right
      rw [ih _ _ _ (by omega)]
     ·simp only [b,a,if_true,if_false]; rfl
    ·by_cases a:m % 2=1
     ·simp only [b,a,if_true,if_false]; rfl
     ·simp only [b,a,if_false]
      show PT.node t.left t.mid (PT.set k (PT.set k t.right (n / 2 - 1) x) (m / 2 - 1) y)=PT.node t.left t.mid (PT.set k (PT.set k t.right (m / 2 - 1) y) (n / 2 - 1) x)
      rw [ih _ _ _ (by omega)]
theorem qQd : ∀ (L : List Blk) (n r : Nat) (b : Blk), r < L.length → PT.set depth (mkT n L) (n + r) b = mkT n (L.set r b)
 | [],n,r,b,h=>by simp at h
 | c::L,n,0,b,h=>by
  rw [List.set_cons_zero,qBh,qBh]
  exact PT.set_set _ _ _ _ _
 | c::L,n,r+1,b,h=>by
  rw [List.set_cons_succ,qBh,qBh,PT.set_comm _ _ _ _ _ _ (by omega),show n+(r+1)=(n+1)+r by omega,qQd L (n+1) r b (by simpa using h)]
theorem mkH_set {L:List Blk} {r:Nat} {b:Blk} (h:r < L.length):(⟨(mkH L).next,Tr.set depth (mkH L).t r b⟩:Hp)=mkH (L.set r b):=by
 show (⟨L.length,PT.set depth (mkT 0 L) r b⟩:Hp)=⟨(L.set r b).length,mkT 0 (L.set r b)⟩
 have:=qQd L 0 r b h
 rw [Nat.zero_add] at this
 rw [this,List.length_set]
theorem appH {α:Type} {enc:α→List AV} {sz:Nat} (hsz:∀ x,(enc x).length=sz) (hpos:Nat.blt 0 sz=true) (hone:∀ x,(enc x).all one1=true) {e:Option (AV×Hp)} (L:List Blk) (r bytes:Nat) (l x:List α) (hl:Nat.ble L.length roots=true) (hr:L[r]? = some ⟨l.flatMap enc,0,false⟩) (h:e=appW (mkH L) (.own r l.length sz) sz bytes x.length (x.flatMap enc)):e=(appS bytes l x).map λy=>(AV.own r y.length sz,mkH (L.set r ⟨y.flatMap enc,0,false⟩)):=by
 have hpos:0 < sz:=by simpa using hpos
 have hone':(x.flatMap enc).all one1=true:=by
  rw [List.all_eq_true]
  intro a ha
  obtain ⟨y,_,hy⟩:=List.mem_flatMap.1 ha
  exact List.all_eq_true.1 (hone y) a hy
 have hlt:r < L.length:=(List.getElem?_eq_some_iff.1 hr).1
 rw [h]
 unfold appW appV appS
 simp only [qB1 hsz,hpos,hone',true_and,and_true,if_true]
 by_cases b:(l.length+x.length) * bytes≤2 ^ 40∧l.length+x.length≤2 ^ 40
 ·rw [if_pos b]
  by_cases c:x.length=0
  ·have:x=[]:=List.length_eq_zero_iff.1 c
   subst this
   simp only [List.length_nil,Nat.add_zero,List.append_nil,Option.map_some,if_true]
   rw [if_pos (by simpa using b)]
   have:L.set r ⟨l.flatMap enc,0,false⟩=L:=by
    apply List.ext_getElem?
    intro i
    rw [List.getElem?_set]
    split
    ·rename_i e; subst e; first | exact hr.symm | (rw [if_pos hlt]; exact hr.symm)
    ·rfl
   show some (AV.own r l.length sz,mkH L)=some (AV.own r l.length sz,mkH (L.set r ⟨l.flatMap enc,0,false⟩))
   rw [this]
  ·simp only [c,if_false]
   rw [qFn hl hr,if_pos b]
   simp only [qB1 hsz,Nat.zero_le,true_and,and_self,if_true,Option.map_some]
   rw [mkH_set hlt,List.flatMap_append,List.length_append]
 ·rw [if_neg b,if_neg b]; rfl
theorem appHV {α:Type} {enc:α→List AV} {sz:Nat} (hsz:∀ x,(enc x).length=sz) (hpos:Nat.blt 0 sz=true) (hone:∀ x,(enc x).all one1=true) {e:Option (AV×Hp)} (L:List Blk) (r bytes:Nat) (l x:List α) (hl:Nat.ble L.length roots=true) (hr:L[r]? = some ⟨l.flatMap enc,0,false⟩) (h:e=(match (if sz=sz∧x.length≤x.length then some ((x.flatMap enc).take (x.length * sz)) else none) with | some new=>appW (mkH L) (.own r l.length sz) sz bytes x.length new | none=>none)):e=(appS bytes l x).map λy=>(AV.own r y.length sz,mkH (L.set r ⟨y.flatMap enc,0,false⟩)):=by
 refine appH hsz hpos hone L r bytes l x hl hr ?_
 rw [h,if_pos ⟨rfl,Nat.le_refl _⟩]
 simp only
 rw [List.take_of_length_le (by rw [qB1 hsz]; exact Nat.le_refl _)]
theorem qAr {α:Type} {enc:α→List AV} {sz:Nat} (hsz:∀ x,(enc x).length=sz) (hpur:∀ x,purs (enc x)=true) {L:List Blk} {r:Nat} {l:List α} {xs ys:List AV} {n0:Nat} (hl:Nat.ble L.length roots=true) (hr:L[r]? = some ⟨l.flatMap enc,0,false⟩) (a:Nat.ble n0 r=true) (h:FzG n0 (mkH L) xs ys):FzG n0 (mkH L) (.own r l.length sz::xs) (.vec l.length sz (l.flatMap enc)::ys) :=
 .own a (qFn hl hr) (qB1 hsz l) (Nat.zero_le _) (.pures (qBd hpur l)) h
def ctl1 : Pt → Pt
 | .ops _ _ K=>resume K
 | .loop b K => .code b (.loop b::K)
 | .fin => .fin
 | .code c K=>match c with
  | .seq a b => .code a (.seq b::K)
  | .skip=>resume K
  | .label _=>resume K
  | .block id b => .code b (.block id::K)
  | .scope b => .code b (.scope b::K)
  | .loop b => .loop b K
  | .exit id=>match exitK id K with | some q=>q | none => .fin
  | .goto l=>match gotoK l K with | some q=>q | none => .fin
  | .ret => .fin
  | .region id ops draw=>bif draw then resume K else .ops ops 0 K
  | _ => .fin
def nav : LN → Pt → Pt
 | [],p=>p
 | 0::l,p=>nav l (ctl1 p)
 | 1::l,.code (.cond _ x _) K=>nav l (.code x K)
 | _::l,.code (.cond _ _ y) K=>nav l (.code y K)
 | _::_,p=>p
def atN (n : Nat) : Pt → Pt
 | .ops ops _ K => .ops ops n K
 | p=>p
theorem qCo {R:Type} {X:Fx R} {p:Pt} {env:Env} {H:Hp} {t:Option R} (d b v n sz:Nat) (h:look env d = .slice b v 0 n sz) (hv:v=n * sz) (k:Ok X p ((d,.own b n sz)::env) H t):Ok X p env H t:=by
 intro r hr m0 j o m w a q fr hnt hd rw st
 refine k r hr m0 j o m w a q ?_ hnt hd rw st
 intro u hu
 by_cases e:d=u
 ·subst e
  obtain ⟨c,x,g⟩:=fr d (by rw [h]; intro e; cases e)
  rw [h] at g
  refine ⟨_,x,?_⟩
  rw [qAq,if_pos rfl]
  exact qIu g hv
 ·have he:look ((d,AV.own b n sz)::env) u=look env u:=by rw [qAq,if_neg e]
  rw [he] at hu ⊢
  exact fr u hu
mutual
def nref (n : Nat) : AV → Bool
 | .ptr r _ _ => !Nat.beq r n
 | .slice r _ _ _ _ => !Nat.beq r n
 | .own r _ _ => !Nat.beq r n
 | .agg xs=>nrefs n xs
 | .tuple xs=>nrefs n xs
 | .func _ a b=>nrefs n a && nrefs n b
 | .iface _ v=>nref n v
 | _=>true
def nrefs (n : Nat) : List AV → Bool
 | []=>true
 | x::xs=>nref n x && nrefs n xs
end
def Mp.out (m:Mp) (n:Nat) (F:Nat→Option (Nat×List AV)):Mp:=⟨λr v=>if r=n then none else m r v,F⟩
theorem qPu {m:Mp} {n:Nat} {F:Nat→Option (Nat×List AV)} {r v:Nat} (h:(!Nat.beq r n)=true):(m.out n F) r v=m r v:=by
 show (if r=n then none else m r v)=m r v
 rw [if_neg]
 rintro rfl
 simp at h
mutual
theorem qIc {m : Mp} {n : Nat} {F : Nat → Option (Nat × List AV)} (o : ∀ i p, m.froz i = some p → F i = some p) : ∀ (x : AV) (c : Value), nref n x = true → VR m x c → VR (m.out n F) x c
 | .top,_,_,_=>by simp only [VR]
 | .int ..,_,_,e=>by simpa only [VR] using e
 | .resid ..,_,_,e=>by simpa only [VR] using e
 | .bool _,_,_,e=>by simpa only [VR] using e
 | .str _,_,_,e=>by simpa only [VR] using e
 | .nilp,_,_,e=>by simpa only [VR] using e
 | .nils,_,_,e=>by simpa only [VR] using e
 | .nilf,_,_,e=>by simpa only [VR] using e
 | .nili,_,_,e=>by simpa only [VR] using e
 | .vec ..,_,_,e=>by
  simp only [VR] at e ⊢
  obtain ⟨z,a,cap,g,j,u,D⟩:=e
  exact ⟨z,a,cap,g,j,u,λE=>let ⟨i,B,off,all,q,r⟩:=D E; ⟨i,B,off,all,o _ _ q,r⟩⟩
 | .vptr ..,_,_,e=>by
  simp only [VR] at e ⊢
  obtain ⟨i,B,off,all,q,r⟩:=e
  exact ⟨i,B,off,all,o _ _ q,r⟩
 | .ptr r v off,_,h,e=>by
  simp only [VR] at e ⊢
  obtain ⟨B,N,g,j⟩:=e
  exact ⟨B,N,by rw [qPu (by simpa only [nref] using h)]; exact g,j⟩
 | .slice r v off len sz,_,h,e=>by
  simp only [VR] at e ⊢
  obtain ⟨B,N,cap,g,j⟩:=e
  exact ⟨B,N,cap,by rw [qPu (by simpa only [nref] using h)]; exact g,j⟩
 | .own r len sz,_,h,e=>by
  simp only [VR] at e ⊢
  rcases e with e | ⟨B,N,cap,g,j⟩
  ·exact .inl e
  ·exact .inr ⟨B,N,cap,by rw [qPu (by simpa only [nref] using h)]; exact g,j⟩
 | .agg xs,c,h,e=>by
  simp only [VR] at e ⊢
  obtain ⟨ys,g,j⟩:=e
  exact ⟨ys,g,qCf o xs _ (by simpa only [nref] using h) j⟩
 | .tuple xs,c,h,e=>by
  simp only [VR] at e ⊢
  obtain ⟨ys,g,j⟩:=e
  exact ⟨ys,g,qCf o xs _ (by simpa only [nref] using h) j⟩
 | .func f a b,c,h,e=>by
  simp only [VR] at e ⊢
  simp only [nref,Bool.and_eq_true] at h
  obtain ⟨ys,zs,g,j,u⟩:=e
  exact ⟨ys,zs,g,qCf o a _ h.1 j,qCf o b _ h.2 u⟩
 | .iface t v,c,h,e=>by
  simp only [VR] at e ⊢
  obtain ⟨d,g,j⟩:=e
  exact ⟨d,g,qIc o v _ (by simpa only [nref] using h) j⟩
theorem qCf {m : Mp} {n : Nat} {F : Nat → Option (Nat × List AV)} (o : ∀ i p, m.froz i = some p → F i = some p) : ∀ (xs : List AV) (cs : List Value), nrefs n xs = true → VRs m xs cs → VRs (m.out n F) xs cs
 | [],_,_,e=>by simpa only [VRs] using e
 | x::xs,cs,h,e=>by
  simp only [VRs] at e ⊢
  simp only [nrefs,Bool.and_eq_true] at h
  obtain ⟨y,ys,rfl,g,j⟩:=e
  exact ⟨y,ys,rfl,qIc o x y h.1 g,qCf o xs ys h.2 j⟩
end
theorem qEi {n : Nat} : ∀ {xs : List AV} (k : Nat), nrefs n xs = true → nrefs n (xs.take k) = true
 | [],k,_=>by simp [nrefs]
 | x::xs,0,_=>by simp [nrefs]
 | x::xs,k+1,h=>by
  simp only [nrefs,List.take_succ_cons,Bool.and_eq_true] at h ⊢
  exact ⟨h.1,qEi k h.2⟩
def nrefE (n : Nat) : Env → Bool
 | []=>true
 | p::l=>nref n p.2 && nrefE n l
theorem qGv {n : Nat} : ∀ {e : Env} (t : Nat), nrefE n e = true → nref n (look e t) = true
 | [],t,_=>rfl
 | p::l,t,h=>by
  simp only [nrefE,Bool.and_eq_true] at h
  rw [qAq]
  split
  ·exact h.1
  ·exact qGv t h.2
mutual
theorem qLr {n : Nat} : ∀ x : AV, pur x = true → nref n x = true
 | .top,_ | .int ..,_ | .resid ..,_ | .bool _,_ | .str _,_ | .nilp,_ | .nils,_ | .nilf,_ | .nili,_ | .vec ..,_ | .vptr ..,_=>by simp [nref]
 | .ptr ..,h | .slice ..,h | .own ..,h=>by simp [pur] at h
 | .agg xs,h=>by simp only [pur,nref] at h ⊢; exact qBl xs h
 | .tuple xs,h=>by simp only [pur,nref] at h ⊢; exact qBl xs h
 | .func _ a b,h=>by simp only [pur,nref,Bool.and_eq_true] at h ⊢; exact ⟨qBl a h.1,qBl b h.2⟩
 | .iface _ v,h=>by simp only [pur,nref] at h ⊢; exact qLr v h
theorem qBl {n : Nat} : ∀ xs : List AV, purs xs = true → nrefs n xs = true
 | [],_=>rfl
 | x::xs,h=>by simp only [purs,nrefs,Bool.and_eq_true] at h ⊢; exact ⟨qLr x h.1,qBl xs h.2⟩
end
def NB (n : Nat) : Nat → List Blk → Prop
 | _,[]=>True
 | i,b::l=>(i=n∨nrefs n b.cells=true)∧NB n (i+1) l
theorem NB_get {n : Nat} : ∀ {l : List Blk} {i j : Nat} {b : Blk}, NB n i l → l[j]? = some b → i + j ≠ n → nrefs n b.cells = true
 | [],i,j,b,_,h,_=>by simp at h
 | c::l,i,j,b,a,h,hne=>by
  cases j with
  | zero=>simp at h; subst h; exact a.1.resolve_left (by omega)
  | succ j=>exact NB_get a.2 (by simpa using h) (by omega)
theorem ok_frz {R:Type} {X:Fx R} {p:Pt} {env env0:Env} {t:Option R} (L:List Blk) (d g n sz minv:Nat) (cells:List AV) (ks:LN) (S:Nat.ble X.n0 g=true) (hl:Nat.ble L.length roots=true) (I:look env d = .slice g (n * sz) 0 n sz∨look env d = .own g n sz) (hr:L[g]? = some ⟨cells,minv,false⟩) (hc:cells.length=n * sz) (hmin:minv≤n * sz) (hp:purs cells=true) (hk:keepOnly env ks=env0) (hne:nrefE g env0=true) (hnb:NB g 0 L) (k:Ok X p ((d,.vec n sz cells)::env0) (mkH (L.set g ⟨[],0,false⟩)) t):Ok X p env (mkH L) t:=by
 intro r hr' m0 w0 J m w a h0 K hnt hd rw st
 have fr:FR m env0 a.tmps:=K.less (hk ▸ qBi ks env)
 have hroot:(mkH L).t.get g=some ⟨cells,minv,false⟩:=qFn hl hr
 have hlt:g < L.length:=(List.getElem?_eq_some_iff.1 hr).1
 obtain ⟨c,T,D⟩:=K d (by rcases I with h | h <;> (rw [h]; intro e; cases e))
 have hcase:c = .slice none 0 0∧n=0∨∃ B N cap,m g (n * sz)=some (B,N)∧n≤cap∧c = .slice (some ⟨B,0,none⟩) n cap:=by
  rcases I with h | h <;> rw [h] at D <;> simp only [VR] at D
  ·obtain ⟨B,N,cap,o,x,h3,h4,h5⟩:=D
   exact .inr ⟨B,N,cap,o,h3,h5⟩
  ·rcases D with ⟨o,x⟩ | ⟨B,N,cap,o,x,h3,h4⟩
   ·exact .inl ⟨x,o⟩
   ·exact .inr ⟨B,N,cap,o,x,h4⟩
 have M:FOk 0 m m.froz w J:=⟨λi B cells hi=>rw.frz i B cells hi,rw.ffin,λi B cells h => .inl h,λ_ _ h=>h⟩
 have key:∃ F,FOk 0 m F w J∧(∀ i B cs,F i=some (B,cs)→m.froz i=some (B,cs)∨∃ v N,m g v=some (B,N))∧VR ⟨λ_ _=>none,F⟩ (.vec n sz cells) c:=by
  rcases hcase with ⟨rfl,rfl⟩ | ⟨B,N,cap,hm,hcap,rfl⟩
  ·have:cells=[]:=List.length_eq_zero_iff.1 (by omega)
   subst this
   exact ⟨m.froz,M,λi B cs h => .inl h,qEc _ _⟩
  ·obtain ⟨cs,ty,fr',Q,q2,q3,q4,O⟩:=rw.blk _ _ _ _ _ hroot hm hmin (by show n * sz≤cells.length; omega)
   obtain ⟨J,z,_,_,hbase⟩:=rw.dom _ _ _ _ hm
   rw [hroot] at z
   cases z
   simp only at O
   rw [List.take_of_length_le (by omega)] at O
   obtain ⟨nf,hnf⟩:=rw.ffin
   have q6:=qBa _ _ hp O
   obtain ⟨F,i,g1,g2,g3⟩:=qL3 M (hbase rfl) ⟨_,_,_,Nat.zero_le _,hm⟩ Q (cells:=cells) (by omega) (by rw [hc]; exact q6)
   refine ⟨λj=>if j=nf then some (B,cells) else m.froz j,?_,?_,?_⟩
   ·refine ⟨?_,⟨nf+1,λj hj=>by show (if j=nf then some (B,cells) else m.froz j)=none; rw [if_neg (by omega)]; exact hnf j (by omega)⟩,?_,?_⟩
    ·intro j B' cells' hj
     have hS:Sub m.still ⟨λ_ _=>none,λj=>if j=nf then some (B,cells) else m.froz j⟩:=⟨λ_ _ _ e=>(by cases e),λj q hq=>by
      show (if j=nf then some (B,cells) else m.froz j)=some q
      rw [if_neg]
      ·exact hq
      ·rintro rfl
       have hq:m.froz j=some q:=hq
       rw [hnf _ (Nat.le_refl _)] at hq; cases hq⟩
     by_cases e:j=nf
     ·simp only [e,if_true] at hj
      cases hj
      exact ⟨cs,ty,fr',Q,by omega,by rw [hc]; exact VRs.mono hS _ _ q6⟩
     ·simp only [e,if_false] at hj
      obtain ⟨U,Y,Z,e1,e2,e3⟩:=rw.frz j B' cells' hj
      exact ⟨U,Y,Z,e1,e2,VRs.mono hS _ _ e3⟩
    ·intro j B' cells' hj
     by_cases e:j=nf
     ·simp only [e,if_true] at hj
      cases hj
      exact .inr ⟨hbase rfl,_,_,_,Nat.zero_le _,hm⟩
     ·simp only [e,if_false] at hj
      exact .inl hj
    ·intro j q hq
     show (if j=nf then some (B,cells) else m.froz j)=some q
     rw [if_neg]
     ·exact hq
     ·rintro rfl; rw [hnf _ (Nat.le_refl _)] at hq; cases hq
   ·intro j B' cells' hj
    by_cases e:j=nf
    ·simp only [e,if_true] at hj
     cases hj
     exact .inr ⟨_,_,hm⟩
    ·simp only [e,if_false] at hj
     exact .inl hj
   ·simp only [VR]
    refine ⟨hc,_,cap,rfl,hcap,λe=>(by cases e),λ_=>⟨nf,B,0,cells,by simp,rfl,?_,by omega⟩⟩
    rw [List.drop_zero,List.take_of_length_le (by omega)]
 obtain ⟨F,hFok,hFnew,hvec⟩:=key
 have hget:∀ i,i ≠ g→(mkH (L.set g ⟨[],0,false⟩)).t.get i=(mkH L).t.get i:=by
  intro i hi
  show (mkT 0 (L.set g ⟨[],0,false⟩)).get i=(mkT 0 L).get i
  have hl':L.length≤roots:=Nat.le_of_ble_eq_true hl
  rw [qB7 _ _ _ (by rw [List.length_set]; omega),qB7 _ _ _ (by omega)]
  simp only [Nat.zero_le,if_true,Nat.sub_zero]
  rw [List.getElem?_set,if_neg (λe=>hi e.symm)]
 have hout:∀ {r v q},(m.out g F) r v=some q→r ≠ g∧m r v=some q:=by
  intro r v q h
  have h:(if r=g then none else m r v)=some q:=h
  by_cases e:r=g
  ·rw [if_pos e] at h; cases h
  ·rw [if_neg e] at h; exact ⟨e,h⟩
 refine k r hr' m0 w0 J (m.out g F) w a h0 ?_ hnt hd ⟨?_,?_,?_,?_,?_,hFok.ok,?_,hFok.fin,rw.base_le,?_⟩ ⟨⟨λr v q hq=>(by
  have o:=h0.1 r v q hq
  have x:=Nat.le_of_ble_eq_true S
  show (if r=g then none else m r v)=some q
  rw [if_neg (by omega)]
  exact st.sub.1 r v q hq),λi q hq=>hFok.sub i q (st.sub.2 i q hq)⟩,?_,?_,st.size,st.os,st.tape,st.output,st.same⟩
 ·intro u hu
  by_cases e:d=u
  ·subst e
   refine ⟨c,T,?_⟩
   rw [qAq,if_pos rfl]
   exact VR.mono (m:=⟨λ_ _=>none,F⟩) (m':=m.out g F) ⟨λ_ _ _ h=>(by cases h),λ_ _ h=>h⟩ _ _ hvec
  ·have he:look ((d,AV.vec n sz cells)::env0) u=look env0 u:=by rw [qAq,if_neg e]
   rw [he] at hu ⊢
   obtain ⟨c,o,x⟩:=fr u hu
   exact ⟨c,o,qIc hFok.sub _ _ (qGv u hne) x⟩
 ·intro r b v B N E hm o x
  obtain ⟨hne',hm⟩:=hout hm
  rw [hget r hne'] at E
  obtain ⟨cs,ty,fr',Q,q2,q3,q4,O⟩:=rw.blk r b v B N E hm o x
  have hbl:L[r]? = some b:=by
   have hb':(mkT 0 L).get r=some b:=E
   rw [qB7 _ _ _ (by rw [Nat.zero_add]; exact Nat.le_of_ble_eq_true hl)] at hb'
   simpa using hb'
  exact ⟨cs,ty,fr',Q,q2,q3,q4,qCf hFok.sub _ _ (qEi v (NB_get hnb hbl (by omega))) O⟩
 ·intro r v B N hm
  obtain ⟨hne',hm⟩:=hout hm
  rw [hget r hne']
  exact rw.dom r v B N hm
 ·intro r v B N r' v' N' hm hm' hB
  exact rw.sep _ _ _ _ _ _ _ (hout hm).2 (hout hm').2 hB
 ·intro r hr
  have hr:L.length≤r:=by
   have:(mkH (L.set g ⟨[],0,false⟩)).next=L.length:=by simp [mkH]
   rw [this] at hr; exact hr
  rw [hget r (by omega)]
  exact rw.fresh r hr
 ·intro r v B N hm
  exact rw.vle _ _ _ _ (hout hm).2
 ·intro i B cs r v N b hi hm E
  obtain ⟨hne',hm⟩:=hout hm
  rw [hget r hne'] at E
  rcases hFnew i B cs hi with h | ⟨v',N',h⟩
  ·exact rw.fsep i B cs r v N b h hm E
  ·obtain ⟨J,z,_,_,hbase⟩:=rw.dom _ _ _ _ h
   rw [hroot] at z
   cases z
   exact absurd (rw.sep _ _ _ _ _ _ _ h hm (hbase rfl)).symm hne'
 ·show (L.set g ⟨[],0,false⟩).length≤roots
  rw [List.length_set]; exact Nat.le_of_ble_eq_true hl
 ·intro r v B N hm
  exact st.ext r v B N (hout hm).2
 ·intro i B cs hi
  rcases hFok.new i B cs hi with h | h
  ·exact st.fext i B cs h
  ·obtain ⟨o,r,v,N,_,hm⟩:=h
   rcases st.ext r v B N hm with ⟨v0,N0,e0⟩ | x
   ·exact .inr ⟨o,.inl ⟨r,v0,N0,e0⟩⟩
   ·exact .inr ⟨o,.inr x⟩
theorem qGn {R:Type} {X:Fx R} {p:Pt} {env:Env} {H:Hp} {b:Bool} {a c:Option R} (g:b=true→Ok X p env H a) (h:b=false→Ok X p env H c):Ok X p env H (if b then a else c):=by
 cases b with
 | true=>exact g rfl
 | false=>exact h rfl
theorem qLq {α : Type} {f : α → AV} (h : ∀ x, pur (f x) = true) : ∀ l : List α, purs (l.map f) = true
 | []=>rfl
 | x::l=>by simp only [List.map_cons,purs,Bool.and_eq_true]; exact ⟨h x,qLq h l⟩
theorem arr_pur {α:Type} {f:α→AV} (h:∀ x,pur (f x)=true) (l:List α):pur (.agg (l.map f))=true:=by simp only [pur]; exact qLq h l
theorem qKh {R:Type} {X:Fx R} {p:Pt} {env:Env} {H:Hp} {α:Type} {m:Option α} {f:α→Option R} (g:α→AV×Hp) (p':Pt) (E:α→Env) (h:∀ x,m=some x→evalAt X.C X.fn.ntmps p env H=some (g x)) (ha:∀ x,advE X.fn.ntmps p env (g x).1=some (p',E x)) (k:∀ x,m=some x→Ok X p' (E x) (g x).2 (f x)):Ok X p env H (m.bind f) :=
 qA9 λx a=>ok_val (v:=(g x).1) (H':=(g x).2) (h x a) (ha x) (k x a)
theorem qM1 : ∀ (L : List Blk) (n : Nat) (b : Blk), mkT n (L ++ [b]) = PT.set depth (mkT n L) (n + L.length) b
 | [],n,b=>by rw [List.nil_append,qBh,qKj,qKj]; rfl
 | c::L,n,b=>by
  rw [List.cons_append,qBh,qBh,qM1 L (n+1) b,PT.set_comm _ _ _ _ _ _ (by omega),List.length_cons,show n+(L.length+1)=n+1+L.length by omega]
theorem qM2 (L:List Blk) (b:Blk):(⟨(mkH L).next+1,Tr.set depth (mkH L).t (mkH L).next b⟩:Hp)=mkH (L++[b]):=by
 show (⟨L.length+1,PT.set depth (mkT 0 L) L.length b⟩:Hp)=⟨(L++[b]).length,mkT 0 (L++[b])⟩
 rw [qM1,Nat.zero_add,List.length_append]
 rfl
theorem qQ2 {R:Type} {X:Fx R} {p:Pt} {env:Env} {t:Option R} (L:List Blk) (c:Nat) (cells:List AV) (minv minv':Nat) (hl:Nat.ble L.length roots=true) (hr:L[c]? = some ⟨cells,minv,false⟩) (hm:minv≤minv') (k:Ok X p env (mkH (L.set c ⟨cells,minv',false⟩)) t):Ok X p env (mkH L) t:=by
 intro r hr' m0 x z m w a D fr hnt hd rw st
 have hroot:(mkH L).t.get c=some ⟨cells,minv,false⟩:=qFn hl hr
 have hlt:c < L.length:=(List.getElem?_eq_some_iff.1 hr).1
 have hl':L.length≤roots:=Nat.le_of_ble_eq_true hl
 have hget:∀ i,i ≠ c→(mkH (L.set c ⟨cells,minv',false⟩)).t.get i=(mkH L).t.get i:=by
  intro i hi
  show (mkT 0 (L.set c ⟨cells,minv',false⟩)).get i=(mkT 0 L).get i
  rw [qB7 _ _ _ (by rw [List.length_set]; omega),qB7 _ _ _ (by omega)]
  simp only [Nat.zero_le,if_true,Nat.sub_zero]
  rw [List.getElem?_set,if_neg (λe=>hi e.symm)]
 have hget0:(mkH (L.set c ⟨cells,minv',false⟩)).t.get c=some ⟨cells,minv',false⟩:=qFn (by rw [List.length_set]; exact hl) (by rw [List.getElem?_set,if_pos rfl,if_pos hlt])
 refine k r hr' m0 x z m w a D fr hnt hd ⟨?_,?_,rw.sep,?_,rw.vle,rw.frz,?_,rw.ffin,rw.base_le,?_⟩ st
 ·intro r b v B N g hm' j n
  by_cases e:r=c
  ·subst e
   rw [hget0] at g
   cases g
   exact rw.blk r ⟨cells,minv,false⟩ v B N hroot hm' (Nat.le_trans hm j) n
  ·rw [hget r e] at g
   exact rw.blk r b v B N g hm' j n
 ·intro r v B N hm'
  obtain ⟨b,h,o,q,u⟩:=rw.dom r v B N hm'
  by_cases e:r=c
  ·subst e
   rw [hroot] at h
   cases h
   exact ⟨_,hget0,o,q,u⟩
  ·exact ⟨b,by rw [hget r e]; exact h,o,q,u⟩
 ·intro r hr
  have hr:L.length≤r:=by
   have:(mkH (L.set c ⟨cells,minv',false⟩)).next=L.length:=by simp [mkH]
   rw [this] at hr; exact hr
  rw [hget r (by omega)]
  exact rw.fresh r hr
 ·intro i B cs r v N b hi hm' g
  by_cases e:r=c
  ·subst e
   have:=rw.fsep i B cs r v N _ hi hm' hroot
   cases this
  ·rw [hget r e] at g
   exact rw.fsep i B cs r v N b hi hm' g
 ·show (L.set c ⟨cells,minv',false⟩).length≤roots
  rw [List.length_set]; exact hl'
theorem ok_callM {R:Type} {X:Fx R} {p:Pt} {env:Env} {H:Hp} {α:Type} {m:Option α} {f:α→Option R} {fi:Nat} {args:List AV} (g:α→AV) (G:α→Hp) (p':Pt) (E:α→Env) (hc:callAt X.fn.ntmps p env=some (fi,args)) (hf:∀ x,m=some x→CallV X.P fi args H (g x) (G x)) (ha:∀ x,advE X.fn.ntmps p env (g x)=some (p',E x)) (k:∀ x,m=some x→Ok X p' (E x) (G x) (f x)):Ok X p env H (m.bind f):=by
 refine qA9 λx a=>?_
 have hpo:=hf x a
 have hax:=ha x
 unfold advE at hax
 unfold callAt at hc
 cases ho:operAt X.fn.ntmps p env with
 | none=>rw [ho] at hax; cases hax
 | some o =>
  rw [ho] at hax hc
  simp only [Option.some.injEq,Prod.mk.injEq] at hax hc
  obtain ⟨b,e2⟩:=hax
  obtain ⟨ops,n,K,rfl,h,j,u⟩:=qAv ho
  have kx:=k x a
  rw [← b,← e2] at kx
  split at hc
  ·rename_i c hoc
   split at hc
   ·rename_i q hq
    split at hc
    ·rename_i fi' first caps hfv
     cases hc
     exact qJ7 h j u (.inr ⟨c,q,fi,first,caps,hoc,hq,hfv,hpo⟩) kx
    ·cases hc
   ·cases hc
  ·cases hc
theorem qA5 {P:Program} {C:Cx} {D:DP} {all l l':List Oper} {env eE e:Env} {H H':Hp} {hs a:List Hp} {fi:Nat} {args:List AV} {v:AV} (hc:callD all l env=some (fi,args)) (hpo:CallV P fi args H v H') (ha:advD D all l env v H'=some (l',eE,hs)) (k:OpsD P C D all l' eE H' e a):OpsD P C D all l env H e (hs++a):=by
 unfold callD at hc
 cases ho:headO all l env with
 | none=>rw [ho] at hc; cases hc
 | some o =>
  rw [ho] at hc
  simp only at hc
  split at hc
  ·rename_i c hoc
   split at hc
   ·rename_i q hq
    split at hc
    ·rename_i fi' first caps hfv
     cases hc
     exact qI3 (v:=v) ho (.inr ⟨c,q,fi,first,caps,hoc,hq,hfv,hpo⟩) ha k
    ·cases hc
   ·cases hc
  ·cases hc
def PT.allB {α : Type} (p : Nat → α → Bool) : PT α → (Nat → Nat) → Bool
 | .nil,_=>true
 | .node l b r,g=>(match b with | some x=>p (g 0) x | none=>true) && l.allB p (λn=>g (2 * n+1)) && r.allB p (λn=>g (2 * n+2))
theorem PT.allB_get {α : Type} {p : Nat → α → Bool} : ∀ (t : PT α) (g : Nat → Nat), t.allB p g = true → ∀ (n : Nat) (x : α), t.get n = some x → p (g n) x = true
 | .nil,g,_,n,x,h=>by cases h
 | .node l b r,g,hh,n,x,h=>by
  simp only [PT.allB,Bool.and_eq_true] at hh
  obtain ⟨⟨c,j⟩,o⟩:=hh
  rw [PT.get_node] at h
  by_cases a:n=0
  ·rw [if_pos a] at h
   subst a
   subst h
   exact c
  ·rw [if_neg a] at h
   by_cases hm:n % 2=1
   ·rw [if_pos hm] at h
    have:=PT.allB_get l _ j _ _ h
    rwa [show 2 * (n / 2)+1=n by omega] at this
   ·rw [if_neg hm] at h
    have:=PT.allB_get r _ o _ _ h
    rwa [show 2 * (n / 2 - 1)+2=n by omega] at this
def beqZ : AV → AV → Bool
 | .top,.top=>true
 | .int k n,.int k' n'=>decide (k=k') && decide (n=n')
 | .bool a,.bool b=>a == b
 | .str a,.str b=>eqL a b
 | .nilp,.nilp=>true
 | .nils,.nils=>true
 | .nilf,.nilf=>true
 | .nili,.nili=>true
 | _,_=>false
theorem beqZ_eq {x y:AV} (h:beqZ x y=true):x=y:=by
 cases x <;> cases y <;> simp [beqZ,qCv] at h ⊢ <;> exact h
def beqZs : List AV → List AV → Bool
 | [],[]=>true
 | a::x,b::y=>beqZ a b && beqZs x y
 | _,_=>false
theorem qNw : ∀ (x y : List AV), beqZs x y = true → x = y
 | [],[],_=>rfl
 | [],_::_,h=>by simp [beqZs] at h
 | _::_,[],h=>by simp [beqZs] at h
 | a::x,b::y,h=>by
  simp only [beqZs,Bool.and_eq_true] at h
  rw [beqZ_eq h.1,qNw x y h.2]
def beqTi (i j:Ti):Bool :=
 Nat.beq i.size j.size && Nat.beq i.bytes j.bytes && (match i.zero,j.zero with | some a,some b=>beqZs a b | none,none=>true | _,_=>false) && decide (i.kind=j.kind) && decide (i.fields=j.fields) && Nat.beq i.elem j.elem && Nat.beq i.len j.len && decide (i.flat=j.flat)
theorem beqTi_eq {i j:Ti} (h:beqTi i j=true):i=j:=by
 obtain ⟨E,I,q,J,K,M,N,O⟩:=i
 obtain ⟨Q,S,u,T,U,Y,Z,b8⟩:=j
 simp only [beqTi,Bool.and_eq_true,decide_eq_true_eq] at h
 obtain ⟨⟨⟨⟨⟨⟨⟨a,b⟩,c⟩,x⟩,z⟩,g⟩,n⟩,D⟩:=h
 have a:=Nat.eq_of_beq_eq_true a
 have b:=Nat.eq_of_beq_eq_true b
 have g:=Nat.eq_of_beq_eq_true g
 have n:=Nat.eq_of_beq_eq_true n
 have o:q=u:=by
  cases q <;> cases u <;> simp only at c <;> first | rfl | cases c | exact congrArg some (qNw _ _ c)
 subst a b o x z g n D
 rfl
def tiOk (P:Program) (t:Nat) (i:Ti):Bool:=match mkTi P t with | some j=>beqTi i j | none=>false
theorem tiOk_eq {P:Program} {t:Nat} {i:Ti} (h:tiOk P t i=true):mkTi P t=some i:=by
 unfold tiOk at h
 split at h
 ·rename_i j hj
  rw [hj,beqTi_eq h]
 ·cases h
def It (d:Nat) (s:ByteArray) (pos base:Nat) (m:Mp) (w:World) (a:Act):Prop :=
 ∃ B,a.tmps[d]? = some (.pointer (some ⟨B,0,none⟩))∧w.heap[B]? = some (.stringIter s pos)∧base≤B∧∀ r v N,m r v ≠ some (B,N)
section
variable {R:Type} (X:Fx R)
end
section
variable {R:Type} {X:Fx R} {p p':Pt} {env eE:Env} {H H':Hp} {d pos:Nat} {s:ByteArray}
def dneq (o:Oper) (d:Nat):Bool:=match o.dst with | some e => !Nat.beq e d | none=>true
theorem It.put {base:Nat} {m:Mp} {w:World} {a:Act} {o:Oper} (c:Value) (hd:dneq o d=true) (it:It d s pos base m w a):It d s pos base m w (a.put o.dst c):=by
 obtain ⟨B,b,g,h,j⟩:=it
 refine ⟨B,?_,g,h,j⟩
 unfold dneq at hd
 cases ho:o.dst with
 | none=>exact b
 | some e =>
  rw [ho] at hd
  simp only [Act.put]
  rw [Array.getElem?_setIfInBounds_ne]
  ·exact b
  ·rintro rfl; simp at hd
theorem It.step {base g:Nat} {m m':Mp} {w w':World} {a:Act} (st:St m w g m' w') (it:It d s pos base m w a):It d s pos base m' w' a:=by
 obtain ⟨B,h,b,j,c⟩:=it
 have hlt:B < w.heap.size:=(Array.getElem?_eq_some_iff.1 b).1
 refine ⟨B,h,by rw [st.same B hlt (λr v N e=>absurd e (c r v N))]; exact b,j,?_⟩
 intro r v N e
 rcases st.ext r v B N e with ⟨n,o,q⟩ | hB
 ·exact c r n o q
 ·omega
end
end Go.Proofs.Ythpplbkobokghaa.Am
set_option maxRecDepth 100000
namespace Go.Proofs.Ythpplbkobokghaa.Am
noncomputable section
open Go
def tyT:PT Ti:=(.node (.node (.node (.node (.node (.node (.node .nil (some ⟨1,8,(some [.nilf]),.other,[],0,0,none⟩) .nil) (some ⟨1,8,(some [.nilf]),.other,[],0,0,none⟩) (.node .nil (some ⟨1,8,(some [.nilf]),.other,[],0,0,none⟩) .nil)) (some ⟨1,8,(some [.nilp]),.pointer,[],107,0,none⟩) (.node (.node .nil (some ⟨1,8,(some [.nilf]),.other,[],0,0,none⟩) .nil) (some ⟨1,24,(some [.nils]),.slice,[],5,0,none⟩) (.node .nil (some ⟨1,8,(some [.nilf]),.other,[],0,0,none⟩) .nil))) (some ⟨4,24,(some [.int .i64 0,.int .i64 0,.bool false,.int .u8 0]),.struct,[(0,2),(1,3),(2,4),(3,6)],0,0,(some [(.int .i64),(.int .i64),.bool,(.int .u8)])⟩) (.node (.node (.node .nil (some ⟨0,0,(some []),.struct,[],0,0,(some [])⟩) .nil) (some ⟨1,8,(some [.nilf]),.other,[],0,0,none⟩) (.node .nil (some ⟨1,8,(some [.nilf]),.other,[],0,0,none⟩) .nil)) (some ⟨1,8,(some [.int .u64 0]),.int .u64,[],0,0,none⟩) (.node (.node .nil (some ⟨1,8,(some [.nilf]),.other,[],0,0,none⟩) .nil) (some ⟨1,0,(some [.top]),.other,[],0,0,none⟩) (.node .nil (some ⟨11,48,(some [.int .u64 0,.int .u64 0,.int .u32 0,.int .u8 0,.int .u8 0,.int .u8 0,.int .u8 0,.nilf,.nilp,.int .i32 0,.int .i32 0]),.struct,[(0,12),(1,12),(2,112),(3,113),(4,5),(5,5),(6,114),(7,115),(8,116),(9,117),(10,118)],0,0,none⟩) .nil)))) (some ⟨1,8,(some [.int .i64 0]),.int .i64,[],0,0,none⟩) (.node (.node (.node (.node .nil (some ⟨1,8,(some [.nilf]),.other,[],0,0,none⟩) .nil) (some ⟨1,8,(some [.nilf]),.other,[],0,0,none⟩) (.node .nil (some ⟨1,8,(some [.nilf]),.other,[],0,0,none⟩) .nil)) (some ⟨1,8,(some [.nilp]),.struct,[(0,17)],0,0,none⟩) (.node (.node .nil (some ⟨9,216,(some [.nils,.nils,.nils,.nils,.nils,.nils,.nils,.nils,.nils]),.array,[],22,9,(some (List.replicate 9 .slice))⟩) .nil) (some ⟨1,8,(some [.nilf]),.other,[],0,0,none⟩) (.node .nil (some ⟨1,8,(some [.nilf]),.other,[],0,0,none⟩) .nil))) (some ⟨1,16,(some [.str []]),.string,[],0,0,none⟩) (.node (.node (.node .nil (some ⟨1,8,(some [.nilf]),.other,[],0,0,none⟩) .nil) (some ⟨1,8,(some [.nilf]),.other,[],0,0,none⟩) (.node .nil (some ⟨4,40,(some [.nilp,.nilp,.nilp,.str []]),.struct,[(0,17),(1,17),(2,17),(3,9)],0,0,none⟩) .nil)) (some ⟨1,24,(some [.nils]),.slice,[],29,0,none⟩) (.node (.node .nil (some ⟨1,8,(some [.nilf]),.other,[],0,0,none⟩) .nil) (some ⟨1,8,(some [.nilf]),.other,[],0,0,none⟩) .nil)))) (some ⟨1,8,(some [.nilf]),.other,[],0,0,none⟩) (.node (.node (.node (.node (.node .nil (some ⟨1,8,(some [.nilf]),.other,[],0,0,none⟩) .nil) (some ⟨3,32,(some [.int .i64 0,.str [],.int .i64 0]),.struct,[(0,3),(1,9),(2,3)],0,0,(some [(.int .i64),.string,(.int .i64)])⟩) (.node .nil (some ⟨1,8,(some [.nilf]),.other,[],0,0,none⟩) .nil)) (some ⟨1,8,(some [.nilp]),.pointer,[],120,0,none⟩) (.node (.node .nil (some ⟨1,8,(some [.nilf]),.other,[],0,0,none⟩) .nil) (some ⟨1,8,(some [.nilf]),.other,[],0,0,none⟩) (.node .nil (some ⟨1,1,(some [.int .u8 0]),.int .u8,[],0,0,none⟩) .nil))) (some ⟨1,16,(some [.str []]),.string,[],0,0,none⟩) (.node (.node (.node .nil (some ⟨1,0,(some [.top]),.other,[],0,0,none⟩) .nil) (some ⟨1,8,(some [.nilf]),.other,[],0,0,none⟩) (.node .nil (some ⟨1,8,(some [.nilf]),.other,[],0,0,none⟩) .nil)) (some ⟨1,0,(some [.top]),.other,[],0,0,none⟩) (.node (.node .nil (some ⟨1,8,(some [.nilf]),.other,[],0,0,none⟩) .nil) (some ⟨1,8,(some [.nilp]),.pointer,[],70,0,none⟩) (.node .nil (some ⟨1,8,(some [.nilp]),.other,[],0,0,none⟩) .nil)))) (some ⟨1,1,(some [.int .u8 0]),.int .u8,[],0,0,none⟩) (.node (.node (.node (.node .nil (some ⟨4,56,(some [.str [],.nils,.int .i64 0,.int .i64 0]),.struct,[(0,9),(1,24),(2,3),(3,3)],0,0,(some [.string,.slice,(.int .i64),(.int .i64)])⟩) .nil) (some ⟨1,0,(some [.top]),.other,[],0,0,none⟩) (.node .nil (some ⟨1,8,(some [.nilf]),.other,[],0,0,none⟩) .nil)) (some ⟨1,4,(some [.int .i32 0]),.int .i32,[],0,0,none⟩) (.node (.node .nil (some ⟨1,8,(some [.nilf]),.other,[],0,0,none⟩) .nil) (some ⟨1,0,(some [.top]),.other,[],0,0,none⟩) (.node .nil (some ⟨1,4,(some [.int .i32 0]),.int .i32,[],0,0,none⟩) .nil))) (some ⟨2,24,(some [.str [],.int .u64 0]),.struct,[(0,9),(1,12)],0,0,none⟩) (.node (.node (.node .nil (some ⟨1,8,(some [.nilf]),.other,[],0,0,none⟩) .nil) (some ⟨1,8,(some [.nilf]),.other,[],0,0,none⟩) (.node .nil (some ⟨0,0,(some []),.struct,[(0,108)],0,0,none⟩) .nil)) (some ⟨7,104,(some [.int .i64 0,.str [],.nils,.bool false,.bool false,.nils,.nils]),.struct,[(0,3),(1,9),(2,27),(3,4),(4,4),(5,22),(6,22)],0,0,(some [(.int .i64),.string,.slice,.bool,.bool,.slice,.slice])⟩) (.node (.node .nil (some ⟨1,8,(some [.nilf]),.other,[],0,0,none⟩) .nil) (some ⟨1,24,(some [.nils]),.slice,[],22,0,none⟩) .nil))))) (some ⟨1,0,(some [.top]),.other,[],0,0,none⟩) (.node (.node (.node (.node (.node (.node .nil (some ⟨1,8,(some [.nilf]),.other,[],0,0,none⟩) .nil) (some ⟨1,8,(some [.nilf]),.other,[],0,0,none⟩) (.node .nil (some ⟨1,8,(some [.nilf]),.other,[],0,0,none⟩) .nil)) (some ⟨1,8,(some [.nilp]),.pointer,[],110,0,none⟩) (.node (.node .nil (some ⟨1,0,(some [.top]),.other,[],0,0,none⟩) .nil) (some ⟨1,8,(some [.nilf]),.other,[],0,0,none⟩) (.node .nil (some ⟨1,4,(some [.int .u32 0]),.int .u32,[],0,0,none⟩) .nil))) (some ⟨4,24,(some [.int .i64 0,.int .i64 0,.bool false,.int .u8 0]),.struct,[(0,2),(1,3),(2,4),(3,6)],0,0,(some [(.int .i64),(.int .i64),.bool,(.int .u8)])⟩) (.node (.node (.node .nil (some ⟨0,0,(some []),.struct,[],0,0,(some [])⟩) .nil) (some ⟨1,8,(some [.nilf]),.other,[],0,0,none⟩) (.node .nil (some ⟨1,8,(some [.nilf]),.other,[],0,0,none⟩) .nil)) (some ⟨1,24,(some [.nils]),.slice,[],34,0,none⟩) (.node (.node .nil (some ⟨1,8,(some [.nilf]),.other,[],0,0,none⟩) .nil) (some ⟨1,8,(some [.nilf]),.other,[],0,0,none⟩) (.node .nil (some ⟨11,48,(some [.int .u64 0,.int .u64 0,.int .u32 0,.int .u8 0,.int .u8 0,.int .u8 0,.int .u8 0,.nilf,.nilp,.int .i32 0,.int .i32 0]),.struct,[(0,12),(1,12),(2,112),(3,113),(4,5),(5,5),(6,114),(7,115),(8,116),(9,117),(10,118)],0,0,none⟩) .nil)))) (some ⟨1,1,(some [.bool false]),.bool,[],0,0,none⟩) (.node (.node (.node (.node .nil (some ⟨1,8,(some [.nilf]),.other,[],0,0,none⟩) .nil) (some ⟨1,8,(some [.nilf]),.other,[],0,0,none⟩) (.node .nil (some ⟨1,8,(some [.nilf]),.other,[],0,0,none⟩) .nil)) (some ⟨1,16,(some [.nili]),.iface,[],0,0,none⟩) (.node (.node .nil (some ⟨1,8,(some [.nilf]),.other,[],0,0,none⟩) .nil) (some ⟨1,8,(some [.nilf]),.other,[],0,0,none⟩) (.node .nil (some ⟨1,8,(some [.nilp]),.pointer,[],5,0,none⟩) .nil))) (some ⟨1,8,(some [.int .u64 0]),.int .u64,[],0,0,none⟩) (.node (.node (.node .nil (some ⟨1,8,(some [.nilf]),.other,[],0,0,none⟩) .nil) (some ⟨1,24,(some [.nils]),.slice,[],3,0,none⟩) (.node .nil (some ⟨0,0,(some []),.array,[],16,0,(some (List.replicate 0 .pointer))⟩) .nil)) (some ⟨7,104,(some [.int .i64 0,.str [],.nils,.bool false,.bool false,.nils,.nils]),.struct,[(0,3),(1,9),(2,27),(3,4),(4,4),(5,22),(6,22)],0,0,(some [(.int .i64),.string,.slice,.bool,.bool,.slice,.slice])⟩) (.node (.node .nil (some ⟨1,8,(some [.nilf]),.other,[],0,0,none⟩) .nil) (some ⟨1,8,(some [.nilf]),.other,[],0,0,none⟩) .nil)))) (some ⟨1,8,(some [.int .i64 0]),.int .i64,[],0,0,none⟩) (.node (.node (.node (.node (.node .nil (some ⟨1,8,(some [.nilf]),.other,[],0,0,none⟩) .nil) (some ⟨3,32,(some [.int .i64 0,.str [],.int .i64 0]),.struct,[(0,3),(1,9),(2,3)],0,0,(some [(.int .i64),.string,(.int .i64)])⟩) (.node .nil (some ⟨1,8,(some [.nilf]),.other,[],0,0,none⟩) .nil)) (some ⟨1,8,(some [.nilp]),.struct,[(0,17)],0,0,none⟩) (.node (.node .nil (some ⟨1,8,(some [.nilf]),.other,[],0,0,none⟩) .nil) (some ⟨1,8,(some [.nilf]),.other,[],0,0,none⟩) (.node .nil (some ⟨1,1,(some [.int .u8 0]),.int .u8,[],0,0,none⟩) .nil))) (some ⟨1,16,(some [.str []]),.string,[],0,0,none⟩) (.node (.node (.node .nil (some ⟨1,8,(some [.nilf]),.other,[],0,0,none⟩) .nil) (some ⟨1,8,(some [.nilf]),.other,[],0,0,none⟩) (.node .nil (some ⟨4,40,(some [.nilp,.nilp,.nilp,.str []]),.struct,[(0,17),(1,17),(2,17),(3,9)],0,0,none⟩) .nil)) (some ⟨1,8,(some [.nilf]),.other,[],0,0,none⟩) (.node (.node .nil (some ⟨1,8,(some [.nilf]),.other,[],0,0,none⟩) .nil) (some ⟨1,8,(some [.nilf]),.other,[],0,0,none⟩) .nil))) (some ⟨1,1,(some [.int .u8 0]),.int .u8,[],0,0,none⟩) (.node (.node (.node (.node .nil (some ⟨4,56,(some [.str [],.nils,.int .i64 0,.int .i64 0]),.struct,[(0,9),(1,24),(2,3),(3,3)],0,0,(some [.string,.slice,(.int .i64),(.int .i64)])⟩) .nil) (some ⟨1,8,(some [.nilf]),.other,[],0,0,none⟩) (.node .nil (some ⟨1,8,(some [.nilf]),.other,[],0,0,none⟩) .nil)) (some ⟨1,24,(some [.nils]),.slice,[],9,0,none⟩) (.node (.node .nil (some ⟨1,8,(some [.nilf]),.other,[],0,0,none⟩) .nil) (some ⟨1,8,(some [.nilf]),.other,[],0,0,none⟩) (.node .nil (some ⟨1,4,(some [.int .i32 0]),.int .i32,[],0,0,none⟩) .nil))) (some ⟨2,24,(some [.str [],.int .u64 0]),.struct,[(0,9),(1,12)],0,0,none⟩) (.node (.node (.node .nil (some ⟨1,8,(some [.nilf]),.other,[],0,0,none⟩) .nil) (some ⟨1,24,(some [.nils]),.slice,[],4,0,none⟩) (.node .nil (some ⟨0,0,(some []),.struct,[(0,108)],0,0,none⟩) .nil)) (some ⟨1,0,(some [.top]),.other,[],0,0,none⟩) (.node (.node .nil (some ⟨10,80,(some [.int .i64 0,.int .i64 0,.int .i64 0,.int .i64 0,.int .i64 0,.int .i64 0,.int .i64 0,.int .i64 0,.int .i64 0,.int .i64 0]),.array,[],3,10,(some (List.replicate 10 (.int .i64)))⟩) .nil) (some ⟨1,8,(some [.nilf]),.other,[],0,0,none⟩) .nil))))))
theorem tyOk:tyT.allB (tiOk Try.prog) id=true:=by decide +kernel
def cx:Cx:=⟨tyT.get⟩
theorem cxTi:∀ t i,cx.ti t=some i→mkTi Try.prog t=some i:=λt i h=>tiOk_eq (PT.allB_get tyT id tyOk t i h)
theorem cxOrd:Try.prog.follows .mixedOrders=true:=by decide +kernel
end
mutual
def renV (ρ : Nat → Nat) : AV → AV
 | .ptr r v off => .ptr (ρ r) v off
 | .slice r v off len sz => .slice (ρ r) v off len sz
 | .own r len sz => .own (ρ r) len sz
 | .agg xs => .agg (renVs ρ xs)
 | .tuple xs => .tuple (renVs ρ xs)
 | .func f a b => .func f (renVs ρ a) (renVs ρ b)
 | .iface t v => .iface t (renV ρ v)
 | .top => .top
 | .int k n => .int k n
 | .resid k q r => .resid k q r
 | .bool b => .bool b
 | .str s => .str s
 | .nilp => .nilp
 | .nils => .nils
 | .nilf => .nilf
 | .nili => .nili
 | .vec n sz c => .vec n sz c
 | .vptr c => .vptr c
def renVs (ρ : Nat → Nat) : List AV → List AV
 | []=>[]
 | x::xs=>renV ρ x::renVs ρ xs
end
mutual
theorem qI {m m0 : Mp} {ρ : Nat → Nat} {n : Nat} (h : ∀ i v p, i < n → m (ρ i) v = some p → m0 i v = some p) (hf : ∀ i p, m.froz i = some p → m0.froz i = some p) : ∀ (x : AV) (c : Value), below n x = true → VR m (renV ρ x) c → VR m0 x c
 | .top,_,_,_=>by simp only [VR]
 | .int ..,_,_,e=>by simpa only [VR,renV] using e
 | .resid ..,_,_,e=>by simpa only [VR,renV] using e
 | .bool _,_,_,e=>by simpa only [VR,renV] using e
 | .str _,_,_,e=>by simpa only [VR,renV] using e
 | .nilp,_,_,e=>by simpa only [VR,renV] using e
 | .nils,_,_,e=>by simpa only [VR,renV] using e
 | .nilf,_,_,e=>by simpa only [VR,renV] using e
 | .nili,_,_,e=>by simpa only [VR,renV] using e
 | .vec ..,_,_,e=>by
  simp only [VR,renV] at e ⊢
  obtain ⟨z,a,cap,j,o,u,D⟩:=e
  exact ⟨z,a,cap,j,o,u,λE=>let ⟨i,B,off,all,q,r⟩:=D E; ⟨i,B,off,all,hf _ _ q,r⟩⟩
 | .vptr ..,_,_,e=>by
  simp only [VR,renV] at e ⊢
  obtain ⟨i,B,off,all,q,r⟩:=e
  exact ⟨i,B,off,all,hf _ _ q,r⟩
 | .ptr r v off,_,g,e=>by
  simp only [VR,renV,below,Nat.blt_eq] at e g ⊢
  obtain ⟨B,N,j,o⟩:=e
  exact ⟨B,N,h _ _ _ g j,o⟩
 | .slice r v off len sz,_,g,e=>by
  simp only [VR,renV,below,Nat.blt_eq] at e g ⊢
  obtain ⟨B,N,cap,j,o⟩:=e
  exact ⟨B,N,cap,h _ _ _ g j,o⟩
 | .own r len sz,_,g,e=>by
  simp only [VR,renV,below,Nat.blt_eq] at e g ⊢
  rcases e with e | ⟨B,N,cap,j,o⟩
  ·exact .inl e
  ·exact .inr ⟨B,N,cap,h _ _ _ g j,o⟩
 | .agg xs,c,g,e=>by
  simp only [VR,renV] at e ⊢
  obtain ⟨ys,j,o⟩:=e
  exact ⟨ys,j,qB h hf xs _ (by simpa only [below] using g) o⟩
 | .tuple xs,c,g,e=>by
  simp only [VR,renV] at e ⊢
  obtain ⟨ys,j,o⟩:=e
  exact ⟨ys,j,qB h hf xs _ (by simpa only [below] using g) o⟩
 | .func f a b,c,g,e=>by
  simp only [VR,renV] at e ⊢
  simp only [below,Bool.and_eq_true] at g
  obtain ⟨ys,zs,j,o,u⟩:=e
  exact ⟨ys,zs,j,qB h hf a _ g.1 o,qB h hf b _ g.2 u⟩
 | .iface t v,c,g,e=>by
  simp only [VR,renV] at e ⊢
  obtain ⟨d,j,o⟩:=e
  exact ⟨d,j,qI h hf v _ (by simpa only [below] using g) o⟩
theorem qB {m m0 : Mp} {ρ : Nat → Nat} {n : Nat} (h : ∀ i v p, i < n → m (ρ i) v = some p → m0 i v = some p) (hf : ∀ i p, m.froz i = some p → m0.froz i = some p) : ∀ (xs : List AV) (cs : List Value), belows n xs = true → VRs m (renVs ρ xs) cs → VRs m0 xs cs
 | [],_,_,e=>by simpa only [VRs,renVs] using e
 | x::xs,cs,g,e=>by
  simp only [VRs,renVs] at e ⊢
  simp only [belows,Bool.and_eq_true] at g
  obtain ⟨y,ys,rfl,j,o⟩:=e
  exact ⟨y,ys,rfl,qI h hf x y g.1 j,qB h hf xs ys g.2 o⟩
end
mutual
theorem qK9 {m m0 : Mp} {ρ : Nat → Nat} {n : Nat} (h : ∀ i v p, i < n → m0 i v = some p → m (ρ i) v = some p) (hf : ∀ i p, m0.froz i = some p → m.froz i = some p) : ∀ (x : AV) (c : Value), below n x = true → VR m0 x c → VR m (renV ρ x) c
 | .top,_,_,_=>by simp only [VR,renV]
 | .int ..,_,_,e=>by simpa only [VR,renV] using e
 | .resid ..,_,_,e=>by simpa only [VR,renV] using e
 | .bool _,_,_,e=>by simpa only [VR,renV] using e
 | .str _,_,_,e=>by simpa only [VR,renV] using e
 | .nilp,_,_,e=>by simpa only [VR,renV] using e
 | .nils,_,_,e=>by simpa only [VR,renV] using e
 | .nilf,_,_,e=>by simpa only [VR,renV] using e
 | .nili,_,_,e=>by simpa only [VR,renV] using e
 | .vec ..,_,_,e=>by
  simp only [VR,renV] at e ⊢
  obtain ⟨z,a,cap,j,o,u,D⟩:=e
  exact ⟨z,a,cap,j,o,u,λE=>let ⟨i,B,off,all,q,r⟩:=D E; ⟨i,B,off,all,hf _ _ q,r⟩⟩
 | .vptr ..,_,_,e=>by
  simp only [VR,renV] at e ⊢
  obtain ⟨i,B,off,all,q,r⟩:=e
  exact ⟨i,B,off,all,hf _ _ q,r⟩
 | .ptr r v off,_,g,e=>by
  simp only [VR,renV,below,Nat.blt_eq] at e g ⊢
  obtain ⟨B,N,j,o⟩:=e
  exact ⟨B,N,h _ _ _ g j,o⟩
 | .slice r v off len sz,_,g,e=>by
  simp only [VR,renV,below,Nat.blt_eq] at e g ⊢
  obtain ⟨B,N,cap,j,o⟩:=e
  exact ⟨B,N,cap,h _ _ _ g j,o⟩
 | .own r len sz,_,g,e=>by
  simp only [VR,renV,below,Nat.blt_eq] at e g ⊢
  rcases e with e | ⟨B,N,cap,j,o⟩
  ·exact .inl e
  ·exact .inr ⟨B,N,cap,h _ _ _ g j,o⟩
 | .agg xs,c,g,e=>by
  simp only [VR,renV] at e ⊢
  obtain ⟨ys,j,o⟩:=e
  exact ⟨ys,j,qDa h hf xs _ (by simpa only [below] using g) o⟩
 | .tuple xs,c,g,e=>by
  simp only [VR,renV] at e ⊢
  obtain ⟨ys,j,o⟩:=e
  exact ⟨ys,j,qDa h hf xs _ (by simpa only [below] using g) o⟩
 | .func f a b,c,g,e=>by
  simp only [VR,renV] at e ⊢
  simp only [below,Bool.and_eq_true] at g
  obtain ⟨ys,zs,j,o,u⟩:=e
  exact ⟨ys,zs,j,qDa h hf a _ g.1 o,qDa h hf b _ g.2 u⟩
 | .iface t v,c,g,e=>by
  simp only [VR,renV] at e ⊢
  obtain ⟨d,j,o⟩:=e
  exact ⟨d,j,qK9 h hf v _ (by simpa only [below] using g) o⟩
theorem qDa {m m0 : Mp} {ρ : Nat → Nat} {n : Nat} (h : ∀ i v p, i < n → m0 i v = some p → m (ρ i) v = some p) (hf : ∀ i p, m0.froz i = some p → m.froz i = some p) : ∀ (xs : List AV) (cs : List Value), belows n xs = true → VRs m0 xs cs → VRs m (renVs ρ xs) cs
 | [],_,_,e=>by simpa only [VRs,renVs] using e
 | x::xs,cs,g,e=>by
  simp only [VRs,renVs] at e ⊢
  simp only [belows,Bool.and_eq_true] at g
  obtain ⟨y,ys,rfl,j,o⟩:=e
  exact ⟨y,ys,rfl,qK9 h hf x y g.1 j,qDa h hf xs ys g.2 o⟩
end
mutual
theorem qKa : ∀ x : AV, renV id x = x
 | .top | .int .. | .resid .. | .bool _ | .str _ | .nilp | .nils | .nilf | .nili | .vec .. | .vptr .. | .ptr .. | .slice .. | .own .. => by simp [renV]
 | .agg xs=>by simp only [renV]; rw [qDb xs]
 | .tuple xs=>by simp only [renV]; rw [qDb xs]
 | .func _ a b=>by simp only [renV]; rw [qDb a,qDb b]
 | .iface _ v=>by simp only [renV]; rw [qKa v]
theorem qDb : ∀ xs : List AV, renVs id xs = xs
 | []=>rfl
 | x::xs=>by simp only [renVs]; rw [qKa x,qDb xs]
end
theorem qBc (ρ : Nat → Nat) : ∀ xs : List AV, (renVs ρ xs).length = xs.length
 | []=>rfl
 | x::xs=>by simp only [renVs,List.length_cons,qBc ρ xs]
theorem qC6 (ρ : Nat → Nat) : ∀ (xs : List AV) (k : Nat), (renVs ρ xs).take k = renVs ρ (xs.take k)
 | [],k=>by simp [renVs]
 | x::xs,0=>by simp [renVs]
 | x::xs,k+1=>by simp only [renVs,List.take_succ_cons,qC6 ρ xs k]
mutual
theorem qPq (ρ : Nat → Nat) : ∀ x : AV, pur x = true → renV ρ x = x
 | .top,_ | .int ..,_ | .resid ..,_ | .bool _,_ | .str _,_ | .nilp,_ | .nils,_ | .nilf,_ | .nili,_ | .vec ..,_ | .vptr ..,_=>by simp [renV]
 | .ptr ..,h | .slice ..,h | .own ..,h=>by simp [pur] at h
 | .agg xs,h=>by simp only [pur,renV] at h ⊢; rw [qCb ρ xs h]
 | .tuple xs,h=>by simp only [pur,renV] at h ⊢; rw [qCb ρ xs h]
 | .func _ a b,h=>by simp only [pur,renV,Bool.and_eq_true] at h ⊢; rw [qCb ρ a h.1,qCb ρ b h.2]
 | .iface _ v,h=>by simp only [pur,renV] at h ⊢; rw [qPq ρ v h]
theorem qCb (ρ : Nat → Nat) : ∀ xs : List AV, purs xs = true → renVs ρ xs = xs
 | [],_=>rfl
 | x::xs,h=>by simp only [purs,renVs,Bool.and_eq_true] at h ⊢; rw [qPq ρ x h.1,qCb ρ xs h.2]
end
noncomputable def at0 (rs:LN) (i:Nat):Nat:=match nth rs i with | some r=>r | none=>0
def RB (rs:LN) (n:Nat) (b c:Blk):Prop:=b.ro=false∧((c=b∧purs b.cells=true)∨(belows n b.cells=true∧c=⟨renVs (at0 rs) b.cells,b.minv,false⟩))
def RBs (rs : LN) (n : Nat) (M : List Blk) : Nat → List Blk → Prop
 | _,[]=>True
 | i,b::L=>(match nth M (at0 rs i) with | some c=>RB rs n b c | none=>False)∧RBs rs n M (i+1) L
theorem qBg {rs : LN} {n : Nat} {M : List Blk} : ∀ {L : List Blk} {i j : Nat} {b : Blk}, RBs rs n M i L → L[j]? = some b → ∃ c, M[at0 rs (i + j)]? = some c ∧ RB rs n b c
 | [],i,j,b,_,h=>by simp at h
 | o::L,i,j,b,hr,h=>by
  cases j with
  | zero =>
   simp at h
   subst h
   have a:=hr.1
   split at a
   ·rename_i c hc; exact ⟨c,by rw [← qCr]; exact hc,a⟩
   ·exact a.elim
  | succ j =>
   obtain ⟨c,a,g⟩:=qBg hr.2 (by simpa using h)
   exact ⟨c,by rw [show i+(j+1)=i+1+j by omega]; exact a,g⟩
theorem RB.cells {rs:LN} {n:Nat} {b c:Blk} (h:RB rs n b c):b.ro=false∧c.ro=false∧c.minv=b.minv∧belows n b.cells=true∧c.cells=renVs (at0 rs) b.cells:=by
 obtain ⟨g,⟨rfl,a⟩ | ⟨a,rfl⟩⟩:=h
 ·exact ⟨g,g,rfl,qA3 _ a,(qCb _ _ a).symm⟩
 ·exact ⟨g,rfl,rfl,a,rfl⟩
def SameB (rs : LN) : Nat → List Blk → List Blk → Prop
 | _,[],_=>True
 | _,_::_,[]=>False
 | i,b::M,c::M'=>(c=b∨(rs.any λr=>Nat.beq r i)=true)∧SameB rs (i+1) M M'
theorem qK2 {rs : LN} : ∀ {M M' : List Blk} {i j : Nat}, SameB rs i M M' → j < M.length → (∀ r ∈ rs, r ≠ i + j) → M'[j]? = M[j]?
 | [],_,i,j,_,h,_=>by simp at h
 | b::M,[],i,j,h,_,_=>h.elim
 | b::M,c::M',i,j,h,hj,g=>by
  cases j with
  | zero =>
   rcases h.1 with a | a
   ·rw [a]; rfl
   ·obtain ⟨r,hr,he⟩:=List.any_eq_true.1 a
    exact absurd (Nat.eq_of_beq_eq_true he) (g r hr)
  | succ j =>
   simp only [List.getElem?_cons_succ]
   exact qK2 h.2 (by simpa using hj) λr hr=>by rw [show i+1+j=i+(j+1) by omega]; exact g r hr
def frB (n k k' : Nat) : Nat → LN → Bool
 | _,[]=>true
 | i,r::l=>(bif Nat.blt i n then Nat.blt r k else Nat.ble k r && Nat.blt r k') && (l.all λs => !Nat.beq s r) && frB n k k' (i+1) l
def frOk (n n' k k':Nat) (rs:LN):Bool:=Nat.beq rs.length n' && Nat.ble n n' && Nat.ble k k' && Nat.ble k' roots && Nat.ble n' roots && frB n k k' 0 rs
theorem qIi {n k k' : Nat} : ∀ {l : LN} {i : Nat}, frB n k k' i l = true → (∀ (j r : Nat), l[j]? = some r → (i + j < n → r < k) ∧ (n ≤ i + j → k ≤ r ∧ r < k')) ∧ (∀ (j j' r : Nat), l[j]? = some r → l[j']? = some r → j = j')
 | [],i,_=>⟨λj r h=>by simp at h,λj j' r h=>by simp at h⟩
 | b::l,i,h=>by
  simp only [frB,Bool.and_eq_true] at h
  obtain ⟨⟨a,c⟩,g⟩:=h
  obtain ⟨o,q⟩:=qIi g
  have hne:∀ j:Nat,l[j]? ≠ some b:=by
   intro j hj
   have:=List.all_eq_true.1 c b (List.mem_of_getElem? hj)
   simp at this
  refine ⟨?_,?_⟩
  ·intro j r hj
   cases j with
   | zero =>
    simp at hj; subst hj
    refine ⟨λhlt=>?_,λhge=>?_⟩
    ·have:Nat.blt i n=true:=by simpa using hlt
     rw [this] at a; simpa using a
    ·have:Nat.blt i n=false:=by
      cases hq:Nat.blt i n with
      | false=>rfl
      | true=>rw [Nat.blt_eq] at hq; omega
     rw [this] at a; simpa using a
   | succ j =>
    have:=o j r (by simpa using hj)
    rw [show i+(j+1)=i+1+j by omega]
    exact this
  ·intro j j' r hj hj'
   cases j with
   | zero =>
    cases j' with
    | zero=>rfl
    | succ j'=>simp at hj hj'; subst hj; exact absurd hj' (hne j')
   | succ j =>
    cases j' with
    | zero=>simp at hj hj'; subst hj'; exact absurd hj (hne j)
    | succ j'=>rw [q j j' r (by simpa using hj) (by simpa using hj')]
theorem qAt {L:List Blk} (hl:L.length≤roots) (r:Nat):(mkH L).t.get r=L[r]? := by
 show (mkT 0 L).get r=_
 rw [qB7 _ _ _ (by omega)]; simp
theorem frame {P : Program} {g : Nat} {ys : List AV} {L L' : List Blk} {v : AV} (h : CallT P g ys (mkH L) none v (mkH L')) (rs : LN) (M M' : List Blk)
 (hc:frOk L.length L'.length M.length M'.length rs=true) (hys:belows L.length ys=true) (hL:RBs rs L.length M 0 L) (hL':RBs rs L'.length M' 0 L') (hv:below L'.length v=true) (hS:SameB rs 0 M M') :
 CallT P g (renVs (at0 rs) ys) (mkH M) none (renV (at0 rs) v) (mkH M'):=by
 refine ⟨?_,h.2⟩
 intro m w base args hargs rw
 simp only [frOk,Bool.and_eq_true,Nat.beq_eq,Nat.ble_eq] at hc
 obtain ⟨⟨⟨⟨⟨c1,c2⟩,c3⟩,c4⟩,c6⟩,c5⟩:=hc
 obtain ⟨hbd,hinj⟩:=qIi c5
 have hat:∀ i,i < L'.length→∃ r,rs[i]? = some r∧at0 rs i=r:=by
  intro i hi
  have hi':i < rs.length:=by omega
  refine ⟨rs[i],List.getElem?_eq_getElem hi',?_⟩
  unfold at0
  rw [qCr,List.getElem?_eq_getElem hi']
 have hlow:∀ i,i < L.length→at0 rs i < M.length:=by
  intro i hi
  obtain ⟨r,a,z⟩:=hat i (by omega)
  rw [z]
  exact (hbd i r a).1 (by omega)
 have hhigh:∀ i,L.length≤i→i < L'.length→M.length≤at0 rs i:=by
  intro i hi hi'
  obtain ⟨r,a,z⟩:=hat i hi'
  rw [z]
  exact ((hbd i r a).2 (by omega)).1
 have hinj':∀ i j,i < L'.length→j < L'.length→at0 rs i=at0 rs j→i=j:=by
  intro i j hi hj e
  obtain ⟨r,a,z⟩:=hat i hi
  obtain ⟨s,h3,h4⟩:=hat j hj
  rw [z,h4] at e
  subst e
  exact hinj i j r a h3
 have hMget:=qAt (L:=M) (by omega)
 have hM'get:=qAt (L:=M') c4
 have hroomL:L.length≤roots∧L'.length≤roots:=by omega
 have hLget:=qAt (L:=L) hroomL.1
 have hL'get:=qAt (L:=L') hroomL.2
 have hnoM:∀ r v,M.length≤r→m r v=none:=by
  intro r v hr
  cases e:m r v with
  | none=>rfl
  | some p =>
   obtain ⟨b,n,_⟩:=rw.dom r v p.1 p.2 e
   rw [hMget,List.getElem?_eq_none hr] at n; cases n
 let m0:Mp:=⟨λi v=>if i < L.length then m (at0 rs i) v else none,m.froz⟩
 have o:∀ {i v p},m0 i v=some p→i < L.length∧m (at0 rs i) v=some p:=by
  intro i v p e
  have e:(if i < L.length then m (at0 rs i) v else none)=some p:=e
  by_cases hi:i < L.length
  ·rw [if_pos hi] at e; exact ⟨hi,e⟩
  ·rw [if_neg hi] at e; cases e
 have E:∀ i v p,i < L.length→m (at0 rs i) v=some p→m0 i v=some p:=by
  intro i v p hi e
  show (if i < L.length then m (at0 rs i) v else none)=some p
  rw [if_pos hi]; exact e
 have a0:RW m0 (mkH L) w base:=by
  refine ⟨?_,?_,?_,?_,?_,rw.frz,?_,rw.ffin,rw.base_le,hroomL.1⟩
  ·intro i b v B N n hm a z
   rw [hLget] at n
   obtain ⟨hi,hm⟩:=o hm
   obtain ⟨c,q,D⟩:=qBg hL n
   rw [Nat.zero_add] at q
   obtain ⟨Q,e2,e3,e4,e5⟩:=D.cells
   obtain ⟨cs,ty,fr,S,p2,p3,p4,p5⟩:=rw.blk (at0 rs i) c v B N (by rw [hMget]; exact q) hm (by rw [e3]; exact a) (by rw [e5,qBc]; exact z)
   refine ⟨cs,ty,fr,S,p2,p3,λ_=>p4 e2,?_⟩
   rw [e5,qC6] at p5
   exact qB E (λ_ _ h=>h) _ _ (qB2 v e4) p5
  ·intro i v B N hm
   obtain ⟨hi,hm⟩:=o hm
   obtain ⟨c0,T,Y,g3,g4⟩:=rw.dom _ _ _ _ hm
   have n:L[i]? = some L[i]:=List.getElem?_eq_getElem hi
   obtain ⟨c,q,D⟩:=qBg hL n
   rw [Nat.zero_add] at q
   rw [hMget,q] at T
   cases T
   obtain ⟨Q,e2,e3,e4,e5⟩:=D.cells
   exact ⟨_,by rw [hLget]; exact n,by rw [e5,qBc] at Y; exact Y,g3,λ_=>g4 e2⟩
  ·intro i v B N i' v' N' hm hm' hB
   obtain ⟨hi,hm⟩:=o hm
   obtain ⟨hi',hm'⟩:=o hm'
   exact hinj' i i' (by omega) (by omega) (rw.sep _ _ _ _ _ _ _ hm hm' hB)
  ·intro r hr
   have hr:L.length≤r:=hr
   rw [hLget,List.getElem?_eq_none hr]
  ·intro i v B N hm
   exact rw.vle _ _ _ _ (o hm).2
  ·intro i B cells r v N b hi hm n
   obtain ⟨hr,hm⟩:=o hm
   rw [hLget] at n
   obtain ⟨c,q,D⟩:=qBg hL n
   rw [Nat.zero_add] at q
   obtain ⟨Q,e2,_⟩:=D.cells
   have:=rw.fsep i B cells _ v N c hi hm (by rw [hMget]; exact q)
   rw [e2] at this; cases this
 have hargs0:VRs m0 ys args.toList:=qB E (λ_ _ h=>h) _ _ hys hargs
 refine Calls.mono (h.1 m0 w base args hargs0 a0) ?_
 intro x w' hend
 have hsep:∀ {r v B N},m r v=some (B,N)→(∀ i,i < L.length→at0 rs i ≠ r)→∀ i v' N',m0 i v'=some (B,N')→B < base:=by
  intro r v B N hm hr i v' N' hi
  obtain ⟨hi,hm'⟩:=o hi
  rcases Nat.lt_or_ge B base with hlt | hge
  ·exact hlt
  ·exact absurd (rw.sep _ _ _ _ _ _ _ hm' hm hge) (hr i hi)
 obtain ⟨I,c,rfl,u,st,hvc⟩:=hend
 have a7:∀ {i v p},I i v=some p→i < L'.length:=by
  intro i v p e
  obtain ⟨b,n,_⟩:=u.dom i v p.1 p.2 e
  rw [hL'get] at n
  exact (List.getElem?_eq_some_iff.1 n).1
 have hσ:∀ r,(∃ i,i < L'.length∧at0 rs i=r)∨(∀ i,i < L'.length→at0 rs i ≠ r):=by
  intro r
  rcases Classical.em (∃ i,i < L'.length∧at0 rs i=r) with h | h
  ·exact .inl h
  ·exact .inr λi hi e=>h ⟨i,hi,e⟩
 let U:Mp:=⟨λr v=>if h:∃ i,i < L'.length∧at0 rs i=r then I (Classical.choose h) v else m r v,I.froz⟩
 have hin:∀ {i v},i < L'.length→U (at0 rs i) v=I i v:=by
  intro i v hi
  have hex:∃ j,j < L'.length∧at0 rs j=at0 rs i:=⟨i,hi,rfl⟩
  show (if h:∃ j,j < L'.length∧at0 rs j=at0 rs i then I (Classical.choose h) v else m (at0 rs i) v)=_
  rw [dif_pos hex]
  have hs:=Classical.choose_spec hex
  rw [hinj' _ _ hs.1 hi hs.2]
 have hout:∀ {r v},(∀ i,i < L'.length→at0 rs i ≠ r)→U r v=m r v:=by
  intro r v hr
  show (if h:∃ j,j < L'.length∧at0 rs j=r then I (Classical.choose h) v else m r v)=_
  rw [dif_neg]
  rintro ⟨j,a,z⟩
  exact hr j a z
 have hfwd:∀ i v p,i < L'.length→I i v=some p→U (at0 rs i) v=some p:=λi v p hi e=>by rw [hin hi]; exact e
 have hsub:Sub m U:=by
  refine ⟨?_,λi p hp=>st.sub.2 i p hp⟩
  intro r v p hp
  rcases hσ r with ⟨i,hi,rfl⟩ | hr
  ·rw [hin hi]
   rcases Nat.lt_or_ge i L.length with a | a
   ·exact st.sub.1 i v p (E i v p a hp)
   ·have:=hnoM _ v (hhigh i a hi)
    rw [this] at hp; cases hp
  ·rw [hout hr]; exact hp
 have hother:∀ {r v B N},(∀ i,i < L'.length→at0 rs i ≠ r)→m r v=some (B,N)→w'.heap[B]? = w.heap[B]? := by
  intro r v B N hr hm
  obtain ⟨b,q,D,J,Z⟩:=rw.dom r v B N hm
  exact st.same B J λi v' N' e=>hsep hm (λi hi=>hr i (by omega)) i v' N' e
 have hsameM:∀ {r b},(∀ i,i < L'.length→at0 rs i ≠ r)→r < M.length→M'[r]? = some b→M[r]? = some b:=by
  intro r b hr hlt n
  rw [← qK2 hS hlt]
  ·exact n
  ·intro s hs
   obtain ⟨j,hj⟩:=List.mem_iff_getElem?.1 hs
   have hjl:j < L'.length:=by
    have:=(List.getElem?_eq_some_iff.1 hj).1
    omega
   obtain ⟨s',a,z⟩:=hat j hjl
   rw [hj] at a
   cases a
   rw [Nat.zero_add,← z]
   exact hr j hjl
 have hltM:∀ {r v p},m r v=some p→r < M.length:=by
  intro r v p hm
  rcases Nat.lt_or_ge r M.length with a | a
  ·exact a
  ·rw [hnoM r v a] at hm; cases hm
 have hsep2:∀ {i r v v' B N N'},i < L'.length→(∀ i,i < L'.length→at0 rs i ≠ r)→I i v=some (B,N)→m r v'=some (B,N')→base≤B→False:=by
  intro i r v v' B N N' hi hr a z hB
  rcases st.ext i v B N a with ⟨K,O,e0⟩ | hnew
  ·exact absurd (hsep z (λi hi=>hr i (by omega)) i K O e0) (by omega)
  ·obtain ⟨_,_,_,J,_⟩:=rw.dom r v' B N' z
   omega
 refine ⟨U,c,rfl,⟨?_,?_,?_,?_,?_,u.frz,?_,u.ffin,u.base_le,c4⟩,⟨hsub,?_,?_,st.size,st.os,st.tape,st.output,λB hB hm=>st.same B hB λi v N e=>hm _ v N (o e).2⟩,qK9 hfwd (λ_ _ h=>h) v c hv hvc⟩
 ·intro r b v B N n hm a z
  rw [hM'get] at n
  rcases hσ r with ⟨i,hi,rfl⟩ | hr
  ·rw [hin hi] at hm
   have hbl:L'[i]? = some L'[i]:=List.getElem?_eq_getElem hi
   obtain ⟨c',q,D⟩:=qBg hL' hbl
   rw [Nat.zero_add,n] at q
   cases q
   obtain ⟨Q,e2,e3,e4,e5⟩:=D.cells
   rw [e3] at a
   rw [e5,qBc] at z
   obtain ⟨cs,ty,fr,S,p2,p3,p4,p5⟩:=u.blk i _ v B N (by rw [hL'get]; exact hbl) hm a z
   refine ⟨cs,ty,fr,S,p2,p3,λ_=>p4 Q,?_⟩
   rw [e5,qC6]
   exact qDa hfwd (λ_ _ h=>h) _ _ (qB2 v e4) p5
  ·rw [hout hr] at hm
   have hbM:=hsameM hr (hltM hm) n
   obtain ⟨cs,ty,fr,S,p2,p3,p4,p5⟩:=rw.blk r b v B N (by rw [hMget]; exact hbM) hm a z
   exact ⟨cs,ty,fr,by rw [hother hr hm]; exact S,p2,p3,p4,VRs.mono hsub _ _ p5⟩
 ·intro r v B N hm
  rcases hσ r with ⟨i,hi,rfl⟩ | hr
  ·rw [hin hi] at hm
   obtain ⟨b,q,D,J,Z⟩:=u.dom i v B N hm
   rw [hL'get] at q
   obtain ⟨c',T,Y⟩:=qBg hL' q
   rw [Nat.zero_add] at T
   obtain ⟨Q,e2,e3,e4,e5⟩:=Y.cells
   exact ⟨c',by rw [hM'get]; exact T,by rw [e5,qBc]; exact D,J,λ_=>Z Q⟩
  ·rw [hout hr] at hm
   obtain ⟨b,q,D,J,Z⟩:=rw.dom r v B N hm
   rw [hMget] at q
   have hlt:=(List.getElem?_eq_some_iff.1 q).1
   have hM'r:M'[r]? = some b:=by
    have hlt':r < M'.length:=by omega
    have:=hsameM (b:=M'[r]) hr hlt (List.getElem?_eq_getElem hlt')
    rw [q] at this
    rw [List.getElem?_eq_getElem hlt',← this]
   exact ⟨b,by rw [hM'get]; exact hM'r,D,Nat.lt_of_lt_of_le J st.size,Z⟩
 ·intro r v B N r' v' N' hm hm' hB
  rcases hσ r with ⟨i,hi,rfl⟩ | hr
  ·rw [hin hi] at hm
   rcases hσ r' with ⟨j,hj,rfl⟩ | hr'
   ·rw [hin hj] at hm'
    rw [u.sep _ _ _ _ _ _ _ hm hm' hB]
   ·rw [hout hr'] at hm'
    exact (hsep2 hi hr' hm hm' hB).elim
  ·rw [hout hr] at hm
   rcases hσ r' with ⟨j,hj,rfl⟩ | hr'
   ·rw [hin hj] at hm'
    exact (hsep2 hj hr hm' hm hB).elim
   ·rw [hout hr'] at hm'
    exact rw.sep _ _ _ _ _ _ _ hm hm' hB
 ·intro r hr
  have hr:M'.length≤r:=hr
  rw [hM'get,List.getElem?_eq_none hr]
 ·intro r v B N hm
  rcases hσ r with ⟨i,hi,rfl⟩ | hr
  ·rw [hin hi] at hm; exact u.vle _ _ _ _ hm
  ·rw [hout hr] at hm; exact rw.vle _ _ _ _ hm
 ·intro i B cells r v N b hi hm n
  rw [hM'get] at n
  rcases hσ r with ⟨j,hj,rfl⟩ | hr
  ·rw [hin hj] at hm
   have hbl:L'[j]? = some L'[j]:=List.getElem?_eq_getElem hj
   have:=u.fsep i B cells j v N _ hi hm (by rw [hL'get]; exact hbl)
   obtain ⟨c',q,D⟩:=qBg hL' hbl
   rw [D.1] at this; cases this
  ·rw [hout hr] at hm
   have hbM:=hsameM hr (hltM hm) n
   rcases st.fext i B cells hi with hold | ⟨hB,⟨j,K,O,hj⟩ | hnew⟩
   ·exact rw.fsep i B cells r v N b hold hm (by rw [hMget]; exact hbM)
   ·exact absurd (hsep hm (λi hi=>hr i (by omega)) j K O hj) (by omega)
   ·obtain ⟨_,_,_,J,_⟩:=rw.dom r v B N hm
    omega
 ·intro r v B N hm
  rcases hσ r with ⟨i,hi,rfl⟩ | hr
  ·rw [hin hi] at hm
   rcases st.ext i v B N hm with ⟨K,O,e0⟩ | hnew
   ·exact .inl ⟨K,O,(o e0).2⟩
   ·exact .inr hnew
  ·rw [hout hr] at hm
   exact .inl ⟨v,N,hm⟩
 ·intro i B cells hi
  rcases st.fext i B cells hi with hold | ⟨hB,⟨j,K,O,hj⟩ | hnew⟩
  ·exact .inl hold
  ·exact .inr ⟨hB,.inl ⟨_,K,O,(o hj).2⟩⟩
  ·exact .inr ⟨hB,.inr hnew⟩
mutual
theorem qFe (ρ : Nat → Nat) : ∀ x : AV, pur (renV ρ x) = true → pur x = true
 | .top,_ | .int ..,_ | .resid ..,_ | .bool _,_ | .str _,_ | .nilp,_ | .nils,_ | .nilf,_ | .nili,_ | .vec ..,_ | .vptr ..,_=>by simp [pur]
 | .ptr ..,h | .slice ..,h | .own ..,h=>by simp [pur,renV] at h
 | .agg xs,h=>by simp only [pur,renV] at h ⊢; exact qBm ρ xs h
 | .tuple xs,h=>by simp only [pur,renV] at h ⊢; exact qBm ρ xs h
 | .func _ a b,h=>by simp only [pur,renV,Bool.and_eq_true] at h ⊢; exact ⟨qBm ρ a h.1,qBm ρ b h.2⟩
 | .iface _ v,h=>by simp only [pur,renV] at h ⊢; exact qFe ρ v h
theorem qBm (ρ : Nat → Nat) : ∀ xs : List AV, purs (renVs ρ xs) = true → purs xs = true
 | [],_=>rfl
 | x::xs,h=>by simp only [purs,renVs,Bool.and_eq_true] at h ⊢; exact ⟨qFe ρ x h.1,qBm ρ xs h.2⟩
end
def dOk (rs a D : LN) : Nat → List Blk → Prop
 | _,[]=>True
 | r,b::M=>((D.any λs=>Nat.beq s r)=true∨(purs b.cells=true∧(a.all λi => !Nat.beq (at0 rs i) r)=true))∧dOk rs a D (r+1) M
theorem qL7 {rs c D : LN} : ∀ {M : List Blk} {r j : Nat} {b : Blk}, dOk rs c D r M → M[j]? = some b → r + j ∉ D → purs b.cells = true ∧ ∀ i ∈ c, at0 rs i ≠ r + j
 | [],r,j,b,_,h,_=>by simp at h
 | o::M,r,j,b,h,hj,g=>by
  cases j with
  | zero =>
   simp at hj
   subst hj
   rcases h.1 with a | ⟨a,n⟩
   ·obtain ⟨s,hs,he⟩:=List.any_eq_true.1 a
    have:=Nat.eq_of_beq_eq_true he
    subst this
    exact absurd hs g
   ·refine ⟨a,λi hi e=>?_⟩
    have:=List.all_eq_true.1 n i hi
    rw [e] at this
    simp at this
  | succ j =>
   have:=qL7 h.2 (j:=j) (b:=b) (by simpa using hj) (by rw [show r+1+j=r+(j+1) by omega]; exact g)
   rw [show r+(j+1)=r+1+j by omega]
   exact this
theorem frameTh {P : Program} {g : Nat} {ys : List AV} {L : List Blk} {t : Value} {D0 : LN} {v : AV} (h : CallT P g ys (mkH L) (some (t, D0)) v (mkH L)) (rs : LN) (M : List Blk) (D : LN)
 (hc:frOk L.length L.length M.length M.length rs=true) (hys:belows L.length ys=true) (hL:RBs rs L.length M 0 L) (hD:dOk rs D0 D 0 M) (v':AV) :
 CallT P g (renVs (at0 rs) ys) (mkH M) (some (t,D)) v' (mkH M):=by
 refine ⟨?_,h.2⟩
 intro m w base args hargs rw
 simp only [frOk,Bool.and_eq_true,Nat.beq_eq,Nat.ble_eq] at hc
 obtain ⟨⟨⟨⟨⟨c1,c2⟩,c3⟩,c4⟩,c6⟩,c5⟩:=hc
 obtain ⟨hbd,hinj⟩:=qIi c5
 have hat:∀ i,i < L.length→∃ r,rs[i]? = some r∧at0 rs i=r:=by
  intro i hi
  have hi':i < rs.length:=by omega
  refine ⟨rs[i],List.getElem?_eq_getElem hi',?_⟩
  unfold at0
  rw [qCr,List.getElem?_eq_getElem hi']
 have hlow:∀ i,i < L.length→at0 rs i < M.length:=by
  intro i hi
  obtain ⟨r,o,E⟩:=hat i (by omega)
  rw [E]
  exact (hbd i r o).1 (by omega)
 have hhigh:∀ i,L.length≤i→i < L.length→M.length≤at0 rs i:=by
  intro i hi hi'
  obtain ⟨r,o,E⟩:=hat i hi'
  rw [E]
  exact ((hbd i r o).2 (by omega)).1
 have hinj':∀ i j,i < L.length→j < L.length→at0 rs i=at0 rs j→i=j:=by
  intro i j hi hj e
  obtain ⟨r,o,E⟩:=hat i hi
  obtain ⟨s,h3,h4⟩:=hat j hj
  rw [E,h4] at e
  subst e
  exact hinj i j r o h3
 have hMget:=qAt (L:=M) (by omega)
 have hMget:=qAt (L:=M) c4
 have hroomL:L.length≤roots∧L.length≤roots:=by omega
 have hLget:=qAt (L:=L) hroomL.1
 have hLget:=qAt (L:=L) hroomL.2
 have hnoM:∀ r v,M.length≤r→m r v=none:=by
  intro r v hr
  cases e:m r v with
  | none=>rfl
  | some p =>
   obtain ⟨b,a,_⟩:=rw.dom r v p.1 p.2 e
   rw [hMget,List.getElem?_eq_none hr] at a; cases a
 let m0:Mp:=⟨λi v=>if i < L.length then m (at0 rs i) v else none,m.froz⟩
 have n:∀ {i v p},m0 i v=some p→i < L.length∧m (at0 rs i) v=some p:=by
  intro i v p e
  have e:(if i < L.length then m (at0 rs i) v else none)=some p:=e
  by_cases hi:i < L.length
  ·rw [if_pos hi] at e; exact ⟨hi,e⟩
  ·rw [if_neg hi] at e; cases e
 have I:∀ i v p,i < L.length→m (at0 rs i) v=some p→m0 i v=some p:=by
  intro i v p hi e
  show (if i < L.length then m (at0 rs i) v else none)=some p
  rw [if_pos hi]; exact e
 have Y:RW m0 (mkH L) w base:=by
  refine ⟨?_,?_,?_,?_,?_,rw.frz,?_,rw.ffin,rw.base_le,hroomL.1⟩
  ·intro i b v B N a hm o E
   rw [hLget] at a
   obtain ⟨hi,hm⟩:=n hm
   obtain ⟨c,u,z⟩:=qBg hL a
   rw [Nat.zero_add] at u
   obtain ⟨U,e2,e3,e4,e5⟩:=z.cells
   obtain ⟨cs,ty,fr,O,p2,p3,p4,p5⟩:=rw.blk (at0 rs i) c v B N (by rw [hMget]; exact u) hm (by rw [e3]; exact o) (by rw [e5,qBc]; exact E)
   refine ⟨cs,ty,fr,O,p2,p3,λ_=>p4 e2,?_⟩
   rw [e5,qC6] at p5
   exact qB I (λ_ _ h=>h) _ _ (qB2 v e4) p5
  ·intro i v B N hm
   obtain ⟨hi,hm⟩:=n hm
   obtain ⟨c0,g1,g2,Z,g4⟩:=rw.dom _ _ _ _ hm
   have a:L[i]? = some L[i]:=List.getElem?_eq_getElem hi
   obtain ⟨c,u,z⟩:=qBg hL a
   rw [Nat.zero_add] at u
   rw [hMget,u] at g1
   cases g1
   obtain ⟨U,e2,e3,e4,e5⟩:=z.cells
   exact ⟨_,by rw [hLget]; exact a,by rw [e5,qBc] at g2; exact g2,Z,λ_=>g4 e2⟩
  ·intro i v B N i' v' N' hm hm' hB
   obtain ⟨hi,hm⟩:=n hm
   obtain ⟨hi',hm'⟩:=n hm'
   exact hinj' i i' (by omega) (by omega) (rw.sep _ _ _ _ _ _ _ hm hm' hB)
  ·intro r hr
   have hr:L.length≤r:=hr
   rw [hLget,List.getElem?_eq_none hr]
  ·intro i v B N hm
   exact rw.vle _ _ _ _ (n hm).2
  ·intro i B cells r v N b hi hm a
   obtain ⟨hr,hm⟩:=n hm
   rw [hLget] at a
   obtain ⟨c,u,z⟩:=qBg hL a
   rw [Nat.zero_add] at u
   obtain ⟨U,e2,_⟩:=z.cells
   have:=rw.fsep i B cells _ v N c hi hm (by rw [hMget]; exact u)
   rw [e2] at this; cases this
 have hargs0:VRs m0 ys args.toList:=qB I (λ_ _ h=>h) _ _ hys hargs
 refine Calls.mono (h.1 m0 w base args hargs0 Y) ?_
 intro x w' hend
 have hsep:∀ {r v B N},m r v=some (B,N)→(∀ i,i < L.length→at0 rs i ≠ r)→∀ i v' N',m0 i v'=some (B,N')→B < base:=by
  intro r v B N hm hr i v' N' hi
  obtain ⟨hi,hm'⟩:=n hi
  rcases Nat.lt_or_ge B base with hlt | hge
  ·exact hlt
  ·exact absurd (rw.sep _ _ _ _ _ _ _ hm' hm hge) (hr i hi)
 obtain ⟨rfl,q,Q,d1,d2,d3,J⟩:=hend
 have hin:∀ {r v p},(if r ∈ D then none else m r v)=some p→r ∉ D∧m r v=some p∧∀ i,i < L.length→at0 rs i=r→Q i v=some p:=by
  intro r v p e
  by_cases hr:r ∈ D
  ·rw [if_pos hr] at e; cases e
  ·rw [if_neg hr] at e
   refine ⟨hr,e,λi hi hir=>?_⟩
   subst hir
   have hlt:=hlow i hi
   obtain ⟨_,hne⟩:=qL7 (b:=M[at0 rs i]) hD (List.getElem?_eq_getElem hlt) (by rw [Nat.zero_add]; exact hr)
   rw [d1,if_neg (λa0=>hne i a0 (by rw [Nat.zero_add]))]
   exact I i v p hi e
 have hltM:∀ {r v p},m r v=some p→r < M.length:=by
  intro r v p hm
  rcases Nat.lt_or_ge r M.length with o | o
  ·exact o
  ·rw [hnoM r v o] at hm; cases hm
 refine ⟨rfl,⟨q.size,q.os,q.tape,q.output,λB hB hm=>q.same B hB λi v N e=>hm _ v N (n e).2⟩,⟨λr v=>if r ∈ D then none else m r v,Q.froz⟩,λ_ _=>rfl,d2,?_,?_⟩
 ·intro i B cells hi
  rcases d3 i B cells hi with h | ⟨hB,⟨r,v,N,hm⟩ | hn⟩
  ·exact .inl h
  ·exact .inr ⟨hB,.inl ⟨_,v,N,(n hm).2⟩⟩
  ·exact .inr ⟨hB,.inr hn⟩
 ·refine ⟨?_,?_,?_,?_,?_,J.frz,?_,J.ffin,J.base_le,by show M.length≤roots; omega⟩
  ·intro r b v B N a hm o E
   rw [hMget] at a
   obtain ⟨hr,hm,hcal⟩:=hin hm
   have hpur:=(qL7 hD a (by rw [Nat.zero_add]; exact hr)).1
   rcases Classical.em (∃ i,i < L.length∧at0 rs i=r) with ⟨i,hi,rfl⟩ | hno
   ·have K:=hcal i hi rfl
    have hbl:L[i]? = some L[i]:=List.getElem?_eq_getElem hi
    obtain ⟨c',u,z⟩:=qBg hL hbl
    rw [Nat.zero_add,a] at u
    cases u
    obtain ⟨U,e2,e3,e4,e5⟩:=z.cells
    rw [e3] at o
    rw [e5,qBc] at E
    obtain ⟨cs,ty,fr,O,p2,p3,p4,p5⟩:=J.blk i _ v B N (by rw [hLget]; exact hbl) K o E
    refine ⟨cs,ty,fr,O,p2,p3,λ_=>p4 U,?_⟩
    have S:purs (L[i].cells.take v)=true:=by
     rcases z.2 with ⟨a1,T⟩ | ⟨a1,T⟩
     ·exact qCm _ v T
     ·rw [e5] at hpur
      exact qCm _ v (qBm _ _ hpur)
    rw [e5,qC6,qCb _ _ S]
    exact VRs.mono (m:=Q.still) (m':=⟨λr v=>if r ∈ D then none else m r v,Q.froz⟩) ⟨λ_ _ _ h=>(by cases h),λ_ _ h=>h⟩ _ _ (qBa _ _ S p5)
   ·have hout:∀ i,i < L.length→at0 rs i ≠ r:=λi hi e=>hno ⟨i,hi,e⟩
    obtain ⟨cs,ty,fr,O,p2,p3,p4,p5⟩:=rw.blk r b v B N (by rw [hMget]; exact a) hm o E
    obtain ⟨_,_,_,Z,_⟩:=rw.dom r v B N hm
    refine ⟨cs,ty,fr,by rw [q.same B Z λi v' N' e=>hsep hm hout i v' N' e]; exact O,p2,p3,p4,?_⟩
    exact VRs.mono (m:=m.still) (m':=⟨λr v=>if r ∈ D then none else m r v,Q.froz⟩) ⟨λ_ _ _ h=>(by cases h),λi p h=>d2 i p h⟩ _ _ (qBa _ _ (qCm _ v hpur) p5)
  ·intro r v B N hm
   obtain ⟨hr,hm,_⟩:=hin hm
   obtain ⟨b,u,z,q3,q4⟩:=rw.dom r v B N hm
   exact ⟨b,u,z,Nat.lt_of_lt_of_le q3 q.size,q4⟩
  ·intro r v B N r' v' N' hm hm' hB
   exact rw.sep _ _ _ _ _ _ _ (hin hm).2.1 (hin hm').2.1 hB
  ·intro r hr
   have hr:M.length≤r:=hr
   rw [hMget,List.getElem?_eq_none hr]
  ·intro r v B N hm
   exact rw.vle _ _ _ _ (hin hm).2.1
  ·intro i B cells r v N b hi hm a
   obtain ⟨hr,hm,hcal⟩:=hin hm
   rw [hMget] at a
   rcases Classical.em (∃ i,i < L.length∧at0 rs i=r) with ⟨j,hj,rfl⟩ | hno
   ·have K:=hcal j hj rfl
    have hbl:L[j]? = some L[j]:=List.getElem?_eq_getElem hj
    have:=J.fsep i B cells j v N _ hi K (by rw [hLget]; exact hbl)
    obtain ⟨c',u,z⟩:=qBg hL hbl
    rw [z.1] at this; cases this
   ·have hout:∀ i,i < L.length→at0 rs i ≠ r:=λi hi e=>hno ⟨i,hi,e⟩
    rcases d3 i B cells hi with hold | ⟨hB,⟨j,v0,N0,hj⟩ | hnew⟩
    ·exact rw.fsep i B cells r v N b hold hm (by rw [hMget]; exact a)
    ·exact absurd (hsep hm hout j v0 N0 hj) (by omega)
    ·obtain ⟨_,_,_,q3,_⟩:=rw.dom r v B N hm
     omega
theorem qBp {P : Program} {Q : Exit → Act → World → Prop} {a : Act} {w : World} {ch : List PanicEntry} (h : Q (.panic ch) a w) : ∀ (K : List Fr), FinK P Q K (.panic ch) a w
 | []=>h
 | .seq b::K=>qBp h K
 | .loop b::K=>qBp h K
 | .block b::K=>qBp h K
 | .scope b::K=>qBp h K
noncomputable def advT (D:DP) (all l:List Oper) (env:Env) (H:Hp):Option (List Oper×Env×List Hp):=match headO all l env with | some o=>some (l.tail,putV env o.dst .top,bif Nat.beq (clsS D.S o) 2 then [H] else []) | none=>none
noncomputable def advN (D:DP) (l:List Oper) (env:Env) (H:Hp):Option (List Oper×Env×List Hp):=match l with | o::l=>some (l,putV env o.dst .top,bif Nat.beq (clsS D.S o) 2 then [H] else []) | []=>none
abbrev bT {α R:Type} (m:Option (Option α)) (f:α→Option (Option R)):Option (Option R) :=
 m.bind λx=>match x with | none=>some none | some y=>f y
section
variable {R:Type} {X:Fx (Option R)} {p p':Pt} {env eE:Env} {H H':Hp}
def keepOk (DX D : LN) : Nat → List Blk → List Blk → Prop
 | _,[],_=>True
 | _,_::_,[]=>False
 | r,b::LX,c::L=>((DX.any λs=>Nat.beq s r)=true∨((D.all λs => !Nat.beq s r)=true∧c=b∧purs b.cells=true))∧keepOk DX D (r+1) LX L
theorem qH4 {DX D : LN} : ∀ {LX L : List Blk} {r j : Nat}, keepOk DX D r LX L → j < LX.length → r + j ∈ DX ∨ (r + j ∉ D ∧ ∃ b, L[j]? = some b ∧ LX[j]? = some b ∧ purs b.cells = true)
 | [],_,r,j,_,h=>by simp at h
 | b::LX,[],r,j,h,_=>h.elim
 | b::LX,c::L,r,j,h,hj=>by
  cases j with
  | zero =>
   rcases h.1 with a | ⟨a,rfl,g⟩
   ·obtain ⟨s,hs,he⟩:=List.any_eq_true.1 a
    have:=Nat.eq_of_beq_eq_true he
    subst this
    exact .inl hs
   ·refine .inr ⟨λhD=>?_,_,rfl,rfl,g⟩
    have:=List.all_eq_true.1 a _ hD
    simp at this
  | succ j =>
   rw [show r+(j+1)=r+1+j by omega]
   simpa using qH4 h.2 (by simpa using hj)
theorem qP4 {tv : Value} {D DX : LN} {LX L : List Blk} {m0 m : Mp} {b w w' : World} {a : Nat} (hX : X.thr none = some (tv, DX)) (n : X.fin none = mkH LX) (c : X.n0 = LX.length) (hl : (Nat.ble LX.length roots && Nat.ble L.length roots) = true) (hk : keepOk DX D 0 LX L) (g : (∀ r v p, m0 r v = some p → r < X.n0) ∧ a ≤ b.heap.size) (st : St m0 b a m w) (q : Thr D (mkH L) m w a w') :
 EndT (X.thr none) (X.enc none) (X.fin none) m0 b a (.panicked [{ v:=tv,recovered:=false }]) w':=by
 rw [hX,n]
 simp only [Bool.and_eq_true,Nat.ble_eq] at hl
 have h:=qAt (L:=LX) hl.1
 have o:=qAt (L:=L) hl.2
 refine ⟨rfl,thr_up g.2 st g.1 q (λr hr=>?_) (λr hr=>?_) hl.1⟩
 ·rw [c] at hr
  have:=qH4 (j:=r) hk hr
  rw [Nat.zero_add] at this
  rw [h,o]
  exact this
 ·have hr:LX.length≤r:=hr
  rw [h,List.getElem?_eq_none hr]
theorem qJ6 {tv:Value} {o:Oper} {D DX:LN} {LX L:List Blk} (hX:X.thr none=some (tv,DX)) (g:X.fin none=mkH LX) (b:X.n0=LX.length) (hl:(Nat.ble LX.length roots && Nat.ble L.length roots)=true) (hk:keepOk DX D 0 LX L) (ho:operAt X.fn.ntmps p env=some o) (h:ThrStp X.P env H o tv D (mkH L)):Ok X p env H (some none):=by
 obtain ⟨ops,n,K,rfl,c,x,j⟩:=qAv ho
 intro r hr m0 z E m w a u fr I hdf rw st
 cases hr
 show wpOps X.P ops _ (List.range' n (ops.size - n)) a w
 have hlt:n < ops.size:=(Array.getElem?_eq_some_iff.1 c).1
 rw [show ops.size - n=(ops.size - (n+1))+1 by omega,List.range'_succ]
 simp only [wpOps,c]
 rw [qB4 j fr]
 simp only [if_true]
 refine .inl ?_
 refine qF8 h fr rw _ _ λw' q=>qBp ?_ K
 exact qPk hdf (qP4 hX g b hl hk u st q)
theorem ok_panic {tv:Value} {DX:LN} {LX L:List Blk} (hX:X.thr none=some (tv,DX)) (b:X.fin none=mkH LX) (a:X.n0=LX.length) (hl:(Nat.ble LX.length roots && Nat.ble L.length roots)=true) (hH:H=mkH L) (hk:keepOk DX [] 0 LX L) (h:(match operAt X.fn.ntmps p env with | some o=>thrV env o | none=>none)=some tv):Ok X p env H (some none):=by
 subst hH
 cases ho:operAt X.fn.ntmps p env with
 | none=>rw [ho] at h; cases h
 | some o=>rw [ho] at h; exact qJ6 hX b a hl hk ho (.inl ⟨h,rfl,rfl⟩)
theorem qCg {n:Nat} {fi:Nat} {args:List AV} (h:callAt n p env=some (fi,args)):∃ o c g first caps,operAt n p env=some o∧o.op = .call c∧c.callee = .value g∧opnd env g = .func fi first caps∧args=first++opnds env c.args.toList++caps:=by
 unfold callAt at h
 cases ho:operAt n p env with
 | none=>rw [ho] at h; cases h
 | some o =>
  rw [ho] at h
  simp only at h
  split at h
  ·rename_i c hoc
   split at h
   ·rename_i q hq
    split at h
    ·rename_i fi' first caps hfv
     cases h
     exact ⟨o,c,q,first,caps,rfl,hoc,hq,hfv,rfl⟩
    ·cases h
   ·cases h
  ·cases h
theorem qLw {α : Type} {m : Option (Option α)} {f : α → Option (Option R)} {fi : Nat} {args : List AV} {tv : Value} {D DX : LN} {LX L : List Blk} (g : α → AV) (G : α → Hp) (p' : Pt) (E : α → Env) (hX : X.thr none = some (tv, DX)) (j : X.fin none = mkH LX) (a : X.n0 = LX.length) (hl : (Nat.ble LX.length roots && Nat.ble L.length roots) = true) (hk : keepOk DX D 0 LX L) (hc : callAt X.fn.ntmps p env = some (fi, args))
 (b:m=some none→∃ v,CallT X.P fi args H (some (tv,D)) v (mkH L)) (hf:∀ x,m=some (some x)→CallT X.P fi args H none (g x) (G x)) (ha:∀ x,advE X.fn.ntmps p env (g x)=some (p',E x)) (k:∀ x,m=some (some x)→Ok X p' (E x) (G x) (f x)):Ok X p env H (bT m f):=by
 refine qA9 λx h=>?_
 cases x with
 | none =>
  obtain ⟨o,c,q,first,caps,ho,hoc,hq,hfv,hargs⟩:=qCg hc
  obtain ⟨v,hcall⟩:=b h
  exact qJ6 hX j a hl hk ho (.inr ⟨c,q,fi,first,caps,v,hoc,hq,hfv,hargs ▸ hcall⟩)
 | some y =>
  obtain ⟨o,c,q,first,caps,ho,hoc,hq,hfv,hargs⟩:=qCg hc
  have hay:=ha y
  unfold advE at hay
  rw [ho] at hay
  simp only [Option.some.injEq,Prod.mk.injEq] at hay
  obtain ⟨u,e2⟩:=hay
  obtain ⟨ops,n,K,rfl,z,I,J⟩:=qAv ho
  have ky:=k y h
  rw [← u,← e2] at ky
  exact qJ7 z I J (.inr ⟨c,q,fi,first,caps,hoc,hq,hfv,hargs ▸ (hf y h).v⟩) ky
theorem qAo (D:DP) {hs:List Hp} {DX:LN} {LX L:List Blk} (hX:X.thr none=some (D.tv,DX)) (j:X.fin none=mkH LX) (b:X.n0=LX.length) (hl:(Nat.ble LX.length roots && Nat.ble L.length roots)=true) (hH:D.tH=mkH L) (hk:keepOk DX D.tD 0 LX L) (h:(drawAt p).isSome=true) (hti:Nat.blt D.tI (opsAt p).size=true) (hp:planOk D.S (opsAt p) D.pl=true) (hds:(opsAt p).toList.all (dstOk X.fn.ntmps)=true) (hD:OpsD X.P X.C D (opsAt p).toList (opsAt p).toList env H eE hs) (hsome:(rdL X.C D (opsAt p).toList eE (H::hs) 0 (opsAt p).toList D.pl).all (λq=>q.1.isSome)=true) (hq:(rdL X.C D (opsAt p).toList eE (H::hs) 0 (opsAt p).toList D.pl).map (·.1)=(rdL X.C D (opsAt p).toList eE (H::hs) 0 (opsAt p).toList D.pl).map (·.2)):Ok X p env H (some none):=by
 obtain ⟨id,ops,K,rfl⟩:∃ id ops K,p = .code (.region id ops true) K:=by
  unfold drawAt at h
  split at h
  ·exact ⟨_,_,_,rfl⟩
  ·cases h
 intro r hr m0 o u m w a g fr n hd rw st
 cases hr
 have hlt:D.tI < ops.size:=by simpa [opsAt] using hti
 show (Code.region id ops true).wp X.P _ a w
 refine qNk (id:=id) X.hti X.ord hds hp hD (qNy hsome hq) fr n hd rw (λa w' h=>absurd hlt h) λa' m' x w' _ hdf c q=>qBp ?_ K
 rw [hH] at q
 exact qPk hdf (qP4 hX j b hl hk g (st.trans g.2 c) q)
theorem qAn {P:Program} {C:Cx} {D:DP} {all l l':List Oper} {env eE e:Env} {H:Hp} {hs a:List Hp} {fi:Nat} {args:List AV} (hc:callD all l env=some (fi,args)) (hi:Nat.beq (all.length - l.length) D.tI=true) (hpo:∃ v,CallT P fi args H (some (D.tv,D.tD)) v D.tH) (ha:advT D all l env H=some (l',eE,hs)) (k:OpsD P C D all l' eE H e a):OpsD P C D all l env H e (hs++a):=by
 obtain ⟨v,hpo⟩:=hpo
 unfold callD at hc
 unfold advT at ha
 cases ho:headO all l env with
 | none=>rw [ho] at hc; cases hc
 | some o =>
  rw [ho] at hc ha
  simp only at hc
  cases ha
  obtain ⟨r,rfl,hw⟩:=qHa ho
  split at hc
  ·rename_i c hoc
   split at hc
   ·rename_i q hq
    split at hc
    ·rename_i fi' first caps hfv
     cases hc
     have:=OpsD.thr (C:=C) (D:=D) hi hw (.inr ⟨c,q,fi,first,caps,v,hoc,hq,hfv,hpo⟩) k
     cases hc:Nat.beq (clsS D.S o) 2 <;> rw [hc] at this <;> exact this
    ·cases hc
   ·cases hc
  ·cases hc
theorem qA1 {P:Program} {C:Cx} {D:DP} {all l l':List Oper} {env eE e:Env} {H:Hp} {hs a:List Hp} (hi:(maskAt D.pl (all.length - l.length)).testBit D.tI=true) (ha:advN D l env H=some (l',eE,hs)) (k:OpsD P C D all l' eE H e a):OpsD P C D all l env H e (hs++a):=by
 unfold advN at ha
 split at ha
 ·rename_i o r
  cases ha
  have:=OpsD.dead (o:=o) hi k
  cases hc:Nat.beq (clsS D.S o) 2 <;> rw [hc] at this <;> exact this
 ·cases ha
theorem qIa {R:Type} {X:Fx R} {p:Pt} {env:Env} {H:Hp} {α:Type} {m:Option α} {f:α→Option R} {fi:Nat} {args:List AV} (g:α→AV) (G:α→Hp) (p':Pt) (E:α→Env) (hc:callAt X.fn.ntmps p env=some (fi,args)) (hf:∀ x,m=some x→CallT X.P fi args H none (g x) (G x)) (ha:∀ x,advE X.fn.ntmps p env (g x)=some (p',E x)) (k:∀ x,m=some x→Ok X p' (E x) (G x) (f x)):Ok X p env H (m.bind f) :=
 ok_callM g G p' E hc (λx h=>(hf x h).v) ha k
end
inductive Wk:List AV→List AV→Prop where
 | refl {xs}:Wk xs xs
 | cons {x xs ys}:Wk xs ys→Wk (x::xs) (x::ys)
 | slice {r v len sz xs ys}:v=len * sz→Wk xs ys→Wk (.slice r v 0 len sz::xs) (.own r len sz::ys)
 | none {r sz xs ys}:Wk xs ys→Wk (.nils::xs) (.own r 0 sz::ys)
 | nil {sz xs ys}:Wk xs ys→Wk (.nils::xs) (.vec 0 sz []::ys)
 | agg {xs ys zs us}:Wk xs ys→Wk zs us→Wk (.agg xs::zs) (.agg ys::us)
 | func {f a b a' b' zs us}:Wk a a'→Wk b b'→Wk zs us→Wk (.func f a b::zs) (.func f a' b'::us)
theorem wk_ok {m:Mp} {xs ys:List AV} (h:Wk xs ys):∀ {cs:List Value},VRs m xs cs→VRs m ys cs:=by
 induction h with
 | refl=>exact λh=>h
 | cons _ ih =>
  intro cs h
  simp only [VRs] at h ⊢
  obtain ⟨y,ys,rfl,a,b⟩:=h
  exact ⟨y,ys,rfl,a,ih b⟩
 | slice hv _ ih =>
  intro cs h
  simp only [VRs] at h ⊢
  obtain ⟨y,ys,rfl,a,b⟩:=h
  refine ⟨y,ys,rfl,?_,ih b⟩
  simp only [VR] at a ⊢
  obtain ⟨B,N,cap,o,x,q,z,u⟩:=a
  subst hv
  exact .inr ⟨B,N,cap,o,q,by omega,u⟩
 | none _ ih =>
  intro cs h
  simp only [VRs] at h ⊢
  obtain ⟨y,ys,rfl,a,b⟩:=h
  refine ⟨y,ys,rfl,?_,ih b⟩
  simp only [VR] at a ⊢
  exact .inl ⟨trivial,a⟩
 | nil _ ih =>
  intro cs h
  simp only [VRs] at h ⊢
  obtain ⟨y,ys,rfl,a,b⟩:=h
  refine ⟨y,ys,rfl,?_,ih b⟩
  simp only [VR] at a
  subst a
  exact qEc _ _
 | agg _ _ c g =>
  intro cs h
  simp only [VRs,VR] at h ⊢
  obtain ⟨y,ys,rfl,⟨zs,rfl,a⟩,b⟩:=h
  exact ⟨_,ys,rfl,⟨zs,rfl,c a⟩,g b⟩
 | func _ _ _ c g j =>
  intro cs h
  simp only [VRs,VR] at h ⊢
  obtain ⟨y,ys,rfl,⟨zs,us,rfl,a,n⟩,b⟩:=h
  exact ⟨_,ys,rfl,⟨zs,us,rfl,c a,g n⟩,j b⟩
theorem CallT.wk {P:Program} {g:Nat} {xs ys:List AV} {H H':Hp} {tv:Option (Value×LN)} {v:AV} (h:CallT P g ys H tv v H') (k:Wk xs ys):CallT P g xs H tv v H' :=
 ⟨λm w base args ha rw=>h.1 m w base args (wk_ok k ha) rw,h.2⟩
theorem CallT.args {P:Program} {g:Nat} {xs ys:List AV} {H H':Hp} {tv:Option (Value×LN)} {v:AV} (h:CallT P g ys H tv v H') (k:xs=ys):CallT P g xs H tv v H':=k ▸ h
theorem CallT.heap {P:Program} {g:Nat} {xs:List AV} {H H' H'':Hp} {tv:Option (Value×LN)} {v v':AV} (h:CallT P g xs H tv v H') (k:H'=H'') (kv:v=v'):CallT P g xs H tv v' H'':=k ▸ kv ▸ h
theorem CallT.ghost {P:Program} {g:Nat} {xs:List AV} {L:List Blk} {H':Hp} {tv:Option (Value×LN)} {v:AV} (a:Nat.blt L.length roots=true) (h:CallT P g xs (mkH (L++[⟨[],0,false⟩])) tv v H'):CallT P g xs (mkH L) tv v H':=by
 refine ⟨λm w base args ha rw=>?_,h.2⟩
 have:=RW.ghost rw (by show L.length < roots; simpa using a)
 rw [qM2] at this
 exact h.1 m w base args ha this
section
variable {R:Type} {X:Fx R} {p p':Pt} {env eE:Env} {H H':Hp}
theorem qLn {r : R} {xs : List AV} {v : AV} {m0 m : Mp} {u w : World} {g : Nat} {a : Act} (O : (∀ r v p, m0 r v = some p → r < X.n0) ∧ g ≤ u.heap.size) (L o : List Blk) (ht : X.thr r = none) (hr : resV X.C env (mkH (L ++ o)) X.fn.results.toList = some xs) (J : Nat.ble (L.length + o.length) roots = true) (E : Nat.ble X.n0 L.length = true)
 (hz:FzG L.length (mkH (L++o)) [oneRes xs] [v]) (Q:BB L.length L) (hv:X.enc r=v) (hf:X.fin r=mkH L) (fr:FR m env a.tmps) (rw:RW m (mkH (L++o)) w g) (st:St m0 u g m w) :
 ∃ c,(results X.fn a.tmps).run X.P w = .ok c w∧EndT (X.thr r) (X.enc r) (X.fin r) m0 u g (.returned c) w:=by
 obtain ⟨c,K,z⟩:=qD9 (P:=X.P) X.hti fr rw hr
 have S:FOk L.length m m.froz w g:=⟨λi B cells hi=>rw.frz i B cells hi,rw.ffin,λi B cells h => .inl h,λ_ _ h=>h⟩
 obtain ⟨F',x,T,D⟩:=fz_ok rw hz S (cs:=[c]) (by simp only [VRs]; exact ⟨c,[],rfl,z,rfl⟩)
 simp only [VRs] at D
 obtain ⟨c',cs',e,D,_⟩:=D
 cases e
 have J:L.length+o.length≤roots:=Nat.le_of_ble_eq_true J
 have hget:∀ i,i < L.length→(mkH (L++o)).t.get i=(mkH L).t.get i:=by
  intro i hi
  rw [qAt (by simp; omega),qAt (by omega)]
  simp [List.getElem?_append_left hi]
 let j:Mp:=⟨λr v=>if r < L.length then m r v else none,F'⟩
 have hcut:∀ {r v q},j r v=some q→r < L.length∧m r v=some q:=by
  intro r v q h
  have h:(if r < L.length then m r v else none)=some q:=h
  by_cases e:r < L.length
  ·rw [if_pos e] at h; exact ⟨e,h⟩
  ·rw [if_neg e] at h; cases h
 have hmono:Sub (m.cut L.length) j:=⟨λr v p h=>h,x.sub⟩
 have hrw:RW j (mkH L) w g:=by
  refine ⟨?_,?_,?_,?_,?_,x.ok,?_,x.fin,rw.base_le,by show L.length≤roots; omega⟩
  ·intro r b v B N hb' hm U Y
   obtain ⟨hlt,hm⟩:=hcut hm
   obtain ⟨cs,ty,fr',Z,p2,p3,p4,p5⟩:=rw.blk r b v B N (by rw [hget r hlt]; exact hb') hm U Y
   have hbl:L[r]? = some b:=by
    rw [qAt (by omega)] at hb'
    exact hb'
   exact ⟨cs,ty,fr',Z,p2,p3,p4,VRs.mono hmono _ _ (qBf _ _ (qB2 v (qO0 Q hbl)) p5)⟩
  ·intro r v B N hm
   obtain ⟨hlt,hm⟩:=hcut hm
   rw [← hget r hlt]
   exact rw.dom r v B N hm
  ·intro r v B N r' v' N' hm hm' hB
   exact rw.sep _ _ _ _ _ _ _ (hcut hm).2 (hcut hm').2 hB
  ·intro r hr
   have hr:L.length≤r:=hr
   rw [qAt (by omega),List.getElem?_eq_none hr]
  ·intro r v B N hm
   exact rw.vle _ _ _ _ (hcut hm).2
  ·intro i B cells r v N b hi hm hb'
   obtain ⟨hlt,hm⟩:=hcut hm
   rw [← hget r hlt] at hb'
   rcases x.new i B cells hi with h | ⟨hB,I,v2,M,a0,n⟩
   ·exact rw.fsep i B cells r v N b h hm hb'
   ·have:=rw.sep _ _ _ _ _ _ _ hm n hB
    omega
 have hst:St m0 u g j w:=by
  refine ⟨⟨λr v q hq=>?_,λi q hq=>T i q (st.sub.2 i q hq)⟩,?_,?_,st.size,st.os,st.tape,st.output,st.same⟩
  ·have K:=O.1 r v q hq
   have z:=Nat.le_of_ble_eq_true E
   show (if r < L.length then m r v else none)=some q
   rw [if_pos (by omega)]
   exact st.sub.1 r v q hq
  ·intro r v B N hm
   exact st.ext r v B N (hcut hm).2
  ·intro i B cells hi
   rcases x.new i B cells hi with h | ⟨hB,I,v2,M,_,n⟩
   ·exact st.fext i B cells h
   ·rcases st.ext I v2 B M n with ⟨v0,N0,e0⟩ | z
    ·exact .inr ⟨hB,.inl ⟨I,v0,N0,e0⟩⟩
    ·exact .inr ⟨hB,.inr z⟩
 have hvc:VR j v c:=VR.mono (m:=⟨λ_ _=>none,F'⟩) (m':=j) ⟨λ_ _ _ h=>(by cases h),λ_ _ h=>h⟩ _ _ D
 have e:EndT (X.thr r) (X.enc r) (X.fin r) m0 u g (.returned c) w:=by rw [ht]; exact ⟨j,c,rfl,by rw [hf]; exact hrw,hst,by rw [hv]; exact hvc⟩
 exact ⟨c,K,e⟩
theorem ok_retF {r : R} {xs : List AV} {v : AV} (L b : List Blk) (ht : X.thr r = none) (hr : resV X.C env (mkH (L ++ b)) X.fn.results.toList = some xs) (h : Nat.ble (L.length + b.length) roots = true) (g : Nat.ble X.n0 L.length = true)
 (hz:FzG L.length (mkH (L++b)) [oneRes xs] [v]) (j:BB L.length L) (hv:X.enc r=v) (hf:X.fin r=mkH L):Ok X .fin env (mkH (L++b)) (some r):=by
 intro r' e m0 q u m w a n fr hnt hd rw st
 cases e
 obtain ⟨c,o,e⟩:=qLn n L b ht hr h g hz j hv hf fr rw st
 exact qHz hd o e
end
def MinvLe : List Blk → List Blk → Prop
 | [],[]=>True
 | b::M,c::M'=>(c.cells=b.cells∧c.ro=b.ro∧b.minv≤c.minv)∧MinvLe M M'
 | _,_=>False
theorem MinvLe.get : ∀ {M M' : List Blk}, MinvLe M M' → M'.length = M.length ∧ ∀ (i : Nat) (c : Blk), M'[i]? = some c → ∃ b, M[i]? = some b ∧ c.cells = b.cells ∧ c.ro = b.ro ∧ b.minv ≤ c.minv
 | [],[],_=>⟨rfl,λi c h=>by simp at h⟩
 | [],_::_,h=>h.elim
 | _::_,[],h=>h.elim
 | b::M,c::M',h=>by
  obtain ⟨a,g⟩:=MinvLe.get h.2
  refine ⟨by simp [a],λi d hd=>?_⟩
  cases i with
  | zero=>simp at hd; subst hd; exact ⟨b,rfl,h.1⟩
  | succ i=>simpa using g i d (by simpa using hd)
theorem rw_minv {m:Mp} {w:World} {base:Nat} {M M':List Blk} (h:MinvLe M M') (hr:M.length≤roots) (rw:RW m (mkH M) w base):RW m (mkH M') w base:=by
 obtain ⟨hl,hg⟩:=h.get
 have q:=qAt (L:=M) hr
 have n:=qAt (L:=M') (by omega)
 refine ⟨?_,?_,rw.sep,?_,rw.vle,rw.frz,?_,rw.ffin,rw.base_le,by show M'.length≤roots; omega⟩
 ·intro r c v B N g hm D x
  rw [n] at g
  obtain ⟨b,a,o,j,u⟩:=hg r c g
  rw [o] at x ⊢
  rw [j]
  exact rw.blk r b v B N (by rw [q]; exact a) hm (by omega) x
 ·intro r v B N hm
  obtain ⟨b,a,o,j,u⟩:=rw.dom r v B N hm
  rw [q] at a
  have hlt:r < M'.length:=by rw [hl]; exact (List.getElem?_eq_some_iff.1 a).1
  obtain ⟨b',z,e2,e3,e4⟩:=hg r _ (List.getElem?_eq_getElem hlt)
  rw [a] at z
  cases z
  exact ⟨_,by rw [n]; exact List.getElem?_eq_getElem hlt,by rw [e2]; exact o,j,by rw [e3]; exact u⟩
 ·intro r hr'
  have hr':M'.length≤r:=hr'
  rw [n,List.getElem?_eq_none hr']
 ·intro i B cells r v N c hi hm g
  rw [n] at g
  obtain ⟨b,a,o,j,u⟩:=hg r c g
  rw [j]
  exact rw.fsep i B cells r v N b hi hm (by rw [q]; exact a)
theorem CallT.minv {P:Program} {g:Nat} {xs:List AV} {M M':List Blk} {H':Hp} {tv:Option (Value×LN)} {v:AV} (hr:M.length≤roots) (hm:MinvLe M M') (h:CallT P g xs (mkH M') tv v H'):CallT P g xs (mkH M) tv v H' :=
 ⟨λm w base args ha rw=>h.1 m w base args ha (rw_minv hm hr rw),h.2⟩
theorem CallT.ghosts {P : Program} {g : Nat} {xs : List AV} {H' : Hp} {tv : Option (Value × LN)} {v : AV} : ∀ (gh : Nat) (a M : List Blk), a ++ List.replicate gh ⟨[], 0, false⟩ = M → M.length ≤ roots → CallT P g xs (mkH M) tv v H' → CallT P g xs (mkH a) tv v H'
 | 0,a,M,hg,hr,h=>by
  have e:a=M:=by simpa using hg
  rw [e]; exact h
 | n+1,a,M,hg,hr,h=>by
  have hl:a.length < M.length:=by rw [← hg]; simp
  refine CallT.ghost (by simpa using (by omega:a.length < roots)) (CallT.ghosts n (a++[⟨[],0,false⟩]) M ?_ hr h)
  rw [← hg,List.replicate_succ,List.append_assoc]; rfl
theorem frameC {P : Program} {g : Nat} {ys : List AV} {L L' : List Blk} {v : AV} (h : CallT P g ys (mkH L) none v (mkH L')) (rs : LN) (gh : Nat) (a b M M' : List Blk) (xs xs' : List AV) {v' : AV} {H H' : Hp} (hH : mkH a = H) (hg : a ++ List.replicate gh ⟨[], 0, false⟩ = b) (hm : MinvLe b M) (hw : Wk xs xs') (c : renVs (at0 rs) ys = xs') (hv' : renV (at0 rs) v = v') (hH' : mkH M' = H')
 (hc:frOk L.length L'.length M.length M'.length rs=true) (hys:belows L.length ys=true) (hL:RBs rs L.length M 0 L) (hL':RBs rs L'.length M' 0 L') (hv:below L'.length v=true) (hS:SameB rs 0 M M'):CallT P g xs H none v' H':=by
 subst hH; subst c; subst hv'; subst hH'
 have j:=(frame h rs M M' hc hys hL hL' hv hS).wk hw
 simp only [frOk,Bool.and_eq_true,Nat.ble_eq] at hc
 have hr:M.length≤roots:=by omega
 have hl:=hm.get.1
 exact CallT.ghosts gh a b hg (by omega) (CallT.minv (by omega) hm j)
theorem frameT {P : Program} {g : Nat} {ys : List AV} {L : List Blk} {t : Value} {c : LN} (h : ∃ v, CallT P g ys (mkH L) (some (t, c)) v (mkH L)) (rs : LN) (D : LN) (gh : Nat) (a b M : List Blk) (xs xs' : List AV) {H : Hp} (hH : mkH a = H) (hg : a ++ List.replicate gh ⟨[], 0, false⟩ = b) (hm : MinvLe b M) (hw : Wk xs xs') (j : renVs (at0 rs) ys = xs')
 (hc:frOk L.length L.length M.length M.length rs=true) (hys:belows L.length ys=true) (hL:RBs rs L.length M 0 L) (hD:dOk rs c D 0 M):∃ v,CallT P g xs H (some (t,D)) v (mkH M):=by
 obtain ⟨v,h⟩:=h
 subst hH; subst j
 have n:=(frameTh h rs M D hc hys hL hD .top).wk hw
 simp only [frOk,Bool.and_eq_true,Nat.ble_eq] at hc
 have hr:M.length≤roots:=by omega
 have hl:=hm.get.1
 exact ⟨_,CallT.ghosts gh a b hg (by omega) (CallT.minv (by omega) hm n)⟩
theorem qCp {R:Type} {X:Fx (Option R)} {p:Pt} {env:Env} {H:Hp} {α:Type} {m:Option (Option α)} {f:α→Option (Option R)} (b:m=some none→Ok X p env H (some none)) (c:∀ y,m=some (some y)→Ok X p env H (f y)):Ok X p env H (bT m f):=by
 refine qA9 λx a=>?_
 cases x with
 | none=>exact b a
 | some y=>exact c y a
section
variable {R:Type} {X:Fx R} {p p':Pt} {env eE:Env} {H H':Hp}
theorem qI9 {t:Option R} (L:List Blk) (b:Nat.blt L.length roots=true) (k:Ok X p env (mkH (L++[⟨[],0,false⟩])) t):Ok X p env (mkH L) t:=by
 intro r hr m0 c g m w a h fr hnt hd rw st
 have:=RW.ghost rw (by show L.length < roots; simpa using b)
 rw [qM2] at this
 exact k r hr m0 c g m w a h fr hnt hd this st
theorem Wk.length {xs ys:List AV} (h:Wk xs ys):ys.length=xs.length:=by
 induction h <;> simp_all
theorem wk_take {m:Mp} {xs ys:List AV} (h:Wk xs ys):∀ (v:Nat) {cs:List Value},VRs m (xs.take v) cs→VRs m (ys.take v) cs:=by
 have one:∀ {x y:AV} {xs ys:List AV} (v:Nat) {cs:List Value},Wk [x] [y]→(∀ (v:Nat) {cs:List Value},VRs m (xs.take v) cs→VRs m (ys.take v) cs)→VRs m ((x::xs).take v) cs→VRs m ((y::ys).take v) cs:=by
  intro x y xs ys v cs a ih h
  cases v with
  | zero=>simpa using h
  | succ v =>
   simp only [List.take_succ_cons,VRs] at h ⊢
   obtain ⟨c,cs',rfl,b,g⟩:=h
   have:=wk_ok a (cs:=[c]) (by simp only [VRs]; exact ⟨c,[],rfl,b,rfl⟩)
   simp only [VRs] at this
   obtain ⟨c',cs'',j,n,_⟩:=this
   cases j
   exact ⟨c,cs',rfl,n,ih v g⟩
 induction h with
 | refl=>exact λv cs h=>h
 | cons _ ih=>exact λv cs h=>one v .refl (λv cs=>ih v) h
 | slice hv _ ih=>exact λv cs h=>one v (.slice hv .refl) (λv cs=>ih v) h
 | none _ ih=>exact λv cs h=>one v (.none .refl) (λv cs=>ih v) h
 | nil _ ih=>exact λv cs h=>one v (.nil .refl) (λv cs=>ih v) h
 | agg a _ _ ih=>exact λv cs h=>one v (.agg a .refl) (λv cs=>ih v) h
 | func a o _ _ _ ih=>exact λv cs h=>one v (.func a o .refl) (λv cs=>ih v) h
theorem qDv {t:Option R} (L:List Blk) (c minv:Nat) (cells cells':List AV) (hl:Nat.ble L.length roots=true) (hr:L[c]? = some ⟨cells,minv,false⟩) (hw:Wk cells cells') (k:Ok X p env (mkH (L.set c ⟨cells',minv,false⟩)) t):Ok X p env (mkH L) t:=by
 intro r hr' m0 E I m w a J fr hnt hd rw st
 have hl:L.length≤roots:=Nat.le_of_ble_eq_true hl
 have hlt:c < L.length:=(List.getElem?_eq_some_iff.1 hr).1
 have x:=qAt (L:=L) hl
 have z:=qAt (L:=L.set c ⟨cells',minv,false⟩) (by simpa using hl)
 have gne:∀ j,j ≠ c→(mkH (L.set c ⟨cells',minv,false⟩)).t.get j=(mkH L).t.get j:=by
  intro j hj
  rw [x,z,List.getElem?_set,if_neg (λe=>hj e.symm)]
 have geq:(mkH (L.set c ⟨cells',minv,false⟩)).t.get c=some ⟨cells',minv,false⟩:=by
  rw [z,List.getElem?_set,if_pos rfl,if_pos hlt]
 have hroot:(mkH L).t.get c=some ⟨cells,minv,false⟩:=by rw [x]; exact hr
 have hlen:=hw.length
 have hnext:(mkH (L.set c ⟨cells',minv,false⟩)).next=L.length:=by simp [mkH]
 refine k r hr' m0 E I m w a J fr hnt hd ⟨?_,?_,rw.sep,?_,rw.vle,rw.frz,?_,rw.ffin,rw.base_le,by rw [hnext]; exact hl⟩ st
 ·intro r b v B N g hm u D
  by_cases e:r=c
  ·subst e
   rw [geq] at g
   cases g
   simp only at u D
   obtain ⟨cs,ty,fr',h,n,o,q,K⟩:=rw.blk r ⟨cells,minv,false⟩ v B N hroot hm u (by show v≤cells.length; omega)
   exact ⟨cs,ty,fr',h,n,o,q,wk_take hw v K⟩
  ·rw [gne r e] at g
   exact rw.blk r b v B N g hm u D
 ·intro r v B N hm
  obtain ⟨b,h,n,o,q⟩:=rw.dom r v B N hm
  by_cases e:r=c
  ·subst e
   rw [hroot] at h
   cases h
   exact ⟨_,geq,by show v≤cells'.length; rw [hlen]; exact n,o,q⟩
  ·exact ⟨b,by rw [gne r e]; exact h,n,o,q⟩
 ·intro r hr
  rw [hnext] at hr
  rw [gne r (by omega)]
  exact rw.fresh r hr
 ·intro i B cs r v N b hi hm g
  by_cases e:r=c
  ·subst e
   rw [geq] at g
   cases g
   have:=rw.fsep i B cs r v N ⟨cells,minv,false⟩ hi hm hroot
   exact this
  ·rw [gne r e] at g
   exact rw.fsep i B cs r v N b hi hm g
theorem qC3 {r : R} {xs : List AV} (L g : List Blk) (ht : X.thr r = none) (hr : resV X.C env (mkH (L ++ g)) X.fn.results.toList = some xs) (o : Nat.ble (L.length + g.length) roots = true) (j : Nat.ble X.n0 L.length = true)
 (hbe:below L.length (oneRes xs)=true) (D:BB L.length L) (hv:X.enc r=oneRes xs) (hf:X.fin r=mkH L):Ok X .fin env (mkH (L++g)) (some r):=by
 intro r' e m0 u n m w a E fr hnt hd rw st
 cases e
 obtain ⟨c,x,z⟩:=qD9 (P:=X.P) X.hti fr rw hr
 have o:L.length+g.length≤roots:=Nat.le_of_ble_eq_true o
 have hget:∀ i,i < L.length→(mkH (L++g)).t.get i=(mkH L).t.get i:=by
  intro i hi
  rw [qAt (by simp; omega),qAt (by omega)]
  simp [List.getElem?_append_left hi]
 have hcut:∀ {r v q},(m.cut L.length) r v=some q→r < L.length∧m r v=some q:=by
  intro r v q h
  have h:(if r < L.length then m r v else none)=some q:=h
  by_cases e:r < L.length
  ·rw [if_pos e] at h; exact ⟨e,h⟩
  ·rw [if_neg e] at h; cases h
 have hrw:RW (m.cut L.length) (mkH L) w n:=by
  refine ⟨?_,?_,?_,?_,?_,rw.frz,?_,rw.ffin,rw.base_le,by show L.length≤roots; omega⟩
  ·intro r b v B N hb' hm I J
   obtain ⟨hlt,hm⟩:=hcut hm
   obtain ⟨cs,ty,fr',K,p2,p3,p4,p5⟩:=rw.blk r b v B N (by rw [hget r hlt]; exact hb') hm I J
   have hbl:L[r]? = some b:=by
    rw [qAt (by omega)] at hb'
    exact hb'
   exact ⟨cs,ty,fr',K,p2,p3,p4,qBf _ _ (qB2 v (qO0 D hbl)) p5⟩
  ·intro r v B N hm
   obtain ⟨hlt,hm⟩:=hcut hm
   rw [← hget r hlt]
   exact rw.dom r v B N hm
  ·intro r v B N r' v' N' hm hm' hB
   exact rw.sep _ _ _ _ _ _ _ (hcut hm).2 (hcut hm').2 hB
  ·intro r hr
   have hr:L.length≤r:=hr
   rw [qAt (by omega),List.getElem?_eq_none hr]
  ·intro r v B N hm
   exact rw.vle _ _ _ _ (hcut hm).2
  ·intro i B cells r v N b hi hm hb'
   obtain ⟨hlt,hm⟩:=hcut hm
   rw [← hget r hlt] at hb'
   exact rw.fsep i B cells r v N b hi hm hb'
 have hst:St m0 u n (m.cut L.length) w:=by
  refine ⟨⟨λr v q hq=>?_,st.sub.2⟩,?_,st.fext,st.size,st.os,st.tape,st.output,st.same⟩
  ·have x:=E.1 r v q hq
   have z:=Nat.le_of_ble_eq_true j
   show (if r < L.length then m r v else none)=some q
   rw [if_pos (by omega)]
   exact st.sub.1 r v q hq
  ·intro r v B N hm
   exact st.ext r v B N (hcut hm).2
 have e:EndT (X.thr r) (X.enc r) (X.fin r) m0 u n (.returned c) w:=by rw [ht]; exact ⟨m.cut L.length,c,rfl,by rw [hf]; exact hrw,hst,by rw [hv]; exact qF7 _ _ hbe z⟩
 exact qHz hd x e
theorem qI8 {r:R} {xs:List AV} (ht:X.thr r=none) (hr:resV X.C env H X.fn.results.toList=some xs) (hv:X.enc r=oneRes xs) (hf:X.fin r=H):Ok X .fin env H (some r):=by
 intro r' e m0 b g m w a n fr hnt hd rw st
 cases e
 obtain ⟨c,h,j⟩:=qD9 (P:=X.P) X.hti fr rw hr
 have e:EndT (X.thr r) (X.enc r) (X.fin r) m0 b g (.returned c) w:=by rw [ht]; exact ⟨m,c,rfl,by rw [hf]; exact rw,st,by rw [hv]; exact j⟩
 exact qHz hd h e
end
structure Raw where
 n:Nat
 cells:List AV
def nthR {α:Type} (d:List AV→Option α) (sz:Nat) (n:Nat) (cells:List AV) (k:Int):Option α:=if 0≤k∧k < (n:Int) then d ((cells.drop (k.toNat * sz)).take sz) else none
theorem vidxR {α:Type} {enc:α→List AV} {d:List AV→Option α} {sz:Nat} (hd:∀ cs x,d cs=some x→cs=enc x) {e:Option (AV×Hp)} {n:Nat} {cells:List AV} {k:Int} {H:Hp} {x:α} (a:nthR d sz n cells k=some x) (h:e=(if sz=sz∧0≤k∧k < ((n:Nat):Int) then some (AV.vptr ((cells.drop (k.toNat * sz)).take sz),H) else none)):e=some (AV.vptr (enc x),H):=by
 unfold nthR at a
 by_cases b:0≤k∧k < (n:Int)
 ·rw [if_pos b] at a
  rw [h,if_pos ⟨rfl,b.1,b.2⟩,hd _ _ a]
 ·rw [if_neg b] at a; cases a
def pI (k : IntKind) : List AV → Option (Int × List AV)
 | .int k' n::r=>if k'=k then some (n,r) else none
 | _=>none
def pB : List AV → Option (Bool × List AV)
 | .bool b::r=>some (b,r)
 | _=>none
def pS : List AV → Option (LN × List AV)
 | .str s::r=>some (s,r)
 | _=>none
def pN {α:Type} (p:List AV→Option (α×List AV)) (n:Nat) (cs:List AV):Option (List α×List AV) :=
 Nat.rec (motive:=λ_=>List AV→Option (List α×List AV)) (λcs=>some ([],cs)) (λ_ ih cs=>match p cs with | some (x,r)=>(match ih r with | some (l,r')=>some (x::l,r') | none=>none) | none=>none) n cs
def pV {α : Type} (p : List AV → Option (α × List AV)) (sz : Nat) : List AV → Option (List α × List AV)
 | .vec n s c::r=>if s=sz then (match pN p n c with | some (l,[])=>some (l,r) | _=>none) else none
 | _=>none
theorem pI_ok {k:IntKind} {cs r:List AV} {x:Int} (h:pI k cs=some (x,r)):cs=[AV.int k x]++r:=by
 unfold pI at h
 split at h
 ·split at h
  ·rename_i e; cases h; subst e; rfl
  ·cases h
 ·cases h
theorem pB_ok {cs r:List AV} {x:Bool} (h:pB cs=some (x,r)):cs=[AV.bool x]++r:=by
 unfold pB at h
 split at h
 ·cases h; rfl
 ·cases h
theorem pS_ok {cs r:List AV} {x:LN} (h:pS cs=some (x,r)):cs=[AV.str x]++r:=by
 unfold pS at h
 split at h
 ·cases h; rfl
 ·cases h
theorem pN_ok {α : Type} {p : List AV → Option (α × List AV)} {enc : α → List AV} (hp : ∀ cs x r, p cs = some (x, r) → cs = enc x ++ r) : ∀ (n : Nat) (cs : List AV) (l : List α) (r : List AV), pN p n cs = some (l, r) → cs = l.flatMap enc ++ r ∧ l.length = n
 | 0,cs,l,r,h=>by
  have h:some (([]:List α),cs)=some (l,r):=h
  cases h
  exact ⟨rfl,rfl⟩
 | n+1,cs,l,r,h=>by
  have h:(match p cs with | some (x,r)=>(match pN p n r with | some (l,r')=>some (x::l,r') | none=>none) | none=>none)=some (l,r):=h
  cases a:p cs with
  | none=>rw [a] at h; cases h
  | some xr =>
   obtain ⟨x,c⟩:=xr
   rw [a] at h
   simp only at h
   cases b:pN p n c with
   | none=>rw [b] at h; cases h
   | some lr =>
    obtain ⟨g,q⟩:=lr
    rw [b] at h
    cases h
    obtain ⟨j,o⟩:=pN_ok hp n c g r b
    rw [hp _ _ _ a,j,List.flatMap_cons,List.append_assoc]
    exact ⟨rfl,by simp [o]⟩
theorem pV_ok {α:Type} {p:List AV→Option (α×List AV)} {enc:α→List AV} {sz:Nat} (hp:∀ cs x r,p cs=some (x,r)→cs=enc x++r) {cs:List AV} {l:List α} {r:List AV} (h:pV p sz cs=some (l,r)):cs=[AV.vec l.length sz (l.flatMap enc)]++r:=by
 unfold pV at h
 split at h
 ·split at h
  ·rename_i e
   subst e
   split at h
   ·rename_i g b
    cases h
    obtain ⟨a,c⟩:=pN_ok hp _ _ _ _ b
    rw [List.append_nil] at a
    rw [a,c]; rfl
   ·cases h
  ·cases h
 ·cases h
def pall {α:Type} (p:List AV→Option (α×List AV)) (cs:List AV):Option α:=match p cs with | some (x,[])=>some x | _=>none
theorem pall_ok {α:Type} {p:List AV→Option (α×List AV)} {enc:α→List AV} (hp:∀ cs x r,p cs=some (x,r)→cs=enc x++r) (cs:List AV) (x:α) (h:pall p cs=some x):cs=enc x:=by
 unfold pall at h
 split at h
 ·rename_i y hy
  cases h
  have:=hp _ _ _ hy
  simpa using this
 ·cases h
inductive Fr1 (r0 n sz:Nat) (cells:List AV):List AV→List AV→Prop where
 | refl {xs}:nrefs r0 xs=true→Fr1 r0 n sz cells xs xs
 | cons {x xs ys}:nref r0 x=true→Fr1 r0 n sz cells xs ys→Fr1 r0 n sz cells (x::xs) (x::ys)
 | own {xs ys}:Fr1 r0 n sz cells xs ys→Fr1 r0 n sz cells (.own r0 n sz::xs) (.vec n sz cells::ys)
 | agg {xs ys zs us}:Fr1 r0 n sz cells xs ys→Fr1 r0 n sz cells zs us→Fr1 r0 n sz cells (.agg xs::zs) (.agg ys::us)
theorem fr1_ok {g n sz:Nat} {cells:List AV} {m:Mp} {F:Nat→Option (Nat×List AV)} (q:∀ i p,m.froz i=some p→F i=some p) (hvec:∀ c,VR m (.own g n sz) c→VR ⟨λ_ _=>none,F⟩ (.vec n sz cells) c) {xs ys:List AV} (h:Fr1 g n sz cells xs ys):∀ {cs:List Value},VRs m xs cs→VRs (m.out g F) ys cs:=by
 induction h with
 | refl h=>exact λhv=>qCf q _ _ h hv
 | cons h _ ih =>
  intro cs hv
  simp only [VRs] at hv ⊢
  obtain ⟨y,ys,rfl,a,b⟩:=hv
  exact ⟨y,ys,rfl,qIc q _ _ h a,ih b⟩
 | own _ ih =>
  intro cs hv
  rw [VRs] at hv
  obtain ⟨y,ys,rfl,a,b⟩:=hv
  rw [VRs]
  exact ⟨y,ys,rfl,VR.mono (m:=⟨λ_ _=>none,F⟩) (m':=m.out g F) ⟨λ_ _ _ h=>(by cases h),λ_ _ h=>h⟩ _ _ (hvec y a),ih b⟩
 | agg _ _ j o =>
  intro cs hv
  simp only [VRs,VR] at hv ⊢
  obtain ⟨y,ys,rfl,⟨zs,rfl,a⟩,b⟩:=hv
  exact ⟨_,ys,rfl,⟨zs,rfl,j a⟩,o b⟩
theorem Fr1.length {a n sz:Nat} {cells xs ys:List AV} (h:Fr1 a n sz cells xs ys):ys.length=xs.length:=by
 induction h <;> simp_all
theorem fr1_take {a n sz:Nat} {cells xs ys:List AV} (h:Fr1 a n sz cells xs ys):∀ v,Fr1 a n sz cells (xs.take v) (ys.take v):=by
 induction h with
 | refl h=>exact λv => .refl (qEi v h)
 | cons h _ ih=>intro v; cases v with
  | zero=>exact .refl rfl
  | succ v=>exact .cons h (ih v)
 | own _ ih=>intro v; cases v with
  | zero=>exact .refl rfl
  | succ v=>exact .own (ih v)
 | agg b _ _ ih=>intro v; cases v with
  | zero=>exact .refl rfl
  | succ v=>exact .agg b (ih v)
def FrE (a n sz : Nat) (cells : List AV) : Env → Env → Prop
 | [],[]=>True
 | p::e,q::e'=>(p.1=q.1∧Fr1 a n sz cells [p.2] [q.2])∧FrE a n sz cells e e'
 | _,_=>False
theorem qO {b n sz : Nat} {cells : List AV} : ∀ {e e' : Env}, FrE b n sz cells e e' → ∀ t, look e' t ≠ .top → look e t ≠ .top ∧ Fr1 b n sz cells [look e t] [look e' t]
 | [],[],_,t,h=>absurd rfl h
 | [],_::_,h,_,_=>h.elim
 | _::_,[],h,_,_=>h.elim
 | (g,o)::e,(q,v2)::e',h,t,hne=>by
  obtain ⟨⟨c,a⟩,j⟩:=h
  simp only at c a
  subst c
  rw [qAq] at hne ⊢
  rw [qAq]
  by_cases et:g=t
  ·rw [if_pos et] at hne ⊢
   rw [if_pos et]
   refine ⟨?_,a⟩
   rintro rfl
   cases a with
   | refl _=>exact hne rfl
   | cons _ _=>exact hne rfl
  ·rw [if_neg et] at hne ⊢
   rw [if_neg et]
   exact qO j t hne
def FrH (a n sz : Nat) (cells : List AV) : Nat → List Blk → List Blk → Prop
 | _,[],[]=>True
 | i,b::L,c::L'=>((i=a∧c=⟨[],0,false⟩)∨(Nat.beq i a=false∧c.minv=b.minv∧c.ro=b.ro∧Fr1 a n sz cells b.cells c.cells))∧FrH a n sz cells (i+1) L L'
 | _,_,_=>False
theorem qSu {a n sz : Nat} {cells : List AV} : ∀ {L L' : List Blk} {i : Nat}, FrH a n sz cells i L L' → L'.length = L.length ∧ ∀ j c, L'[j]? = some c → ∃ b, L[j]? = some b ∧ ((i + j = a ∧ c = ⟨[], 0, false⟩) ∨ (i + j ≠ a ∧ c.minv = b.minv ∧ c.ro = b.ro ∧ Fr1 a n sz cells b.cells c.cells))
 | [],[],i,_=>⟨rfl,λj c h=>by simp at h⟩
 | [],_::_,_,h=>h.elim
 | _::_,[],_,h=>h.elim
 | b::L,c::L',i,h=>by
  obtain ⟨o,q⟩:=qSu h.2
  refine ⟨by simp [o],λj d hd=>?_⟩
  cases j with
  | zero =>
   simp at hd; subst hd
   refine ⟨b,rfl,?_⟩
   rcases h.1 with ⟨g,e2⟩ | ⟨g,e2⟩
   ·exact .inl ⟨by omega,e2⟩
   ·refine .inr ⟨λe=>?_,e2⟩
    have:i=a:=by omega
    rw [this] at g; simp at g
  | succ j =>
   obtain ⟨b',u,x⟩:=q j d (by simpa using hd)
   refine ⟨b',by simpa using u,?_⟩
   rw [show i+(j+1)=i+1+j by omega]; exact x
theorem qQ3 {R:Type} {X:Fx R} {p:Pt} {env env0 eE:Env} {t:Option R} (L L':List Blk) (g n sz minv:Nat) (cells:List AV) (ks:LN) (Y:Nat.ble X.n0 g=true) (hl:Nat.ble L.length roots=true) (hr:L[g]? = some ⟨cells,minv,false⟩) (hc:cells.length=n * sz) (hmin:minv≤n * sz) (hp:purs cells=true) (hk:keepOnly env ks=env0) (hE:FrE g n sz cells env0 eE) (hH:FrH g n sz cells 0 L L') (k:Ok X p eE (mkH L') t):Ok X p env (mkH L) t:=by
 intro r hr' m0 w0 S m w a h0 Z hnt hd rw st
 have fr:FR m env0 a.tmps:=Z.less (hk ▸ qBi ks env)
 have hl:L.length≤roots:=Nat.le_of_ble_eq_true hl
 have gL:=qAt (L:=L) hl
 obtain ⟨hlen,hget⟩:=qSu hH
 have gL':=qAt (L:=L') (by omega)
 have hroot:(mkH L).t.get g=some ⟨cells,minv,false⟩:=by rw [gL]; exact hr
 have M:FOk 0 m m.froz w S:=⟨λi B cells hi=>rw.frz i B cells hi,rw.ffin,λi B cells h => .inl h,λ_ _ h=>h⟩
 have key:∃ F,FOk 0 m F w S∧(∀ i B cs,F i=some (B,cs)→m.froz i=some (B,cs)∨∃ v N,m g v=some (B,N))∧(∀ c,VR m (.own g n sz) c→VR ⟨λ_ _=>none,F⟩ (.vec n sz cells) c):=by
  cases hm:m g (n * sz) with
  | none =>
   refine ⟨m.froz,M,λi B cs h => .inl h,?_⟩
   intro c hv
   simp only [VR] at hv
   rcases hv with ⟨o,x⟩ | ⟨B,N,cap,o,_⟩
   ·subst o; subst x
    have:cells=[]:=List.length_eq_zero_iff.1 (by omega)
    subst this
    exact qEc _ _
   ·rw [hm] at o; cases o
  | some BN =>
   obtain ⟨B,N⟩:=BN
   obtain ⟨cs,ty,fr',D,E,J,T,O⟩:=rw.blk _ _ _ _ _ hroot hm hmin (by show n * sz≤cells.length; omega)
   obtain ⟨b2,z,_,_,hbase⟩:=rw.dom _ _ _ _ hm
   rw [hroot] at z
   cases z
   simp only at O
   rw [List.take_of_length_le (by omega)] at O
   have q6:=qBa _ _ hp O
   obtain ⟨F,i,I,g2,K⟩:=qL3 M (hbase rfl) ⟨_,_,_,Nat.zero_le _,hm⟩ D (cells:=cells) (by omega) (by rw [hc]; exact q6)
   obtain ⟨nf,hnf⟩:=rw.ffin
   have hmono:∀ j q,m.froz j=some q→(λj=>if j=nf then some (B,cells) else m.froz j) j=some q:=by
    intro j q hq
    simp only
    rw [if_neg]
    ·exact hq
    ·rintro rfl; rw [hnf _ (Nat.le_refl _)] at hq; cases hq
   refine ⟨λj=>if j=nf then some (B,cells) else m.froz j,?_,?_,?_⟩
   ·refine ⟨?_,⟨nf+1,λj hj=>by show (if j=nf then some (B,cells) else m.froz j)=none; rw [if_neg (by omega)]; exact hnf j (by omega)⟩,?_,hmono⟩
    ·intro j B' cells' hj
     have hS:Sub m.still ⟨λ_ _=>none,λj=>if j=nf then some (B,cells) else m.froz j⟩:=⟨λ_ _ _ e=>(by cases e),hmono⟩
     by_cases e:j=nf
     ·simp only [e,if_true] at hj
      cases hj
      exact ⟨cs,ty,fr',D,by omega,by rw [hc]; exact VRs.mono hS _ _ q6⟩
     ·simp only [e,if_false] at hj
      obtain ⟨a1,a2,a3,e1,e2,e3⟩:=rw.frz j B' cells' hj
      exact ⟨a1,a2,a3,e1,e2,VRs.mono hS _ _ e3⟩
    ·intro j B' cells' hj
     by_cases e:j=nf
     ·simp only [e,if_true] at hj
      cases hj
      exact .inr ⟨hbase rfl,_,_,_,Nat.zero_le _,hm⟩
     ·simp only [e,if_false] at hj
      exact .inl hj
   ·intro j B' cells' hj
    by_cases e:j=nf
    ·simp only [e,if_true] at hj
     cases hj
     exact .inr ⟨_,_,hm⟩
    ·simp only [e,if_false] at hj
     exact .inl hj
   ·intro c hv
    simp only [VR] at hv
    rcases hv with ⟨o,x⟩ | ⟨B2,N2,cap,o,x,h3,h4⟩
    ·subst o; subst x
     have:cells=[]:=List.length_eq_zero_iff.1 (by omega)
     subst this
     exact qEc _ _
    ·rw [hm] at o
     cases o
     subst h4
     simp only [VR]
     refine ⟨hc,_,cap,rfl,x,λe=>(by cases e),λ_=>⟨nf,B,0,cells,by simp,rfl,?_,by omega⟩⟩
     rw [List.drop_zero,List.take_of_length_le (by omega)]
 obtain ⟨F,hFok,hFnew,hvec⟩:=key
 have hout:∀ {r v q},(m.out g F) r v=some q→r ≠ g∧m r v=some q:=by
  intro r v q h
  have h:(if r=g then none else m r v)=some q:=h
  by_cases e:r=g
  ·rw [if_pos e] at h; cases h
  ·rw [if_neg e] at h; exact ⟨e,h⟩
 have hblk:∀ {r c},r ≠ g→(mkH L').t.get r=some c→∃ b,(mkH L).t.get r=some b∧c.minv=b.minv∧c.ro=b.ro∧Fr1 g n sz cells b.cells c.cells:=by
  intro r c hne hc'
  rw [gL'] at hc'
  obtain ⟨b,D,E⟩:=hget r c hc'
  rw [Nat.zero_add] at E
  rcases E with ⟨e,_⟩ | ⟨_,J⟩
  ·exact absurd e hne
  ·exact ⟨b,by rw [gL]; exact D,J⟩
 refine k r hr' m0 w0 S (m.out g F) w a h0 ?_ hnt hd ⟨?_,?_,?_,?_,?_,hFok.ok,?_,hFok.fin,rw.base_le,by show L'.length≤roots; omega⟩ ⟨⟨λr v q hq=>(by
  have o:=h0.1 r v q hq
  have x:=Nat.le_of_ble_eq_true Y
  show (if r=g then none else m r v)=some q
  rw [if_neg (by omega)]
  exact st.sub.1 r v q hq),λi q hq=>hFok.sub i q (st.sub.2 i q hq)⟩,?_,?_,st.size,st.os,st.tape,st.output,st.same⟩
 ·intro u hu
  obtain ⟨hne,hf⟩:=qO hE u hu
  obtain ⟨c,o,x⟩:=fr u hne
  refine ⟨c,o,?_⟩
  have:=fr1_ok hFok.sub hvec hf (cs:=[c]) (by simp only [VRs]; exact ⟨c,[],rfl,x,rfl⟩)
  simp only [VRs] at this
  obtain ⟨c',cs',e1,h3,_⟩:=this
  cases e1
  exact h3
 ·intro r b v B N hb hm o x
  obtain ⟨hne',hm⟩:=hout hm
  obtain ⟨U,I,g2,K,Q⟩:=hblk hne' hb
  obtain ⟨cs,ty,fr',D,E,J,T,O⟩:=rw.blk r U v B N I hm (by omega) (by rw [← Q.length]; exact x)
  exact ⟨cs,ty,fr',D,E,J,by rw [K]; exact T,fr1_ok hFok.sub hvec (fr1_take Q v) O⟩
 ·intro r v B N hm
  obtain ⟨hne',hm⟩:=hout hm
  obtain ⟨b,D,E,J,T⟩:=rw.dom r v B N hm
  rw [gL] at D
  have hlt:r < L'.length:=by rw [hlen]; exact (List.getElem?_eq_some_iff.1 D).1
  have hc':(mkH L').t.get r=some L'[r]:=by rw [gL']; exact List.getElem?_eq_getElem hlt
  obtain ⟨U,I,g2,K,Q⟩:=hblk hne' hc'
  rw [gL,D] at I
  cases I
  exact ⟨_,hc',by rw [Q.length]; exact E,J,by rw [K]; exact T⟩
 ·intro r v B N r' v' N' hm hm' hB
  exact rw.sep _ _ _ _ _ _ _ (hout hm).2 (hout hm').2 hB
 ·intro r hr
  have hr:L'.length≤r:=hr
  rw [gL',List.getElem?_eq_none hr]
 ·intro r v B N hm
  exact rw.vle _ _ _ _ (hout hm).2
 ·intro i B cs r v N b hi hm hb
  obtain ⟨hne',hm⟩:=hout hm
  obtain ⟨U,I,g2,K,Q⟩:=hblk hne' hb
  rw [K]
  rcases hFnew i B cs hi with h | ⟨v',N',h⟩
  ·exact rw.fsep i B cs r v N U h hm I
  ·obtain ⟨S,z,_,_,hbase⟩:=rw.dom _ _ _ _ h
   rw [hroot] at z
   cases z
   exact absurd (rw.sep _ _ _ _ _ _ _ h hm (hbase rfl)).symm hne'
 ·intro r v B N hm
  exact st.ext r v B N (hout hm).2
 ·intro i B cs hi
  rcases hFok.new i B cs hi with h | h
  ·exact st.fext i B cs h
  ·obtain ⟨o,r,v,N,_,hm⟩:=h
   rcases st.ext r v B N hm with ⟨v0,N0,e0⟩ | x
   ·exact .inr ⟨o,.inl ⟨r,v0,N0,e0⟩⟩
   ·exact .inr ⟨o,.inr x⟩
def cT {α R:Type} (m:Option (Option α)) (tc:Option R) (f:α→Option R):Option R:=m.bind λx=>match x with | none=>tc | some y=>f y
def DfR (m:Mp) (f:Nat) (caps:List AV) (ds:List Deferred):Prop := ∃ vals:Array Value,ds=[{ target := .fn (.func f) vals,args := #[] }]∧VRs m caps vals.toList
def DefT (P:Program) (f:Nat) (caps:List AV) (L:List Blk) (u:FrameMode) (L':List Blk):Prop :=
 (∀ (m:Mp) (w:World) (base:Nat) (vals:Array Value),VRs m caps vals.toList→RW m (mkH L) w base→CallsD P f vals u w λe u' w'=>(∃ v,e = .returned v)∧settle u' = .returning∧∃ m',RW m' (mkH L') w' base∧St m w base m' w') ∧
 (∃ fn,P.funcs[f]? = some fn∧(fn.name == "runtime.NumGoroutine")=false∧fn.body.isSome=true)
section
variable {R:Type} (X:Fx R)
def OkD (f:Nat) (caps:List AV) (p:Pt) (env:Env) (H:Hp) (t:Option R):Prop := ∀ r,t=some r→∀ (m0:Mp) (c:World) (b:Nat) (m:Mp) (w:World) (a:Act),((∀ r v p,m0 r v=some p→r < X.n0)∧b≤c.heap.size)→FR m env a.tmps→X.fn.ntmps≤a.tmps.size→DfR m f caps a.defers→RW m H w b→St m0 c b m w→At X.P (Ret X r m0 c b) p a w
end
section
variable {R:Type} {X:Fx R} {f:Nat} {caps:List AV} {p p':Pt} {env eE:Env} {H H':Hp}
theorem put_defers (a:Act) (d:Option Nat) (c:Value):(a.put d c).defers=a.defers:=by cases d <;> rfl
theorem DfR.mono {m m':Mp} {ds:List Deferred} (h:Sub m m') (k:DfR m f caps ds):DfR m' f caps ds:=let ⟨v,e,q⟩:=k; ⟨v,e,VRs.mono h _ _ q⟩
theorem qNz {m : Mp} {env : Env} {a : Act} {n : Nat} (fr : FR m env a.tmps) (j : n ≤ a.tmps.size) (o : Oper) (ho : dstOk n o = true) (v : AV) (c : Value) (hv : VR m v c) :
 FR m (putV env o.dst v) (a.put o.dst c).tmps∧n≤(a.put o.dst c).tmps.size:=by
 obtain ⟨b,g,_⟩:=qBk (a := { a with defers:=[] }) fr j rfl o ho v c hv
 cases h:o.dst <;> rw [h] at b g <;> exact ⟨b,g⟩
theorem okD_at {t:Option R} (h:p=p') (k:OkD X f caps p' env H t):OkD X f caps p env H t:=h ▸ k
theorem qQ5 {t:Option R} {ops:Array Oper} {n:Nat} {K:List Fr} {o:Oper} {v:AV} (ho:ops[n]? = some o) (hd:dstOk X.fn.ntmps o=true) (hw:wantedV o ops.toList env=some true) (hs:Stp X.P X.C env H o v H') (k:OkD X f caps (.ops ops (n+1) K) (putV env o.dst v) H' t):OkD X f caps (.ops ops n K) env H t:=by
 intro r hr m0 h j m w a g fr q hdf rw st
 show wpOps X.P ops _ (List.range' n (ops.size - n)) a w
 have hlt:n < ops.size:=(Array.getElem?_eq_some_iff.1 ho).1
 rw [show ops.size - n=(ops.size - (n+1))+1 by omega,List.range'_succ]
 simp only [wpOps,ho]
 rw [qB4 hw fr]
 simp only [if_true]
 refine .inl ?_
 refine qP7 X.hti hs fr rw _ _ λm' w' c u b x=>?_
 obtain ⟨f1,f2⟩:=qNz (fr.mono b.sub) q o hd v c x
 exact k r hr m0 h j m' w' _ g f1 f2 (by rw [put_defers]; exact hdf.mono b.sub) u (st.trans g.2 b)
theorem okD_skp {t:Option R} {ops:Array Oper} {n:Nat} {K:List Fr} {o:Oper} (ho:ops[n]? = some o) (hd:dstOk X.fn.ntmps o=true) (hw:wantedV o ops.toList env=some false) (k:OkD X f caps (.ops ops (n+1) K) (putV env o.dst (.tuple [])) H t):OkD X f caps (.ops ops n K) env H t:=by
 intro r hr m0 b c m w a g fr h hdf rw st
 show wpOps X.P ops _ (List.range' n (ops.size - n)) a w
 have hlt:n < ops.size:=(Array.getElem?_eq_some_iff.1 ho).1
 rw [show ops.size - n=(ops.size - (n+1))+1 by omega,List.range'_succ]
 simp only [wpOps,ho]
 rw [qB4 hw fr]
 simp only [Bool.false_eq_true,if_false]
 obtain ⟨f1,f2⟩:=qNz fr h o hd (.tuple []) undef (qIo _)
 exact k r hr m0 b c m w _ g f1 f2 (by rw [put_defers]; exact hdf) rw st
theorem qCq {t:Option R} (h:∀ (Q:Exit→Act→World→Prop) (a:Act) (w:World),At X.P Q p' a w→At X.P Q p a w) (k:OkD X f caps p' env H t):OkD X f caps p env H t :=
 λr hr m0 b c m w a g fr j hd rw st=>h _ a w (k r hr m0 b c m w a g fr j hd rw st)
theorem stepD_ok {t:Option R} (h:stepV X.C X.fn.ntmps p env H=some (p',eE,H')) (k:OkD X f caps p' eE H' t):OkD X f caps p env H t:=by
 cases p with
 | ops ops n K =>
  simp only [stepV] at h
  rw [qCr,Array.getElem?_toList] at h
  cases ho:ops[n]? with
  | none =>
   rw [ho] at h
   cases h
   refine qCq (λQ a w hh=>?_) k
   show wpOps X.P ops _ (List.range' n (ops.size - n)) a w
   have hle:ops.size≤n:=by
    rcases Nat.lt_or_ge n ops.size with g | g
    ·rw [Array.getElem?_eq_getElem g] at ho; cases ho
    ·exact g
   rw [show ops.size - n=0 by omega]
   exact qAz hh
  | some o =>
   rw [ho] at h
   simp only at h
   cases hd:dstOk X.fn.ntmps o with
   | false=>rw [hd] at h; cases h
   | true =>
    rw [hd] at h
    simp only [cond_true] at h
    split at h
    ·rename_i hw
     split at h
     ·rename_i v I hv
      cases h
      exact qQ5 ho hd hw (.inl hv) k
     ·cases h
    ·rename_i hw
     cases h
     exact okD_skp ho hd hw k
    ·cases h
 | code c K =>
  cases c <;> simp only [stepV] at h
  case seq x y=>cases h; exact qCq (p' := .code x (.seq y::K)) (λQ a w hh=>wp_seq (wp_mono hh λe a w he=>by cases e <;> exact he)) k
  case skip=>cases h; exact qCq (λQ a w hh=>wp_skip (qAz hh)) k
  case label=>cases h; exact qCq (λQ a w hh=>wp_label (qAz hh)) k
  case block id b=>cases h; exact qCq (p' := .code b (.block id::K)) (λQ a w hh=>wp_block hh) k
  case scope b=>cases h; exact qCq (p' := .code b (.scope b::K)) (λQ a w hh=>(qHv hh).wp) k
  case loop b=>cases h; exact qCq (p' := .loop _ _) (λQ a w hh=>LoopWp.wp hh) k
  case exit id =>
   split at h
   ·rename_i q hq
    cases h
    exact qCq (λQ a w hh=>wp_exit (qDd hq hh)) k
   ·cases h
  case goto l =>
   split at h
   ·rename_i q hq
    cases h
    exact qCq (λQ a w hh=>wp_goto (qE2 hq hh)) k
   ·cases h
  case ret=>cases h; exact qCq (p' := .fin) (λQ a w hh=>wp_ret (qEh hh.2 K)) k
  case region id ops draw =>
   cases draw with
   | true=>cases h
   | false =>
    cases h
    refine qCq (p' := .ops ops 0 K) (λQ a w hh=>wp_region ?_) k
    have hh':wpOps X.P ops (FinK X.P Q K) (List.range' 0 (ops.size - 0)) a w:=hh
    rw [List.range_eq_range']
    exact hh'
  case cond c x y =>
   split at h
   ·rename_i b j
    cases h
    intro r hr m0 u z m w a D fr E hd rw st
    have hc:=qCe fr c
    rw [j] at hc
    simp only [VR] at hc
    refine wp_cond hc ?_
    have:=k r hr m0 u z m w a D fr E hd rw st
    cases b <;> exact this
   ·cases h
  all_goals cases h
 | loop b K=>cases h
 | fin=>cases h
theorem qFl {t : Option R} : ∀ (k : Nat) {p : Pt} {env : Env} {H : Hp}, runV X.C X.fn.ntmps k p env H = some (p', eE, H') → OkD X f caps p' eE H' t → OkD X f caps p env H t
 | 0,p,env,H,h,g=>by
  have h':some (p,env,H)=some (p',eE,H'):=h
  cases h'
  exact g
 | k+1,p,env,H,h,g=>by
  have h':(match stepV X.C X.fn.ntmps p env H with | some (p',eE,H')=>runV X.C X.fn.ntmps k p' eE H' | none=>none)=some (p',eE,H'):=h
  split at h'
  ·rename_i a env1 b hs
   exact stepD_ok hs (qFl k h' g)
  ·cases h'
noncomputable def deferAt (n:Nat) (p:Pt) (env:Env):Option (Nat×List AV) :=
 match operAt n p env with
 | some o=>match o.op,o.dst with
  | .defer c,none=>match c.callee,c.args.toList with
   | .value g,[]=>match opnd env g with
    | .func f [] caps=>some (f,caps)
    | _=>none
   | _,_=>none
  | _,_=>none
 | none=>none
theorem qLv {t:Option R} (h:deferAt X.fn.ntmps p env=some (f,caps)) (k:OkD X f caps (adv p) env H t):Ok X p env H t:=by
 unfold deferAt at h
 cases ho:operAt X.fn.ntmps p env with
 | none=>rw [ho] at h; cases h
 | some o =>
  rw [ho] at h
  simp only at h
  obtain ⟨ops,n,K,rfl,b,D,j⟩:=qAv ho
  split at h
  ·rename_i c hop hdst
   split at h
   ·rename_i g hcal hargs
    split at h
    ·rename_i f' caps' hg
     cases h
     intro r hr m0 q u m w a x fr z hdf rw st
     show wpOps X.P ops _ (List.range' n (ops.size - n)) a w
     have hlt:n < ops.size:=(Array.getElem?_eq_some_iff.1 b).1
     rw [show ops.size - n=(ops.size - (n+1))+1 by omega,List.range'_succ]
     simp only [wpOps,b]
     rw [qB4 j fr]
     simp only [if_true]
     refine .inl ?_
     have hgv:=qCe fr g
     rw [hg] at hgv
     simp only [VR,VRs] at hgv
     obtain ⟨ys,zs,hgv,hy,hz⟩:=hgv
     have hys:ys = #[]:=Array.toList_eq_nil_iff.1 hy
     subst hys
     have ha:c.args = #[]:=Array.toList_eq_nil_iff.1 hargs
     have hexec:(execOp a.eval o).run X.P w = .ok (.defer { target := .fn (.func f) zs,args := #[] }) w:=by
      simp [execOp,hop,resolve,hcal,hgv,Deferred.ofValue,ha,Sem.run,Bind.bind,Sem.bind,Pure.pure,Sem.pure]
     unfold Oper.wp
     rw [hexec]
     show wpOps X.P ops _ (List.range' (n+1) (ops.size - (n+1))) ({ a with defers := { target := .fn (.func f) zs,args := #[] }::a.defers }.put o.dst undef) w
     rw [hdst]
     refine k r hr m0 q u m w _ x fr z ⟨zs,?_,hz⟩ rw st
     show { target := .fn (.func f) zs,args := #[] }::a.defers=_
     rw [hdf]
    ·cases h
   ·cases h
  ·cases h
theorem qQm {P:Program} {f:Nat} {vals:Array Value} {w:World} (h:∃ fn,P.funcs[f]? = some fn∧(fn.name == "runtime.NumGoroutine")=false∧fn.body.isSome=true):(invoke (.fn (.func f) vals) #[]).run P w = .ok (.enter f vals) w:=by
 obtain ⟨fn,c,e2,e3⟩:=h
 have a:¬ fn.name = "runtime.NumGoroutine" := by simpa using e2
 have b:¬ fn.body=none:=by intro e; rw [e] at e3; cases e3
 simp [invoke,callFunc,c,a,b]
theorem qH3 {r : R} {xs : List AV} {v : AV} {u : FrameMode} {m0 m : Mp} {h w : World} {b : Nat} {a : Act} (o L g : List Blk) (hu : u ≠ .run) (hdT : DefT X.P f caps o u (L ++ g)) (ht : X.thr r = none) (hr : resV X.C env (mkH (L ++ g)) X.fn.results.toList = some xs) (x : Nat.ble (L.length + g.length) roots = true) (j : Nat.ble X.n0 L.length = true)
 (hz:FzG L.length (mkH (L++g)) [oneRes xs] [v]) (z:BB L.length L) (hv:X.enc r=v) (hf:X.fin r=mkH L) (q:(∀ r v p,m0 r v=some p→r < X.n0)∧b≤h.heap.size) (fr:FR m env a.tmps) (hd:DfR m f caps a.defers) (rw:RW m (mkH o) w b) (st:St m0 h b m w) :
 Leaves X.P X.fn a.tmps (EndT (X.thr r) (X.enc r) (X.fin r) m0 h b) a.defers u w:=by
 obtain ⟨vals,hds,hvals⟩:=hd
 rw [hds]
 refine leaves_cons hu (qQm hdT.2) (CallsD.mono (hdT.1 m w b vals hvals rw) ?_)
 rintro e u' w' ⟨⟨c,rfl⟩,hs,m',rw',st'⟩
 have n:=st.trans q.2 st'
 obtain ⟨c',D,e⟩:=qLn (env:=env) (a:=a) q L g ht hr x j hz z hv hf (fr.mono st'.sub) rw' n
 show Leaves X.P X.fn a.tmps _ [] (settle u') w'
 rw [hs]
 exact ⟨c',D,e⟩
theorem qQ6 {r : R} {xs : List AV} {v : AV} (c L b : List Blk) (hX : X.dfs = true) (hH : H = mkH c) (hdT : DefT X.P f caps c .returning (L ++ b)) (ht : X.thr r = none) (hr : resV X.C env (mkH (L ++ b)) X.fn.results.toList = some xs) (n : Nat.ble (L.length + b.length) roots = true) (g : Nat.ble X.n0 L.length = true)
 (hz:FzG L.length (mkH (L++b)) [oneRes xs] [v]) (o:BB L.length L) (hv:X.enc r=v) (hf:X.fin r=mkH L):OkD X f caps .fin env H (some r):=by
 intro r' e m0 h j m w a q fr hnt hd rw st
 cases e
 subst hH
 have:=qH3 (u := .returning) c L b (by intro e; cases e) hdT ht hr n g hz o hv hf q fr hd rw st
 show Ret X r m0 h j .normal a w∧Ret X r m0 h j .ret a w
 unfold Ret
 rw [hX]
 exact ⟨this,this⟩
theorem qLx {α : Type} {mm : Option (Option α)} {ff : α → Option R} {tc : Option R} {fi : Nat} {args : List AV} {tv : Value} {D : LN} {xs : List AV} {v : AV} {rc : R} (g : α → AV) (G : α → Hp) (p' : Pt) (E : α → Env) (O L j : List Blk) (env2 : Env) (ks : LN) (nk : Nat) (hX : X.dfs = true) (htc : tc = some rc) (hc : callAt X.fn.ntmps p env = some (fi, args))
 (Q:mm=some none→∃ v,CallT X.P fi args H (some (tv,D)) v (mkH O)) (hD:(D.all λr=>Nat.ble nk r && Nat.ble X.n0 r)=true) (hk:keepOnly env ks=env2) (hbe:belowE nk env2=true) (hbc:belows nk caps=true)
 (hdT:DefT X.P f caps O (.panicking [{ v:=tv,recovered:=false }]) (L++j)) (ht:X.thr rc=none) (hr:resV X.C env2 (mkH (L++j)) X.fn.results.toList=some xs) (z:Nat.ble (L.length+j.length) roots=true) (S:Nat.ble X.n0 L.length=true)
 (hz:FzG L.length (mkH (L++j)) [oneRes xs] [v]) (hb:BB L.length L) (hv:X.enc rc=v) (hff:X.fin rc=mkH L)
 (hf:∀ x,mm=some (some x)→CallT X.P fi args H none (g x) (G x)) (ha:∀ x,advE X.fn.ntmps p env (g x)=some (p',E x)) (k:∀ x,mm=some (some x)→OkD X f caps p' (E x) (G x) (ff x)):OkD X f caps p env H (cT mm tc ff):=by
 unfold cT
 intro r hr' m0 w0 b0 m w a J fr hnt hd rw st
 cases hmm:mm with
 | none=>rw [hmm] at hr'; cases hr'
 | some x =>
  rw [hmm] at hr'
  cases x with
  | some y =>
   obtain ⟨o,c,q,first,cps,ho,hoc,hq,hfv,hargs⟩:=qCg hc
   have hay:=ha y
   unfold advE at hay
   rw [ho] at hay
   simp only [Option.some.injEq,Prod.mk.injEq] at hay
   obtain ⟨T,e2⟩:=hay
   obtain ⟨ops,n,K,rfl,M,h2,U⟩:=qAv ho
   have ky:=k y hmm
   rw [← T,← e2] at ky
   exact qQ5 M h2 U (.inr ⟨c,q,fi,first,cps,hoc,hq,hfv,hargs ▸ (hf y hmm).v⟩) ky r hr' m0 w0 b0 m w a J fr hnt hd rw st
  | none =>
   obtain ⟨Y,hcall⟩:=Q hmm
   have hr':tc=some r:=hr'
   rw [htc] at hr'
   cases hr'
   obtain ⟨o,c,q,first,cps,ho,hoc,hq,hfv,hargs⟩:=qCg hc
   obtain ⟨ops,n,K,rfl,M,h2,U⟩:=qAv ho
   show wpOps X.P ops _ (List.range' n (ops.size - n)) a w
   have hlt:n < ops.size:=(Array.getElem?_eq_some_iff.1 M).1
   rw [show ops.size - n=(ops.size - (n+1))+1 by omega,List.range'_succ]
   simp only [wpOps,M]
   rw [qB4 U fr]
   simp only [if_true]
   refine .inl ?_
   refine qF8 (.inr ⟨c,q,fi,first,cps,Y,hoc,hq,hfv,hargs ▸ hcall⟩) fr rw _ _ λw' th=>qBp ?_ K
   obtain ⟨qt,b,d1,d2,d3,Z⟩:=th
   have hDk:∀ r ∈ D,nk≤r∧X.n0≤r:=by
    intro r hr
    have:=List.all_eq_true.1 hD r hr
    simpa using this
   have hkeep:∀ i v p,i < nk→m i v=some p→b i v=some p:=by
    intro i v p hi e
    rw [d1,if_neg (λh=>by have:=(hDk i h).1; omega)]
    exact e
   have a0:FR b env2 a.tmps:=by
    intro t ht
    obtain ⟨c,g1,g2⟩:=(fr.less (hk ▸ qBi ks env)) t ht
    refine ⟨c,g1,?_⟩
    have:=qI (m:=m) (m0:=b) (ρ:=id) (n:=nk) (λi v p hi e=>hkeep i v p hi e) d2 _ c (qDp t hbe)
    exact this (by rw [qKa]; exact g2)
   have a1:DfR b f caps a.defers:=by
    obtain ⟨vals,T,e2⟩:=hd
    refine ⟨vals,T,?_⟩
    exact qB (m:=m) (m0:=b) (ρ:=id) (n:=nk) (λi v p hi e=>hkeep i v p hi e) d2 _ _ hbc (by rw [qDb]; exact e2)
   have a2:St m0 w0 b0 b w':=by
    have I:=st.qt J.2 qt
    refine ⟨⟨λr v p hp=>?_,λi p hp=>d2 i p (st.sub.2 i p hp)⟩,?_,?_,I.size,I.os,I.tape,I.output,I.same⟩
    ·rw [d1,if_neg (λh=>by have:=(hDk r h).2; have:=J.1 r v p hp; omega)]
     exact st.sub.1 r v p hp
    ·intro r v B N e
     rw [d1] at e
     split at e
     ·cases e
     ·exact st.ext r v B N e
    ·intro i B cells e
     rcases d3 i B cells e with h | ⟨hB,⟨r,v,N,hm⟩ | z⟩
     ·exact st.fext i B cells h
     ·rcases st.ext r v B N hm with ⟨Y,N0,e0⟩ | z
      ·exact .inr ⟨hB,.inl ⟨r,Y,N0,e0⟩⟩
      ·exact .inr ⟨hB,.inr z⟩
     ·exact .inr ⟨hB,.inr (Nat.le_trans st.size z)⟩
   have:=qH3 (env:=env2) (u := .panicking [{ v:=tv,recovered:=false }]) O L j (by intro e; cases e) hdT ht hr z S hz hb hv hff J a0 a1 Z a2
   unfold Ret
   rw [hX]
   exact this
end
theorem defT_of (Y : Fx Unit) {f : Nat} {L L' : List Blk} {caps : List AV} {id : Nat} {ops : Array Oper} {rest : Code} {g j : Oper} {d1 d2 : Nat} {u u' : FrameMode} {xv : Value} {x : AV} (hf : Y.P.funcs[f]? = some Y.fn) (T : (Y.fn.name == "runtime.NumGoroutine") = false) (E : Y.fn.body = some (.seq (.region id ops false) rest)) (hops : ops = #[g, j])
 (U:g.op = .call ⟨.builtin .recover,#[],#[]⟩) (Q:g.dst=some d1) (Z:g.guard=none) (g4:j.op = .assign (.tmp d1)) (g5:j.dst=some d2) (g6:j.guard=none) (J:d1 < Y.fn.ntmps) (K:d2 < Y.fn.ntmps) (hdfs:Y.dfs=false) (hthr:Y.thr ()=none) (hfin:Y.fin ()=mkH L') (M:Y.n0=L.length)
 (S:∀ m,VR m x xv) (hu:∀ (c₀:Frame) (cs:List Frame),c₀.mode=u→(recoverD (c₀::cs)=some (xv,{ c₀ with mode:=u' }::cs))∨(recoverD (c₀::cs)=none∧xv = .nilIface∧u'=u)) (hset:settle u' = .returning)
 (h:Ok Y (.code rest []) ((d2,x)::(d1,x)::args0 0 caps) (mkH L) (some ())):DefT Y.P f caps L u L':=by
 refine ⟨?_,Y.fn,hf,T,by rw [E]; rfl⟩
 intro m w base vals hvals rw
 refine callsD_of_wpS hf E λc₀ cs hc=>?_
 let a0:Act := { tmps:=vals++Array.replicate (Y.fn.ntmps - vals.size) undef,defers:=[] }
 have hmid:∀ n:Act,n=(a0.put (some d1) xv).put (some d2) xv→rest.wp Y.P (Ret Y () m w base) n w:=by
  rintro n rfl
  have f1:FR m (args0 0 caps) a0.tmps:=qLh hvals
  have hsz:Y.fn.ntmps≤a0.tmps.size:=by simp [a0]; omega
  have f2:=f1.put d1 x xv (S m) (.inl (Nat.lt_of_lt_of_le J hsz))
  have f3:=f2.put d2 x xv (S m) (.inl (by simp; exact Nat.lt_of_lt_of_le K hsz))
  refine h () rfl m w base m w ((a0.put (some d1) xv).put (some d2) xv) ⟨λr v p e=>?_,rw.base_le⟩ ?_ (by simp [Act.put]; exact hsz) rfl rw (St.refl _ _ _)
  ·obtain ⟨b,E,_⟩:=rw.dom r v p.1 p.2 e
   rw [M]
   exact rw.lt E
  ·refine f3.less ?_
   intro t
   right
   rw [qB8,qAq]
   by_cases e:d2=t
   ·rw [if_pos e,if_pos e]
   ·rw [if_neg e,if_neg e,qB8,qAq]
 have hend:∀ (n:Act),n=(a0.put (some d1) xv).put (some d2) xv→rest.wpS Y.P (bodyPostS Y.P Y.fn c₀ cs λe o w'=>(∃ v,e = .returned v)∧settle o = .returning∧∃ m',RW m' (mkH L') w' base∧St m w base m' w') n ({ c₀ with mode:=u' }::cs) w:=by
  intro n N
  refine wpS_of_wp (wp_mono (hmid n N) λe a' w' he=>?_)
  have key:a'.defers=[]→(∃ v,(results Y.fn a'.tmps).run Y.P w' = .ok v w'∧EndT (Y.thr ()) (Y.enc ()) (Y.fin ()) m w base (.returned v) w')→a'.defers=[]∧∃ o,({ c₀ with mode:=u' }::cs) = { c₀ with mode:=o }::cs∧∃ v,(results Y.fn a'.tmps).run Y.P w' = .ok v w'∧((∃ v',Ending.returned v = .returned v')∧settle o = .returning∧∃ m',RW m' (mkH L') w' base∧St m w base m' w'):=by
   rintro hd ⟨v,h1,q⟩
   rw [hthr,hfin] at q
   obtain ⟨m',c,I,e2,e3,_⟩:=q
   exact ⟨hd,u',rfl,v,h1,⟨v,rfl⟩,hset,m',e2,e3⟩
  unfold Ret at he
  rw [hdfs] at he
  cases e with
  | normal=>exact key he.1 he.2
  | ret=>exact key he.1 he.2
  | panic ch =>
   have q:=he.2
   rw [hthr] at q
   obtain ⟨m',c,I,_⟩:=q
   cases I
  | exit id=>exact he.elim
  | goto l=>exact he.elim
  | outgrown =>
   have q:EndT (Y.thr ()) (Y.enc ()) (Y.fin ()) m w base .outgrown w':=he
   rw [hthr] at q
   obtain ⟨m',c,I,_⟩:=q
   cases I
 refine wpS_seq (wpS_region ?_)
 subst hops
 have z:Region.wanted g (yielded #[g,j] a0.tmps)=true:=by simp [Region.wanted,Z]
 have D:(execOp a0.eval g).run Y.P w = .ok .recover w:=by simp [execOp,U,resolve,invoke,builtin,Sem.run,Bind.bind,Sem.bind,Pure.pure,Sem.pure]
 have hev:∀ a:Act,a=a0.put (some d1) xv→(execOp a.eval j).run Y.P w = .ok (.value xv) w:=by
  rintro a rfl
  have hlt:d1 < a0.tmps.size:=by simp [a0]; omega
  simp [execOp,g4,Act.eval,Act.put,Sem.run,Pure.pure,Sem.pure,hlt]
 have O:∀ a:Act,Region.wanted j (yielded #[g,j] a.tmps)=true:=by intro a; simp [Region.wanted,g6]
 show wpOpsS Y.P #[g,j] _ [0,1] a0 (c₀::cs) w
 have step2:∀ (a:Act) (cs':List Frame),a=a0.put (some d1) xv→cs' = { c₀ with mode:=u' }::cs→wpOpsS Y.P #[g,j] (Exit.thenS (rest.wpS Y.P (bodyPostS Y.P Y.fn c₀ cs λe o w'=>(∃ v,e = .returned v)∧settle o = .returning∧∃ m',RW m' (mkH L') w' base∧St m w base m' w')) (bodyPostS Y.P Y.fn c₀ cs λe o w'=>(∃ v,e = .returned v)∧settle o = .returning∧∃ m',RW m' (mkH L') w' base∧St m w base m' w')) [1] a cs' w:=by
  intro a cs' ha hcs
  subst hcs
  simp only [wpOpsS]
  rw [show (#[g,j]:Array Oper)[1]? = some j from rfl]
  simp only [O a,if_true,hev a ha,Oper.upon,g5]
  exact hend _ (by rw [ha])
 rcases hu c₀ cs hc with hrec | ⟨hrec,hxv,huu⟩
 ·have:=step2 _ _ rfl rfl
  unfold wpOpsS
  rw [show (#[g,j]:Array Oper)[0]? = some g from rfl]
  simp only [z,if_true,D,Q,hrec]
  exact this
 ·have hcs:({ c₀ with mode:=u' }::cs:List Frame)=c₀::cs:=by rw [huu,← hc]
  have:=step2 (a0.put (some d1) .nilIface) (c₀::cs) (by rw [hxv]) hcs.symm
  unfold wpOpsS
  rw [show (#[g,j]:Array Oper)[0]? = some g from rfl]
  simp only [z,if_true,D,Q,hrec]
  exact this
noncomputable def recAt (fn:Func) (d1 d2:Nat):Bool :=
 match fn.body with
 | some (.seq (.region _ ops false) _)=>match ops.toList with
  | [a, b] => (match a.op with | .call ⟨.builtin .recover, c, g⟩ => c.toList.isEmpty && g.toList.isEmpty | _ => false) && (match a.dst with | some d => Nat.beq d d1 | none => false) && a.guard.isNone &&
   (match b.op with | .assign (.tmp e)=>Nat.beq e d1 | _=>false) && (match b.dst with | some d=>Nat.beq d d2 | none=>false) && b.guard.isNone && Nat.blt d1 fn.ntmps && Nat.blt d2 fn.ntmps
  | _=>false
 | _=>false
def restAt (fn:Func):Pt:=match fn.body with | some (.seq _ rest) => .code rest [] | _ => .fin
structure Cat (u:FrameMode) (x:AV):Prop where
 ex:∃ u' xv,(∀ m,VR m x xv)∧(∀ (c₀:Frame) (cs:List Frame),c₀.mode=u→(recoverD (c₀::cs)=some (xv,{ c₀ with mode:=u' }::cs))∨(recoverD (c₀::cs)=none∧xv = .nilIface∧u'=u))∧settle u' = .returning
theorem qF6 (Y : Fx Unit) (d1 d2 : Nat) {f : Nat} {L L' : List Blk} {caps : List AV} {u : FrameMode} {x : AV} (hcat : Cat u x) (hf : Y.P.funcs[f]? = some Y.fn) (o : (Y.fn.name == "runtime.NumGoroutine") = false) (a : recAt Y.fn d1 d2 = true) (hdfs : Y.dfs = false) (hthr : Y.thr () = none) (hfin : Y.fin () = mkH L') (c : Y.n0 = L.length)
 (h:Ok Y (restAt Y.fn) ((d2,x)::(d1,x)::args0 0 caps) (mkH L) (some ())):DefT Y.P f caps L u L':=by
 obtain ⟨u',xv,q,hu,hset⟩:=hcat.ex
 unfold recAt at a
 split at a
 ·rename_i id ops rest hbody
  split at a
  ·rename_i M N hops
   simp only [Bool.and_eq_true] at a
   obtain ⟨⟨⟨⟨⟨⟨⟨b,g⟩,z⟩,j⟩,n⟩,D⟩,E⟩,I⟩:=a
   have hr:restAt Y.fn = .code rest []:=by simp [restAt,hbody]
   rw [hr] at h
   refine defT_of Y (d1:=d1) (d2:=d2) hf o hbody (by rw [← hops]) ?_ ?_ (by simpa using z) ?_ ?_ (by simpa using D) (by simpa using E) (by simpa using I) hdfs hthr hfin c q hu hset h
   ·split at b
    ·rename_i J K e
     simp only [Bool.and_eq_true,List.isEmpty_iff,Array.toList_eq_nil_iff] at b
     rw [e,b.1,b.2]
    ·cases b
   ·split at g
    ·rename_i d e; rw [e,Nat.eq_of_beq_eq_true g]
    ·cases g
   ·split at j
    ·rename_i d e; rw [e,Nat.eq_of_beq_eq_true j]
    ·cases j
   ·split at n
    ·rename_i d e; rw [e,Nat.eq_of_beq_eq_true n]
    ·cases n
  ·cases a
 ·cases a
theorem qM:Cat .returning .nili :=
 ⟨.returning,.nilIface,λm=>by simp [VR],λc₀ cs hc => .inr ⟨by simp [recoverD,hc],rfl,rfl⟩,rfl⟩
theorem qGp {t:Nat}:Cat (.panicking [{ v := .iface t (.agg #[]),recovered:=false }]) (.iface t (.agg [])) :=
 ⟨.panicking [{ v := .iface t (.agg #[]),recovered:=true }],.iface t (.agg #[]),λm=>by simp [VR,VRs],λc₀ cs hc => .inl (by simp [recoverD,hc]),rfl⟩
noncomputable def lp {α:Type} (z:α) (f:α→α) (n:Nat):α:=Nat.rec (motive:=λ_=>α) z (λ_ ih=>f ih) n
abbrev AV.i (n:Int):AV := .int .i64 n
abbrev AV.y (n:Int):AV := .int .u8 n
def PTh {R:Type} (X:Fx (Option R)) (fi:Nat) (xs:List AV) (m:Option (Option R)):Prop := ∀ x,m=some (some x)→CallT X.P fi xs (X.fin none) (X.thr (some x)) (X.enc (some x)) (X.fin (some x))
def QTh {R:Type} (X:Fx (Option R)) (fi:Nat) (xs:List AV) (m:Option (Option R)):Prop:=m=some none→∃ v,CallT X.P fi xs (X.fin none) (X.thr none) v (X.fin none)
def PNh {R:Type} (X:Fx R) (fi:Nat) (xs:List AV) (H:Hp) (m:Option R):Prop := ∀ x,m=some x→CallT X.P fi xs H none (X.enc x) (X.fin x)
def PQh {R:Type} (X:Fx (Option R)) (fi:Nat) (xs:List AV) (m:Option (Option R)):Prop:=PTh X fi xs m∧QTh X fi xs m
noncomputable def DP.th (D:DP) (i:Nat) (v:Value) (ds:LN) (H:Hp):DP:=⟨D.S,D.pl,i,v,ds,H⟩
section
variable {R:Type} {X:Fx R} {p:Pt} {env:Env} {H:Hp} {t:Option R}
theorem oLH (k:Nat) (p':Pt) (eE:Env) (H':Hp) (g:Ok X p' eE H' t) (h:(runV X.C X.fn.ntmps k p env H).map (λx=>(x.1,keepOnly x.2.1 (eE.map Prod.fst),x.2.2))=some (p',eE,H'):=by kernel_rfl):Ok X p env H t:=by
 cases hr:runV X.C X.fn.ntmps k p env H with
 | none=>rw [hr] at h; cases h
 | some x =>
  obtain ⟨q,e,G⟩:=x
  rw [hr] at h
  simp only [Option.map_some,Option.some.injEq,Prod.mk.injEq] at h
  obtain ⟨rfl,a,rfl⟩:=h
  exact qGt k hr (qKg _ a g)
theorem oL (k:Nat) (p':Pt) (eE:Env) (g:Ok X p' eE H t) (h:(runV X.C X.fn.ntmps k p env H).map (λx=>(x.1,keepOnly x.2.1 (eE.map Prod.fst),x.2.2))=some (p',eE,H):=by kernel_rfl):Ok X p env H t:=oLH k p' eE H g h
theorem oR (k:Nat) (p':Pt) (eE:Env) (g:Ok X p' eE H t) (h:runV X.C X.fn.ntmps k p env H=some (p',eE,H):=by kernel_rfl):Ok X p env H t:=qGt k h g
theorem oH (k:Nat) (p':Pt) (eE:Env) (H':Hp) (g:Ok X p' eE H' t) (h:runV X.C X.fn.ntmps k p env H=some (p',eE,H'):=by kernel_rfl):Ok X p env H t:=qGt k h g
theorem oK0 (ks:LN) (k:Ok X p (keepOnly env ks) H t):Ok X p env H t:=qKg ks rfl k
theorem oK (ks:LN) (eE:Env) (k:Ok X p eE H t) (h:keepOnly env ks=eE:=by kernel_rfl):Ok X p env H t:=qKg ks h k
theorem oE (eE:Env) (k:Ok X p eE H t) (h:env=eE:=by kernel_rfl):Ok X p env H t:=qA h k
theorem oHp (H':Hp) (k:Ok X p env H' t) (h:H=H':=by kernel_rfl):Ok X p env H t:=ok_heap h k
theorem oS {a c:Option R} (d:Nat) {b:Bool} (g:b=true→Ok X p ((d,.bool true)::env) H a) (j:b=false→Ok X p ((d,.bool false)::env) H c) (h:look env d = .bool b:=by kernel_rfl):Ok X p env H (if b then a else c):=ok_split d h g j
theorem oC {α:Type} {m:Option α} {f:α→Option R} (g:α→AV×Hp) (p':Pt) (d:Nat) (h:evalAt X.C X.fn.ntmps p env H=m.map g) (k:∀ x,m=some x→Ok X p' ((d,(g x).1)::env) (g x).2 (f x)) (ha:∀ x,advE X.fn.ntmps p env (g x).1=some (p',(d,(g x).1)::env):=by exact λ_=>by kernel_rfl):Ok X p env H (m.bind f):=ok_chk g p' (λx=>(d,(g x).1)::env) h ha k
theorem oA {α:Type} {m:Option α} {f:α→Option R} {fi:Nat} (g:α→AV) (p':Pt) (d:Nat) (args:List AV) (hf:∀ x,m=some x→PureOk X.P fi args (g x)) (k:∀ x,m=some x→Ok X p' ((d,g x)::env) H (f x)) (hc:(callAt X.fn.ntmps p env,purs args)=(some (fi,args),true):=by kernel_rfl) (hg:∀ x,(pur (g x),advE X.fn.ntmps p env (g x))=(true,some (p',(d,g x)::env)):=by exact λ_=>by kernel_rfl):Ok X p env H (m.bind f) :=
 qQ4 g p' (λx=>(d,g x)::env) (congrArg Prod.fst hc) (congrArg Prod.snd hc) (λx=>congrArg Prod.fst (hg x)) hf (λx=>congrArg Prod.snd (hg x)) k
theorem oAp {α:Type} {m:Option α} {f:α→Option R} {fi:Nat} (g:α→AV) (p':Pt) (d:Nat) (args:List AV) (hp:∀ x,pur (g x)=true) (hf:∀ x,m=some x→PureOk X.P fi args (g x)) (k:∀ x,m=some x→Ok X p' ((d,g x)::env) H (f x)) (hc:(callAt X.fn.ntmps p env,purs args)=(some (fi,args),true):=by kernel_rfl) (hg:∀ x,advE X.fn.ntmps p env (g x)=some (p',(d,g x)::env):=by exact λ_=>by kernel_rfl):Ok X p env H (m.bind f) :=
 qQ4 g p' (λx=>(d,g x)::env) (congrArg Prod.fst hc) (congrArg Prod.snd hc) hp hf hg k
theorem oP {r:R} (h:(X.n0,X.fin r,X.thr r,(resV X.C env H X.fn.results.toList).map λxs=>(oneRes xs,purs [oneRes xs]))=(0,H0,none,some (X.enc r,true)):=by kernel_rfl):Ok X .fin env H (some r):=by
 simp only [Prod.mk.injEq] at h
 obtain ⟨b,c,g,a⟩:=h
 cases hr:resV X.C env H X.fn.results.toList with
 | none=>rw [hr] at a; cases a
 | some xs =>
  rw [hr] at a
  simp only [Option.map_some,Option.some.injEq,Prod.mk.injEq] at a
  exact ok_ret b c g hr (.pures a.2) a.1.symm
theorem oT {r:R} (xs:List AV) (v:AV) (hz:FzG 0 H [oneRes xs] [v]) (h:(X.n0,X.fin r,X.thr r,resV X.C env H X.fn.results.toList,X.enc r)=(0,H0,none,some xs,v):=by kernel_rfl):Ok X .fin env H (some r):=by
 simp only [Prod.mk.injEq] at h
 obtain ⟨a,b,c,g,j⟩:=h
 exact ok_ret a b c g hz j
theorem oQ {r:R} (k:Nat) (h:(runV X.C X.fn.ntmps k p env H).map (λx=>(x.1,X.n0,X.fin r,X.thr r,(resV X.C x.2.1 x.2.2 X.fn.results.toList).map λxs=>(oneRes xs,purs [oneRes xs])))=some (.fin,0,H0,none,some (X.enc r,true)):=by kernel_rfl):Ok X p env H (some r):=by
 cases hr:runV X.C X.fn.ntmps k p env H with
 | none=>rw [hr] at h; cases h
 | some x =>
  obtain ⟨q,e,G⟩:=x
  rw [hr] at h
  simp only [Option.map_some,Option.some.injEq,Prod.mk.injEq] at h
  obtain ⟨rfl,a,b,c,g⟩:=h
  refine qGt k hr (oP ?_)
  rw [a,b,c,g]
end
theorem FzG.ps {n0:Nat} {H:Hp} {xs:List AV} (h:purs xs=true:=by kernel_rfl):FzG n0 H xs xs := .pures h
theorem FzG.cs {n0:Nat} {H:Hp} {x:AV} {xs ys:List AV} (k:FzG n0 H xs ys) (h:pur x=true:=by kernel_rfl):FzG n0 H (x::xs) (x::ys) := .cons h k
def pickB : LN → List Blk → List Blk
 | 0::ms,_::l=>pickB ms l
 | (_+1)::ms,b::l=>b::pickB ms l
 | _,_=>[]
def PurA : List Blk → Prop
 | []=>True
 | b::l=>purs b.cells=true∧PurA l
def mk0 : LN → Bool
 | 0::_=>false
 | (_+1)::_=>true
 | []=>false
theorem PurA.head {ms:LN} {b:Blk} {l:List Blk} (h:PurA (pickB ms (b::l))) (hm:mk0 ms=true):purs b.cells=true:=by
 cases ms with
 | nil=>cases hm
 | cons m ms=>cases m with | zero=>cases hm | succ m=>exact h.1
theorem PurA.tail {ms:LN} {b:Blk} {l:List Blk} (h:PurA (pickB ms (b::l))):PurA (pickB ms.tail l):=by
 cases ms with
 | nil=>cases l <;> (simp only [List.tail_nil,pickB]; exact trivial)
 | cons m ms=>cases m with | zero=>exact h | succ m=>exact h.2
noncomputable def rbA (rs : LN) (n : Nat) : LN → List Blk → List (Bool × Option Blk)
 | _,[]=>[]
 | ms,b::L=>(bif mk0 ms then (!b.ro,some b) else (!b.ro && belows n b.cells,some ⟨renVs (at0 rs) b.cells,b.minv,false⟩))::rbA rs n ms.tail L
noncomputable def rbC (rs : LN) (M : List Blk) : Nat → List Blk → List (Bool × Option Blk)
 | _,[]=>[]
 | i,_::L=>(true,nth M (at0 rs i))::rbC rs M (i+1) L
theorem qFa {rs : LN} {n : Nat} {M : List Blk} : ∀ {L : List Blk} {ms : LN} {i : Nat}, rbA rs n ms L = rbC rs M i L → PurA (pickB ms L) → RBs rs n M i L
 | [],_,_,_,_=>trivial
 | b::L,ms,i,h,hp=>by
  simp only [rbA,rbC,List.cons.injEq] at h
  obtain ⟨a,c⟩:=h
  refine ⟨?_,qFa c hp.tail⟩
  cases hm:mk0 ms with
  | true =>
   rw [hm] at a
   simp only [cond_true,Prod.mk.injEq] at a
   rw [← a.2]
   have hro:b.ro=false:=by have:=a.1; revert this; cases b.ro <;> simp
   exact ⟨hro,.inl ⟨rfl,hp.head hm⟩⟩
  | false =>
   rw [hm] at a
   simp only [cond_false,Prod.mk.injEq,Bool.and_eq_true] at a
   rw [← a.2]
   have hro:b.ro=false:=by have:=a.1.1; revert this; cases b.ro <;> simp
   exact ⟨hro,.inr ⟨a.1.2,rfl⟩⟩
def offs (rs : LN) : Nat → List Blk → List Blk
 | _,[]=>[]
 | i,b::M=>bif rs.any (λr=>Nat.beq r i) then offs rs (i+1) M else b::offs rs (i+1) M
theorem qHw {rs : LN} : ∀ {M M' : List Blk} {i : Nat}, Nat.ble M.length M'.length = true → offs rs i M = offs rs i (M'.take M.length) → SameB rs i M M'
 | [],_,_,_,_=>trivial
 | b::M,[],_,h,_=>by cases h
 | b::M,c::M',i,h,e=>by
  have h':Nat.ble M.length M'.length=true:=h
  cases hr:rs.any (λr=>Nat.beq r i) with
  | true =>
   simp only [offs,List.length_cons,List.take_succ_cons,hr,cond_true] at e
   exact ⟨.inr hr,qHw h' e⟩
  | false =>
   simp only [offs,List.length_cons,List.take_succ_cons,hr,cond_false,List.cons.injEq] at e
   exact ⟨.inl e.1.symm,qHw h' e.2⟩
noncomputable def thB (rs a D : LN) : LN → Nat → List Blk → Bool
 | _,_,[]=>true
 | ms,r,b::M=>((D.any λs=>Nat.beq s r) || ((mk0 ms || purs b.cells) && (a.all λi => !Nat.beq (at0 rs i) r))) && thB rs a D ms.tail (r+1) M
theorem qNl {rs c D : LN} : ∀ {M : List Blk} {ms : LN} {r : Nat}, thB rs c D ms r M = true → PurA (pickB ms M) → dOk rs c D r M
 | [],_,_,_,_=>trivial
 | b::M,ms,r,h,hp=>by
  simp only [thB,Bool.and_eq_true,Bool.or_eq_true] at h
  refine ⟨?_,qNl h.2 hp.tail⟩
  rcases h.1 with a | ⟨a | a,g⟩
  ·exact .inl a
  ·exact .inr ⟨hp.head a,g⟩
  ·exact .inr ⟨a,g⟩
def kpB (DX D : LN) : Nat → List Blk → List Blk → Bool
 | _,[],_=>true
 | _,_::_,[]=>false
 | r,_::LX,_::L=>((DX.any λs=>Nat.beq s r) || (D.all λs => !Nat.beq s r)) && kpB DX D (r+1) LX L
theorem qIf {rs j DX D : LN} : ∀ {LX M : List Blk} {r : Nat}, kpB DX D r LX M = true → offs DX r LX = offs DX r (M.take LX.length) → dOk rs j D r M → keepOk DX D r LX M
 | [],_,_,_,_,_=>trivial
 | _::_,[],_,h,_,_=>by cases h
 | b::LX,c::M,r,h,e,hd=>by
  simp only [kpB,Bool.and_eq_true,Bool.or_eq_true] at h
  cases hr:DX.any (λs=>Nat.beq s r) with
  | true =>
   simp only [offs,List.length_cons,List.take_succ_cons,hr,cond_true] at e
   exact ⟨.inl hr,qIf h.2 e hd.2⟩
  | false =>
   simp only [offs,List.length_cons,List.take_succ_cons,hr,cond_false,List.cons.injEq] at e
   refine ⟨.inr ?_,qIf h.2 e.2 hd.2⟩
   have hD:(D.all λs => !Nat.beq s r)=true:=by
    rcases h.1 with a | a
    ·rw [hr] at a; cases a
    ·exact a
   refine ⟨hD,e.1.symm,?_⟩
   rcases hd.1 with g | g
   ·obtain ⟨s,hs,he⟩:=List.any_eq_true.1 g
    have:=List.all_eq_true.1 hD s hs
    rw [he] at this
    cases this
   ·rw [e.1]; exact g.1
noncomputable def frB1 (L L' M M':List Blk) (rs:LN) (ys:List AV) (v:AV):Bool:=frOk L.length L'.length M.length M'.length rs && belows L.length ys && below L'.length v && Nat.ble M.length M'.length
theorem frC {P : Program} {g : Nat} {ys xs : List AV} {L L' M M' : List Blk} {v v' : AV} {rs ms ms' : LN} (h : CallT P g ys (mkH L) none v (mkH L')) (hp : PurA (pickB ms L)) (hp' : PurA (pickB ms' L'))
 (he:(frB1 L L' M M' rs ys v,renVs (at0 rs) ys,renV (at0 rs) v,rbA rs L.length ms L,rbA rs L'.length ms' L',offs rs 0 M)=(true,xs,v',rbC rs M 0 L,rbC rs M' 0 L',offs rs 0 (M'.take M.length))):CallT P g xs (mkH M) none v' (mkH M'):=by
 simp only [Prod.mk.injEq,frB1,Bool.and_eq_true] at he
 obtain ⟨⟨⟨⟨a,b⟩,c⟩,j⟩,rfl,rfl,e3,e4,e5⟩:=he
 exact frame h rs M M' a b (qFa e3 hp) (qFa e4 hp') c (qHw j e5)
noncomputable def mvA : LN → List Blk → List Blk → List (List AV × Bool × Nat × Bool)
 | ms,b::a,c::M=>(b.cells,b.ro,(bif mk0 ms then b.minv else 0),mk0 ms || Nat.ble b.minv c.minv)::mvA ms.tail a M
 | _,[],[]=>[]
 | _,_,_=>[([],true,0,false)]
def mvC : LN → List Blk → List (List AV × Bool × Nat × Bool)
 | ms,c::M=>(c.cells,c.ro,(bif mk0 ms then c.minv else 0),true)::mvC ms.tail M
 | _,[]=>[]
theorem mv_of : ∀ {a M : List Blk} {ms : LN}, mvA ms a M = mvC ms M → MinvLe a M
 | [],[],_,_=>trivial
 | [],_::_,_,h=>by simp [mvA,mvC] at h
 | _::_,[],_,h=>by simp [mvA,mvC] at h
 | b::a,c::M,ms,h=>by
  simp only [mvA,mvC,List.cons.injEq,Prod.mk.injEq] at h
  obtain ⟨⟨n,o,g,j⟩,q⟩:=h
  refine ⟨⟨n.symm,o.symm,?_⟩,mv_of q⟩
  cases hm:mk0 ms with
  | true=>rw [hm] at g; simp only [cond_true] at g; rw [g]; exact Nat.le_refl _
  | false=>rw [hm] at j; simp only [Bool.false_or] at j; exact Nat.le_of_ble_eq_true j
theorem frW {P : Program} {g : Nat} {ys xs xs' : List AV} {L L' a M' : List Blk} {v v' : AV} {rs ms ms' mv : LN} (gh : Nat) (M : List Blk) (hw : Wk xs xs') (h : CallT P g ys (mkH L) none v (mkH L')) (hp : PurA (pickB ms L)) (hp' : PurA (pickB ms' L'))
 (he:(frB1 L L' M M' rs ys v,renVs (at0 rs) ys,renV (at0 rs) v,rbA rs L.length ms L,rbA rs L'.length ms' L',offs rs 0 M,mvA mv (a++List.replicate gh ⟨[],0,false⟩) M)=(true,xs',v',rbC rs M 0 L,rbC rs M' 0 L',offs rs 0 (M'.take M.length),mvC mv M)):CallT P g xs (mkH a) none v' (mkH M'):=by
 simp only [Prod.mk.injEq,frB1,Bool.and_eq_true] at he
 obtain ⟨⟨⟨⟨b,c⟩,j⟩,n⟩,o,e2,e3,e4,e5,e6⟩:=he
 exact frameC h rs gh a _ M M' xs xs' rfl rfl (mv_of e6) hw o e2 rfl b c (qFa e3 hp) (qFa e4 hp') j (qHw n e5)
theorem frS {P : Program} {g : Nat} {ys xs xs' : List AV} {L a M : List Blk} {t : Value} {b rs ms mv mm D : LN} (gh : Nat) (hw : Wk xs xs') (h : ∃ v, CallT P g ys (mkH L) (some (t, b)) v (mkH L)) (hp : PurA (pickB ms L)) (hm : PurA (pickB mm M))
 (he:(frOk L.length L.length M.length M.length rs,belows L.length ys,thB rs b D mm 0 M,renVs (at0 rs) ys,rbA rs L.length ms L,mvA mv (a++List.replicate gh ⟨[],0,false⟩) M)=(true,true,true,xs',rbC rs M 0 L,mvC mv M)):∃ v,CallT P g xs (mkH a) (some (t,D)) v (mkH M):=by
 simp only [Prod.mk.injEq] at he
 obtain ⟨c,j,n,o,e2,e3⟩:=he
 exact frameT h rs D gh a _ M xs xs' rfl rfl (mv_of e3) hw o c j (qFa e2 hp) (qNl n hm)
theorem oN {R : Type} {X : Fx R} {p : Pt} {env : Env} {α : Type} {m : Option α} {f : α → Option R} {fi : Nat} {ys : List AV} {L M : List Blk} {v : α → AV} {L' : α → List Blk} (g : α → AV) (M' : α → List Blk) (p' : Pt) (d : Nat) (rs ms ms' : LN) (args : List AV)
 (h:∀ x,m=some x→CallT X.P fi ys (mkH L) none (v x) (mkH (L' x))) (hp:PurA (pickB ms L)) (hp':∀ x,PurA (pickB ms' (L' x))) (k:∀ x,m=some x→Ok X p' ((d,g x)::env) (mkH (M' x)) (f x))
 (hc:callAt X.fn.ntmps p env=some (fi,args):=by kernel_rfl)
 (he:∀ x,(frB1 L (L' x) M (M' x) rs ys (v x),renVs (at0 rs) ys,renV (at0 rs) (v x),rbA rs L.length ms L,rbA rs (L' x).length ms' (L' x),offs rs 0 M)=(true,args,g x,rbC rs M 0 L,rbC rs (M' x) 0 (L' x),offs rs 0 ((M' x).take M.length)):=by exact λ_=>by kernel_rfl)
 (ha:∀ x,advE X.fn.ntmps p env (g x)=some (p',(d,g x)::env):=by exact λ_=>by kernel_rfl):Ok X p env (mkH M) (m.bind f) :=
 qIa g (λx=>mkH (M' x)) p' (λx=>(d,g x)::env) hc (λx a=>frC (h x a) hp (hp' x) (he x)) ha k
theorem oX {R : Type} {X : Fx (Option R)} {p : Pt} {env : Env} {α : Type} {m : Option (Option α)} {f : α → Option (Option R)} {fi : Nat} {ys : List AV} {tv : Value} {a DX : LN} {LX L M : List Blk} {v : α → AV} {L' : α → List Blk} (g : α → AV) (M' : α → List Blk) (p' : Pt) (d : Nat) (rs ms ms' D mm : LN) (args : List AV)
 (hh:(∀ x,m=some (some x)→CallT X.P fi ys (mkH L) none (v x) (mkH (L' x)))∧(m=some none→∃ v,CallT X.P fi ys (mkH L) (some (tv,a)) v (mkH L))) (hp:PurA (pickB ms L)) (hp':∀ x,PurA (pickB ms' (L' x))) (hm:PurA (pickB mm M)) (k:∀ x,m=some (some x)→Ok X p' ((d,g x)::env) (mkH (M' x)) (f x))
 (hX:X.thr none=some (tv,DX):=by rfl) (b:X.fin none=mkH LX:=by rfl) (c:X.n0=LX.length:=by rfl)
 (hc:(callAt X.fn.ntmps p env,Nat.ble LX.length roots,Nat.ble M.length roots,thB (rs.take L.length) a D mm 0 M,kpB DX D 0 LX M,frOk L.length L.length M.length M.length (rs.take L.length),belows L.length ys,renVs (at0 (rs.take L.length)) ys,rbA (rs.take L.length) L.length ms L,offs DX 0 LX)=(some (fi,args),true,true,true,true,true,true,args,rbC (rs.take L.length) M 0 L,offs DX 0 (M.take LX.length)):=by kernel_rfl)
 (he:∀ x,(frB1 L (L' x) M (M' x) rs ys (v x),renVs (at0 rs) ys,renV (at0 rs) (v x),rbA rs L.length ms L,rbA rs (L' x).length ms' (L' x),offs rs 0 M)=(true,args,g x,rbC rs M 0 L,rbC rs (M' x) 0 (L' x),offs rs 0 ((M' x).take M.length)):=by exact λ_=>by kernel_rfl)
 (ha:∀ x,advE X.fn.ntmps p env (g x)=some (p',(d,g x)::env):=by exact λ_=>by kernel_rfl):Ok X p env (mkH M) (bT m f):=by
 obtain ⟨h,j⟩:=hh
 simp only [Prod.mk.injEq] at hc
 obtain ⟨n,o,q,u,c5,c6,c7,c8,c9,c10⟩:=hc
 have hd:dOk (rs.take L.length) a D 0 M:=qNl u hm
 refine qLw (tv:=tv) (D:=D) (LX:=LX) (L:=M) g (λx=>mkH (M' x)) p' (λx=>(d,g x)::env) hX b c (by simp [o,q]) (qIf c5 c10 hd) n (λz=>?_) (λx E=>frC (h x E) hp (hp' x) (he x)) ha k
 obtain ⟨v,hv⟩:=j z
 exact c8 ▸ ⟨.top,frameTh hv (rs.take L.length) M D c6 c7 (qFa c9 hp) hd .top⟩
theorem oXW {R : Type} {X : Fx (Option R)} {p : Pt} {env : Env} {α : Type} {m : Option (Option α)} {f : α → Option (Option R)} {fi : Nat} {ys : List AV} {tv : Value} {a DX : LN} {LX L b : List Blk} {v : α → AV} {L' : α → List Blk} (gh : Nat) (M : List Blk) (g : α → AV) (M' : α → List Blk) (p' : Pt) (d : Nat) (rs ms ms' D mm mv : LN) (args args' : List AV) (hw : Wk args args')
 (hh:(∀ x,m=some (some x)→CallT X.P fi ys (mkH L) none (v x) (mkH (L' x)))∧(m=some none→∃ v,CallT X.P fi ys (mkH L) (some (tv,a)) v (mkH L))) (hp:PurA (pickB ms L)) (hp':∀ x,PurA (pickB ms' (L' x))) (hm:PurA (pickB mm M)) (k:∀ x,m=some (some x)→Ok X p' ((d,g x)::env) (mkH (M' x)) (f x))
 (hX:X.thr none=some (tv,DX):=by rfl) (j:X.fin none=mkH LX:=by rfl) (n:X.n0=LX.length:=by rfl)
 (hc:(callAt X.fn.ntmps p env,Nat.ble LX.length roots,Nat.ble M.length roots,thB (rs.take L.length) a D mm 0 M,kpB DX D 0 LX M,offs DX 0 LX)=(some (fi,args),true,true,true,true,offs DX 0 (M.take LX.length)):=by kernel_rfl)
 (hs:(frOk L.length L.length M.length M.length (rs.take L.length),belows L.length ys,renVs (at0 (rs.take L.length)) ys,rbA (rs.take L.length) L.length ms L,mvA mv (b++List.replicate gh ⟨[],0,false⟩) M)=(true,true,args',rbC (rs.take L.length) M 0 L,mvC mv M):=by kernel_rfl)
 (he:∀ x,(frB1 L (L' x) M (M' x) rs ys (v x),renVs (at0 rs) ys,renV (at0 rs) (v x),rbA rs L.length ms L,rbA rs (L' x).length ms' (L' x),offs rs 0 M,mvA mv (b++List.replicate gh ⟨[],0,false⟩) M)=(true,args',g x,rbC rs M 0 L,rbC rs (M' x) 0 (L' x),offs rs 0 ((M' x).take M.length),mvC mv M):=by exact λ_=>by kernel_rfl)
 (ha:∀ x,advE X.fn.ntmps p env (g x)=some (p',(d,g x)::env):=by exact λ_=>by kernel_rfl):Ok X p env (mkH b) (bT m f):=by
 obtain ⟨h,o⟩:=hh
 simp only [Prod.mk.injEq] at hc hs
 obtain ⟨q,u,z,c,c5,c6⟩:=hc
 obtain ⟨E,I,J,K,N⟩:=hs
 have hd:dOk (rs.take L.length) a D 0 M:=qNl c hm
 refine qLw (tv:=tv) (D:=D) (LX:=LX) (L:=M) g (λx=>mkH (M' x)) p' (λx=>(d,g x)::env) hX j n (by simp [u,z]) (qIf c5 c6 hd) q (λO=>?_) (λx Q=>frW gh M hw (h x Q) hp (hp' x) (he x)) ha k
 exact frS gh hw (o O) hp hm (by rw [E,I,c,J,K,N])
section
variable {R:Type} {X:Fx R} {p:Pt} {env:Env} {H:Hp} {t:Option R}
def bbB (n : Nat) : LN → List Blk → Bool
 | _,[]=>true
 | ms,b::L=>(mk0 ms || belows n b.cells) && bbB n ms.tail L
theorem bb_of {n : Nat} : ∀ {L : List Blk} {ms : LN}, bbB n ms L = true → PurA (pickB ms L) → BB n L
 | [],_,_,_=>trivial
 | b::L,ms,h,hp=>by
  simp only [bbB,Bool.and_eq_true,Bool.or_eq_true] at h
  refine ⟨?_,bb_of h.2 hp.tail⟩
  rcases h.1 with a | a
  ·exact qA3 _ (hp.head a)
  ·exact a
theorem oF {r : R} {M : List Blk} (n : Nat) (ms : LN) (xs : List AV) (v : AV) (hz : FzG n (mkH M) [oneRes xs] [v]) (hp : PurA (pickB ms (M.take n)))
 (h:(X.thr r,resV X.C env (mkH M) X.fn.results.toList,Nat.ble M.length roots,Nat.ble X.n0 n,Nat.beq (M.take n).length n,bbB n ms (M.take n),X.enc r,X.fin r)=(none,some xs,true,true,true,true,v,mkH (M.take n)):=by kernel_rfl):Ok X .fin env (mkH M) (some r):=by
 simp only [Prod.mk.injEq] at h
 obtain ⟨b,c,g,j,a,o,q,u⟩:=h
 have a:(M.take n).length=n:=Nat.eq_of_beq_eq_true a
 have key:Ok X .fin env (mkH (M.take n++M.drop n)) (some r):=by
  refine ok_retF (M.take n) (M.drop n) b (v:=v) ?_ ?_ ?_ ?_ ?_ q u (xs:=xs)
  ·rw [List.take_append_drop]; exact c
  ·rw [← List.length_append,List.take_append_drop]; exact g
  ·rw [a]; exact j
  ·rw [a,List.take_append_drop]; exact hz
  ·rw [a]; exact bb_of o hp
 rwa [List.take_append_drop] at key
theorem oQF {r : R} (k : Nat) (M : List Blk) (n : Nat) (ms : LN) (xs : List AV) (v : AV) (hz : FzG n (mkH M) [oneRes xs] [v]) (hp : PurA (pickB ms (M.take n)))
 (a:(runV X.C X.fn.ntmps k p env H).map (λx=>(x.1,resV X.C x.2.1 x.2.2 X.fn.results.toList,x.2.2))=some (.fin,some xs,mkH M):=by kernel_rfl)
 (h:(X.thr r,Nat.ble M.length roots,Nat.ble X.n0 n,Nat.beq (M.take n).length n,bbB n ms (M.take n),X.enc r,X.fin r)=(none,true,true,true,true,v,mkH (M.take n)):=by kernel_rfl):Ok X p env H (some r):=by
 cases hr:runV X.C X.fn.ntmps k p env H with
 | none=>rw [hr] at a; cases a
 | some x =>
  obtain ⟨q,e,G⟩:=x
  rw [hr] at a
  simp only [Option.map_some,Option.some.injEq,Prod.mk.injEq] at a
  obtain ⟨rfl,b,rfl⟩:=a
  simp only [Prod.mk.injEq] at h
  obtain ⟨c,g,j,o,u,z,D⟩:=h
  refine qGt k hr (oF n ms xs v hz hp ?_)
  rw [b,c,g,j,o,u,z,D]
def nbB (a : Nat) : LN → Nat → List Blk → Bool
 | _,_,[]=>true
 | ms,i,b::l=>(Nat.beq i a || mk0 ms || nrefs a b.cells) && nbB a ms.tail (i+1) l
theorem nb_of {c : Nat} : ∀ {l : List Blk} {ms : LN} {i : Nat}, nbB c ms i l = true → PurA (pickB ms l) → NB c i l
 | [],_,_,_,_=>trivial
 | b::l,ms,i,h,hp=>by
  simp only [nbB,Bool.and_eq_true,Bool.or_eq_true] at h
  refine ⟨?_,nb_of h.2 hp.tail⟩
  rcases h.1 with (a | a) | a
  ·exact .inl (Nat.eq_of_beq_eq_true a)
  ·exact .inr (qBl _ (hp.head a))
  ·exact .inr a
theorem oZ {M : List Blk} (d a n sz : Nat) (cells : List AV) (ks ms : LN) (hp : PurA (pickB ms M)) (k : Ok X p ((d, .vec n sz cells) :: keepOnly env ks) (mkH (M.set a ⟨[], 0, false⟩)) t)
 (h:(Nat.ble X.n0 a,Nat.ble M.length roots,look env d,(nth M a).map (λb=>(b.cells,b.ro,Nat.ble b.minv (n * sz))),Nat.beq cells.length (n * sz),purs cells,nrefE a (keepOnly env ks),nbB a ms 0 M)=(true,true,.slice a (n * sz) 0 n sz,some (cells,false,true),true,true,true,true):=by kernel_rfl):Ok X p env (mkH M) t:=by
 simp only [Prod.mk.injEq] at h
 obtain ⟨j,o,q,c,u,x,z,D⟩:=h
 rw [qCr] at c
 cases g:M[a]? with
 | none=>rw [g] at c; cases c
 | some b =>
  obtain ⟨bc,bm,br⟩:=b
  rw [g] at c
  simp only [Option.map_some,Option.some.injEq,Prod.mk.injEq] at c
  obtain ⟨rfl,rfl,E⟩:=c
  exact ok_frz M d a n sz bm bc ks j o (.inl q) g (Nat.eq_of_beq_eq_true u) (Nat.le_of_ble_eq_true E) x rfl z (nb_of D hp) k
theorem oD {H' : Hp} (p' : Pt) (eE : Env) (hs : List Hp) (D : DP) (hD : OpsD X.P X.C D (opsAt p).toList (opsAt p).toList env H eE hs) (k : Ok X p' eE H' t) (h : (drawAt p, Nat.ble (opsAt p).size D.tI, planOk D.S (opsAt p) D.pl, (opsAt p).toList.all (dstOk X.fn.ntmps), lastH H hs) = (some p', true, true, true, H') := by kernel_rfl)
 (hsome:(rdL X.C D (opsAt p).toList eE (H::hs) 0 (opsAt p).toList D.pl).all (λq=>q.1.isSome)=true:=by kernel_rfl) (hq:(rdL X.C D (opsAt p).toList eE (H::hs) 0 (opsAt p).toList D.pl).map (·.1)=(rdL X.C D (opsAt p).toList eE (H::hs) 0 (opsAt p).toList D.pl).map (·.2):=by kernel_rfl):Ok X p env H t:=by
 simp only [Prod.mk.injEq] at h
 obtain ⟨a,b,c,g,j⟩:=h
 exact ok_draw D a b c g hD hsome hq j k
end
theorem oDe {P:Program} {C:Cx} {D:DP} {all l:List Oper} {e:Env} {H:Hp} {hs:List Hp} (f:Bool→Env) {b v:Bool} (h:b=v) (g:OpsD P C D all l (f v) H e hs):OpsD P C D all l (f b) H e hs:=h ▸ g
theorem oDr {P:Program} {C:Cx} {D:DP} {all l:List Oper} {e env:Env} {H:Hp} {a:List Hp} (k n:Nat) (eE:Env) (g:OpsD P C D all (all.drop n) eE H e a) (h:runD C D all k l env H=some (all.drop n,eE,H,[]):=by kernel_rfl):OpsD P C D all l env H e a:=qA7 k (hs:=[]) h g
theorem oDh {P:Program} {C:Cx} {D:DP} {all l:List Oper} {e env:Env} {H:Hp} {a:List Hp} (k n:Nat) (eE:Env) (H':Hp) (hs:List Hp) (g:OpsD P C D all (all.drop n) eE H' e a) (h:runD C D all k l env H=some (all.drop n,eE,H',hs):=by kernel_rfl):OpsD P C D all l env H e (hs++a):=qA7 k h g
structure S7 where
 f0:Int
 f1:Int
 f2:Bool
 f3:Int
structure S28 where
 f0:Int
 f1:LN
 f2:Raw
 f3:Bool
 f4:Bool
 f5:LL
 f6:LL
structure S33 where
 f0:Int
 f1:LN
 f2:Int
abbrev q29 (x:Raw):AV := .vec x.n 7 x.cells
def e2 (x:Int):List AV:=[.int .i64 x]
def v2 (x:Int):AV := .int .i64 x
abbrev w2 (x:List Int):AV := .vec x.length 1 (x.flatMap e2)
def p2:List AV→Option (Int×List AV):=pI .i64
def e3 (x:Int):List AV:=[.int .i64 x]
def v3 (x:Int):AV := .int .i64 x
theorem e3_len:∀ x,(e3 x).length=1:=λ_=>rfl
abbrev w3 (x:List Int):AV := .vec x.length 1 (x.flatMap e3)
def p3:List AV→Option (Int×List AV):=pI .i64
theorem p3_ok (cs:List AV) (x:Int) (r:List AV) (h:p3 cs=some (x,r)):cs=e3 x++r:=pI_ok h
def e4 (x:Bool):List AV:=[.bool x]
abbrev w4 (x:List Bool):AV := .vec x.length 1 (x.flatMap e4)
def p4:List AV→Option (Bool×List AV):=pB
theorem p4_ok (cs:List AV) (x:Bool) (r:List AV) (h:p4 cs=some (x,r)):cs=e4 x++r:=pB_ok h
def e5 (x:Int):List AV:=[.int .u8 x]
abbrev w5 (x:List Int):AV := .vec x.length 1 (x.flatMap e5)
def p5:List AV→Option (Int×List AV):=pI .u8
def e6 (x:Int):List AV:=[.int .u8 x]
def e7 (x:S7):List AV:=[.int .i64 x.f0,.int .i64 x.f1,.bool x.f2,.int .u8 x.f3]
def e8 (x:S7):List AV:=[.int .i64 x.f0,.int .i64 x.f1,.bool x.f2,.int .u8 x.f3]
theorem e8_pur:∀ x,purs (e8 x)=true:=λ_=>rfl
theorem u8 (l:List S7):purs (l.flatMap e8)=true:=qBd e8_pur l
def e9 (x:LN):List AV:=[.str x]
theorem qBx:∀ x,(e9 x).length=1:=λ_=>rfl
theorem e9_pur:∀ x,purs (e9 x)=true:=λ_=>rfl
theorem qNj:∀ x,(e9 x).all one1=true:=λ_=>rfl
abbrev w9 (x:LL):AV := .vec x.length 1 (x.flatMap e9)
def p9:List AV→Option (LN×List AV):=pS
theorem p9_ok (cs:List AV) (x:LN) (r:List AV) (h:p9 cs=some (x,r)):cs=e9 x++r:=pS_ok h
def e22 (x:LL):List AV:=[w9 x]
def v22 (x:LL):AV:=w9 x
def p22:List AV→Option (LL×List AV):=pV p9 1
theorem p22_ok (cs:List AV) (x:LL) (r:List AV) (h:p22 cs=some (x,r)):cs=e22 x++r:=pV_ok p9_ok h
def e34 (x:S33):List AV:=[.int .i64 x.f0,.str x.f1,.int .i64 x.f2]
theorem qAk:∀ x,(e34 x).length=3:=λ_=>rfl
theorem qSe:∀ x,purs (e34 x)=true:=λ_=>rfl
theorem u34 (l:List S33):purs (l.flatMap e34)=true:=qBd qSe l
theorem e34_one:∀ x,(e34 x).all one1=true:=λ_=>rfl
abbrev w34 (x:List S33):AV := .vec x.length 3 (x.flatMap e34)
def e29 (x:S28):List AV:=[.int .i64 x.f0,.str x.f1,q29 x.f2,.bool x.f3,.bool x.f4,w9 x.f5,w9 x.f6]
theorem qA6:∀ x,(e29 x).length=7:=λ_=>rfl
theorem qAh:∀ x,purs (e29 x)=true:=λ_=>rfl
theorem u29 (l:List S28):purs (l.flatMap e29)=true:=qBd qAh l
theorem qAx:∀ x,(e29 x).all one1=true:=λ_=>rfl
abbrev w29 (x:List S28):AV := .vec x.length 7 (x.flatMap e29)
def p29 (cs:List AV):Option (S28×List AV):=(match p3 cs with | none=>none | some (x0,a)=>(match p9 a with | none=>none | some (b,c)=>(match c with | .vec g h j::n=>(if h=7 then (match p4 n with | none=>none | some (o,q)=>(match p4 q with | none=>none | some (u,x)=>(match p22 x with | none=>none | some (z,D)=>(match p22 D with | none=>none | some (E,I)=>some (⟨x0,b,⟨g,j⟩,o,u,z,E⟩,I))))) else none) | _=>none)))
theorem p29_ok (cs:List AV) (x:S28) (r:List AV) (h:p29 cs=some (x,r)):cs=e29 x++r:=by
 unfold p29 at h
 split at h
 ·cases h
 rename_i x0 J a
 have b:=p3_ok _ _ _ a
 split at h
 ·cases h
 rename_i K M c
 have g:=p9_ok _ _ _ c
 split at h
 rotate_left
 ·cases h
 rename_i N O Q S
 split at h
 rotate_left
 ·cases h
 rename_i j; subst j
 split at h
 ·cases h
 rename_i T U n
 have o:=p4_ok _ _ _ n
 split at h
 ·cases h
 rename_i Y Z q
 have u:=p4_ok _ _ _ q
 split at h
 ·cases h
 rename_i x5 r5 z
 have D:=p22_ok _ _ _ z
 split at h
 ·cases h
 rename_i x6 r6 E
 have I:=p22_ok _ _ _ E
 cases h
 try subst I
 try subst D
 try subst u
 try subst o
 try subst g
 try subst b
 rfl
def d29:List AV→Option S28:=pall p29
theorem qSf (cs:List AV) (x:S28) (h:d29 cs=some x):cs=e29 x:=pall_ok p29_ok cs x h
abbrev n8 (x:S7):AV := .agg [.int .i64 x.f0,.int .i64 x.f1,.bool x.f2,.int .u8 x.f3]
abbrev n29 (x:S28):AV := .agg [.int .i64 x.f0,.str x.f1,q29 x.f2,.bool x.f3,.bool x.f4,w9 x.f5,w9 x.f6]
abbrev n34 (x:S33):AV := .agg [.int .i64 x.f0,.str x.f1,.int .i64 x.f2]
def thrown:Value := .iface 72 (.agg #[])
theorem bytes_lt (a:ByteArray):∀ b ∈ a.data.toList.map (·.toNat),b < 256:=by
 intro b hb
 obtain ⟨c,_,rfl⟩:=List.mem_map.1 hb
 exact UInt8.toNat_lt c
theorem fw64 (n:Int) (h1 : -9223372036854775808≤n) (h2:n≤9223372036854775807):fW .i64 n=n:=by
 have h1:lo .i64≤n:=h1
 have h2:n≤hi .i64:=h2
 unfold fW
 rw [if_pos (by simp [h1,h2])]
theorem andI64 (x:Int) (m:Nat) (hm:m≤62):andI .i64 x ((2 ^ m - 1:Nat):Int)=x % ((2 ^ m:Nat):Int):=by
 have hp:2 ^ m≤2 ^ 62:=Nat.pow_le_pow_right (by decide) hm
 have h0:0 < 2 ^ m:=Nat.two_pow_pos m
 have e1:(BitVec.ofInt 64 x).toNat=(x % 18446744073709551616).toNat:=by rw [BitVec.toNat_ofInt]; rfl
 have e2:(BitVec.ofInt 64 ((2 ^ m - 1:Nat):Int)).toNat=2 ^ m - 1:=by
  rw [BitVec.toNat_ofInt]
  omega
 have e3:(((BitVec.ofInt 64 x &&& BitVec.ofInt 64 ((2 ^ m - 1:Nat):Int)).toNat:Nat):Int)=x % ((2 ^ m:Nat):Int):=by
  rw [BitVec.toNat_and,e1,e2,Nat.and_two_pow_sub_one_eq_mod]
  have h1:0≤x % 18446744073709551616:=Int.emod_nonneg _ (by decide)
  have h2:(((x % 18446744073709551616).toNat:Nat):Int)=x % 18446744073709551616:=by omega
  rw [Int.natCast_emod,h2]
  refine Int.emod_emod_of_dvd x ?_
  have:(2:Nat) ^ m ∣ 2 ^ 64:=Nat.pow_dvd_pow 2 (by omega)
  have:=Int.natCast_dvd_natCast.2 this
  exact this
 unfold andI
 show fW .i64 (((BitVec.ofInt 64 x &&& BitVec.ofInt 64 ((2 ^ m - 1:Nat):Int)).toNat:Nat):Int)=_
 rw [e3]
 have h3:0≤x % ((2 ^ m:Nat):Int):=Int.emod_nonneg _ (by omega)
 have h4:x % ((2 ^ m:Nat):Int) < ((2 ^ m:Nat):Int):=Int.emod_lt_of_pos _ (by omega)
 exact fw64 _ (by omega) (by omega)
theorem dT {p:Prop} [Decidable p] (h:p):decide p=true:=decide_eq_true h
theorem dF {p:Prop} [Decidable p] (h:¬ p):decide p=false:=decide_eq_false h
theorem fwI {n:Int} (h1 : -9223372036854775808≤n) (h2:n≤9223372036854775807):fW .i64 n=n:=fw64 n h1 h2
theorem sn {x y:Nat} (h:x=y):some (x:Int)=some (y:Int):=by rw [h]
theorem bS {α β:Type} {x:Option α} {a:α} {f:α→Option β} {r:Option β} (h:x=some a) (k:f a=r):x.bind f=r:=by rw [h]; exact k
theorem jS {α β:Type} {f:α→Option β} {g:(α→Option β)→Option β} {v:α} (h:∀ j:α→Option β,g j=j v):jn f g=f v:=h f
theorem jC {α β:Type} {f:α→Option β} {g:(α→Option β)→Option β} {r:Option β} (h:∀ j:α→Option β,g j=r):jn f g=r:=h f
theorem iT {α:Type} {c:Bool} {A B r:α} (h:c=true) (k:A=r):(if c then A else B)=r:=by rw [h]; exact k
theorem iF {α:Type} {c:Bool} {A B r:α} (h:c=false) (k:B=r):(if c then A else B)=r:=by rw [h]; exact k
theorem fw_s {n:Nat} (h:n < 300000000000000):fW .i64 ((n:Int)+1)=((n+1:Nat):Int):=by rw [fwI (by omega) (by omega)]; omega
theorem fw_a {n m:Nat} (h:n < 300000000000000) (h2:m < 300000000000000):fW .i64 ((n:Int)+(m:Int))=((n+m:Nat):Int):=by rw [fwI (by omega) (by omega)]; omega
theorem fw_d {n m:Nat} (h:m≤n) (h2:n < 300000000000000):fW .i64 ((n:Int) - (m:Int))=((n - m:Nat):Int):=by rw [fwI (by omega) (by omega)]; omega
theorem fw_p {n:Nat} (h2:n < 300000000000000):fW .i64 (((n+1:Nat):Int) - 1)=(n:Int):=by rw [fwI (by omega) (by omega)]; omega
theorem gsL : (∀ (p : Prop) [Decidable p], p → decide p = true) ∧ (∀ (p : Prop) [Decidable p], ¬ p → decide p = false) ∧ (∀ n : Int, -9223372036854775808 ≤ n → n ≤ 9223372036854775807 → fW .i64 n = n) ∧
 (∀ (α β:Type) (a:α) (f:α→Option β),(some a).bind f=f a)∧(∀ (α:Type) (a b:α),(if True then a else b)=a)∧(∀ (α:Type) (a b:α),(if False then a else b)=b)∧(∀ (α:Type) (a:α),(a=a)=True)∧((false=true)=False)∧((!true)=false)∧((!false)=true)∧(decide True=true)∧(decide False=false) ∧
 (∀ b,(true && b)=b)∧(∀ b,(b && true)=b)∧(∀ b,(false && b)=false)∧(∀ b,(b && false)=false)∧(∀ b,(true || b)=true)∧(∀ b,(b || true)=true)∧(∀ b,(false || b)=b)∧(∀ b,(b || false)=b) ∧
 (∀ p:Prop,(p∧p)=p)∧(∀ p:Prop,(p∧True)=p)∧(∀ p:Prop,(True∧p)=p)∧(∀ p:Prop,(p∧False)=False)∧(∀ p:Prop,(False∧p)=False):=by
 refine ⟨λp _ h=>dT h,λp _ h=>dF h,λn h1 h2=>fwI h1 h2,λ_ _ _ _=>rfl,?_,?_,?_,?_,rfl,rfl,rfl,rfl,?_,?_,?_,?_,?_,?_,?_,?_,?_,?_,?_,?_,?_⟩ <;> simp
theorem byteAll {f:Nat→Bool} (h:((List.range 256).all f)=true) {c:Nat} (hc:c < 256):f c=true:=List.all_eq_true.1 h c (List.mem_range.2 hc)
abbrev By (s:LN):Prop := ∀ b ∈ s,b < 256
abbrev Sz (s:LN):Prop:=s.length≤140737488351232
theorem By.drop {s:LN} (h:By s) (n:Nat):By (s.drop n):=λb hb=>h b (List.mem_of_mem_drop hb)
theorem By.take {s:LN} (h:By s) (n:Nat):By (s.take n):=λb hb=>h b (List.mem_of_mem_take hb)
theorem By.app {a b:LN} (ha:By a) (hb:By b):By (a++b):=λc hc=>(List.mem_append.1 hc).elim (ha c) (hb c)
theorem By.tail {c:Nat} {r:LN} (h:By (c::r)):By r:=λb hb=>h b (List.mem_cons_of_mem _ hb)
theorem By.head {c:Nat} {r:LN} (h:By (c::r)):c < 256:=h c List.mem_cons_self
theorem dcons {s:LN} {i:Nat} (h:i < s.length):∃ b r,s.drop i=b::r∧s.drop (i+1)=r∧b ∈ s∧r.length+i+1=s.length:=by
 refine ⟨s[i],s.drop (i+1),List.drop_eq_getElem_cons h,rfl,List.getElem_mem h,?_⟩
 rw [List.length_drop]; omega
theorem dnil {s:LN} {i:Nat} (h:s.length≤i):s.drop i=[]:=List.drop_eq_nil_of_le h
theorem nthX {s:LN} {x:Int} {i b:Nat} {r:LN} (hx:x=(i:Int)) (h:s.drop i=b::r):nthS s x=some (b:Int):=by
 subst hx
 have e:s[i]? = some b:=by
  have:=List.getElem?_drop (xs:=s) (i:=i) (j:=0)
  rw [h] at this
  simpa using this.symm
 unfold nthS
 rw [if_pos (by omega)]
 simp [e]
theorem subTo {s:LN} {x:Int} {i:Nat} (hx:x=(i:Int)) (h:i≤s.length):subL s none (some x)=some (s.take i):=by
 subst hx; unfold subL bnd; simp [h]
theorem subMid {s:LN} {x y:Int} {i j:Nat} (hx:x=(i:Int)) (hy:y=(j:Int)) (h1:i≤j) (h2:j≤s.length):subL s (some x) (some y)=some ((s.take j).drop i):=by
 subst hx hy; unfold subL bnd; simp [h1,h2]
theorem qBr {s:LN} {i c:Nat} {r:LN} (h:s.drop i=c::r):s.drop (i+1)=r:=by
 rw [← List.drop_drop,h]; rfl
theorem qBy {s:LN} {i c:Nat} {r:LN} (h:s.drop i=c::r):r.length+i+1=s.length:=by
 have:=congrArg List.length h
 rw [List.length_drop,List.length_cons] at this; omega
theorem qBj {s:LN} {i c:Nat} {r:LN} (h:s.drop i=c::r):c ∈ s:=List.mem_of_mem_drop (i:=i) (by rw [h]; exact List.mem_cons_self)
end Go.Proofs.Ythpplbkobokghaa.Am
set_option maxRecDepth 100000
set_option linter.unusedVariables false
namespace Go.Proofs.Ythpplbkobokghaa.Am
noncomputable section
open Go
def Xg68:Fx (List LL):=⟨Try.prog,cx,Try.f68,λr => .agg ((r).map v22),0,λ_=>H0,cxTi,cxOrd,λ_=>none,false⟩
def g68c0:LL:=[([61]:LN),([33]:LN)]
def g68c1:LN:=[111,114,101,108,115,101]
def g68c2:LN:=[97,110,100,97,108,115,111]
def g68c3:LL:=[([61,61]:LN),([47,61]:LN),([61,60]:LN),([60]:LN),([62,61]:LN),([62]:LN),([61,58,61]:LN),([61,47,61]:LN)]
def g68c4:LL:=[([43,43]:LN),([45,45]:LN)]
def g68c5:LL:=[([43]:LN),([45]:LN),([98,111,114]:LN),([98,120,111,114]:LN),([98,115,108]:LN),([98,115,114]:LN),([111,114]:LN),([120,111,114]:LN)]
def g68c6:LL:=[([42]:LN),([47]:LN),([100,105,118]:LN),([114,101,109]:LN),([98,97,110,100]:LN),([97,110,100]:LN)]
def g68c7:List LL:=[([([58,58]:LN)]:LL),([([124]:LN)]:LL),g68c0,([g68c1]:LL),([g68c2]:LL),g68c3,g68c4,g68c5,g68c6]
def g68p1:Pt:=nav [0,0,0] (nav [0] (bodyAt Try.f68))
def g68 (k:Nat)  : Option (List LL) :=
 some g68c7
theorem g68_ok (k:Nat)  (r:List LL) (h:g68 k  = some r):PureOk Try.prog 68 [] (.agg ((r).map v22)):=by
 refine qA4 Xg68 (λ_=>⟨rfl,rfl⟩) Try.func68 (by decide +kernel) Kr (t:=g68 k ) ?_ h
 unfold g68
 refine qA (eE:=[]) Kr ?_
 let a:Blk:=⟨[.nils,.nils,.nils,.nils,.nils,.nils,.nils,.nils,.nils],0,false⟩
 refine oH 7 (atN 1 (ctl1 g68p1)) [(1,.slice 1 1 0 1 1),(0,.ptr 0 9 0)] (mkH [a,⟨[.str [58,58]],0,false⟩]) ?_
 refine oZ 1 1 1 1 [.str [58,58]] [0] [] trivial ?_
 refine oH 1 (atN 2 (ctl1 g68p1)) [(2,.slice 2 1 0 1 1),(1,w9 ([([58,58]:LN)]:LL)),(0,.ptr 0 9 0)] (mkH [a,⟨[],0,false⟩,⟨[.str [124]],0,false⟩]) ?_
 refine oZ 2 2 1 1 [.str [124]] [0,1] [] trivial ?_
 refine oH 1 (atN 3 (ctl1 g68p1)) [(3,.slice 3 2 0 2 1),(2,w9 ([([124]:LN)]:LL)),(0,.ptr 0 9 0),(1,w9 ([([58,58]:LN)]:LL))] (mkH [a,⟨[],0,false⟩,⟨[],0,false⟩,⟨[.str [61],.str [33]],0,false⟩]) ?_
 refine oZ 3 3 2 1 [.str [61],.str [33]] [0,1,2] [] trivial ?_
 refine oH 1 (atN 4 (ctl1 g68p1)) [(4,.slice 4 1 0 1 1),(3,w9 g68c0),(0,.ptr 0 9 0),(1,w9 ([([58,58]:LN)]:LL)),(2,w9 ([([124]:LN)]:LL))] (mkH [a,⟨[],0,false⟩,⟨[],0,false⟩,⟨[],0,false⟩,⟨[.str g68c1],0,false⟩]) ?_
 refine oZ 4 4 1 1 [.str g68c1] [0,1,2,3] [] trivial ?_
 refine oH 1 (atN 5 (ctl1 g68p1)) [(5,.slice 5 1 0 1 1),(4,w9 ([g68c1]:LL)),(0,.ptr 0 9 0),(1,w9 ([([58,58]:LN)]:LL)),(2,w9 ([([124]:LN)]:LL)),(3,w9 g68c0)] (mkH [a,⟨[],0,false⟩,⟨[],0,false⟩,⟨[],0,false⟩,⟨[],0,false⟩,⟨[.str g68c2],0,false⟩]) ?_
 refine oZ 5 5 1 1 [.str g68c2] [0,1,2,3,4] [] trivial ?_
 refine oH 1 (atN 6 (ctl1 g68p1)) [(6,.slice 6 8 0 8 1),(5,w9 ([g68c2]:LL)),(0,.ptr 0 9 0),(1,w9 ([([58,58]:LN)]:LL)),(2,w9 ([([124]:LN)]:LL)),(3,w9 g68c0),(4,w9 ([g68c1]:LL))] (mkH [a,⟨[],0,false⟩,⟨[],0,false⟩,⟨[],0,false⟩,⟨[],0,false⟩,⟨[],0,false⟩,⟨[.str [61,61],.str [47,61],.str [61,60],.str [60],.str [62,61],.str [62],.str [61,58,61],.str [61,47,61]],0,false⟩]) ?_
 refine oZ 6 6 8 1 [.str [61,61],.str [47,61],.str [61,60],.str [60],.str [62,61],.str [62],.str [61,58,61],.str [61,47,61]] [0,1,2,3,4,5] [] trivial ?_
 refine oH 1 (atN 7 (ctl1 g68p1)) [(7,.slice 7 2 0 2 1),(6,w9 g68c3),(0,.ptr 0 9 0),(1,w9 ([([58,58]:LN)]:LL)),(2,w9 ([([124]:LN)]:LL)),(3,w9 g68c0),(4,w9 ([g68c1]:LL)),(5,w9 ([g68c2]:LL))] (mkH [a,⟨[],0,false⟩,⟨[],0,false⟩,⟨[],0,false⟩,⟨[],0,false⟩,⟨[],0,false⟩,⟨[],0,false⟩,⟨[.str [43,43],.str [45,45]],0,false⟩]) ?_
 refine oZ 7 7 2 1 [.str [43,43],.str [45,45]] [0,1,2,3,4,5,6] [] trivial ?_
 refine oH 1 (atN 8 (ctl1 g68p1)) [(8,.slice 8 8 0 8 1),(7,w9 g68c4),(0,.ptr 0 9 0),(1,w9 ([([58,58]:LN)]:LL)),(2,w9 ([([124]:LN)]:LL)),(3,w9 g68c0),(4,w9 ([g68c1]:LL)),(5,w9 ([g68c2]:LL)),(6,w9 g68c3)] (mkH [a,⟨[],0,false⟩,⟨[],0,false⟩,⟨[],0,false⟩,⟨[],0,false⟩,⟨[],0,false⟩,⟨[],0,false⟩,⟨[],0,false⟩,⟨[.str [43],.str [45],.str [98,111,114],.str [98,120,111,114],.str [98,115,108],.str [98,115,114],.str [111,114],.str [120,111,114]],0,false⟩]) ?_
 refine oZ 8 8 8 1 [.str [43],.str [45],.str [98,111,114],.str [98,120,111,114],.str [98,115,108],.str [98,115,114],.str [111,114],.str [120,111,114]] [0,1,2,3,4,5,6,7] [] trivial ?_
 refine oH 1 (atN 9 (ctl1 g68p1)) [(9,.slice 9 6 0 6 1),(8,w9 g68c5),(0,.ptr 0 9 0),(1,w9 ([([58,58]:LN)]:LL)),(2,w9 ([([124]:LN)]:LL)),(3,w9 g68c0),(4,w9 ([g68c1]:LL)),(5,w9 ([g68c2]:LL)),(6,w9 g68c3),(7,w9 g68c4)] (mkH [a,⟨[],0,false⟩,⟨[],0,false⟩,⟨[],0,false⟩,⟨[],0,false⟩,⟨[],0,false⟩,⟨[],0,false⟩,⟨[],0,false⟩,⟨[],0,false⟩,⟨[.str [42],.str [47],.str [100,105,118],.str [114,101,109],.str [98,97,110,100],.str [97,110,100]],0,false⟩]) ?_
 refine oZ 9 9 6 1 [.str [42],.str [47],.str [100,105,118],.str [114,101,109],.str [98,97,110,100],.str [97,110,100]] [0,1,2,3,4,5,6,7,8] [] trivial ?_
 exact oQ 4
def Xg50:Fx Int:=⟨Try.prog,cx,Try.f50,λr => .i r,0,λ_=>H0,cxTi,cxOrd,λ_=>none,false⟩
def g50p1:Pt:=nav [0,0,0,0] (nav [0] (bodyAt Try.f50))
def g50p2:Pt:=nav [0,0,0,0] g50p1
def g50p4:Pt:=nav [0,0,0] (nav [0,0] g50p2)
def g50p5:Pt:=nav [1,0,0,0,0] g50p4
def g50p9:Pt:=nav [0,0,0,0] (nav [0,0,0] g50p5)
def g50p11:Pt:=nav [0,0,0] (nav [0,0] g50p9)
def g50p12:Pt:=nav [1,0,0,0,0] g50p11
def g50p13:Pt:=nav [2,0] g50p11
def qEl (k:Nat) (o:Int→Option Int) (a0:LN) (j:List LL) (n:Int) (b:LL) (ih:Int→Int→Int→Option Int):Int→Int→Int→Option Int :=
 λ(a:Int) (c:Int) (g:Int)=>jn (λ(q:Int)=>o (fW .i64 (q+1))) (λu=>if (decide (a < (b.length:Int))) then ((nthL b a).bind λh=>if (eqL h a0) then (some (fW .i64 (c+1))) else (ih (fW .i64 (a+1)) c g)) else (u g))
def qCs (k:Nat) (g:Int→Option Int) (a0:LN) (a:List LL) (b:Int) (c:LL) (n:Nat):Int→Int→Int→Option Int:=lp (λ_ _ _=>none) (qEl k g a0 a b c) n
theorem g50_l4_s (k:Nat) (q:Int→Option Int) (a0:LN) (h:List LL) (j:Int) (a:LL) (n:Nat) (b:Int) (c:Int) (g:Int):qCs k q a0 h j a (n+1) b c g=(jn (λ(u:Int)=>q (fW .i64 (u+1))) (λx=>if (decide (b < (a.length:Int))) then ((nthL a b).bind λo=>if (eqL o a0) then (some (fW .i64 (c+1))) else ((qCs k q a0 h j a n) (fW .i64 (b+1)) c g)) else (x g))):=rfl
theorem qRm (k:Nat)  (u:Int→Option Int) (a0:LN) (c:List LL) (j:Int) (a:LL) (x:∀ (j:Int),Ok Xg50 g50p2 [(0,.str a0),(7,.agg ((c).map v22)),(8,.i j)] (mkH []) (u j)):∀ (n:Nat) (b:Int) (h:Int) (g:Int),Ok Xg50 g50p9 [(0,.str a0),(3,.i h),(7,.agg ((c).map v22)),(8,.i g),(12,w9 a),(13,.i (a.length:Int)),(14,.i b)] (mkH []) (qCs k u a0 c j a n b h g):=by
 intro n
 induction n with
 | zero=>intro b h g; exact ok_none
 | succ n ih =>
  intro b h g
  show Ok _ _ _ _ (qEl k u a0 c j a (qCs k u a0 c j a n) b h g)
  unfold qEl
  refine qAi (p':=nav [0] g50p9) Kr ?_
  let I:Env:=[(15,.bool (decide (b < (a.length:Int)))),(0,.str a0),(3,.i h),(7,.agg ((c).map v22)),(8,.i g),(12,w9 a),(13,.i (a.length:Int)),(14,.i b)]
  refine oH 5 g50p11 I (mkH []) ?_
  refine oJ g50p13 (λ(q:Int)=>[(0,.str a0),(7,.agg ((c).map v22)),(8,.i q)]) (λ(q:Int)=>(mkH [])) (λq=>?_) (λK z=>?_)
  ·refine oLH 4 g50p2 [(0,.str a0),(7,.agg ((c).map v22)),(8,.i (fW .i64 (q+1)))] (mkH []) ?_
   exact x (fW .i64 (q+1))
  ·refine oS 15 (λD=>?_) (λD=>?_)
   ·refine oH 6 (atN 0 (ctl1 g50p12)) ((15,.bool true)::I) (mkH []) ?_
    refine oC (λ(o:LN)=>(.vptr [.str o],(mkH []))) (atN 1 (ctl1 g50p12)) 16 (vidxH (sz:=1) qBx Kr) λo E=>?_
    let J:Env:=[(0,.str a0),(3,.i h),(7,.agg ((c).map v22)),(8,.i g),(12,w9 a),(13,.i (a.length:Int)),(14,.i b),(20,.bool (eqL o a0))]
    refine oLH 9 (nav [0,0] (nav [0,0,0] g50p12)) J (mkH []) ?_
    refine oS 20 (λD=>?_) (λD=>?_)
    ·exact oQ 8
    ·refine oR 6 g50p9 ((14,.i (fW .i64 (b+1)))::(23,.i (fW .i64 (b+1)))::(20,.bool false)::J) ?_
     refine oK [0,3,7,8,12,13,14] [(0,.str a0),(3,.i h),(7,.agg ((c).map v22)),(8,.i g),(12,w9 a),(13,.i (a.length:Int)),(14,.i (fW .i64 (b+1)))] ?_
     exact ih (fW .i64 (b+1)) h g
   ·refine oLH 2 g50p13 [(0,.str a0),(7,.agg ((c).map v22)),(8,.i g)] (mkH []) ?_
    exact z g
def qEm (k:Nat)  (a0:LN) (b:List LL) (ih:Int→Option Int):Int→Option Int :=
 λ(a:Int)=>if (decide (a < 9)) then ((nthA b 9 a).bind λc=>qCs k ih a0 b a c k 0 a a) else (some (0:Int))
def qCt (k:Nat)  (a0:LN) (a:List LL) (n:Nat):Int→Option Int:=lp (λ_=>none) (qEm k a0 a) n
theorem g50_l3_s (k:Nat)  (a0:LN) (b:List LL) (n:Nat) (a:Int):qCt k a0 b (n+1) a=(if (decide (a < 9)) then ((nthA b 9 a).bind λc=>qCs k (qCt k a0 b n) a0 b a c k 0 a a) else (some (0:Int))):=rfl
theorem qRn (k:Nat)   (a0:LN) (b:List LL)  : ∀ (n:Nat) (a:Int),Ok Xg50 g50p2 [(0,.str a0),(7,.agg ((b).map v22)),(8,.i a)] (mkH []) (qCt k a0 b n a):=by
 intro n
 induction n with
 | zero=>intro a; exact ok_none
 | succ n ih =>
  intro a
  show Ok _ _ _ _ (qEm k a0 b (qCt k a0 b n) a)
  unfold qEm
  refine qAi (p':=nav [0] g50p2) Kr ?_
  refine oH 5 g50p4 [(9,.bool (decide (a < 9))),(0,.str a0),(7,.agg ((b).map v22)),(8,.i a)] (mkH []) ?_
  refine oS 9 (λh=>?_) (λh=>?_)
  ·refine oR 7 (atN 1 (ctl1 g50p5)) [(10,.i a),(9,.bool true),(9,.bool (decide (a < 9))),(0,.str a0),(7,.agg ((b).map v22)),(8,.i a)] ?_
   refine oC (λ(c:LL)=>(w9 c,(mkH []))) (atN 2 (ctl1 g50p5)) 11 (aidxH v22 b Kr) λc g=>?_
   refine oLH 11 g50p9 [(0,.str a0),(3,.i a),(7,.agg ((b).map v22)),(8,.i a),(12,w9 c),(13,.i (c.length:Int)),(14,.i 0)] (mkH []) ?_
   exact (qRm k (qCt k a0 b n) a0 b a c ih k) 0 a a
  ·exact oQ 7
def g50 (k:Nat) (a0:LN):Option Int :=
 (g68 k).bind λa=>qCt k a0 a k 0
theorem qHe (k:Nat) (a0:LN) (r:Int) (h:g50 k a0=some r):PureOk Try.prog 50 [.str a0] (.i r):=by
 refine qA4 Xg50 (λ_=>⟨rfl,rfl⟩) Try.func50 (by decide +kernel) Kr (t:=g50 k a0) ?_ h
 unfold g50
 refine qA (eE:=[(0,.str a0)]) Kr ?_
 refine oH 7 (atN 0 (ctl1 g50p1)) [(2,.i 0),(0,.str a0)] (mkH []) ?_
 refine oAp (λ(a:List LL) => .agg ((a).map v22)) (atN 1 (ctl1 g50p1)) 7 [] (λ_=>arr_pur (λ_=>rfl) _) (g68_ok k ) λa b=>?_
 refine oL 4 g50p2 [(0,.str a0),(7,.agg ((a).map v22)),(8,.i 0)] ?_
 exact (qRn k a0 a k) 0
def Xg69:Fx Int:=⟨Try.prog,cx,Try.f69,λr => .i r,0,λ_=>H0,cxTi,cxOrd,λ_=>none,false⟩
def g69c0:List Int:=[(0:Int),(2:Int),(1:Int),(2:Int),(2:Int),(2:Int),(3:Int),(2:Int),(1:Int),(1:Int)]
def g69p1:Pt:=nav [0,0,0] (nav [0] (bodyAt Try.f69))
def g69 (k:Nat) (a0:LN):Option Int :=
 (g50 k a0).bind λa=>(nthA g69c0 10 a).bind λb=>some b
theorem g69_ok (k:Nat) (a0:LN) (r:Int) (h:g69 k a0=some r):PureOk Try.prog 69 [.str a0] (.i r):=by
 refine qA4 Xg69 (λ_=>⟨rfl,rfl⟩) Try.func69 (by decide +kernel) Kr (t:=g69 k a0) ?_ h
 unfold g69
 refine qA (eE:=[(0,.str a0)]) Kr ?_
 refine oH 8 (atN 2 (ctl1 g69p1)) [(4,.str a0),(3,.agg [.i 0,.i 2,.i 1,.i 2,.i 2,.i 2,.i 3,.i 2,.i 1,.i 1]),(2,.i 0),(0,.str a0)] (mkH []) ?_
 refine oA (λ(a:Int) => .i a) (atN 3 (ctl1 g69p1)) 5 [.str a0] (qHe k a0) λa c=>?_
 refine oC (λ(b:Int)=>(.i b,(mkH []))) (atN 4 (ctl1 g69p1)) 6 (aidxH v3 g69c0 Kr) λb g=>?_
 exact oQ 3
def Xg52:Fx Int:=⟨Try.prog,cx,Try.f52,λr => .i r,0,λ_=>H0,cxTi,cxOrd,λ_=>none,false⟩
def g52p1:Pt:=nav [0,0,0,0] (nav [0] (bodyAt Try.f52))
def g52p2:Pt:=nav [0,0] g52p1
def g52p3:Pt:=nav [1,0] g52p2
def g52p4:Pt:=nav [2,0,0] g52p2
def g52 (k:Nat) (a0:LN):Option Int :=
 (g69 k a0).bind λa=>if (decide (1 < a)) then ((g50 k a0).bind λb=>some (fW .i64 (b+1))) else ((g50 k a0).bind λc=>some c)
theorem g52_ok (k:Nat) (a0:LN) (r:Int) (h:g52 k a0=some r):PureOk Try.prog 52 [.str a0] (.i r):=by
 refine qA4 Xg52 (λ_=>⟨rfl,rfl⟩) Try.func52 (by decide +kernel) Kr (t:=g52 k a0) ?_ h
 unfold g52
 refine qA (eE:=[(0,.str a0)]) Kr ?_
 refine oH 8 (atN 1 (ctl1 g52p1)) [(3,.str a0),(2,.i 0),(0,.str a0)] (mkH []) ?_
 refine oA (λ(a:Int) => .i a) (atN 2 (ctl1 g52p1)) 4 [.str a0] (g69_ok k a0) λa g=>?_
 let j:Env:=[(5,.bool (decide (1 < a))),(4,.i a),(3,.str a0),(2,.i 0),(0,.str a0)]
 refine oR 2 g52p2 j ?_
 refine oS 5 (λq=>?_) (λq=>?_)
 ·refine oR 4 (atN 1 (ctl1 g52p3)) ((6,.str a0)::(5,.bool true)::j) ?_
  refine oA (λ(b:Int) => .i b) (atN 2 (ctl1 g52p3)) 7 [.str a0] (qHe k a0) λb n=>?_
  exact oQ 4
 ·refine oR 5 (atN 1 (ctl1 g52p4)) ((9,.str a0)::(5,.bool false)::j) ?_
  refine oA (λ(c:Int) => .i c) (atN 2 (ctl1 g52p4)) 10 [.str a0] (qHe k a0) λc o=>?_
  exact oQ 3
def Xg54:Fx Int:=⟨Try.prog,cx,Try.f54,λr => .i r,0,λ_=>H0,cxTi,cxOrd,λ_=>none,false⟩
def g54p1:Pt:=nav [0,0,0,0] (nav [0] (bodyAt Try.f54))
def g54p2:Pt:=nav [0,0] g54p1
def g54p3:Pt:=nav [1,0] g54p2
def g54p4:Pt:=nav [2,0,0] g54p2
def g54 (k:Nat) (a0:LN):Option Int :=
 (g69 k a0).bind λa=>if (decide (andI .i64 a 1=1)) then ((g50 k a0).bind λb=>some (fW .i64 (b+1))) else ((g50 k a0).bind λc=>some c)
theorem g54_ok (k:Nat) (a0:LN) (r:Int) (h:g54 k a0=some r):PureOk Try.prog 54 [.str a0] (.i r):=by
 refine qA4 Xg54 (λ_=>⟨rfl,rfl⟩) Try.func54 (by decide +kernel) Kr (t:=g54 k a0) ?_ h
 unfold g54
 refine qA (eE:=[(0,.str a0)]) Kr ?_
 refine oH 8 (atN 1 (ctl1 g54p1)) [(3,.str a0),(2,.i 0),(0,.str a0)] (mkH []) ?_
 refine oA (λ(a:Int) => .i a) (atN 2 (ctl1 g54p1)) 4 [.str a0] (g69_ok k a0) λa g=>?_
 let j:Env:=[(6,.bool (decide (andI .i64 a 1=1))),(5,.i (andI .i64 a 1)),(4,.i a),(3,.str a0),(2,.i 0),(0,.str a0)]
 refine oR 3 g54p2 j ?_
 refine oS 6 (λq=>?_) (λq=>?_)
 ·refine oR 4 (atN 1 (ctl1 g54p3)) ((7,.str a0)::(6,.bool true)::j) ?_
  refine oA (λ(b:Int) => .i b) (atN 2 (ctl1 g54p3)) 8 [.str a0] (qHe k a0) λb n=>?_
  exact oQ 4
 ·refine oR 5 (atN 1 (ctl1 g54p4)) ((10,.str a0)::(6,.bool false)::j) ?_
  refine oA (λ(c:Int) => .i c) (atN 2 (ctl1 g54p4)) 11 [.str a0] (qHe k a0) λc o=>?_
  exact oQ 3
def Xg89:Fx Bool:=⟨Try.prog,cx,Try.f89,λr => .bool r,0,λ_=>H0,cxTi,cxOrd,λ_=>none,false⟩
def g89p1:Pt:=nav [0,0,0] (nav [0] (bodyAt Try.f89))
def g89 (k:Nat) (a0:LN) (a:S33):Option Bool :=
 if (decide (0≤a.f2)) then (if (decide (a.f2≤(a0.length:Int))) then (some (decide ((a.f1.length:Int)≤fW .i64 ((a0.length:Int) - a.f2)))) else (some false)) else (some false)
theorem qJq (k:Nat) (a0:LN) (a:S33) (r:Bool) (h:g89 k a0 a=some r):PureOk Try.prog 89 [.str a0,.agg [.i a.f0,.str a.f1,.i a.f2]] (.bool r):=by
 refine qA4 Xg89 (λ_=>⟨rfl,rfl⟩) Try.func89 (by decide +kernel) Kr (t:=g89 k a0 a) ?_ h
 unfold g89
 refine qA (eE:=[(0,.str a0),(1,.agg [.i a.f0,.str a.f1,.i a.f2])]) Kr ?_
 let c:Env:=[(8,.bool (decide (0≤a.f2))),(7,.bool (decide (0≤a.f2))),(6,.i a.f2),(5,.ptr 0 3 2),(4,.bool false),(3,.ptr 0 3 0),(0,.str a0),(1,n34 a)]
 refine oH 11 (atN 4 (ctl1 g89p1)) c (mkH [⟨e34 a,0,false⟩]) ?_
 refine oS 8 (λb=>?_) (λb=>?_)
 ·refine oR 7 (atN 11 (ctl1 g89p1)) ((15,.bool (decide (a.f2≤(a0.length:Int))))::(14,.bool (decide (a.f2≤(a0.length:Int))))::(13,.bool (decide (a.f2≤(a0.length:Int))))::(12,.i (a0.length:Int))::(11,.str a0)::(10,.i a.f2)::(9,.ptr 0 3 2)::(8,.bool true)::c) ?_
  refine oS 15 (λb=>?_) (λb=>?_)
  ·exact oQ 13
  ·exact oQ 13
 ·exact oQ 20
def Xg90:Fx Int:=⟨Try.prog,cx,Try.f90,λr => .i r,0,λ_=>H0,cxTi,cxOrd,λ_=>none,false⟩
def g90 (k:Nat) (a0:S33):Option Int :=
 some (fW .i64 (a0.f2+(a0.f1.length:Int)))
theorem g90_ok (k:Nat) (a0:S33) (r:Int) (h:g90 k a0=some r):PureOk Try.prog 90 [.agg [.i a0.f0,.str a0.f1,.i a0.f2]] (.i r):=by
 refine qA4 Xg90 (λ_=>⟨rfl,rfl⟩) Try.func90 (by decide +kernel) Kr (t:=g90 k a0) ?_ h
 unfold g90
 refine qA (eE:=[(0,.agg [.i a0.f0,.str a0.f1,.i a0.f2])]) Kr ?_
 exact oQ 16
abbrev Ti2:Type:=Int→Int→Option Int
def Xi2 (a0:Int) (a:Int):Fx Int:=⟨Try.prog,cx,Try.f91,λr => .tuple [],1,λr=>(mkH [⟨[.i r],1,false⟩]),cxTi,cxOrd,λ_=>none,false⟩
def Pi2 (f:Ti2):Prop := ∀ a0 a,PNh (Xi2 a0 a) 91 [.y a0,.ptr 0 1 0] (mkH [⟨[.i a],1,false⟩]) (f a0 a)
def i2 (k:Nat) (a0:Int) (a:Int):Option Int :=
 if (decide (a0=10)) then (some (fW .i64 (a+1))) else (some a)
theorem i2_all (k:Nat):∀ a0 a r,i2 k a0 a=some r→CallT Try.prog 91 [.y a0,.ptr 0 1 0] (mkH [⟨[.i a],1,false⟩]) ((Xi2 a0 a).thr r) ((Xi2 a0 a).enc r) ((Xi2 a0 a).fin r):=by
 intro a0 a r h
 refine qA2 (Xi2 a0 a) Try.func91 Kr Kr rfl (t:=i2 k a0 a) ?_ h
 unfold i2
 refine qA (eE:=[(0,.y a0),(1,.ptr 0 1 0)]) Kr ?_
 refine oH 5 (nav [0,0] (nav [0] (bodyAt Try.f91))) [(4,.bool (decide (a0=10))),(3,.y a0),(0,.y a0),(1,.ptr 0 1 0)] (mkH [⟨[.i a],1,false⟩]) ?_
 refine oS 4 (λb=>?_) (λb=>?_)
 ·exact oQF 6 [⟨[.i (fW .i64 (a+1))],1,false⟩] 1 [] [] (.tuple []) .ps trivial
 ·exact oQF 2 [⟨[.i a],1,false⟩] 1 [] [] (.tuple []) .ps trivial
theorem i2_ok (k:Nat):Pi2 (i2 k):=λa0 a=>λx h=>i2_all k a0 a x h
def Xg72:Fx Int:=⟨Try.prog,cx,Try.f72,λr => .i r,0,λ_=>H0,cxTi,cxOrd,λ_=>none,false⟩
def g72p1:Pt:=nav [0,0,0,0] (nav [0] (bodyAt Try.f72))
def g72p2:Pt:=nav [0] g72p1
def g72p7:Pt:=nav [0,0,0,0] (nav [0,0,0] (nav [2,0,0] g72p2))
def g72p8:Pt:=nav [0,0,0,0] g72p7
def g72p9:Pt:=nav [0,0,0] g72p8
def g72p10:Pt:=nav [0,0] g72p9
def g72p11:Pt:=nav [1,0,0,0] g72p10
def g72d0:DP:=⟨[],[(0,0,0),(1,0,0),(3,0,0),(7,0,0),(7,0,0),(23,0,0),(63,0,0),(127,0,0),(255,0,0),(511,0,0),(511,0,0),(511,0,0),(2559,0,0),(7679,0,0),(15871,0,0),(32767,0,0),(65535,0,0),(131071,0,0),(262143,0,0),(524287,0,0),(524287,0,0),(524287,0,0),(3670015,0,0),(7864319,1,1),(16777215,0,0),(33554431,0,0),(67108863,0,0),(134217727,0,0),(268435455,0,0),(268435455,0,0),(805306367,0,0),(2147483647,0,0),(4294967295,2,2),(8589934591,0,0),(268435455,0,0),(268435455,0,0),(51808043007,0,0),(120527519743,0,0),(257966473215,2,3),(549755813887,0,0),(1099511627775,0,0)],41,thrown,[],H0⟩
def qKo (k:Nat)  (a0:LN) (j:List S33) (n:Int) (ih:Int→Int→Option Int):Int→Int→Option Int :=
 λ(a:Int) (b:Int)=>(nthL j n).bind λc=>if (decide (a < c.f2)) then ((nthS a0 a).bind λg=>(i2 k g b).bind λh=>ih (fW .i64 (a+1)) h) else (some b)
def qHd (k:Nat)  (a0:LN) (a:List S33) (b:Int) (n:Nat):Int→Int→Option Int:=lp (λ_ _=>none) (qKo k a0 a b) n
theorem qN5 (k:Nat)  (a0:LN) (j:List S33) (o:Int) (n:Nat) (a:Int) (b:Int):qHd k a0 j o (n+1) a b=((nthL j o).bind λc=>if (decide (a < c.f2)) then ((nthS a0 a).bind λg=>(i2 k g b).bind λh=>(qHd k a0 j o n) (fW .i64 (a+1)) h) else (some b)):=rfl
theorem qRi (k:Nat)   (a0:LN) (j:List S33) (o:Int)  : ∀ (n:Nat) (b:Int) (c:Int),Ok Xg72 g72p8 [(0,.str a0),(1,w34 j),(2,.i o),(7,.ptr 0 1 0),(8,.func 91 [] [.ptr 0 1 0]),(9,.i b)] (mkH [⟨[.i c],1,false⟩]) (qHd k a0 j o n b c):=by
 intro n
 induction n with
 | zero=>intro b c; exact ok_none
 | succ n ih =>
  intro b c
  show Ok _ _ _ _ (qKo k a0 j o (qHd k a0 j o n) b c)
  unfold qKo
  refine qAi (p':=nav [0] g72p8) Kr ?_
  let u:Env:=[(60,.i o),(59,w34 j),(58,.i b),(0,.str a0),(1,w34 j),(2,.i o),(7,.ptr 0 1 0),(8,.func 91 [] [.ptr 0 1 0]),(9,.i b)]
  let q:Blk:=⟨[.i c],1,false⟩
  refine oH 6 (atN 3 (ctl1 g72p9)) u (mkH [q]) ?_
  refine oC (λ(a:S33)=>(.vptr [.i a.f0,.str a.f1,.i a.f2],(mkH [q]))) (atN 4 (ctl1 g72p9)) 61 (vidxH (sz:=3) qAk Kr) λa x=>?_
  refine oH 4 g72p10 ((64,.bool (decide (b < a.f2)))::(63,.i a.f2)::(62,.vptr [.i a.f2])::(61,.vptr [.i a.f0,.str a.f1,.i a.f2])::u) (mkH [q]) ?_
  refine oS 64 (λI=>?_) (λI=>?_)
  ·let E:Env:=((69,.i b)::(68,.str a0)::(67,.func 91 [] [.ptr 0 1 0])::(64,.bool true)::(64,.bool (decide (b < a.f2)))::(63,.i a.f2)::(62,.vptr [.i a.f2])::(61,.vptr [.i a.f0,.str a.f1,.i a.f2])::u)
   refine oR 8 (atN 3 (ctl1 g72p11)) E ?_
   refine oC (λ(g:Int)=>(.y g,(mkH [q]))) (atN 4 (ctl1 g72p11)) 70 (idxH Kr) λg z=>?_
   refine oN (λ(h:Int) => .tuple []) (λh=>[⟨[.i h],1,false⟩]) (atN 5 (ctl1 g72p11)) 71 [0] [] [] [.y g,.ptr 0 1 0] (i2_ok k g c) trivial (λ_=>trivial) λh D=>?_
   refine oR 1 (nav [0,0] g72p11) ((71,.tuple [])::(70,.y g)::E) ?_
   refine oK0 [0,1,2,7,8,9] ?_
   refine oL 5 g72p8 [(0,.str a0),(1,w34 j),(2,.i o),(7,.ptr 0 1 0),(8,.func 91 [] [.ptr 0 1 0]),(9,.i (fW .i64 (b+1)))] ?_
   exact ih (fW .i64 (b+1)) h
  ·exact oQ 8
def g72 (k:Nat) (a0:LN) (b:List S33) (a:Int):Option Int :=
 jn (λ(D:Bool)=>if D then (some (0:Int)) else ((nthL b (fW .i64 (a - 1))).bind λu=>(g90 k u).bind λx=>qHd k a0 b a k x 0)) (λz=>if (decide (a < 1)) then (z true) else (if (decide ((b.length:Int)≤a)) then (z true) else ((nthL b (fW .i64 (a - 1))).bind λc=>(g89 k a0 c).bind λg=>if (!g) then (z true) else ((nthL b a).bind λh=>(g89 k a0 h).bind λj=>if (!j) then (z true) else ((nthL b (fW .i64 (a - 1))).bind λn=>(g90 k n).bind λo=>(nthL b a).bind λq=>z (decide (q.f2 < o)))))))
theorem g72_ok (k:Nat) (a0:LN) (j:List S33) (c:Int) (r:Int) (h:g72 k a0 j c=some r):PureOk Try.prog 72 [.str a0,w34 j,.i c] (.i r):=by
 refine qA4 Xg72 (λ_=>⟨rfl,rfl⟩) Try.func72 (by decide +kernel) Kr (t:=g72 k a0 j c) ?_ h
 unfold g72
 refine qA (eE:=[(0,.str a0),(1,w34 j),(2,.i c)]) Kr ?_
 refine oH 6 g72p1 [(6,.i 0),(0,.str a0),(1,w34 j),(2,.i c)] (mkH []) ?_
 refine oJ g72p2 (λ(z4:Bool)=>[(0,.str a0),(1,w34 j),(2,.i c),(50,.bool z4)]) (λ(z4:Bool)=>(mkH [])) (λz4=>?_) (λj4 T=>?_)
 ·refine oS 50 (λhb=>?_) (λhb=>?_)
  ·exact oQ 6
  ·let E2:Env:=[(54,.i (fW .i64 (c - 1))),(53,.i c),(52,w34 j),(8,.func 91 [] [.ptr 0 1 0]),(51,.func 91 [] [.ptr 0 1 0]),(7,.ptr 0 1 0),(50,.bool false),(0,.str a0),(1,w34 j),(2,.i c),(50,.bool z4)]
   refine oH 18 (atN 3 (ctl1 g72p7)) E2 (mkH [⟨[.i 0],1,false⟩]) ?_
   refine oC (λ(E:S33)=>(.vptr [.i E.f0,.str E.f1,.i E.f2],(mkH [⟨[.i 0],1,false⟩]))) (atN 4 (ctl1 g72p7)) 55 (vidxH (sz:=3) qAk Kr) λE b7=>?_
   refine oH 1 (atN 5 (ctl1 g72p7)) ((56,n34 E)::(55,.vptr [.i E.f0,.str E.f1,.i E.f2])::E2) (mkH [⟨[.i 0],1,false⟩]) ?_
   refine oA (λ(N:Int) => .i N) (atN 6 (ctl1 g72p7)) 57 [n34 E] (g90_ok k E) λN b8=>?_
   refine oL 4 g72p8 [(0,.str a0),(1,w34 j),(2,.i c),(7,.ptr 0 1 0),(8,.func 91 [] [.ptr 0 1 0]),(9,.i N)] ?_
   exact (qRi k a0 j c k) N 0
 ·refine qGn (λS=>?_) (λS=>?_)
  ·let E9:Env:=[(12,.bool (decide (c < 1))),(11,.bool (decide (c < 1))),(10,.i c),(6,.i 0),(0,.str a0),(1,w34 j),(2,.i c)]
   let b1:Env:=[(50,.bool true),(49,.tuple []),(48,.tuple []),(47,.tuple []),(46,.tuple []),(45,.tuple []),(44,.tuple []),(43,.tuple []),(42,.tuple []),(41,.tuple []),(40,.tuple []),(39,.tuple []),(38,.tuple []),(37,.bool true),(36,.bool true),(35,.tuple []),(34,.tuple []),(33,.tuple []),(32,.tuple []),(31,.tuple []),(30,.tuple []),(29,.tuple []),(28,.bool true),(27,.bool true),(26,.tuple []),(25,.tuple []),(24,.tuple []),(23,.tuple []),(22,.tuple []),(21,.tuple []),(20,.tuple []),(19,.tuple []),(18,.bool true),(17,.bool true),(16,.tuple []),(15,.tuple []),(14,.tuple []),(13,.tuple []),(12,.bool true),(11,.bool true),(10,.i c),(6,.i 0),(0,.str a0),(1,w34 j),(2,.i c)]
   refine oD (H':=(mkH [])) (nav [0] g72p1) b1 [(mkH []),(mkH []),(mkH [])] g72d0 (oDr 3 3 E9 (oDe (λz=>[(12,.bool z),(11,.bool z),(10,.i c),(6,.i 0),(0,.str a0),(1,w34 j),(2,.i c)]) S (oDh 38 41 b1 (mkH []) [(mkH []),(mkH []),(mkH [])] .nil))) ?_
   refine oK [0,1,2,50] [(0,.str a0),(1,w34 j),(2,.i c),(50,.bool true)] ?_
   exact T true
  ·refine qGn (λU=>?_) (λU=>?_)
   ·let E9:Env:=[(12,.bool (decide (c < 1))),(11,.bool (decide (c < 1))),(10,.i c),(6,.i 0),(0,.str a0),(1,w34 j),(2,.i c)]
    let M:Env:=[(18,.bool (decide ((j.length:Int)≤c))),(17,.bool (decide ((j.length:Int)≤c))),(16,.bool (decide ((j.length:Int)≤c))),(15,.i (j.length:Int)),(14,w34 j),(13,.i c),(12,.bool false),(11,.bool false),(10,.i c),(6,.i 0),(0,.str a0),(1,w34 j),(2,.i c)]
    let b2:Env:=[(50,.bool true),(49,.tuple []),(48,.tuple []),(47,.tuple []),(46,.tuple []),(45,.tuple []),(44,.tuple []),(43,.tuple []),(42,.tuple []),(41,.tuple []),(40,.tuple []),(39,.tuple []),(38,.tuple []),(37,.bool true),(36,.bool true),(35,.tuple []),(34,.tuple []),(33,.tuple []),(32,.tuple []),(31,.tuple []),(30,.tuple []),(29,.tuple []),(28,.bool true),(27,.bool true),(26,.tuple []),(25,.tuple []),(24,.tuple []),(23,.tuple []),(22,.tuple []),(21,.tuple []),(20,.tuple []),(19,.tuple []),(18,.bool true),(17,.bool true),(16,.bool true),(15,.i (j.length:Int)),(14,w34 j),(13,.i c),(12,.bool false),(11,.bool false),(10,.i c),(6,.i 0),(0,.str a0),(1,w34 j),(2,.i c)]
    refine oD (H':=(mkH [])) (nav [0] g72p1) b2 [(mkH []),(mkH []),(mkH [])] g72d0 (oDr 3 3 E9 (oDe (λz=>[(12,.bool z),(11,.bool z),(10,.i c),(6,.i 0),(0,.str a0),(1,w34 j),(2,.i c)]) S (oDr 6 9 M (oDe (λz=>[(18,.bool z),(17,.bool z),(16,.bool z),(15,.i (j.length:Int)),(14,w34 j),(13,.i c),(12,.bool false),(11,.bool false),(10,.i c),(6,.i 0),(0,.str a0),(1,w34 j),(2,.i c)]) U (oDh 32 41 b2 (mkH []) [(mkH []),(mkH []),(mkH [])] .nil))))) ?_
    refine oK [0,1,2,50] [(0,.str a0),(1,w34 j),(2,.i c),(50,.bool true)] ?_
    exact T true
   ·refine qA9 (λa J=>?_)
    refine qA9 (λg K=>?_)
    refine qGn (λa4=>?_) (λa4=>?_)
    ·let E9:Env:=[(12,.bool (decide (c < 1))),(11,.bool (decide (c < 1))),(10,.i c),(6,.i 0),(0,.str a0),(1,w34 j),(2,.i c)]
     let M:Env:=[(18,.bool (decide ((j.length:Int)≤c))),(17,.bool (decide ((j.length:Int)≤c))),(16,.bool (decide ((j.length:Int)≤c))),(15,.i (j.length:Int)),(14,w34 j),(13,.i c),(12,.bool false),(11,.bool false),(10,.i c),(6,.i 0),(0,.str a0),(1,w34 j),(2,.i c)]
     let u:Env:=[(22,.i (fW .i64 (c - 1))),(21,.i c),(20,w34 j),(19,.str a0),(18,.bool false),(17,.bool false),(16,.bool false),(15,.i (j.length:Int)),(14,w34 j),(13,.i c),(12,.bool false),(11,.bool false),(10,.i c),(6,.i 0),(0,.str a0),(1,w34 j),(2,.i c)]
     let Y:Env:=((28,.bool (!g))::(27,.bool (!g))::(26,.bool (!g))::(25,.bool g)::(24,n34 a)::(23,.vptr [.i a.f0,.str a.f1,.i a.f2])::u)
     let b3:Env:=[(50,.bool true),(49,.tuple []),(48,.tuple []),(47,.tuple []),(46,.tuple []),(45,.tuple []),(44,.tuple []),(43,.tuple []),(42,.tuple []),(41,.tuple []),(40,.tuple []),(39,.tuple []),(38,.tuple []),(37,.bool true),(36,.bool true),(35,.tuple []),(34,.tuple []),(33,.tuple []),(32,.tuple []),(31,.tuple []),(30,.tuple []),(29,.tuple []),(28,.bool true),(27,.bool true),(26,.bool true),(25,.bool g),(24,n34 a),(23,.vptr [.i a.f0,.str a.f1,.i a.f2]),(22,.i (fW .i64 (c - 1))),(21,.i c),(20,w34 j),(19,.str a0),(18,.bool false),(17,.bool false),(16,.bool false),(15,.i (j.length:Int)),(14,w34 j),(13,.i c),(12,.bool false),(11,.bool false),(10,.i c),(6,.i 0),(0,.str a0),(1,w34 j),(2,.i c)]
     refine oD (H':=(mkH [])) (nav [0] g72p1) b3 [(mkH []),(mkH []),(mkH [])] g72d0 (oDr 3 3 E9 (oDe (λz=>[(12,.bool z),(11,.bool z),(10,.i c),(6,.i 0),(0,.str a0),(1,w34 j),(2,.i c)]) S (oDr 6 9 M (oDe (λz=>[(18,.bool z),(17,.bool z),(16,.bool z),(15,.i (j.length:Int)),(14,w34 j),(13,.i c),(12,.bool false),(11,.bool false),(10,.i c),(6,.i 0),(0,.str a0),(1,w34 j),(2,.i c)]) U (oDr 4 13 u (qAb (l':=(opsAt g72p1).toList.drop 14) (eE:=((23,.vptr [.i a.f0,.str a.f1,.i a.f2])::u)) (hs:=[]) (x:=a) (λ(a:S33)=>(.vptr [.i a.f0,.str a.f1,.i a.f2],(mkH []))) (vidxH (sz:=3) qAk Kr) J Kr (oDr 1 15 ((24,n34 a)::(23,.vptr [.i a.f0,.str a.f1,.i a.f2])::u) (qAu (l':=(opsAt g72p1).toList.drop 16) (eE:=((25,.bool g)::(24,n34 a)::(23,.vptr [.i a.f0,.str a.f1,.i a.f2])::u)) (hs:=[(mkH [])]) (fi:=89) (args:=[.str a0,n34 a]) (v := .bool g) Kr Kr Kr (qJq k a0 a g K) Kr (oDr 3 19 Y (oDe (λz=>[(28,.bool z),(27,.bool z),(26,.bool z),(25,.bool g),(24,n34 a),(23,.vptr [.i a.f0,.str a.f1,.i a.f2]),(22,.i (fW .i64 (c - 1))),(21,.i c),(20,w34 j),(19,.str a0),(18,.bool false),(17,.bool false),(16,.bool false),(15,.i (j.length:Int)),(14,w34 j),(13,.i c),(12,.bool false),(11,.bool false),(10,.i c),(6,.i 0),(0,.str a0),(1,w34 j),(2,.i c)]) a4 (oDh 22 41 b3 (mkH []) [(mkH []),(mkH [])] .nil))))))))))) ?_
     refine oK [0,1,2,50] [(0,.str a0),(1,w34 j),(2,.i c),(50,.bool true)] ?_
     exact T true
    ·refine qA9 (λb O=>?_)
     refine qA9 (λo Q=>?_)
     refine qGn (λa8=>?_) (λa8=>?_)
     ·let E9:Env:=[(12,.bool (decide (c < 1))),(11,.bool (decide (c < 1))),(10,.i c),(6,.i 0),(0,.str a0),(1,w34 j),(2,.i c)]
      let M:Env:=[(18,.bool (decide ((j.length:Int)≤c))),(17,.bool (decide ((j.length:Int)≤c))),(16,.bool (decide ((j.length:Int)≤c))),(15,.i (j.length:Int)),(14,w34 j),(13,.i c),(12,.bool false),(11,.bool false),(10,.i c),(6,.i 0),(0,.str a0),(1,w34 j),(2,.i c)]
      let u:Env:=[(22,.i (fW .i64 (c - 1))),(21,.i c),(20,w34 j),(19,.str a0),(18,.bool false),(17,.bool false),(16,.bool false),(15,.i (j.length:Int)),(14,w34 j),(13,.i c),(12,.bool false),(11,.bool false),(10,.i c),(6,.i 0),(0,.str a0),(1,w34 j),(2,.i c)]
      let Y:Env:=((28,.bool (!g))::(27,.bool (!g))::(26,.bool (!g))::(25,.bool g)::(24,n34 a)::(23,.vptr [.i a.f0,.str a.f1,.i a.f2])::u)
      let I:Env:=[(31,.i c),(30,w34 j),(29,.str a0),(28,.bool false),(27,.bool false),(26,.bool false),(25,.bool g),(24,n34 a),(23,.vptr [.i a.f0,.str a.f1,.i a.f2]),(22,.i (fW .i64 (c - 1))),(21,.i c),(20,w34 j),(19,.str a0),(18,.bool false),(17,.bool false),(16,.bool false),(15,.i (j.length:Int)),(14,w34 j),(13,.i c),(12,.bool false),(11,.bool false),(10,.i c),(6,.i 0),(0,.str a0),(1,w34 j),(2,.i c)]
      let a9:Env:=((37,.bool (!o))::(36,.bool (!o))::(35,.bool (!o))::(34,.bool o)::(33,n34 b)::(32,.vptr [.i b.f0,.str b.f1,.i b.f2])::I)
      let b4:Env:=[(50,.bool true),(49,.tuple []),(48,.tuple []),(47,.tuple []),(46,.tuple []),(45,.tuple []),(44,.tuple []),(43,.tuple []),(42,.tuple []),(41,.tuple []),(40,.tuple []),(39,.tuple []),(38,.tuple []),(37,.bool true),(36,.bool true),(35,.bool true),(34,.bool o),(33,n34 b),(32,.vptr [.i b.f0,.str b.f1,.i b.f2]),(31,.i c),(30,w34 j),(29,.str a0),(28,.bool false),(27,.bool false),(26,.bool false),(25,.bool g),(24,n34 a),(23,.vptr [.i a.f0,.str a.f1,.i a.f2]),(22,.i (fW .i64 (c - 1))),(21,.i c),(20,w34 j),(19,.str a0),(18,.bool false),(17,.bool false),(16,.bool false),(15,.i (j.length:Int)),(14,w34 j),(13,.i c),(12,.bool false),(11,.bool false),(10,.i c),(6,.i 0),(0,.str a0),(1,w34 j),(2,.i c)]
      refine oD (H':=(mkH [])) (nav [0] g72p1) b4 [(mkH []),(mkH []),(mkH [])] g72d0 (oDr 3 3 E9 (oDe (λz=>[(12,.bool z),(11,.bool z),(10,.i c),(6,.i 0),(0,.str a0),(1,w34 j),(2,.i c)]) S (oDr 6 9 M (oDe (λz=>[(18,.bool z),(17,.bool z),(16,.bool z),(15,.i (j.length:Int)),(14,w34 j),(13,.i c),(12,.bool false),(11,.bool false),(10,.i c),(6,.i 0),(0,.str a0),(1,w34 j),(2,.i c)]) U (oDr 4 13 u (qAb (l':=(opsAt g72p1).toList.drop 14) (eE:=((23,.vptr [.i a.f0,.str a.f1,.i a.f2])::u)) (hs:=[]) (x:=a) (λ(a:S33)=>(.vptr [.i a.f0,.str a.f1,.i a.f2],(mkH []))) (vidxH (sz:=3) qAk Kr) J Kr (oDr 1 15 ((24,n34 a)::(23,.vptr [.i a.f0,.str a.f1,.i a.f2])::u) (qAu (l':=(opsAt g72p1).toList.drop 16) (eE:=((25,.bool g)::(24,n34 a)::(23,.vptr [.i a.f0,.str a.f1,.i a.f2])::u)) (hs:=[(mkH [])]) (fi:=89) (args:=[.str a0,n34 a]) (v := .bool g) Kr Kr Kr (qJq k a0 a g K) Kr (oDr 3 19 Y (oDe (λz=>[(28,.bool z),(27,.bool z),(26,.bool z),(25,.bool g),(24,n34 a),(23,.vptr [.i a.f0,.str a.f1,.i a.f2]),(22,.i (fW .i64 (c - 1))),(21,.i c),(20,w34 j),(19,.str a0),(18,.bool false),(17,.bool false),(16,.bool false),(15,.i (j.length:Int)),(14,w34 j),(13,.i c),(12,.bool false),(11,.bool false),(10,.i c),(6,.i 0),(0,.str a0),(1,w34 j),(2,.i c)]) a4 (oDr 3 22 I (qAb (l':=(opsAt g72p1).toList.drop 23) (eE:=((32,.vptr [.i b.f0,.str b.f1,.i b.f2])::I)) (hs:=[]) (x:=b) (λ(b:S33)=>(.vptr [.i b.f0,.str b.f1,.i b.f2],(mkH []))) (vidxH (sz:=3) qAk Kr) O Kr (oDr 1 24 ((33,n34 b)::(32,.vptr [.i b.f0,.str b.f1,.i b.f2])::I) (qAu (l':=(opsAt g72p1).toList.drop 25) (eE:=((34,.bool o)::(33,n34 b)::(32,.vptr [.i b.f0,.str b.f1,.i b.f2])::I)) (hs:=[(mkH [])]) (fi:=89) (args:=[.str a0,n34 b]) (v := .bool o) Kr Kr Kr (qJq k a0 b o Q) Kr (oDr 3 28 a9 (oDe (λz=>[(37,.bool z),(36,.bool z),(35,.bool z),(34,.bool o),(33,n34 b),(32,.vptr [.i b.f0,.str b.f1,.i b.f2]),(31,.i c),(30,w34 j),(29,.str a0),(28,.bool false),(27,.bool false),(26,.bool false),(25,.bool g),(24,n34 a),(23,.vptr [.i a.f0,.str a.f1,.i a.f2]),(22,.i (fW .i64 (c - 1))),(21,.i c),(20,w34 j),(19,.str a0),(18,.bool false),(17,.bool false),(16,.bool false),(15,.i (j.length:Int)),(14,w34 j),(13,.i c),(12,.bool false),(11,.bool false),(10,.i c),(6,.i 0),(0,.str a0),(1,w34 j),(2,.i c)]) a8 (oDh 13 41 b4 (mkH []) [(mkH [])] .nil))))))))))))))))) ?_
      refine oK [0,1,2,50] [(0,.str a0),(1,w34 j),(2,.i c),(50,.bool true)] ?_
      exact T true
     ·refine qA9 (λn a5=>?_)
      refine qA9 (λD a6=>?_)
      refine qA9 (λq a7=>?_)
      let E9:Env:=[(12,.bool (decide (c < 1))),(11,.bool (decide (c < 1))),(10,.i c),(6,.i 0),(0,.str a0),(1,w34 j),(2,.i c)]
      let M:Env:=[(18,.bool (decide ((j.length:Int)≤c))),(17,.bool (decide ((j.length:Int)≤c))),(16,.bool (decide ((j.length:Int)≤c))),(15,.i (j.length:Int)),(14,w34 j),(13,.i c),(12,.bool false),(11,.bool false),(10,.i c),(6,.i 0),(0,.str a0),(1,w34 j),(2,.i c)]
      let u:Env:=[(22,.i (fW .i64 (c - 1))),(21,.i c),(20,w34 j),(19,.str a0),(18,.bool false),(17,.bool false),(16,.bool false),(15,.i (j.length:Int)),(14,w34 j),(13,.i c),(12,.bool false),(11,.bool false),(10,.i c),(6,.i 0),(0,.str a0),(1,w34 j),(2,.i c)]
      let Y:Env:=((28,.bool (!g))::(27,.bool (!g))::(26,.bool (!g))::(25,.bool g)::(24,n34 a)::(23,.vptr [.i a.f0,.str a.f1,.i a.f2])::u)
      let I:Env:=[(31,.i c),(30,w34 j),(29,.str a0),(28,.bool false),(27,.bool false),(26,.bool false),(25,.bool g),(24,n34 a),(23,.vptr [.i a.f0,.str a.f1,.i a.f2]),(22,.i (fW .i64 (c - 1))),(21,.i c),(20,w34 j),(19,.str a0),(18,.bool false),(17,.bool false),(16,.bool false),(15,.i (j.length:Int)),(14,w34 j),(13,.i c),(12,.bool false),(11,.bool false),(10,.i c),(6,.i 0),(0,.str a0),(1,w34 j),(2,.i c)]
      let a9:Env:=((37,.bool (!o))::(36,.bool (!o))::(35,.bool (!o))::(34,.bool o)::(33,n34 b)::(32,.vptr [.i b.f0,.str b.f1,.i b.f2])::I)
      let Z:Env:=[(40,.i (fW .i64 (c - 1))),(39,.i c),(38,w34 j),(37,.bool false),(36,.bool false),(35,.bool false),(34,.bool o),(33,n34 b),(32,.vptr [.i b.f0,.str b.f1,.i b.f2]),(31,.i c),(30,w34 j),(29,.str a0),(28,.bool false),(27,.bool false),(26,.bool false),(25,.bool g),(24,n34 a),(23,.vptr [.i a.f0,.str a.f1,.i a.f2]),(22,.i (fW .i64 (c - 1))),(21,.i c),(20,w34 j),(19,.str a0),(18,.bool false),(17,.bool false),(16,.bool false),(15,.i (j.length:Int)),(14,w34 j),(13,.i c),(12,.bool false),(11,.bool false),(10,.i c),(6,.i 0),(0,.str a0),(1,w34 j),(2,.i c)]
      let b0:Env:=((45,.i c)::(44,w34 j)::(43,.i D)::(42,n34 n)::(41,.vptr [.i n.f0,.str n.f1,.i n.f2])::Z)
      let b5:Env:=((50,.bool (decide (q.f2 < D)))::(49,.bool (decide (q.f2 < D)))::(48,.i q.f2)::(47,.vptr [.i q.f2])::(46,.vptr [.i q.f0,.str q.f1,.i q.f2])::b0)
      refine oD (H':=(mkH [])) (nav [0] g72p1) b5 [(mkH []),(mkH []),(mkH [])] g72d0 (oDr 3 3 E9 (oDe (λz=>[(12,.bool z),(11,.bool z),(10,.i c),(6,.i 0),(0,.str a0),(1,w34 j),(2,.i c)]) S (oDr 6 9 M (oDe (λz=>[(18,.bool z),(17,.bool z),(16,.bool z),(15,.i (j.length:Int)),(14,w34 j),(13,.i c),(12,.bool false),(11,.bool false),(10,.i c),(6,.i 0),(0,.str a0),(1,w34 j),(2,.i c)]) U (oDr 4 13 u (qAb (l':=(opsAt g72p1).toList.drop 14) (eE:=((23,.vptr [.i a.f0,.str a.f1,.i a.f2])::u)) (hs:=[]) (x:=a) (λ(a:S33)=>(.vptr [.i a.f0,.str a.f1,.i a.f2],(mkH []))) (vidxH (sz:=3) qAk Kr) J Kr (oDr 1 15 ((24,n34 a)::(23,.vptr [.i a.f0,.str a.f1,.i a.f2])::u) (qAu (l':=(opsAt g72p1).toList.drop 16) (eE:=((25,.bool g)::(24,n34 a)::(23,.vptr [.i a.f0,.str a.f1,.i a.f2])::u)) (hs:=[(mkH [])]) (fi:=89) (args:=[.str a0,n34 a]) (v := .bool g) Kr Kr Kr (qJq k a0 a g K) Kr (oDr 3 19 Y (oDe (λz=>[(28,.bool z),(27,.bool z),(26,.bool z),(25,.bool g),(24,n34 a),(23,.vptr [.i a.f0,.str a.f1,.i a.f2]),(22,.i (fW .i64 (c - 1))),(21,.i c),(20,w34 j),(19,.str a0),(18,.bool false),(17,.bool false),(16,.bool false),(15,.i (j.length:Int)),(14,w34 j),(13,.i c),(12,.bool false),(11,.bool false),(10,.i c),(6,.i 0),(0,.str a0),(1,w34 j),(2,.i c)]) a4 (oDr 3 22 I (qAb (l':=(opsAt g72p1).toList.drop 23) (eE:=((32,.vptr [.i b.f0,.str b.f1,.i b.f2])::I)) (hs:=[]) (x:=b) (λ(b:S33)=>(.vptr [.i b.f0,.str b.f1,.i b.f2],(mkH []))) (vidxH (sz:=3) qAk Kr) O Kr (oDr 1 24 ((33,n34 b)::(32,.vptr [.i b.f0,.str b.f1,.i b.f2])::I) (qAu (l':=(opsAt g72p1).toList.drop 25) (eE:=((34,.bool o)::(33,n34 b)::(32,.vptr [.i b.f0,.str b.f1,.i b.f2])::I)) (hs:=[(mkH [])]) (fi:=89) (args:=[.str a0,n34 b]) (v := .bool o) Kr Kr Kr (qJq k a0 b o Q) Kr (oDr 3 28 a9 (oDe (λz=>[(37,.bool z),(36,.bool z),(35,.bool z),(34,.bool o),(33,n34 b),(32,.vptr [.i b.f0,.str b.f1,.i b.f2]),(31,.i c),(30,w34 j),(29,.str a0),(28,.bool false),(27,.bool false),(26,.bool false),(25,.bool g),(24,n34 a),(23,.vptr [.i a.f0,.str a.f1,.i a.f2]),(22,.i (fW .i64 (c - 1))),(21,.i c),(20,w34 j),(19,.str a0),(18,.bool false),(17,.bool false),(16,.bool false),(15,.i (j.length:Int)),(14,w34 j),(13,.i c),(12,.bool false),(11,.bool false),(10,.i c),(6,.i 0),(0,.str a0),(1,w34 j),(2,.i c)]) a8 (oDr 3 31 Z (qAb (l':=(opsAt g72p1).toList.drop 32) (eE:=((41,.vptr [.i n.f0,.str n.f1,.i n.f2])::Z)) (hs:=[]) (x:=n) (λ(n:S33)=>(.vptr [.i n.f0,.str n.f1,.i n.f2],(mkH []))) (vidxH (sz:=3) qAk Kr) a5 Kr (oDr 1 33 ((42,n34 n)::(41,.vptr [.i n.f0,.str n.f1,.i n.f2])::Z) (qAu (l':=(opsAt g72p1).toList.drop 34) (eE:=((43,.i D)::(42,n34 n)::(41,.vptr [.i n.f0,.str n.f1,.i n.f2])::Z)) (hs:=[(mkH [])]) (fi:=90) (args:=[n34 n]) (v := .i D) Kr Kr Kr (g90_ok k n D a6) Kr (oDr 2 36 b0 (qAb (l':=(opsAt g72p1).toList.drop 37) (eE:=((46,.vptr [.i q.f0,.str q.f1,.i q.f2])::b0)) (hs:=[]) (x:=q) (λ(q:S33)=>(.vptr [.i q.f0,.str q.f1,.i q.f2],(mkH []))) (vidxH (sz:=3) qAk Kr) a7 Kr (oDr 4 41 b5 .nil))))))))))))))))))))))) ?_
      refine oK [0,1,2,50] [(0,.str a0),(1,w34 j),(2,.i c),(50,.bool (decide (q.f2 < D)))] ?_
      exact T (decide (q.f2 < D))
def Xg57:Fx Bool:=⟨Try.prog,cx,Try.f57,λr => .bool r,0,λ_=>H0,cxTi,cxOrd,λ_=>none,false⟩
def g57p1:Pt:=nav [0,0,0] (nav [0] (bodyAt Try.f57))
def g57 (k:Nat) (a0:LN) (b:List S33) (c:Int):Option Bool :=
 (g72 k a0 b c).bind λa=>some (decide (1 < a))
theorem g57_ok (k:Nat) (a0:LN) (a:List S33) (b:Int) (r:Bool) (h:g57 k a0 a b=some r):PureOk Try.prog 57 [.str a0,w34 a,.i b] (.bool r):=by
 refine qA4 Xg57 (λ_=>⟨rfl,rfl⟩) Try.func57 (by decide +kernel) Kr (t:=g57 k a0 a b) ?_ h
 unfold g57
 refine qA (eE:=[(0,.str a0),(1,w34 a),(2,.i b)]) Kr ?_
 refine oH 9 (atN 3 (ctl1 g57p1)) [(9,.i b),(8,w34 a),(7,.str a0),(6,.bool false),(0,.str a0),(1,w34 a),(2,.i b)] (mkH []) ?_
 refine oA (λ(c:Int) => .i c) (atN 4 (ctl1 g57p1)) 10 [.str a0,w34 a,.i b] (g72_ok k a0 a b) λc g=>?_
 exact oQ 4
def Xg65:Fx Int:=⟨Try.prog,cx,Try.f65,λr => .i r,0,λ_=>H0,cxTi,cxOrd,λ_=>none,false⟩
def g65p3:Pt:=nav [0,0] (nav [0,0,0,0,0] (nav [0,0,0,0] (nav [0] (bodyAt Try.f65))))
def g65p4:Pt:=nav [1,0] g65p3
def g65p8:Pt:=nav [0,0] (nav [2,0] g65p3)
def g65 (k:Nat) (a0:LN):Option Int :=
 jn (λ(b:Bool)=>if b then (some (10:Int)) else (some (0:Int))) (λa=>if (eqL a0 [43]) then (a true) else (if (eqL a0 [45]) then (a true) else (if (eqL a0 [110,111,116]) then (a true) else (a (eqL a0 [98,110,111,116])))))
theorem g65_ok (k:Nat) (a0:LN) (r:Int) (h:g65 k a0=some r):PureOk Try.prog 65 [.str a0] (.i r):=by
 refine qA4 Xg65 (λ_=>⟨rfl,rfl⟩) Try.func65 (by decide +kernel) Kr (t:=g65 k a0) ?_ h
 unfold g65
 refine qA (eE:=[(0,.str a0)]) Kr ?_
 let g:Env:=[(4,.bool (eqL a0 [43])),(5,.bool (eqL a0 [43])),(3,.str a0),(2,.i 0),(0,.str a0)]
 refine oH 16 g65p3 g (mkH []) ?_
 refine oJ g65p4 (λ(c:Bool)=>[(4,.bool c)]) (λ(c:Bool)=>(mkH [])) (λc=>?_) (λj a=>?_)
 ·refine oS 4 (λb=>?_) (λb=>?_)
  ·exact oQ 6
  ·exact oQ 7
 ·refine oS 4 (λb=>?_) (λb=>?_)
  ·refine oLH 2 g65p4 [(4,.bool true)] (mkH []) ?_
   exact a true
  ·refine oH 6 g65p8 ((4,.bool (eqL a0 [45]))::(6,.bool (eqL a0 [45]))::(4,.bool false)::g) (mkH []) ?_
   refine oS 4 (λb=>?_) (λb=>?_)
   ·refine oL 2 g65p4 [(4,.bool true)] ?_
    exact a true
   ·refine oL 6 (nav [0,0] (nav [2,0] g65p8)) [(3,.str a0),(4,.bool (eqL a0 [110,111,116]))] ?_
    refine oS 4 (λb=>?_) (λb=>?_)
    ·refine oL 2 g65p4 [(4,.bool true)] ?_
     exact a true
    ·refine oL 5 g65p4 [(4,.bool (eqL a0 [98,110,111,116]))] ?_
     exact a (eqL a0 [98,110,111,116])
def Xg75:Fx Bool:=⟨Try.prog,cx,Try.f75,λr => .bool r,0,λ_=>H0,cxTi,cxOrd,λ_=>none,false⟩
def g75 (k:Nat) (a0:Int):Option Bool :=
 if (decide (1≤a0)) then (some (decide (a0≤7))) else (some false)
theorem g75_ok (k:Nat) (a0:Int) (r:Bool) (h:g75 k a0=some r):PureOk Try.prog 75 [.i a0] (.bool r):=by
 refine qA4 Xg75 (λ_=>⟨rfl,rfl⟩) Try.func75 (by decide +kernel) Kr (t:=g75 k a0) ?_ h
 unfold g75
 refine qA (eE:=[(0,.i a0)]) Kr ?_
 refine oH 9 (atN 3 (ctl1 (nav [0,0,0] (nav [0] (bodyAt Try.f75))))) [(5,.bool (decide (1≤a0))),(4,.bool (decide (1≤a0))),(3,.i a0),(2,.bool false),(0,.i a0)] (mkH []) ?_
 refine oS 5 (λa=>?_) (λa=>?_)
 ·exact oQ 6
 ·exact oQ 6
def Xg85:Fx Bool:=⟨Try.prog,cx,Try.f85,λr => .bool r,0,λ_=>H0,cxTi,cxOrd,λ_=>none,false⟩
def g85p3:Pt:=nav [0,0] (nav [0,0,0,0] (nav [0,0,0,0] (nav [0] (bodyAt Try.f85))))
def g85p4:Pt:=nav [1,0] g85p3
def g85p6:Pt:=nav [0,0,0] g85p4
def g85p7:Pt:=nav [0,0] (nav [2,0,0] g85p3)
def g85p9:Pt:=nav [1,0] g85p7
def g85p13:Pt:=nav [0,0] (nav [2,0] g85p7)
def g85p15:Pt:=nav [0,0] (nav [2,0] g85p13)
def g85p17:Pt:=nav [0,0] (nav [2,0] g85p15)
def g85p19:Pt:=nav [0,0] (nav [2,0] g85p17)
def g85 (k:Nat) (a0:S28):Option Bool :=
 if (decide (a0.f0=1)) then ((nthS a0.f1 0).bind λa=>if (!decide (a=36)) then (if (!decide (a=34)) then (if (decide (a < 48)) then (some true) else (some (decide (57 < a)))) else (some false)) else (some false)) else (jn (λ(c:Bool)=>if c then (some true) else (some false)) (λb=>if (decide (a0.f0=2)) then (b true) else (if (decide (a0.f0=3)) then (b true) else (if (decide (a0.f0=8)) then (b true) else (if (decide (a0.f0=9)) then (b true) else (if (decide (a0.f0=10)) then (b true) else (if (decide (a0.f0=11)) then (b true) else (b (decide (a0.f0=12))))))))))
theorem g85_ok (k:Nat) (a0:S28) (r:Bool) (h:g85 k a0=some r):PureOk Try.prog 85 [.agg [.i a0.f0,.str a0.f1,q29 a0.f2,.bool a0.f3,.bool a0.f4,w9 a0.f5,w9 a0.f6]] (.bool r):=by
 refine qA4 Xg85 (λ_=>⟨rfl,rfl⟩) Try.func85 (by decide +kernel) Kr (t:=g85 k a0) ?_ h
 unfold g85
 refine qA (eE:=[(0,.agg [.i a0.f0,.str a0.f1,q29 a0.f2,.bool a0.f3,.bool a0.f4,w9 a0.f5,w9 a0.f6])]) Kr ?_
 let o:Env:=[(6,.bool (decide (a0.f0=1))),(7,.bool (decide (a0.f0=1))),(5,.i a0.f0),(4,.ptr 0 7 0),(2,.bool false),(1,.ptr 0 7 0),(0,n29 a0)]
 refine oH 17 g85p3 o (mkH [⟨e29 a0,0,false⟩]) ?_
 refine oS 6 (λb=>?_) (λb=>?_)
 ·refine oR 5 (atN 2 (ctl1 g85p4)) ((9,.str a0.f1)::(8,.ptr 0 7 1)::(6,.bool true)::o) ?_
  refine oC (λ(a:Int)=>(.y a,(mkH [⟨e29 a0,0,false⟩]))) (atN 3 (ctl1 g85p4)) 10 (idxH Kr) λa j=>?_
  refine oLH 3 g85p6 [(3,.y a)] (mkH [⟨e29 a0,0,false⟩]) ?_
  refine oR 4 (atN 3 (ctl1 g85p6)) [(13,.bool (!decide (a=36))),(12,.bool (!decide (a=36))),(11,.y a),(3,.y a)] ?_
  refine oS 13 (λb=>?_) (λb=>?_)
  ·let q:Env:=[(17,.bool (!decide (a=34))),(16,.bool (!decide (a=34))),(15,.bool (!decide (a=34))),(14,.y a),(13,.bool true),(13,.bool (!decide (a=36))),(12,.bool (!decide (a=36))),(11,.y a),(3,.y a)]
   refine oR 4 (atN 7 (ctl1 g85p6)) q ?_
   refine oS 17 (λb=>?_) (λb=>?_)
   ·refine oR 3 (atN 10 (ctl1 g85p6)) ((20,.bool (decide (a < 48)))::(19,.bool (decide (a < 48)))::(18,.y a)::(17,.bool true)::q) ?_
    refine oS 20 (λb=>?_) (λb=>?_)
    ·exact oQ 7
    ·exact oQ 7
   ·exact oQ 10
  ·exact oQ 14
 ·refine oL 7 g85p7 [(5,.i a0.f0),(25,.bool (decide (a0.f0=2)))] ?_
  let u:Env:=[(5,.i a0.f0),(25,.bool (decide (a0.f0=2)))]
  refine oJ g85p9 (λ(n:Bool)=>[(25,.bool n)]) (λ(n:Bool)=>(mkH [])) (λn=>?_) (λx c=>?_)
  ·refine oS 25 (λb=>?_) (λb=>?_)
   ·exact oQ 6
   ·exact oQ 7
  ·refine oS 25 (λb=>?_) (λb=>?_)
   ·refine oLH 2 g85p9 [(25,.bool true)] (mkH [⟨e29 a0,0,false⟩]) ?_
    refine qAf [] [⟨e29 a0,0,false⟩] Kr rfl Kr trivial ?_
    exact c true
   ·refine oH 6 g85p13 ((25,.bool (decide (a0.f0=3)))::(27,.bool (decide (a0.f0=3)))::(25,.bool false)::u) (mkH [⟨e29 a0,0,false⟩]) ?_
    refine oS 25 (λb=>?_) (λb=>?_)
    ·refine oL 2 g85p9 [(25,.bool true)] ?_
     refine qAf [] [⟨e29 a0,0,false⟩] Kr rfl Kr trivial ?_
     exact c true
    ·refine oR 6 g85p15 ((25,.bool (decide (a0.f0=8)))::(28,.bool (decide (a0.f0=8)))::(25,.bool false)::(25,.bool (decide (a0.f0=3)))::(27,.bool (decide (a0.f0=3)))::(25,.bool false)::u) ?_
     refine oS 25 (λb=>?_) (λb=>?_)
     ·refine oL 2 g85p9 [(25,.bool true)] ?_
      refine qAf [] [⟨e29 a0,0,false⟩] Kr rfl Kr trivial ?_
      exact c true
     ·refine oL 6 g85p17 [(5,.i a0.f0),(25,.bool (decide (a0.f0=9)))] ?_
      let g:Env:=[(5,.i a0.f0),(25,.bool (decide (a0.f0=9)))]
      refine oS 25 (λb=>?_) (λb=>?_)
      ·refine oL 2 g85p9 [(25,.bool true)] ?_
       refine qAf [] [⟨e29 a0,0,false⟩] Kr rfl Kr trivial ?_
       exact c true
      ·refine oR 6 g85p19 ((25,.bool (decide (a0.f0=10)))::(30,.bool (decide (a0.f0=10)))::(25,.bool false)::g) ?_
       refine oS 25 (λb=>?_) (λb=>?_)
       ·refine oL 2 g85p9 [(25,.bool true)] ?_
        refine qAf [] [⟨e29 a0,0,false⟩] Kr rfl Kr trivial ?_
        exact c true
       ·refine oR 6 (nav [0,0] (nav [2,0] g85p19)) ((25,.bool (decide (a0.f0=11)))::(31,.bool (decide (a0.f0=11)))::(25,.bool false)::(25,.bool (decide (a0.f0=10)))::(30,.bool (decide (a0.f0=10)))::(25,.bool false)::g) ?_
        refine oS 25 (λb=>?_) (λb=>?_)
        ·refine oL 2 g85p9 [(25,.bool true)] ?_
         refine qAf [] [⟨e29 a0,0,false⟩] Kr rfl Kr trivial ?_
         exact c true
        ·refine oL 5 g85p9 [(25,.bool (decide (a0.f0=12)))] ?_
         refine qAf [] [⟨e29 a0,0,false⟩] Kr rfl Kr trivial ?_
         exact c (decide (a0.f0=12))
abbrev Ti9:Type:=LN→(List S33)→Int→Int→Option S33
def Xi9 (a0:LN) (a:List S33) (b:Int) (c:Int):Fx S33:=⟨Try.prog,cx,Try.f49,λr=>n34 r,1,λr=>(mkH [⟨[.str a0,w34 a,.i b,.i c],4,false⟩]),cxTi,cxOrd,λ_=>none,false⟩
def Pi9 (f:Ti9):Prop := ∀ a0 a b c,PNh (Xi9 a0 a b c) 49 [.ptr 0 4 0] (mkH [⟨[.str a0,w34 a,.i b,.i c],4,false⟩]) (f a0 a b c)
def i9p2:Pt:=nav [0,0,0,0] (nav [0,0,0,0] (nav [0] (bodyAt Try.f49)))
def i9p4:Pt:=nav [0,0] (nav [0,0,0] i9p2)
def i9p5:Pt:=nav [1,0,0,0,0] i9p4
def i9p7:Pt:=nav [0,0] i9p5
def i9p9:Pt:=nav [1,0] i9p7
def qQo (k:Nat)  (a0:LN) (g:List S33) (j:Int) (h:Int) (ih:Int→Option S33):Int→Option S33 :=
 λ(a:Int)=>if (decide (a < h)) then ((nthL g a).bind λb=>if (!decide (b.f0=11)) then ((nthL g a).bind λc=>some c) else (ih (fW .i64 (a+1)))) else (some (⟨(0:Int),([]:LN),(0:Int)⟩:S33))
def qOc (k:Nat)  (a0:LN) (a:List S33) (b:Int) (c:Int) (n:Nat):Int→Option S33:=lp (λ_=>none) (qQo k a0 a b c) n
theorem qQn (k:Nat)  (a0:LN) (g:List S33) (j:Int) (h:Int) (n:Nat) (a:Int):qOc k a0 g j h (n+1) a=(if (decide (a < h)) then ((nthL g a).bind λb=>if (!decide (b.f0=11)) then ((nthL g a).bind λc=>some c) else ((qOc k a0 g j h n) (fW .i64 (a+1)))) else (some (⟨(0:Int),([]:LN),(0:Int)⟩:S33))):=rfl
theorem i9_l2_ok (k:Nat) (a0:LN) (g:List S33) (j:Int) (h:Int)    : ∀ (n:Nat) (a:Int),Ok (Xi9 a0 g j h) i9p2 [(0,.ptr 0 4 0),(2,.ptr 1 3 0),(3,.i a)] (mkH [⟨[.str a0,w34 g,.i j,.i h],4,false⟩,⟨[.i 0,.str [],.i 0],0,false⟩]) (qOc k a0 g j h n a):=by
 intro n
 induction n with
 | zero=>intro a; exact ok_none
 | succ n ih =>
  intro a
  show Ok _ _ _ _ (qQo k a0 g j h (qOc k a0 g j h n) a)
  unfold qQo
  refine qAi (p':=nav [0] i9p2) Kr ?_
  let D:Env:=[(13,.bool (decide (a < h))),(12,.i h),(11,.ptr 0 4 3),(10,.ptr 0 4 0),(9,.ptr 0 4 0),(8,.i a),(0,.ptr 0 4 0),(2,.ptr 1 3 0),(3,.i a)]
  let o:Blk:=⟨[.str a0,w34 g,.i j,.i h],4,false⟩
  let q:Blk:=⟨[.i 0,.str [],.i 0],0,false⟩
  refine oH 10 i9p4 D (mkH [o,q]) ?_
  refine oS 13 (λu=>?_) (λu=>?_)
  ·refine oR 11 (atN 5 (ctl1 i9p5)) ((20,.i a)::(19,w34 g)::(18,.ptr 0 4 1)::(17,.ptr 0 4 0)::(16,.ptr 0 4 0)::(13,.bool true)::D) ?_
   refine oC (λ(c:S33)=>(.vptr [.i c.f0,.str c.f1,.i c.f2],(mkH [o,q]))) (atN 6 (ctl1 i9p5)) 21 (vidxH (sz:=3) qAk Kr) λc x=>?_
   refine oLH 4 i9p7 [(0,.ptr 0 4 0),(2,.ptr 1 3 0),(3,.i a),(24,.bool (!decide (c.f0=11)))] (mkH [o,q]) ?_
   refine oS 24 (λu=>?_) (λu=>?_)
   ·refine oR 8 (atN 5 (ctl1 i9p9)) ((29,.i a)::(28,w34 g)::(27,.ptr 0 4 1)::(26,.ptr 0 4 0)::(25,.ptr 0 4 0)::(24,.bool true)::[(0,.ptr 0 4 0),(2,.ptr 1 3 0),(3,.i a),(24,.bool (!decide (c.f0=11)))]) ?_
    refine oC (λ(b:S33)=>(.vptr [.i b.f0,.str b.f1,.i b.f2],(mkH [o,q]))) (atN 6 (ctl1 i9p9)) 30 (vidxH (sz:=3) qAk Kr) λb z=>?_
    exact oQF 4 [o,⟨e34 b,3,false⟩] 1 [] [n34 b] (n34 b) .ps trivial
   ·refine oL 7 i9p2 [(0,.ptr 0 4 0),(2,.ptr 1 3 0),(3,.i (fW .i64 (a+1)))] ?_
    exact ih (fW .i64 (a+1))
  ·exact oQF 8 [o,⟨[.i 0,.str [],.i 0],3,false⟩] 1 [] [.agg [.i 0,.str [],.i 0]] (.agg [.i 0,.str [],.i 0]) .ps trivial
def i9 (k:Nat) (a0:LN) (b:List S33) (a:Int) (c:Int):Option S33 :=
 qOc k a0 b a c k a
theorem i9_all (k:Nat):∀ a0 b a c r,i9 k a0 b a c=some r→CallT Try.prog 49 [.ptr 0 4 0] (mkH [⟨[.str a0,w34 b,.i a,.i c],4,false⟩]) ((Xi9 a0 b a c).thr r) ((Xi9 a0 b a c).enc r) ((Xi9 a0 b a c).fin r):=by
 intro a0 b a c r h
 refine qA2 (Xi9 a0 b a c) Try.func49 Kr Kr rfl (t:=i9 k a0 b a c) ?_ h
 unfold i9
 refine qA (eE:=[(0,.ptr 0 4 0)]) Kr ?_
 refine oLH 15 i9p2 [(0,.ptr 0 4 0),(2,.ptr 1 3 0),(3,.i a)] (mkH [⟨[.str a0,w34 b,.i a,.i c],4,false⟩,⟨[.i 0,.str [],.i 0],0,false⟩]) ?_
 exact (i9_l2_ok k a0 b a c k) a
theorem qOb (k:Nat):Pi9 (i9 k):=λa0 a b c=>λx h=>i9_all k a0 a b c x h
abbrev Ti10:Type:=LN→LN→(List S33)→Int→Int→Option Bool
def Xi10 (a0:LN) (a:LN) (b:List S33) (c:Int) (g:Int):Fx Bool:=⟨Try.prog,cx,Try.f51,λr => .bool r,1,λr=>(mkH [⟨[.str a,w34 b,.i c,.i g],4,false⟩]),cxTi,cxOrd,λ_=>none,false⟩
def Pi10 (f:Ti10):Prop := ∀ a0 a b c g,PNh (Xi10 a0 a b c g) 51 [.ptr 0 4 0,.str a0] (mkH [⟨[.str a,w34 b,.i c,.i g],4,false⟩]) (f a0 a b c g)
def i10p1:Pt:=nav [0,0,0] (nav [0] (bodyAt Try.f51))
def i10p2:Pt:=nav [0,0,0] i10p1
def i10 (k:Nat) (a0:LN) (b:LN) (c:List S33) (g:Int) (h:Int):Option Bool :=
 (i9 k b c g h).bind λa=>if (decide (a.f0=9)) then (some (eqL a.f1 a0)) else (if (decide (a.f0=8)) then (some (eqL a.f1 a0)) else (some false))
theorem i10_all (k:Nat):∀ a0 b c g j r,i10 k a0 b c g j=some r→CallT Try.prog 51 [.ptr 0 4 0,.str a0] (mkH [⟨[.str b,w34 c,.i g,.i j],4,false⟩]) ((Xi10 a0 b c g j).thr r) ((Xi10 a0 b c g j).enc r) ((Xi10 a0 b c g j).fin r):=by
 intro a0 b c g j r h
 refine qA2 (Xi10 a0 b c g j) Try.func51 Kr Kr rfl (t:=i10 k a0 b c g j) ?_ h
 unfold i10
 refine qA (eE:=[(0,.ptr 0 4 0),(1,.str a0)]) Kr ?_
 let n:Blk:=⟨[.str b,w34 c,.i g,.i j],4,false⟩
 refine oH 7 (atN 1 (ctl1 i10p1)) [(6,.ptr 0 4 0),(4,.bool false),(0,.ptr 0 4 0),(1,.str a0)] (mkH [n]) ?_
 refine oN (λ(a:S33)=>n34 a) (λa=>[n]) (atN 2 (ctl1 i10p1)) 7 [0] [] [] [.ptr 0 4 0] (qOb k b c g j) trivial (λ_=>trivial) λa o=>?_
 let u:Env:=[(11,.bool (decide (a.f0=9))),(10,.bool (decide (a.f0=9))),(9,.i a.f0),(8,.ptr 1 3 0),(5,.ptr 1 3 0),(7,n34 a),(6,.ptr 0 4 0),(4,.bool false),(0,.ptr 0 4 0),(1,.str a0)]
 refine oH 9 (atN 4 (ctl1 i10p2)) u (mkH [n,⟨e34 a,3,false⟩]) ?_
 refine oS 11 (λq=>?_) (λq=>?_)
 ·exact oQF 13 [n,⟨e34 a,3,false⟩] 1 [] [.bool (eqL a.f1 a0)] (.bool (eqL a.f1 a0)) .ps trivial
 ·refine oR 5 (atN 9 (ctl1 i10p2)) ((16,.bool (decide (a.f0=8)))::(15,.bool (decide (a.f0=8)))::(14,.bool (decide (a.f0=8)))::(13,.i a.f0)::(12,.ptr 1 3 0)::(11,.bool false)::u) ?_
  refine oS 16 (λq=>?_) (λq=>?_)
  ·exact oQF 8 [n,⟨e34 a,3,false⟩] 1 [] [.bool (eqL a.f1 a0)] (.bool (eqL a.f1 a0)) .ps trivial
  ·exact oQF 8 [n,⟨e34 a,3,false⟩] 1 [] [.bool false] (.bool false) .ps trivial
theorem qJp (k:Nat):Pi10 (i10 k):=λa0 a b c g=>λx h=>i10_all k a0 a b c g x h
abbrev Ti15:Type:=LN→(List S33)→Int→Int→Option Bool
def Xi15 (a0:LN) (a:List S33) (b:Int) (c:Int):Fx Bool:=⟨Try.prog,cx,Try.f71,λr => .bool r,1,λr=>(mkH [⟨[.str a0,w34 a,.i b,.i c],4,false⟩]),cxTi,cxOrd,λ_=>none,false⟩
def Pi15 (f:Ti15):Prop := ∀ a0 a b c,PNh (Xi15 a0 a b c) 71 [.ptr 0 4 0] (mkH [⟨[.str a0,w34 a,.i b,.i c],4,false⟩]) (f a0 a b c)
def i15p1:Pt:=nav [0,0,0] (nav [0] (bodyAt Try.f71))
def i15d0:DP:=⟨[],[(0,0,0),(1,0,0),(3,0,0),(7,0,0),(0,0,0),(16,0,0),(48,0,0),(112,0,0),(255,0,0),(511,0,0),(1023,0,0),(2047,0,0),(4095,0,0),(8191,0,0),(1023,0,0),(17407,0,0),(50175,0,0),(115711,0,0),(262143,0,0),(524287,0,0),(1048575,0,0),(2097151,0,0),(4194303,0,0),(8388607,0,0)],24,thrown,[],H0⟩
def i15 (k:Nat) (a0:LN) (c:List S33) (b:Int) (g:Int):Option Bool :=
 if (decide (b < g)) then ((nthL c b).bind λa=>some (decide (a.f0=11))) else (some false)
theorem i15_all (k:Nat):∀ a0 g b c r,i15 k a0 g b c=some r→CallT Try.prog 71 [.ptr 0 4 0] (mkH [⟨[.str a0,w34 g,.i b,.i c],4,false⟩]) ((Xi15 a0 g b c).thr r) ((Xi15 a0 g b c).enc r) ((Xi15 a0 g b c).fin r):=by
 intro a0 g b c r h
 refine qA2 (Xi15 a0 g b c) Try.func71 Kr Kr rfl (t:=i15 k a0 g b c) ?_ h
 unfold i15
 refine qA (eE:=[(0,.ptr 0 4 0)]) Kr ?_
 let o:Blk:=⟨[.str a0,w34 g,.i b,.i c],4,false⟩
 refine oH 5 i15p1 [(2,.bool false),(0,.ptr 0 4 0)] (mkH [o]) ?_
 refine qGn (λn=>?_) (λn=>?_)
 ·refine qA9 (λa j=>?_)
  let q:Env:=[(12,.bool (decide (b < c))),(11,.bool (decide (b < c))),(10,.i c),(9,.ptr 0 4 3),(8,.ptr 0 4 0),(7,.ptr 0 4 0),(6,.i b),(5,.ptr 0 4 2),(4,.ptr 0 4 0),(3,.ptr 0 4 0),(2,.bool false),(0,.ptr 0 4 0)]
  let u:Env:=[(20,.i b),(19,.ptr 0 4 2),(18,.ptr 0 4 0),(17,.ptr 0 4 0),(16,w34 g),(15,.ptr 0 4 1),(14,.ptr 0 4 0),(13,.ptr 0 4 0),(12,.bool true),(11,.bool true),(10,.i c),(9,.ptr 0 4 3),(8,.ptr 0 4 0),(7,.ptr 0 4 0),(6,.i b),(5,.ptr 0 4 2),(4,.ptr 0 4 0),(3,.ptr 0 4 0),(2,.bool false),(0,.ptr 0 4 0)]
  let D:Env:=((2,.bool (decide (a.f0=11)))::(25,.bool (decide (a.f0=11)))::(24,.bool (decide (a.f0=11)))::(23,.i a.f0)::(22,.vptr [.i a.f0,.str a.f1,.i a.f2])::(21,.vptr [.i a.f0,.str a.f1,.i a.f2])::u)
  refine oD (H':=(mkH [o])) (nav [0] i15p1) D [] i15d0 (oDr 10 10 q (oDe (λz=>[(12,.bool z),(11,.bool z),(10,.i c),(9,.ptr 0 4 3),(8,.ptr 0 4 0),(7,.ptr 0 4 0),(6,.i b),(5,.ptr 0 4 2),(4,.ptr 0 4 0),(3,.ptr 0 4 0),(2,.bool false),(0,.ptr 0 4 0)]) n (oDr 8 18 u (qAb (l':=(opsAt i15p1).toList.drop 19) (eE:=((21,.vptr [.i a.f0,.str a.f1,.i a.f2])::u)) (hs:=[]) (x:=a) (λ(a:S33)=>(.vptr [.i a.f0,.str a.f1,.i a.f2],(mkH [o]))) (vidxH (sz:=3) qAk Kr) j Kr (oDr 5 24 D .nil))))) ?_
  exact oQF 1 [o] 1 [] [.bool (decide (a.f0=11))] (.bool (decide (a.f0=11))) .ps trivial
 ·let q:Env:=[(12,.bool (decide (b < c))),(11,.bool (decide (b < c))),(10,.i c),(9,.ptr 0 4 3),(8,.ptr 0 4 0),(7,.ptr 0 4 0),(6,.i b),(5,.ptr 0 4 2),(4,.ptr 0 4 0),(3,.ptr 0 4 0),(2,.bool false),(0,.ptr 0 4 0)]
  let E:Env:=[(2,.bool false),(25,.bool false),(24,.tuple []),(23,.tuple []),(22,.tuple []),(21,.tuple []),(20,.tuple []),(19,.tuple []),(18,.tuple []),(17,.tuple []),(16,.tuple []),(15,.tuple []),(14,.tuple []),(13,.tuple []),(12,.bool false),(11,.bool false),(10,.i c),(9,.ptr 0 4 3),(8,.ptr 0 4 0),(7,.ptr 0 4 0),(6,.i b),(5,.ptr 0 4 2),(4,.ptr 0 4 0),(3,.ptr 0 4 0),(2,.bool false),(0,.ptr 0 4 0)]
  refine oD (H':=(mkH [o])) (nav [0] i15p1) E [] i15d0 (oDr 10 10 q (oDe (λz=>[(12,.bool z),(11,.bool z),(10,.i c),(9,.ptr 0 4 3),(8,.ptr 0 4 0),(7,.ptr 0 4 0),(6,.i b),(5,.ptr 0 4 2),(4,.ptr 0 4 0),(3,.ptr 0 4 0),(2,.bool false),(0,.ptr 0 4 0)]) n (oDr 14 24 E .nil))) ?_
  exact oQF 1 [o] 1 [] [.bool false] (.bool false) .ps trivial
theorem qR9 (k:Nat):Pi15 (i15 k):=λa0 a b c=>λx h=>i15_all k a0 a b c x h
abbrev Ti27:Type:=Option (Option Unit)
def Xi27  : Fx (Option Unit):=⟨Try.prog,cx,Try.f88,λr=>match r with | some r => .tuple [] | none => .top,0,λr=>match r with | some r=>(mkH []) | none=>(mkH []),cxTi,cxOrd,λr=>match r with | some _=>none | none=>some (thrown,[]),false⟩
def Pi27 (f:Ti27):Prop:=PQh Xi27 88 [] (f )
def i27 (k:Nat)  : Option (Option Unit) :=
 some none
theorem qR5 (k:Nat):∀  r,i27 k  = some r→CallT Try.prog 88 [] (mkH []) (Xi27.thr r) (Xi27.enc r) (Xi27.fin r):=by
 intro  r h
 refine qA2 Xi27 Try.func88 Kr Kr rfl (t:=i27 k ) ?_ h
 unfold i27
 refine qA (eE:=[]) Kr ?_
 refine oH 3 (atN 2 (ctl1 (nav [] (bodyAt Try.f88)))) [(1,.iface 72 (.agg [])),(0,.agg [])] (mkH []) ?_
 exact ok_panic (LX:=[]) (L:=[]) rfl rfl rfl Kr rfl trivial Kr
theorem i27_ok (k:Nat):Pi27 (i27 k):=⟨λx h=>qR5 k  (some x) h,λh=>⟨_,qR5 k  none h⟩⟩
abbrev Ti16:Type:=Bool→Option (Option Unit)
def Xi16 (a0:Bool):Fx (Option Unit):=⟨Try.prog,cx,Try.f70,λr=>match r with | some r => .tuple [] | none => .top,0,λr=>match r with | some r=>(mkH []) | none=>(mkH []),cxTi,cxOrd,λr=>match r with | some _=>none | none=>some (thrown,[]),false⟩
def Pi16 (f:Ti16):Prop := ∀ a0,PQh (Xi16 a0) 70 [.bool a0] (f a0)
def i16p1:Pt:=nav [0,0] (nav [0] (bodyAt Try.f70))
def i16p2:Pt:=nav [1] i16p1
def i16 (k:Nat) (a0:Bool):Option (Option Unit) :=
 if (!a0) then (bT (i27 k) λa=>some (some ())) else (some (some ()))
theorem qR8 (k:Nat):∀ a0 r,i16 k a0=some r→CallT Try.prog 70 [.bool a0] (mkH []) ((Xi16 a0).thr r) ((Xi16 a0).enc r) ((Xi16 a0).fin r):=by
 intro a0 r h
 refine qA2 (Xi16 a0) Try.func70 Kr Kr rfl (t:=i16 k a0) ?_ h
 unfold i16
 refine qA (eE:=[(0,.bool a0)]) Kr ?_
 refine oH 5 i16p1 [(3,.bool (!a0)),(2,.bool a0),(0,.bool a0)] (mkH []) ?_
 refine oS 3 (λc=>?_) (λc=>?_)
 ·refine oR 2 (atN 0 (ctl1 i16p2)) [(3,.bool true),(3,.bool (!a0)),(2,.bool a0),(0,.bool a0)] ?_
  refine oX (λ(a:Unit) => .tuple []) (λa=>[]) (atN 1 (ctl1 i16p2)) 4 [] [] [] [] [] [] (i27_ok k) trivial (λ_=>trivial) trivial λa b=>?_
  exact oQF 1 [] 0 [] [] (.tuple []) .ps trivial
 ·exact oQF 2 [] 0 [] [] (.tuple []) .ps trivial
theorem qDh (k:Nat):Pi16 (i16 k):=λa0=>⟨λx h=>qR8 k a0 (some x) h,λh=>⟨_,qR8 k a0 none h⟩⟩
abbrev Ti11:Type:=LN→(List S33)→Int→Int→Option (Option Int)
def Xi11 (a0:LN) (a:List S33) (c:Int) (b:Int):Fx (Option Int):=⟨Try.prog,cx,Try.f53,λr=>match r with | some r => .tuple [] | none => .top,1,λr=>match r with | some r=>(mkH [⟨[.str a0,w34 a,.i r,.i b],4,false⟩]) | none=>(mkH [⟨[.str a0,w34 a,.i c,.i b],4,false⟩]),cxTi,cxOrd,λr=>match r with | some _=>none | none=>some (thrown,[]),false⟩
def Pi11 (f:Ti11):Prop := ∀ a0 a b c,PQh (Xi11 a0 a b c) 53 [.ptr 0 4 0] (f a0 a b c)
def i11p0:Pt:=nav [0] (bodyAt Try.f53)
def i11d0:DP:=⟨[],[(0,0,0),(1,0,0),(3,0,0),(7,0,0),(0,0,0),(16,0,0),(48,0,0),(112,0,0),(255,0,0),(511,0,0),(1023,0,0),(2047,0,0),(4095,0,0),(8191,0,0),(16383,0,0)],15,thrown,[],H0⟩
def i11 (k:Nat) (a0:LN) (j:List S33) (c:Int) (g:Int):Option (Option Int) :=
 jn (λ(n:Unit)=>some (some (fW .i64 (c+1)))) (λh=>if (decide (c < g)) then ((i15 k a0 j c g).bind λa=>bT (i16 k (!a)) λb=>h ()) else (bT (i16 k false) λb=>h ()))
theorem qRc (k:Nat):∀ a0 q c g r,i11 k a0 q c g=some r→CallT Try.prog 53 [.ptr 0 4 0] (mkH [⟨[.str a0,w34 q,.i c,.i g],4,false⟩]) ((Xi11 a0 q c g).thr r) ((Xi11 a0 q c g).enc r) ((Xi11 a0 q c g).fin r):=by
 intro a0 q c g r h
 refine qA2 (Xi11 a0 q c g) Try.func53 Kr Kr rfl (t:=i11 k a0 q c g) ?_ h
 unfold i11
 refine qA (eE:=[(0,.ptr 0 4 0)]) Kr ?_
 let b:Blk:=⟨[.str a0,w34 q,.i c,.i g],4,false⟩
 refine oH 1 i11p0 [(0,.ptr 0 4 0)] (mkH [b]) ?_
 refine oJ (nav [0] i11p0) (λ(K:Unit)=>[(0,.ptr 0 4 0)]) (λ(K:Unit)=>(mkH [b])) (λK=>?_) (λN J=>?_)
 ·exact oQF 10 [⟨[.str a0,w34 q,.i (fW .i64 (c+1)),.i g],4,false⟩] 1 [] [] (.tuple []) .ps trivial
 ·refine qGn (λu=>?_) (λu=>?_)
  ·refine qA9 (λa o=>?_)
   refine qCp (λh=>?_) (λn j=>?_)
   ·let E:Env:=[(11,.bool (decide (c < g))),(10,.bool (decide (c < g))),(9,.i g),(8,.ptr 0 4 3),(7,.ptr 0 4 0),(6,.ptr 0 4 0),(5,.i c),(4,.ptr 0 4 2),(3,.ptr 0 4 0),(2,.ptr 0 4 0),(0,.ptr 0 4 0)]
    let x:Env:=[(12,.ptr 0 4 0),(11,.bool true),(10,.bool true),(9,.i g),(8,.ptr 0 4 3),(7,.ptr 0 4 0),(6,.ptr 0 4 0),(5,.i c),(4,.ptr 0 4 2),(3,.ptr 0 4 0),(2,.ptr 0 4 0),(0,.ptr 0 4 0)]
    exact qAo (eE:=((16,.top)::(15,.bool (!a))::(14,.bool (!a))::(13,.bool a)::x)) (i11d0.th 14 thrown [] (mkH [b])) (hs:=[(mkH [b]),(mkH [b])]) (LX:=[b]) (L:=[b]) rfl rfl rfl Kr rfl ⟨.inr ⟨rfl,rfl,by kernel_rfl⟩,trivial⟩ Kr Kr Kr Kr (qA7 10 (l':=(opsAt i11p0).toList.drop 10) (eE:=E) (H':=(mkH [b])) (hs:=[]) Kr (oDe (λz=>[(11,.bool z),(10,.bool z),(9,.i g),(8,.ptr 0 4 3),(7,.ptr 0 4 0),(6,.ptr 0 4 0),(5,.i c),(4,.ptr 0 4 2),(3,.ptr 0 4 0),(2,.ptr 0 4 0),(0,.ptr 0 4 0)]) u (qA7 1 (l':=(opsAt i11p0).toList.drop 11) (eE:=x) (H':=(mkH [b])) (hs:=[]) Kr (qA5 (l':=(opsAt i11p0).toList.drop 12) (eE:=((13,.bool a)::x)) (hs:=[(mkH [b])]) (H':=(mkH [b])) (fi:=71) (args:=[.ptr 0 4 0]) (v := .bool a) Kr (frC (rs:=[0]) (ms:=[]) (ms':=[]) (qR9 k a0 q c g a o) trivial trivial Kr) Kr (qA7 2 (l':=(opsAt i11p0).toList.drop 14) (eE:=((15,.bool (!a))::(14,.bool (!a))::(13,.bool a)::x)) (H':=(mkH [b])) (hs:=[]) Kr (qAn (l':=(opsAt i11p0).toList.drop 15) (eE:=((16,.top)::(15,.bool (!a))::(14,.bool (!a))::(13,.bool a)::x)) (hs:=[(mkH [b])]) (fi:=70) (args:=[.bool (!a)]) Kr Kr (frS 0 (M:=[b]) (rs:=[]) (ms:=[]) (mv:=[]) (mm:=[]) (D:=[]) (xs':=[.bool (!a)]) (.refl) ((qDh k (!a)).2 h) trivial trivial Kr) Kr (.nil))))))) Kr Kr
   ·let E:Env:=[(11,.bool (decide (c < g))),(10,.bool (decide (c < g))),(9,.i g),(8,.ptr 0 4 3),(7,.ptr 0 4 0),(6,.ptr 0 4 0),(5,.i c),(4,.ptr 0 4 2),(3,.ptr 0 4 0),(2,.ptr 0 4 0),(0,.ptr 0 4 0)]
    let x:Env:=[(12,.ptr 0 4 0),(11,.bool true),(10,.bool true),(9,.i g),(8,.ptr 0 4 3),(7,.ptr 0 4 0),(6,.ptr 0 4 0),(5,.i c),(4,.ptr 0 4 2),(3,.ptr 0 4 0),(2,.ptr 0 4 0),(0,.ptr 0 4 0)]
    refine oD (H':=(mkH [b])) (nav [0] i11p0) ((16,.tuple [])::(15,.bool (!a))::(14,.bool (!a))::(13,.bool a)::x) [(mkH [b]),(mkH [b])] i11d0 (oDr 10 10 E (oDe (λz=>[(11,.bool z),(10,.bool z),(9,.i g),(8,.ptr 0 4 3),(7,.ptr 0 4 0),(6,.ptr 0 4 0),(5,.i c),(4,.ptr 0 4 2),(3,.ptr 0 4 0),(2,.ptr 0 4 0),(0,.ptr 0 4 0)]) u (oDr 1 11 x (qA5 (l':=(opsAt i11p0).toList.drop 12) (eE:=((13,.bool a)::x)) (hs:=[(mkH [b])]) (H':=(mkH [b])) (fi:=71) (args:=[.ptr 0 4 0]) (v := .bool a) Kr (frC (rs:=[0]) (ms:=[]) (ms':=[]) (qR9 k a0 q c g a o) trivial trivial Kr) Kr (oDr 2 14 ((15,.bool (!a))::(14,.bool (!a))::(13,.bool a)::x) (qA5 (l':=(opsAt i11p0).toList.drop 15) (eE:=((16,.tuple [])::(15,.bool (!a))::(14,.bool (!a))::(13,.bool a)::x)) (hs:=[(mkH [b])]) (H':=(mkH [b])) (fi:=70) (args:=[.bool (!a)]) (v := .tuple []) Kr (frC (rs:=[]) (ms:=[]) (ms':=[]) ((qDh k (!a)).1 n j) trivial trivial Kr) Kr .nil)))))) ?_
    refine oK [0] [(0,.ptr 0 4 0)] ?_
    exact J ()
  ·refine qCp (λh=>?_) (λn j=>?_)
   ·let E:Env:=[(11,.bool (decide (c < g))),(10,.bool (decide (c < g))),(9,.i g),(8,.ptr 0 4 3),(7,.ptr 0 4 0),(6,.ptr 0 4 0),(5,.i c),(4,.ptr 0 4 2),(3,.ptr 0 4 0),(2,.ptr 0 4 0),(0,.ptr 0 4 0)]
    let I:Env:=[(15,.bool false),(14,.tuple []),(13,.tuple []),(12,.tuple []),(11,.bool false),(10,.bool false),(9,.i g),(8,.ptr 0 4 3),(7,.ptr 0 4 0),(6,.ptr 0 4 0),(5,.i c),(4,.ptr 0 4 2),(3,.ptr 0 4 0),(2,.ptr 0 4 0),(0,.ptr 0 4 0)]
    exact qAo (eE:=((16,.top)::I)) (i11d0.th 14 thrown [] (mkH [b])) (hs:=[(mkH [b]),(mkH [b])]) (LX:=[b]) (L:=[b]) rfl rfl rfl Kr rfl ⟨.inr ⟨rfl,rfl,by kernel_rfl⟩,trivial⟩ Kr Kr Kr Kr (qA7 10 (l':=(opsAt i11p0).toList.drop 10) (eE:=E) (H':=(mkH [b])) (hs:=[]) Kr (oDe (λz=>[(11,.bool z),(10,.bool z),(9,.i g),(8,.ptr 0 4 3),(7,.ptr 0 4 0),(6,.ptr 0 4 0),(5,.i c),(4,.ptr 0 4 2),(3,.ptr 0 4 0),(2,.ptr 0 4 0),(0,.ptr 0 4 0)]) u (qA7 4 (l':=(opsAt i11p0).toList.drop 14) (eE:=I) (H':=(mkH [b])) (hs:=[(mkH [b])]) Kr (qAn (l':=(opsAt i11p0).toList.drop 15) (eE:=((16,.top)::I)) (hs:=[(mkH [b])]) (fi:=70) (args:=[.bool false]) Kr Kr (frS 0 (M:=[b]) (rs:=[]) (ms:=[]) (mv:=[]) (mm:=[]) (D:=[]) (xs':=[.bool false]) (.refl) ((qDh k false).2 h) trivial trivial Kr) Kr (.nil))))) Kr Kr
   ·let E:Env:=[(11,.bool (decide (c < g))),(10,.bool (decide (c < g))),(9,.i g),(8,.ptr 0 4 3),(7,.ptr 0 4 0),(6,.ptr 0 4 0),(5,.i c),(4,.ptr 0 4 2),(3,.ptr 0 4 0),(2,.ptr 0 4 0),(0,.ptr 0 4 0)]
    let I:Env:=[(15,.bool false),(14,.tuple []),(13,.tuple []),(12,.tuple []),(11,.bool false),(10,.bool false),(9,.i g),(8,.ptr 0 4 3),(7,.ptr 0 4 0),(6,.ptr 0 4 0),(5,.i c),(4,.ptr 0 4 2),(3,.ptr 0 4 0),(2,.ptr 0 4 0),(0,.ptr 0 4 0)]
    refine oD (H':=(mkH [b])) (nav [0] i11p0) ((16,.tuple [])::I) [(mkH [b]),(mkH [b])] i11d0 (oDr 10 10 E (oDe (λz=>[(11,.bool z),(10,.bool z),(9,.i g),(8,.ptr 0 4 3),(7,.ptr 0 4 0),(6,.ptr 0 4 0),(5,.i c),(4,.ptr 0 4 2),(3,.ptr 0 4 0),(2,.ptr 0 4 0),(0,.ptr 0 4 0)]) u (oDh 4 14 I (mkH [b]) [(mkH [b])] (qA5 (l':=(opsAt i11p0).toList.drop 15) (eE:=((16,.tuple [])::I)) (hs:=[(mkH [b])]) (H':=(mkH [b])) (fi:=70) (args:=[.bool false]) (v := .tuple []) Kr (frC (rs:=[]) (ms:=[]) (ms':=[]) ((qDh k false).1 n j) trivial trivial Kr) Kr .nil)))) ?_
    refine oK [0] [(0,.ptr 0 4 0)] ?_
    exact J ()
theorem qH9 (k:Nat):Pi11 (i11 k):=λa0 a b c=>⟨λx h=>qRc k a0 a b c (some x) h,λh=>⟨_,qRc k a0 a b c none h⟩⟩
abbrev Ri12:Type:=(LL×Int)
abbrev Ti12:Type:=LN→(List S33)→Int→Int→Option Ri12
def Xi12 (a0:LN) (a:List S33) (c:Int) (b:Int):Fx Ri12:=⟨Try.prog,cx,Try.f58,λr=>w9 r.1,1,λr=>(mkH [⟨[.str a0,w34 a,.i r.2,.i b],4,false⟩]),cxTi,cxOrd,λ_=>none,false⟩
def Pi12 (f:Ti12):Prop := ∀ a0 a b c,PNh (Xi12 a0 a b c) 58 [.ptr 0 4 0] (mkH [⟨[.str a0,w34 a,.i b,.i c],4,false⟩]) (f a0 a b c)
def i12p1:Pt:=nav [0,0,0] (nav [0] (bodyAt Try.f58))
def i12p2:Pt:=nav [0,0,0,0,0] i12p1
def i12p3:Pt:=nav [0,0,0] i12p2
end
end Go.Proofs.Ythpplbkobokghaa.Am
