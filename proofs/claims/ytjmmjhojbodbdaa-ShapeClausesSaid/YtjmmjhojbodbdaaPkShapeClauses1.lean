/- LawShapeClauses, part 1: whatever the input, the law comes out true: our texts, joined by a tool, without what the claim does not name. -/
import Derived.Orders
import Derived.LoopN
import Derived.Below
import Derived.Laws.IdiomCopy
import Derived.Laws.Cells
import Derived.Laws.Entries
import Derived.ChangeKeysEq
import Derived.Laws.StructEq
import Derived.Laws.BytesArg
import Derived.Deep.AppendSrc
import Derived.Lib.UnsafeStr
import Derived.ScopeJumps
set_option maxRecDepth 100000
set_option linter.unusedVariables false
set_option linter.unusedSimpArgs false
namespace Go.Proofs.Ytjmmjhojbodbdaa.Am
open Go
abbrev LN:=List Nat
abbrev LL:=List (List Nat)
theorem Kr {p:Prop} (h:p:=by kernel_rfl):p:=h
inductive AV where
 | top
 | int (k:IntKind) (n:Int)
 | resid (k:IntKind) (q r:Nat)
 | bool (b:Bool)
 | str (s:LN)
 | nilp
 | ptr (r v off:Nat)
 | nils
 | slice (r v off len sz:Nat)
 | agg (xs:List AV)
 | tuple (xs:List AV)
 | func (f:Nat) (first caps:List AV)
 | nilf
 | mapp (b:Nat)
 | iface (t:Nat) (v:AV)
 | nili
 | vec (n sz:Nat) (cells:List AV)
 | vptr (cells:List AV)
 | own (r len sz:Nat)
 | optp (s:Bool) (r v off:Nat)
 | odat (t r len sz:Nat)
 | tptr (t n r v off:Nat)
 | ownt (t r len sz:Nat)
 deriving Inhabited
structure Blk where
 cells:List AV
 minv:Nat
 ro:Bool
inductive PT (α:Type) where
 | nil
 | node (l:PT α) (b:Option α) (r:PT α)
noncomputable def PT.get {α:Type} (t:PT α):Nat→Option α :=
 PT.rec (motive:=λ_=>Nat→Option α) (λ_=>none) (λ_ b _ gl gr n=>Bool.rec (motive:=λ_=>Option α) (Bool.rec (motive:=λ_=>Option α) (gl (Nat.shiftRight n 1)) (gr (Nat.sub (Nat.shiftRight n 1) 1)) (Nat.beq (Nat.land n 1) 0)) b (Nat.beq n 0)) t
def PT.left {α : Type} : PT α → PT α
 | .nil => .nil
 | .node l _ _=>l
def PT.right {α : Type} : PT α → PT α
 | .nil => .nil
 | .node _ _ r=>r
def PT.mid {α : Type} : PT α → Option α
 | .nil=>none
 | .node _ b _=>b
noncomputable def PT.set {α:Type} (k:Nat):PT α→Nat→α→PT α :=
 Nat.rec (motive := λ_ => PT α → Nat → α → PT α) (λt _ _ => t)
  (λ_ ih t n x=>Bool.rec (motive:=λ_=>PT α) (Bool.rec (motive:=λ_=>PT α) (.node (ih t.left (Nat.shiftRight n 1) x) t.mid t.right) (.node t.left t.mid (ih t.right (Nat.sub (Nat.shiftRight n 1) 1) x)) (Nat.beq (Nat.land n 1) 0)) (.node t.left (some x) t.right) (Nat.beq n 0)) k
abbrev Tr:=PT Blk
theorem PT.get_nil {α:Type} (n:Nat):(PT.nil:PT α).get n=none:=rfl
theorem PT.get_node {α:Type} (l:PT α) (b:Option α) (r:PT α) (n:Nat):(PT.node l b r).get n=if n=0 then b else if n % 2=1 then l.get (n / 2) else r.get (n / 2 - 1):=by
 show (Bool.rec (motive:=λ_=>Option α) (Bool.rec (motive:=λ_=>Option α) (l.get (Nat.shiftRight n 1)) (r.get (Nat.sub (Nat.shiftRight n 1) 1)) (Nat.beq (Nat.land n 1) 0)) b (Nat.beq n 0))=_
 have c:Nat.land n 1=n % 2:=Nat.and_one_is_mod n
 have g:Nat.shiftRight n 1=n / 2:=rfl
 rw [c,g]
 by_cases a:n=0
 ·subst a; rfl
 ·have h:Nat.beq n 0=false:=by cases n with | zero=>exact absurd rfl a | succ n=>rfl
  rw [h,if_neg a]
  by_cases hm:n % 2=1
  ·rw [hm,if_pos rfl]; rfl
  ·have:n % 2=0:=by omega
   rw [this,if_neg (by omega)]; rfl
theorem PT.get_parts {α:Type} (t:PT α) (n:Nat):t.get n=if n=0 then t.mid else if n % 2=1 then t.left.get (n / 2) else t.right.get (n / 2 - 1):=by
 cases t with
 | nil =>
  simp only [PT.mid,PT.left,PT.right,PT.get_nil]
  split
  ·rfl
  ·split <;> rfl
 | node l b r=>exact PT.get_node l b r n
theorem PT.set_succ {α:Type} (k:Nat) (t:PT α) (n:Nat) (x:α):PT.set (k+1) t n x=if n=0 then .node t.left (some x) t.right else if n % 2=1 then .node (PT.set k t.left (n / 2) x) t.mid t.right else .node t.left t.mid (PT.set k t.right (n / 2 - 1) x):=by
 show (Bool.rec (motive:=λ_=>PT α) (Bool.rec (motive:=λ_=>PT α) (.node (PT.set k t.left (Nat.shiftRight n 1) x) t.mid t.right) (.node t.left t.mid (PT.set k t.right (Nat.sub (Nat.shiftRight n 1) 1) x)) (Nat.beq (Nat.land n 1) 0)) (PT.node t.left (some x) t.right) (Nat.beq n 0))=_
 have b:Nat.land n 1=n % 2:=Nat.and_one_is_mod n
 have c:Nat.shiftRight n 1=n / 2:=rfl
 rw [b,c]
 by_cases a:n=0
 ·subst a; rfl
 ·have g:Nat.beq n 0=false:=by cases n with | zero=>exact absurd rfl a | succ n=>rfl
  rw [g,if_neg a]
  by_cases hm:n % 2=1
  ·rw [hm,if_pos rfl]; rfl
  ·have:n % 2=0:=by omega
   rw [this,if_neg (by omega)]; rfl
def roots:Nat:=2 ^ 40
def depth:Nat:=41
theorem PT.get_set_eq {α : Type} : ∀ (k : Nat) (t : PT α) (n : Nat) (x : α), n + 1 < 2 ^ k → (PT.set k t n x).get n = some x
 | 0,_,n,_,h=>by simp at h
 | k+1,t,n,x,h=>by
  have ih:=λt m hm=>PT.get_set_eq k t m x hm
  have c:(2:Nat) ^ (k+1)=2 * 2 ^ k:=by rw [Nat.pow_succ]; omega
  rw [c] at h
  rw [PT.set_succ]
  by_cases a:n=0
  ·rw [if_pos a,PT.get_node,if_pos a]
  ·rw [if_neg a]
   by_cases b:n % 2=1
   ·rw [if_pos b,PT.get_node,if_neg a,if_pos b]; exact ih _ _ (by omega)
   ·rw [if_neg b,PT.get_node,if_neg a,if_neg b]; exact ih _ _ (by omega)
theorem PT.get_set_ne {α : Type} : ∀ (k : Nat) (t : PT α) (n m : Nat) (x : α), n ≠ m → (PT.set k t n x).get m = t.get m
 | 0,_,_,_,_,_=>rfl
 | k+1,t,n,m,x,h=>by
  have ih:=λt n m hm=>PT.get_set_ne k t n m x hm
  rw [PT.set_succ,PT.get_parts t m]
  by_cases a:n=0
  ·rw [if_pos a,PT.get_node]
   have m0:m ≠ 0:=by omega
   rw [if_neg m0,if_neg m0]
  ·rw [if_neg a]
   by_cases b:n % 2=1
   ·rw [if_pos b,PT.get_node]
    by_cases m0:m=0
    ·rw [if_pos m0,if_pos m0]
    ·rw [if_neg m0,if_neg m0]
     by_cases m1:m % 2=1
     ·rw [if_pos m1,if_pos m1]; exact ih _ _ _ (by omega)
     ·rw [if_neg m1,if_neg m1]
   ·rw [if_neg b,PT.get_node]
    by_cases m0:m=0
    ·rw [if_pos m0,if_pos m0]
    ·rw [if_neg m0,if_neg m0]
     by_cases m1:m % 2=1
     ·rw [if_pos m1,if_pos m1]
     ·rw [if_neg m1,if_neg m1]; exact ih _ _ _ (by omega)
noncomputable abbrev Tr.set (k:Nat) (t:Tr) (n:Nat) (x:Blk):Tr:=PT.set k t n x
noncomputable abbrev Tr.get (t:Tr) (n:Nat):Option Blk:=PT.get t n
theorem Tr.get_set_eq (k:Nat) (t:Tr) (n:Nat) (x:Blk) (h:n+1 < 2 ^ k):(Tr.set k t n x).get n=some x:=PT.get_set_eq k t n x h
theorem Tr.get_set_ne (k:Nat) (t:Tr) (n m:Nat) (x:Blk) (h:n ≠ m):(Tr.set k t n x).get m=t.get m:=PT.get_set_ne k t n m x h
structure Hp where
 next:Nat
 t:Tr
structure Mp where
 map:Nat→Nat→Option (Nat×Nat)
 froz:Nat→Option (Nat×List AV)
 tys:Nat→Option Nat
instance:CoeFun Mp (λ_=>Nat→Nat→Option (Nat×Nat)):=⟨Mp.map⟩
def Mp.still (m:Mp):Mp:=⟨λ_ _=>none,m.froz,λ_=>none⟩
mutual
def VR (m : Mp) : AV → Value → Prop
 | .top,_=>True
 | .int k n,c=>c = .int k n
 | .resid k q r,c => ∃ n:Int,c = .int k n∧(n % 18446744073709551616) % q=r∧(k = .u64→0≤n∧n < 18446744073709551616)
 | .bool b,c=>c = .bool b
 | .str s,c => ∃ t:ByteArray,c = .string t∧t.data.toList.map (·.toNat)=s
 | .nilp,c=>c = .pointer none
 | .ptr r v off,c => ∃ B N,m r v=some (B,N)∧c = .pointer (some ⟨B,off,none⟩)
 | .nils,c=>c = .slice none 0 0
 | .slice r v off len sz,c => ∃ B N cap,m r v=some (B,N)∧off+len * sz≤v∧len≤cap∧off+cap * sz≤N∧c = .slice (some ⟨B,off,none⟩) len cap
 | .agg xs,c => ∃ ys,c = .agg ys∧VRs m xs ys.toList
 | .tuple xs,c => ∃ ys,c = .tuple ys∧VRs m xs ys.toList
 | .func f a b,c => ∃ ys zs,c = .func (.func f) ys zs∧VRs m a ys.toList∧VRs m b zs.toList
 | .nilf,c=>c = .nilFunc
 | .mapp b,c=>c = .map (some b)
 | .iface t v,c => ∃ d,c = .iface t d∧VR m v d
 | .nili,c=>c = .nilIface
 | .vec n sz cells,c=>cells.length=n * sz∧∃ a cap,c = .slice a n cap∧n≤cap∧(a=none→n=0∧cap=0)∧(0 < n→∃ id B off all,m.froz id=some (B,all)∧a=some ⟨B,off,none⟩∧(all.drop off).take (n * sz)=cells∧off+n * sz≤all.length)
 | .vptr cells,c => ∃ id B off all,m.froz id=some (B,all)∧c = .pointer (some ⟨B,off,none⟩)∧(all.drop off).take cells.length=cells∧off+cells.length≤all.length
 | .own r len sz,c=>(len=0∧c = .slice none 0 0)∨∃ B N cap,m r (len * sz)=some (B,N)∧len≤cap∧cap * sz≤N∧c = .slice (some ⟨B,0,none⟩) len cap
 | .optp s r v off,c=>(s=false∧c = .pointer none)∨(s=true∧∃ B N,m r v=some (B,N)∧c = .pointer (some ⟨B,off,none⟩))
 | .odat t r len sz,c=>(len=0∧c = .pointer none)∨∃ B N,m r (len * sz)=some (B,N)∧m.tys B=some t∧len * sz≤N∧c = .pointer (some ⟨B,0,none⟩)
 | .tptr t n r v off,c => ∃ B,m r v=some (B,n)∧m.tys B=some t∧c = .pointer (some ⟨B,off,none⟩)
 | .ownt t r len sz,c=>(len=0∧c = .slice none 0 0)∨∃ B N cap,m r (len * sz)=some (B,N)∧m.tys B=some t∧len≤cap∧cap * sz≤N∧0 < cap∧c = .slice (some ⟨B,0,none⟩) len cap
def VRs (m : Mp) : List AV → List Value → Prop
 | [],l=>l=[]
 | x::xs,l => ∃ y ys,l=y::ys∧VR m x y∧VRs m xs ys
end
structure Sub (m m':Mp):Prop where
 a:∀ r v p,m r v=some p→m' r v=some p
 b:∀ i p,m.froz i=some p→m'.froz i=some p
 c:∀ B t,m.tys B=some t→m'.tys B=some t
theorem Sub.refl (m:Mp):Sub m m:=⟨λ_ _ _ h=>h,λ_ _ h=>h,λ_ _ h=>h⟩
theorem qHj (m:Mp):Sub m.still m:=⟨λ_ _ _ h=>(by cases h),λ_ _ h=>h,λ_ _ h=>(by cases h)⟩
theorem still_mono {m m':Mp} (h:Sub m m'):Sub m.still m'.still:=⟨λ_ _ _ h=>(by cases h),h.2,λ_ _ h=>h⟩
theorem Sub.trans {m m' m'':Mp} (h:Sub m m') (k:Sub m' m''):Sub m m'':=⟨λr v p e=>k.1 r v p (h.1 r v p e),λi p e=>k.2 i p (h.2 i p e),λB t e=>k.3 B t (h.3 B t e)⟩
mutual
theorem VR.mono {m m' : Mp} (h : Sub m m') : ∀ (x : AV) (c : Value), VR m x c → VR m' x c
 | .top,_,_=>by simp only [VR]
 | .int ..,_,e=>by simpa only [VR] using e
 | .resid ..,_,e=>by simpa only [VR] using e
 | .bool _,_,e=>by simpa only [VR] using e
 | .str _,_,e=>by simpa only [VR] using e
 | .nilp,_,e=>by simpa only [VR] using e
 | .nils,_,e=>by simpa only [VR] using e
 | .nilf,_,e=>by simpa only [VR] using e
 | .mapp _,_,e=>by simpa only [VR] using e
 | .nili,_,e=>by simpa only [VR] using e
 | .ptr r v off,c,e=>by
  simp only [VR] at e ⊢
  obtain ⟨B,N,g,j⟩:=e
  exact ⟨B,N,h.1 _ _ _ g,j⟩
 | .slice r v off len sz,c,e=>by
  simp only [VR] at e ⊢
  obtain ⟨B,N,cap,g,j⟩:=e
  exact ⟨B,N,cap,h.1 _ _ _ g,j⟩
 | .agg xs,c,e=>by
  simp only [VR] at e ⊢
  obtain ⟨ys,g,j⟩:=e
  exact ⟨ys,g,VRs.mono h xs _ j⟩
 | .tuple xs,c,e=>by
  simp only [VR] at e ⊢
  obtain ⟨ys,g,j⟩:=e
  exact ⟨ys,g,VRs.mono h xs _ j⟩
 | .func f a b,c,e=>by
  simp only [VR] at e ⊢
  obtain ⟨ys,zs,g,j,k⟩:=e
  exact ⟨ys,zs,g,VRs.mono h a _ j,VRs.mono h b _ k⟩
 | .iface t v,c,e=>by
  simp only [VR] at e ⊢
  obtain ⟨d,g,j⟩:=e
  exact ⟨d,g,VR.mono h v _ j⟩
 | .vec n sz cells,c,e=>by
  simp only [VR] at e ⊢
  obtain ⟨l,a,cap,g,j,k,o⟩:=e
  exact ⟨l,a,cap,g,j,k,λu=>let ⟨i,B,off,all,q,r⟩:=o u; ⟨i,B,off,all,h.2 _ _ q,r⟩⟩
 | .vptr cells,c,e=>by
  simp only [VR] at e ⊢
  obtain ⟨i,B,off,all,q,r⟩:=e
  exact ⟨i,B,off,all,h.2 _ _ q,r⟩
 | .own r len sz,c,e=>by
  simp only [VR] at e ⊢
  rcases e with e | ⟨B,N,cap,g,j⟩
  ·exact .inl e
  ·exact .inr ⟨B,N,cap,h.1 _ _ _ g,j⟩
 | .optp s r v off,c,e=>by
  simp only [VR] at e ⊢
  rcases e with e | ⟨e,B,N,g,j⟩
  ·exact .inl e
  ·exact .inr ⟨e,B,N,h.1 _ _ _ g,j⟩
 | .odat t r len sz,c,e=>by
  simp only [VR] at e ⊢
  rcases e with e | ⟨B,N,g,j,k⟩
  ·exact .inl e
  ·exact .inr ⟨B,N,h.1 _ _ _ g,h.3 _ _ j,k⟩
 | .ownt t r len sz,c,e=>by
  simp only [VR] at e ⊢
  rcases e with e | ⟨B,N,cap,g,j,k⟩
  ·exact .inl e
  ·exact .inr ⟨B,N,cap,h.1 _ _ _ g,h.3 _ _ j,k⟩
 | .tptr t n r v off,c,e=>by
  simp only [VR] at e ⊢
  obtain ⟨B,g,j,k⟩:=e
  exact ⟨B,h.1 _ _ _ g,h.3 _ _ j,k⟩
theorem VRs.mono {m m' : Mp} (h : Sub m m') : ∀ (xs : List AV) (cs : List Value), VRs m xs cs → VRs m' xs cs
 | [],_,e=>by simpa only [VRs] using e
 | x::xs,cs,e=>by
  simp only [VRs] at e ⊢
  obtain ⟨y,ys,rfl,g,j⟩:=e
  exact ⟨y,ys,rfl,VR.mono h x y g,VRs.mono h xs ys j⟩
end
theorem VRs.length {m : Mp} : ∀ {xs : List AV} {cs : List Value}, VRs m xs cs → xs.length = cs.length
 | [],_,h=>by simp only [VRs] at h; subst h; rfl
 | x::xs,cs,h=>by
  simp only [VRs] at h
  obtain ⟨y,ys,rfl,_,a⟩:=h
  simp [VRs.length a]
theorem VRs.get {m : Mp} : ∀ {xs : List AV} {cs : List Value}, VRs m xs cs → ∀ (i : Nat) (x : AV), xs[i]? = some x → ∃ c, cs[i]? = some c ∧ VR m x c
 | [],_,_,i,x,e=>by simp at e
 | x::xs,cs,h,i,z,e=>by
  simp only [VRs] at h
  obtain ⟨y,ys,rfl,a,b⟩:=h
  cases i with
  | zero=>simp at e; subst e; exact ⟨y,by simp,a⟩
  | succ i=>simp at e; obtain ⟨c,hc,hv⟩:=VRs.get b i z e; exact ⟨c,by simpa using hc,hv⟩
theorem VRs.take {m : Mp} : ∀ {xs : List AV} {cs : List Value} (n : Nat), VRs m xs cs → VRs m (xs.take n) (cs.take n)
 | [],cs,n,h=>by simp only [VRs] at h; subst h; simp [VRs]
 | x::xs,cs,n,h=>by
  simp only [VRs] at h
  obtain ⟨y,ys,rfl,a,b⟩:=h
  cases n with
  | zero=>simp [VRs]
  | succ n=>simp only [List.take_succ_cons,VRs]; exact ⟨y,_,rfl,a,VRs.take n b⟩
theorem VRs.drop {m : Mp} : ∀ {xs : List AV} {cs : List Value} (n : Nat), VRs m xs cs → VRs m (xs.drop n) (cs.drop n)
 | [],cs,n,h=>by simp only [VRs] at h; subst h; simp [VRs]
 | x::xs,cs,n,h=>by
  cases n with
  | zero=>simpa using h
  | succ n =>
   simp only [VRs] at h
   obtain ⟨y,ys,rfl,b,a⟩:=h
   simpa using VRs.drop n a
theorem VRs.append {m : Mp} : ∀ {xs : List AV} {cs : List Value} {zs : List AV} {ds : List Value}, VRs m xs cs → VRs m zs ds → VRs m (xs ++ zs) (cs ++ ds)
 | [],cs,zs,ds,h,k=>by simp only [VRs] at h; subst h; simpa using k
 | x::xs,cs,zs,ds,h,k=>by
  simp only [VRs] at h
  obtain ⟨y,ys,rfl,a,b⟩:=h
  simp only [List.cons_append,VRs]
  exact ⟨y,_,rfl,a,VRs.append b k⟩
theorem VRs.set {m : Mp} : ∀ {xs : List AV} {cs : List Value} (i : Nat) (x : AV) (c : Value), VRs m xs cs → VR m x c → VRs m (xs.set i x) (cs.set i c)
 | [],cs,i,x,c,h,_=>by simp only [VRs] at h; subst h; simp [VRs]
 | x::xs,cs,i,z,c,h,k=>by
  simp only [VRs] at h
  obtain ⟨y,ys,rfl,b,a⟩:=h
  cases i with
  | zero=>simp only [List.set_cons_zero,VRs]; exact ⟨c,_,rfl,k,a⟩
  | succ i=>simp only [List.set_cons_succ,VRs]; exact ⟨y,_,rfl,b,VRs.set i z c a k⟩
def Free (fr:Nat×Nat) (N:Nat):Prop := ∀ i,i < N→¬ (fr.1≤i∧i < fr.2)
structure RW (m:Mp) (H:Hp) (w:World) (base:Nat):Prop where
 blk : ∀ r b v B N, H.t.get r = some b → m r v = some (B, N) → b.minv ≤ v → v ≤ b.cells.length →
  ∃ cs ty fr,w.heap[B]? = some (.cells cs ty fr)∧cs.size=N∧v≤N∧(b.ro=false→Free fr N)∧VRs m (b.cells.take v) (cs.toList.take v)
 dom:∀ r v B N,m r v=some (B,N)→∃ b,H.t.get r=some b∧v≤b.cells.length∧B < w.heap.size∧(b.ro=false→base≤B)
 sep:∀ r v B N r' v' N',m r v=some (B,N)→m r' v'=some (B,N')→base≤B→r=r'
 fresh:∀ r,H.next≤r→H.t.get r=none
 vle:∀ r v B N,m r v=some (B,N)→v≤N
 frz:∀ i B cells,m.froz i=some (B,cells)→∃ cs ty fr,w.heap[B]? = some (.cells cs ty fr)∧cells.length≤cs.size∧VRs m.still cells (cs.toList.take cells.length)
 fsep:∀ i B cells r v N b,m.froz i=some (B,cells)→m r v=some (B,N)→H.t.get r=some b→b.ro=true
 ffin:∃ n,∀ i,n≤i→m.froz i=none
 base_le:base≤w.heap.size
 low:H.next≤roots
 tyk:∀ B t,m.tys B=some t→∃ cs fr,w.heap[B]? = some (.cells cs t fr)
structure St (m:Mp) (w:World) (base:Nat) (m':Mp) (w':World):Prop where
 sub:Sub m m'
 ext:∀ r v B N,m' r v=some (B,N)→(∃ v0 N0,m r v0=some (B,N0))∨w.heap.size≤B
 fext:∀ i B cells,m'.froz i=some (B,cells)→m.froz i=some (B,cells)∨base≤B∧((∃ r v N,m r v=some (B,N))∨w.heap.size≤B)
 size:w.heap.size≤w'.heap.size
 os:w'.os=w.os
 tape:w'.tape=w.tape
 output:w'.output=w.output
 same:∀ B,B < w.heap.size→(∀ r v N,m r v=some (B,N)→B < base)→w'.heap[B]? = w.heap[B]?
theorem St.refl (m:Mp) (w:World) (base:Nat):St m w base m w :=
 ⟨Sub.refl m,λr v B N h => .inl ⟨v,N,h⟩,λ_ _ _ h => .inl h,Nat.le_refl _,rfl,rfl,rfl,λ_ _ _=>rfl⟩
theorem St.trans {m m' m'':Mp} {w w' w'':World} {base:Nat} (l:base≤w.heap.size) (h:St m w base m' w') (k:St m' w' base m'' w''):St m w base m'' w'' where
 sub:=h.sub.trans k.sub
 ext:=by
  intro r v B N e
  rcases k.ext r v B N e with ⟨b,c,a⟩ | hB
  ·exact h.ext r b B c a
  ·exact .inr (Nat.le_trans h.size hB)
 fext:=by
  intro i B cells e
  rcases k.fext i B cells e with a | ⟨hB,⟨r,v,N,hm⟩ | g⟩
  ·exact h.fext i B cells a
  ·rcases h.ext r v B N hm with ⟨b,c,a⟩ | j
   ·exact .inr ⟨hB,.inl ⟨r,b,c,a⟩⟩
   ·exact .inr ⟨hB,.inr j⟩
  ·exact .inr ⟨hB,.inr (Nat.le_trans h.size g)⟩
 size:=Nat.le_trans h.size k.size
 os:=k.os.trans h.os
 tape:=k.tape.trans h.tape
 output:=k.output.trans h.output
 same:=by
  intro B hB hm
  rw [k.same B (Nat.lt_of_lt_of_le hB h.size) ?_,h.same B hB hm]
  intro r v N e
  rcases h.ext r v B N e with ⟨b,c,a⟩ | hB'
  ·exact hm r b c a
  ·omega
theorem St.below {m m':Mp} {w w':World} {base:Nat} (a:base≤w.heap.size) (h:St m w base m' w'):RowKit.Below base w w' :=
 ⟨h.os,h.tape,h.output,h.size,λi hi=>h.same i (by omega) (λ_ _ _ _=>hi)⟩
theorem St.drawn (m:Mp) (w:World) (base n:Nat):St m w base m { w with drawn:=n } :=
 ⟨Sub.refl m,λr v B N h => .inl ⟨v,N,h⟩,λ_ _ _ h => .inl h,Nat.le_refl _,rfl,rfl,rfl,λ_ _ _=>rfl⟩
theorem RW.drawn {m:Mp} {H:Hp} {w:World} {base:Nat} (h:RW m H w base) (n:Nat):RW m H { w with drawn:=n } base :=
 ⟨h.blk,h.dom,h.sep,h.fresh,h.vle,h.frz,h.fsep,h.ffin,h.base_le,h.low,h.tyk⟩
abbrev Env:=List (Nat×AV)
noncomputable def look (env:Env) (t:Nat):AV:=List.rec (motive:=λ_=>AV) .top (λp _ ih=>bif Nat.beq p.1 t then p.2 else ih) env
noncomputable def putE (env:Env) (d:Nat) (v:AV):Env:=(d,v)::env
theorem look_nil (t:Nat):look [] t = .top:=rfl
theorem qAz (p:Nat×AV) (r:Env) (t:Nat):look (p::r) t=if p.1=t then p.2 else look r t:=by
 show (bif Nat.beq p.1 t then p.2 else look r t)=_
 by_cases e:p.1=t
 ·rw [if_pos e,e]; simp
 ·rw [if_neg e]
  have:Nat.beq p.1 t=false:=by
   cases h:Nat.beq p.1 t with
   | false=>rfl
   | true=>exact absurd (Nat.eq_of_beq_eq_true h) e
  rw [this]; rfl
theorem qBg (u:Nat) (v:AV) (r:Env) (t:Nat):look (putE r u v) t=if u=t then v else look r t:=qAz (u,v) r t
def FR (m:Mp) (env:Env) (tmps:Array Value):Prop := ∀ t,look env t ≠ .top→∃ c,tmps[t]? = some c∧VR m (look env t) c
theorem FR.mono {m m':Mp} (h:Sub m m') {env:Env} {tmps:Array Value} (k:FR m env tmps):FR m' env tmps:=by
 intro t ht
 obtain ⟨c,a,b⟩:=k t ht
 exact ⟨c,a,VR.mono h _ _ b⟩
theorem FR.getD {m:Mp} {env:Env} {tmps:Array Value} (k:FR m env tmps) (t:Nat):VR m (look env t) (tmps.getD t undef):=by
 by_cases ht:look env t = .top
 ·rw [ht]; simp only [VR]
 ·obtain ⟨c,a,b⟩:=k t ht
  have:tmps.getD t undef=c:=by simp [Array.getD_eq_getD_getElem?,a]
  rw [this]; exact b
theorem FR.put {m:Mp} {env:Env} {tmps:Array Value} (k:FR m env tmps) (d:Nat) (v:AV) (c:Value) (hv:VR m v c) (hd:d < tmps.size∨v = .top):FR m (putE env d v) (tmps.setIfInBounds d c):=by
 intro t ht
 simp only [qBg] at ht ⊢
 by_cases e:d=t
 ·subst e
  simp only [if_true] at ht ⊢
  rcases hd with hd | rfl
  ·exact ⟨c,by simp [hd],hv⟩
  ·exact absurd rfl ht
 ·rw [if_neg e] at ht ⊢
  obtain ⟨c',a,b⟩:=k t ht
  exact ⟨c',by rw [Array.getElem?_setIfInBounds_ne e]; exact a,b⟩
def Less (env eE:Env):Prop := ∀ t,look eE t = .top∨look eE t=look env t
theorem FR.less {m:Mp} {env eE:Env} {tmps:Array Value} (k:FR m env tmps) (h:Less env eE):FR m eE tmps:=by
 intro t ht
 rcases h t with e | e
 ·exact absurd e ht
 ·rw [e] at ht ⊢; exact k t ht
noncomputable def keepOnly (env : Env) : LN → Env
 | []=>[]
 | k::ks=>putE (keepOnly env ks) k (look env k)
theorem qDm (env : Env) (t : Nat) : ∀ ks : LN, look (keepOnly env ks) t = if t ∈ ks then look env t else .top
 | []=>by simp [keepOnly,look_nil]
 | k::ks=>by
  simp only [keepOnly,qBg,qDm env t ks]
  by_cases e:k=t
  ·subst e; simp
  ·simp [e,Ne.symm e]
theorem qBh (ks:LN) (env:Env):Less env (keepOnly env ks):=by
 intro t
 rw [qDm]
 split
 ·exact .inr rfl
 ·exact .inl rfl
def wset (w:World) (B:Nat) (o:Obj):World := { w with heap:=w.heap.setIfInBounds B o }
def putA (cs : Array Value) : Nat → List Value → Array Value
 | _,[]=>cs
 | i,v::r=>putA (cs.setIfInBounds i v) (i+1) r
def putL (xs : List AV) : Nat → List AV → List AV
 | _,[]=>xs
 | i,v::r=>putL (xs.set i v) (i+1) r
theorem qDh (cs : Array Value) : ∀ (vs : List Value) (i : Nat), (putA cs i vs).size = cs.size
 | [],_=>rfl
 | v::r,i=>by rw [putA,qDh (cs.setIfInBounds i v) r (i+1)]; simp
theorem qD9 (xs : List AV) : ∀ (vs : List AV) (i : Nat), (putL xs i vs).length = xs.length
 | [],_=>rfl
 | v::r,i=>by rw [putL,qD9 (xs.set i v) r (i+1)]; simp
theorem qCa (cs : Array Value) : ∀ (vs : List Value) (i j : Nat), j < i → (putA cs i vs)[j]? = cs[j]?
 | [],_,_,_=>rfl
 | v::r,i,j,h=>by rw [putA,qCa (cs.setIfInBounds i v) r (i+1) j (by omega),Array.getElem?_setIfInBounds_ne (by omega)]
theorem qEo (cs : Array Value) : ∀ (vs : List Value) (i j : Nat) (v : Value), vs[j]? = some v → i + j < cs.size → (putA cs i vs)[i + j]? = some v
 | [],_,_,_,h,_=>by simp at h
 | u::r,i,0,v,h,hs=>by
  simp at h
  subst h
  show (putA (cs.setIfInBounds i u) (i+1) r)[i]? = some u
  rw [qCa _ r (i+1) i (by omega)]
  have:i < cs.size:=by omega
  simp [this]
 | u::r,i,j+1,v,h,hs=>by
  simp at h
  rw [putA,show i+(j+1)=i+1+j by omega]
  exact qEo (cs.setIfInBounds i u) r (i+1) j v h (by simp; omega)
theorem qNn (cs:Array Value) (n:Nat) (vs:List Value) (i:Nat) (h:n≤i):(putA cs i vs).toList.take n=cs.toList.take n:=by
 apply List.ext_getElem?
 intro j
 rw [List.getElem?_take,List.getElem?_take]
 split
 ·rw [Array.getElem?_toList,Array.getElem?_toList,qCa cs vs i j (by omega)]
 ·rfl
theorem qGp (cs:Array Value) (vs:List Value) (i:Nat) (h:i+vs.length≤cs.size):(putA cs i vs).toList.take (i+vs.length)=cs.toList.take i++vs:=by
 have g:(cs.toList.take i).length=i:=by rw [List.length_take,Array.length_toList]; omega
 apply List.ext_getElem?
 intro j
 rw [List.getElem?_take]
 by_cases a:j < i
 ·rw [if_pos (by omega),List.getElem?_append_left (by omega),List.getElem?_take,if_pos a,Array.getElem?_toList,Array.getElem?_toList,qCa cs vs i j a]
 ·rw [List.getElem?_append_right (by omega),g]
  by_cases b:j < i+vs.length
  ·rw [if_pos b,Array.getElem?_toList]
   have c:j - i < vs.length:=by omega
   have:=qEo cs vs i (j - i) vs[j - i] (List.getElem?_eq_getElem c) (by omega)
   rw [show i+(j - i)=j by omega] at this
   rw [this,List.getElem?_eq_getElem c]
  ·rw [if_neg b,List.getElem?_eq_none (by omega)]
theorem qHl (w : World) (B i : Nat) (cs : Array Value) (ty : TypeId) (fr : Nat × Nat) (v : Value) (h : w.heap[B]? = some (.cells cs ty fr)) :
 w.setCell ⟨B,i,none⟩ v=wset w B (.cells (cs.setIfInBounds i v) ty fr):=by
 obtain ⟨hB,hg⟩:=Array.getElem?_eq_some_iff.1 h
 unfold World.setCell wset
 congr 1
 apply Array.ext
 ·simp
 ·intro j a b
  rw [Array.getElem_modify,Array.getElem_setIfInBounds]
  by_cases e:B=j
  ·subst e
   rw [if_pos rfl,if_pos rfl,hg]
   simp
  ·rw [if_neg e,if_neg e]
theorem qC8 (w:World) (B:Nat) (o:Obj) (h:B < w.heap.size):(wset w B o).heap[B]? = some o:=by
 simp [wset,h]
theorem qAv (w:World) (B C:Nat) (o:Obj) (h:B ≠ C):(wset w B o).heap[C]? = w.heap[C]? := by
 simp [wset,Array.getElem?_setIfInBounds_ne h]
theorem RW.tyk_wset {m:Mp} {H:Hp} {w:World} {base:Nat} (h:RW m H w base) {B:Nat} {cs cs':Array Value} {ty:TypeId} {fr fr':Nat×Nat} (hB:w.heap[B]? = some (.cells cs ty fr)):∀ C t,m.tys C=some t→∃ cs fr,(wset w B (.cells cs' ty fr')).heap[C]? = some (.cells cs t fr):=by
 intro C t ht
 obtain ⟨a,f0,e⟩:=h.tyk C t ht
 by_cases e2:B=C
 ·subst e2
  rw [hB] at e
  cases e
  exact ⟨cs',fr',qC8 w B _ (Array.getElem?_eq_some_iff.1 hB).1⟩
 ·exact ⟨a,f0,by rw [qAv w B C _ e2]; exact e⟩
theorem qMx (w:World) (B:Nat) (o o':Obj):wset (wset w B o) B o'=wset w B o':=by
 unfold wset
 simp [Array.setIfInBounds_setIfInBounds]
theorem qB1 (w:World) (B:Nat) (o:Obj):(wset w B o).heap.size=w.heap.size:=by simp [wset]
theorem addr_add (B o i:Nat):(⟨B,o,none⟩:Addr).add i=⟨B,o+i,none⟩:=by unfold Addr.add; split <;> simp_all
theorem cell_of (w:World) (B i:Nat) (cs:Array Value) (ty:TypeId) (fr:Nat×Nat) (h:w.heap[B]? = some (.cells cs ty fr)):w.cell? ⟨B,i,none⟩=cs[i]? := by
 simp [World.cell?,h]
theorem qQb (w:World) (B i N:Nat) (cs:Array Value) (ty:TypeId) (fr:Nat×Nat) (h:w.heap[B]? = some (.cells cs ty fr)) (hf:Free fr N) (hi:i < N):w.frozen? ⟨B,i,none⟩=false:=by
 have:=hf i hi
 simp only [World.frozen?,h]
 simp
 omega
theorem qB8 (P : Program) (B o : Nat) (ty : TypeId) (fr : Nat × Nat) : ∀ (vs : List Value) (i : Nat) (cs : Array Value) (w : World), w.heap[B]? = some (.cells cs ty fr) → o + i + vs.length ≤ cs.size → Free fr cs.size → (∀ v ∈ vs, v.oneCell' = true) →
 (storeCells ⟨B,o,none⟩ vs i).run P w = .ok () (if vs=[] then w else wset w B (.cells (putA cs (o+i) vs) ty fr))
 | [],_,_,_,_,_,_,_=>rfl
 | v::r,i,cs,w,h,hl,hf,a=>by
  obtain ⟨hB,hg⟩:=Array.getElem?_eq_some_iff.1 h
  simp only [List.length_cons] at hl
  have hst:(store ((⟨B,o,none⟩:Addr).add i) v).run P w = .ok () (wset w B (.cells (cs.setIfInBounds (o+i) v) ty fr)):=by
   rw [addr_add,run_store P w _ v _ (a v (by simp)),cell_of w B _ cs ty fr h,qQb w B _ cs.size cs ty fr h hf (by omega),qHl w B _ cs ty fr v h]
   rw [Array.getElem?_eq_getElem (by omega)]
   simp
  have ih:=qB8 P B o ty fr r (i+1) (cs.setIfInBounds (o+i) v) (wset w B (.cells (cs.setIfInBounds (o+i) v) ty fr)) (qC8 _ _ _ hB) (by simp; omega) (by simpa using hf) (λx b=>a x (by simp [b]))
  simp only [storeCells,Sem.run_bind,hst,Result.andThen_ok,ih,putA,qMx]
  rw [show o+(i+1)=o+i+1 by omega]
  by_cases hr:r=[]
  ·subst hr; simp [putA]
  ·simp [hr]
theorem VRs.put {m : Mp} : ∀ {vs : List AV} {us : List Value} (i : Nat) {xs : List AV} {cs : Array Value} (v : Nat), VRs m xs (cs.toList.take v) → VRs m vs us → VRs m (putL xs i vs) ((putA cs i us).toList.take v)
 | [],us,i,xs,cs,v,h,k=>by simp only [VRs] at k; subst k; exact h
 | x::vs,us,i,xs,cs,v,h,k=>by
  simp only [VRs] at k
  obtain ⟨u,us,rfl,k1,a⟩:=k
  rw [putL,putA]
  refine VRs.put (i+1) v ?_ a
  rw [Array.toList_setIfInBounds,List.take_set]
  exact VRs.set i x u h k1
theorem RW.lt {m:Mp} {H:Hp} {w:World} {base:Nat} (h:RW m H w base) {r:Nat} {b:Blk} (c:H.t.get r=some b):r < H.next:=by
 rcases Nat.lt_or_ge r H.next with a | a
 ·exact a
 ·rw [h.fresh r a] at c; cases c
theorem fits {H:Hp} (h:H.next≤roots) {r:Nat} (hr:r < H.next):r+1 < 2 ^ depth:=by
 unfold roots at h; unfold depth; omega
theorem RW.frz_wset {m m' : Mp} {H : Hp} {w : World} {base : Nat} (h : RW m H w base) {r v B N : Nat} {b : Blk} (a : H.t.get r = some b) (hro : b.ro = false) (hm : m r v = some (B, N)) (o : Obj) (hf : m'.froz = m.froz) :
 ∀ i B' cells,m'.froz i=some (B',cells)→∃ cs ty fr,(wset w B o).heap[B']? = some (.cells cs ty fr)∧cells.length≤cs.size∧VRs m'.still cells (cs.toList.take cells.length):=by
 intro i B' cells hi
 have hst:m'.still=m.still:=by unfold Mp.still; rw [hf]
 rw [hf] at hi
 rw [hst]
 obtain ⟨cs,ty,fr,c,g,j⟩:=h.frz _ _ _ hi
 refine ⟨cs,ty,fr,?_,g,j⟩
 rw [qAv _ _ _ _ ?_]
 ·exact c
 ·rintro rfl
  have:=h.fsep _ _ _ _ _ _ _ hi hm a
  rw [hro] at this; cases this
theorem RW.froz_lt {m:Mp} {H:Hp} {w:World} {base:Nat} (h:RW m H w base) {i B:Nat} {cells:List AV} (hi:m.froz i=some (B,cells)):B < w.heap.size:=by
 obtain ⟨cs,ty,fr,a,_⟩:=h.frz _ _ _ hi
 exact (Array.getElem?_eq_some_iff.1 a).1
theorem RW.frz_old {m m' : Mp} {H : Hp} {w w' : World} {base : Nat} (h : RW m H w base) (hold : ∀ B, B < w.heap.size → w'.heap[B]? = w.heap[B]?) (hf : m'.froz = m.froz) :
 ∀ i B' cells,m'.froz i=some (B',cells)→∃ cs ty fr,w'.heap[B']? = some (.cells cs ty fr)∧cells.length≤cs.size∧VRs m'.still cells (cs.toList.take cells.length):=by
 intro i B' cells hi
 have hst:m'.still=m.still:=by unfold Mp.still; rw [hf]
 rw [hf] at hi
 rw [hst]
 have hlt:=h.froz_lt hi
 obtain ⟨cs,ty,fr,a,b,c⟩:=h.frz _ _ _ hi
 exact ⟨cs,ty,fr,by rw [hold _ hlt]; exact a,b,c⟩
theorem RW.upd {m : Mp} {H : Hp} {w : World} {base : Nat} (h : RW m H w base) {r : Nat} {b : Blk} {B N : Nat} (a : H.t.get r = some b) (hro : b.ro = false)
 (hm:m r b.cells.length=some (B,N)) (hmin:b.minv≤b.cells.length) {cs cs':Array Value} {ty:TypeId} {fr:Nat×Nat} (hc:w.heap[B]? = some (.cells cs ty fr)) (hsz:cs'.size=cs.size)
 {cells':List AV} (hl:cells'.length=b.cells.length) (hrel:VRs m cells' (cs'.toList.take b.cells.length)) :
 RW m ⟨H.next,Tr.set depth H.t r ⟨cells',b.cells.length,false⟩⟩ (wset w B (.cells cs' ty fr)) base∧St m w base m (wset w B (.cells cs' ty fr)):=by
 have hr:=h.lt a
 obtain ⟨b0,c,G,hBs,hbase⟩:=h.dom _ _ _ _ hm
 obtain rfl:b0=b:=by rw [a] at c; cases c; rfl
 obtain ⟨n,g,j,k,o,q,u,J⟩:=h.blk _ _ _ _ _ a hm hmin (Nat.le_refl _)
 obtain ⟨rfl,rfl,rfl⟩:n=cs∧g=ty∧j=fr:=by rw [hc] at k; cases k; exact ⟨rfl,rfl,rfl⟩
 have eqr:=Tr.get_set_eq depth H.t r ⟨cells',b0.cells.length,false⟩ (fits h.low hr)
 have ner:=λr' (hne:r ≠ r')=>Tr.get_set_ne depth H.t r r' ⟨cells',b0.cells.length,false⟩ hne
 refine ⟨⟨?_,?_,h.sep,?_,h.vle,h.frz_wset a hro hm _ rfl,?_,h.ffin,by rw [qB1]; exact h.base_le,h.low,h.tyk_wset hc⟩,⟨Sub.refl m,λr v B N e => .inl ⟨v,N,e⟩,λ_ _ _ e => .inl e,by rw [qB1]; exact Nat.le_refl _,rfl,rfl,rfl,?_⟩⟩
 ·intro r' b' v' B' N' hb' hm' hmin' hv'
  by_cases e:r=r'
  ·subst e
   rw [eqr] at hb'
   cases hb'
   simp only at hmin' hv'
   obtain rfl:v'=b0.cells.length:=by omega
   rw [hm] at hm'
   cases hm'
   refine ⟨cs',g,j,qC8 _ _ _ hBs,by rw [hsz]; exact o,q,λ_=>u hro,?_⟩
   rw [List.take_of_length_le (show cells'.length≤b0.cells.length by omega)]
   exact hrel
  ·rw [ner r' e] at hb'
   obtain ⟨x,A,C,D,l⟩:=h.blk _ _ _ _ _ hb' hm' hmin' hv'
   refine ⟨x,A,C,?_,l⟩
   rw [qAv _ _ _ _ ?_]
   ·exact D
   ·rintro rfl
    exact e (h.sep _ _ _ _ _ _ _ hm hm' (hbase hro))
 ·intro r' v' B' N' hm'
  obtain ⟨b',E,D,l,F⟩:=h.dom _ _ _ _ hm'
  by_cases e:r=r'
  ·subst e
   rw [a] at E
   cases E
   exact ⟨_,eqr,by show v'≤cells'.length; omega,by rw [qB1]; exact l,λ_=>F hro⟩
  ·exact ⟨b',by rw [ner r' e]; exact E,D,by rw [qB1]; exact l,F⟩
 ·intro r' hr'
  have hr':H.next≤r':=hr'
  rw [ner r' (by omega)]
  exact h.fresh r' hr'
 ·intro i B' cells r' v' N' b' hi hm' hb'
  by_cases e:r=r'
  ·subst e
   have:=h.fsep _ _ _ _ _ _ _ hi hm' a
   rw [hro] at this; cases this
  ·rw [ner r' e] at hb'
   exact h.fsep _ _ _ _ _ _ _ hi hm' hb'
 ·intro B' hB' K
  refine qAv _ _ _ _ ?_
  rintro rfl
  have:=K _ _ _ hm
  have:=hbase hro
  omega
def Mp.add (m:Mp) (r v:Nat) (p:Nat×Nat):Mp:=⟨λr' v'=>if r'=r∧v'=v then some p else m r' v',m.froz,m.tys⟩
theorem Mp.add_same (m:Mp) (r v:Nat) (p:Nat×Nat):m.add r v p r v=some p:=by simp [Mp.add]
theorem Mp.add_sub {m:Mp} {r v:Nat} {p:Nat×Nat} (h:m r v=none):Sub m (m.add r v p):=by
 refine ⟨?_,λ_ _ h=>h,λ_ _ h=>h⟩
 intro r' v' q hq
 show (if r'=r∧v'=v then some p else m r' v')=some q
 rw [if_neg ?_]
 ·exact hq
 ·rintro ⟨rfl,rfl⟩; rw [h] at hq; cases hq
theorem Mp.add_cases {m:Mp} {r v:Nat} {p:Nat×Nat} {r' v':Nat} {q:Nat×Nat} (h:m.add r v p r' v'=some q):(r'=r∧v'=v∧q=p)∨m r' v'=some q:=by
 have h:(if r'=r∧v'=v then some p else m r' v')=some q:=h
 by_cases e:r'=r∧v'=v
 ·rw [if_pos e] at h; cases h; exact .inl ⟨e.1,e.2,rfl⟩
 ·rw [if_neg e] at h; exact .inr h
def wnew (w:World) (o:Obj):World := { w with heap:=w.heap.push o }
theorem qAj (w:World) (o:Obj):(wnew w o).heap.size=w.heap.size+1:=by simp [wnew]
theorem qC9 (w:World) (o:Obj):(wnew w o).heap[w.heap.size]? = some o:=by
 show (w.heap.push o)[w.heap.size]? = some o
 simp
theorem qB7 (w:World) (o:Obj) (i:Nat) (h:i < w.heap.size):(wnew w o).heap[i]? = w.heap[i]? := by
 show (w.heap.push o)[i]? = w.heap[i]?
 rw [Array.getElem?_push,if_neg (Nat.ne_of_lt h)]
theorem RW.tyk_same {m:Mp} {H:Hp} {w w':World} {base:Nat} (h:RW m H w base) (hs:∀ B,B < w.heap.size→w'.heap[B]? = w.heap[B]?):∀ C t,m.tys C=some t→∃ cs fr,w'.heap[C]? = some (.cells cs t fr):=by
 intro C t ht
 obtain ⟨a,f0,e⟩:=h.tyk C t ht
 exact ⟨a,f0,by rw [hs _ (Array.getElem?_eq_some_iff.1 e).1]; exact e⟩
theorem RW.tyk_new {m:Mp} {H:Hp} {w:World} {base:Nat} (h:RW m H w base) (o:Obj):∀ C t,m.tys C=some t→∃ cs fr,(wnew w o).heap[C]? = some (.cells cs t fr):=by
 intro C t ht
 obtain ⟨a,f0,e⟩:=h.tyk C t ht
 exact ⟨a,f0,by rw [qB7 _ _ _ (Array.getElem?_eq_some_iff.1 e).1]; exact e⟩
theorem RW.alloc {m : Mp} {H : Hp} {w : World} {base : Nat} (h : RW m H w base) (hlow : H.next < roots) (cells : List AV) (cs : Array Value) (ty : TypeId) (fr : Nat × Nat) (hf : Free fr cs.size) (hl : cells.length ≤ cs.size)
 (hrel:VRs m cells (cs.toList.take cells.length)) :
 RW (m.add H.next cells.length (w.heap.size,cs.size)) ⟨H.next+1,Tr.set depth H.t H.next ⟨cells,0,false⟩⟩ (wnew w (.cells cs ty fr)) base ∧
 St m w base (m.add H.next cells.length (w.heap.size,cs.size)) (wnew w (.cells cs ty fr)):=by
 have eqr:=Tr.get_set_eq depth H.t H.next ⟨cells,0,false⟩ (by unfold roots at hlow; unfold depth; omega)
 have ner:=λr' (hne:H.next ≠ r')=>Tr.get_set_ne depth H.t H.next r' ⟨cells,0,false⟩ hne
 have hnone:∀ v,m H.next v=none:=by
  intro v
  cases e:m H.next v with
  | none=>rfl
  | some p =>
   obtain ⟨b,r,_⟩:=h.dom H.next v p.1 p.2 e
   rw [h.fresh _ (Nat.le_refl _)] at r; cases r
 have hsub:Sub m (m.add H.next cells.length (w.heap.size,cs.size)):=Mp.add_sub (hnone _)
 have hnext:∀ r' v' q,m r' v'=some q→H.next ≠ r':=by
  rintro r' v' q hq rfl; rw [hnone] at hq; cases hq
 refine ⟨⟨?_,?_,?_,?_,(λr' v' B' N' hm'=>by rcases Mp.add_cases hm' with ⟨_,rfl,e⟩ | hm''; (cases e; assumption); exact h.vle _ _ _ _ hm''),h.frz_old (λB hB=>qB7 _ _ _ hB) rfl,?_,h.ffin,by rw [qAj]; exact Nat.le_succ_of_le h.base_le,by simp only; omega,h.tyk_new _⟩,⟨hsub,?_,λ_ _ _ e => .inl e,by rw [qAj]; omega,rfl,rfl,rfl,λB hB _=>qB7 _ _ _ hB⟩⟩
 ·intro r' b' v' B' N' hb' hm' hmin' hv'
  rcases Mp.add_cases hm' with ⟨rfl,rfl,e⟩ | hm''
  ·cases e
   rw [eqr] at hb'
   cases hb'
   refine ⟨cs,ty,fr,qC9 _ _,rfl,hl,λ_=>hf,?_⟩
   rw [List.take_of_length_le (Nat.le_refl _)]
   exact VRs.mono hsub _ _ hrel
  ·have hne:=hnext _ _ _ hm''
   rw [ner r' hne] at hb'
   obtain ⟨j,k,l,c,u,n,x,A⟩:=h.blk _ _ _ _ _ hb' hm'' hmin' hv'
   obtain ⟨_,_,_,hlt,_⟩:=h.dom _ _ _ _ hm''
   exact ⟨j,k,l,by rw [qB7 _ _ _ hlt]; exact c,u,n,x,VRs.mono hsub _ _ A⟩
 ·intro r' v' B' N' hm'
  rcases Mp.add_cases hm' with ⟨rfl,rfl,e⟩ | hm''
  ·cases e
   exact ⟨_,eqr,Nat.le_refl _,by rw [qAj]; omega,λ_=>h.base_le⟩
  ·obtain ⟨b',o,c,u,n⟩:=h.dom _ _ _ _ hm''
   exact ⟨b',by rw [ner r' (hnext _ _ _ hm'')]; exact o,c,by rw [qAj]; omega,n⟩
 ·intro D E F G J v2 K o c hB
  rcases Mp.add_cases o with ⟨rfl,rfl,C⟩ | g
  ·cases C
   rcases Mp.add_cases c with ⟨rfl,rfl,e2⟩ | a
   ·rfl
   ·obtain ⟨_,_,_,hlt,_⟩:=h.dom _ _ _ _ a
    omega
  ·rcases Mp.add_cases c with ⟨rfl,rfl,e2⟩ | a
   ·cases e2
    obtain ⟨_,_,_,hlt,_⟩:=h.dom _ _ _ _ g
    omega
   ·exact h.sep _ _ _ _ _ _ _ g a hB
 ·intro r' hr'
  simp only at hr'
  rw [ner r' (by omega)]
  exact h.fresh r' (by omega)
 ·intro i B' cells r' v' N' b' hi hm' hb'
  have hlt:=h.froz_lt hi
  rcases Mp.add_cases hm' with ⟨rfl,rfl,e⟩ | hm''
  ·cases e; omega
  ·rw [ner r' (hnext _ _ _ hm'')] at hb'
   exact h.fsep _ _ _ _ _ _ _ hi hm'' hb'
 ·intro r' v' B' N' hm'
  rcases Mp.add_cases hm' with ⟨rfl,rfl,e⟩ | hm''
  ·cases e; exact .inr (Nat.le_refl _)
  ·exact .inl ⟨v',N',hm''⟩
theorem RW.extend {m : Mp} {H : Hp} {w : World} {base : Nat} (h : RW m H w base) {r : Nat} {b : Blk} {B N : Nat} (a : H.t.get r = some b) (hro : b.ro = false)
 (hm:m r b.cells.length=some (B,N)) (hmin:b.minv≤b.cells.length) {cs cs':Array Value} {ty:TypeId} {fr:Nat×Nat} (hc:w.heap[B]? = some (.cells cs ty fr)) (hsz:cs'.size=cs.size)
 (new:List AV) (hk:0 < new.length) (hN:b.cells.length+new.length≤N) (hold:cs'.toList.take b.cells.length=cs.toList.take b.cells.length)
 (hrel:VRs m (b.cells++new) (cs'.toList.take (b.cells.length+new.length))) :
 RW (m.add r (b.cells.length+new.length) (B,N)) ⟨H.next,Tr.set depth H.t r ⟨b.cells++new,b.minv,false⟩⟩ (wset w B (.cells cs' ty fr)) base ∧
 St m w base (m.add r (b.cells.length+new.length) (B,N)) (wset w B (.cells cs' ty fr)):=by
 have hr:=h.lt a
 obtain ⟨b0,A,S,hBs,hbase⟩:=h.dom _ _ _ _ hm
 obtain rfl:b0=b:=by rw [a] at A; cases A; rfl
 obtain ⟨C,g,j,D,M,T,O,U⟩:=h.blk _ _ _ _ _ a hm hmin (Nat.le_refl _)
 obtain ⟨rfl,rfl,rfl⟩:C=cs∧g=ty∧j=fr:=by rw [hc] at D; cases D; exact ⟨rfl,rfl,rfl⟩
 have eqr:=Tr.get_set_eq depth H.t r ⟨b0.cells++new,b0.minv,false⟩ (fits h.low hr)
 have ner:=λr' (hne:r ≠ r')=>Tr.get_set_ne depth H.t r r' ⟨b0.cells++new,b0.minv,false⟩ hne
 have hnone:m r (b0.cells.length+new.length)=none:=by
  cases e:m r (b0.cells.length+new.length) with
  | none=>rfl
  | some p =>
   obtain ⟨b,hb',hv',_⟩:=h.dom _ _ p.1 p.2 e
   rw [a] at hb'; cases hb'
   omega
 have hsub:Sub m (m.add r (b0.cells.length+new.length) (B,N)):=Mp.add_sub hnone
 have htake:∀ v',v'≤b0.cells.length→cs'.toList.take v'=C.toList.take v':=by
  intro v' hv'
  have:=congrArg (List.take v') hold
  rwa [List.take_take,List.take_take,Nat.min_eq_left hv'] at this
 refine ⟨⟨?_,?_,?_,?_,(λr' v' B' N' hm'=>by rcases Mp.add_cases hm' with ⟨_,rfl,e⟩ | hm''; (cases e; assumption); exact h.vle _ _ _ _ hm''),h.frz_wset a hro hm _ rfl,?_,h.ffin,by rw [qB1]; exact h.base_le,h.low,h.tyk_wset hc⟩,⟨hsub,?_,λ_ _ _ e => .inl e,by rw [qB1]; exact Nat.le_refl _,rfl,rfl,rfl,?_⟩⟩
 ·intro r' b' v' B' N' hb' hm' hmin' hv'
  rcases Mp.add_cases hm' with ⟨rfl,rfl,e⟩ | hm''
  ·cases e
   rw [eqr] at hb'
   cases hb'
   refine ⟨cs',g,j,qC8 _ _ _ hBs,by rw [hsz]; exact M,hN,λ_=>O hro,?_⟩
   rw [List.take_of_length_le (by simp)]
   exact VRs.mono hsub _ _ hrel
  ·by_cases e:r=r'
   ·subst e
    rw [eqr] at hb'
    cases hb'
    obtain ⟨W,E,k,_⟩:=h.dom _ _ _ _ hm''
    rw [a] at E
    cases E
    simp only at hmin'
    obtain ⟨l,n,o,c,q,u,K,L⟩:=h.blk _ _ _ _ _ a hm'' hmin' k
    have hpre:(b0.cells++new).take v'=b0.cells.take v':=by rw [List.take_append_of_le_length k]
    by_cases eB:B=B'
    ·subst eB
     rw [hc] at c
     cases c
     refine ⟨cs',g,j,qC8 _ _ _ hBs,by rw [hsz]; exact q,u,λ_=>K hro,?_⟩
     simp only
     rw [hpre,htake v' k]
     exact VRs.mono hsub _ _ L
    ·refine ⟨l,n,o,by rw [qAv _ _ _ _ eB]; exact c,q,u,λ_=>K hro,?_⟩
     simp only
     rw [hpre]
     exact VRs.mono hsub _ _ L
   ·rw [ner r' e] at hb'
    obtain ⟨l,n,o,c,q,u,K,L⟩:=h.blk _ _ _ _ _ hb' hm'' hmin' hv'
    refine ⟨l,n,o,?_,q,u,K,VRs.mono hsub _ _ L⟩
    rw [qAv _ _ _ _ ?_]
    ·exact c
    ·rintro rfl
     exact e (h.sep _ _ _ _ _ _ _ hm hm'' (hbase hro))
 ·intro r' v' B' N' hm'
  rcases Mp.add_cases hm' with ⟨rfl,rfl,e⟩ | hm''
  ·cases e
   exact ⟨_,eqr,by simp,by rw [qB1]; exact hBs,λ_=>hbase hro⟩
  ·obtain ⟨b',F,c,q,u⟩:=h.dom _ _ _ _ hm''
   by_cases e:r=r'
   ·subst e
    rw [a] at F
    cases F
    exact ⟨_,eqr,by simp; omega,by rw [qB1]; exact q,λ_=>u hro⟩
   ·exact ⟨b',by rw [ner r' e]; exact F,c,by rw [qB1]; exact q,u⟩
 ·intro Y Z B1 N1 r2 v2 N2 F c hB
  rcases Mp.add_cases F with ⟨rfl,rfl,G⟩ | J
  ·cases G
   rcases Mp.add_cases c with ⟨rfl,rfl,e2⟩ | x
   ·rfl
   ·exact h.sep _ _ _ _ _ _ _ hm x hB
  ·rcases Mp.add_cases c with ⟨rfl,rfl,e2⟩ | x
   ·cases e2
    exact h.sep _ _ _ _ _ _ _ J hm hB
   ·exact h.sep _ _ _ _ _ _ _ J x hB
 ·intro r' hr'
  have hr':H.next≤r':=hr'
  rw [ner r' (by omega)]
  exact h.fresh r' hr'
 ·intro i B' cells r' v' N' b' hi hm' hb'
  by_cases e:r=r'
  ·subst e
   rcases Mp.add_cases hm' with ⟨_,_,G⟩ | hm''
   ·cases G
    have hbad:=h.fsep _ _ _ _ _ _ _ hi hm a
    rw [hro] at hbad; cases hbad
   ·have hbad:=h.fsep _ _ _ _ _ _ _ hi hm'' a
    rw [hro] at hbad; cases hbad
  ·rw [ner r' e] at hb'
   rcases Mp.add_cases hm' with ⟨G,_,_⟩ | hm''
   ·exact absurd G.symm e
   ·exact h.fsep _ _ _ _ _ _ _ hi hm'' hb'
 ·intro r' v' B' N' hm'
  rcases Mp.add_cases hm' with ⟨rfl,rfl,e⟩ | hm''
  ·cases e; exact .inl ⟨_,_,hm⟩
  ·exact .inl ⟨v',N',hm''⟩
 ·intro B' hB' V
  refine qAv _ _ _ _ ?_
  rintro rfl
  have:=V _ _ _ hm
  have:=hbase hro
  omega
theorem RW.regrow {m : Mp} {H : Hp} {w : World} {base : Nat} (h : RW m H w base) {r : Nat} {b : Blk} (l : H.t.get r = some b) (hro : b.ro = false)
 (new:List AV) (hk:0 < new.length) (cs':Array Value) (ty:TypeId) (hl:b.cells.length+new.length≤cs'.size)
 (hrel:VRs m (b.cells++new) (cs'.toList.take (b.cells.length+new.length))) :
 RW (m.add r (b.cells.length+new.length) (w.heap.size,cs'.size)) ⟨H.next,Tr.set depth H.t r ⟨b.cells++new,b.minv,false⟩⟩ (wnew w (.cells cs' ty (0,0))) base ∧
 St m w base (m.add r (b.cells.length+new.length) (w.heap.size,cs'.size)) (wnew w (.cells cs' ty (0,0))):=by
 have hr:=h.lt l
 have eqr:=Tr.get_set_eq depth H.t r ⟨b.cells++new,b.minv,false⟩ (fits h.low hr)
 have ner:=λr' (hne:r ≠ r')=>Tr.get_set_ne depth H.t r r' ⟨b.cells++new,b.minv,false⟩ hne
 have hnone:m r (b.cells.length+new.length)=none:=by
  cases e:m r (b.cells.length+new.length) with
  | none=>rfl
  | some p =>
   obtain ⟨F,hb',hv',_⟩:=h.dom _ _ p.1 p.2 e
   rw [l] at hb'; cases hb'
   omega
 have hsub:Sub m (m.add r (b.cells.length+new.length) (w.heap.size,cs'.size)):=Mp.add_sub hnone
 refine ⟨⟨?_,?_,?_,?_,(λr' v' B' N' hm'=>by rcases Mp.add_cases hm' with ⟨_,rfl,e⟩ | hm''; (cases e; assumption); exact h.vle _ _ _ _ hm''),h.frz_old (λB hB=>qB7 _ _ _ hB) rfl,?_,h.ffin,by rw [qAj]; exact Nat.le_succ_of_le h.base_le,h.low,h.tyk_new _⟩,⟨hsub,?_,λ_ _ _ e => .inl e,by rw [qAj]; omega,rfl,rfl,rfl,λB hB _=>qB7 _ _ _ hB⟩⟩
 ·intro r' b' v' B' N' hb' hm' hmin' hv'
  rcases Mp.add_cases hm' with ⟨rfl,rfl,e⟩ | hm''
  ·cases e
   rw [eqr] at hb'
   cases hb'
   refine ⟨cs',ty,(0,0),qC9 _ _,rfl,hl,λ_ i _=>by omega,?_⟩
   rw [List.take_of_length_le (by simp)]
   exact VRs.mono hsub _ _ hrel
  ·obtain ⟨G,o,q,hlt,_⟩:=h.dom _ _ _ _ hm''
   by_cases e:r=r'
   ·subst e
    rw [eqr] at hb'
    cases hb'
    rw [l] at o
    cases o
    simp only at hmin'
    obtain ⟨c,g,j,a,C,n,D,E⟩:=h.blk _ _ _ _ _ l hm'' hmin' q
    refine ⟨c,g,j,by rw [qB7 _ _ _ hlt]; exact a,C,n,λ_=>D hro,?_⟩
    simp only
    rw [List.take_append_of_le_length q]
    exact VRs.mono hsub _ _ E
   ·rw [ner r' e] at hb'
    obtain ⟨c,g,j,a,C,n,D,E⟩:=h.blk _ _ _ _ _ hb' hm'' hmin' hv'
    exact ⟨c,g,j,by rw [qB7 _ _ _ hlt]; exact a,C,n,D,VRs.mono hsub _ _ E⟩
 ·intro r' v' B' N' hm'
  rcases Mp.add_cases hm' with ⟨rfl,rfl,e⟩ | hm''
  ·cases e
   exact ⟨_,eqr,by simp,by rw [qAj]; omega,λ_=>h.base_le⟩
  ·obtain ⟨b',u,a,C,n⟩:=h.dom _ _ _ _ hm''
   by_cases e:r=r'
   ·subst e
    rw [l] at u
    cases u
    exact ⟨_,eqr,by simp; omega,by rw [qAj]; omega,λ_=>n hro⟩
   ·exact ⟨b',by rw [ner r' e]; exact u,a,by rw [qAj]; omega,n⟩
 ·intro J K L M N v2 O u a hB
  rcases Mp.add_cases u with ⟨rfl,rfl,x⟩ | A
  ·cases x
   rcases Mp.add_cases a with ⟨rfl,rfl,e2⟩ | k
   ·rfl
   ·obtain ⟨_,_,_,hlt,_⟩:=h.dom _ _ _ _ k
    omega
  ·rcases Mp.add_cases a with ⟨rfl,rfl,e2⟩ | k
   ·cases e2
    obtain ⟨_,_,_,hlt,_⟩:=h.dom _ _ _ _ A
    omega
   ·exact h.sep _ _ _ _ _ _ _ A k hB
 ·intro r' hr'
  have hr':H.next≤r':=hr'
  rw [ner r' (by omega)]
  exact h.fresh r' hr'
 ·intro i B' cells r' v' N' b' hi hm' hb'
  have hlt:=h.froz_lt hi
  by_cases e:r=r'
  ·subst e
   rcases Mp.add_cases hm' with ⟨_,_,x⟩ | hm''
   ·cases x; omega
   ·have hbad:=h.fsep _ _ _ _ _ _ _ hi hm'' l
    rw [hro] at hbad; cases hbad
  ·rw [ner r' e] at hb'
   rcases Mp.add_cases hm' with ⟨x,_,_⟩ | hm''
   ·exact absurd x.symm e
   ·exact h.fsep _ _ _ _ _ _ _ hi hm'' hb'
 ·intro r' v' B' N' hm'
  rcases Mp.add_cases hm' with ⟨rfl,rfl,e⟩ | hm''
  ·cases e; exact .inr (Nat.le_refl _)
  ·exact .inl ⟨v',N',hm''⟩
theorem RW.ghost {m:Mp} {H:Hp} {w:World} {base:Nat} (h:RW m H w base) (hlow:H.next < roots):RW m ⟨H.next+1,Tr.set depth H.t H.next ⟨[],0,false⟩⟩ w base:=by
 have ner:=λr' (hne:H.next ≠ r')=>Tr.get_set_ne depth H.t H.next r' ⟨[],0,false⟩ hne
 have hnext:∀ r' v' q,m r' v'=some q→H.next ≠ r':=by
  rintro r' v' q hq rfl
  obtain ⟨b,a,_⟩:=h.dom _ v' q.1 q.2 hq
  rw [h.fresh _ (Nat.le_refl _)] at a; cases a
 refine ⟨?_,?_,h.sep,?_,h.vle,h.frz,?_,h.ffin,h.base_le,by simp only; omega,h.tyk⟩
 ·intro r' b' v' B' N' hb' hm' hmin' hv'
  rw [ner r' (hnext _ _ _ hm')] at hb'
  exact h.blk _ _ _ _ _ hb' hm' hmin' hv'
 ·intro r' v' B' N' hm'
  obtain ⟨b',c,g⟩:=h.dom _ _ _ _ hm'
  exact ⟨b',by rw [ner r' (hnext _ _ _ hm')]; exact c,g⟩
 ·intro r' hr'
  have hr':H.next+1≤r':=hr'
  rw [ner r' (by omega)]
  exact h.fresh r' (by omega)
 ·intro i B' cells r' v' N' b' hi hm' hb'
  rw [ner r' (hnext _ _ _ hm')] at hb'
  exact h.fsep _ _ _ _ _ _ _ hi hm' hb'
inductive Tk where
 | bool | int (k:IntKind) | string | struct | array | slice | pointer | iface | other
 deriving DecidableEq
structure Ti where
 size:Nat
 bytes:Nat
 zero:Option (List AV)
 kind:Tk
 fields:List (Nat×Nat)
 elem:Nat
 len:Nat
 flat:Option (List Tk)
def ofVal : Value → AV
 | .int k n => .int k n
 | .bool b => .bool b
 | .string s => .str (s.data.toList.map (·.toNat))
 | .pointer none => .nilp
 | .slice none 0 0 => .nils
 | .nilFunc => .nilf
 | .nilIface => .nili
 | _ => .top
theorem qKq (m:Mp) (v:Value):VR m (ofVal v) v:=by
 unfold ofVal
 split <;> simp [VR]
def Tk.of : TypeDesc → Tk
 | .bool => .bool
 | .int k => .int k
 | .string => .string
 | .struct _ => .struct
 | .array _ _ => .array
 | .slice _ => .slice
 | .pointer _ => .pointer
 | .interface _ => .iface
 | _ => .other
def kindT (P:Program) (t:TypeId):Tk:=match P.underlying t with | some d=>Tk.of d | none => .other
def flatOf (P : Program) (t : TypeId) : TypeDesc → Option (List Tk)
 | .struct fs=>if !P.stoodInHeld t && !P.eqGuardType P.depth t && (fs.toList.map (·.offset) == List.range' 0 fs.toList.length) && fs.toList.all (λf=>f.name != "_") then some (fs.toList.map λf=>kindT P f.type) else none
 | .array n e=>if !P.eqGuardType P.depth t && (P.info? e).isSome && P.cellsOf e == 1 then some (List.replicate n (kindT P e)) else none
 | _=>none
def mkTi (P:Program) (t:TypeId):Option Ti :=
 match P.info? t,P.underlying t with
 | some i, some d => some {
  size:=i.size,bytes:=i.bytes,zero:=i.zero.map λz=>z.cells.toList.map ofVal,kind:=Tk.of d,
  fields:=(match d with | .struct fs=>fs.toList.map λf=>(f.offset,f.type) | _=>[]),
  elem:=(match d with | .array _ e=>e | .slice e=>e | .pointer e=>e | _=>0),
  len:=(match d with | .array n _=>n | _=>0),
  flat:=flatOf P t d }
 | _,_=>none
def Tk.isAgg : Tk → Bool
 | .struct | .array=>true
 | _=>false
structure Cx where
 ti:Nat→Option Ti
def cellsOf : AV → List AV
 | .agg xs=>xs
 | v=>[v]
def AV.is : AV → Bool
 | .top=>false
 | _=>true
def one1 : AV → Bool
 | .top | .agg _ | .tuple _=>false
 | _=>true
noncomputable def alloc1 (H:Hp) (cells:List AV):Option (AV×Hp) :=
 if H.next < roots then some (.ptr H.next cells.length 0,⟨H.next+1,Tr.set depth H.t H.next ⟨cells,0,false⟩⟩) else none
noncomputable def rd (H:Hp) (r v off n:Nat):Option (List AV) :=
 match H.t.get r with
 | some b=>bif Nat.ble b.minv v && Nat.ble (off+n) v then some ((b.cells.drop off).take n) else none
 | none=>none
noncomputable def wr (H:Hp) (r v off:Nat) (vs:List AV):Option Hp :=
 match H.t.get r with
 | some b=>if b.ro=false∧v=b.cells.length∧b.minv≤v∧off+vs.length≤v∧vs.all one1=true∧vs.isEmpty=false then some ⟨H.next,Tr.set depth H.t r ⟨putL b.cells off vs,v,false⟩⟩ else none
 | none=>none
def mkVal (agg:Bool) (cells:List AV):Option AV :=
 if agg then some (.agg cells) else match cells with | [x]=>some x | _=>none
def lo : IntKind → Int
 | .i8 => -128 | .i16 => -32768 | .i32 => -2147483648 | .i64 => -9223372036854775808 | _=>0
def hi : IntKind → Int
 | .i8=>127 | .i16=>32767 | .i32=>2147483647 | .i64=>9223372036854775807 | .u8=>255 | .u16=>65535 | .u32=>4294967295 | .u64=>18446744073709551615
def fW (k:IntKind) (n:Int):Int:=if decide (lo k≤n) && decide (n≤hi k) then n else k.wrap n
def intBin (op:BinOp) (k:IntKind) (x y:Int):Option AV :=
 match op with
 | .add=>some (.int k (fW k (x+y)))
 | .sub=>some (.int k (fW k (x - y)))
 | .mul=>some (.int k (fW k (x * y)))
 | .quo=>if y=0 then none else some (.int k (fW k (x.tdiv y)))
 | .rem=>if y=0 then none else some (.int k (x.tmod y))
 | .and=>some (.int k (fW k (BitVec.ofInt k.bits x &&& BitVec.ofInt k.bits y).toNat))
 | .or=>some (.int k (fW k (BitVec.ofInt k.bits x ||| BitVec.ofInt k.bits y).toNat))
 | .xor=>some (.int k (fW k (BitVec.ofInt k.bits x ^^^ BitVec.ofInt k.bits y).toNat))
 | .andNot=>some (.int k (fW k (BitVec.ofInt k.bits x &&& ~~~ BitVec.ofInt k.bits y).toNat))
 | .eql=>some (.bool (decide (x=y)))
 | .neq=>some (.bool (!decide (x=y)))
 | .lss=>some (.bool (decide (x < y)))
 | .leq=>some (.bool (decide (x≤y)))
 | .gtr=>some (.bool (decide (y < x)))
 | .geq=>some (.bool (decide (y≤x)))
 | _=>none
def eqL : LN → LN → Bool
 | [],[]=>true
 | a::x,b::y=>Nat.beq a b && eqL x y
 | _,_=>false
def lessL : LN → LN → Bool
 | _,[]=>false
 | [],_::_=>true
 | a::x,b::y=>Nat.blt a b || (Nat.beq a b && lessL x y)
def strBin (op:BinOp) (x y:LN):Option AV :=
 match op with
 | .add=>if x.length+y.length < 2 ^ 40 then some (.str (x++y)) else none
 | .eql=>some (.bool (eqL x y))
 | .neq=>some (.bool (!eqL x y))
 | .lss=>some (.bool (lessL x y))
 | .leq=>some (.bool (lessL x y || eqL x y))
 | .gtr=>some (.bool (!(lessL x y || eqL x y)))
 | .geq=>some (.bool (!lessL x y))
 | _=>none
def scalEq : Tk → AV → AV → Option Bool
 | .int _,.int k x,.int k' y=>if k=k' then some (decide (x=y)) else none
 | .bool,.bool a,.bool b=>some (a == b)
 | .string,.str a,.str b=>some (eqL a b)
 | _,_,_=>none
def aggEq : List Tk → List AV → List AV → Option Bool
 | [],[],[]=>some true
 | k::ks,x::xs,y::ys=>match scalEq k x y,aggEq ks xs ys with | some a,some b=>some (a && b) | _,_=>none
 | _,_,_=>none
def eqK (i:Ti) (x y:AV):Option Bool :=
 match i.kind,x,y with
 | .bool,.bool a,.bool b=>some (a == b)
 | .pointer,.ptr ..,.nilp=>some false
 | .pointer,.nilp,.ptr .. => some false
 | .pointer,.nilp,.nilp=>some true
 | .slice,.slice ..,.nils=>some false
 | .slice,.nils,.nils=>some true
 | .iface,.iface ..,.nili=>some false
 | _,.agg xs,.agg ys=>(match i.flat with | some ks=>aggEq ks xs ys | none=>none)
 | _,_,_=>none
def eqP (C:Cx) (i:Ti) (x y:AV):Option Bool :=
 match i.kind,x,y with
 | .pointer,.optp s _ _ _,.nilp=>some (!s)
 | .pointer,.optp s r v o,.ptr r' v' o'=>if r=r'∧v=v'∧o=o' then (match C.ti i.elem with | some e=>if 0 < e.size then some s else none | none=>none) else none
 | _,_,_=>none
def eqV (C:Cx) (t:Nat) (x y:AV):Option Bool :=
 match C.ti t with
 | some i=>(match eqP C i x y with | some b=>some b | none=>eqK i x y)
 | none=>none
def binV (C:Cx) (op:BinOp) (t:Nat) (x y:AV):Option AV :=
 match x,y with
 | .int k a,.int k' b =>
  match op with
  | .shl=>if b < 0 then none else some (.int k (fW k (a * 2 ^ (min b.toNat k.bits))))
  | .shr=>if b < 0 then none else some (.int k (a.fdiv (2 ^ (min b.toNat k.bits))))
  | _=>if k=k' then intBin op k a b else none
 | .str a,.str b=>strBin op a b
 | .resid .u64 q r,.int .u64 b=>match op with
  | .rem=>if b=(q:Int)∧0 < q then some (.int .u64 r) else none
  | _=>none
 | x,y=>match op with
  | .eql=>(eqV C t x y).map .bool
  | .neq=>(eqV C t x y).map λb => .bool (!b)
  | _=>none
def nilB (C:Cx) (op:BinOp) (t:Nat) (x:AV) (y:Operand) (e:Option AV):Option AV :=
 match x,y with
 | .nili,.const .nilIface=>(match C.ti t with
  | some i=>(match i.kind with | .iface=>(match op with | .eql=>some (.bool true) | .neq=>some (.bool false) | _=>none) | _=>none)
  | none=>none)
 | _,_=>e
def unV (op:UnOp) (x:AV):Option AV :=
 match op,x with
 | .neg,.int k n=>some (.int k (fW k (0 - n)))
 | .xor,.int k n=>some (.int k (fW k (BitVec.ofInt k.bits (if k.signed then -1 else k.max) ^^^ BitVec.ofInt k.bits n).toNat))
 | .not,.bool b=>some (.bool (!b))
 | _,_=>none
def bytesOf : List AV → Option LN
 | []=>some []
 | .int .u8 n::r=>match bytesOf r with | some l=>if 0≤n∧n≤255 then some (n.toNat::l) else none | none=>none
 | _::_=>none
def utf (c:Int):LN:=(Utf8.encode c).data.toList.map (·.toNat)
noncomputable def convV (C:Cx) (H:Hp) (src dst:Nat) (x:AV):Option (AV×Hp) :=
 match C.ti src,C.ti dst with
 | some a,some b =>
  match b.kind,x with
  | .int k,.int _ n=>some (.int k (fW k n),H)
  | .int .u64,.resid .i64 q r=>some (.resid .u64 q r,H)
  | .string,.int _ n=>some (.str (utf n),H)
  | .string,.str s=>some (.str s,H)
  | .string,.nils=>match a.kind,C.ti a.elem with
   | .slice,some e=>match e.kind with | .int .u8=>some (.str [],H) | _=>none
   | _,_=>none
  | .string,.slice r v off len sz=>match a.kind,C.ti a.elem with
   | .slice,some e=>match e.kind with
    | .int .u8=>if sz=1 then match rd H r v off len with
     | some cs=>match bytesOf cs with | some l=>some (.str l,H) | none=>none
     | none=>none else none
    | _=>none
   | _,_=>none
  | .string,.own r len sz=>match a.kind,C.ti a.elem with
   | .slice,some e=>match e.kind with
    | .int .u8=>if sz=1 then match rd H r (len * sz) 0 len with
     | some cs=>match bytesOf cs with | some l=>some (.str l,H) | none=>none
     | none=>none else none
    | _=>none
   | _,_=>none
  | _,_=>none
 | _,_=>none
def fillL (place : Nat → Option (Nat × Nat)) (cells : List AV) : List (Nat × AV) → Option (List AV)
 | []=>some cells
 | (i,v)::rest =>
  match place i with
  | none=>none
  | some (off,size)=>if v.is=true∧(cellsOf v).length=size∧off+size≤cells.length then fillL place (putL cells off (cellsOf v)) rest else none
def sizeOfT (C:Cx) (t:Nat):Option Nat:=(C.ti t).map (·.size)
def rep (zero : List AV) : Nat → List AV
 | 0=>[]
 | n+1=>zero++rep zero n
def bound (x:AV) (y:Nat):Option Nat :=
 match x with
 | .int _ i=>if 0≤i∧i≤y then some i.toNat else none
 | _=>none
def boundO (x:Option AV) (y d:Nat):Option Nat :=
 match x with
 | none=>some d
 | some v=>bound v y
def sliceV (C:Cx) (t:Nat) (x:AV) (low high:Option AV):Option AV :=
 match C.ti t with
 | none=>none
 | some i =>
  match i.kind,x with
  | .string,.str s=>match boundO high s.length s.length with
   | some h=>match boundO low h 0 with
    | some l=>some (.str ((s.take h).drop l))
    | none=>none
   | none=>none
  | .slice,.slice r v off len sz=>match boundO high len len with
   | some h=>match boundO low h 0 with
    | some l=>match sizeOfT C i.elem with
     | some z=>if z=sz∧l < len∧0 < sz then some (.slice r v (off+l * sz) (h - l) sz) else none
     | none=>none
    | none=>none
   | none=>none
  | .slice,.vec n sz cells=>match boundO high n n with
   | some h=>match boundO low h 0 with
    | some l=>match sizeOfT C i.elem with
     | some z=>if z=sz then some (.vec (h - l) sz ((cells.drop (l * sz)).take ((h - l) * sz))) else none
     | none=>none
    | none=>none
   | none=>none
  | .slice,.nils=>match boundO high 0 0 with
   | some h=>match boundO low h 0 with
    | some _=>match sizeOfT C i.elem with | some _=>some .nils | none=>none
    | none=>none
   | none=>none
  | .array,.ptr r v off=>match boundO high i.len i.len with
   | some h=>match boundO low h 0 with
    | some l=>match sizeOfT C i.elem with
     | some z=>if off+i.len * z≤v∧l < i.len∧0 < z then some (.slice r v (off+l * z) (h - l) z) else none
     | none=>none
    | none=>none
   | none=>none
  | _,_=>none
noncomputable def appV (H:Hp) (s:AV) (sz bytes n:Nat) (new:List AV):Option (AV×Hp) :=
 if new.length = n * sz ∧ 0 < sz ∧ new.all one1 = true then
  match s with
  | .nils => if n = 0 then some (.nils, H) else if n * bytes ≤ 2 ^ 40 ∧ n ≤ 2 ^ 40 ∧ H.next < roots then
   some (.slice H.next new.length 0 n sz,⟨H.next+1,Tr.set depth H.t H.next ⟨new,0,false⟩⟩) else none
  | .slice r v off len z =>
   if z = sz ∧ off = 0 ∧ len * sz = v ∧ (len + n) * bytes ≤ 2 ^ 40 ∧ len + n ≤ 2 ^ 40 then
    if n=0 then some (.slice r v off len z,H) else
    match H.t.get r with
    | some b => if b.ro = false ∧ v = b.cells.length ∧ b.minv ≤ v then
     some (.slice r (v+new.length) 0 (len+n) sz,⟨H.next,Tr.set depth H.t r ⟨b.cells++new,b.minv,false⟩⟩) else none
    | none=>none
   else none
  | _=>none
 else none
noncomputable def appW (H:Hp) (s:AV) (sz bytes n:Nat) (new:List AV):Option (AV×Hp) :=
 match s with
 | .own r len z=>match appV H (.slice r (len * z) 0 len z) sz bytes n new with
  | some (_,H')=>some (.own r (len+n) z,H')
  | none=>none
 | s=>appV H s sz bytes n new
def srcLen : AV → Option Nat
 | .nils=>some 0
 | .slice _ _ _ len _=>some len
 | .str s=>some s.length
 | .vec n _ _=>some n
 | .own _ len _=>some len
 | _=>none
noncomputable def srcCells (H : Hp) (sz n : Nat) : AV → Option (List AV)
 | .nils=>if n=0 then some [] else none
 | .slice r v off len z=>if z=sz∧n≤len then rd H r v off (n * sz) else none
 | .str s=>if sz=1∧n≤s.length then some ((s.take n).map λb:Nat=>AV.int .u8 (b:Int)) else none
 | .vec n' z cells=>if z=sz∧n≤n' then some (cells.take (n * sz)) else none
 | .own r len z=>if n=0 then some [] else if z=sz∧n≤len then rd H r (len * z) 0 (n * sz) else none
 | _=>none
noncomputable def opnd (env : Env) : Operand → AV
 | .tmp t=>look env t
 | .const v=>ofVal v
 | .global _ => .top
 | .func f => .func f [] []
def fieldsZ (C : Cx) : List (Nat × Nat) → Option (List (Nat × Nat))
 | []=>some []
 | (o,t)::r=>match sizeOfT C t,fieldsZ C r with | some z,some l=>some ((o,z)::l) | _,_=>none
def reT (t : Nat) : Option (AV × Hp) → Option (AV × Hp)
 | some (.own r l k,H)=>some (.ownt t r l k,H)
 | _=>none
noncomputable def appX (el:Nat) (H:Hp) (s:AV) (sz bytes n:Nat) (new:List AV):Option (AV×Hp) :=
 match s with
 | .ownt t r len z=>if Nat.beq t el then reT t (appW H (.own r len z) sz bytes n new) else none
 | s=>appW H s sz bytes n new
noncomputable def usT (H:Hp) (r len sz:Nat) (n:Int):Option (AV×Hp) :=
 if sz = 1 ∧ n = (len : Int) ∧ len ≤ 1099511627776 then
  match H.t.get r,rd H r (len * sz) 0 len with
  | some b,some cs=>if b.ro=false then (match bytesOf cs with | some l=>some (.str l,⟨H.next,Tr.set depth H.t r ⟨b.cells,b.minv,true⟩⟩) | none=>none) else none
  | _,_=>none
 else none
noncomputable def usS (C:Cx) (H:Hp) (pt t r len sz:Nat) (n:Int):Option (AV×Hp) :=
 match C.ti pt with
 | some i=>match i.kind,C.ti i.elem with
  | .pointer,some e=>if Nat.beq i.elem t && Nat.beq e.size 1 then usT H r len sz n else none
  | _,_=>none
 | none=>none
def noCopy : AV → Bool
 | .vec .. | .own .. => true
 | _=>false
noncomputable def callB (C:Cx) (H:Hp) (b:Builtin) (argTypes:LN) (args:List AV):Option (AV×Hp) :=
 match b,argTypes,args with
 | .len,t::_,[x]=>match C.ti t with
  | some i=>match i.kind,x with
   | .string,.str s=>some (.int .i64 s.length,H)
   | .array,_=>some (.int .i64 i.len,H)
   | .slice,.slice _ _ _ len _=>some (.int .i64 len,H)
   | .slice,.nils=>some (.int .i64 0,H)
   | .slice,.vec n _ _=>some (.int .i64 n,H)
   | .slice,.own _ len _=>some (.int .i64 len,H)
   | .slice,.ownt _ _ len _=>some (.int .i64 len,H)
   | _,_=>none
  | none=>none
 | .append,[t,u],[s,x]=>match C.ti t,C.ti u with
  | some i,some j=>match i.kind,C.ti i.elem with
   | .slice,some e=>match j.kind == .slice || j.kind == .string,srcLen x,e.zero with
    | true,some n,some z=>match srcCells H e.size n x with
     | some new=>if z.length=e.size then appX i.elem H s e.size e.bytes n new else none
     | none=>none
    | _,_,_=>none
   | _,_=>none
  | _,_=>none
 | .copy,t::_,[d,x]=>match C.ti t with
  | some i=>match i.kind,C.ti i.elem,d,srcLen x with
   | .slice, some e, .slice r v off len z, some sl => if z = e.size ∧ 0 < z ∧ noCopy x = false then
    match srcCells H e.size (min sl len) x with
    | some cs=>if cs.length=0 then (if min sl len=0 then some (.int .i64 0,H) else none) else match wr H r v off cs with
     | some H'=>some (.int .i64 (min sl len:Nat),H')
     | none=>none
    | none=>none else none
   | _,_,_,_=>none
  | none=>none
 | .unsafeSliceData,[_],[.ownt t r len sz]=>some (.odat t r len sz,H)
 | .unsafeString,[pt,_],[.odat t r len sz,.int .i64 n]=>usS C H pt t r len sz n
 | .max,_,[.int k x,.int k' y]=>some (.int k (if x < y then y else x),H)
 | .min,_,[.int k x,.int k' y]=>some (.int k (if y < x then y else x),H)
 | _,_,_=>none
noncomputable def opV (C:Cx) (env:Env) (H:Hp) (o:Oper):Option (AV×Hp) :=
 match o.op with
 | .move x | .assign x=>some (opnd env x,H)
 | .pick c a b=>match opnd env c with
  | .bool t=>some (opnd env (if t then a else b),H)
  | _=>none
 | .alloc t=>match C.ti t with
  | some i=>match i.zero with | some z=>alloc1 H z | none=>none
  | none=>none
 | .box t x=>if (opnd env x).is then alloc1 H (cellsOf (opnd env x)) else none
 | .build t parts=>match C.ti t with
  | some i=>match i.zero with
   | some z=>match i.kind with
    | .struct=>match fieldsZ C i.fields with
     | some fs=>(fillL (λk=>fs[k]?) z (parts.toList.map λp=>(p.1,opnd env p.2))).map λcs=>(.agg cs,H)
     | none=>none
    | .array=>match sizeOfT C i.elem with
     | some n=>(fillL (λk=>some (k * n,n)) z (parts.toList.map λp=>(p.1,opnd env p.2))).map λcs=>(.agg cs,H)
     | none=>none
    | _=>none
   | none=>none
  | none=>none
 | .buildSlice t len parts=>match C.ti t with
  | some i=>match i.kind,C.ti i.elem with
   | .slice,some e=>match e.zero with
    | some z => if z.length = e.size ∧ 0 < e.size ∧ len * e.size ≤ 2 ^ 24 then
     match fillL (λk=>some (k * e.size,e.size)) (rep z len) (parts.toList.map λp=>(p.1,opnd env p.2)) with
     | some cs=>match alloc1 H cs with
      | some (.ptr r v _,H')=>some (.slice r v 0 len e.size,H')
      | _=>none
     | none=>none
     else none
    | none=>none
   | _,_=>none
  | none=>none
 | .load t a=>match C.ti t,opnd env a with
  | some i,.ptr r v off=>match rd H r v off i.size with
   | some cs=>(mkVal i.kind.isAgg cs).map λx=>(x,H)
   | none=>none
  | some i,.vptr cs=>if i.size≤cs.length then (mkVal i.kind.isAgg (cs.take i.size)).map λx=>(x,H) else none
  | _,_=>none
 | .store t a x=>match C.ti t,opnd env a with
  | some i,.ptr r v off=>if (opnd env x).is=true∧(cellsOf (opnd env x)).length=i.size then (if i.size=0 then some (.top,H) else (wr H r v off (cellsOf (opnd env x))).map λH'=>(.top,H')) else none
  | _,_=>none
 | .nilCheck x=>match opnd env x with
  | .ptr r v off=>some (.ptr r v off,H)
  | .vptr cs=>some (.vptr cs,H)
  | .func f a b=>some (.func f a b,H)
  | _=>none
 | .binOp op t x y _=>(nilB C op t (opnd env x) y (binV C op t (opnd env x) (opnd env y))).map λv=>(v,H)
 | .unOp op _ x=>(unV op (opnd env x)).map λv=>(v,H)
 | .convert s d x=>convV C H s d (opnd env x)
 | .makeInterface t x=>match C.ti t with
  | some i=>match i.kind with | .iface=>none | _=>some (.iface t (opnd env x),H)
  | none=>none
 | .makeFunc (.func f) first caps=>some (.func f (first.toList.map (opnd env)) (caps.toList.map (opnd env)),H)
 | .makeSlice t l c=>match C.ti t,opnd env l,opnd env c with
  | some i,.int _ n,.int _ k=>match i.kind,C.ti i.elem with
   | .slice,some e=>match e.zero with
    | some z => if n = k ∧ 0 ≤ n ∧ n * e.bytes ≤ 2 ^ 40 ∧ n ≤ 2 ^ 40 ∧ z.length = e.size ∧ 0 < e.size then
     match alloc1 H (rep z n.toNat) with
     | some (.ptr r v _,H')=>some (.slice r v 0 n.toNat e.size,H')
     | _=>none
     else none
    | none=>none
   | _,_=>none
  | _,_,_=>none
 | .slice t x lo hi none=>(sliceV C t (opnd env x) (lo.map (opnd env)) (hi.map (opnd env))).map λv=>(v,H)
 | .fieldAddr s x f=>match C.ti s,opnd env x with
  | some i,.ptr r v off=>match i.kind,i.fields[f]? with
   | .struct,some (o,t)=>match sizeOfT C t with
    | some z=>if z=0 then none else some (.ptr r v (off+o),H)
    | none=>none
   | _,_=>none
  | some i,.vptr cs=>match i.kind,i.fields[f]? with
   | .struct,some (o,t)=>match sizeOfT C t with
    | some z=>if z ≠ 0∧o+z≤cs.length then some (.vptr (cs.drop o),H) else none
    | none=>none
   | _,_=>none
  | _,_=>none
 | .field t x f=>match C.ti t,opnd env x with
  | some i,.agg cs=>match i.kind,i.fields[f]? with
   | .struct,some (o,u)=>match C.ti u with
    | some j=>(if j.kind.isAgg then some (.agg ((cs.drop o).take j.size)) else cs[o]?).map λv=>(v,H)
    | none=>none
   | _,_=>none
  | _,_=>none
 | .indexAddr t x ix=>match C.ti t,opnd env x,opnd env ix with
  | some i,.slice r v off len sz,.int _ k=>match i.kind,sizeOfT C i.elem with
   | .slice,some z=>if z=sz∧0≤k∧k < len then some (.ptr r v (off+k.toNat * sz),H) else none
   | _,_=>none
  | some i,.ptr r v off,.int _ k=>match i.kind,sizeOfT C i.elem with
   | .array,some z=>if 0≤k∧k < i.len then some (.ptr r v (off+k.toNat * z),H) else none
   | _,_=>none
  | some i,.vec n sz cells,.int _ k=>match i.kind,sizeOfT C i.elem with
   | .slice,some z=>if z=sz∧0≤k∧k < n then some (.vptr ((cells.drop (k.toNat * sz)).take sz),H) else none
   | _,_=>none
  | some i,.own r len sz,.int _ k=>match i.kind,sizeOfT C i.elem with
   | .slice,some z=>if z=sz∧0≤k∧k < len then some (.ptr r (len * sz) (k.toNat * sz),H) else none
   | _,_=>none
  | _,_,_=>none
 | .index t x ix=>match C.ti t,opnd env x,opnd env ix with
  | some i,.str s,.int _ k=>match i.kind with
   | .string=>if 0≤k then match s[k.toNat]? with | some b=>some (.int .u8 (b:Int),H) | none=>none else none
   | _=>none
  | some i,.agg cs,.int _ k=>match i.kind,C.ti i.elem with
   | .array, some j => if 0 ≤ k ∧ k < i.len then
    (if j.kind.isAgg then some (.agg ((cs.drop (k.toNat * j.size)).take j.size)) else cs[k.toNat * j.size]?).map λv=>(v,H)
    else none
   | _,_=>none
  | _,_,_=>none
 | .typeAssert x _ T ok=>match C.ti T,opnd env x with
  | some i,.iface t v=>match i.kind with
   | .iface=>none
   | _=>if t=T then some (if ok then .tuple [v,.bool true] else v,H) else none
  | _,_=>none
 | .extract t ix=>match opnd env t with
  | .tuple vs=>match vs[ix]? with | some v=>some (v,H) | none=>none
  | _=>none
 | .call ⟨.builtin b,args,ts⟩=>callB C H b ts.toList (args.toList.map (opnd env))
 | _=>none
def Good (P:Program) (s:Sem Next) (m:Mp) (w:World) (base:Nat) (v:AV) (H':Hp):Prop :=
 ∃ m' w',RW m' H' w' base∧St m w base m' w'∧((∃ c,s.run P w = .ok (.value c) w'∧VR m' v c)∨(s.run P w = .ok .skip w'∧v = .top))
theorem Good.val {P:Program} {s:Sem Next} {m:Mp} {w:World} {base:Nat} {v:AV} {H:Hp} (c:Value) (hr:s.run P w = .ok (.value c) w) (rw:RW m H w base) (hv:VR m v c):Good P s m w base v H :=
 ⟨m,w,rw,St.refl _ _ _,.inl ⟨c,hr,hv⟩⟩
def TyS (e:Nat) (w':World) (a c:Value):Prop := ∀ B off len cap,c = .slice (some ⟨B,off,none⟩) len cap→(∃ l,a = .slice (some ⟨B,off,none⟩) l cap)∨(0 < cap∧∃ cs fr,w'.heap[B]? = some (.cells cs e fr))
theorem TyS.new {e:Nat} {w':World} {a:Value} {B len cap:Nat} {cs:Array Value} {fr:Nat×Nat} (h:w'.heap[B]? = some (.cells cs e fr)) (hc:0 < cap):TyS e w' a (.slice (some ⟨B,0,none⟩) len cap):=by
 intro B' off l k q
 cases q
 exact .inr ⟨hc,_,_,h⟩
theorem TyS.old {e:Nat} {w':World} {B off l len cap:Nat}:TyS e w' (.slice (some ⟨B,off,none⟩) l cap) (.slice (some ⟨B,off,none⟩) len cap):=by
 intro B' off l' k q
 cases q
 exact .inl ⟨_,rfl⟩
theorem TyS.same {e:Nat} {w':World} {c:Value}:TyS e w' c c:=λ_ _ _ _ q => .inl ⟨_,q⟩
def GoodT (P:Program) (s:Sem Next) (m:Mp) (w:World) (base:Nat) (v:AV) (H':Hp) (a:Value) (e:Nat):Prop :=
 ∃ m' w',RW m' H' w' base∧St m w base m' w'∧∃ c,s.run P w = .ok (.value c) w'∧VR m' v c∧TyS e w' a c
theorem GoodT.good {P:Program} {s:Sem Next} {m:Mp} {w:World} {base:Nat} {v:AV} {H':Hp} {a:Value} {e:Nat} (h:GoodT P s m w base v H' a e):Good P s m w base v H':=by
 obtain ⟨m',w',b,g,c,j,k,_⟩:=h
 exact ⟨m',w',b,g,.inl ⟨c,j,k⟩⟩
theorem GoodT.val {P:Program} {s:Sem Next} {m:Mp} {w:World} {base:Nat} {v:AV} {H:Hp} {e:Nat} (c:Value) (hr:s.run P w = .ok (.value c) w) (rw:RW m H w base) (hv:VR m v c):GoodT P s m w base v H c e :=
 ⟨m,w,rw,St.refl _ _ _,c,hr,hv,TyS.same⟩
theorem qAc {P : Program} {t : Nat} {i : Ti} (h : mkTi P t = some i) : ∃ j d, P.info? t = some j ∧ P.underlying t = some d ∧ i.size = j.size ∧ i.bytes = j.bytes ∧ i.zero = j.zero.map (λz => z.cells.toList.map ofVal) ∧ i.kind = Tk.of d ∧
 i.fields=(match d with | .struct fs=>fs.toList.map (λf=>(f.offset,f.type)) | _=>[])∧i.elem=(match d with | .array _ e=>e | .slice e=>e | .pointer e=>e | _=>0)∧i.len=(match d with | .array n _=>n | _=>0)∧i.flat=flatOf P t d:=by
 unfold mkTi at h
 split at h
 ·rename_i j d a b
  cases h
  exact ⟨j,d,a,b,rfl,rfl,rfl,rfl,rfl,rfl,rfl,rfl⟩
 ·cases h
theorem qDd {P:Program} {t:Nat} {i:Ti} (h:mkTi P t=some i) (hk:i.kind = .array):P.underlying t=some (.array i.len i.elem):=by
 obtain ⟨j,d,k,g,_,_,_,a,_,b,c,_⟩:=qAc h
 rw [hk] at a
 cases d <;> simp [Tk.of] at a
 simp only at b c
 rw [g,b,c]
theorem qAl {P:Program} {t:Nat} {i:Ti} (h:mkTi P t=some i) (hk:i.kind = .slice):P.underlying t=some (.slice i.elem):=by
 obtain ⟨j,d,g,c,_,_,_,a,_,b,k,_⟩:=qAc h
 rw [hk] at a
 cases d <;> simp [Tk.of] at a
 simp only at b
 rw [c,b]
theorem qBb {P:Program} {t:Nat} {i:Ti} (h:mkTi P t=some i) (hk:i.kind = .pointer):P.underlying t=some (.pointer i.elem):=by
 obtain ⟨j,d,g,c,_,_,_,a,_,b,k,_⟩:=qAc h
 rw [hk] at a
 cases d <;> simp [Tk.of] at a
 simp only at b
 rw [c,b]
theorem qBd {P:Program} {t:Nat} {i:Ti} (h:mkTi P t=some i) (hk:i.kind = .string):P.underlying t=some .string:=by
 obtain ⟨j,d,c,b,_,_,_,a,_⟩:=qAc h
 rw [hk] at a
 cases d <;> simp [Tk.of] at a
 exact b
theorem ti_bool {P:Program} {t:Nat} {i:Ti} (h:mkTi P t=some i) (hk:i.kind = .bool):P.underlying t=some .bool:=by
 obtain ⟨j,d,c,b,_,_,_,a,_⟩:=qAc h
 rw [hk] at a
 cases d <;> simp [Tk.of] at a
 exact b
theorem qFo {P:Program} {t:Nat} {i:Ti} {k:IntKind} (h:mkTi P t=some i) (hk:i.kind = .int k):P.underlying t=some (.int k):=by
 obtain ⟨j,d,c,b,_,_,_,a,_⟩:=qAc h
 rw [hk] at a
 cases d <;> simp [Tk.of] at a
 rw [b,a]
theorem qDc {P:Program} {t:Nat} {i:Ti} (h:mkTi P t=some i) (hk:i.kind = .struct):∃ fs,P.underlying t=some (.struct fs)∧i.fields=fs.toList.map (λf=>(f.offset,f.type)):=by
 obtain ⟨j,d,g,b,_,_,_,a,c,_⟩:=qAc h
 rw [hk] at a
 cases d <;> simp [Tk.of] at a
 exact ⟨_,b,c⟩
theorem qEc {P:Program} {t:Nat} {i:Ti} (h:mkTi P t=some i):(i.kind = .iface→∃ ms,P.underlying t=some (.interface ms))∧((∀ ms,P.underlying t ≠ some (.interface ms))∨i.kind = .iface):=by
 obtain ⟨j,d,c,b,_,_,_,a,_⟩:=qAc h
 constructor
 ·intro hk
  rw [hk] at a
  cases d <;> simp [Tk.of] at a
  exact ⟨_,b⟩
 ·cases d <;> first | (right; exact a) | (left; intro ms e; rw [b] at e; cases e)
theorem qAf {P:Program} {t:Nat} {i:Ti} (h:mkTi P t=some i) (w:World):(Go.sizeOf t).run P w = .ok i.size w:=by
 obtain ⟨j,d,a,c,b,_⟩:=qAc h
 simp [Go.sizeOf,typeInfo,a,b]
theorem ti_info {P:Program} {t:Nat} {i:Ti} (h:mkTi P t=some i) (w:World):∃ j,(typeInfo t).run P w = .ok j w∧j.size=i.size∧j.bytes=i.bytes∧i.zero=j.zero.map (λz=>z.cells.toList.map ofVal):=by
 obtain ⟨j,d,a,k,b,c,g,_⟩:=qAc h
 exact ⟨j,by simp [typeInfo,a],b.symm,c.symm,g⟩
theorem qDr {P:Program} {t:Nat} {i:Ti} (h:mkTi P t=some i) {z:List AV} (hz:i.zero=some z) (w:World):∃ c,(zeroValue t).run P w = .ok c w∧z=c.cells.toList.map ofVal:=by
 obtain ⟨j,d,b,g,k,l,a,_⟩:=qAc h
 rw [hz] at a
 cases hj:j.zero with
 | none=>rw [hj] at a; cases a
 | some c =>
  rw [hj] at a
  refine ⟨c,by simp [zeroValue,typeInfo,b,hj],by simpa using a⟩
theorem qKa {P:Program} {t:Nat} {i:Ti} (h:mkTi P t=some i) (w:World):(isAgg t).run P w = .ok i.kind.isAgg w:=by
 obtain ⟨j,d,c,a,_,_,_,b,_⟩:=qAc h
 rw [b]
 cases d <;> simp [isAgg,run_underlying a,Tk.of,Tk.isAgg]
theorem qCu (m : Mp) : ∀ l : List Value, VRs m (l.map ofVal) l
 | []=>by simp [VRs]
 | x::l=>by simp only [List.map_cons,VRs]; exact ⟨x,l,rfl,qKq m x,qCu m l⟩
theorem qB9 {m:Mp} {env:Env} {a:Act} (h:FR m env a.tmps) (x:Operand):VR m (opnd env x) (a.eval x):=by
 cases x with
 | tmp t=>exact h.getD t
 | const v=>exact qKq m v
 | global g=>simp [opnd,VR]
 | func f=>simp only [opnd,Act.eval,VR]; exact ⟨#[],#[],rfl,by simp [VRs],by simp [VRs]⟩
theorem qCc {m : Mp} {env : Env} {a : Act} (h : FR m env a.tmps) : ∀ l : List Operand, VRs m (l.map (opnd env)) (l.map a.eval)
 | []=>by simp [VRs]
 | x::l=>by simp only [List.map_cons,VRs]; exact ⟨_,_,rfl,qB9 h x,qCc h l⟩
theorem qD2 {m:Mp} {x:AV} {c:Value} (h:VR m x c) (o:x.is=true):VRs m (cellsOf x) c.cells.toList:=by
 cases x <;> simp only [VR] at h <;> try (simp [AV.is] at o; done)
 case agg xs=>obtain ⟨ys,rfl,b⟩:=h; simpa [cellsOf,Value.cells] using b
 case own r len sz=>rcases h with ⟨j,rfl⟩ | ⟨B,N,cap,g,b,k,rfl⟩ <;> simp only [cellsOf,Value.cells,VRs,VR] <;> first | exact ⟨_,_,rfl,.inl ⟨j,rfl⟩,rfl⟩ | exact ⟨_,_,rfl,.inr ⟨B,N,cap,g,b,k,rfl⟩,rfl⟩
 case optp s r v off=>rcases h with ⟨j,rfl⟩ | ⟨j,B,N,g,rfl⟩ <;> simp only [cellsOf,Value.cells,VRs,VR] <;> first | exact ⟨_,_,rfl,.inl ⟨j,rfl⟩,rfl⟩ | exact ⟨_,_,rfl,.inr ⟨j,B,N,g,rfl⟩,rfl⟩
 case odat t r len sz=>rcases h with ⟨j,rfl⟩ | ⟨B,N,g,b,k,rfl⟩ <;> simp only [cellsOf,Value.cells,VRs,VR] <;> first | exact ⟨_,_,rfl,.inl ⟨j,rfl⟩,rfl⟩ | exact ⟨_,_,rfl,.inr ⟨B,N,g,b,k,rfl⟩,rfl⟩
 case ownt t r len sz=>rcases h with ⟨j,rfl⟩ | ⟨B,N,cap,g,b,k,l,q,rfl⟩ <;> simp only [cellsOf,Value.cells,VRs,VR] <;> first | exact ⟨_,_,rfl,.inl ⟨j,rfl⟩,rfl⟩ | exact ⟨_,_,rfl,.inr ⟨B,N,cap,g,b,k,l,q,rfl⟩,rfl⟩
 case tptr t n r v off=>obtain ⟨B,g,b,rfl⟩:=h; simp only [cellsOf,Value.cells,VRs,VR]; exact ⟨_,_,rfl,⟨B,g,b,rfl⟩,rfl⟩
 all_goals
  first
   | (subst h; simp [cellsOf,Value.cells,VRs,VR]; done)
   | (obtain ⟨ys,rfl,b⟩:=h; simp only [cellsOf,Value.cells,VRs,VR]; exact ⟨_,_,rfl,⟨ys,rfl,b⟩,rfl⟩)
   | (obtain ⟨ys,zs,rfl,b⟩:=h; simp only [cellsOf,Value.cells,VRs,VR]; exact ⟨_,_,rfl,⟨ys,zs,rfl,b⟩,rfl⟩)
   | (obtain ⟨B,N,g,rfl⟩:=h; simp only [cellsOf,Value.cells,VRs,VR]; exact ⟨_,_,rfl,⟨B,N,g,rfl⟩,rfl⟩)
   | (obtain ⟨B,N,cap,g,b,k,l,rfl⟩:=h; simp only [cellsOf,Value.cells,VRs,VR]; exact ⟨_,_,rfl,⟨B,N,cap,g,b,k,l,rfl⟩,rfl⟩)
   | (obtain ⟨j,a,cap,rfl,hr⟩:=h; simp only [cellsOf,Value.cells,VRs,VR]; exact ⟨_,_,rfl,⟨j,a,cap,rfl,hr⟩,rfl⟩)
   | (obtain ⟨i,B,off,all,g,rfl,hr⟩:=h; simp only [cellsOf,Value.cells,VRs,VR]; exact ⟨_,_,rfl,⟨i,B,off,all,g,rfl,hr⟩,rfl⟩)
theorem one1_ok {m:Mp} {x:AV} {c:Value} (h:VR m x c) (l:one1 x=true):c.oneCell'=true:=by
 cases x <;> simp only [VR] at h <;> try (simp [one1] at l; done)
 case own r len sz=>rcases h with ⟨j,rfl⟩ | ⟨B,N,cap,b,g,k,rfl⟩ <;> rfl
 case optp s r v off=>rcases h with ⟨j,rfl⟩ | ⟨j,B,N,b,rfl⟩ <;> rfl
 case odat t r len sz=>rcases h with ⟨j,rfl⟩ | ⟨B,N,b,g,k,rfl⟩ <;> rfl
 case ownt t r len sz=>rcases h with ⟨j,rfl⟩ | ⟨B,N,cap,b,g,k,o,q,rfl⟩ <;> rfl
 case tptr t n r v off=>obtain ⟨B,b,g,rfl⟩:=h; rfl
 all_goals
  first
   | (subst h; rfl)
   | (obtain ⟨ys,rfl,g⟩:=h; rfl)
   | (obtain ⟨ys,zs,rfl,g⟩:=h; rfl)
   | (obtain ⟨B,N,b,rfl⟩:=h; rfl)
   | (obtain ⟨B,N,cap,b,g,k,o,rfl⟩:=h; rfl)
   | (obtain ⟨j,a,cap,rfl,hr⟩:=h; rfl)
   | (obtain ⟨i,B,off,all,b,rfl,hr⟩:=h; rfl)
theorem qEf {m : Mp} : ∀ {xs : List AV} {cs : List Value}, VRs m xs cs → xs.all one1 = true → ∀ c ∈ cs, c.oneCell' = true
 | [],cs,h,_=>by simp only [VRs] at h; subst h; simp
 | x::xs,cs,h,k=>by
  simp only [VRs] at h
  obtain ⟨y,ys,rfl,a,b⟩:=h
  simp only [List.all_cons,Bool.and_eq_true] at k
  intro c hc
  rcases List.mem_cons.1 hc with rfl | hc
  ·exact one1_ok a k.1
  ·exact qEf b k.2 c hc
theorem qFf {m : Mp} {H H' : Hp} {w : World} {base : Nat} {cells : List AV} {v : AV} (h : alloc1 H cells = some (v, H')) (rw : RW m H w base) (cs : Array Value) (ty : TypeId) (fr : Nat × Nat) (hf : Free fr cs.size) (hl : cells.length ≤ cs.size)
 (hrel:VRs m cells (cs.toList.take cells.length)) :
 v = .ptr H.next cells.length 0∧∃ m',m' H.next cells.length=some (w.heap.size,cs.size)∧RW m' H' (wnew w (.cells cs ty fr)) base∧St m w base m' (wnew w (.cells cs ty fr)):=by
 unfold alloc1 at h
 split at h
 ·rename_i hlow
  cases h
  obtain ⟨a,b⟩:=rw.alloc hlow cells cs ty fr hf hl hrel
  exact ⟨rfl,_,Mp.add_same _ _ _ _,a,b⟩
 ·cases h
theorem free0 (n:Nat):Free (0,0) n:=λi _=>by simp
theorem qIp {m : Mp} {H : Hp} {w : World} {base : Nat} {r v off n B N : Nat} {xs : List AV} (h : rd H r v off n = some xs) (rw : RW m H w base) (hm : m r v = some (B, N)) :
 xs.length=n∧∃ l:List Value,VRs m xs l∧∀ (j:Nat) (c:Value),l[j]? = some c→w.cell? ⟨B,off+j,none⟩=some c:=by
 unfold rd at h
 cases g:H.t.get r with
 | none=>simp [g] at h
 | some b =>
  simp only [g] at h
  cases hcc:(Nat.ble b.minv v && Nat.ble (off+n) v) with
  | true =>
   rw [hcc] at h
   have hc:b.minv≤v∧off+n≤v:=by simpa [Bool.and_eq_true] using hcc
   cases h
   obtain ⟨b0,a,hv,hB,_⟩:=rw.dom _ _ _ _ hm
   rw [g] at a; cases a
   obtain ⟨cs,ty,fr,k,q,u,x,o⟩:=rw.blk _ _ _ _ _ g hm hc.1 hv
   have hlen:((b.cells.drop off).take n).length=n:=by simp; omega
   refine ⟨hlen,((cs.toList.take v).drop off).take n,?_,?_⟩
   ·have:=VRs.take n (VRs.drop off o)
    rw [show (b.cells.drop off).take n=((b.cells.take v).drop off).take n from ?_]
    ·exact this
    ·rw [List.drop_take,List.take_take,Nat.min_eq_left (by omega)]
   ·intro j c hj
    rw [cell_of w B _ cs ty fr k]
    rw [List.getElem?_take] at hj
    split at hj
    ·rename_i hjn
     rw [List.getElem?_drop,List.getElem?_take] at hj
     split at hj
     ·simpa using hj
     ·cases hj
    ·cases hj
  | false=>rw [hcc] at h; cases h
theorem qMz {m : Mp} {H : Hp} {w : World} {base : Nat} {cells : List AV} {c : Value} (h : VR m (.vptr cells) c) (rw : RW m H w base) :
 ∃ B off,c = .pointer (some ⟨B,off,none⟩)∧∃ l:List Value,VRs m cells l∧∀ (j:Nat) (d:Value),l[j]? = some d→w.cell? ⟨B,off+j,none⟩=some d:=by
 simp only [VR] at h
 obtain ⟨i,B,off,all,hi,rfl,hc,hl⟩:=h
 obtain ⟨cs,ty,fr,b,g,a⟩:=rw.frz _ _ _ hi
 have a:=VRs.mono (qHj m) _ _ a
 refine ⟨B,off,rfl,((cs.toList.take all.length).drop off).take cells.length,?_,?_⟩
 ·rw [← hc,hc]
  have:=VRs.take cells.length (VRs.drop off a)
  rw [hc] at this
  exact this
 ·intro j d hj
  rw [cell_of w B _ cs ty fr b]
  rw [List.getElem?_take] at hj
  split at hj
  ·rw [List.getElem?_drop,List.getElem?_take] at hj
   split at hj
   ·simpa using hj
   ·cases hj
  ·cases hj
theorem qNl {H:Hp} {r v off n:Nat} {xs:List AV} (h:rd H r v off n=some xs) (a:n=0):xs=[]:=by
 subst a
 unfold rd at h
 split at h
 ·rename_i b _
  cases hcc:(Nat.ble b.minv v && Nat.ble (off+0) v) <;> rw [hcc] at h <;> simp at h
  exact h
 ·cases h
theorem qBz {P:Program} {w:World} {B off:Nat} {l:List Value} (h:∀ (j:Nat) (c:Value),l[j]? = some c→w.cell? ⟨B,off+j,none⟩=some c):(loadCells ⟨B,off,none⟩ l.length).run P w = .ok l.toArray w :=
 run_loadCells_list w _ _ (λj v hj=>by rw [addr_add]; exact h j v hj)
theorem VRs.len {m:Mp} {xs:List AV} {cs:List Value} (h:VRs m xs cs):cs.length=xs.length:=(VRs.length h).symm
theorem wr_ok {P : Program} {m : Mp} {H H' : Hp} {w : World} {base : Nat} {r v off B N : Nat} {vs : List AV} (h : wr H r v off vs = some H') (rw : RW m H w base) (hm : m r v = some (B, N)) {us : List Value} (hu : VRs m vs us) :
 ∃ w',(storeCells ⟨B,off,none⟩ us).run P w = .ok () w'∧RW m H' w' base∧St m w base m w':=by
 unfold wr at h
 cases a:H.t.get r with
 | none=>simp [a] at h
 | some b =>
  simp only [a] at h
  split at h
  ·rename_i hc
   obtain ⟨hro,rfl,hmin,hoff,hall,hne⟩:=hc
   cases h
   obtain ⟨b0,c,hv,hB,_⟩:=rw.dom _ _ _ _ hm
   rw [a] at c; cases c
   obtain ⟨cs,ty,fr,g,k,q,l,j⟩:=rw.blk _ _ _ _ _ a hm hmin hv
   have hlen:=VRs.len hu
   have hune:us ≠ []:=by
    intro e; subst e
    cases vs with
    | nil=>simp at hne
    | cons=>simp at hlen
   have hst:=qB8 P B off ty fr us 0 cs w g (by omega) (by rw [k]; exact l hro) (qEf hu hall)
   rw [if_neg hune,Nat.add_zero] at hst
   rw [List.take_of_length_le (Nat.le_refl _)] at j
   obtain ⟨n,o⟩:=rw.upd a hro hm hmin g (cs':=putA cs off us) (qDh _ _ _) (cells':=putL b.cells off vs) (qD9 _ _ _) (VRs.put off _ j hu)
   exact ⟨_,hst,n,o⟩
  ·cases h
theorem Good.alloc {P : Program} {s : Sem Next} {m : Mp} {H H' : Hp} {w : World} {base : Nat} {cells : List AV} {v : AV} (h : alloc1 H cells = some (v, H')) (rw : RW m H w base) (cs : Array Value) (ty : TypeId)
 (hrel:VRs m cells cs.toList) (hr:s.run P w = .ok (.value (.pointer (some ⟨w.heap.size,0,none⟩))) (wnew w (.cells cs ty (0,0)))):Good P s m w base v H':=by
 have hl:cells.length=cs.size:=by simpa using VRs.length hrel
 obtain ⟨rfl,m',a,b,c⟩:=qFf h rw cs ty (0,0) (free0 _) (by omega) (by rw [List.take_of_length_le (by simp; omega)]; exact hrel)
 refine ⟨m',_,b,c,.inl ⟨_,hr,?_⟩⟩
 simp only [VR]
 exact ⟨_,_,a,rfl⟩
theorem op_alloc {P : Program} {C : Cx} (hti : ∀ t i, C.ti t = some i → mkTi P t = some i) {m : Mp} {H H' : Hp} {w : World} {base : Nat} {t : Nat} {i : Ti} {z : List AV} {v : AV} (ht : C.ti t = some i) (hz : i.zero = some z) (h : alloc1 H z = some (v, H')) (rw : RW m H w base) :
 Good P (do pure (.value (← Instr.alloc t true (.tuple #[])))) m w base v H':=by
 obtain ⟨c,hc,rfl⟩:=qDr (hti _ _ ht) hz w
 refine Good.alloc h rw c.cells t (qCu m _) ?_
 simp [Instr.alloc,hc,newVar,newRow,newObj,Sem.run,wnew]
theorem op_box {P : Program} {m : Mp} {H H' : Hp} {w : World} {base : Nat} {t : Nat} {x v : AV} {c : Value} (a : x.is = true) (hv : VR m x c) (h : alloc1 H (cellsOf x) = some (v, H')) (rw : RW m H w base) :
 Good P (do pure (.value (← Instr.box t c))) m w base v H':=by
 refine Good.alloc h rw c.cells t (qD2 hv a) ?_
 simp [Instr.box,newVar,newRow,newObj,Sem.run,wnew]
theorem qGz {m:Mp} {xs:List AV} {l:List Value} {agg:Bool} {x:AV} (h:mkVal agg xs=some x) (hv:VRs m xs l):VR m x (if agg then .agg l.toArray else l.getD 0 undef):=by
 unfold mkVal at h
 cases agg with
 | true=>simp at h; subst h; simp only [VR,if_true]; exact ⟨l.toArray,rfl,by simpa using hv⟩
 | false =>
  simp only [Bool.false_eq_true,if_false] at h ⊢
  match xs,h with
  | [y],h =>
   cases h
   simp only [VRs] at hv
   obtain ⟨c,cs,rfl,a,rfl⟩:=hv
   exact a
theorem qIs {P : Program} {C : Cx} (hti : ∀ t i, C.ti t = some i → mkTi P t = some i) {m : Mp} {H : Hp} {w : World} {base : Nat} {t : Nat} {i : Ti} {r v off : Nat} {c : Value} {xs : List AV} {x : AV} (ht : C.ti t = some i) (hp : VR m (.ptr r v off) c) (h : rd H r v off i.size = some xs) (a : mkVal i.kind.isAgg xs = some x) (rw : RW m H w base) :
 ∃ d,(loadVar t (match c with | .pointer (some b)=>b | _=>default)).run P w = .ok d w∧VR m x d:=by
 simp only [VR] at hp
 obtain ⟨B,N,hm,rfl⟩:=hp
 obtain ⟨hl,l,hv,hc⟩:=qIp h rw hm
 have hll:=VRs.len hv
 refine ⟨_,?_,qGz a hv⟩
 show (loadVar t ⟨B,off,none⟩).run P w = .ok (if i.kind.isAgg then .agg l.toArray else l.getD 0 undef) w
 unfold loadVar
 simp only [Sem.run_bind,qKa (hti _ _ ht) w,Result.andThen_ok]
 cases hk:i.kind.isAgg with
 | true =>
  simp only [if_true,Sem.run_bind,qAf (hti _ _ ht) w,Result.andThen_ok]
  rw [show i.size=l.length by omega,qBz hc]
  rfl
 | false =>
  simp only [hk] at a
  unfold mkVal at a
  simp only [Bool.false_eq_true,if_false] at a
  match xs,a,hl,hll with
  | [y],a,hl,hll =>
   match l,hll,hc with
   | [u],hll,hc =>
    have:=hc 0 u rfl
    simp only [Nat.add_zero] at this
    simp [this]
theorem op_load {P : Program} {C : Cx} (hti : ∀ t i, C.ti t = some i → mkTi P t = some i) {m : Mp} {H : Hp} {w : World} {base : Nat} {t : Nat} {i : Ti} {r v off : Nat} {c : Value} {xs : List AV} {x : AV} (ht : C.ti t = some i) (hp : VR m (.ptr r v off) c) (h : rd H r v off i.size = some xs) (a : mkVal i.kind.isAgg xs = some x) (rw : RW m H w base) :
 Good P (do pure (.value (← Instr.loadAt t c))) m w base x H:=by
 simp only [VR] at hp
 obtain ⟨B,N,hm,rfl⟩:=hp
 obtain ⟨hl,l,hv,hc⟩:=qIp h rw hm
 have hll:=VRs.len hv
 refine Good.val _ ?_ rw (qGz a hv)
 have hload:(loadVar t ⟨B,off,none⟩).run P w = .ok (if i.kind.isAgg then .agg l.toArray else l.getD 0 undef) w:=by
  unfold loadVar
  simp only [Sem.run_bind,qKa (hti _ _ ht) w,Result.andThen_ok]
  cases hk:i.kind.isAgg with
  | true =>
   simp only [if_true,Sem.run_bind,qAf (hti _ _ ht) w,Result.andThen_ok]
   rw [show i.size=l.length by omega,qBz hc]
   rfl
  | false =>
   simp only [hk] at a
   unfold mkVal at a
   simp only [Bool.false_eq_true,if_false] at a
   match xs,a,hl,hll with
   | [y],a,hl,hll =>
    match l,hll,hc with
    | [u],hll,hc =>
     have:=hc 0 u rfl
     simp only [Nat.add_zero] at this
     simp [this]
 simp [Instr.loadAt,Instr.sureAddr,hload]
theorem qNs {P : Program} {C : Cx} (hti : ∀ t i, C.ti t = some i → mkTi P t = some i) {m : Mp} {H : Hp} {w : World} {base : Nat} {t : Nat} {i : Ti} {cells : List AV} {c : Value} {x : AV} (ht : C.ti t = some i) (hp : VR m (.vptr cells) c) (hle : i.size ≤ cells.length) (a : mkVal i.kind.isAgg (cells.take i.size) = some x) (rw : RW m H w base) :
 Good P (do pure (.value (← Instr.loadAt t c))) m w base x H:=by
 obtain ⟨B,off,rfl,h,b,g⟩:=qMz hp rw
 have hll0:=VRs.len b
 have hv:=VRs.take i.size b
 have hc:∀ (j:Nat) (d:Value),(h.take i.size)[j]? = some d→w.cell? ⟨B,off+j,none⟩=some d:=by
  intro j d hj
  rw [List.getElem?_take] at hj
  split at hj
  ·exact g j d hj
  ·cases hj
 have hl:(cells.take i.size).length=i.size:=by rw [List.length_take]; omega
 generalize h.take i.size=l at hv hc
 generalize cells.take i.size=xs at hv a hl
 have hll:=VRs.len hv
 refine Good.val (if i.kind.isAgg then .agg l.toArray else l.getD 0 undef) ?_ rw (qGz a hv)
 have hload:(loadVar t ⟨B,off,none⟩).run P w = .ok (if i.kind.isAgg then .agg l.toArray else l.getD 0 undef) w:=by
  simp only [loadVar,Sem.run_bind,qKa (hti _ _ ht) w,Result.andThen_ok]
  cases hk:i.kind.isAgg with
  | true =>
   simp only [if_true,Sem.run_bind,qAf (hti _ _ ht) w,Result.andThen_ok]
   rw [show i.size=l.length by omega,qBz hc]
   rfl
  | false =>
   simp only [hk] at a
   unfold mkVal at a
   simp only [Bool.false_eq_true,if_false] at a
   match xs,a,hl,hll with
   | [y],a,hl,hll =>
    match l,hll,hc with
    | [u],hll,hc =>
     have:=hc 0 u rfl
     simp only [Nat.add_zero] at this
     simp [this]
 simp [Instr.loadAt,Instr.sureAddr,hload]
theorem op_store {P : Program} {C : Cx} (hti : ∀ t i, C.ti t = some i → mkTi P t = some i) {m : Mp} {H H' : Hp} {w : World} {base : Nat} {t : Nat} {i : Ti} {r v off : Nat} {c d : Value} {x : AV} (ht : C.ti t = some i) (hp : VR m (.ptr r v off) c) (hv : VR m x d) (a : x.is = true) (hl : (cellsOf x).length = i.size)
 (h:wr H r v off (cellsOf x)=some H') (rw:RW m H w base) :
 Good P (do Instr.storeAt t c d; pure .skip) m w base .top H':=by
 simp only [VR] at hp
 obtain ⟨B,N,hm,rfl⟩:=hp
 have hcs:=qD2 hv a
 obtain ⟨w',b,g,j⟩:=wr_ok (P:=P) h rw hm hcs
 refine ⟨m,w',g,j,.inr ⟨?_,rfl⟩⟩
 have hlen:d.cells.size=i.size:=by have:=VRs.len hcs; simp at this; omega
 simp [Instr.storeAt,Instr.sureAddr,storeVar,qAf (hti _ _ ht) w,hlen,b]
theorem qNr {P : Program} {C : Cx} (hti : ∀ t i, C.ti t = some i → mkTi P t = some i) {m : Mp} {H : Hp} {w : World} {base : Nat} {t : Nat} {i : Ti} {r v off : Nat} {c d : Value} {x : AV} (ht : C.ti t = some i) (hp : VR m (.ptr r v off) c) (hv : VR m x d) (a : x.is = true) (hl : (cellsOf x).length = i.size) (b : i.size = 0) (rw : RW m H w base) :
 Good P (do Instr.storeAt t c d; pure .skip) m w base .top H:=by
 simp only [VR] at hp
 obtain ⟨B,N,hm,rfl⟩:=hp
 have hcs:=qD2 hv a
 have hlen:d.cells.size=i.size:=by have:=VRs.len hcs; simp at this; omega
 have hnil:d.cells.toList=[]:=List.length_eq_zero_iff.1 (by rw [Array.length_toList]; omega)
 refine ⟨m,w,rw,St.refl _ _ _,.inr ⟨?_,rfl⟩⟩
 simp [Instr.storeAt,Instr.sureAddr,storeVar,qAf (hti _ _ ht) w,hlen,hnil,storeCells]
theorem qAt (k:IntKind) (n:Int):fW k n=k.wrap n:=by
 unfold fW
 split
 ·rename_i h
  simp only [Bool.and_eq_true,decide_eq_true_eq] at h
  obtain ⟨a,b⟩:=h
  cases k <;> simp only [lo,hi] at a b <;> simp [IntKind.wrap,IntKind.bits,IntKind.signed] <;> (try split) <;> omega
 ·rfl
theorem qNt {P:Program} {m:Mp} {w:World} {t:Nat} {op:BinOp} {k:IntKind} {a b:Int} {v:AV} (h:intBin op k a b=some v):∃ c,(binOp op t (.int k a) (.int k b)).run P w = .ok c w∧VR m v c:=by
 cases op
 case quo =>
  simp only [intBin,qAt] at h
  by_cases g:b=0
  ·rw [if_pos g] at h; cases h
  ·rw [if_neg g] at h; cases h
   exact ⟨.int k (k.wrap (a.tdiv b)),by simp [binOp,Op.intDiv,g],by simp [VR]⟩
 case rem =>
  simp only [intBin] at h
  by_cases g:b=0
  ·rw [if_pos g] at h; cases h
  ·rw [if_neg g] at h; cases h
   exact ⟨.int k (a.tmod b),by simp [binOp,Op.intDiv,g],by simp [VR]⟩
 case eql=>simp only [intBin] at h; cases h; exact ⟨.bool (a == b),by simp [binOp,Op.intCmp],by simp only [VR]; rfl⟩
 case neq=>simp only [intBin] at h; cases h; exact ⟨.bool (a != b),by simp [binOp,Op.intCmp],by simp only [VR]; rfl⟩
 case add=>simp only [intBin,qAt] at h; cases h; exact ⟨.int k (k.wrap (a+b)),by simp [binOp,Op.intArith,Op.intBits,Op.intCmp],by simp only [VR]⟩
 case sub=>simp only [intBin,qAt] at h; cases h; exact ⟨.int k (k.wrap (a - b)),by simp [binOp,Op.intArith,Op.intBits,Op.intCmp],by simp only [VR]⟩
 case mul=>simp only [intBin,qAt] at h; cases h; exact ⟨.int k (k.wrap (a * b)),by simp [binOp,Op.intArith,Op.intBits,Op.intCmp],by simp only [VR]⟩
 case and=>simp only [intBin,qAt] at h; cases h; exact ⟨.int k (k.wrap (BitVec.ofInt k.bits a &&& BitVec.ofInt k.bits b).toNat),by simp [binOp,Op.intArith,Op.intBits,Op.intCmp],by simp only [VR]⟩
 case or=>simp only [intBin,qAt] at h; cases h; exact ⟨.int k (k.wrap (BitVec.ofInt k.bits a ||| BitVec.ofInt k.bits b).toNat),by simp [binOp,Op.intArith,Op.intBits,Op.intCmp],by simp only [VR]⟩
 case xor=>simp only [intBin,qAt] at h; cases h; exact ⟨.int k (k.wrap (BitVec.ofInt k.bits a ^^^ BitVec.ofInt k.bits b).toNat),by simp [binOp,Op.intArith,Op.intBits,Op.intCmp],by simp only [VR]⟩
 case andNot=>simp only [intBin,qAt] at h; cases h; exact ⟨.int k (k.wrap (BitVec.ofInt k.bits a &&& ~~~ BitVec.ofInt k.bits b).toNat),by simp [binOp,Op.intArith,Op.intBits,Op.intCmp],by simp only [VR]⟩
 case lss=>simp only [intBin,qAt] at h; cases h; exact ⟨.bool (decide (a < b)),by simp [binOp,Op.intArith,Op.intBits,Op.intCmp],by simp only [VR]⟩
 case leq=>simp only [intBin,qAt] at h; cases h; exact ⟨.bool (decide (a≤b)),by simp [binOp,Op.intArith,Op.intBits,Op.intCmp],by simp only [VR]⟩
 case gtr=>simp only [intBin,qAt] at h; cases h; exact ⟨.bool (decide (b < a)),by simp [binOp,Op.intArith,Op.intBits,Op.intCmp],by simp only [VR]⟩
 case geq=>simp only [intBin,qAt] at h; cases h; exact ⟨.bool (decide (b≤a)),by simp [binOp,Op.intArith,Op.intBits,Op.intCmp],by simp only [VR]⟩
 all_goals (simp only [intBin] at h; cases h)
theorem qFb : ∀ (x y : LN), eqL x y = true ↔ x = y
 | [],[]=>by simp [eqL]
 | [],b::y=>by simp [eqL]
 | a::x,[]=>by simp [eqL]
 | a::x,b::y=>by simp [eqL,qFb x y]
theorem qKu : ∀ (x y : List UInt8), lessL (x.map (·.toNat)) (y.map (·.toNat)) = Op.bytesLess x y
 | [],[]=>by simp [lessL,Op.bytesLess]
 | [],b::y=>by simp [lessL,Op.bytesLess]
 | a::x,[]=>by simp [lessL,Op.bytesLess]
 | a::x,b::y=>by
  simp only [List.map_cons,lessL,Op.bytesLess,qKu x y]
  congr 1
  ·rw [Bool.eq_iff_iff]; simp [UInt8.lt_iff_toNat_lt]
  ·congr 1
   rw [Bool.eq_iff_iff]; simp [← UInt8.toNat_inj]
theorem eqL_eq (x y:List UInt8):eqL (x.map (·.toNat)) (y.map (·.toNat))=(x == y):=by
 rw [Bool.eq_iff_iff,qFb,beq_iff_eq]
 exact ⟨λh=>List.map_inj_right (λa b e=>UInt8.toNat_inj.1 e) |>.1 h,λh=>by rw [h]⟩
theorem qNq {P:Program} {m:Mp} {w:World} {t:Nat} {op:BinOp} {a b:ByteArray} {v:AV} (h:strBin op (a.data.toList.map (·.toNat)) (b.data.toList.map (·.toNat))=some v):∃ c,(binOp op t (.string a) (.string b)).run P w = .ok c w∧VR m v c:=by
 cases op <;> simp only [strBin,eqL_eq,qKu] at h <;> try (cases h; done)
 case add =>
  split at h
  ·rename_i hl
   cases h
   have hs:¬ ((a.size+b.size:Nat):Int) > IntKind.i64.max:=by
    simp only [List.length_map] at hl
    have g:a.data.toList.length=a.size:=rfl
    have j:b.data.toList.length=b.size:=rfl
    rw [g,j] at hl
    simp [IntKind.max,IntKind.signed,IntKind.bits]
    omega
   refine ⟨.string (a++b),?_,?_⟩
   ·simp only [binOp,Op.stringOp]
    rw [if_neg hs]
    rfl
   ·simp only [VR]
    exact ⟨_,rfl,by simp⟩
  ·cases h
 case eql=>cases h; exact ⟨.bool (a.data.toList == b.data.toList),by simp [binOp,Op.stringOp,ByteArray.toList_eq],by simp only [VR]⟩
 case neq=>cases h; exact ⟨.bool (!(a.data.toList == b.data.toList)),by simp [binOp,Op.stringOp,ByteArray.toList_eq],by simp only [VR]⟩
 case lss=>cases h; exact ⟨.bool (Op.bytesLess a.data.toList b.data.toList),by simp [binOp,Op.stringOp,ByteArray.toList_eq],by simp only [VR]⟩
 case leq=>cases h; exact ⟨.bool (Op.bytesLess a.data.toList b.data.toList || a.data.toList == b.data.toList),by simp [binOp,Op.stringOp,ByteArray.toList_eq],by simp only [VR]⟩
 case gtr=>cases h; exact ⟨.bool (!(Op.bytesLess a.data.toList b.data.toList || a.data.toList == b.data.toList)),by simp [binOp,Op.stringOp,ByteArray.toList_eq],by simp only [VR]⟩
 case geq=>cases h; exact ⟨.bool (!Op.bytesLess a.data.toList b.data.toList),by simp [binOp,Op.stringOp,ByteArray.toList_eq],by simp only [VR]⟩
theorem qMi {P:Program} {t:TypeId} (h:kindT P t = .bool):P.underlying t=some .bool:=by
 unfold kindT at h
 cases hu:P.underlying t with
 | none=>rw [hu] at h; cases h
 | some d=>rw [hu] at h; cases d <;> simp [Tk.of] at h; rfl
theorem qI0 {P:Program} {t:TypeId} (h:kindT P t = .string):P.underlying t=some .string:=by
 unfold kindT at h
 cases hu:P.underlying t with
 | none=>rw [hu] at h; cases h
 | some d=>rw [hu] at h; cases d <;> simp [Tk.of] at h; rfl
theorem qO6 {P:Program} {t:TypeId} {k:IntKind} (h:kindT P t = .int k):P.underlying t=some (.int k):=by
 unfold kindT at h
 cases hu:P.underlying t with
 | none=>rw [hu] at h; cases h
 | some d=>rw [hu] at h; cases d <;> simp [Tk.of] at h; rw [h]
theorem qN9 {P : Program} {m : Mp} {w : World} {t : TypeId} {x y : AV} {c d : Value} {r : Bool} (h : scalEq (kindT P t) x y = some r) (a : VR m x c) (hy : VR m y d) :
 (Op.equalIn 9999 t c d).run P w = .ok r w∧(isAgg t).run P w = .ok false w:=by
 cases hk:kindT P t <;> rw [hk] at h <;> cases x <;> cases y <;> simp only [scalEq] at h <;> try (cases h; done)
 ·cases h
  simp only [VR] at a hy
  subst a; subst hy
  have hu:=qMi hk
  exact ⟨run_equalIn_bool' w 9998 t _ _ hu,by simp [isAgg,run_underlying hu]⟩
 ·split at h
  ·rename_i e
   cases h
   subst e
   simp only [VR] at a hy
   subst a; subst hy
   have hu:=qO6 hk
   refine ⟨?_,by simp [isAgg,run_underlying hu]⟩
   rw [run_equalIn_int w 9998 t _ _ _ _ hu]
   rfl
  ·cases h
 ·cases h
  simp only [VR] at a hy
  obtain ⟨s,rfl,rfl⟩:=a
  obtain ⟨u,rfl,rfl⟩:=hy
  have hu:=qI0 hk
  refine ⟨?_,by simp [isAgg,run_underlying hu]⟩
  rw [run_equalIn_string w 9998 t _ _ hu,eqL_eq,ByteArray.toList_eq,ByteArray.toList_eq]
theorem VRs.cons_drop {m:Mp} {x:AV} {xs:List AV} {cs:Array Value} {i:Nat} (h:VRs m (x::xs) (cs.toList.drop i)):∃ c,cs[i]? = some c∧VR m x c∧VRs m xs (cs.toList.drop (i+1)):=by
 simp only [VRs] at h
 obtain ⟨y,ys,e,b,g⟩:=h
 have a:(cs.toList.drop i)[0]? = some y:=by rw [e]; rfl
 rw [List.getElem?_drop] at a
 refine ⟨y,by simpa using a,b,?_⟩
 have:cs.toList.drop (i+1)=(cs.toList.drop i).drop 1:=by rw [List.drop_drop]
 rw [this,e]
 exact g
theorem qBx {P:Program} {w:World} {t:TypeId} {cs:Array Value} {i:Nat} {c:Value} (ha:(isAgg t).run P w = .ok false w) (hc:cs[i]? = some c):(part t cs i).run P w = .ok c w:=by
 simp [part,ha,hc]
theorem qFc {P : Program} {m : Mp} {w : World} {xs ys : Array Value} : ∀ (fs : List Field) (i : Nat) (as bs : List AV) (r : Bool), fs.map (·.offset) = List.range' i fs.length → (fs.all (λf => f.name != "_")) = true → VRs m as (xs.toList.drop i) → VRs m bs (ys.toList.drop i) →
 aggEq (fs.map λf=>kindT P f.type) as bs=some r→(Op.eqFields 9999 xs ys fs).run P w = .ok r w
 | [],i,as,bs,r,_,_,_,_,h=>by
  cases as <;> cases bs <;> simp only [List.map_nil,aggEq] at h <;> cases h
  simp [Op.eqFields]
 | f::fs,i,as,bs,r,ho,j,ha,l,h=>by
  cases as with
  | nil=>simp [aggEq] at h
  | cons a as =>
   cases bs with
   | nil=>simp [aggEq] at h
   | cons b bs =>
    simp only [List.map_cons,aggEq] at h
    simp only [List.map_cons,List.length_cons,List.range'_succ,List.cons.injEq] at ho
    simp only [List.all_cons,Bool.and_eq_true] at j
    obtain ⟨c,hc,hca,ha'⟩:=VRs.cons_drop ha
    obtain ⟨d,hd,hdb,hb'⟩:=VRs.cons_drop l
    cases g:scalEq (kindT P f.type) a b with
    | none=>rw [g] at h; cases h
    | some n =>
     cases k:aggEq (fs.map λf=>kindT P f.type) as bs with
     | none=>rw [g,k] at h; cases h
     | some o =>
      rw [g,k] at h
      cases h
      obtain ⟨q,e2⟩:=qN9 (w:=w) g hca hdb
      have ih:=qFc (P:=P) (w:=w) fs (i+1) as bs o ho.2 j.2 ha' hb' k
      have hne:f.name ≠ "_" := by simpa using j.1
      simp only [Op.eqFields,hne,ne_eq,not_false_eq_true,if_true,Sem.run_bind,ho.1,qBx e2 hc,qBx e2 hd,q,Result.andThen_ok]
      cases n
      ·simp
      ·simpa using ih
theorem qGg {P : Program} {m : Mp} {w : World} {e : TypeId} {xs ys : Array Value} : ∀ (n i : Nat) (as bs : List AV) (r : Bool), VRs m as (xs.toList.drop i) → VRs m bs (ys.toList.drop i) →
 aggEq (List.replicate n (kindT P e)) as bs=some r→(Op.eqItems 9999 e 1 xs ys (List.range' i n)).run P w = .ok r w
 | 0,i,as,bs,r,_,_,h=>by
  cases as <;> cases bs <;> simp only [List.replicate_zero,aggEq] at h <;> cases h
  simp [Op.eqItems]
 | n+1,i,as,bs,r,ha,k,h=>by
  cases as with
  | nil=>simp [List.replicate_succ,aggEq] at h
  | cons a as =>
   cases bs with
   | nil=>simp [List.replicate_succ,aggEq] at h
   | cons b bs =>
    simp only [List.replicate_succ,aggEq] at h
    obtain ⟨c,hc,hca,ha'⟩:=VRs.cons_drop ha
    obtain ⟨d,hd,hdb,hb'⟩:=VRs.cons_drop k
    cases g:scalEq (kindT P e) a b with
    | none=>rw [g] at h; cases h
    | some l =>
     cases j:aggEq (List.replicate n (kindT P e)) as bs with
     | none=>rw [g,j] at h; cases h
     | some o =>
      rw [g,j] at h
      cases h
      obtain ⟨q,e2⟩:=qN9 (w:=w) g hca hdb
      have ih:=qGg (P:=P) (w:=w) n (i+1) as bs o ha' hb' j
      simp only [List.range'_succ,Op.eqItems,Nat.mul_one,Sem.run_bind,qBx e2 hc,qBx e2 hd,q,Result.andThen_ok]
      cases l
      ·simp
      ·simpa using ih
theorem agg_eq {P : Program} {m : Mp} {w : World} {t : TypeId} {d : TypeDesc} {ks : List Tk} (hu : P.underlying t = some d) (hf : flatOf P t d = some ks) {as bs : List AV} {xs ys : Array Value} (ha : VRs m as xs.toList) (g : VRs m bs ys.toList) {r : Bool} (h : aggEq ks as bs = some r) :
 (Op.equalIn 10000 t (.agg xs) (.agg ys)).run P w = .ok r w∧P.eqGuardType P.depth t=false:=by
 cases d <;> simp only [flatOf] at hf <;> try (cases hf; done)
 case struct fs =>
  split at hf
  ·rename_i hc
   cases hf
   simp only [Bool.and_eq_true,Bool.not_eq_true',beq_iff_eq] at hc
   obtain ⟨⟨⟨a,b⟩,c⟩,j⟩:=hc
   have hfs:P.fieldsOf t=fs:=by simp [Program.fieldsOf,hu]
   refine ⟨?_,b⟩
   rw [run_equalIn_struct w 9999 t xs ys (by rw [hfs]; exact hu) a,hfs]
   exact qFc fs.toList 0 as bs r c j (by simpa using ha) (by simpa using g) h
  ·cases hf
 case array n e =>
  split at hf
  ·rename_i hc
   cases hf
   simp only [Bool.and_eq_true,Bool.not_eq_true',beq_iff_eq] at hc
   obtain ⟨⟨a,b⟩,c⟩:=hc
   obtain ⟨i,hi⟩:=Option.isSome_iff_exists.1 b
   refine ⟨?_,a⟩
   rw [run_equalIn_array (w:=w) 9999 xs ys hu hi,c,List.range_eq_range']
   exact qGg n 0 as bs r (by simpa using ha) (by simpa using g) h
  ·cases hf
section
variable {P:Program} (w:World) (d:Nat) {t e:TypeId}
theorem qF8 (h:P.underlying t=some (.pointer e)) (a:Addr):(Op.equalIn (d+1) t (.pointer (some a)) (.pointer none)).run P w = .ok false w:=by simp [Op.equalIn,run_underlying h]
theorem qF9 (h:P.underlying t=some (.pointer e)) (a:Addr):(Op.equalIn (d+1) t (.pointer none) (.pointer (some a))).run P w = .ok false w:=by simp [Op.equalIn,run_underlying h]
theorem qFa (h:P.underlying t=some (.pointer e)):(Op.equalIn (d+1) t (.pointer none) (.pointer none)).run P w = .ok true w:=by simp [Op.equalIn,run_underlying h]
theorem qMs (h:P.underlying t=some (.slice e)) (a:Addr) (l c:Nat):(Op.equalIn (d+1) t (.slice (some a) l c) (.slice none 0 0)).run P w = .ok false w:=by simp [Op.equalIn,run_underlying h]
theorem qMt (h:P.underlying t=some (.slice e)):(Op.equalIn (d+1) t (.slice none 0 0) (.slice none 0 0)).run P w = .ok true w:=by simp [Op.equalIn,run_underlying h]
theorem qQe {ms:Array (String×TypeId)} (h:P.underlying t=some (.interface ms)):(Op.equalIn (d+1) t .nilIface .nilIface).run P w = .ok true w:=by simp [Op.equalIn,run_underlying h]
theorem qH9 {ms:Array (String×TypeId)} (h:P.underlying t=some (.interface ms)) (u:TypeId) (v:Value):(Op.equalIn (d+1) t (.iface u v) .nilIface).run P w = .ok false w:=by simp [Op.equalIn,run_underlying h]
end
theorem eqK_ok {P : Program} {m : Mp} {w : World} {t : TypeId} {i : Ti} (ht : mkTi P t = some i) {x y : AV} {c d : Value} {r : Bool} (h : eqK i x y = some r) (a : VR m x c) (hy : VR m y d) (ox oy : Operand) :
 (Op.equal t c d).run P w = .ok r w∧(eqGuard .eql t ox oy c d).run P w = .ok () w∧(eqGuard .neq t ox oy c d).run P w = .ok () w∧(∀ k n k' n',¬ (c = .int k n∧d = .int k' n'))∧(∀ s s',¬ (c = .string s∧d = .string s')):=by
 unfold eqK at h
 split at h
 ·rename_i hk
  cases h
  simp only [VR] at a hy
  subst a; subst hy
  exact ⟨run_equalIn_bool' w 9999 t _ _ (ti_bool ht hk),by simp [eqGuard],by simp [eqGuard],by simp,by simp⟩
 ·rename_i hk
  cases h
  simp only [VR] at a hy
  obtain ⟨B,N,_,rfl⟩:=a
  subst hy
  exact ⟨qF8 w 9999 (qBb ht hk) _,by simp [eqGuard],by simp [eqGuard],by simp,by simp⟩
 ·rename_i hk
  cases h
  simp only [VR] at a hy
  obtain ⟨B,N,_,rfl⟩:=hy
  subst a
  exact ⟨qF9 w 9999 (qBb ht hk) _,by simp [eqGuard],by simp [eqGuard],by simp,by simp⟩
 ·rename_i hk
  cases h
  simp only [VR] at a hy
  subst a; subst hy
  exact ⟨qFa w 9999 (qBb ht hk),by simp [eqGuard],by simp [eqGuard],by simp,by simp⟩
 ·rename_i hk
  cases h
  simp only [VR] at a hy
  obtain ⟨B,N,cap,_,_,_,_,rfl⟩:=a
  subst hy
  exact ⟨qMs w 9999 (qAl ht hk) _ _ _,by simp [eqGuard],by simp [eqGuard],by simp,by simp⟩
 ·rename_i hk
  cases h
  simp only [VR] at a hy
  subst a; subst hy
  exact ⟨qMt w 9999 (qAl ht hk),by simp [eqGuard],by simp [eqGuard],by simp,by simp⟩
 ·rename_i hk
  cases h
  obtain ⟨ms,hu⟩:=(qEc ht).1 hk
  simp only [VR] at a hy
  obtain ⟨e,rfl,_⟩:=a
  subst hy
  exact ⟨qH9 w 9999 hu _ _,by simp [eqGuard],by simp [eqGuard],by simp,by simp⟩
 ·cases hf:i.flat with
  | none=>rw [hf] at h; cases h
  | some ks =>
   rw [hf] at h
   simp only [VR] at a hy
   obtain ⟨cs,rfl,b⟩:=a
   obtain ⟨ds,rfl,g⟩:=hy
   obtain ⟨j,dd,_,hu,_,_,_,_,_,_,_,hfl⟩:=qAc ht
   obtain ⟨l,e2⟩:=agg_eq (w:=w) hu (hfl ▸ hf) b g h
   exact ⟨l,run_eqGuard_agg w .eql t ox oy cs ds e2,run_eqGuard_agg w .neq t ox oy cs ds e2,by simp,by simp⟩
 ·cases h
theorem qIa {P:Program} (w:World) (d:Nat) {t e:TypeId} {j:TypeInfo} (h:P.underlying t=some (.pointer e)) (hj:P.info? e=some j) (hz:0 < j.size) (a:Addr):(Op.equalIn (d+1) t (.pointer (some a)) (.pointer (some a))).run P w = .ok true w:=by
 simp [Op.equalIn,run_underlying h,sizeOf,typeInfo,hj,sameAddr]
theorem eqP_ok {P : Program} {C : Cx} (hti : ∀ t i, C.ti t = some i → mkTi P t = some i) {m : Mp} {w : World} {t : TypeId} {i : Ti} (ht : mkTi P t = some i) {x y : AV} {c d : Value} {r : Bool} (h : eqP C i x y = some r) (a : VR m x c) (hy : VR m y d) (ox oy : Operand) :
 (Op.equal t c d).run P w = .ok r w∧(eqGuard .eql t ox oy c d).run P w = .ok () w∧(eqGuard .neq t ox oy c d).run P w = .ok () w∧(∀ k n k' n',¬ (c = .int k n∧d = .int k' n'))∧(∀ s s',¬ (c = .string s∧d = .string s')):=by
 unfold eqP at h
 split at h
 ·rename_i hk
  cases h
  simp only [VR] at a hy
  subst hy
  rcases a with ⟨rfl,rfl⟩ | ⟨rfl,B,N,_,rfl⟩
  ·exact ⟨qFa w 9999 (qBb ht hk),by simp [eqGuard],by simp [eqGuard],by simp,by simp⟩
  ·exact ⟨qF8 w 9999 (qBb ht hk) _,by simp [eqGuard],by simp [eqGuard],by simp,by simp⟩
 ·rename_i hk
  split at h
  ·rename_i he
   obtain ⟨rfl,rfl,rfl⟩:=he
   cases hc:C.ti i.elem with
   | none=>rw [hc] at h; cases h
   | some e =>
    rw [hc] at h
    simp only at h
    split at h
    ·rename_i hz
     cases h
     obtain ⟨j,dd,hj,_,hsz,_⟩:=qAc (hti _ _ hc)
     simp only [VR] at a hy
     obtain ⟨B,N,g,rfl⟩:=hy
     rcases a with ⟨rfl,rfl⟩ | ⟨rfl,B',N',b,rfl⟩
     ·exact ⟨qF9 w 9999 (qBb ht hk) _,by simp [eqGuard],by simp [eqGuard],by simp,by simp⟩
     ·rw [g] at b
      cases b
      exact ⟨qIa w 9999 (qBb ht hk) hj (by omega) _,by simp [eqGuard],by simp [eqGuard],by simp,by simp⟩
    ·cases h
  ·cases h
 ·cases h
theorem qDo {P : Program} {w : World} {t : TypeId} {c d : Value} {r : Bool} (he : (Op.equal t c d).run P w = .ok r w) (g : ∀ k n k' n', ¬ (c = .int k n ∧ d = .int k' n')) (h : ∀ s s', ¬ (c = .string s ∧ d = .string s'))
 (j:∀ k a k' b,¬ (c = .float k a∧d = .float k' b)) (l:∀ k a a' k' b b',¬ (c = .complex k a a'∧d = .complex k' b b')) :
 (binOp .eql t c d).run P w = .ok (.bool r) w∧(binOp .neq t c d).run P w = .ok (.bool !r) w:=by
 constructor
 ·unfold binOp
  split <;> first
   | (exfalso; exact g _ _ _ _ ⟨rfl,rfl⟩)
   | (exfalso; exact h _ _ ⟨rfl,rfl⟩)
   | (exfalso; exact j _ _ _ _ ⟨rfl,rfl⟩)
   | (exfalso; exact l _ _ _ _ _ _ ⟨rfl,rfl⟩)
   | (simp [he]; done)
   | (simp_all; done)
 ·unfold binOp
  split <;> first
   | (exfalso; exact g _ _ _ _ ⟨rfl,rfl⟩)
   | (exfalso; exact h _ _ ⟨rfl,rfl⟩)
   | (exfalso; exact j _ _ _ _ ⟨rfl,rfl⟩)
   | (exfalso; exact l _ _ _ _ _ _ ⟨rfl,rfl⟩)
   | (simp [he]; done)
   | (simp_all; done)
theorem qMv {m:Mp} {x:AV} {c:Value} (g:VR m x c) (h:x.is=true):(∀ k a,c ≠ .float k a)∧(∀ k a b,c ≠ .complex k a b):=by
 cases x <;> simp only [VR] at g <;> try (simp [AV.is] at h; done)
 case odat t r len sz=>rcases g with ⟨n,rfl⟩ | ⟨B,N,j,l,o,rfl⟩ <;> simp
 case ownt t r len sz=>rcases g with ⟨n,rfl⟩ | ⟨B,N,cap,j,l,o,q,u,rfl⟩ <;> simp
 all_goals
  first
   | (subst g; simp; done)
   | (obtain ⟨ys,rfl,l⟩:=g; simp; done)
   | (obtain ⟨ys,zs,rfl,l⟩:=g; simp; done)
   | (obtain ⟨B,N,j,rfl⟩:=g; simp; done)
   | (obtain ⟨B,N,cap,j,l,o,q,rfl⟩:=g; simp; done)
   | (obtain ⟨n,a,cap,rfl,hr⟩:=g; simp; done)
   | (obtain ⟨i,B,off,all,j,rfl,hr⟩:=g; simp; done)
   | (rcases g with ⟨n,rfl⟩ | ⟨B,N,cap,j,l,o,rfl⟩ <;> simp; done)
theorem eqK_is {i:Ti} {x y:AV} {r:Bool} (h:eqK i x y=some r):x.is=true∧y.is=true:=by
 unfold eqK at h
 split at h <;> first | (cases h; done) | exact ⟨rfl,rfl⟩
theorem binV_ok {P : Program} {C : Cx} (hti : ∀ t i, C.ti t = some i → mkTi P t = some i) {m : Mp} {w : World} {op : BinOp} {t : Nat} {x y v : AV} {c d : Value} (h : binV C op t x y = some v) (g : VR m x c) (hy : VR m y d) (ox oy : Operand) :
 ∃ e,((do eqGuard op t ox oy c d; binOp op t c d):Sem Value).run P w = .ok e w∧VR m v e:=by
 have noguard:∀ e,(op ≠ .eql∧op ≠ .neq∨(∀ xs,c ≠ .agg xs)∧c ≠ .nilIface)→(binOp op t c d).run P w = .ok e w→((do eqGuard op t ox oy c d; binOp op t c d):Sem Value).run P w = .ok e w:=by
  intro e ho hr
  have hg:(eqGuard op t ox oy c d).run P w = .ok () w:=by
   unfold eqGuard
   rcases ho with ho | ho
   ·cases op <;> simp_all
   ·cases op <;> simp <;> cases c <;> simp_all
  simp [hg,hr]
 unfold binV at h
 split at h
 ·rename_i k a k' b
  simp only [VR] at g hy
  subst g; subst hy
  split at h
  ·split at h
   ·cases h
   ·rename_i l
    cases h
    refine ⟨_,noguard _ (.inr ⟨by simp,by simp⟩) (by simp only [binOp,Op.shift]; rw [if_neg l]; rfl),?_⟩
    simp only [VR,qAt]
  ·split at h
   ·cases h
   ·rename_i l
    cases h
    refine ⟨_,noguard _ (.inr ⟨by simp,by simp⟩) (by simp only [binOp,Op.shift]; rw [if_neg l]; rfl),?_⟩
    simp only [VR]
  ·split at h
   ·rename_i e
    subst e
    obtain ⟨e,he,hv⟩:=qNt (P:=P) (m:=m) (w:=w) (t:=t) h
    exact ⟨e,noguard _ (.inr ⟨by simp,by simp⟩) he,hv⟩
   ·cases h
 ·rename_i a b
  simp only [VR] at g hy
  obtain ⟨s,rfl,rfl⟩:=g
  obtain ⟨u,rfl,rfl⟩:=hy
  obtain ⟨e,he,hv⟩:=qNq (P:=P) (m:=m) (w:=w) (t:=t) h
  exact ⟨e,noguard _ (.inr ⟨by simp,by simp⟩) he,hv⟩
 ·rename_i q r b
  simp only [VR] at g hy
  obtain ⟨n,rfl,E,A⟩:=g
  obtain ⟨o,B⟩:=A (by trivial)
  subst hy
  split at h
  ·split at h
   ·rename_i hq
    obtain ⟨rfl,hq⟩:=hq
    cases h
    have l:¬ (q:Int)=0:=by omega
    have j:n.tmod (q:Int)=(r:Int):=by
     rw [Int.tmod_eq_emod_of_nonneg o,← E,Int.emod_eq_of_lt o B]
    refine ⟨.int .u64 (n.tmod q),noguard _ (.inr ⟨by simp,by simp⟩) (by simp [binOp,Op.intDiv,l]; omega),?_⟩
    simp only [VR,j]
   ·cases h
  ·cases h
 ·have key:∀ r,eqV C t x y=some r→(eqGuard .eql t ox oy c d).run P w = .ok () w∧(eqGuard .neq t ox oy c d).run P w = .ok () w∧(binOp .eql t c d).run P w = .ok (.bool r) w∧(binOp .neq t c d).run P w = .ok (.bool !r) w:=by
   intro r hr
   unfold eqV at hr
   cases ht:C.ti t with
   | none=>rw [ht] at hr; cases hr
   | some i =>
    rw [ht] at hr
    simp only at hr
    have hh:((Op.equal t c d).run P w = .ok r w∧(eqGuard .eql t ox oy c d).run P w = .ok () w∧(eqGuard .neq t ox oy c d).run P w = .ok () w∧(∀ k n k' n',¬ (c = .int k n∧d = .int k' n'))∧(∀ s s',¬ (c = .string s∧d = .string s')))∧x.is=true:=by
     cases hq:eqP C i x y with
     | some b =>
      rw [hq] at hr
      cases hr
      refine ⟨eqP_ok (w:=w) hti (hti _ _ ht) hq g hy ox oy,?_⟩
      unfold eqP at hq
      split at hq <;> first | rfl | cases hq
     | none =>
      rw [hq] at hr
      exact ⟨eqK_ok (w:=w) (hti _ _ ht) hr g hy ox oy,(eqK_is hr).1⟩
    obtain ⟨⟨j,e2,e3,e4,e5⟩,hi⟩:=hh
    have D:=qMv g hi
    obtain ⟨F,G⟩:=qDo (P:=P) j e4 e5 (λk a k' b e=>D.1 k a e.1) (λk a a' k' b b' e=>D.2 k a a' e.1)
    exact ⟨e2,e3,F,G⟩
  split at h
  ·cases hr:eqV C t x y with
   | none=>rw [hr] at h; cases h
   | some r =>
    rw [hr] at h
    cases h
    obtain ⟨j,e2,e3,e4⟩:=key r hr
    exact ⟨.bool r,by simp [j,e3],by simp only [VR]⟩
  ·cases hr:eqV C t x y with
   | none=>rw [hr] at h; cases h
   | some r =>
    rw [hr] at h
    cases h
    obtain ⟨j,e2,e3,e4⟩:=key r hr
    exact ⟨.bool !r,by simp [e2,e4],by simp only [VR]⟩
  ·cases h
theorem nilB_ok {P : Program} {C : Cx} (hti : ∀ t i, C.ti t = some i → mkTi P t = some i) {m : Mp} {w : World} {op : BinOp} {t : Nat} {x y v : AV} {c d : Value} {ox oy : Operand} {e : Option AV} (h : nilB C op t x oy e = some v) (a : VR m x c) (hy : VR m y d) (hd : oy = .const .nilIface → d = .nilIface) (k : e = some v → ∃ z, ((do eqGuard op t ox oy c d; binOp op t c d) : Sem Value).run P w = .ok z w ∧ VR m v z) :
 ∃ z,((do eqGuard op t ox oy c d; binOp op t c d):Sem Value).run P w = .ok z w∧VR m v z:=by
 unfold nilB at h
 split at h
 ·have hdn:=hd rfl
  subst hdn
  simp only [VR] at a
  subst a
  split at h
  ·rename_i i ht
   split at h
   ·rename_i hk
    obtain ⟨ms,hu⟩:=(qEc (hti _ _ ht)).1 hk
    have he:(Op.equal t .nilIface .nilIface).run P w = .ok true w:=qQe w 9999 hu
    obtain ⟨b,g⟩:=qDo (P:=P) he (by simp) (by simp) (by simp) (by simp)
    have hg:∀ op,(eqGuard op t ox (.const .nilIface) .nilIface .nilIface).run P w = .ok () w:=by
     intro op
     unfold eqGuard
     cases op <;> simp
    split at h
    ·cases h; exact ⟨.bool true,by simp [hg,b],by simp [VR]⟩
    ·cases h; exact ⟨.bool false,by simp [hg,g],by simp [VR]⟩
    ·cases h
   ·cases h
  ·cases h
 ·exact k h
theorem unV_ok {P:Program} {m:Mp} {w:World} {op:UnOp} {x v:AV} {c:Value} (h:unV op x=some v) (a:VR m x c):∃ e,(Op.unary op c).run P w = .ok e w∧VR m v e:=by
 unfold unV at h
 split at h
 ·cases h
  simp only [VR] at a
  subst a
  exact ⟨_,by simp only [Op.unary,Op.intArith]; rfl,by simp only [VR,qAt]⟩
 ·cases h
  simp only [VR] at a
  subst a
  exact ⟨_,by simp only [Op.unary,Op.intBits]; rfl,by simp only [VR,qAt]⟩
 ·cases h
  simp only [VR] at a
  subst a
  exact ⟨_,by simp only [Op.unary]; rfl,by simp only [VR]⟩
 ·cases h
theorem qC0 : ∀ {xs : List AV} {l : LN}, bytesOf xs = some l → ∃ ns : List Int, xs = ns.map (AV.int .u8) ∧ l = ns.map (·.toNat) ∧ ∀ n ∈ ns, 0 ≤ n ∧ n ≤ 255
 | [],l,h=>by simp only [bytesOf] at h; cases h; exact ⟨[],rfl,rfl,by simp⟩
 | x::xs,l,h=>by
  unfold bytesOf at h
  split at h <;> rename_i b
  ·cases b
  ·rename_i n r
   cases b
   cases a:bytesOf xs with
   | none=>rw [a] at h; cases h
   | some l' =>
    rw [a] at h
    simp only at h
    split at h
    ·rename_i c
     cases h
     obtain ⟨ns,g,j,m⟩:=qC0 a
     exact ⟨n::ns,by rw [g]; rfl,by rw [j]; rfl,by
      intro k hk
      rcases List.mem_cons.1 hk with rfl | hk
      ·exact c
      ·exact m k hk⟩
    ·cases h
  ·cases h
theorem qHe {m : Mp} : ∀ {ns : List Int} {l : List Value}, VRs m (ns.map (AV.int .u8)) l → l = ns.map (Value.int .u8)
 | [],l,h=>by simpa only [List.map_nil,VRs] using h
 | n::ns,l,h=>by
  simp only [List.map_cons,VRs,VR] at h
  obtain ⟨y,ys,rfl,rfl,a⟩:=h
  rw [qHe a]; rfl
theorem qD3 (ns:List Int) (h:∀ n ∈ ns,0≤n∧n≤255):(strOfNums ns).data.toList.map (·.toNat)=ns.map (·.toNat):=by
 rw [strOfNums_data,List.map_map]
 apply List.map_congr_left
 intro n a
 have:=h n a
 simp
 omega
theorem convV_ok {P : Program} {C : Cx} (hti : ∀ t i, C.ti t = some i → mkTi P t = some i) {m : Mp} {H H' : Hp} {w : World} {base : Nat} {src dst : Nat} {x v : AV} {c : Value} (h : convV C H src dst x = some (v, H')) (g : VR m x c) (rw : RW m H w base) :
 H'=H∧∃ e,(convert src dst c).run P w = .ok e w∧VR m v e:=by
 unfold convV at h
 cases ha:C.ti src with
 | none=>rw [ha] at h; cases h
 | some a =>
  cases o:C.ti dst with
  | none=>rw [ha,o] at h; cases h
  | some b =>
   rw [ha,o] at h
   simp only at h
   obtain ⟨j,d,_,hus,_⟩:=qAc (hti _ _ ha)
   split at h
   ·rename_i k k' n hk
    cases h
    simp only [VR] at g
    subst g
    have hud:=qFo (hti _ _ o) hk
    refine ⟨rfl,.int k (k.wrap n),?_,by simp only [VR,qAt]⟩
    simp [convert,run_underlying hus,run_underlying hud,Conv.intToInt]
   ·rename_i q r hk
    cases h
    simp only [VR] at g
    obtain ⟨n,rfl,u,_⟩:=g
    have hud:=qFo (hti _ _ o) hk
    have hw:IntKind.u64.wrap n=n % 18446744073709551616:=by simp [IntKind.wrap,IntKind.bits,IntKind.signed]
    refine ⟨rfl,.int .u64 (IntKind.u64.wrap n),?_,?_⟩
    ·simp [convert,run_underlying hus,run_underlying hud,Conv.intToInt]
    ·simp only [VR]
     refine ⟨_,rfl,?_,λ_=>?_⟩
     ·rw [hw,Int.emod_emod]; exact u
     ·rw [hw]
      exact ⟨Int.emod_nonneg _ (by decide),Int.emod_lt_of_pos _ (by decide)⟩
   ·rename_i k n hk
    cases h
    simp only [VR] at g
    subst g
    have hud:=qBd (hti _ _ o) hk
    refine ⟨rfl,.string (Utf8.encode n),?_,by simp only [VR]; exact ⟨_,rfl,rfl⟩⟩
    simp [convert,run_underlying hus,run_underlying hud,Conv.intToString]
   ·rename_i s hk
    cases h
    simp only [VR] at g
    obtain ⟨s,rfl,rfl⟩:=g
    have hud:=qBd (hti _ _ o) hk
    refine ⟨rfl,.string s,?_,by simp only [VR]; exact ⟨_,rfl,rfl⟩⟩
    cases d <;> simp [convert,run_underlying hus,run_underlying hud]
   ·rename_i hk
    have hud:=qBd (hti _ _ o) hk
    simp only [VR] at g
    subst g
    split at h
    ·rename_i e hka he
     split at h
     ·rename_i hke
      cases h
      refine ⟨rfl,.string .empty,run_convert_bytes_nil w src a.elem (qAl (hti _ _ ha) hka) (qFo (hti _ _ he) hke) 0 0 dst hud,by simp only [VR]; exact ⟨_,rfl,rfl⟩⟩
     ·cases h
    ·cases h
   ·rename_i r v' off len sz hk
    have hud:=qBd (hti _ _ o) hk
    simp only [VR] at g
    obtain ⟨B,N,cap,hm,_,_,_,rfl⟩:=g
    split at h
    ·rename_i e hka he
     split at h
     ·rename_i hke
      split at h
      ·rename_i hsz
       cases hrd:rd H r v' off len with
       | none=>rw [hrd] at h; cases h
       | some cs =>
        rw [hrd] at h
        simp only at h
        cases hby:bytesOf cs with
        | none=>rw [hby] at h; cases h
        | some l =>
         rw [hby] at h
         cases h
         obtain ⟨hl,vs,hv,hc⟩:=qIp hrd rw hm
         obtain ⟨ns,rfl,rfl,hns⟩:=qC0 hby
         have hvs:=qHe hv
         subst hvs
         refine ⟨rfl,.string (strOfNums ns),run_convert_bytes_arg w src a.elem (qAl (hti _ _ ha) hka) (qFo (hti _ _ he) hke) B off len cap ns (by simpa using hl) (λi hi=>?_) dst hud,by simp only [VR]; exact ⟨_,rfl,qD3 ns hns⟩⟩
         have hi':i < ns.length:=by simp at hl; omega
         refine hc i _ ?_
         simp [List.getElem?_eq_getElem hi',List.getD_eq_getElem?_getD]
      ·cases h
     ·cases h
    ·cases h
   ·rename_i r len sz hk
    have hud:=qBd (hti _ _ o) hk
    split at h
    ·rename_i e hka he
     split at h
     ·rename_i hke
      split at h
      ·rename_i hsz
       cases hrd:rd H r (len * sz) 0 len with
       | none=>rw [hrd] at h; cases h
       | some cs =>
        rw [hrd] at h
        simp only at h
        cases hby:bytesOf cs with
        | none=>rw [hby] at h; cases h
        | some l =>
         rw [hby] at h
         cases h
         simp only [VR] at g
         rcases g with ⟨A,rfl⟩ | ⟨B,N,cap,hm,D,E,rfl⟩
         ·have hcs:=qNl hrd A
          subst hcs
          simp only [bytesOf] at hby
          cases hby
          exact ⟨rfl,.string .empty,run_convert_bytes_nil w src a.elem (qAl (hti _ _ ha) hka) (qFo (hti _ _ he) hke) 0 0 dst hud,by simp only [VR]; exact ⟨_,rfl,rfl⟩⟩
         ·obtain ⟨hl,vs,hv,hc⟩:=qIp hrd rw hm
          obtain ⟨ns,rfl,rfl,hns⟩:=qC0 hby
          have hvs:=qHe hv
          subst hvs
          refine ⟨rfl,.string (strOfNums ns),run_convert_bytes_arg w src a.elem (qAl (hti _ _ ha) hka) (qFo (hti _ _ he) hke) B 0 len cap ns (by simpa using hl) (λi hi=>?_) dst hud,by simp only [VR]; exact ⟨_,rfl,qD3 ns hns⟩⟩
          have hi':i < ns.length:=by simp at hl; omega
          refine hc i _ ?_
          simp [List.getElem?_eq_getElem hi',List.getD_eq_getElem?_getD]
      ·cases h
     ·cases h
    ·cases h
   ·cases h
theorem bound_ok {P:Program} {m:Mp} {w:World} {x:AV} {c:Value} {y n:Nat} {code:BoundsCode} (h:bound x y=some n) (a:VR m x c):(Instr.sliceBound c y code).run P w = .ok n w∧n≤y:=by
 unfold bound at h
 split at h
 ·split at h
  ·rename_i hc
   cases h
   simp only [VR] at a
   subst a
   refine ⟨?_,by omega⟩
   simp only [Instr.sliceBound,asIntOf,Sem.run_bind,Sem.run_pure,Result.andThen_ok]
   rw [if_pos hc]; rfl
  ·cases h
 ·cases h
def VRo (m : Mp) : Option AV → Option Value → Prop
 | none,none=>True
 | some x,some c=>VR m x c
 | _,_=>False
theorem qIc {P:Program} {m:Mp} {w:World} {x:Option AV} {c:Option Value} {y d n:Nat} {code:BoundsCode} (h:boundO x y d=some n) (hd:d≤y) (a:VRo m x c):(match c with | some v=>Instr.sliceBound v y code | none=>pure d:Sem Nat).run P w = .ok n w∧n≤y:=by
 cases x <;> cases c <;> simp only [VRo] at a
 ·simp only [boundO] at h; cases h; exact ⟨rfl,hd⟩
 ·simp only [boundO] at h; exact bound_ok h a
theorem qCs {P : Program} {m : Mp} {w : World} {lo hi : Option AV} {cl ch : Option Value} {isS : Bool} {len cap l h : Nat} (hh : boundO hi len len = some h) (hl : boundO lo h 0 = some l) (a : VRo m lo cl) (b : VRo m hi ch) (hcap : len ≤ cap) (hs : cap = len ∨ ∀ x, hi = some x → ∃ k i, x = .int k i) :
 (Instr.sliceBounds isS len cap cl ch none).run P w = .ok (l,h,cap) w∧l≤h∧h≤len:=by
 have hh':boundO hi cap len=some h∧h≤len:=by
  cases hi with
  | none=>simp only [boundO] at hh ⊢; cases hh; exact ⟨rfl,Nat.le_refl _⟩
  | some x =>
   simp only [boundO] at hh ⊢
   unfold bound at hh ⊢
   split at hh
   ·split at hh
    ·rename_i hc
     cases hh
     rw [if_pos (by omega)]
     exact ⟨rfl,by omega⟩
    ·cases hh
   ·cases hh
 obtain ⟨c,e2⟩:=qIc (P:=P) (w:=w) (code:=if isS then .sliceAcap else .sliceAlen) hh'.1 hcap b
 obtain ⟨e3,e4⟩:=qIc (P:=P) (w:=w) (code := .sliceB) hl (Nat.zero_le _) a
 refine ⟨?_,e4,hh'.2⟩
 unfold Instr.sliceBounds
 cases ch <;> cases cl <;> simp only [Sem.run_pure] at c e3 <;> simp_all
theorem qN4 {P : Program} {C : Cx} (hti : ∀ t i, C.ti t = some i → mkTi P t = some i) {m : Mp} {w : World} {t : Nat} {x v : AV} {c : Value} {lo hi : Option AV} {cl ch : Option Value} (h : sliceV C t x lo hi = some v) (o : VR m x c) (u : VRo m lo cl) (A : VRo m hi ch) (hdom : ∀ r v B N, m r v = some (B, N) → v ≤ N) :
 ∃ e,(Instr.sliceAt t c cl ch none).run P w = .ok e w∧VR m v e:=by
 unfold sliceV at h
 cases ht:C.ti t with
 | none=>rw [ht] at h; cases h
 | some i =>
  rw [ht] at h
  simp only at h
  have hi':=hti _ _ ht
  split at h
  ·rename_i s hk
   simp only [VR] at o
   obtain ⟨s,rfl,rfl⟩:=o
   cases b:boundO hi (s.data.toList.map (·.toNat)).length (s.data.toList.map (·.toNat)).length with
   | none=>rw [b] at h; cases h
   | some hh =>
    rw [b] at h
    simp only at h
    cases g:boundO lo hh 0 with
    | none=>rw [g] at h; cases h
    | some l =>
     rw [g] at h
     cases h
     have hsz:(s.data.toList.map (·.toNat)).length=s.size:=by simp
     rw [hsz] at b
     obtain ⟨q,e2,e3⟩:=qCs (P:=P) (w:=w) (isS:=false) b g u A (Nat.le_refl _) (.inl rfl)
     refine ⟨.string (s.extract l hh),?_,?_⟩
     ·simp [Instr.sliceAt,Instr.slice,run_underlying (qBd hi' hk),q]
     ·simp only [VR]
      refine ⟨_,rfl,?_⟩
      rw [ByteArray.data_extract,Array.toList_extract]
      simp [List.extract,List.map_drop,List.map_take,List.drop_take]
  ·rename_i r v' off len sz hk
   simp only [VR] at o
   obtain ⟨B,N,cap,hm,F,g,G,rfl⟩:=o
   cases b:boundO hi len len with
   | none=>rw [b] at h; cases h
   | some hh =>
    rw [b] at h
    simp only at h
    cases hbl:boundO lo hh 0 with
    | none=>rw [hbl] at h; cases h
    | some l =>
     rw [hbl] at h
     simp only at h
     unfold sizeOfT at h
     cases he:C.ti i.elem with
     | none=>rw [he] at h; cases h
     | some j =>
      rw [he] at h
      simp only [Option.map_some] at h
      split at h
      ·rename_i hc
       cases h
       obtain ⟨hz,hlt,hpos⟩:=hc
       have hint:∀ x,hi=some x→∃ k i,x = .int k i:=by
        intro x o
        subst o
        simp only [boundO,bound] at b
        split at b
        ·exact ⟨_,_,rfl⟩
        ·cases b
       obtain ⟨q,e2,e3⟩:=qCs (P:=P) (w:=w) (isS:=true) b hbl u A g (.inr hint)
       refine ⟨.slice (some ⟨B,off+l * sz,none⟩) (hh - l) (cap - l),?_,?_⟩
       ·have hne:¬ cap=l:=by omega
        have hsz:=qAf (hti _ _ he) w
        rw [hz] at hsz
        simp [Instr.sliceAt,Instr.slice,run_underlying (qAl hi' hk),q,hsz,hne,addr_add]
       ·simp only [VR]
        have D:l * sz+(hh - l) * sz=hh * sz:=by rw [← Nat.add_mul]; congr 1; omega
        have E:hh * sz≤len * sz:=Nat.mul_le_mul_right _ e3
        have J:l * sz+(cap - l) * sz=cap * sz:=by rw [← Nat.add_mul]; congr 1; omega
        exact ⟨B,N,cap - l,hm,by omega,by omega,by omega,rfl⟩
      ·cases h
  ·rename_i n sz cells hk
   simp only [VR] at o
   obtain ⟨hcl,a,cap,rfl,g,hnil,hfr⟩:=o
   cases b:boundO hi n n with
   | none=>rw [b] at h; cases h
   | some hh =>
    rw [b] at h
    simp only at h
    cases hbl:boundO lo hh 0 with
    | none=>rw [hbl] at h; cases h
    | some l =>
     rw [hbl] at h
     simp only at h
     unfold sizeOfT at h
     cases he:C.ti i.elem with
     | none=>rw [he] at h; cases h
     | some j =>
      rw [he] at h
      simp only [Option.map_some] at h
      split at h
      ·rename_i hz
       cases h
       have hint:∀ x,hi=some x→∃ k i,x = .int k i:=by
        intro x o
        subst o
        simp only [boundO,bound] at b
        split at b
        ·exact ⟨_,_,rfl⟩
        ·cases b
       obtain ⟨q,e2,e3⟩:=qCs (P:=P) (w:=w) (isS:=true) b hbl u A g (.inr hint)
       have hsz:=qAf (hti _ _ he) w
       rw [hz] at hsz
       refine ⟨.slice (if cap=l then a else a.map (·.add (l * sz))) (hh - l) (cap - l),?_,?_⟩
       ·simp [Instr.sliceAt,Instr.slice,run_underlying (qAl hi' hk),q,hsz]
       ·simp only [VR]
        have D:l * sz+(hh - l) * sz=hh * sz:=by rw [← Nat.add_mul]; congr 1; omega
        have E:hh * sz≤n * sz:=Nat.mul_le_mul_right _ e3
        refine ⟨by rw [List.length_take,List.length_drop,hcl]; omega,_,_,rfl,by omega,?_,?_⟩
        ·intro hnone
         have:a=none:=by
          by_cases hcap:cap=l
          ·rw [if_pos hcap] at hnone; exact hnone
          ·rw [if_neg hcap] at hnone
           cases a with
           | none=>rfl
           | some a=>cases hnone
         obtain ⟨L,K⟩:=hnil this
         omega
        ·intro hpos
         obtain ⟨id,B,off,all,hid,rfl,hall,hle⟩:=hfr (by omega)
         refine ⟨id,B,off+l * sz,all,hid,?_,?_,by omega⟩
         ·rw [if_neg (by omega)]
          simp [addr_add]
         ·rw [← hall,List.drop_take,List.take_take,List.drop_drop,Nat.min_eq_left (by omega)]
      ·cases h
  ·rename_i hk
   simp only [VR] at o
   subst o
   cases b:boundO hi 0 0 with
   | none=>rw [b] at h; cases h
   | some hh =>
    rw [b] at h
    simp only at h
    cases hbl:boundO lo hh 0 with
    | none=>rw [hbl] at h; cases h
    | some l =>
     rw [hbl] at h
     simp only at h
     unfold sizeOfT at h
     cases he:C.ti i.elem with
     | none=>rw [he] at h; cases h
     | some j =>
      rw [he] at h
      cases h
      obtain ⟨q,e2,e3⟩:=qCs (P:=P) (w:=w) (isS:=true) b hbl u A (Nat.le_refl _) (.inl rfl)
      obtain rfl:hh=0:=by omega
      obtain rfl:l=0:=by omega
      refine ⟨.slice none 0 0,?_,by simp only [VR]⟩
      simp [Instr.sliceAt,Instr.slice,run_underlying (qAl hi' hk),q,qAf (hti _ _ he) w]
  ·rename_i r v' off hk
   simp only [VR] at o
   obtain ⟨B,N,hm,rfl⟩:=o
   cases b:boundO hi i.len i.len with
   | none=>rw [b] at h; cases h
   | some hh =>
    rw [b] at h
    simp only at h
    cases hbl:boundO lo hh 0 with
    | none=>rw [hbl] at h; cases h
    | some l =>
     rw [hbl] at h
     simp only at h
     unfold sizeOfT at h
     cases he:C.ti i.elem with
     | none=>rw [he] at h; cases h
     | some j =>
      rw [he] at h
      simp only [Option.map_some] at h
      split at h
      ·rename_i hc
       cases h
       obtain ⟨hN,hlt,hpos⟩:=hc
       obtain ⟨q,e2,e3⟩:=qCs (P:=P) (w:=w) (isS:=false) b hbl u A (Nat.le_refl _) (.inl rfl)
       refine ⟨.slice (some ⟨B,off+l * j.size,none⟩) (hh - l) (i.len - l),?_,?_⟩
       ·have hne:¬ i.len=l:=by omega
        simp [Instr.sliceAt,Instr.sureAddr,run_underlying (qDd hi' hk),q,qAf (hti _ _ he) w,hne,addr_add]
       ·simp only [VR]
        have D:l * j.size+(hh - l) * j.size=hh * j.size:=by rw [← Nat.add_mul]; congr 1; omega
        have E:hh * j.size≤i.len * j.size:=Nat.mul_le_mul_right _ e3
        have J:l * j.size+(i.len - l) * j.size=i.len * j.size:=by rw [← Nat.add_mul]; congr 1; omega
        have:=hdom _ _ _ _ hm
        exact ⟨B,N,i.len - l,hm,by omega,by omega,by omega,rfl⟩
      ·cases h
  ·cases h
theorem qHw {P : Program} {C : Cx} (hti : ∀ t i, C.ti t = some i → mkTi P t = some i) {m : Mp} {w : World} {s f : Nat} {i : Ti} {r v off o t z : Nat} {c : Value} (hs : C.ti s = some i) (hk : i.kind = .struct) (hf : i.fields[f]? = some (o, t)) (hz : sizeOfT C t = some z) (a : z ≠ 0) (hp : VR m (.ptr r v off) c) :
 ∃ e,(Instr.fieldAt s c f).run P w = .ok e w∧VR m (.ptr r v (off+o)) e:=by
 simp only [VR] at hp
 obtain ⟨B,N,hm,rfl⟩:=hp
 obtain ⟨fs,hu,hfs⟩:=qDc (hti _ _ hs) hk
 rw [hfs,List.getElem?_map] at hf
 cases hg:fs.toList[f]? with
 | none=>rw [hg] at hf; cases hf
 | some fd =>
  rw [hg] at hf
  cases hf
  unfold sizeOfT at hz
  cases ht:C.ti fd.type with
  | none=>rw [ht] at hz; cases hz
  | some j =>
   rw [ht] at hz
   cases hz
   have hsz:=qAf (hti _ _ ht) w
   have hg':fs[f]? = some fd:=by rw [← Array.getElem?_toList]; exact hg
   refine ⟨.pointer (some ⟨B,off+fd.offset,none⟩),?_,by simp only [VR]; exact ⟨B,N,hm,rfl⟩⟩
   simp [Instr.fieldAt,Instr.sureAddr,run_underlying hu,hg',fieldPlace,hsz,a,addr_add]
theorem qNp {P : Program} {C : Cx} (hti : ∀ t i, C.ti t = some i → mkTi P t = some i) {m : Mp} {w : World} {t o : Nat} {j : Ti} {cs : List AV} {ys : Array Value} {v : AV} (ht : C.ti t = some j) (hv : VRs m cs ys.toList)
 (h:(if j.kind.isAgg then some (.agg ((cs.drop o).take j.size)) else cs[o]?)=some v):∃ e,(part t ys o).run P w = .ok e w∧VR m v e:=by
 have ha:=qKa (hti _ _ ht) w
 have hsz:=qAf (hti _ _ ht) w
 cases hk:j.kind.isAgg with
 | true =>
  rw [hk] at h ha
  simp only [if_true] at h
  cases h
  refine ⟨.agg (ys.extract o (o+j.size)),by simp [part,ha,hsz],?_⟩
  simp only [VR]
  refine ⟨_,rfl,?_⟩
  rw [Array.toList_extract]
  have:=VRs.take j.size (VRs.drop o hv)
  simpa [List.extract,List.drop_take,Nat.add_sub_cancel_left] using this
 | false =>
  rw [hk] at h ha
  simp only [Bool.false_eq_true,if_false] at h
  obtain ⟨c,hc,hvc⟩:=VRs.get hv _ _ h
  rw [Array.getElem?_toList] at hc
  exact ⟨c,by simp [part,ha,hc],hvc⟩
theorem op_field {P : Program} {C : Cx} (hti : ∀ t i, C.ti t = some i → mkTi P t = some i) {m : Mp} {w : World} {t f o u : Nat} {i j : Ti} {cs : List AV} {c : Value} {v : AV} (ht : C.ti t = some i) (hk : i.kind = .struct) (hf : i.fields[f]? = some (o, u)) (hj : C.ti u = some j) (a : VR m (.agg cs) c)
 (h:(if j.kind.isAgg then some (.agg ((cs.drop o).take j.size)) else cs[o]?)=some v):∃ e,(Instr.field t c f).run P w = .ok e w∧VR m v e:=by
 simp only [VR] at a
 obtain ⟨ys,rfl,hv⟩:=a
 obtain ⟨fs,hu,hfs⟩:=qDc (hti _ _ ht) hk
 rw [hfs,List.getElem?_map] at hf
 cases hg:fs.toList[f]? with
 | none=>rw [hg] at hf; cases hf
 | some fd =>
  rw [hg] at hf
  cases hf
  have hg':fs[f]? = some fd:=by rw [← Array.getElem?_toList]; exact hg
  obtain ⟨e,he,hve⟩:=qNp (w:=w) hti hj hv h
  exact ⟨e,by simp [Instr.field,run_underlying hu,hg',asAgg,he],hve⟩
theorem qBy {P : Program} {C : Cx} (hti : ∀ t i, C.ti t = some i → mkTi P t = some i) {m : Mp} {w : World} {t : Nat} {i : Ti} {r v off len sz z : Nat} {k : IntKind} {n : Int} {c d : Value} (ht : C.ti t = some i) (hk : i.kind = .slice) (hz : sizeOfT C i.elem = some z) (b : z = sz) (g : 0 ≤ n) (h : n < len)
 (a:VR m (.slice r v off len sz) c) (hd:VR m (.int k n) d):∃ e,(Instr.indexAt t c d).run P w = .ok e w∧VR m (.ptr r v (off+n.toNat * sz)) e:=by
 simp only [VR] at a hd
 obtain ⟨B,N,cap,hm,_,_,_,rfl⟩:=a
 subst hd
 subst b
 have hu:=qAl (hti _ _ ht) hk
 unfold sizeOfT at hz
 cases he:C.ti i.elem with
 | none=>rw [he] at hz; cases hz
 | some j =>
  rw [he] at hz
  cases hz
  have hsz:=qAf (hti _ _ he) w
  refine ⟨.pointer (some ⟨B,off+n.toNat * j.size,none⟩),?_,by simp only [VR]; exact ⟨B,N,hm,rfl⟩⟩
  simp [Instr.indexAt,asIntOf,run_underlying hu,g,h,hsz,addr_add]
theorem qFl {P : Program} {C : Cx} (hti : ∀ t i, C.ti t = some i → mkTi P t = some i) {m : Mp} {w : World} {s f : Nat} {i : Ti} {cells : List AV} {o t z : Nat} {c : Value} (hs : C.ti s = some i) (hk : i.kind = .struct) (hf : i.fields[f]? = some (o, t)) (hz : sizeOfT C t = some z) (a : z ≠ 0) (hl : o + z ≤ cells.length) (hp : VR m (.vptr cells) c) :
 ∃ e,(Instr.fieldAt s c f).run P w = .ok e w∧VR m (.vptr (cells.drop o)) e:=by
 simp only [VR] at hp
 obtain ⟨id,B,off,all,hid,rfl,hall,hle⟩:=hp
 obtain ⟨fs,hu,hfs⟩:=qDc (hti _ _ hs) hk
 rw [hfs,List.getElem?_map] at hf
 cases hg:fs.toList[f]? with
 | none=>rw [hg] at hf; cases hf
 | some fd =>
  rw [hg] at hf
  cases hf
  unfold sizeOfT at hz
  cases ht:C.ti fd.type with
  | none=>rw [ht] at hz; cases hz
  | some j =>
   rw [ht] at hz
   cases hz
   have hsz:=qAf (hti _ _ ht) w
   have hg':fs[f]? = some fd:=by rw [← Array.getElem?_toList]; exact hg
   refine ⟨.pointer (some ⟨B,off+fd.offset,none⟩),?_,?_⟩
   ·simp [Instr.fieldAt,Instr.sureAddr,run_underlying hu,hg',fieldPlace,hsz,a,addr_add]
   ·simp only [VR]
    refine ⟨id,B,_,all,hid,rfl,?_,by rw [List.length_drop]; omega⟩
    have e:cells.drop fd.offset=((all.drop off).take cells.length).drop fd.offset:=by rw [hall]
    rw [List.length_drop]
    refine Eq.trans ?_ e.symm
    rw [List.drop_take,List.drop_drop]
theorem qEb {P : Program} {C : Cx} (hti : ∀ t i, C.ti t = some i → mkTi P t = some i) {m : Mp} {w : World} {t : Nat} {i : Ti} {q sz z : Nat} {cells : List AV} {k : IntKind} {n : Int} {c d : Value} (ht : C.ti t = some i) (hk : i.kind = .slice) (hz : sizeOfT C i.elem = some z) (g : z = sz) (h : 0 ≤ n) (l : n < q)
 (b:VR m (.vec q sz cells) c) (hd:VR m (.int k n) d):∃ e,(Instr.indexAt t c d).run P w = .ok e w∧VR m (.vptr ((cells.drop (n.toNat * sz)).take sz)) e:=by
 simp only [VR] at b hd
 obtain ⟨hcl,a,cap,rfl,hcap,_,hfr⟩:=b
 obtain ⟨id,B,off,all,hid,rfl,hall,hle⟩:=hfr (by omega)
 subst hd
 subst g
 have hu:=qAl (hti _ _ ht) hk
 unfold sizeOfT at hz
 cases he:C.ti i.elem with
 | none=>rw [he] at hz; cases hz
 | some j =>
  rw [he] at hz
  have hz:j.size=z:=by simpa using hz
  subst hz
  have hsz:=qAf (hti _ _ he) w
  have o:(n.toNat+1) * j.size≤q * j.size:=Nat.mul_le_mul_right _ (by omega)
  rw [Nat.add_mul,Nat.one_mul] at o
  refine ⟨.pointer (some ⟨B,off+n.toNat * j.size,none⟩),?_,?_⟩
  ·simp [Instr.indexAt,asIntOf,run_underlying hu,h,l,hsz,addr_add]
  ·simp only [VR]
   have hlen:((cells.drop (n.toNat * j.size)).take j.size).length=j.size:=by rw [List.length_take,List.length_drop,hcl]; omega
   refine ⟨id,B,_,all,hid,rfl,?_,by rw [hlen]; omega⟩
   rw [hlen,← hall,List.drop_take,List.take_take,List.drop_drop,Nat.min_eq_left (by omega)]
theorem qHs {m:Mp} {r len sz:Nat} {c:Value} (h:VR m (.own r len sz) c) (hl:0 < len):VR m (.slice r (len * sz) 0 len sz) c:=by
 simp only [VR] at h ⊢
 rcases h with ⟨b,_⟩ | ⟨B,N,cap,hm,a,g,rfl⟩
 ·omega
 ·exact ⟨B,N,cap,hm,by omega,a,by omega,rfl⟩
theorem qHk {m:Mp} {r v len sz:Nat} {c:Value} (h:VR m (.slice r v 0 len sz) c) (hv:v=len * sz):VR m (.own r len sz) c:=by
 subst hv
 simp only [VR] at h ⊢
 obtain ⟨B,N,cap,hm,b,a,g,rfl⟩:=h
 exact .inr ⟨B,N,cap,hm,a,by omega,rfl⟩
theorem qDj {P : Program} {C : Cx} (hti : ∀ t i, C.ti t = some i → mkTi P t = some i) {m : Mp} {w : World} {t : Nat} {i : Ti} {r v off z : Nat} {k : IntKind} {n : Int} {c d : Value} (ht : C.ti t = some i) (hk : i.kind = .array) (hz : sizeOfT C i.elem = some z) (b : 0 ≤ n) (g : n < i.len)
 (a:VR m (.ptr r v off) c) (hd:VR m (.int k n) d):∃ e,(Instr.indexAt t c d).run P w = .ok e w∧VR m (.ptr r v (off+n.toNat * z)) e:=by
 simp only [VR] at a hd
 obtain ⟨B,N,hm,rfl⟩:=a
 subst hd
 have hu:=qDd (hti _ _ ht) hk
 unfold sizeOfT at hz
 cases he:C.ti i.elem with
 | none=>rw [he] at hz; cases hz
 | some j =>
  rw [he] at hz
  cases hz
  have hsz:=qAf (hti _ _ he) w
  refine ⟨.pointer (some ⟨B,off+n.toNat * j.size,none⟩),?_,by simp only [VR]; exact ⟨B,N,hm,rfl⟩⟩
  simp [Instr.indexAt,asIntOf,run_underlying hu,b,g,hsz,addr_add,Instr.sureAddr]
theorem qEw {P : Program} {C : Cx} (hti : ∀ t i, C.ti t = some i → mkTi P t = some i) {m : Mp} {w : World} {t b : Nat} {i : Ti} {s : LN} {k : IntKind} {n : Int} {c d : Value} (ht : C.ti t = some i) (hk : i.kind = .string) (h : 0 ≤ n) (a : s[n.toNat]? = some b)
 (g:VR m (.str s) c) (hd:VR m (.int k n) d):∃ e,(Instr.index t c d).run P w = .ok e w∧VR m (.int .u8 b) e:=by
 simp only [VR] at g hd
 obtain ⟨u,rfl,rfl⟩:=g
 subst hd
 have hu:=qBd (hti _ _ ht) hk
 rw [List.getElem?_map,Array.getElem?_toList] at a
 cases hg:u.data[n.toNat]? with
 | none=>rw [hg] at a; cases a
 | some x =>
  rw [hg] at a
  cases a
  have hg':u[n.toNat]? = some x:=by
   obtain ⟨hlt,g⟩:=Array.getElem?_eq_some_iff.1 hg
   have hl:n.toNat < u.size:=hlt
   rw [getElem?_pos u n.toNat hl]
   exact congrArg some g
  refine ⟨.int .u8 x.toNat,?_,by simp only [VR]⟩
  simp [Instr.index,asIntOf,run_underlying hu,h,hg']
theorem qFk {P : Program} {C : Cx} (hti : ∀ t i, C.ti t = some i → mkTi P t = some i) {m : Mp} {w : World} {t : Nat} {i j : Ti} {cs : List AV} {k : IntKind} {n : Int} {c d : Value} {v : AV} (ht : C.ti t = some i) (hk : i.kind = .array) (hj : C.ti i.elem = some j) (b : 0 ≤ n) (g : n < i.len)
 (a:VR m (.agg cs) c) (hd:VR m (.int k n) d) (h:(if j.kind.isAgg then some (.agg ((cs.drop (n.toNat * j.size)).take j.size)) else cs[n.toNat * j.size]?)=some v):∃ e,(Instr.index t c d).run P w = .ok e w∧VR m v e:=by
 simp only [VR] at a hd
 obtain ⟨ys,rfl,hv⟩:=a
 subst hd
 have hu:=qDd (hti _ _ ht) hk
 have hsz:=qAf (hti _ _ hj) w
 obtain ⟨e,he,hve⟩:=qNp (w:=w) hti hj hv h
 exact ⟨e,by simp [Instr.index,asIntOf,run_underlying hu,b,g,hsz,he],hve⟩
theorem qMf {P:Program} {m:Mp} {w:World} {vs:List AV} {ix:Nat} {v:AV} {c:Value} (h:vs[ix]? = some v) (a:VR m (.tuple vs) c):∃ e,(Instr.extract c ix).run P w = .ok e w∧VR m v e:=by
 simp only [VR] at a
 obtain ⟨ys,rfl,hv⟩:=a
 obtain ⟨e,he,hve⟩:=VRs.get hv _ _ h
 rw [Array.getElem?_toList] at he
 exact ⟨e,by simp [Instr.extract,he],hve⟩
theorem qEa {P:Program} {C:Cx} (hti:∀ t i,C.ti t=some i→mkTi P t=some i) {m:Mp} {w:World} {t:Nat} {i:Ti} {x:AV} {c:Value} (ht:C.ti t=some i) (hk:i.kind ≠ .iface) (a:VR m x c):∃ e,(Instr.makeInterface t c).run P w = .ok e w∧VR m (.iface t x) e:=by
 obtain ⟨j,d,b,hu,_⟩:=qAc (hti _ _ ht)
 rcases (qEc (hti _ _ ht)).2 with h | h
 ·refine ⟨.iface t c,?_,by simp only [VR]; exact ⟨c,rfl,a⟩⟩
  cases d <;> first | (simp [Instr.makeInterface,run_underlying hu]; done) | exact absurd hu (h _)
 ·exact absurd h hk
theorem qGs {P : Program} {C : Cx} (hti : ∀ t i, C.ti t = some i → mkTi P t = some i) {m : Mp} {w : World} {T xt : Nat} {i : Ti} {x : AV} {c : Value} (ok : Bool) (hT : C.ti T = some i) (hk : i.kind ≠ .iface) (a : VR m (.iface T x) c) :
 ∃ e,(Instr.typeAssert c xt T ok).run P w = .ok e w∧VR m (if ok then .tuple [x,.bool true] else x) e:=by
 obtain ⟨j,d,b,hu,_⟩:=qAc (hti _ _ hT)
 simp only [VR] at a
 obtain ⟨y,rfl,hv⟩:=a
 rcases (qEc (hti _ _ hT)).2 with h | h
 ·refine ⟨if ok then .tuple #[y,.bool true] else y,?_,?_⟩
  ·cases d <;> first | exact absurd hu (h _) | (cases ok <;> simp [Instr.typeAssert,run_underlying hu])
  ·cases ok with
   | true=>simp [VR,VRs,hv]
   | false=>simpa using hv
 ·exact absurd h hk
theorem qE3 (off : Nat) : ∀ (l : List Value) (k : Nat) (cells : Array Value), (l.zipIdx k).foldl (λcs p => cs.setIfInBounds (off + p.2) p.1) cells = putA cells (off + k) l
 | [],_,_=>rfl
 | v::l,k,cells=>by
  rw [List.zipIdx_cons,List.foldl_cons,qE3 off l (k+1)]
  rw [putA,Nat.add_assoc]
theorem qF7 {m : Mp} {place : Nat → Option (Nat × Nat)} : ∀ (parts : List (Nat × AV)) (ps : List (Nat × Value)) (cells out : List AV) (cs : Array Value), VRs m cells cs.toList → (parts.map (·.1) = ps.map (·.1)) → VRs m (parts.map (·.2)) (ps.map (·.2)) →
 fillL place cells parts=some out→∃ ds,Instr.fill place cs ps=some ds∧VRs m out ds.toList
 | [],ps,cells,out,cs,h,a,e2,hf=>by
  simp only [fillL] at hf
  cases hf
  cases ps with
  | nil=>exact ⟨cs,rfl,h⟩
  | cons p ps=>simp at a
 | (i,v)::parts,ps,cells,out,cs,h,a,e2,hf=>by
  cases ps with
  | nil=>simp at a
  | cons p ps =>
   obtain ⟨i',c⟩:=p
   simp only [List.map_cons,List.cons.injEq] at a
   obtain ⟨rfl,a⟩:=a
   simp only [List.map_cons,VRs] at e2
   obtain ⟨y,ys,e,hv,e2⟩:=e2
   cases e
   simp only [fillL] at hf
   cases hp:place i with
   | none=>rw [hp] at hf; cases hf
   | some os =>
    obtain ⟨off,size⟩:=os
    rw [hp] at hf
    simp only at hf
    split at hf
    ·rename_i hc
     obtain ⟨g,j,k⟩:=hc
     have hcs:=qD2 hv g
     have hl:=VRs.len hcs
     have b:=VRs.len h
     simp only [Array.length_toList] at hl b
     have:=VRs.put off (cs:=cs) cs.size (by rw [List.take_of_length_le (by simp)]; exact h) hcs
     rw [List.take_of_length_le (by simp [qDh])] at this
     obtain ⟨ds,hd,hr⟩:=qF7 parts ps _ out (putA cs off c.cells.toList) this a e2 hf
     refine ⟨ds,?_,hr⟩
     simp only [Instr.fill,hp]
     rw [if_neg (by simp; omega)]
     rw [← hd]
     congr 1
     have:=qE3 off c.cells.toList 0 cs
     rw [Nat.add_zero] at this
     rw [← this,← Array.foldl_toList]
     simp
    ·cases hf
theorem qGq {m : Mp} {env : Env} {a : Act} (fr : FR m env a.tmps) (parts : Array (Nat × Operand)) :
 (parts.toList.map λp=>(p.1,opnd env p.2)).map (·.1)=(parts.map λp=>(p.1,a.eval p.2)).toList.map (·.1)∧VRs m ((parts.toList.map λp=>(p.1,opnd env p.2)).map (·.2)) ((parts.map λp=>(p.1,a.eval p.2)).toList.map (·.2)):=by
 constructor
 ·simp [List.map_map,Function.comp_def]
 ·simp only [Array.toList_map,List.map_map,Function.comp_def]
  have:=qCc fr (parts.toList.map (·.2))
  simpa [List.map_map,Function.comp_def] using this
theorem qGe {P : Program} {C : Cx} (hti : ∀ t i, C.ti t = some i → mkTi P t = some i) : ∀ (fs : List Field) (l : List (Nat × Nat)), fieldsZ C (fs.map λf => (f.offset, f.type)) = some l → ∀ w : World, (fs.mapM (λf => do pure (f.offset, ← Go.sizeOf f.type) : Field → Sem (Nat × Nat))).run P w = .ok l w
 | [],l,h,w=>by simp only [List.map_nil,fieldsZ] at h; cases h; simp
 | f::fs,l,h,w=>by
  simp only [List.map_cons,fieldsZ] at h
  cases a:sizeOfT C f.type with
  | none=>rw [a] at h; cases h
  | some z =>
   cases b:fieldsZ C (fs.map λf=>(f.offset,f.type)) with
   | none=>rw [a,b] at h; cases h
   | some l' =>
    rw [a,b] at h
    cases h
    have ih:=qGe hti fs l' b w
    unfold sizeOfT at a
    cases ht:C.ti f.type with
    | none=>rw [ht] at a; cases a
    | some j =>
     rw [ht] at a
     cases a
     simp only [List.mapM_cons,Sem.run_bind,qAf (hti _ _ ht) w,Result.andThen_ok,Sem.run_pure,ih]
theorem qEx {P : Program} {C : Cx} (hti : ∀ t i, C.ti t = some i → mkTi P t = some i) {m : Mp} {w : World} {t : Nat} {i : Ti} {z out : List AV} {fs : List (Nat × Nat)} {parts : List (Nat × AV)} {ps : Array (Nat × Value)} (ht : C.ti t = some i) (hz : i.zero = some z) (hk : i.kind = .struct) (hf : fieldsZ C i.fields = some fs)
 (h:fillL (λk=>fs[k]?) z parts=some out) (a:parts.map (·.1)=ps.toList.map (·.1)) (e2:VRs m (parts.map (·.2)) (ps.toList.map (·.2))):∃ e,(Instr.build t ps).run P w = .ok e w∧VR m (.agg out) e:=by
 obtain ⟨c,hc,rfl⟩:=qDr (hti _ _ ht) hz w
 obtain ⟨fds,hu,hfs⟩:=qDc (hti _ _ ht) hk
 rw [hfs] at hf
 have hm:=qGe hti _ _ hf w
 obtain ⟨ds,hd,hr⟩:=qF7 _ _ _ _ _ (qCu m c.cells.toList) a e2 h
 refine ⟨.agg ds,?_,by simp only [VR]; exact ⟨_,rfl,hr⟩⟩
 have hm':(fds.mapM (λf=>do pure (f.offset,← Go.sizeOf f.type):Field→Sem (Nat×Nat))).run P w = .ok fs.toArray w:=by
  rw [Array.mapM_eq_mapM_toList,Sem.run_map,hm]
  rfl
 have hd':Instr.fill (λk=>fs.toArray[k]?) c.cells ps.toList=some ds:=by simpa using hd
 simp only [Instr.build,Sem.run_bind,hc,Result.andThen_ok,run_underlying hu,hm',hd',Sem.run_pure]
theorem qFm {P : Program} {C : Cx} (hti : ∀ t i, C.ti t = some i → mkTi P t = some i) {m : Mp} {w : World} {t n : Nat} {i : Ti} {z out : List AV} {parts : List (Nat × AV)} {ps : Array (Nat × Value)} (ht : C.ti t = some i) (hz : i.zero = some z) (hk : i.kind = .array) (a : sizeOfT C i.elem = some n)
 (h:fillL (λk=>some (k * n,n)) z parts=some out) (b:parts.map (·.1)=ps.toList.map (·.1)) (e2:VRs m (parts.map (·.2)) (ps.toList.map (·.2))):∃ e,(Instr.build t ps).run P w = .ok e w∧VR m (.agg out) e:=by
 obtain ⟨c,hc,rfl⟩:=qDr (hti _ _ ht) hz w
 have hu:=qDd (hti _ _ ht) hk
 obtain ⟨ds,hd,hr⟩:=qF7 _ _ _ _ _ (qCu m c.cells.toList) b e2 h
 refine ⟨.agg ds,?_,by simp only [VR]; exact ⟨_,rfl,hr⟩⟩
 unfold sizeOfT at a
 cases he:C.ti i.elem with
 | none=>rw [he] at a; cases a
 | some j =>
  rw [he] at a
  cases a
  simp only [Instr.build,Sem.run_bind,hc,Result.andThen_ok,run_underlying hu,qAf (hti _ _ he) w,hd,Sem.run_pure]
theorem qC3 (z : List AV) : ∀ n, (rep z n).length = n * z.length
 | 0=>by simp [rep]
 | n+1=>by simp [rep,qC3 z n,Nat.add_mul,Nat.add_comm]
theorem qNk (z : List AV) (hz : 0 < z.length) : ∀ (n i : Nat), i < n * z.length → (rep z n)[i]? = z[i % z.length]?
 | 0,i,h=>by simp at h
 | n+1,i,h=>by
  rw [rep]
  by_cases hi:i < z.length
  ·rw [List.getElem?_append_left hi,Nat.mod_eq_of_lt hi]
  ·rw [List.getElem?_append_right (by omega),qNk z hz n (i - z.length) (by rw [Nat.add_mul] at h; omega)]
   congr 1
   rw [← Nat.mod_eq_sub_mod (by omega)]
theorem qK6 {m:Mp} {c:Value} {n sz:Nat} (hsz:(c.cells.toList.map ofVal).length=sz) (a:0 < sz):VRs m (rep (c.cells.toList.map ofVal) n) ((Array.range (n * sz)).map (c.cells[· % c.cells.size]!)).toList:=by
 have key:rep (c.cells.toList.map ofVal) n=(((Array.range (n * sz)).map (c.cells[· % c.cells.size]!)).toList).map ofVal:=by
  apply List.ext_getElem?
  intro i
  by_cases hi:i < n * sz
  ·rw [qNk _ (by omega) n i (by rw [hsz]; exact hi),hsz]
   have hs:c.cells.size=sz:=by simpa using hsz
   have hlt:i % sz < c.cells.size:=by rw [hs]; exact Nat.mod_lt _ a
   simp [hi,hs,List.getElem?_map]
   rw [hs] at hlt
   simp [hs,hlt]
  ·rw [List.getElem?_eq_none (by rw [qC3,hsz]; omega),List.getElem?_eq_none (by simp; omega)]
 rw [key]
 exact qCu m _
theorem qGu {P : Program} {C : Cx} (hti : ∀ t i, C.ti t = some i → mkTi P t = some i) {m : Mp} {H H' : Hp} {w : World} {base : Nat} {t len : Nat} {i e : Ti} {z out : List AV} {parts : List (Nat × AV)} {ps : Array (Nat × Value)} {r v o : Nat} (ht : C.ti t = some i) (hk : i.kind = .slice) (he : C.ti i.elem = some e) (hz : e.zero = some z) (g : z.length = e.size) (b : 0 < e.size) (B : len * e.size ≤ 2 ^ 24)
 (h:fillL (λk=>some (k * e.size,e.size)) (rep z len) parts=some out) (hl:out.length=len * e.size) (l:parts.map (·.1)=ps.toList.map (·.1)) (e2:VRs m (parts.map (·.2)) (ps.toList.map (·.2))) (ha:alloc1 H out=some (.ptr r v o,H')) (rw:RW m H w base) :
 Good P (do pure (.value (← Instr.buildSlice t len ps))) m w base (.slice r v 0 len e.size) H':=by
 obtain ⟨c,hc,rfl⟩:=qDr (hti _ _ he) hz w
 have hu:=qAl (hti _ _ ht) hk
 obtain ⟨ds,hd,hr⟩:=qF7 _ _ _ _ _ (qK6 (m:=m) (n:=len) g b) l e2 h
 have j:=VRs.len hr
 simp only [Array.length_toList] at j
 obtain ⟨hp,m',q,u,x⟩:=qFf ha rw ds i.elem (0,0) (free0 _) (by omega) (by rw [List.take_of_length_le (by simp; omega)]; exact hr)
 cases hp
 refine ⟨m',_,u,x,.inl ⟨.slice (some ⟨w.heap.size,0,none⟩) len len,?_,?_⟩⟩
 ·have hzs:c.cells.size=e.size:=by simpa using g
  have hbig:¬ len * e.size > 2 ^ 24:=by omega
  by_cases A:len=0
  ·subst A
   have a:Array.range 0 = #[]:=Array.ext (by simp) (λi g b=>by simp at b)
   have hd':Instr.fill (λi=>some (i * e.size,e.size)) #[] ps.toList=some ds:=by simpa [a] using hd
   simp only [Instr.buildSlice,Sem.run_bind,run_underlying hu,Result.andThen_ok,qAf (hti _ _ he) w,if_neg hbig,Sem.run_pure,Nat.zero_mul,if_true]
   simp [newRow,newObj,Sem.run,wnew,a,hd']
  ·have hne:¬ len * e.size=0:=Nat.ne_of_gt (Nat.mul_pos (by omega) b)
   simp only [Instr.buildSlice,Sem.run_bind,run_underlying hu,Result.andThen_ok,qAf (hti _ _ he) w,if_neg hbig,Sem.run_pure,if_neg hne,hc,hd]
   simp [newRow,newObj,Sem.run,wnew]
 ·simp only [VR]
  exact ⟨_,_,len,q,by omega,Nat.le_refl _,by omega,rfl⟩
theorem qHu {P : Program} {C : Cx} (hti : ∀ t i, C.ti t = some i → mkTi P t = some i) {m : Mp} {H H' : Hp} {w : World} {base : Nat} {t : Nat} {i e : Ti} {z : List AV} {k k' : IntKind} {n : Int} {c d : Value} {r v o : Nat} (ht : C.ti t = some i) (hk : i.kind = .slice) (he : C.ti i.elem = some e) (hz : e.zero = some z) (h : z.length = e.size) (g : 0 < e.size) (D : 0 ≤ n) (E : n * e.bytes ≤ 2 ^ 40) (F : n ≤ 2 ^ 40)
 (hc:VR m (.int k n) c) (hd:VR m (.int k' n) d) (ha:alloc1 H (rep z n.toNat)=some (.ptr r v o,H')) (rw:RW m H w base):Good P (do pure (.value (← Instr.makeSlice t c d))) m w base (.slice r v 0 n.toNat e.size) H':=by
 simp only [VR] at hc hd
 subst hc; subst hd
 obtain ⟨c,hc,rfl⟩:=qDr (hti _ _ he) hz w
 obtain ⟨j,hj,hjs,hjb,_⟩:=ti_info (hti _ _ he) w
 have hu:=qAl (hti _ _ ht) hk
 have hr:=qK6 (m:=m) (n:=n.toNat) h g
 have u:=VRs.len hr
 have hrl:=qC3 (c.cells.toList.map ofVal) n.toNat
 rw [h] at hrl
 obtain ⟨hp,m',x,A,B⟩:=qFf ha rw ((Array.range (n.toNat * e.size)).map (c.cells[· % c.cells.size]!)) i.elem (0,0) (free0 _) (by simp; omega) (by rw [List.take_of_length_le (by simp; omega)]; exact hr)
 cases hp
 have hw:IntKind.i64.wrap n=n:=by simp [IntKind.wrap,IntKind.bits,IntKind.signed]; omega
 refine ⟨m',_,A,B,.inl ⟨.slice (some ⟨w.heap.size,0,none⟩) n.toNat n.toNat,?_,?_⟩⟩
 ·have a:¬ (n < 0):=by omega
  have l:¬ ((e.bytes:Int) * n > 2 ^ 48):=by rw [Int.mul_comm]; omega
  by_cases q:n=0
  ·subst q
   have b:Array.range 0 = #[]:=Array.ext (by simp) (λi h g=>by simp at g)
   simp only [Instr.makeSlice,Sem.run_bind,run_underlying hu,Result.andThen_ok,asInt,asIntOf,Sem.run_pure,hj,hw,hjb,a,l,qAf (hti _ _ he) w]
   simp [newRow,newObj,Sem.run,wnew,b]
   try simp only [qAf (hti _ _ he) w,Result.andThen_ok]
   try simp [newRow,newObj,Sem.run,wnew,b]
  have hne:¬ n.toNat * e.size=0:=Nat.ne_of_gt (Nat.mul_pos (by omega) g)
  simp only [Instr.makeSlice,Sem.run_bind,run_underlying hu,Result.andThen_ok,asInt,asIntOf,Sem.run_pure,hj,hw,hjb,a,l,qAf (hti _ _ he) w,if_neg hne,hc]
  simp [newRow,newObj,Sem.run,wnew,a,l]
  simp only [qAf (hti _ _ he) w,Result.andThen_ok,if_neg hne,hc]
  try rfl
 ·simp only [VR]
  have:((Array.range (n.toNat * e.size)).map (c.cells[· % c.cells.size]!)).size=n.toNat * e.size:=by simp
  exact ⟨_,_,n.toNat,x,by omega,Nat.le_refl _,by omega,rfl⟩
theorem qGt {P : Program} {C : Cx} (hti : ∀ t i, C.ti t = some i → mkTi P t = some i) {m : Mp} {w : World} {t : Nat} {ts : Array TypeId} {ty : TypeId} {i : Ti} {s : LN} {c : Value} (ht : C.ti t = some i) (b : ts[0]? = some t) (hk : i.kind = .string) (a : VR m (.str s) c) :
 ∃ e,(Builtin.len_ ts ty #[c]).run P w = .ok e w∧VR m (.int .i64 s.length) e:=by
 simp only [VR] at a
 obtain ⟨u,rfl,rfl⟩:=a
 have hu:=qBd (hti _ _ ht) hk
 exact ⟨.int .i64 u.size,by simp [Builtin.len_,b,run_underlying hu,goInt],by simp [VR]⟩
theorem qHv {P : Program} {C : Cx} (hti : ∀ t i, C.ti t = some i → mkTi P t = some i) {m : Mp} {w : World} {t : Nat} {ts : Array TypeId} {ty : TypeId} {i : Ti} {c : Value} (ht : C.ti t = some i) (a : ts[0]? = some t) (hk : i.kind = .array) :
 ∃ e,(Builtin.len_ ts ty #[c]).run P w = .ok e w∧VR m (.int .i64 i.len) e:=by
 have hu:=qDd (hti _ _ ht) hk
 exact ⟨.int .i64 i.len,by simp [Builtin.len_,a,run_underlying hu,goInt],by simp [VR]⟩
theorem qB3 {P : Program} {C : Cx} (hti : ∀ t i, C.ti t = some i → mkTi P t = some i) {m : Mp} {w : World} {t : Nat} {ts : Array TypeId} {ty : TypeId} {i : Ti} {c : Value} {a : Option Addr} {n cap : Nat} (ht : C.ti t = some i) (b : ts[0]? = some t) (hk : i.kind = .slice) (g : c = .slice a n cap) :
 ∃ e,(Builtin.len_ ts ty #[c]).run P w = .ok e w∧VR m (.int .i64 n) e:=by
 subst g
 have hu:=qAl (hti _ _ ht) hk
 exact ⟨.int .i64 n,by simp [Builtin.len_,b,run_underlying hu,goInt],by simp [VR]⟩
theorem qIq {m:Mp} {H:Hp} {w:World} {base:Nat} (rw:RW m H w base):RW m H w.drew base:=rw.drawn _
theorem src_ok {P : Program} {m : Mp} {H : Hp} {w : World} {base : Nat} {x : AV} {c : Value} {sz n u : Nat} {new : List AV} (hnc : noCopy x = false) (hl : srcLen x = some n) (hs : srcCells H sz n x = some new) (g : new.all one1 = true) (a : VR m x c) (rw : RW m H w base)
 (hk:(∃ e',P.underlying u=some (.slice e'))∨P.underlying u=some .string):∃ news,VRs m new news∧Src P sz u c n news w:=by
 cases x <;> simp only [srcLen] at hl <;> try (cases hl; done)
 case vec=>cases hnc
 case own=>cases hnc
 case nils =>
  cases hl
  simp only [srcCells] at hs
  cases hs
  simp only [VR] at a
  subst a
  exact ⟨[],by simp [VRs],⟨hk,λ_=>rfl,run_firstCells_none w sz 0 0 0,run_firstCells_none w.drew sz 0 0 0,by simp,λ_ h=>by cases h⟩⟩
 case slice r v off len z =>
  cases hl
  simp only [srcCells] at hs
  split at hs
  ·rename_i hc
   simp only [VR] at a
   obtain ⟨B,N,cap,hm,_,_,_,rfl⟩:=a
   obtain ⟨k,news,hv,hcell⟩:=qIp hs rw hm
   have hlen:=VRs.len hv
   refine ⟨news,hv,⟨hk,λ_=>rfl,?_,?_,by omega,qEf hv g⟩⟩
   ·exact run_firstCells_some w sz n ⟨B,off,none⟩ n cap news (by omega) (λj u hj=>by rw [addr_add]; exact hcell j u hj)
   ·exact run_firstCells_some w.drew sz n ⟨B,off,none⟩ n cap news (by omega) (λj u hj=>by rw [addr_add]; exact hcell j u hj)
  ·cases hs
 case str s =>
  cases hl
  simp only [srcCells] at hs
  split at hs
  ·rename_i hc
   cases hs
   simp only [VR] at a
   obtain ⟨t,rfl,rfl⟩:=a
   obtain ⟨rfl,_⟩:=hc
   have hsz:(t.data.toList.map (·.toNat)).length=t.size:=by simp
   rw [hsz]
   have key:∀ l:List UInt8,VRs m (l.map λb=>AV.int .u8 (b.toNat:Int)) (l.map λb=>Value.int .u8 b.toNat):=by
    intro l
    induction l with
    | nil=>simp [VRs]
    | cons b l ih=>simp only [List.map_cons,VRs,VR]; exact ⟨_,_,rfl,rfl,ih⟩
   refine ⟨byteCells t,?_,⟨hk,λ_=>rfl,firstCells_string t w,firstCells_string t w.drew,by rw [byteCells_length,Nat.mul_one],λu hu=>by
    obtain ⟨_,_,rfl⟩:=List.mem_map.1 hu
    rfl⟩⟩
   rw [List.take_of_length_le (by rw [hsz]; exact Nat.le_refl _),List.map_map]
   exact key _
  ·cases hs
theorem qN3 {P : Program} {m : Mp} {H : Hp} {w : World} {base : Nat} {x : AV} {c : Value} {sz n u : Nat} {new : List AV} (hl : srcLen x = some n) (hs : srcCells H sz n x = some new) (g : new.all one1 = true) (b : VR m x c) (rw : RW m H w base)
 (hk:(∃ e',P.underlying u=some (.slice e'))∨P.underlying u=some .string):∃ news,VRs m new news∧Src P sz u c n news w:=by
 cases x
 case vec n' z cells =>
  cases hl
  simp only [srcCells] at hs
  split at hs
  ·rename_i hc
   cases hs
   have l:=b
   simp only [VR] at b
   obtain ⟨hcl,a,cap,rfl,hcap,_,hfr⟩:=b
   by_cases k:n=0
   ·subst k
    rw [Nat.zero_mul,List.take_zero] at g ⊢
    refine ⟨[],by simp [VRs],⟨hk,λ_=>rfl,?_,?_,by simp,λ_ h=>by cases h⟩⟩
    ·cases a with
     | none=>exact run_firstCells_none w sz 0 0 cap
     | some a=>exact run_firstCells_some w sz 0 a 0 cap [] (by simp) (λj u hj=>by simp at hj)
    ·cases a with
     | none=>exact run_firstCells_none w.drew sz 0 0 cap
     | some a=>exact run_firstCells_some w.drew sz 0 a 0 cap [] (by simp) (λj u hj=>by simp at hj)
   ·obtain ⟨id,B,off,all,hid,rfl,hall,hle⟩:=hfr (by omega)
    obtain ⟨rfl,_⟩:=hc
    have hvp:VR m (.vptr cells) (.pointer (some ⟨B,off,none⟩)):=by
     simp only [VR]
     exact ⟨id,B,off,all,hid,rfl,by rw [hcl]; exact hall,by omega⟩
    obtain ⟨B',off',e,news,hv,hcell⟩:=qMz hvp rw
    cases e
    have hlen:=VRs.len hv
    have htk:cells.take (n * z)=cells:=List.take_of_length_le (by omega)
    rw [htk] at g ⊢
    refine ⟨news,hv,⟨hk,λ_=>rfl,?_,?_,by omega,qEf hv g⟩⟩
    ·exact run_firstCells_some w z n ⟨B,off,none⟩ n cap news (by omega) (λj u hj=>by rw [addr_add]; exact hcell j u hj)
    ·exact run_firstCells_some w.drew z n ⟨B,off,none⟩ n cap news (by omega) (λj u hj=>by rw [addr_add]; exact hcell j u hj)
  ·cases hs
 case own r len z =>
  cases hl
  by_cases k:n=0
  ·subst k
   simp only [srcCells,if_true] at hs
   cases hs
   have key:∃ a cap,c = .slice a 0 cap:=by
    simp only [VR] at b
    rcases b with ⟨_,rfl⟩ | ⟨B,N,cap,_,_,_,rfl⟩
    ·exact ⟨none,0,rfl⟩
    ·exact ⟨_,cap,rfl⟩
   obtain ⟨a,cap,rfl⟩:=key
   refine ⟨[],by simp [VRs],⟨hk,λ_=>rfl,?_,?_,by simp,λ_ h=>by cases h⟩⟩
   ·cases a with
    | none=>exact run_firstCells_none w sz 0 0 cap
    | some a=>exact run_firstCells_some w sz 0 a 0 cap [] (by simp) (λj u hj=>by simp at hj)
   ·cases a with
    | none=>exact run_firstCells_none w.drew sz 0 0 cap
    | some a=>exact run_firstCells_some w.drew sz 0 a 0 cap [] (by simp) (λj u hj=>by simp at hj)
  ·have hx':=qHs b (by omega)
   refine src_ok (x := .slice r (n * z) 0 n z) rfl rfl ?_ g hx' rw hk
   simp only [srcCells,if_neg k] at hs
   simp only [srcCells]
   exact hs
 all_goals exact src_ok rfl hl hs g b rw hk
theorem appendGood {P : Program} {C : Cx} (hti : ∀ t i, C.ti t = some i → mkTi P t = some i) {m : Mp} {H H' : Hp} {w : World} {base : Nat} {t u n ty : Nat} {i e : Ti} {z : List AV} {s x v : AV} {cs cx : Value} {new : List AV} (ht : C.ti t = some i) (hk : i.kind = .slice) (he : C.ti i.elem = some e) (hz : e.zero = some z) (hzl : z.length = e.size)
 (hku:(∃ e',P.underlying u=some (.slice e'))∨P.underlying u=some .string) (hl:srcLen x=some n) (hsrc:srcCells H e.size n x=some new) (h:appV H s e.size e.bytes n new=some (v,H')) (hs:VR m s cs) (T:VR m x cx) (rw:RW m H w base) :
 GoodT P (do pure (.value (← Builtin.append_ #[t,u] ty #[cs,cx]))) m w base v H' cs i.elem:=by
 unfold appV at h
 split at h
 case isFalse=>cases h
 case isTrue hc =>
 obtain ⟨hnl,hsz,hone⟩:=hc
 obtain ⟨news,hv,hS⟩:=qN3 (P:=P) (u:=u) hl hsrc hone T rw hku
 have hu:=qAl (hti _ _ ht) hk
 obtain ⟨j,d,hj,_,hjs,hjb,hjz,_⟩:=qAc (hti _ _ he)
 rw [hz] at hjz
 cases hjz0:j.zero with
 | none=>rw [hjz0] at hjz; cases hjz
 | some zc =>
 have hzs:zc.cells.size=j.size:=by
  rw [hjz0] at hjz
  have:=congrArg (Option.map List.length) hjz
  simp at this
  omega
 have hnews:=VRs.len hv
 rw [hjs] at hS
 split at h
 ·simp only [VR] at hs
  subst hs
  split at h
  ·rename_i a
   subst a
   cases h
   have:news=[]:=by
    cases news with
    | nil=>rfl
    | cons=>simp at hnews; omega
   subst this
   refine GoodT.val (.slice none 0 0) ?_ rw (by simp only [VR])
   rcases hS.kind with ⟨e',hk'⟩ | hk' <;> simp [Builtin.append_,run_underlying hu,run_underlying hk',sizeOf,typeInfo,hj,hS.len,hS.cells]
  ·rename_i a
   split at h
   ·rename_i g
    obtain ⟨F,G,J⟩:=g
    cases h
    have hr:=run_append_grow_src (P:=P) w t u ty i.elem j zc hu hj hjz0 none 0 0 [] (run_firstCells_none w.drew j.size 0 0 0) cx n news hS (by omega) (by omega) (growslice_fits (by omega) (by rw [← hjb]; simp; omega))
    simp only [Nat.zero_add,List.nil_append] at hr
    have hge:=grownCap_ge w n 0 i.elem
    have hcs:(news.toArray++Builtin.zeroCells zc.cells (grownCap w n 0 i.elem - n)).size=grownCap w n 0 i.elem * e.size:=by
     simp only [Array.size_append,List.size_toArray,size_zeroCells,hzs,hS.newsLen,← Nat.add_mul,hjs]
     congr 1
     omega
    have hN:n * e.size≤grownCap w n 0 i.elem * e.size:=Nat.mul_le_mul_right _ hge
    obtain ⟨l,o⟩:=(qIq rw).alloc J new (news.toArray++Builtin.zeroCells zc.cells (grownCap w n 0 i.elem - n)) i.elem (0,0) (free0 _) (by omega) (by
     rw [Array.toList_append,List.take_append_of_le_length (by simp; omega),List.take_of_length_le (by simp; omega)]
     exact hv)
    refine ⟨_,_,l,St.trans rw.base_le (St.drawn m w base _) o,⟨_,by rw [Sem.run_bind,hr]; rfl,?_,?_⟩⟩
    rotate_left
    ·exact TyS.new (qC9 w.drew _) (by omega)
    simp only [VR]
    exact ⟨w.heap.size,_,grownCap w n 0 i.elem,Mp.add_same _ _ _ _,by omega,hge,by rw [hcs]; omega,rfl⟩
   ·cases h
 ·rename_i r v0 off len z0
  split at h
  case isFalse=>cases h
  case isTrue hc =>
  obtain ⟨rfl,rfl,rfl,F,G⟩:=hc
  split at h
  ·rename_i a
   subst a
   cases h
   have hnil:news=[]:=by
    cases news with
    | nil=>rfl
    | cons=>simp at hnews; omega
   subst hnil
   have K:=hs
   simp only [VR] at hs
   obtain ⟨B,N,cap,hm,U,O,S,rfl⟩:=hs
   refine GoodT.val (.slice (some ⟨B,0,none⟩) len cap) ?_ rw K
   rcases hS.kind with ⟨e',hk'⟩ | hk' <;> simp [Builtin.append_,run_underlying hu,run_underlying hk',sizeOf,typeInfo,hj,hS.len,hS.cells,O,storeCells]
  ·rename_i a
   cases g:H.t.get r with
   | none=>rw [g] at h; cases h
   | some b =>
    rw [g] at h
    simp only at h
    split at h
    case isFalse=>cases h
    case isTrue hc =>
    obtain ⟨hro,hvl,hmin⟩:=hc
    cases h
    simp only [VR] at hs
    obtain ⟨B,N,cap,hm,U,O,S,rfl⟩:=hs
    rw [hvl] at hm hmin
    obtain ⟨b0,A,V,hBs,hbase⟩:=rw.dom _ _ _ _ hm
    rw [g] at A
    cases A
    obtain ⟨cs,D,E,k,L,W,M,c⟩:=rw.blk _ _ _ _ _ g hm hmin (Nat.le_refl _)
    have hnew0:0 < new.length:=by rw [hnl]; exact Nat.mul_pos (by omega) hsz
    have hlenN:news.length=n * e.size:=by rw [hS.newsLen,hjs]
    have hrt:=c
    rw [List.take_of_length_le (Nat.le_refl _)] at c
    by_cases hroom:len+n≤cap
    ·have hle:(len+n) * e.size≤cap * e.size:=Nat.mul_le_mul_right _ hroom
     rw [Nat.add_mul] at hle
     have hst:=qB8 P B (len * e.size) D E news 0 cs w k (by omega) (by rw [L]; exact M hro) hS.one
     have hne:news ≠ []:=by intro Y; subst Y; simp at hnews; omega
     rw [if_neg hne,Nat.add_zero] at hst
     have hold:(putA cs (len * e.size) news).toList.take b.cells.length=cs.toList.take b.cells.length:=qNn cs b.cells.length news (len * e.size) (by omega)
     obtain ⟨l,o⟩:=rw.extend g hro hm hmin k (cs':=putA cs (len * e.size) news) (qDh _ _ _) new hnew0 (by omega) hold (by
      have Z:(putA cs (len * e.size) news).toList.take (b.cells.length+new.length)=cs.toList.take b.cells.length++news:=by
       rw [hvl,show new.length=news.length by omega]
       exact qGp cs news b.cells.length (by omega)
      rw [Z]
      exact VRs.append c hv)
     refine ⟨_,_,l,o,⟨.slice (some ⟨B,0,none⟩) (len+n) cap,?_,?_,TyS.old⟩⟩
     ·have hS':=hS
      rw [← hjs] at hS'
      rcases hS.kind with ⟨e',hk'⟩ | hk' <;> simp [Builtin.append_,run_underlying hu,run_underlying hk',sizeOf,typeInfo,hj,← hjs,hS'.len,hroom,hS'.cells,addr_add,hst]
     ·simp only [VR]
      refine ⟨B,N,cap,?_,by rw [Nat.add_mul]; omega,by omega,S,rfl⟩
      rw [hvl]
      exact Mp.add_same _ _ _ _
    ·have hold:(Builtin.firstCells j.size len (.slice (some ⟨B,0,none⟩) len cap)).run P w.drew = .ok (cs.toList.take b.cells.length).toArray w.drew:=by
      refine run_firstCells_some w.drew j.size len ⟨B,0,none⟩ len cap _ ?_ ?_
      ·rw [List.length_take,Array.length_toList,← hjs]; omega
      ·intro q y hq
       rw [addr_add,cell_of w.drew B _ cs D E k]
       rw [List.getElem?_take] at hq
       split at hq
       ·simpa using hq
       ·cases hq
     have hr:=run_append_grow_src (P:=P) w t u ty i.elem j zc hu hj hjz0 (some ⟨B,0,none⟩) len cap (cs.toList.take b.cells.length) hold cx n news hS (by omega) (by omega) (growslice_fits (by omega) (by rw [← hjb]; omega))
     have hge:=grownCap_ge w (len+n) cap i.elem
     have hN:(len+n) * e.size≤grownCap w (len+n) cap i.elem * e.size:=Nat.mul_le_mul_right _ hge
     have htk:(cs.toList.take b.cells.length).length=len * e.size:=by rw [List.length_take,Array.length_toList]; omega
     have hcs:((cs.toList.take b.cells.length++news).toArray++Builtin.zeroCells zc.cells (grownCap w (len+n) cap i.elem - (len+n))).size=grownCap w (len+n) cap i.elem * e.size:=by
      simp only [Array.size_append,List.size_toArray,List.length_append,htk,size_zeroCells,hzs,hlenN,← hjs,← Nat.add_mul]
      congr 1
      omega
     rw [Nat.add_mul] at hN
     obtain ⟨l,o⟩:=(qIq rw).regrow g hro new hnew0 ((cs.toList.take b.cells.length++news).toArray++Builtin.zeroCells zc.cells (grownCap w (len+n) cap i.elem - (len+n))) i.elem (by omega) (by
      rw [Array.toList_append,List.take_append_of_le_length (by simp only [List.length_append,htk]; omega),List.take_of_length_le (by simp only [List.length_append,htk]; omega)]
      exact VRs.append c hv)
     refine ⟨_,_,l,St.trans rw.base_le (St.drawn m w base _) o,⟨_,by rw [Sem.run_bind,hr]; rfl,?_,?_⟩⟩
     rotate_left
     ·exact TyS.new (qC9 w.drew _) (by omega)
     simp only [VR]
     rw [hvl]
     exact ⟨w.heap.size,_,grownCap w (len+n) cap i.elem,Mp.add_same _ _ _ _,by rw [Nat.add_mul]; omega,hge,by rw [hcs]; omega,rfl⟩
 ·cases h
theorem appendW {P : Program} {C : Cx} (hti : ∀ t i, C.ti t = some i → mkTi P t = some i) {m : Mp} {H H' : Hp} {w : World} {base : Nat} {t u n ty : Nat} {i e : Ti} {z : List AV} {s x v : AV} {cs cx : Value} {new : List AV} (ht : C.ti t = some i) (hk : i.kind = .slice) (he : C.ti i.elem = some e) (hz : e.zero = some z) (hzl : z.length = e.size)
 (hku:(∃ e',P.underlying u=some (.slice e'))∨P.underlying u=some .string) (hl:srcLen x=some n) (hsrc:srcCells H e.size n x=some new) (h:appW H s e.size e.bytes n new=some (v,H')) (hs:VR m s cs) (o:VR m x cx) (rw:RW m H w base) :
 GoodT P (do pure (.value (← Builtin.append_ #[t,u] ty #[cs,cx]))) m w base v H' cs i.elem:=by
 unfold appW at h
 split at h
 case h_2=>exact appendGood hti ht hk he hz hzl hku hl hsrc h hs o rw
 case h_1 r len U =>
 split at h
 case h_2=>cases h
 case h_1 L V happ =>
 cases h
 have happ0:=happ
 unfold appV at happ
 split at happ
 case isFalse=>cases happ
 case isTrue hc =>
 obtain ⟨hnl,hsz,hone⟩:=hc
 simp only at happ
 split at happ
 case isFalse=>cases happ
 case isTrue a =>
 obtain ⟨rfl,_,_,q,A⟩:=a
 have D:=hs
 simp only [VR] at hs
 by_cases hnil:cs = .slice none 0 0
 ·obtain rfl:len=0:=by
   rcases hs with ⟨M,_⟩ | ⟨B,N,cap,_,_,_,k⟩
   ·exact M
   ·rw [hnil] at k; cases k
  subst hnil
  rw [Nat.zero_add] at q A
  obtain ⟨news,hv,hS⟩:=qN3 (P:=P) (u:=u) hl hsrc hone o rw hku
  have hu:=qAl (hti _ _ ht) hk
  obtain ⟨j,d,hj,_,hjs,hjb,hjz,_⟩:=qAc (hti _ _ he)
  rw [hz] at hjz
  cases hjz0:j.zero with
  | none=>rw [hjz0] at hjz; cases hjz
  | some zc =>
  have hzs:zc.cells.size=j.size:=by
   rw [hjz0] at hjz
   have:=congrArg (Option.map List.length) hjz
   simp at this
   omega
  have hnews:=VRs.len hv
  rw [hjs] at hS
  split at happ
  ·rename_i g
   subst g
   cases happ
   have:news=[]:=by
    cases news with
    | nil=>rfl
    | cons=>simp at hnews; omega
   subst this
   refine GoodT.val (.slice none 0 0) ?_ rw D
   rcases hS.kind with ⟨e',hk'⟩ | hk' <;> simp [Builtin.append_,run_underlying hu,run_underlying hk',sizeOf,typeInfo,hj,hS.len,hS.cells]
  ·rename_i g
   cases E:H.t.get r with
   | none=>rw [E] at happ; cases happ
   | some b =>
   rw [E] at happ
   simp only at happ
   split at happ
   case isFalse=>cases happ
   case isTrue l =>
   obtain ⟨hro,hvl,hmin⟩:=l
   cases happ
   have hnil:b.cells=[]:=List.length_eq_zero_iff.1 (by omega)
   have hr:=run_append_grow_src (P:=P) w t u ty i.elem j zc hu hj hjz0 none 0 0 [] (run_firstCells_none w.drew j.size 0 0 0) cx n news hS (by omega) (by omega) (growslice_fits (by omega) (by rw [← hjb]; simp; omega))
   simp only [Nat.zero_add,List.nil_append] at hr
   have hge:=grownCap_ge w n 0 i.elem
   have hcs:(news.toArray++Builtin.zeroCells zc.cells (grownCap w n 0 i.elem - n)).size=grownCap w n 0 i.elem * e.size:=by
    simp only [Array.size_append,List.size_toArray,size_zeroCells,hzs,hS.newsLen,← Nat.add_mul,hjs]
    congr 1
    omega
   have hN:n * e.size≤grownCap w n 0 i.elem * e.size:=Nat.mul_le_mul_right _ hge
   have hnew0:0 < new.length:=by rw [hnl]; exact Nat.mul_pos (by omega) hsz
   obtain ⟨F,G⟩:=(qIq rw).regrow E hro new hnew0 (news.toArray++Builtin.zeroCells zc.cells (grownCap w n 0 i.elem - n)) i.elem (by rw [hnil]; simp only [List.length_nil]; omega) (by
    rw [hnil,List.nil_append,List.length_nil,Nat.zero_add,Array.toList_append,List.take_append_of_le_length (by simp; omega),List.take_of_length_le (by simp; omega)]
    exact hv)
   refine ⟨_,_,F,St.trans rw.base_le (St.drawn m w base _) G,⟨_,by rw [Sem.run_bind,hr]; rfl,?_,?_⟩⟩
   rotate_left
   ·exact TyS.new (qC9 w.drew _) (by omega)
   simp only [VR]
   refine .inr ⟨w.heap.size,(news.toArray++Builtin.zeroCells zc.cells (grownCap w n 0 i.elem - n)).size,grownCap w n 0 i.elem,?_,by omega,by rw [hcs]; exact Nat.le_refl _,by rw [Nat.zero_add]⟩
   have k:(0+n) * e.size=b.cells.length+new.length:=by rw [hnil,Nat.zero_add]; simp only [List.length_nil]; omega
   rw [k]
   exact Mp.add_same _ _ _ _
 ·have hsl:VR m (.slice r (len * e.size) 0 len e.size) cs:=by
   simp only [VR]
   rcases hs with ⟨_,k⟩ | ⟨B,N,cap,O,S,W,k⟩
   ·exact absurd k hnil
   ·exact ⟨B,N,cap,O,by omega,S,by omega,k⟩
  obtain ⟨m',w',T,F,G⟩:=appendGood hti ht hk he hz hzl hku hl hsrc happ0 hsl o rw
  refine ⟨m',w',T,F,?_⟩
  have J:L = .slice r ((len+n) * e.size) 0 (len+n) e.size:=by
   split at happ
   ·rename_i g; cases happ; rw [g,Nat.add_zero]
   ·split at happ
    ·split at happ
     ·cases happ; rw [hnl,← Nat.add_mul]
     ·cases happ
    ·cases happ
  obtain ⟨c,K,a,l⟩:=G
  rw [J] at a
  exact ⟨c,K,qHk a rfl,l⟩
theorem copyGood {P : Program} {C : Cx} (hti : ∀ t i, C.ti t = some i → mkTi P t = some i) {m : Mp} {H H' : Hp} {w : World} {base : Nat} {t ty sl r v off len : Nat} {ts : Array TypeId} {i e : Ti} {x y : AV} {cd cx : Value} {cs : List AV} (ht : C.ti t = some i) (g : ts[0]? = some t) (hk : i.kind = .slice) (he : C.ti i.elem = some e) (hl : srcLen x = some sl)
 (hsrc:srcCells H e.size (min sl len) x=some cs) (hw:(if cs.length=0 then (if min sl len=0 then some (AV.int .i64 0,H) else none) else match wr H r v off cs with | some H'=>some (.int .i64 (min sl len:Nat),H') | none=>none)=some (y,H'))
 (hd:VR m (.slice r v off len e.size) cd) (a:VR m x cx) (rw:RW m H w base) (nocopy:(match x with | .vec .. | .own .. => True | _=>False)→False):Good P (do pure (.value (← Builtin.copy_ ts ty #[cd,cx]))) m w base y H':=by
 have hu:=qAl (hti _ _ ht) hk
 have hsz:=qAf (hti _ _ he) w
 simp only [VR] at hd
 obtain ⟨B,N,cap,hm,_,_,_,rfl⟩:=hd
 have key:∃ us,VRs m cs us∧(Builtin.lenOf cx).run P w = .ok sl w∧(Builtin.firstCells e.size (min sl len) cx).run P w = .ok us.toArray w:=by
  cases x <;> simp only [srcLen] at hl <;> try (cases hl; done)
  case nils =>
   cases hl
   simp only [VR] at a
   subst a
   simp only [srcCells,Nat.zero_min,if_true] at hsrc
   cases hsrc
   exact ⟨[],by simp [VRs],rfl,rfl⟩
  case slice r' v' off' len' z' =>
   cases hl
   simp only [srcCells] at hsrc
   split at hsrc
   ·rename_i hc
    simp only [VR] at a
    obtain ⟨B',N',cap',hm',_,_,_,rfl⟩:=a
    obtain ⟨u,us,hv,hcell⟩:=qIp hsrc rw hm'
    have hlen:=VRs.len hv
    refine ⟨us,hv,rfl,?_⟩
    have:=qBz (P:=P) hcell
    rw [show us.length=min sl len * e.size by omega] at this
    exact this
   ·cases hsrc
  case vec n' z' cells =>
   simp only [srcCells] at hsrc
   exact (nocopy trivial).elim
  case own r' len' z' =>
   exact (nocopy trivial).elim
  case str s =>
   cases hl
   simp only [srcCells] at hsrc
   split at hsrc
   ·rename_i hc
    cases hsrc
    simp only [VR] at a
    obtain ⟨q,rfl,rfl⟩:=a
    have key:∀ l:List UInt8,VRs m (l.map λb=>AV.int .u8 (b.toNat:Int)) (l.map λb=>Value.int .u8 b.toNat):=by
     intro l
     induction l with
     | nil=>simp [VRs]
     | cons b l ih=>simp only [List.map_cons,VRs,VR]; exact ⟨_,_,rfl,rfl,ih⟩
    refine ⟨(q.data.toList.take (min (q.data.toList.map (·.toNat)).length len)).map λb=>Value.int .u8 b.toNat,?_,by simp [Builtin.lenOf],?_⟩
    ·rw [← List.map_take,List.map_map]
     exact key _
    ·simp only [Builtin.firstCells,Sem.run_pure]
     congr 1
     apply Array.ext'
     rw [Array.toList_map,ByteArray.data_extract,Array.toList_extract]
     simp [List.extract]
   ·cases hsrc
 obtain ⟨us,hv,h,e2⟩:=key
 have hmin:Nat.min sl len=min sl len:=rfl
 split at hw
 ·rename_i j
  split at hw
  case isFalse=>cases hw
  rename_i hcn
  cases hw
  have hus:us=[]:=by
   have:=VRs.len hv
   cases us with
   | nil=>rfl
   | cons=>simp at this; omega
  subst hus
  refine Good.val (.int .i64 0) ?_ rw (by simp only [VR])
  have c:=hcn
  rw [c] at e2
  simp [Builtin.copy_,g,run_underlying hu,h,hsz,hmin,e2,storeCells,goInt,c]
 ·cases hwr:wr H r v off cs with
  | none=>rw [hwr] at hw; cases hw
  | some A =>
   rw [hwr] at hw
   cases hw
   obtain ⟨w',k,n,o⟩:=wr_ok (P:=P) hwr rw hm hv
   refine ⟨m,w',n,o,.inl ⟨.int .i64 (min sl len:Nat),?_,by simp only [VR]⟩⟩
   simp [Builtin.copy_,g,run_underlying hu,h,hsz,hmin,e2,k,goInt]
def Mp.ty (m:Mp) (B t:Nat):Mp:=⟨m.map,m.froz,λC=>if C=B then some t else m.tys C⟩
theorem RW.ty_sub {m:Mp} {H:Hp} {w:World} {base B t:Nat} {cs:Array Value} {fr:Nat×Nat} (h:RW m H w base) (hB:w.heap[B]? = some (.cells cs t fr)):Sub m (m.ty B t):=by
 refine ⟨λ_ _ _ e=>e,λ_ _ e=>e,λC t' e=>?_⟩
 show (if C=B then some t else m.tys C)=some t'
 by_cases hc:C=B
 ·subst hc
  obtain ⟨cs',fr',e'⟩:=h.tyk C t' e
  rw [hB] at e'
  cases e'
  rw [if_pos rfl]
 ·rw [if_neg hc]; exact e
theorem RW.typed {m:Mp} {H:Hp} {w:World} {base B t:Nat} {cs:Array Value} {fr:Nat×Nat} (h:RW m H w base) (hB:w.heap[B]? = some (.cells cs t fr)):RW (m.ty B t) H w base:=by
 refine ⟨λr b v B' N a hm c g=>?_,h.dom,h.sep,h.fresh,h.vle,h.frz,h.fsep,h.ffin,h.base_le,h.low,λC t' e=>?_⟩
 ·obtain ⟨cs',ty,fr',j,k,l,n,o⟩:=h.blk r b v B' N a hm c g
  exact ⟨cs',ty,fr',j,k,l,n,VRs.mono (h.ty_sub hB) _ _ o⟩
 ·have e:(if C=B then some t else m.tys C)=some t':=e
  by_cases hc:C=B
  ·subst hc
   rw [if_pos rfl] at e
   cases e
   exact ⟨cs,fr,hB⟩
  ·rw [if_neg hc] at e
   exact h.tyk C t' e
theorem appendX {P : Program} {C : Cx} (hti : ∀ t i, C.ti t = some i → mkTi P t = some i) {m : Mp} {H H' : Hp} {w : World} {base : Nat} {t u n ty : Nat} {i e : Ti} {z : List AV} {s x v : AV} {cs cx : Value} {new : List AV} (ht : C.ti t = some i) (hk : i.kind = .slice) (he : C.ti i.elem = some e) (hz : e.zero = some z) (hzl : z.length = e.size)
 (hku:(∃ e',P.underlying u=some (.slice e'))∨P.underlying u=some .string) (hl:srcLen x=some n) (hsrc:srcCells H e.size n x=some new) (h:appX i.elem H s e.size e.bytes n new=some (v,H')) (hs:VR m s cs) (G:VR m x cx) (rw:RW m H w base) :
 Good P (do pure (.value (← Builtin.append_ #[t,u] ty #[cs,cx]))) m w base v H':=by
 unfold appX at h
 split at h
 case h_2=>exact (appendW hti ht hk he hz hzl hku hl hsrc h hs G rw).good
 case h_1 O r len J =>
 cases hbt:Nat.beq O i.elem with
 | false=>rw [hbt] at h; cases h
 | true =>
 rw [hbt] at h
 simp only [if_true] at h
 have S:=Nat.eq_of_beq_eq_true hbt
 subst S
 simp only [VR] at hs
 have A:VR m (.own r len J) cs:=by
  simp only [VR]
  rcases hs with q | ⟨B,N,cap,b,a,j,k,K,T⟩
  ·exact .inl q
  ·exact .inr ⟨B,N,cap,b,j,k,T⟩
 cases hw:appW H (.own r len J) e.size e.bytes n new with
 | none=>rw [hw] at h; simp [reT] at h
 | some p =>
 obtain ⟨L,U⟩:=p
 rw [hw] at h
 have:∃ D E k1,L = .own D E k1∧v = .ownt i.elem D E k1∧H'=U:=by
  cases L <;> simp only [reT] at h <;> first | (cases h; done) | (cases h; exact ⟨_,_,_,rfl,rfl,rfl⟩)
 obtain ⟨D,E,k1,rfl,rfl,rfl⟩:=this
 obtain ⟨m',w',b,a,c,j,k,K⟩:=appendW hti ht hk he hz hzl hku hl hsrc hw A G rw
 have V:=k
 simp only [VR] at k
 rcases k with ⟨l,o⟩ | ⟨B,N,cap,l,o,M,g4⟩
 ·exact ⟨m',w',b,a,.inl ⟨c,j,by simp only [VR]; exact .inl ⟨l,o⟩⟩⟩
 ·rcases K _ _ _ _ g4 with ⟨l0,g⟩ | ⟨g,W,Y,e2⟩
  ·rcases hs with ⟨_,F⟩ | ⟨B0,N0,cap0,k1,F,k3,k4,Z,k6⟩
   ·rw [F] at g; cases g
   ·rw [k6] at g
    cases g
    exact ⟨m',w',b,a,.inl ⟨c,j,by simp only [VR]; exact .inr ⟨B,N,cap,l,a.sub.c _ _ F,o,M,Z,g4⟩⟩⟩
  ·refine ⟨m'.ty B i.elem,w',b.typed e2,⟨a.sub.trans (b.ty_sub e2),a.ext,a.fext,a.size,a.os,a.tape,a.output,a.same⟩,.inl ⟨c,j,?_⟩⟩
   simp only [VR]
   refine .inr ⟨B,N,cap,l,?_,o,M,g,g4⟩
   show (if B=B then some i.elem else _)=_
   rw [if_pos rfl]
theorem RW.setRo {m:Mp} {H:Hp} {w:World} {base:Nat} (h:RW m H w base) {r:Nat} {b:Blk} (n:H.t.get r=some b):RW m ⟨H.next,Tr.set depth H.t r ⟨b.cells,b.minv,true⟩⟩ w base:=by
 have hr:=h.lt n
 have eqr:=Tr.get_set_eq depth H.t r ⟨b.cells,b.minv,true⟩ (fits h.low hr)
 have ner:=λr' (hne:r ≠ r')=>Tr.get_set_ne depth H.t r r' ⟨b.cells,b.minv,true⟩ hne
 refine ⟨λr' b' v B N hb' hm c g=>?_,λr' v B N hm=>?_,h.sep,λr' o=>?_,h.vle,h.frz,λi B cells r' v N b' c g j=>?_,h.ffin,h.base_le,h.low,h.tyk⟩
 ·by_cases e:r=r'
  ·subst e
   rw [eqr] at hb'
   cases hb'
   obtain ⟨cs,ty,fr,a,k,l,q,u⟩:=h.blk r b v B N n hm c g
   exact ⟨cs,ty,fr,a,k,l,λe=>(by cases e),u⟩
  ·rw [ner _ e] at hb'
   exact h.blk r' b' v B N hb' hm c g
 ·obtain ⟨b',a,k,l,q⟩:=h.dom r' v B N hm
  by_cases e:r=r'
  ·subst e
   rw [n] at a
   cases a
   exact ⟨_,eqr,k,l,λe=>(by cases e)⟩
  ·exact ⟨b',by rw [ner _ e]; exact a,k,l,q⟩
 ·rw [ner _ (by intro e; subst e; exact absurd hr (Nat.not_lt.2 o))]
  exact h.fresh r' o
 ·by_cases e:r=r'
  ·subst e
   rw [eqr] at j
   cases j
   rfl
  ·rw [ner _ e] at j
   exact h.fsep i B cells r' v N b' c g j
theorem RW.wfr {m:Mp} {H:Hp} {w:World} {base:Nat} (h:RW m H w base) {B:Nat} {cs:Array Value} {ty:TypeId} {fr:Nat×Nat} (fr':Nat×Nat) (hB:w.heap[B]? = some (.cells cs ty fr)) (hr:∀ r b v N,H.t.get r=some b→m r v=some (B,N)→b.ro=true):RW m H (wset w B (.cells cs ty fr')) base:=by
 have hlt:B < w.heap.size:=(Array.getElem?_eq_some_iff.1 hB).1
 refine ⟨λr b v B' N o hm u x=>?_,λr v B' N hm=>?_,h.sep,h.fresh,h.vle,λi B' cells hf=>?_,h.fsep,h.ffin,by rw [qB1]; exact h.base_le,h.low,h.tyk_wset hB⟩
 ·obtain ⟨c,g,j,a,k,l,n,q⟩:=h.blk r b v B' N o hm u x
  by_cases e:B=B'
  ·subst e
   rw [hB] at a
   cases a
   exact ⟨cs,ty,fr',qC8 w B _ hlt,k,l,λe=>(by rw [hr _ _ _ _ o hm] at e; cases e),q⟩
  ·exact ⟨c,g,j,by rw [qAv w B B' _ e]; exact a,k,l,n,q⟩
 ·obtain ⟨b,a,k,l,n⟩:=h.dom r v B' N hm
  exact ⟨b,a,k,by rw [qB1]; exact l,n⟩
 ·obtain ⟨c,g,j,a,k⟩:=h.frz i B' cells hf
  by_cases e:B=B'
  ·subst e
   rw [hB] at a
   cases a
   exact ⟨cs,ty,fr',qC8 w B _ hlt,k⟩
  ·exact ⟨c,g,j,by rw [qAv w B B' _ e]; exact a,k⟩
theorem St.wfr {m:Mp} {w:World} {base B:Nat} {o:Obj} (a:base≤B) {r v N:Nat} (hm:m r v=some (B,N)):St m w base m (wset w B o):=by
 refine ⟨Sub.refl m,λr v B N h => .inl ⟨v,N,h⟩,λ_ _ _ h => .inl h,by rw [qB1]; exact Nat.le_refl _,rfl,rfl,rfl,λC _ hC=>?_⟩
 refine qAv w B C _ ?_
 intro e
 subst e
 exact absurd (hC _ _ _ hm) (Nat.not_lt.2 a)
theorem qK0 {w:World} {B n:Nat} {cs:Array Value} {ty:TypeId} {fr:Nat×Nat} (hB:w.heap[B]? = some (.cells cs ty fr)) (a:n ≠ 0):∃ fr',w.freeze ⟨B,0,none⟩ n=wset w B (.cells cs ty fr'):=by
 obtain ⟨b,hg⟩:=Array.getElem?_eq_some_iff.1 hB
 obtain ⟨lo,hi⟩:=fr
 refine ⟨if lo == hi then (0,0+n) else (min lo 0,max hi (0+n)),?_⟩
 unfold World.freeze wset
 rw [if_neg a]
 congr 1
 apply Array.ext
 ·simp
 ·intro j b c
  rw [Array.getElem_modify,Array.getElem_setIfInBounds]
  by_cases e:B=j
  ·subst e
   rw [if_pos rfl,if_pos rfl,hg]
  ·rw [if_neg e,if_neg e]
theorem qHt {P:Program} {m:Mp} {H:Hp} {w:World} {base:Nat} {u ty t r len sz:Nat} {c:Value} (rw:RW m H w base) (h:VR m (.ownt t r len sz) c):Good P (do pure (.value (← Builtin.unsafeSliceData_ #[u] ty #[c]))) m w base (.odat t r len sz) H:=by
 simp only [VR] at h
 rcases h with ⟨a,rfl⟩ | ⟨B,N,cap,a,b,g,j,k,rfl⟩
 ·refine Good.val (.pointer none) ?_ rw (by simp [VR,a])
  rw [Sem.run_bind,Go.Lib.run_unsafeSliceData_nil]
  rfl
 ·refine Good.val (.pointer (some ⟨B,0,none⟩)) ?_ rw (by simp only [VR]; exact .inr ⟨B,N,a,b,Nat.le_trans (Nat.mul_le_mul_right _ g) j,rfl⟩)
  rw [Sem.run_bind,Go.Lib.run_unsafeSliceData_row _ _ _ _ _ _ (by omega)]
  rfl
theorem qEv {P : Program} {C : Cx} (hti : ∀ t i, C.ti t = some i → mkTi P t = some i) {m : Mp} {H H' : Hp} {w : World} {base : Nat} {pt it ty t r len sz : Nat} {n : Int} {v : AV} {c : Value} (h : usS C H pt t r len sz n = some (v, H')) (hc : VR m (.odat t r len sz) c) (rw : RW m H w base) :
 Good P (do pure (.value (← Builtin.unsafeString_ #[pt,it] ty #[c,.int .i64 n]))) m w base v H':=by
 unfold usS at h
 split at h
 case h_2=>cases h
 case h_1 i hi =>
 split at h
 case h_2=>cases h
 case h_1 e hk he =>
 split at h
 case isFalse=>cases h
 case isTrue u =>
 simp only [Bool.and_eq_true] at u
 have G:=Nat.eq_of_beq_eq_true u.1
 have U:=Nat.eq_of_beq_eq_true u.2
 subst G
 unfold usT at h
 split at h
 case isFalse=>cases h
 case isTrue hq =>
 obtain ⟨rfl,rfl,hlen⟩:=hq
 split at h
 case h_2=>cases h
 case h_1 b xs hbl hrd =>
 split at h
 case isFalse=>cases h
 case isTrue hro =>
 split at h
 case h_2=>cases h
 case h_1 l hl =>
 cases h
 obtain ⟨ns,e2,e3,e4⟩:=qC0 hl
 have hro':=rw.setRo hbl
 simp only [VR] at hc
 by_cases o:len=0
 ·subst o
  have a:=qNl hrd rfl
  subst a
  have A:ns=[]:=by cases ns with | nil=>rfl | cons=>simp at e2
  subst A
  subst e3
  have hp:∃ p,c = .pointer p:=by
   rcases hc with ⟨_,q⟩ | ⟨B,N,_,_,_,q⟩
   ·exact ⟨_,q⟩
   ·exact ⟨_,q⟩
  obtain ⟨p,rfl⟩:=hp
  refine ⟨m,w,hro',St.refl _ _ _,.inl ⟨.string .empty,?_,?_⟩⟩
  ·rw [Sem.run_bind]
   have:=Go.Lib.run_unsafeString_none (P:=P) w pt it ty p
   simp only [Int.ofNat_zero] at this ⊢
   rw [this]
   rfl
  ·simp only [VR]
   exact ⟨.empty,rfl,rfl⟩
 ·rcases hc with ⟨q,_⟩ | ⟨B,N,g,J,V,rfl⟩
  ·exact absurd q o
  ·obtain ⟨E,L,K,M⟩:=qIp hrd rw g
   obtain ⟨cs,fr,hB⟩:=rw.tyk B _ J
   obtain ⟨b',d1,d2,W,O⟩:=rw.dom _ _ _ _ g
   rw [hbl] at d1
   cases d1
   have hbase:=O hro
   have hmin:b.minv≤len * 1:=by
    unfold rd at hrd
    rw [hbl] at hrd
    simp only at hrd
    cases hcc:(Nat.ble b.minv (len * 1) && Nat.ble (0+len) (len * 1)) with
    | false=>rw [hcc] at hrd; simp at hrd
    | true =>
     simp only [Bool.and_eq_true] at hcc
     exact Nat.le_of_ble_eq_true hcc.1
   obtain ⟨cs',ty',fr',f1,f2,_⟩:=rw.blk _ _ _ _ _ hbl g hmin d2
   rw [hB] at f1
   cases f1
   obtain ⟨j,d,hj,_,hjs,_⟩:=qAc (hti _ _ he)
   have hns:ns.length=len:=by rw [e2] at E; simpa using E
   have hcell:∀ (k:Nat) (x:UInt8),(ns.map λn=>n.toNat.toUInt8)[k]? = some x→w.cell? ((⟨B,0,none⟩:Addr).add k)=some (.int .u8 x.toNat):=by
    intro k x a
    rw [List.getElem?_map] at a
    cases hk:ns[k]? with
    | none=>rw [hk] at a; cases a
    | some y =>
     rw [hk] at a
     cases a
     have hxs:xs[k]? = some (.int .u8 y):=by rw [e2,List.getElem?_map,hk]; rfl
     obtain ⟨cv,S,F⟩:=K.get k _ hxs
     simp only [VR] at F
     subst F
     have:=M k _ S
     rw [addr_add]
     rw [this]
     have hy:=e4 y (List.mem_of_getElem? hk)
     congr 1
     congr 1
     have:(y.toNat.toUInt8).toNat=y.toNat:=by
      simp [Nat.toUInt8,UInt8.toNat_ofNat']
      omega
     rw [this]
     omega
   have hne:(ns.map λn=>n.toNat.toUInt8) ≠ []:=by
    intro q
    have:=congrArg List.length q
    simp at this
    rw [this] at hns
    simp at hns
    exact o hns.symm
   have hrun:=Go.Lib.run_unsafeString_row (P:=P) w pt it ty i.elem (qBb (hti _ _ hi) hk) (by simp [Program.cellsOf,hj]; omega) B cs.size (by simp [World.shape?,hB]) (ns.map λn=>n.toNat.toUInt8) hne (by simp only [List.length_map]; omega) (by simp only [List.length_map]; omega) hcell
   simp only [List.length_map,hns] at hrun
   obtain ⟨D,hfz⟩:=qK0 hB o
   rw [hfz] at hrun
   refine ⟨m,_,hro'.wfr D hB ?_,St.wfr hbase g,.inl ⟨_,by rw [Sem.run_bind,hrun]; rfl,?_⟩⟩
   ·intro r' Y v' N' k1 T
    have e5:=rw.sep _ _ _ _ _ _ _ g T hbase
    subst e5
    rw [Tr.get_set_eq depth H.t r ⟨b.cells,b.minv,true⟩ (fits rw.low (rw.lt hbl))] at k1
    cases k1
    rfl
   ·simp only [VR]
    refine ⟨_,rfl,?_⟩
    rw [e3]
    simp only [List.toArray,List.map_map]
    apply List.map_congr_left
    intro y hy
    have:=e4 y hy
    simp only [Function.comp]
    simp [Nat.toUInt8,UInt8.toNat_ofNat']
    omega
theorem qCr {place : Nat → Option (Nat × Nat)} : ∀ (parts : List (Nat × AV)) (cells out : List AV), fillL place cells parts = some out → out.length = cells.length
 | [],cells,out,h=>by simp only [fillL] at h; cases h; rfl
 | (i,v)::parts,cells,out,h=>by
  simp only [fillL] at h
  cases hp:place i with
  | none=>rw [hp] at h; cases h
  | some q =>
   obtain ⟨off,size⟩:=q
   rw [hp] at h
   simp only at h
   split at h
   ·rw [qCr parts _ out h,qD9]
   ·cases h
theorem Good.of {P:Program} {s:Sem Value} {m:Mp} {H:Hp} {w:World} {base:Nat} {v:AV} (rw:RW m H w base) (h:∃ e,s.run P w = .ok e w∧VR m v e):Good P (do pure (.value (← s))) m w base v H:=by
 obtain ⟨e,a,b⟩:=h
 exact Good.val e (by simp [a]) rw b
theorem map_some {α β:Type} {f:α→β} {x:Option α} {y:β} (h:x.map f=some y):∃ z,x=some z∧f z=y:=by
 cases x with
 | none=>cases h
 | some z=>exact ⟨z,rfl,by simpa using h⟩
theorem qQp {m:Mp} {env:Env} {a:Act} (fr:FR m env a.tmps) (x:Option Operand):VRo m (x.map (opnd env)) (x.map a.eval):=by
 cases x with
 | none=>exact True.intro
 | some x=>exact qB9 fr x
theorem qHd {P : Program} {C : Cx} (hti : ∀ t i, C.ti t = some i → mkTi P t = some i) {m : Mp} {H H' : Hp} {w : World} {base : Nat} {b : Builtin} {ts : Array TypeId} {ty : TypeId} {cn : Array Bool} {xs : List AV} {cs : Array Value} {v : AV} (h : callB C H b ts.toList xs = some (v, H')) (g : VRs m xs cs.toList) (rw : RW m H w base) :
 Good P (builtin b ts ty cn cs) m w base v H':=by
 obtain ⟨ts⟩:=ts
 obtain ⟨cs⟩:=cs
 simp only at h g
 unfold callB at h
 split at h
 ·rename_i t ts' x
  simp only [VRs] at g
  obtain ⟨c,cs',rfl,hc,rfl⟩:=g
  cases ht:C.ti t with
  | none=>rw [ht] at h; cases h
  | some i =>
   rw [ht] at h
   simp only at h
   split at h
   ·rename_i s hk
    cases h
    exact Good.of rw (qGt hti ht (by simp) hk hc)
   ·rename_i hk
    cases h
    exact Good.of rw (qHv hti ht (by simp) hk)
   ·rename_i r v' off len sz hk
    cases h
    simp only [VR] at hc
    obtain ⟨B,N,cap,_,_,_,_,rfl⟩:=hc
    exact Good.of rw (qB3 hti ht (by simp) hk rfl)
   ·rename_i hk
    cases h
    simp only [VR] at hc
    subst hc
    exact Good.of rw (qB3 hti ht (by simp) hk rfl)
   ·rename_i n sz cells hk
    cases h
    simp only [VR] at hc
    obtain ⟨_,a,cap,rfl,_⟩:=hc
    exact Good.of rw (qB3 hti ht (by simp) hk rfl)
   ·rename_i r len sz hk
    cases h
    simp only [VR] at hc
    rcases hc with ⟨rfl,rfl⟩ | ⟨B,N,cap,_,_,_,rfl⟩
    ·exact Good.of rw (qB3 hti ht (by simp) hk rfl)
    ·exact Good.of rw (qB3 hti ht (by simp) hk rfl)
   ·rename_i o r len sz hk
    cases h
    simp only [VR] at hc
    rcases hc with ⟨rfl,rfl⟩ | ⟨B,N,cap,_,_,_,_,_,rfl⟩
    ·exact Good.of rw (qB3 hti ht (by simp) hk rfl)
    ·exact Good.of rw (qB3 hti ht (by simp) hk rfl)
   ·cases h
 ·rename_i t u s x
  simp only [VRs] at g
  obtain ⟨c,cs',rfl,hc,d,ds,rfl,hd,rfl⟩:=g
  cases ht:C.ti t with
  | none=>rw [ht] at h; cases h
  | some i =>
   cases hu:C.ti u with
   | none=>rw [ht,hu] at h; cases h
   | some j =>
    rw [ht,hu] at h
    simp only at h
    split at h
    ·rename_i e hk he
     split at h
     ·rename_i n z hjk hl hz
      split at h
      ·rename_i new hsrc
       split at h
       ·rename_i hzl
        refine appendX hti ht hk he hz hzl ?_ hl hsrc h hc hd rw
        simp only [Bool.or_eq_true,beq_iff_eq] at hjk
        rcases hjk with hjk | hjk
        ·exact .inl ⟨_,qAl (hti _ _ hu) hjk⟩
        ·exact .inr (qBd (hti _ _ hu) hjk)
       ·cases h
      ·cases h
     ·cases h
    ·cases h
 ·rename_i t ts' d x
  simp only [VRs] at g
  obtain ⟨c,cs',rfl,hc,y,ys,rfl,hy,rfl⟩:=g
  cases ht:C.ti t with
  | none=>rw [ht] at h; cases h
  | some i =>
   rw [ht] at h
   simp only at h
   split at h
   ·rename_i e r v' off len z sl hk he hl
    split at h
    ·rename_i hz
     obtain ⟨rfl,l,hnc⟩:=hz
     cases hsrc:srcCells H e.size (min sl len) x with
     | none=>rw [hsrc] at h; cases h
     | some cs =>
      rw [hsrc] at h
      exact copyGood hti ht (by simp) hk he hl hsrc h hc hy rw (λhh=>by cases x <;> simp only [noCopy] at hnc hh <;> first | exact hh | cases hnc)
    ·cases h
   ·cases h
 ·rename_i u t r len sz
  cases h
  simp only [VRs] at g
  obtain ⟨c,cs',rfl,hc,rfl⟩:=g
  exact qHt rw hc
 ·rename_i pt it t r len sz n
  simp only [VRs] at g
  obtain ⟨c,cs',rfl,hc,d,ds,rfl,hd,rfl⟩:=g
  simp only [VR] at hd
  subst hd
  exact qEv hti h hc rw
 ·rename_i ts' k x k' y
  cases h
  simp only [VRs,VR] at g
  obtain ⟨c,cs',rfl,rfl,d,ds,rfl,rfl,rfl⟩:=g
  refine Good.of rw ⟨.int k (if x < y then y else x),?_,by simp only [VR]⟩
  simp [Builtin.max_,Builtin.max2]
 ·rename_i ts' k x k' y
  cases h
  simp only [VRs,VR] at g
  obtain ⟨c,cs',rfl,rfl,d,ds,rfl,rfl,rfl⟩:=g
  refine Good.of rw ⟨.int k (if y < x then y else x),?_,by simp only [VR]⟩
  simp [Builtin.min_,Builtin.min2]
 ·cases h
theorem qNv {P : Program} {C : Cx} (hti : ∀ t i, C.ti t = some i → mkTi P t = some i) {m : Mp} {H H' : Hp} {w : World} {base : Nat} {env : Env} {a : Act} {o : Oper} {v : AV} (h : opV C env H o = some (v, H')) (fr : FR m env a.tmps) (rw : RW m H w base) :
 Good P (execOp a.eval o) m w base v H':=by
 have A:=λx=>qB9 fr x
 obtain ⟨dst,op,type,pos,after,guard⟩:=o
 cases op <;> simp only [opV] at h <;> try (cases h; done)
 case move x=>cases h; exact Good.val _ rfl rw (A x)
 case assign x=>cases h; exact Good.val _ rfl rw (A x)
 case pick c x y =>
  split at h
  ·rename_i t hc
   cases h
   have g:=A c
   rw [hc] at g
   simp only [VR] at g
   cases t with
   | true=>exact Good.val (a.eval x) (by simp [execOp,g,asBool]) rw (A x)
   | false=>exact Good.val (a.eval y) (by simp [execOp,g,asBool]) rw (A y)
  ·cases h
 case alloc t =>
  cases ht:C.ti t with
  | none=>rw [ht] at h; cases h
  | some i =>
   rw [ht] at h
   simp only at h
   cases hz:i.zero with
   | none=>rw [hz] at h; cases h
   | some z=>rw [hz] at h; exact op_alloc hti ht hz h rw
 case box t x =>
  split at h
  ·rename_i hi
   exact op_box hi (A x) h rw
  ·cases h
 case build t parts =>
  obtain ⟨F,e2⟩:=qGq fr parts
  cases ht:C.ti t with
  | none=>rw [ht] at h; cases h
  | some i =>
   rw [ht] at h
   simp only at h
   cases hz:i.zero with
   | none=>rw [hz] at h; cases h
   | some z =>
    rw [hz] at h
    simp only at h
    split at h
    ·rename_i hk
     cases hf:fieldsZ C i.fields with
     | none=>rw [hf] at h; cases h
     | some fs =>
      rw [hf] at h
      obtain ⟨out,ho,he⟩:=map_some h
      cases he
      exact Good.of rw (qEx hti ht hz hk hf ho F e2)
    ·rename_i hk
     cases J:sizeOfT C i.elem with
     | none=>rw [J] at h; cases h
     | some n =>
      rw [J] at h
      obtain ⟨out,ho,he⟩:=map_some h
      cases he
      exact Good.of rw (qFm hti ht hz hk J ho F e2)
    ·cases h
 case buildSlice t len parts =>
  obtain ⟨F,e2⟩:=qGq fr parts
  cases ht:C.ti t with
  | none=>rw [ht] at h; cases h
  | some i =>
   rw [ht] at h
   simp only at h
   split at h
   ·rename_i e hk he
    cases hz:e.zero with
    | none=>rw [hz] at h; cases h
    | some z =>
     rw [hz] at h
     simp only at h
     split at h
     ·rename_i hc
      obtain ⟨G,K,L⟩:=hc
      split at h
      ·rename_i cs hcs
       split at h
       ·rename_i r v' o' M ha
        cases h
        refine qGu hti ht hk he hz G K L hcs ?_ F e2 ha rw
        rw [qCr _ _ _ hcs,qC3,G]
       ·cases h
      ·cases h
     ·cases h
   ·cases h
 case load t x =>
  split at h
  ·rename_i i r v' off ht hp
   split at h
   ·rename_i cs hcs
    obtain ⟨y,hy,he⟩:=map_some h
    cases he
    have g:=A x
    rw [hp] at g
    exact op_load hti ht g hcs hy rw
   ·cases h
  ·rename_i i cs ht hp
   split at h
   ·rename_i hle
    obtain ⟨y,hy,he⟩:=map_some h
    cases he
    have g:=A x
    rw [hp] at g
    exact qNs hti ht g hle hy rw
   ·cases h
  ·cases h
 case store t x y =>
  split at h
  ·rename_i i r v' off ht hp
   split at h
   ·rename_i hc
    have g:=A x
    rw [hp] at g
    split at h
    ·rename_i E
     cases h
     exact qNr hti ht g (A y) hc.1 hc.2 E rw
    obtain ⟨M,hw,he⟩:=map_some h
    cases he
    exact op_store hti ht g (A y) hc.1 hc.2 hw rw
   ·cases h
  ·cases h
 case nilCheck x =>
  have g:=A x
  split at h
  ·rename_i r v' off hp
   cases h
   rw [hp] at g
   have D:=g
   simp only [VR] at D
   obtain ⟨B,N,_,e⟩:=D
   exact Good.val (a.eval x) (by simp [execOp,e]) rw g
  ·rename_i cs hp
   cases h
   rw [hp] at g
   have D:=g
   simp only [VR] at D
   obtain ⟨i,B,off,all,_,e,_⟩:=D
   exact Good.val (a.eval x) (by simp [execOp,e]) rw g
  ·rename_i f p q hp
   cases h
   rw [hp] at g
   have D:=g
   simp only [VR] at D
   obtain ⟨ys,zs,e,_⟩:=D
   exact Good.val (a.eval x) (by simp [execOp,e]) rw g
  ·cases h
 case binOp op t x y k =>
  obtain ⟨z,hz,he⟩:=map_some h
  cases he
  obtain ⟨e,g,D⟩:=nilB_ok (P:=P) (w:=w) hti hz (A x) (A y) (λe=>by rw [e]; rfl) λhz=>binV_ok (P:=P) (w:=w) hti hz (A x) (A y) x y
  exact Good.of rw ⟨e,g,D⟩
 case unOp op t x =>
  obtain ⟨z,hz,he⟩:=map_some h
  cases he
  exact Good.of rw (unV_ok hz (A x))
 case convert s d x =>
  obtain ⟨rfl,g⟩:=convV_ok (P:=P) hti h (A x) rw
  exact Good.of rw g
 case makeInterface t x =>
  cases ht:C.ti t with
  | none=>rw [ht] at h; cases h
  | some i =>
   rw [ht] at h
   simp only at h
   split at h
   ·cases h
   ·rename_i hk
    cases h
    exact Good.of rw (qEa hti ht (λe=>hk e) (A x))
 case makeFunc fn first caps =>
  cases fn <;> simp only at h <;> try (cases h; done)
  rename_i f
  cases h
  refine Good.val (.func (.func f) (first.map a.eval) (caps.map a.eval)) (by simp [execOp,Instr.makeFunc]) rw ?_
  simp only [VR]
  exact ⟨_,_,rfl,by simpa using qCc fr first.toList,by simpa using qCc fr caps.toList⟩
 case makeSlice t l c =>
  split at h
  ·rename_i i k n k' n' ht hl hc
   split at h
   ·rename_i e hk he
    cases hz:e.zero with
    | none=>rw [hz] at h; cases h
    | some z =>
     rw [hz] at h
     simp only at h
     split at h
     ·rename_i hq
      obtain ⟨rfl,G,K,L,O,S⟩:=hq
      split at h
      ·rename_i r v' o' M ha
       cases h
       have g:=A l
       have D:=A c
       rw [hl] at g
       rw [hc] at D
       exact qHu hti ht hk he hz O S G K L g D ha rw
      ·cases h
     ·cases h
   ·cases h
  ·cases h
 case slice t x lo hi mx =>
  cases mx with
  | some _=>cases h
  | none =>
   simp only at h
   obtain ⟨z,hz,he⟩:=map_some h
   cases he
   have:=qN4 (P:=P) (w:=w) hti hz (A x) (qQp fr lo) (qQp fr hi) rw.vle
   exact Good.of rw this
 case fieldAddr s x f =>
  split at h
  ·rename_i i r v' off hs hp
   split at h
   ·rename_i o' t hk hf
    cases hz:sizeOfT C t with
    | none=>rw [hz] at h; cases h
    | some z =>
     rw [hz] at h
     simp only at h
     split at h
     ·cases h
     ·rename_i E
      cases h
      have g:=A x
      rw [hp] at g
      exact Good.of rw (qHw hti hs hk hf hz E g)
   ·cases h
  ·rename_i i cs hs hp
   split at h
   ·rename_i o' t hk hf
    cases hz:sizeOfT C t with
    | none=>rw [hz] at h; cases h
    | some z =>
     rw [hz] at h
     simp only at h
     split at h
     ·rename_i E
      cases h
      have g:=A x
      rw [hp] at g
      exact Good.of rw (qFl hti hs hk hf hz E.1 E.2 g)
     ·cases h
   ·cases h
  ·cases h
 case field t x f =>
  split at h
  ·rename_i i cs ht hp
   split at h
   ·rename_i o' u hk hf
    cases hj:C.ti u with
    | none=>rw [hj] at h; cases h
    | some j =>
     rw [hj] at h
     obtain ⟨z,hz,he⟩:=map_some h
     cases he
     have g:=A x
     rw [hp] at g
     exact Good.of rw (op_field hti ht hk hf hj g hz)
   ·cases h
  ·cases h
 case indexAddr t x ix =>
  have g:=A x
  have D:=A ix
  split at h
  ·rename_i i r v' off len sz k n ht hp hi
   rw [hp] at g
   rw [hi] at D
   split at h
   ·rename_i z hk hz
    split at h
    ·rename_i hc
     cases h
     exact Good.of rw (qBy hti ht hk hz hc.1 hc.2.1 hc.2.2 g D)
    ·cases h
   ·cases h
  ·rename_i i r v' off k n ht hp hi
   rw [hp] at g
   rw [hi] at D
   split at h
   ·rename_i z hk hz
    split at h
    ·rename_i hc
     cases h
     exact Good.of rw (qDj hti ht hk hz hc.1 hc.2 g D)
    ·cases h
   ·cases h
  ·rename_i i q sz cells k n ht hp hi
   rw [hp] at g
   rw [hi] at D
   split at h
   ·rename_i z hk hz
    split at h
    ·rename_i hc
     cases h
     exact Good.of rw (qEb hti ht hk hz hc.1 hc.2.1 hc.2.2 g D)
    ·cases h
   ·cases h
  ·rename_i i r len sz k n ht hp hi
   rw [hp] at g
   rw [hi] at D
   split at h
   ·rename_i z hk hz
    split at h
    ·rename_i hc
     cases h
     have:=qBy (P:=P) (w:=w) hti ht hk hz hc.1 hc.2.1 hc.2.2 (qHs g (by have:=hc.2.1; have:=hc.2.2; omega)) D
     rw [Nat.zero_add] at this
     exact Good.of rw this
    ·cases h
   ·cases h
  ·cases h
 case index t x ix =>
  have g:=A x
  have D:=A ix
  split at h
  ·rename_i i s k n ht hp hi
   rw [hp] at g
   rw [hi] at D
   split at h
   ·rename_i hk
    split at h
    ·rename_i E
     split at h
     ·rename_i b U
      cases h
      exact Good.of rw (qEw hti ht hk E U g D)
     ·cases h
    ·cases h
   ·cases h
  ·rename_i i cs k n ht hp hi
   rw [hp] at g
   rw [hi] at D
   split at h
   ·rename_i j hk hj
    split at h
    ·rename_i hc
     obtain ⟨z,hz,he⟩:=map_some h
     cases he
     exact Good.of rw (qFk hti ht hk hj hc.1 hc.2 g D hz)
    ·cases h
   ·cases h
  ·cases h
 case typeAssert x xt T ok =>
  split at h
  ·rename_i i t y ht hp
   split at h
   ·cases h
   ·rename_i hk
    split at h
    ·rename_i e
     subst e
     cases h
     have g:=A x
     rw [hp] at g
     exact Good.of rw (qGs hti ok ht (λe=>hk e) g)
    ·cases h
  ·cases h
 case extract t ix =>
  split at h
  ·rename_i vs hp
   split at h
   ·rename_i y hy
    cases h
    have g:=A t
    rw [hp] at g
    exact Good.of rw (qMf hy g)
   ·cases h
  ·cases h
 case call c =>
  obtain ⟨callee,args,ts⟩:=c
  cases callee <;> simp only at h <;> try (cases h; done)
  rename_i b
  show Good P (do let d ← resolve a.eval ⟨.builtin b,args,ts⟩ type; invoke d.target d.args) m w base v H'
  simp only [resolve,pure_bind,invoke]
  exact qHd hti h (by simpa using qCc fr args.toList) rw
noncomputable def args0 : Nat → List AV → Env
 | _,[]=>[]
 | i,v::r=>putE (args0 (i+1) r) i v
noncomputable def nth {α:Type} (l:List α):Nat→Option α :=
 List.rec (motive:=λ_=>Nat→Option α) (λ_=>none) (λx _ ih i=>bif Nat.beq i 0 then some x else ih (Nat.pred i)) l
theorem qCm {α : Type} : ∀ (l : List α) (i : Nat), nth l i = l[i]?
 | [],i=>by simp [nth]
 | x::l,i=>by
  cases i with
  | zero=>rfl
  | succ i=>rw [List.getElem?_cons_succ,← qCm l i]; rfl
noncomputable def wantedV (o:Oper) (all:List Oper) (env:Env):Option Bool :=
 match o.guard with
 | none=>some true
 | some (j,want)=>match nth all j with
  | some p=>match p.dst with
   | some d=>match look env d with | .bool b=>some (bif b then want else !want) | .tuple []=>some false | _=>none
   | none=>none
  | none=>none
noncomputable def putV (env:Env) (d:Option Nat) (v:AV):Env :=
 match d with
 | some d=>putE env d v
 | none=>env
noncomputable def resV (C : Cx) (env : Env) (H : Hp) : List ResultVar → Option (List AV)
 | []=>some []
 | .tmp t::r=>match resV C env H r with | some l=>some (look env t::l) | none=>none
 | .cell a t::r=>match C.ti t,look env a,resV C env H r with
  | some i,.ptr q v off,some l=>match rd H q v off i.size with
   | some cs=>match mkVal i.kind.isAgg cs with | some x=>some (x::l) | none=>none
   | none=>none
  | _,_,_=>none
def oneRes : List AV → AV
 | [x]=>x
 | l => .tuple l
noncomputable def opnds (env : Env) : List Operand → List AV
 | []=>[]
 | x::l=>opnd env x::opnds env l
theorem qCd (env : Env) : ∀ l : List Operand, opnds env l = l.map (opnd env)
 | []=>rfl
 | x::l=>by rw [opnds,qCd env l]; rfl
def cls (o:Oper):Nat :=
 match o.op with
 | .move _ | .assign _ | .pick .. | .binOp .. | .unOp .. | .makeInterface .. | .makeFunc .. | .field .. | .index .. | .extract .. | .typeAssert .. | .fieldAddr .. | .indexAddr .. | .nilCheck .. | .build .. | .slice .. => 0
 | .load .. | .convert .. => 1
 | .call c=>match c.callee with
  | .builtin .len | .builtin .max | .builtin .min=>0
  | _=>2
 | _=>2
def lastH (H : Hp) : List Hp → Hp
 | []=>H
 | h::l=>lastH h l
def H0:Hp:=⟨0,.nil⟩
def ScopeWp (P:Program) (body c:Code) (Q:Exit→Act→World→Prop) (a:Act) (w:World):Prop :=
 ∀ (b:Frame) (k:List Item) (cs:List Frame),∃ e a' w',Q e a' w'∧Arrives P (lone (b.at a (.code c::.inScope body::k)) cs w) b k cs e a' w'
theorem ScopeWp.of {P:Program} {body c:Code} {Q:Exit→Act→World→Prop} {a:Act} {w:World} (h:c.wp P (λe g j=>match e with | .goto l => ∃ rest,findLabel body l=some rest∧ScopeWp P body rest Q g j | e=>Q e g j) a w):ScopeWp P body c Q a w:=by
 intro b k cs
 obtain ⟨e,a₁,w₁,hq,harr⟩:=h b (.inScope body::k) cs
 cases e with
 | normal=>exact ⟨.normal,a₁,w₁,hq,Steps.trans harr (.one step_inScope)⟩
 | exit id=>exact ⟨.exit id,a₁,w₁,hq,λk' hk=>harr k' (by simp [exitTo,hk])⟩
 | goto l =>
  obtain ⟨rest,hf,hr⟩:=hq
  obtain ⟨e₂,a₂,w₂,hq₂,harr₂⟩:=hr b k cs
  exact ⟨e₂,a₂,w₂,hq₂,.of_steps (harr _ (by simp [gotoIn,hf])) harr₂⟩
 | ret=>exact ⟨_,a₁,w₁,hq,harr⟩
 | panic ch=>exact ⟨_,a₁,w₁,hq,harr⟩
 | outgrown=>exact ⟨_,a₁,w₁,hq,harr⟩
theorem ScopeWp.wp {P:Program} {c:Code} {Q:Exit→Act→World→Prop} {a:Act} {w:World} (h:ScopeWp P c c Q a w):(Code.scope c).wp P Q a w:=by
 intro b k cs
 obtain ⟨e,a',w',hq,harr⟩:=h b k cs
 exact ⟨e,a',w',hq,.of_steps (.one step_scope) harr⟩
def LoopWp (P:Program) (c:Code) (Q:Exit→Act→World→Prop) (a:Act) (w:World):Prop :=
 ∀ (b:Frame) (k:List Item) (cs:List Frame),∃ e a' w',Q e a' w'∧Arrives P (lone (b.at a (.code c::.inLoop c::k)) cs w) b k cs e a' w'
theorem LoopWp.of {P:Program} {c:Code} {Q:Exit→Act→World→Prop} {a:Act} {w:World} (h:c.wp P (Exit.then (LoopWp P c Q) Q) a w):LoopWp P c Q a w:=by
 intro b k cs
 obtain ⟨e,a₁,w₁,hq,harr⟩:=h b (.inLoop c::k) cs
 cases e with
 | normal =>
  obtain ⟨e₂,a₂,w₂,hq₂,harr₂⟩:=hq b k cs
  exact ⟨e₂,a₂,w₂,hq₂,.of_steps (Steps.trans harr (.one step_inLoop)) harr₂⟩
 | exit id=>exact ⟨_,a₁,w₁,hq,.pass (x := .inLoop c) rfl (λ_ _ => .inl (by simp)) harr⟩
 | goto l=>exact ⟨_,a₁,w₁,hq,.pass (x := .inLoop c) rfl (λ_ _ => .inl (by simp)) harr⟩
 | ret=>exact ⟨_,a₁,w₁,hq,.pass (x := .inLoop c) rfl (λ_ _ => .inl (by simp)) harr⟩
 | panic ch=>exact ⟨_,a₁,w₁,hq,.pass (x := .inLoop c) rfl (λ_ _ => .inl (by simp)) harr⟩
 | outgrown=>exact ⟨_,a₁,w₁,hq,.pass (x := .inLoop c) rfl (λ_ _ => .inl (by simp)) harr⟩
theorem LoopWp.wp {P:Program} {c:Code} {Q:Exit→Act→World→Prop} {a:Act} {w:World} (h:LoopWp P c Q a w):(Code.loop c).wp P Q a w:=by
 intro b k cs
 obtain ⟨e,a',w',hq,harr⟩:=h b k cs
 exact ⟨e,a',w',hq,.of_steps (.one step_loop) harr⟩
def dstOk (n:Nat) (o:Oper):Bool:=match o.dst with | some d=>Nat.blt d n | none=>true
def Post (m:Mp) (w:World) (base n:Nat) (env:Env) (H:Hp):Exit→Act→World→Prop:=λx a' w' =>
 x = .normal∧∃ m',RW m' H w' base∧St m w base m' w'∧FR m' env a'.tmps∧n≤a'.tmps.size∧a'.defers=[]
def CallV (P:Program) (g:Nat) (xs:List AV) (H:Hp) (v:AV) (H':Hp):Prop :=
 (∀ (m:Mp) (w:World) (base:Nat) (args:Array Value),VRs m xs args.toList→RW m H w base→Calls P g args w λx w' => ∃ m' c,x = .returned c∧RW m' H' w' base∧St m w base m' w'∧VR m' v c) ∧
 (∃ fn,P.funcs[g]? = some fn∧(fn.name == "runtime.NumGoroutine")=false∧fn.body.isSome=true)
def Stp (P:Program) (C:Cx) (env:Env) (H:Hp) (o:Oper) (v:AV) (H':Hp):Prop :=
 opV C env H o=some (v,H')∨∃ c g f first caps,o.op = .call c∧c.callee = .value g∧opnd env g = .func f first caps∧CallV P f (first++opnds env c.args.toList++caps) H v H'
theorem qAx {m:Mp} {env:Env} {a:Act} {ops:Array Oper} {o:Oper} {b:Bool} (h:wantedV o ops.toList env=some b) (fr:FR m env a.tmps):Region.wanted o (yielded ops a.tmps)=b:=by
 unfold wantedV at h
 unfold Region.wanted
 split at h <;> rename_i hg <;> rw [hg]
 ·cases h; rfl
 ·rename_i j want
  simp only
  rw [qCm] at h
  cases hp:ops.toList[j]? with
  | none=>rw [hp] at h; cases h
  | some p =>
   rw [hp] at h
   simp only at h
   cases hd:p.dst with
   | none=>rw [hd] at h; cases h
   | some d =>
    rw [hd] at h
    simp only at h
    split at h
    ·rename_i t hl
     cases h
     obtain ⟨c,k,g⟩:=fr d (by rw [hl]; intro e; cases e)
     rw [hl] at g
     simp only [VR] at g
     subst g
     rw [Array.getElem?_toList] at hp
     simp only [yielded,hp,Option.bind_some,hd,k]
     cases t <;> cases want <;> rfl
    ·rename_i hl
     cases h
     obtain ⟨c,k,g⟩:=fr d (by rw [hl]; intro e; cases e)
     rw [hl] at g
     simp only [VR,VRs] at g
     obtain ⟨ys,rfl,_⟩:=g
     rw [Array.getElem?_toList] at hp
     simp only [yielded,hp,Option.bind_some,hd,k]
     rfl
    ·cases h
theorem qAu {m : Mp} {env : Env} {a : Act} {n : Nat} (fr : FR m env a.tmps) (b : n ≤ a.tmps.size) (hd : a.defers = []) (o : Oper) (ho : dstOk n o = true) (v : AV) (c : Value) (hv : VR m v c) :
 FR m (putV env o.dst v) (a.put o.dst c).tmps∧n≤(a.put o.dst c).tmps.size∧(a.put o.dst c).defers=[]:=by
 unfold dstOk at ho
 cases h:o.dst with
 | none=>exact ⟨fr,b,hd⟩
 | some d =>
  rw [h] at ho
  simp only [putV,Act.put]
  have hlt:d < n:=by simpa using ho
  exact ⟨fr.put d v c hv (.inl (Nat.lt_of_lt_of_le hlt b)),by simpa using b,hd⟩
theorem qEi (m:Mp):VR m (.tuple []) undef:=by simp [VR,VRs,undef]
theorem VR_top (m:Mp) (c:Value):VR m .top c:=by simp [VR]
def StepOk (P:Program) (o:Oper) (a:Act) (m:Mp) (w:World) (base:Nat) (v:AV) (H':Hp):Prop :=
 ∀ (K:Act→World→Prop) (Q:Exit→Act→World→Prop),(∀ m' w' c,RW m' H' w' base→St m w base m' w'→VR m' v c→K (a.put o.dst c) w')→o.wp P a w K Q
theorem qFp {P:Program} {C:Cx} (hti:∀ t i,C.ti t=some i→mkTi P t=some i) {m:Mp} {H H':Hp} {w:World} {base:Nat} {env:Env} {a:Act} {o:Oper} {v:AV} (h:opV C env H o=some (v,H')) (fr:FR m env a.tmps) (rw:RW m H w base):StepOk P o a m w base v H':=by
 intro K Q hK
 obtain ⟨m',w',b,g,j⟩:=qNv hti h fr rw
 unfold Oper.wp
 rcases j with ⟨c,hr,hv⟩ | ⟨hr,rfl⟩
 ·rw [hr]; exact hK m' w' c b g hv
 ·rw [hr]; exact hK m' w' undef b g (VR_top _ _)
theorem qKc {P:Program} {C:Cx} (hti:∀ t i,C.ti t=some i→mkTi P t=some i) {m:Mp} {H H':Hp} {w:World} {base:Nat} {env:Env} {a:Act} {o:Oper} {v:AV} (h:Stp P C env H o v H') (fr:FR m env a.tmps) (rw:RW m H w base):StepOk P o a m w base v H':=by
 rcases h with h | ⟨c,g,f,first,caps,ho,hg,hgf,hcall,fn,k,e2,e3⟩
 ·exact qFp hti h fr rw
 have hgv:=qB9 fr g
 have hargs:=qCc fr c.args.toList
 rw [← qCd] at hargs
 rw [hgf] at hgv
 simp only [VR] at hgv
 obtain ⟨ys,zs,hgv,hy,hz⟩:=hgv
 have hall:VRs m (first++opnds env c.args.toList++caps) (ys++c.args.map a.eval++zs).toList:=by
  simp only [Array.toList_append,Array.toList_map]
  exact VRs.append (VRs.append hy hargs) hz
 have hexec:(execOp a.eval o).run P w = .ok (.enter f (ys++c.args.map a.eval++zs)) w:=by
  have b:¬ fn.name = "runtime.NumGoroutine" := by simpa using e2
  have j:¬ fn.body=none:=by intro e; rw [e] at e3; cases e3
  simp [execOp,ho,resolve,hg,hgv,Deferred.ofValue,invoke,callFunc,k,b,j]
 intro K Q hK
 unfold Oper.wp
 rw [hexec]
 refine Calls.mono (hcall m w base _ hall rw) ?_
 rintro x w' ⟨m',v',rfl,l,n,q⟩
 exact hK m' w' v' l n q
mutual
def pur : AV → Bool
 | .ptr .. | .slice .. | .own .. | .optp .. | .odat .. | .tptr .. | .ownt .. => false
 | .agg xs=>purs xs
 | .tuple xs=>purs xs
 | .func _ a b=>purs a && purs b
 | .iface _ v=>pur v
 | _=>true
def purs : List AV → Bool
 | []=>true
 | x::xs=>pur x && purs xs
end
mutual
theorem qHr {m : Mp} : ∀ (x : AV) (c : Value), pur x = true → VR m x c → VR m.still x c
 | .top,_,_,_=>by simp only [VR]
 | .int ..,_,_,e=>by simpa only [VR] using e
 | .resid ..,_,_,e=>by simpa only [VR] using e
 | .bool _,_,_,e=>by simpa only [VR] using e
 | .str _,_,_,e=>by simpa only [VR] using e
 | .nilp,_,_,e=>by simpa only [VR] using e
 | .nils,_,_,e=>by simpa only [VR] using e
 | .nilf,_,_,e=>by simpa only [VR] using e
 | .mapp _,_,_,e=>by simpa only [VR] using e
 | .nili,_,_,e=>by simpa only [VR] using e
 | .vec ..,_,_,e=>by simp only [VR] at e ⊢; exact e
 | .vptr ..,_,_,e=>by simp only [VR] at e ⊢; exact e
 | .ptr ..,_,h,_=>by simp [pur] at h
 | .slice ..,_,h,_=>by simp [pur] at h
 | .own ..,_,h,_=>by simp [pur] at h
 | .optp ..,_,h,_=>by simp [pur] at h
 | .odat ..,_,h,_=>by simp [pur] at h
 | .ownt ..,_,h,_=>by simp [pur] at h
 | .tptr ..,_,h,_=>by simp [pur] at h
 | .agg xs,c,h,e=>by
  simp only [VR] at e ⊢
  obtain ⟨ys,g,j⟩:=e
  exact ⟨ys,g,qBk xs _ (by simpa only [pur] using h) j⟩
 | .tuple xs,c,h,e=>by
  simp only [VR] at e ⊢
  obtain ⟨ys,g,j⟩:=e
  exact ⟨ys,g,qBk xs _ (by simpa only [pur] using h) j⟩
 | .func f a b,c,h,e=>by
  simp only [VR] at e ⊢
  simp only [pur,Bool.and_eq_true] at h
  obtain ⟨ys,zs,g,j,k⟩:=e
  exact ⟨ys,zs,g,qBk a _ h.1 j,qBk b _ h.2 k⟩
 | .iface t v,c,h,e=>by
  simp only [VR] at e ⊢
  obtain ⟨d,g,j⟩:=e
  exact ⟨d,g,qHr v _ (by simpa only [pur] using h) j⟩
theorem qBk {m : Mp} : ∀ (xs : List AV) (cs : List Value), purs xs = true → VRs m xs cs → VRs m.still xs cs
 | [],_,_,e=>by simpa only [VRs] using e
 | x::xs,cs,h,e=>by
  simp only [VRs] at e ⊢
  simp only [purs,Bool.and_eq_true] at h
  obtain ⟨y,ys,rfl,g,j⟩:=e
  exact ⟨y,ys,rfl,qHr x y h.1 g,qBk xs ys h.2 j⟩
end
theorem qEp : ∀ {xs ys : List AV}, purs xs = true → purs ys = true → purs (xs ++ ys) = true
 | [],ys,_,h=>h
 | x::xs,ys,h,k=>by
  simp only [List.cons_append,purs,Bool.and_eq_true] at h ⊢
  exact ⟨h.1,qEp h.2 k⟩
theorem qAo {α : Type} {f : α → List AV} (h : ∀ x, purs (f x) = true) : ∀ l : List α, purs (l.flatMap f) = true
 | []=>rfl
 | x::l=>by rw [List.flatMap_cons]; exact qEp (h x) (qAo h l)
structure Qt (m:Mp) (w:World) (base:Nat) (w':World):Prop where
 size:w.heap.size≤w'.heap.size
 os:w'.os=w.os
 tape:w'.tape=w.tape
 output:w'.output=w.output
 same:∀ B,B < w.heap.size→(∀ r v N,m r v=some (B,N)→B < base)→w'.heap[B]? = w.heap[B]?
theorem St.qt {m0 m:Mp} {a w w':World} {base:Nat} (j:base≤a.heap.size) (h:St m0 a base m w) (k:Qt m w base w'):Qt m0 a base w' where
 size:=Nat.le_trans h.size k.size
 os:=k.os.trans h.os
 tape:=k.tape.trans h.tape
 output:=k.output.trans h.output
 same:=by
  intro B hB hm
  rw [k.same B (Nat.lt_of_lt_of_le hB h.size) ?_,h.same B hB hm]
  intro r v N e
  rcases h.ext r v B N e with ⟨b,c,g⟩ | hB'
  ·exact hm r b c g
  ·omega
theorem Qt.refl (m:Mp) (w:World) (base:Nat):Qt m w base w:=⟨Nat.le_refl _,rfl,rfl,rfl,λ_ _ _=>rfl⟩
def Thr (D:LN) (H:Hp) (m0:Mp) (a:World) (b0:Nat) (w':World):Prop :=
 Qt m0 a b0 w'∧∃ m':Mp,(∀ r v,m' r v=if r ∈ D then none else m0 r v)∧((∀ i p,m0.froz i=some p→m'.froz i=some p)∧∀ B t,m0.tys B=some t→m'.tys B=some t)∧(∀ i B cells,m'.froz i=some (B,cells)→m0.froz i=some (B,cells)∨b0≤B∧((∃ r v N,m0 r v=some (B,N))∨a.heap.size≤B))∧RW m' H w' b0
def EndT (tv:Option (Value×LN)) (v:AV) (H:Hp) (m0:Mp) (a:World) (b0:Nat) (x:Ending) (w':World):Prop :=
 match tv with
 | none => ∃ m' c,x = .returned c∧RW m' H w' b0∧St m0 a b0 m' w'∧VR m' v c
 | some t=>x = .panicked [{ v:=t.1,recovered:=false }]∧Thr t.2 H m0 a b0 w'
def CallT (P:Program) (g:Nat) (xs:List AV) (H:Hp) (tv:Option (Value×LN)) (v:AV) (H':Hp):Prop :=
 (∀ (m:Mp) (w:World) (base:Nat) (args:Array Value),VRs m xs args.toList→RW m H w base→Calls P g args w (EndT tv v H' m w base)) ∧
 (∃ fn,P.funcs[g]? = some fn∧(fn.name == "runtime.NumGoroutine")=false∧fn.body.isSome=true)
theorem CallT.v {P:Program} {g:Nat} {xs:List AV} {H H':Hp} {v:AV} (h:CallT P g xs H none v H'):CallV P g xs H v H':=h
noncomputable def thrV (env:Env) (o:Oper):Option Value :=
 match o.op with
 | .panic x=>match opnd env x with | .iface t (.agg [])=>some (.iface t (.agg #[])) | _=>none
 | _=>none
def ThrStp (P:Program) (env:Env) (H:Hp) (o:Oper) (t:Value) (D:LN) (H':Hp):Prop :=
 (thrV env o=some t∧D=[]∧H'=H)∨∃ c g f first caps v,o.op = .call c∧c.callee = .value g∧opnd env g = .func f first caps∧CallT P f (first++opnds env c.args.toList++caps) H (some (t,D)) v H'
theorem thr_refl {m:Mp} {H:Hp} {w:World} {base:Nat} (rw:RW m H w base):Thr [] H m w base w :=
 ⟨Qt.refl _ _ _,m,λr v=>by simp,⟨λ_ _ h=>h,λ_ _ h=>h⟩,λ_ _ _ h => .inl h,rw⟩
theorem qDe {P : Program} {m : Mp} {H : Hp} {w : World} {base : Nat} {env : Env} {a : Act} {o : Oper} {t : Value} {D : LN} {H' : Hp} (h : ThrStp P env H o t D H') (fr : FR m env a.tmps) (rw : RW m H w base)
 (K:Act→World→Prop) (Q:Exit→Act→World→Prop) (hQ:∀ w',Thr D H' m w base w'→Q (.panic [{ v:=t,recovered:=false }]) a w'):o.wp P a w K Q:=by
 rcases h with ⟨h,rfl,rfl⟩ | ⟨c,g,f,first,caps,v,ho,hg,hgf,hcall,fn,k,e2,e3⟩
 ·unfold thrV at h
  split at h
  ·rename_i x hop
   split at h
   ·rename_i ty l
    cases h
    have hv:=qB9 fr x
    rw [l] at hv
    simp only [VR,VRs] at hv
    obtain ⟨d,hd,ys,rfl,hys⟩:=hv
    have hys:ys = #[]:=by
     have:=hys
     exact Array.toList_eq_nil_iff.1 this
    subst hys
    have hexec:(execOp a.eval o).run P w = .halt (.panic (.iface ty (.agg #[]))) w:=by
     simp [execOp,hop,hd,Instr.panic,goPanic,Sem.run,Bind.bind,Sem.bind]
    unfold Oper.wp
    rw [hexec]
    exact hQ w (thr_refl rw)
   ·cases h
  ·cases h
 have hgv:=qB9 fr g
 have hargs:=qCc fr c.args.toList
 rw [← qCd] at hargs
 rw [hgf] at hgv
 simp only [VR] at hgv
 obtain ⟨ys,zs,hgv,hy,hz⟩:=hgv
 have hall:VRs m (first++opnds env c.args.toList++caps) (ys++c.args.map a.eval++zs).toList:=by
  simp only [Array.toList_append,Array.toList_map]
  exact VRs.append (VRs.append hy hargs) hz
 have hexec:(execOp a.eval o).run P w = .ok (.enter f (ys++c.args.map a.eval++zs)) w:=by
  have b:¬ fn.name = "runtime.NumGoroutine" := by simpa using e2
  have j:¬ fn.body=none:=by intro e; rw [e] at e3; cases e3
  simp [execOp,ho,resolve,hg,hgv,Deferred.ofValue,invoke,callFunc,k,b,j]
 unfold Oper.wp
 rw [hexec]
 refine Calls.mono (hcall m w base _ hall rw) ?_
 rintro x w' ⟨rfl,hq⟩
 exact hQ w' hq
theorem qHi {P:Program} {env eE:Env} {H:Hp} {o:Oper} {t:Value} {D:LN} {H':Hp} (h:∀ x ∈ o.op.operands,opnd env x=opnd eE x) (hs:ThrStp P env H o t D H'):ThrStp P eE H o t D H':=by
 rcases hs with ⟨hs,rfl,rfl⟩ | ⟨c,g,f,first,caps,v,ho,hg,hgf,hcall⟩
 ·refine .inl ⟨?_,rfl,rfl⟩
  unfold thrV at hs ⊢
  split at hs
  ·rename_i x hop
   rw [← h x (by simp [hop,Op.operands])]
   exact hs
  ·cases hs
 ·refine .inr ⟨c,g,f,first,caps,v,ho,hg,?_,?_⟩
  ·rw [← h g (by simp [ho,Op.operands,Call.operands,hg])]; exact hgf
  ·have e:opnds eE c.args.toList=opnds env c.args.toList:=by
    rw [qCd,qCd]
    exact List.map_congr_left λx a=>(h x (by simp at a; simp [ho,Op.operands,Call.operands,a])).symm
   rw [e]; exact hcall
theorem qCn : ∀ (xs : List AV) (v : Nat), purs xs = true → purs (xs.take v) = true
 | [],v,_=>by simp [purs]
 | x::xs,0,_=>by simp [purs]
 | x::xs,v+1,h=>by
  simp only [purs,List.take_succ_cons,Bool.and_eq_true] at h ⊢
  exact ⟨h.1,qCn xs v h.2⟩
def Wb (c b:Blk):Prop:=c.ro=b.ro∧c.minv≤b.minv∧c.cells.length=b.cells.length∧purs b.cells=true∧∀ (m:Mp) (v:Nat) (cs:List Value),VRs m (c.cells.take v) cs→VRs m (b.cells.take v) cs
theorem Wb.same {b:Blk} (h:purs b.cells=true):Wb b b:=⟨rfl,Nat.le_refl _,rfl,h,λ_ _ _ h=>h⟩
theorem thr_up {D DX : LN} {H LX : Hp} {n0 : Nat} {m0 m : Mp} {u w w' : World} {b0 : Nat} (K : b0 ≤ u.heap.size) (st : St m0 u b0 m w) (x : ∀ r v p, m0 r v = some p → r < n0) (k : Thr D H m w b0 w')
 (hk:∀ r,r < n0→r ∈ DX∨(r ∉ D∧∃ c b,H.t.get r=some c∧LX.t.get r=some b∧Wb c b)) (hfr:∀ r,LX.next≤r→LX.t.get r=none) (hlow:LX.next≤roots):Thr DX LX m0 u b0 w':=by
 obtain ⟨q,m1,L,E,M,a⟩:=k
 have key:∀ {r v p},(if r ∈ DX then none else m0 r v)=some p→m1 r v=some p∧∃ c b,H.t.get r=some c∧LX.t.get r=some b∧Wb c b:=by
  intro r v p e
  by_cases hr:r ∈ DX
  ·rw [if_pos hr] at e; cases e
  ·rw [if_neg hr] at e
   obtain ⟨j,l⟩:=(hk r (x r v p e)).resolve_left hr
   exact ⟨by rw [L,if_neg j]; exact st.sub.1 r v p e,l⟩
 refine ⟨st.qt K q,⟨λr v=>if r ∈ DX then none else m0 r v,m1.froz,m1.tys⟩,λ_ _=>rfl,⟨λi p hp=>E.1 i p (st.sub.2 i p hp),λB t hp=>E.2 B t (st.sub.3 B t hp)⟩,?_,?_⟩
 ·intro i B cells hi
  rcases M i B cells hi with h | ⟨hB,⟨r,v,N,hm⟩ | A⟩
  ·exact st.fext i B cells h
  ·rcases st.ext r v B N hm with ⟨O,S,T⟩ | A
   ·exact .inr ⟨hB,.inl ⟨r,O,S,T⟩⟩
   ·exact .inr ⟨hB,.inr A⟩
  ·exact .inr ⟨hB,.inr (Nat.le_trans st.size A)⟩
 ·refine ⟨?_,?_,?_,hfr,?_,a.frz,?_,a.ffin,a.base_le,hlow,a.tyk⟩
  ·intro r b v B N hb' hm j l
   obtain ⟨g,c,b',n,e2,o,F,C,G,J⟩:=key hm
   rw [hb'] at e2
   cases e2
   obtain ⟨cs,ty,fr,U,p2,p3,p4,p5⟩:=a.blk r c v B N n g (Nat.le_trans F j) (by rw [C]; exact l)
   exact ⟨cs,ty,fr,U,p2,p3,(λh=>p4 (o.trans h)),VRs.mono (m:=m1.still) (m':=⟨λr v=>if r ∈ DX then none else m0 r v,m1.froz,m1.tys⟩) ⟨λ_ _ _ h=>(by cases h),λ_ _ h=>h,λ_ _ h=>(by cases h)⟩ _ _ (qBk _ _ (qCn _ v G) (J _ _ _ p5))⟩
  ·intro r v B N hm
   obtain ⟨g,c,b,n,e2,o,F,C,G,J⟩:=key hm
   obtain ⟨b',j,l,V,g4⟩:=a.dom r v B N g
   rw [n] at j
   cases j
   exact ⟨b,e2,by rw [← C]; exact l,V,λh=>g4 (o.trans h)⟩
  ·intro r v B N r' v' N' hm hm' hB
   exact a.sep _ _ _ _ _ _ _ (key hm).1 (key hm').1 hB
  ·intro r v B N hm
   exact a.vle _ _ _ _ (key hm).1
  ·intro i B cells r v N b hi hm hb'
   obtain ⟨g,c,b',n,e2,o,-⟩:=key hm
   rw [hb'] at e2
   cases e2
   exact o.symm.trans (a.fsep i B cells r v N c hi g n)
theorem ScopeWp.mono {P:Program} {body c:Code} {Q Q':Exit→Act→World→Prop} {a:Act} {w:World} (hq:∀ e a w,Q e a w→Q' e a w) (h:ScopeWp P body c Q a w):ScopeWp P body c Q' a w :=
 λb k cs=>let ⟨e,a',w',q,r⟩:=h b k cs; ⟨e,a',w',hq _ _ _ q,r⟩
theorem qK4 {C:Cx} {H c:Hp} {b:Builtin} {ts:LN} {xs:List AV} {v:AV} (g:b = .len∨b = .max∨b = .min) (h:callB C H b ts xs=some (v,c)):c=H∧∀ a,callB C a b ts xs=some (v,a):=by
 rcases g with rfl | rfl | rfl
 ·match ts,xs with
  | [],_=>simp only [callB] at h; cases h
  | _::_,[]=>simp only [callB] at h; cases h
  | _::_,_::_::_=>simp only [callB] at h; cases h
  | t::_,[x] =>
   simp only [callB] at h ⊢
   cases ht:C.ti t with
   | none=>rw [ht] at h; cases h
   | some i =>
    rw [ht] at h
    simp only at h ⊢
    split at h <;> first | (cases h; done) | (cases h; exact ⟨rfl,λa=>by simp_all⟩)
 ·match xs with
  | []=>simp only [callB] at h; cases h
  | [_]=>simp only [callB] at h; cases h
  | _::_::_::_=>simp only [callB] at h; cases h
  | [x,y] =>
   cases x <;> cases y <;> simp only [callB] at h ⊢ <;> first | (cases h; done) | (cases h; exact ⟨rfl,λa=>rfl⟩)
 ·match xs with
  | []=>simp only [callB] at h; cases h
  | [_]=>simp only [callB] at h; cases h
  | _::_::_::_=>simp only [callB] at h; cases h
  | [x,y] =>
   cases x <;> cases y <;> simp only [callB] at h ⊢ <;> first | (cases h; done) | (cases h; exact ⟨rfl,λa=>rfl⟩)
theorem qNu {C:Cx} {env:Env} {H g:Hp} {o:Oper} {v:AV} (hc:cls o=0) (h:opV C env H o=some (v,g)):g=H∧∀ a,opV C env a o=some (v,a):=by
 obtain ⟨dst,op,type,pos,after,guard⟩:=o
 cases op <;> simp only [cls] at hc
 all_goals (try (exact absurd hc (by decide)))
 case call c =>
  obtain ⟨callee,args,ts⟩:=c
  cases callee <;> simp only at hc <;> try (exact absurd hc (by decide))
  rename_i b
  cases b <;> simp only at hc <;> first | exact absurd hc (by decide) | exact qK4 (by simp) h
 case makeFunc fn first caps =>
  cases fn <;> simp only [opV] at h ⊢ <;> first | (cases h; done) | (cases h; exact ⟨rfl,λa=>rfl⟩)
 case slice t x lo hi mx =>
  cases mx with
  | some _=>simp only [opV] at h; cases h
  | none =>
   simp only [opV] at h ⊢
   obtain ⟨z,hz,he⟩:=map_some h
   cases he
   exact ⟨rfl,λa=>by rw [hz]; rfl⟩
 all_goals
  simp only [opV] at h ⊢
  first
   | (cases h; exact ⟨rfl,λa=>rfl⟩)
   | (obtain ⟨z,hz,he⟩:=map_some h; cases he; refine ⟨rfl,λa=>?_⟩; rw [hz]; rfl)
   | ((repeat' (split at h)) <;> first | (cases h; done) | (cases h; refine ⟨rfl,λa=>?_⟩; simp_all; done) | (obtain ⟨z,hz,he⟩:=map_some h; cases he; refine ⟨rfl,λa=>?_⟩; simp_all; done))
theorem qHx {C:Cx} {env:Env} {H a:Hp} {o:Oper} {v:AV} (hc:cls o=1) (h:opV C env H o=some (v,a)):a=H:=by
 obtain ⟨dst,op,type,pos,after,guard⟩:=o
 cases op <;> simp only [cls] at hc <;> try (exact absurd hc (by decide))
 case call c =>
  obtain ⟨callee,args,ts⟩:=c
  cases callee <;> simp only at hc <;> try (exact absurd hc (by decide))
  rename_i b
  cases b <;> simp only at hc <;> exact absurd hc (by decide)
 case load t x =>
  simp only [opV] at h
  split at h
  ·split at h
   ·obtain ⟨z,hz,he⟩:=map_some h; cases he; rfl
   ·cases h
  ·split at h
   ·obtain ⟨z,hz,he⟩:=map_some h; cases he; rfl
   ·cases h
  ·cases h
 case convert s d x =>
  simp only [opV,convV] at h
  (repeat' (split at h)) <;> first | (cases h; done) | (cases h; rfl)
theorem qHy {C:Cx} {env eE:Env} {H:Hp} {o:Oper} (h:∀ x ∈ o.op.operands,opnd env x=opnd eE x):opV C env H o=opV C eE H o:=by
 obtain ⟨dst,op,type,pos,after,guard⟩:=o
 have pairs : ∀ ps : Array (Nat × Operand), (∀ x ∈ ps.map (·.2), opnd env x = opnd eE x) →
  (ps.toList.map λp=>(p.1,opnd env p.2))=(ps.toList.map λp=>(p.1,opnd eE p.2)):=λps hp =>
  List.map_congr_left λp hm=>by rw [hp p.2 (Array.mem_map.2 ⟨p,by simpa using hm,rfl⟩)]
 cases op <;> simp only [Op.operands] at h <;> simp only [opV]
 case build t ps=>rw [pairs ps λx a=>h x (by simpa using a)]
 case buildSlice t n ps=>rw [pairs ps λx a=>h x (by simpa using a)]
 case makeFunc fn first captured =>
  have g:first.toList.map (opnd env)=first.toList.map (opnd eE):=List.map_congr_left λx a=>h x (by simp at a; simp [a])
  have e2:captured.toList.map (opnd env)=captured.toList.map (opnd eE):=List.map_congr_left λx a=>h x (by simp at a; simp [a])
  cases fn <;> simp only [g,e2]
 case call c =>
  obtain ⟨callee,args,ts⟩:=c
  cases callee <;> simp only
  rename_i b
  have g:args.toList.map (opnd env)=args.toList.map (opnd eE):=List.map_congr_left λx a=>h x (by simp at a; simp [Call.operands,a])
  rw [g]
 case slice t x lo hi mx =>
  have j:opnd env x=opnd eE x:=h x (by simp)
  have g:lo.map (opnd env)=lo.map (opnd eE):=by cases lo with | none=>rfl | some y=>simp [h y (by simp)]
  have e2:hi.map (opnd env)=hi.map (opnd eE):=by cases hi with | none=>rfl | some y=>simp [h y (by simp)]
  cases mx <;> simp only [j,g,e2]
 case pick c x y =>
  rw [h c (by simp)]
  split
  ·rename_i b _
   cases b with
   | true=>simp only [if_true]; rw [h x (by simp)]
   | false=>simp only [Bool.false_eq_true,if_false]; rw [h y (by simp)]
  ·rfl
 all_goals (first | rfl | (simp_all; done))
theorem qC6 {ops:Array Oper} {o:Oper} {env eE:Env} (h:∀ t ∈ o.looksAt ops,look env t=look eE t):∀ x ∈ o.op.operands,opnd env x=opnd eE x:=by
 intro x a
 cases x with
 | tmp t=>exact h t (List.mem_append_left _ (List.mem_filterMap.2 ⟨.tmp t,by simpa using a,rfl⟩))
 | _=>rfl
theorem qCt {ops:Array Oper} {o:Oper} {env eE:Env} (h:∀ t ∈ o.looksAt ops,look env t=look eE t):wantedV o ops.toList env=wantedV o ops.toList eE:=by
 unfold wantedV
 cases hg:o.guard with
 | none=>rfl
 | some gw =>
  obtain ⟨g,want⟩:=gw
  simp only
  rw [qCm]
  cases hp:ops.toList[g]? with
  | none=>rfl
  | some p =>
   simp only
   cases hd:p.dst with
   | none=>rfl
   | some d =>
    simp only
    rw [Array.getElem?_toList] at hp
    rw [h d (List.mem_append_right _ (by simp [hg,hp,hd]))]
noncomputable def fzn (S:LN) (o:Oper):Bool :=
 match o.op with
 | .buildSlice .. => (match o.dst with | some d=>S.any (λe=>Nat.beq e d) | none=>false)
 | _=>false
noncomputable def clsS (S:LN) (o:Oper):Nat:=bif fzn S o then 0 else cls o
noncomputable def opF (C:Cx) (env:Env) (o:Oper):Option AV :=
 match o.op with
 | .buildSlice t len parts=>match C.ti t with
  | some i=>match i.kind,C.ti i.elem with
   | .slice,some e=>match e.zero with
    | some z => if z.length = e.size ∧ 0 < e.size ∧ len * e.size ≤ 2 ^ 24 then
     match fillL (λk=>some (k * e.size,e.size)) (rep z len) (parts.toList.map λp=>(p.1,opnd env p.2)) with
     | some cs=>bif purs cs then some (.vec len e.size cs) else none
     | none=>none
     else none
    | none=>none
   | _,_=>none
  | none=>none
 | _=>none
noncomputable def evS (C:Cx) (S:LN) (env:Env) (H:Hp) (o:Oper):Option (AV×Hp):=bif fzn S o then (match opF C env o with | some v=>some (v,H) | none=>none) else opV C env H o
theorem qK {S:LN} {o:Oper} (h:clsS S o ≠ 0):fzn S o=false:=by
 cases e:fzn S o with
 | false=>rfl
 | true=>exact absurd (by simp [clsS,e]) h
theorem qE0 {S:LN} {o:Oper} (h:fzn S o=false):clsS S o=cls o:=by simp [clsS,h]
theorem qQj (S:LN) (o:Oper):clsS S o≤2:=by
 unfold clsS cls
 cases fzn S o
 ·simp only [cond_false]
  repeat' split
  all_goals omega
 ·simp
theorem qI9 {C:Cx} {S:LN} {env:Env} {H:Hp} {o:Oper} (h:fzn S o=false):evS C S env H o=opV C env H o:=by simp [evS,h]
theorem qI7 {C:Cx} {S:LN} {env:Env} {H b:Hp} {o:Oper} {v:AV} (hc:clsS S o=0) (h:evS C S env H o=some (v,b)):b=H∧∀ a,evS C S env a o=some (v,a):=by
 cases e:fzn S o with
 | false =>
  rw [qI9 e] at h
  rw [qE0 e] at hc
  obtain ⟨c,g⟩:=qNu hc h
  exact ⟨c,λa=>by rw [qI9 e]; exact g a⟩
 | true =>
  simp only [evS,e,cond_true] at h ⊢
  split at h
  ·rename_i v' hv
   cases h
   exact ⟨rfl,λa=>rfl⟩
  ·cases h
theorem qI8 {C:Cx} {S:LN} {env:Env} {H a:Hp} {o:Oper} {v:AV} (hc:clsS S o=1) (h:evS C S env H o=some (v,a)):a=H:=by
 have e:=qK (S:=S) (o:=o) (by omega)
 rw [qI9 e] at h
 rw [qE0 e] at hc
 exact qHx hc h
theorem qNx {C:Cx} {env eE:Env} {o:Oper} (h:∀ x ∈ o.op.operands,opnd env x=opnd eE x):opF C env o=opF C eE o:=by
 obtain ⟨dst,op,type,pos,after,guard⟩:=o
 cases op <;> simp only [opF]
 rename_i t n ps
 simp only [Op.operands] at h
 have e:(ps.toList.map λp=>(p.1,opnd env p.2))=(ps.toList.map λp=>(p.1,opnd eE p.2)) :=
  List.map_congr_left λp hm=>by rw [h p.2 (by simp; exact ⟨p.1,by simpa using hm⟩)]
 rw [e]
theorem qQd {C:Cx} {S:LN} {env eE:Env} {H:Hp} {o:Oper} (h:∀ x ∈ o.op.operands,opnd env x=opnd eE x):evS C S env H o=evS C S eE H o:=by
 unfold evS
 rw [qNx h,qHy h]
def StpS (P:Program) (C:Cx) (S:LN) (env:Env) (H:Hp) (o:Oper) (v:AV) (H':Hp):Prop :=
 evS C S env H o=some (v,H')∨∃ c g f first caps,o.op = .call c∧c.callee = .value g∧opnd env g = .func f first caps∧CallV P f (first++opnds env c.args.toList++caps) H v H'
theorem qM2 {S:LN} {o:Oper} {c:Call} (h:o.op = .call c):fzn S o=false:=by simp [fzn,h]
theorem qD7 {P:Program} {C:Cx} {S:LN} {env:Env} {H H':Hp} {o:Oper} {v:AV} (hc:clsS S o ≠ 2) (h:StpS P C S env H o v H'):evS C S env H o=some (v,H'):=by
 rcases h with h | ⟨c,g,f,first,caps,ho,hg,_⟩
 ·exact h
 ·exact absurd (by rw [qE0 (qM2 ho)]; simp [cls,ho,hg]) hc
theorem qDt {P:Program} {C:Cx} {S:LN} {env eE:Env} {H H':Hp} {o:Oper} {v:AV} (h:∀ x ∈ o.op.operands,opnd env x=opnd eE x) (hs:StpS P C S env H o v H'):StpS P C S eE H o v H':=by
 rcases hs with hs | ⟨c,g,f,first,caps,ho,hg,hgf,hcall⟩
 ·exact .inl ((qQd h) ▸ hs)
 ·refine .inr ⟨c,g,f,first,caps,ho,hg,?_,?_⟩
  ·rw [← h g (by simp [ho,Op.operands,Call.operands,hg])]; exact hgf
  ·have e:opnds eE c.args.toList=opnds env c.args.toList:=by
    rw [qCd,qCd]
    exact List.map_congr_left λx a=>(h x (by simp at a; simp [ho,Op.operands,Call.operands,a])).symm
   rw [e]; exact hcall
theorem qM9 {P:Program} {env:Env} {H:Hp} {o:Oper} {t:Value} {D:LN} (S:LN) {H':Hp} (h:ThrStp P env H o t D H'):clsS S o=2:=by
 rcases h with ⟨h,_⟩ | ⟨c,g,f,first,caps,v,a,e2,_⟩
 ·unfold thrV at h
  split at h
  ·rename_i x hop
   have hf:fzn S o=false:=by simp [fzn,hop]
   rw [qE0 hf]; simp [cls,hop]
  ·cases h
 ·rw [qE0 (qM2 a)]; simp [cls,a,e2]
theorem frzAdd {m : Mp} {H : Hp} {w : World} {base : Nat} (rw : RW m H w base) {out : List AV} {ds : Array Value} {ty : TypeId} (hp : purs out = true) (hr : VRs m out ds.toList) {n sz : Nat} (hl : out.length = n * sz) :
 ∃ m',RW m' H (wnew w (.cells ds ty (0,0))) base∧St m w base m' (wnew w (.cells ds ty (0,0)))∧VR m' (.vec n sz out) (.slice (some ⟨w.heap.size,0,none⟩) n n):=by
 obtain ⟨nf,hnf⟩:=rw.ffin
 have hs:=qBk _ _ hp hr
 have hlen:out.length=ds.size:=by have:=VRs.len hr; simp at this; omega
 have hmono:∀ i p,m.froz i=some p→(λi=>if i=nf then some (w.heap.size,out) else m.froz i) i=some p:=by
  intro i p hi
  simp only
  rw [if_neg]
  ·exact hi
  ·rintro rfl; rw [hnf _ (Nat.le_refl _)] at hi; cases hi
 have hsub:Sub m ⟨m.map,λi=>if i=nf then some (w.heap.size,out) else m.froz i,m.tys⟩:=⟨λ_ _ _ h=>h,hmono,λ_ _ h=>h⟩
 have hold:∀ B,B < w.heap.size→(wnew w (.cells ds ty (0,0))).heap[B]? = w.heap[B]? := λB hB=>qB7 _ _ _ hB
 refine ⟨⟨m.map,λi=>if i=nf then some (w.heap.size,out) else m.froz i,m.tys⟩,⟨?_,?_,rw.sep,rw.fresh,rw.vle,?_,?_,⟨nf+1,λi hi=>?_⟩,?_,rw.low,rw.tyk_new _⟩,⟨hsub,λr v B N e => .inl ⟨v,N,e⟩,?_,?_,rfl,rfl,rfl,λB hB _=>hold B hB⟩,?_⟩
 ·intro r b v B N a hm g j
  obtain ⟨cs,ty',fr',c,e2,e3,e4,e5⟩:=rw.blk r b v B N a hm g j
  obtain ⟨_,_,_,hlt,_⟩:=rw.dom r v B N hm
  exact ⟨cs,ty',fr',by rw [hold B hlt]; exact c,e2,e3,e4,VRs.mono hsub _ _ e5⟩
 ·intro r v B N hm
  obtain ⟨b,k,l,q,o⟩:=rw.dom r v B N hm
  exact ⟨b,k,l,by rw [qAj]; omega,o⟩
 ·intro i B cells hi
  have hi:(if i=nf then some (w.heap.size,out) else m.froz i)=some (B,cells):=hi
  by_cases e:i=nf
  ·rw [if_pos e] at hi
   cases hi
   refine ⟨ds,ty,(0,0),qC9 _ _,by omega,?_⟩
   rw [List.take_of_length_le (by simp; omega)]
   exact VRs.mono (still_mono hsub) _ _ hs
  ·rw [if_neg e] at hi
   obtain ⟨cs,ty',fr',c,e2,e3⟩:=rw.frz i B cells hi
   have hlt:=rw.froz_lt hi
   exact ⟨cs,ty',fr',by rw [hold B hlt]; exact c,e2,VRs.mono (still_mono hsub) _ _ e3⟩
 ·intro i B cells r v N b hi hm a
  have hi:(if i=nf then some (w.heap.size,out) else m.froz i)=some (B,cells):=hi
  by_cases e:i=nf
  ·rw [if_pos e] at hi
   cases hi
   obtain ⟨_,_,_,hlt,_⟩:=rw.dom r v _ N hm
   omega
  ·rw [if_neg e] at hi
   exact rw.fsep i B cells r v N b hi hm a
 ·show (if i=nf then some (w.heap.size,out) else m.froz i)=none
  rw [if_neg (by omega)]; exact hnf i (by omega)
 ·rw [qAj]; exact Nat.le_succ_of_le rw.base_le
 ·intro i B cells hi
  have hi:(if i=nf then some (w.heap.size,out) else m.froz i)=some (B,cells):=hi
  by_cases e:i=nf
  ·rw [if_pos e] at hi
   cases hi
   exact .inr ⟨rw.base_le,.inr (Nat.le_refl _)⟩
  ·rw [if_neg e] at hi; exact .inl hi
 ·rw [qAj]; omega
 ·simp only [VR]
  refine ⟨hl,_,n,rfl,Nat.le_refl _,λe=>(by cases e),λ_=>⟨nf,w.heap.size,0,out,by simp,rfl,?_,by omega⟩⟩
  rw [List.drop_zero,List.take_of_length_le (by omega)]
theorem qFn {P : Program} {C : Cx} (hti : ∀ t i, C.ti t = some i → mkTi P t = some i) {m : Mp} {H : Hp} {w : World} {base : Nat} {t len : Nat} {i e : Ti} {z out : List AV} {parts : List (Nat × AV)} {ps : Array (Nat × Value)} (ht : C.ti t = some i) (hk : i.kind = .slice) (he : C.ti i.elem = some e) (hz : e.zero = some z) (g : z.length = e.size) (b : 0 < e.size) (u : len * e.size ≤ 2 ^ 24)
 (h:fillL (λk=>some (k * e.size,e.size)) (rep z len) parts=some out) (hl:out.length=len * e.size) (j:parts.map (·.1)=ps.toList.map (·.1)) (e2:VRs m (parts.map (·.2)) (ps.toList.map (·.2))) (hp:purs out=true) (rw:RW m H w base) :
 Good P (do pure (.value (← Instr.buildSlice t len ps))) m w base (.vec len e.size out) H:=by
 obtain ⟨c,hc,rfl⟩:=qDr (hti _ _ he) hz w
 have hu:=qAl (hti _ _ ht) hk
 obtain ⟨ds,hd,hr⟩:=qF7 _ _ _ _ _ (qK6 (m:=m) (n:=len) g b) j e2 h
 obtain ⟨m',l,o,q⟩:=frzAdd (ty:=i.elem) rw hp hr hl
 refine ⟨m',_,l,o,.inl ⟨.slice (some ⟨w.heap.size,0,none⟩) len len,?_,q⟩⟩
 have hzs:c.cells.size=e.size:=by simpa using g
 have hbig:¬ len * e.size > 2 ^ 24:=by omega
 by_cases r:len=0
 ·subst r
  have a:Array.range 0 = #[]:=Array.ext (by simp) (λi g b=>by simp at b)
  have hd':Instr.fill (λi=>some (i * e.size,e.size)) #[] ps.toList=some ds:=by simpa [a] using hd
  simp only [Instr.buildSlice,Sem.run_bind,run_underlying hu,Result.andThen_ok,qAf (hti _ _ he) w,if_neg hbig,Sem.run_pure,Nat.zero_mul,if_true]
  simp [newRow,newObj,Sem.run,wnew,a,hd']
 ·have hne:¬ len * e.size=0:=Nat.ne_of_gt (Nat.mul_pos (by omega) b)
  simp only [Instr.buildSlice,Sem.run_bind,run_underlying hu,Result.andThen_ok,qAf (hti _ _ he) w,if_neg hbig,Sem.run_pure,if_neg hne,hc,hd]
  simp [newRow,newObj,Sem.run,wnew]
theorem qNw {P:Program} {C:Cx} (hti:∀ t i,C.ti t=some i→mkTi P t=some i) {m:Mp} {H:Hp} {w:World} {base:Nat} {env:Env} {a:Act} {o:Oper} {v:AV} (h:opF C env o=some v) (fr:FR m env a.tmps) (rw:RW m H w base):Good P (execOp a.eval o) m w base v H:=by
 unfold opF at h
 split at h
 ·rename_i t len parts hop
  obtain ⟨c,e2⟩:=qGq fr parts
  have hex:execOp a.eval o=(do pure (.value (← Instr.buildSlice t len (parts.map λp=>(p.1,a.eval p.2))))):=by simp [execOp,hop]
  rw [hex]
  cases ht:C.ti t with
  | none=>rw [ht] at h; cases h
  | some i =>
   rw [ht] at h
   simp only at h
   split at h
   ·rename_i e hk he
    cases hz:e.zero with
    | none=>rw [hz] at h; cases h
    | some z =>
     rw [hz] at h
     simp only at h
     split at h
     ·rename_i hc
      obtain ⟨b,g,j⟩:=hc
      split at h
      ·rename_i cs hcs
       cases hp:purs cs with
       | false=>rw [hp] at h; cases h
       | true =>
        rw [hp] at h
        cases h
        refine qFn hti ht hk he hz b g j hcs ?_ c e2 hp rw
        rw [qCr _ _ _ hcs,qC3,b]
      ·cases h
     ·cases h
   ·cases h
 ·cases h
theorem qN1 {P:Program} {C:Cx} {S:LN} (hti:∀ t i,C.ti t=some i→mkTi P t=some i) {m:Mp} {H H':Hp} {w:World} {base:Nat} {env:Env} {a:Act} {o:Oper} {v:AV} (h:StpS P C S env H o v H') (fr:FR m env a.tmps) (rw:RW m H w base):StepOk P o a m w base v H':=by
 rcases h with h | h
 ·cases e:fzn S o with
  | false =>
   rw [qI9 e] at h
   exact qFp hti h fr rw
  | true =>
   simp only [evS,e,cond_true] at h
   split at h
   ·rename_i v' hv
    cases h
    intro K Q hK
    obtain ⟨m',w',b,g,j⟩:=qNw hti hv fr rw
    unfold Oper.wp
    rcases j with ⟨c,hr,hv⟩ | ⟨hr,rfl⟩
    ·rw [hr]; exact hK m' w' c b g hv
    ·rw [hr]; exact hK m' w' undef b g (VR_top _ _)
   ·cases h
 ·exact qKc hti (.inr h) fr rw
structure DP where
 S:LN
 pl:List (Nat×Nat×Nat)
 tI:Nat
 tv:Value
 tD:LN
 tH:Hp
def maskAt (pl:List (Nat×Nat×Nat)) (i:Nat):Nat:=match pl[i]? with | some (k,_,_)=>k | none=>0
inductive OpsD (P:Program) (C:Cx) (D:DP) (all:List Oper):List Oper→Env→Hp→Env→List Hp→Prop where
 | nil {env H}:OpsD P C D all [] env H env []
 | skip {o l env H e hs} (hi:Nat.beq (all.length - (l.length+1)) D.tI=false) (hw:wantedV o all env=some false) (h:OpsD P C D all l (putV env o.dst (.tuple [])) H e hs):OpsD P C D all (o::l) env H e (bif Nat.beq (clsS D.S o) 2 then H::hs else hs)
 | val {o l env H e hs v H'} (hi:Nat.beq (all.length - (l.length+1)) D.tI=false) (hw:wantedV o all env=some true) (hv:StpS P C D.S env H o v H') (h:OpsD P C D all l (putV env o.dst v) H' e hs):OpsD P C D all (o::l) env H e (bif Nat.beq (clsS D.S o) 2 then H'::hs else hs)
 | thr {o l env H e hs} (hi:Nat.beq (all.length - (l.length+1)) D.tI=true) (hw:wantedV o all env=some true) (ht:ThrStp P env H o D.tv D.tD D.tH) (h:OpsD P C D all l (putV env o.dst .top) H e hs):OpsD P C D all (o::l) env H e (bif Nat.beq (clsS D.S o) 2 then H::hs else hs)
 | dead {o l env H e hs} (hm:(maskAt D.pl (all.length - (l.length+1))).testBit D.tI=true) (h:OpsD P C D all l (putV env o.dst .top) H e hs):OpsD P C D all (o::l) env H e (bif Nat.beq (clsS D.S o) 2 then H::hs else hs)
theorem qDi {P:Program} {C:Cx} {D:DP} {all:List Oper} {t:Nat} {l:List Oper} {env eE:Env} {H:Hp} {hs:List Hp} (h:OpsD P C D all l env H eE hs):(∀ o ∈ l,o.dst ≠ some t)→look eE t=look env t:=by
 have key:∀ {o:Oper} {l:List Oper} {env:Env} {v:AV} {x:AV},((∀ o ∈ l,o.dst ≠ some t)→x=look (putV env o.dst v) t)→(∀ p ∈ o::l,p.dst ≠ some t)→x=look env t:=by
  intro o l env v x ih a
  rw [ih λp hp=>a p (by simp [hp])]
  cases hd:o.dst with
  | none=>rfl
  | some d =>
   simp only [putV]
   rw [qBg,if_neg]
   intro e
   subst e
   exact a o (by simp) hd
 induction h with
 | nil=>intro _; rfl
 | skip _ _ _ ih=>exact key ih
 | val _ _ _ _ ih=>exact key ih
 | thr _ _ _ _ ih=>exact key ih
 | dead _ _ ih=>exact key ih
def Told1 (P:Program) (C:Cx) (D:DP) (all:List Oper) (eE:Env) (hs:List Hp) (l:List Oper) (i:Nat) (o:Oper) (Ei:Env):Prop :=
 (all.length - l.length+i=D.tI∧wantedV o all Ei=some true∧∃ Hb,hs[(l.take i).countP (λp=>Nat.beq (clsS D.S p) 2)]? = some Hb∧ThrStp P Ei Hb o D.tv D.tD D.tH) ∨
 (∃ b v, all.length - l.length + i ≠ D.tI ∧ wantedV o all Ei = some b ∧ (∀ d, o.dst = some d → look eE d = v) ∧
  (b=false→v = .tuple []∧(clsS D.S o=2→∀ H,hs[(l.take i).countP (λp=>Nat.beq (clsS D.S p) 2)]? = some H→hs[(l.take i).countP (λp=>Nat.beq (clsS D.S p) 2)+1]? = some H)) ∧
  (b=true→∃ Hb Ha,hs[(l.take i).countP (λp=>Nat.beq (clsS D.S p) 2)]? = some Hb∧StpS P C D.S Ei Hb o v Ha∧(clsS D.S o=2→hs[(l.take i).countP (λp=>Nat.beq (clsS D.S p) 2)+1]? = some Ha)))
def Told (P:Program) (C:Cx) (D:DP) (all:List Oper) (env0 eE:Env) (hs:List Hp) (l:List Oper):Prop :=
 ∀ (i:Nat) (o:Oper),l[i]? = some o→(maskAt D.pl (all.length - l.length+i)).testBit D.tI=true∨∃ Ei,(∀ t,(∀ (j:Nat) (p:Oper),l[j]? = some p→i≤j→p.dst ≠ some t)→look Ei t=look eE t)∧(∀ t,(∀ (j:Nat) (p:Oper),l[j]? = some p→j < i→p.dst ≠ some t)→look Ei t=look env0 t)∧Told1 P C D all eE hs l i o Ei
theorem qMa {P:Program} {C:Cx} {S:LN} {env:Env} {H a:Hp} {o:Oper} {v:AV} (hc:clsS S o ≠ 2) (h:StpS P C S env H o v a):a=H:=by
 have hv:=qD7 hc h
 have hle:=qQj S o
 have:clsS S o=0∨clsS S o=1:=by omega
 rcases this with b | c
 ·exact (qI7 b hv).1
 ·exact qI8 c hv
theorem qC5 {P : Program} {C : Cx} {D : DP} {ops : Array Oper} : ∀ (l : List Oper) (env eE : Env) (H : Hp) (hs : List Hp), OpsD P C D ops.toList l env H eE hs → l.length ≤ ops.toList.length →
 (∀ (i j:Nat) (o p:Oper),l[i]? = some o→l[j]? = some p→i < j→∀ d,o.dst=some d→p.dst ≠ some d) →
 Told P C D ops.toList env eE (H::hs) l∧hs.length=l.countP (λp=>Nat.beq (clsS D.S p) 2)
 | [],env,eE,H,hs,h,_,_=>by
  cases h
  exact ⟨λi o ho=>by simp at ho,rfl⟩
 | o::l,env,eE,H,hs,h,hlen0,hd=>by
  have hd':∀ (i j:Nat) (p q:Oper),l[i]? = some p→l[j]? = some q→i < j→∀ d,p.dst=some d→q.dst ≠ some d:=λi j p q hp hq hij=>hd (i+1) (j+1) p q (by simpa using hp) (by simpa using hq) (by omega)
  have hlen1:l.length≤ops.toList.length:=by simp only [List.length_cons] at hlen0; omega
  have key:∀ (v:AV) (b:Hp) (a:List Hp),OpsD P C D ops.toList l (putV env o.dst v) b eE a→(∀ d,o.dst=some d→look eE d=v):=by
   intro v b a hr d hdd
   rw [qDi hr]
   ·rw [hdd]; simp only [putV]; rw [qBg,if_pos rfl]
   ·intro p hp
    obtain ⟨j,hj⟩:=List.mem_iff_getElem?.1 hp
    exact hd 0 (j+1) o p rfl (by simpa using hj) (by omega) d hdd
  have c:Nat.beq (clsS D.S o) 2=true ↔ clsS D.S o=2:=⟨λh=>Nat.eq_of_beq_eq_true h,λh=>by rw [h]; rfl⟩
  have hidx:∀ i,ops.toList.length - (o::l).length+(i+1)=ops.toList.length - l.length+i:=by
   intro i
   simp only [List.length_cons] at hlen0 ⊢
   omega
  have g:ops.toList.length - (o::l).length+0=ops.toList.length - (l.length+1):=by simp
  have build : ∀ (v : AV) (b : Hp) (a : List Hp), (clsS D.S o ≠ 2 → b = H) → hs = (bif Nat.beq (clsS D.S o) 2 then b :: a else a) →
   ((maskAt D.pl (ops.toList.length - (l.length+1))).testBit D.tI=true∨∃ Ei,(∀ t,(∀ (j:Nat) (p:Oper),(o::l)[j]? = some p→0≤j→p.dst ≠ some t)→look Ei t=look eE t)∧(∀ t,(∀ (j:Nat) (p:Oper),(o::l)[j]? = some p→j < 0→p.dst ≠ some t)→look Ei t=look env t)∧Told1 P C D ops.toList eE (H::hs) (o::l) 0 o Ei) →
   Told P C D ops.toList (putV env o.dst v) eE (b::a) l∧a.length=l.countP (λp=>Nat.beq (clsS D.S p) 2)→Told P C D ops.toList env eE (H::hs) (o::l)∧hs.length=(o::l).countP (λp=>Nat.beq (clsS D.S p) 2):=by
   intro v b a hst hhs hzero hrec
   obtain ⟨hrec,hlen⟩:=hrec
   refine ⟨?_,?_⟩
   ·intro i p hp
    cases i with
    | zero =>
     simp at hp
     subst hp
     rw [g]
     exact hzero
    | succ i =>
     have hp':l[i]? = some p:=by simpa using hp
     rw [hidx i]
     rcases hrec i p hp' with hdead | ⟨Ei,wa,wb,w⟩
     ·exact .inl hdead
     refine .inr ⟨Ei,?_,?_,?_⟩
     ·intro t ht
      exact wa t λj q hq hij=>ht (j+1) q (by simpa using hq) (by omega)
     ·intro t ht
      rw [wb t λj q hq hij=>ht (j+1) q (by simpa using hq) (by omega)]
      have g:=ht 0 o rfl (by omega)
      cases hdd:o.dst with
      | none=>rfl
      | some d =>
       simp only [putV]
       rw [qBg,if_neg]
       intro e
       subst e
       exact g hdd
     ·unfold Told1 at w ⊢
      rw [hidx i,List.take_succ_cons,List.countP_cons]
      by_cases hc:clsS D.S o=2
      ·rw [c.2 hc] at hhs ⊢
       simp only [cond_true,if_true] at hhs ⊢
       rw [hhs]
       simp only [List.getElem?_cons_succ]
       exact w
      ·have hcf:Nat.beq (clsS D.S o) 2=false:=by
        cases hq:Nat.beq (clsS D.S o) 2 with
        | false=>rfl
        | true=>exact absurd (c.1 hq) hc
       rw [hcf] at hhs ⊢
       simp only [cond_false,Bool.false_eq_true,if_false,Nat.add_zero] at hhs ⊢
       rw [hhs,← hst hc]
       exact w
   ·rw [hhs,List.countP_cons]
    cases hq:Nat.beq (clsS D.S o) 2 with
    | true=>simp [hlen]
    | false=>simp [hlen]
  have hta:∀ t,(∀ (j:Nat) (p:Oper),(o::l)[j]? = some p→0≤j→p.dst ≠ some t)→look env t=look eE t:=λt ht =>
   (qDi h λq hq=>by
    obtain ⟨j,hj⟩:=List.mem_iff_getElem?.1 hq
    exact ht j q hj (Nat.zero_le _)).symm
  have hni:Nat.beq (ops.toList.length - (l.length+1)) D.tI=false→ops.toList.length - (o::l).length+0 ≠ D.tI:=by
   intro h e
   rw [g] at e
   rw [e] at h
   simp at h
  cases h with
  | @skip _ _ _ _ _ hs' hi hw hr =>
   refine build (.tuple []) H hs' (λ_=>rfl) rfl (.inr ⟨env,hta,λ_ _=>rfl,.inr ⟨false,.tuple [],hni hi,hw,key _ _ _ hr,λ_=>⟨rfl,?_⟩,λm=>by cases m⟩⟩) (qC5 l _ _ _ _ hr hlen1 hd')
   intro hc n k
   rw [c.2 hc]
   simp at k
   subst k
   simp
  | @val _ _ _ _ _ hs' v b hi hw a hr =>
   refine build v b hs' (λhc=>qMa hc a) rfl (.inr ⟨env,hta,λ_ _=>rfl,.inr ⟨true,v,hni hi,hw,key _ _ _ hr,λm=>(by cases m),λ_=>⟨H,b,by simp,a,?_⟩⟩⟩) (qC5 l _ _ _ _ hr hlen1 hd')
   intro hc
   rw [c.2 hc]
   simp
  | @thr _ _ _ _ _ hs' hi hw ht hr =>
   exact build .top H hs' (λ_=>rfl) rfl (.inr ⟨env,hta,λ_ _=>rfl,.inl ⟨by rw [g]; exact Nat.eq_of_beq_eq_true hi,hw,H,by simp,ht⟩⟩) (qC5 l _ _ _ _ hr hlen1 hd')
  | @dead _ _ _ _ _ hs' hm hr =>
   exact build .top H hs' (λ_=>rfl) rfl (.inl hm) (qC5 l _ _ _ _ hr hlen1 hd')
noncomputable def effAt (S:LN) (ops:Array Oper) (k:Nat):Bool:=match ops.toList[k]? with | some p=>Nat.beq (clsS S p) 2 | none=>false
def maskOf (pl:List (Nat×Nat×Nat)) (es:List Edge):Nat:=es.foldl (λacc e=>bif Region.binds .any e then acc ||| (2 ^ e.on ||| maskAt pl e.on) else acc) 0
noncomputable def planOk (S:LN) (ops:Array Oper) (pl:List (Nat×Nat×Nat)):Bool :=
 (List.range ops.size).all λi=>match ops.toList[i]?,pl[i]? with
  | some o,some (mask,lo,hi) =>
   (o.after.toList.all λe => !Region.binds .any e || Nat.blt e.on i) && Nat.beq mask (maskOf pl o.after.toList) &&
   ((List.range ops.size).all λk=>match ops.toList[k]? with
    | some p => (Nat.beq k i || (match p.dst with | some d => o.dst != some d | none => true)) &&
     (match p.dst with | some d => !(o.looksAt ops).contains d || (Nat.blt k i && mask.testBit k) || (Nat.blt i k && (maskAt pl k).testBit i && !Nat.beq (clsS S o) 1) | none=>true) &&
     (!(Nat.beq (clsS S o) 2 && Nat.beq (clsS S p) 2 && Nat.blt k i) || mask.testBit k)
    | none=>false) &&
   (!Nat.beq (clsS S o) 1 || (Nat.ble lo ((List.range ops.size).countP λk=>effAt S ops k && mask.testBit k) && Nat.ble ((List.range ops.size).countP (effAt S ops)) (hi+(List.range ops.size).countP λk=>effAt S ops k && (maskAt pl k).testBit i)))
  | _,_=>false
structure PlanOk (S:LN) (ops:Array Oper) (pl:List (Nat×Nat×Nat)):Prop where
 back:∀ i o,ops[i]? = some o→∀ e ∈ o.after,Region.binds .any e=true→e.on < i
 mask:∀ i o,ops[i]? = some o→∀ k,(maskAt pl i).testBit k=true→∃ e ∈ o.after,Region.binds .any e=true∧(k=e.on∨(maskAt pl e.on).testBit k=true)
 once:∀ (i k:Nat) (o p:Oper),ops[i]? = some o→ops[k]? = some p→k ≠ i→∀ d,p.dst=some d→o.dst ≠ some d
 uses:∀ i k o p,ops[i]? = some o→ops[k]? = some p→∀ d ∈ o.looksAt ops,p.dst=some d→(k < i∧(maskAt pl i).testBit k=true)∨(i < k∧(maskAt pl k).testBit i=true∧clsS S o ≠ 1)
 acts:∀ i k o p,ops[i]? = some o→ops[k]? = some p→clsS S o=2→clsS S p=2→k < i→(maskAt pl i).testBit k=true
 reads:∀ i o mask lo hi,ops[i]? = some o→pl[i]? = some (mask,lo,hi)→clsS S o=1→lo≤((List.range ops.size).countP λk=>effAt S ops k && (maskAt pl i).testBit k)∧(List.range ops.size).countP (effAt S ops)≤(hi+(List.range ops.size).countP λk=>effAt S ops k && (maskAt pl k).testBit i)
 len:∀ (i:Nat) (o:Oper),ops[i]? = some o→∃ q:Nat×Nat×Nat,pl[i]? = some q
theorem qFv (pl : List (Nat × Nat × Nat)) (k : Nat) : ∀ (es : List Edge) (acc : Nat), (es.foldl (λacc e => bif Region.binds .any e then acc ||| (2 ^ e.on ||| maskAt pl e.on) else acc) acc).testBit k = true → acc.testBit k = true ∨ ∃ e ∈ es, Region.binds .any e = true ∧ (k = e.on ∨ (maskAt pl e.on).testBit k = true)
 | [],acc,h => .inl h
 | e::es,acc,h=>by
  rw [List.foldl_cons] at h
  rcases qFv pl k es _ h with a | ⟨e',he,b⟩
  ·cases b:Region.binds .any e with
   | false=>rw [b] at a; exact .inl a
   | true =>
    rw [b] at a
    simp only [cond_true,Nat.testBit_or,Bool.or_eq_true] at a
    rcases a with a | a | a
    ·exact .inl a
    ·refine .inr ⟨e,by simp,b,.inl ?_⟩
     rw [Nat.testBit_two_pow] at a
     simpa using (of_decide_eq_true a).symm
    ·exact .inr ⟨e,by simp,b,.inr a⟩
  ·exact .inr ⟨e',by simp [he],b⟩
theorem qEt {S:LN} {ops:Array Oper} {pl:List (Nat×Nat×Nat)} (h:planOk S ops pl=true):PlanOk S ops pl:=by
 unfold planOk at h
 have hall:=h
 rw [List.all_eq_true] at hall
 have lt:∀ {i:Nat} {o:Oper},ops[i]? = some o→i < ops.size:=λh=>(Array.getElem?_eq_some_iff.1 h).1
 have key : ∀ i o, ops[i]? = some o → ∃ mask lo hi, pl[i]? = some (mask, lo, hi) ∧ maskAt pl i = mask ∧
  (∀ e ∈ o.after,Region.binds .any e=true→e.on < i)∧mask=maskOf pl o.after.toList ∧
  (∀ k p,ops[k]? = some p→(k=i∨∀ d,p.dst=some d→o.dst ≠ some d)∧(∀ d,p.dst=some d→d ∈ o.looksAt ops→(k < i∧mask.testBit k=true)∨(i < k∧(maskAt pl k).testBit i=true∧clsS S o ≠ 1))∧(clsS S o=2→clsS S p=2→k < i→mask.testBit k=true)) ∧
  (clsS S o=1→lo≤((List.range ops.size).countP λk=>effAt S ops k && mask.testBit k)∧(List.range ops.size).countP (effAt S ops)≤(hi+(List.range ops.size).countP λk=>effAt S ops k && (maskAt pl k).testBit i)):=by
  intro i o ho
  have b:=hall i (List.mem_range.2 (lt ho))
  rw [Array.getElem?_toList,ho] at b
  split at b
  ·rename_i o' mask lo hi r e2
   cases r
   simp only [Bool.and_eq_true,List.all_eq_true] at b
   obtain ⟨⟨⟨u,x⟩,A⟩,c⟩:=b
   refine ⟨mask,lo,hi,e2,by simp [maskAt,e2],?_,Nat.eq_of_beq_eq_true x,?_,?_⟩
   ·intro e he n
    have:=u e (by simpa using he)
    rw [n] at this
    simpa using this
   ·intro k p hp
    have:=A k (List.mem_range.2 (lt hp))
    rw [Array.getElem?_toList,hp] at this
    simp only [Bool.and_eq_true] at this
    obtain ⟨⟨g,a⟩,j⟩:=this
    refine ⟨?_,?_,?_⟩
    ·simp only [Bool.or_eq_true] at g
     rcases g with g | g
     ·exact .inl (Nat.eq_of_beq_eq_true g)
     ·refine .inr λd hd=>?_
      rw [hd] at g
      simpa using g
    ·intro d hd hu
     rw [hd] at a
     simp only [Bool.or_eq_true,Bool.not_eq_true',Bool.and_eq_true] at a
     rcases a with (a | a) | a
     ·exact absurd (by simpa using hu) (by simpa using a)
     ·exact .inl ⟨by simpa using a.1,a.2⟩
     ·refine .inr ⟨by simpa using a.1.1,a.1.2,λe=>?_⟩
      rw [e] at a
      exact absurd a.2 (by decide)
    ·intro l q hk
     simp only [l,q,Bool.or_eq_true,Bool.not_eq_true'] at j
     rcases j with j | j
     ·have:Nat.blt k i=true:=by simpa using hk
      rw [this] at j
      exact absurd j (by decide)
     ·exact j
   ·intro l
    simp only [l,Bool.or_eq_true,Bool.not_eq_true',Bool.and_eq_true] at c
    rcases c with c | c
    ·exact absurd c (by decide)
    ·exact ⟨Nat.le_of_ble_eq_true c.1,Nat.le_of_ble_eq_true c.2⟩
  ·cases b
 refine ⟨?_,?_,?_,?_,?_,?_,?_⟩
 ·intro i o ho
  obtain ⟨mask,lo,hi,_,_,b,_⟩:=key i o ho
  exact b
 ·intro i o ho k hk
  obtain ⟨mask,lo,hi,_,hm,_,B,_⟩:=key i o ho
  rw [hm,B] at hk
  rcases qFv pl k _ 0 hk with m | ⟨e,he,n,hq⟩
  ·simp at m
  ·exact ⟨e,by simpa using he,n,hq⟩
 ·intro i k o p ho hp hne d hd
  obtain ⟨mask,lo,hi,_,hm,_,_,m,_⟩:=key i o ho
  exact (m k p hp).1.resolve_left hne d hd
 ·intro i k o p ho hp d hu hd
  obtain ⟨mask,lo,hi,_,hm,_,_,m,_⟩:=key i o ho
  rw [hm]
  exact (m k p hp).2.1 d hd hu
 ·intro i k o p ho hp l q hk
  obtain ⟨mask,lo,hi,_,hm,_,_,m,_⟩:=key i o ho
  rw [hm]
  exact (m k p hp).2.2 l q hk
 ·intro i o mask lo hi ho hpl l
  obtain ⟨mask',lo',hi',hpl',hm,_,_,_,C⟩:=key i o ho
  rw [hpl] at hpl'
  cases hpl'
  rw [hm]
  exact C l
 ·intro i o ho
  obtain ⟨mask,lo,hi,hpl,_⟩:=key i o ho
  exact ⟨_,hpl⟩
theorem qK3 {b : LN} {ops : Array Oper} {pl : List (Nat × Nat × Nat)} (hp : PlanOk b ops pl) {S : Nat → Prop} (hc : ∀ i o, ops[i]? = some o → S i → ∀ e ∈ o.after, Region.binds .any e = true → S e.on) (hin : ∀ i, S i → i < ops.size) :
 ∀ (i:Nat) (o:Oper),ops[i]? = some o→(∀ e ∈ o.after,Region.binds .any e=true→S e.on)→∀ k,(maskAt pl i).testBit k=true→S k:=by
 intro i
 induction i using Nat.strongRecOn with
 | _ i ih =>
  intro o ho hd k hk
  obtain ⟨e,he,a,hq⟩:=hp.mask i o ho k hk
  rcases hq with rfl | hq
  ·exact hd e he a
  ·have hS:=hd e he a
   have hlt:=hp.back i o ho e he a
   have hlt':=hin _ hS
   have ho':ops[e.on]? = some ops[e.on]:=Array.getElem?_eq_getElem hlt'
   exact ih e.on hlt _ ho' (hc _ _ ho' hS) k hq
theorem qD1 (i : Nat) (f g : Nat → Bool) (hf : f i = false) (hg : g i = true) (hne : ∀ k, k ≠ i → f k = g k) : ∀ n, i < n → (List.range n).countP g = (List.range n).countP f + 1
 | 0,h=>by omega
 | n+1,h=>by
  rw [List.range_succ,List.countP_append,List.countP_append]
  by_cases e:i=n
  ·subst e
   have:(List.range i).countP g=(List.range i).countP f:=List.countP_congr λk hk=>by
    have:k ≠ i:=by have:=List.mem_range.1 hk; omega
    rw [hne k this]
   rw [this]
   simp [hf,hg]
  ·have ih:=qD1 i f g hf hg hne n (by omega)
   have a:=hne n (λh=>e h.symm)
   rw [ih]
   simp only [List.countP_cons,List.countP_nil,a]
   omega
theorem qE8 (f : Nat → Bool) (i : Nat) : ∀ n, i ≤ n → (List.range n).countP (λk => f k && decide (k < i)) = (List.range i).countP f
 | 0,h=>by
  have:i=0:=by omega
  subst this; rfl
 | n+1,h=>by
  by_cases e:i=n+1
  ·subst e
   exact List.countP_congr λk hk=>by have:=List.mem_range.1 hk; simp [this]
  ·rw [List.range_succ,List.countP_append,qE8 f i n (by omega)]
   have:¬ n < i:=by omega
   simp [this]
theorem qCv (S : LN) (ops : Array Oper) : ∀ i, i ≤ ops.size → (ops.toList.take i).countP (λp => Nat.beq (clsS S p) 2) = (List.range i).countP (effAt S ops)
 | 0,_=>rfl
 | i+1,h=>by
  rw [List.take_add_one,List.countP_append,qCv S ops i (by omega),List.range_succ,List.countP_append]
  congr 1
  have hi:i < ops.size:=by omega
  have:ops.toList[i]? = some ops[i]:=by rw [Array.getElem?_toList]; exact Array.getElem?_eq_getElem hi
  simp [effAt,hi]
theorem qE9 {p q r : Nat → Bool} (hpr : ∀ k, p k = true → r k = true) (hqr : ∀ k, q k = true → r k = true) (hpq : ∀ k, p k = true → q k = true → False) : ∀ l : LN, l.countP p + l.countP q ≤ l.countP r
 | []=>by simp
 | k::l=>by
  have ih:=qE9 hpr hqr hpq l
  simp only [List.countP_cons]
  cases hp:p k <;> cases hq:q k <;> cases hr:r k <;> simp only [if_true,Bool.false_eq_true,if_false] <;> first | omega | exact absurd (hpr k hp) (by rw [hr]; decide) | exact absurd (hqr k hq) (by rw [hr]; decide) | exact (hpq k hp hq).elim
def AlikeP (C:Cx) (D:DP) (ops:Array Oper) (env:Env) (hs:List Hp):Prop :=
 ∀ (i:Nat) (o:Oper) (mk lo hi:Nat),ops.toList[i]? = some o→D.pl[i]? = some (mk,lo,hi)→mk.testBit D.tI=false→clsS D.S o=1→wantedV o ops.toList env=some true→¬ (lo=(ops.toList.take i).countP (λp=>Nat.beq (clsS D.S p) 2)∧hi=(ops.toList.take i).countP (λp=>Nat.beq (clsS D.S p) 2))→∀ j,lo≤j→j≤hi→∀ H,hs[j]? = some H→∃ v,opV C env H o=some (v,H)∧∀ d,o.dst=some d→look env d=v
theorem qF : ∀ (hs : List Hp) (H : Hp), (H :: hs)[hs.length]? = some (lastH H hs)
 | [],H=>rfl
 | h::l,H=>by
  have:=qF l h
  simpa [lastH] using this
noncomputable def cnt (S:LN) (ops:Array Oper) (listed:Array Bool):Nat:=(List.range ops.size).countP λk=>effAt S ops k && listed.getD k false
structure Mid (D:DP) (ops:Array Oper) (env0 eE:Env) (hs:List Hp) (n base:Nat) (m0:Mp) (w0:World) (listed:Array Bool) (a:Act) (w:World) (E:Env) (m:Mp) (H:Hp):Prop where
 size:listed.size=ops.size
 closed:∀ (i:Nat) (o:Oper),ops[i]? = some o→listed.getD i false=true→∀ e ∈ o.after,Region.binds .any e=true→listed.getD e.on false=true
 fr:FR m E a.tmps
 tn:n≤a.tmps.size
 df:a.defers=[]
 other:∀ t,(∀ (k:Nat) (p:Oper),ops[k]? = some p→listed.getD k false=true→p.dst ≠ some t)→look E t=look env0 t
 given:∀ (k:Nat) (p:Oper) (d:Nat),ops[k]? = some p→listed.getD k false=true→p.dst=some d→look E d=look eE d
 at_:hs[cnt D.S ops listed]? = some H
 nt:listed.getD D.tI false=false
 rw_:RW m H w base
 st:St m0 w0 base m w
theorem qN2 {m m' m'':Mp} {w w' w'':World} {base:Nat} (a:base≤w.heap.size) (h:St m w base m' w') (k:St m' w' base m'' w''):St m w base m'' w'':=h.trans a k
theorem qBv {listed:Array Bool} {i:Nat} (h:i < listed.size) (d:Bool):(listed.setIfInBounds i true).getD i d=true:=by simp [h]
theorem Mid.next {D : DP} {ops : Array Oper} (hp : PlanOk D.S ops D.pl) {env0 eE : Env} {hs : List Hp} {n base : Nat} {m0 m m' : Mp} {g w w' : World} {listed : Array Bool} {a : Act} {E : Env} {H H' : Hp} (j : base ≤ g.heap.size) (md : Mid D ops env0 eE hs n base m0 g listed a w E m H)
 {i:Nat} {o:Oper} {v:AV} {c:Value} (ho:ops[i]? = some o) (hun:listed.getD i false=false) (hti:i ≠ D.tI) (hdep:∀ e ∈ o.after,Region.binds .any e=true→listed.getD e.on false=true) (hds:dstOk n o=true)
 (hv:∀ d,o.dst=some d→look eE d=v) (h:RW m' H' w' base) (b:St m w base m' w') (hc:VR m' v c) (hat:hs[cnt D.S ops (listed.setIfInBounds i true)]? = some H'):Mid D ops env0 eE hs n base m0 g (listed.setIfInBounds i true) (a.put o.dst c) w' (putV E o.dst v) m' H':=by
 have hi:i < ops.size:=(Array.getElem?_eq_some_iff.1 ho).1
 have hi':i < listed.size:=by rw [md.size]; exact hi
 obtain ⟨f1,f2,f3⟩:=qAu (md.fr.mono b.sub) md.tn md.df o hds v c hc
 have hlook:∀ t,o.dst ≠ some t→look (putV E o.dst v) t=look E t:=by
  intro t ht
  cases hd:o.dst with
  | none=>rfl
  | some d =>
   simp only [putV]
   rw [qBg,if_neg]
   intro e
   subst e
   exact ht hd
 refine ⟨by simp [md.size],?_,f1,f2,f3,?_,?_,hat,by rw [getD_set_ne false hti]; exact md.nt,h,qN2 j md.st b⟩
 ·intro k p hk hl e he hbd
  by_cases hki:k=i
  ·subst hki
   rw [ho] at hk
   cases hk
   exact getD_set_true (hdep e he hbd)
  ·rw [getD_set_ne false (Ne.symm hki)] at hl
   exact getD_set_true (md.closed k p hk hl e he hbd)
 ·intro t ht
  rw [hlook t (ht i o ho (qBv hi' false))]
  refine md.other t λk p hk hl=>ht k p hk ?_
  exact getD_set_true hl
 ·intro k p d hk hl hd
  by_cases hki:k=i
  ·subst hki
   rw [ho] at hk
   cases hk
   rw [hd]
   simp only [putV]
   rw [qBg,if_pos rfl]
   exact (hv d hd).symm
  ·rw [getD_set_ne false (Ne.symm hki)] at hl
   rw [hlook d (hp.once i k o p ho hk hki d hd)]
   exact md.given k p d hk hl hd
theorem Mid.step {P : Program} {C : Cx} {D : DP} (hti : ∀ t i, C.ti t = some i → mkTi P t = some i) {ops : Array Oper} (hp : PlanOk D.S ops D.pl) {env0 eE : Env} {hs : List Hp} {n base : Nat} {m0 m : Mp} {A w : World} {listed : Array Bool} {a : Act} {E : Env} {H : Hp}
 (K:base≤A.heap.size) (hds:ops.toList.all (dstOk n)=true) (told:Told P C D ops.toList env0 eE hs ops.toList) (alike:AlikeP C D ops eE hs) (md:Mid D ops env0 eE hs n base m0 A listed a w E m H) {i:Nat} (hr:i ∈ Region.ready .any ops listed) {Q:Exit→Act→World→Prop}
 (hQ:∀ a m w w',D.tI < ops.size→a.defers=[]→St m0 A base m w→Thr D.tD D.tH m w base w'→Q (.panic [{ v:=D.tv,recovered:=false }]) a w') :
 wpOp P ops Q i (λa' w' => ∃ E' m' H',Mid D ops env0 eE hs n base m0 A (listed.setIfInBounds i true) a' w' E' m' H') a w:=by
 obtain ⟨hun,o,ho,hdep⟩:=mem_ready.1 hr
 have hi:i < ops.size:=(Array.getElem?_eq_some_iff.1 ho).1
 have hi':i < listed.size:=by rw [md.size]; exact hi
 have hun':listed.getD i false=false:=by simpa [hi'] using hun
 have hoL:ops.toList[i]? = some o:=by rw [Array.getElem?_toList]; exact ho
 have hdo:dstOk n o=true:=List.all_eq_true.1 hds o (List.mem_of_getElem? hoL)
 have hin:∀ k,listed.getD k false=true→k < ops.size:=by
  intro k hk
  rcases Nat.lt_or_ge k ops.size with h | h
  ·exact h
  ·have x:listed[k]? = none:=Array.getElem?_eq_none (by rw [md.size]; exact h)
   have:listed.getD k false=false:=by simp [x]
   rw [this] at hk; cases hk
 have hmask:=qK3 hp (S:=λk=>listed.getD k false=true) md.closed hin
 have hbit:=hmask i o ho hdep
 have hz:ops.toList.length - ops.toList.length+i=i:=by omega
 have hnd:(maskAt D.pl i).testBit D.tI=false:=by
  cases hq:(maskAt D.pl i).testBit D.tI with
  | false=>rfl
  | true=>have:=hbit _ hq; rw [md.nt] at this; cases this
 obtain ⟨Ei,ta,tb,tld⟩:=(told i o hoL).resolve_left (by rw [hz,hnd]; decide)
 have agree:∀ t ∈ o.looksAt ops,look Ei t=look E t:=by
  intro t ht
  by_cases hex:∃ (k:Nat) (p:Oper),ops[k]? = some p∧p.dst=some t
  ·obtain ⟨k,p,hk,hd⟩:=hex
   rcases hp.uses i k o p ho hk t ht hd with ⟨hki,hbk⟩ | ⟨hik,hbk,_⟩
   ·rw [ta t,md.given k p t hk (hbit k hbk) hd]
    intro j q hq hij hqd
    rw [Array.getElem?_toList] at hq
    exact hp.once k j p q hk hq (by omega) t hqd hd
   ·have hkl:listed.getD k false ≠ true:=by
     intro hl
     have:=hmask k p hk (md.closed k p hk hl) i hbk
     rw [hun'] at this; cases this
    rw [tb t,md.other t]
    ·intro j q hq hl hqd
     by_cases hjk:j=k
     ·subst hjk; exact hkl hl
     ·exact hp.once k j p q hk hq hjk t hqd hd
    ·intro j q hq hji hqd
     rw [Array.getElem?_toList] at hq
     exact hp.once k j p q hk hq (by omega) t hqd hd
  ·rw [tb t,md.other t]
   ·intro j q hq _ hqd; exact hex ⟨j,q,hq,hqd⟩
   ·intro j q hq _ hqd
    rw [Array.getElem?_toList] at hq
    exact hex ⟨j,q,hq,hqd⟩
 have agree1:clsS D.S o=1→∀ t ∈ o.looksAt ops,look eE t=look E t:=by
  intro hc t ht
  by_cases hex:∃ (k:Nat) (p:Oper),ops[k]? = some p∧p.dst=some t
  ·obtain ⟨k,p,hk,hd⟩:=hex
   rcases hp.uses i k o p ho hk t ht hd with ⟨hki,hbk⟩ | ⟨_,_,hne⟩
   ·exact (md.given k p t hk (hbit k hbk) hd).symm
   ·exact absurd hc hne
  ·rw [← agree t ht]
   refine (ta t λj q hq _ hqd=>?_).symm
   rw [Array.getElem?_toList] at hq
   exact hex ⟨j,q,hq,hqd⟩
 have heff:effAt D.S ops i=Nat.beq (clsS D.S o) 2:=by
  simp only [effAt,hoL]
 have hset:∀ k,k ≠ i→(listed.setIfInBounds i true).getD k false=listed.getD k false:=λk hk=>getD_set_ne false (Ne.symm hk)
 have hsame:clsS D.S o ≠ 2→cnt D.S ops (listed.setIfInBounds i true)=cnt D.S ops listed:=by
  intro hc
  refine List.countP_congr λk _=>?_
  by_cases hki:k=i
  ·subst hki
   have:Nat.beq (clsS D.S o) 2=false:=by
    cases hq:Nat.beq (clsS D.S o) 2 with
    | false=>rfl
    | true=>exact absurd (Nat.eq_of_beq_eq_true hq) hc
   rw [heff,this]; simp
  ·rw [hset k hki]
 have hone:clsS D.S o=2→cnt D.S ops (listed.setIfInBounds i true)=cnt D.S ops listed+1:=by
  intro hc
  refine qD1 i _ _ ?_ ?_ ?_ ops.size hi
  ·rw [hun']; simp
  ·rw [heff,hc,qBv hi']; rfl
  ·intro k hk
   rw [hset k hk]
 have hcount:clsS D.S o=2→cnt D.S ops listed=(ops.toList.take i).countP (λp=>Nat.beq (clsS D.S p) 2):=by
  intro hc
  rw [qCv D.S ops i (Nat.le_of_lt hi),← qE8 (effAt D.S ops) i ops.size (Nat.le_of_lt hi)]
  refine List.countP_congr λk hk=>?_
  have hk:=List.mem_range.1 hk
  have hkp:ops[k]? = some ops[k]:=Array.getElem?_eq_getElem hk
  cases he:effAt D.S ops k with
  | false=>simp
  | true =>
   have hck:clsS D.S ops[k]=2:=by
    have:effAt D.S ops k=Nat.beq (clsS D.S ops[k]) 2:=by simp [effAt,hk]
    rw [this] at he
    exact Nat.eq_of_beq_eq_true he
   simp only [Bool.true_and,decide_eq_true_eq]
   constructor
   ·intro hl
    rcases Nat.lt_trichotomy k i with h | h | h
    ·exact h
    ·subst h; rw [hun'] at hl; cases hl
    ·have x:=hp.acts k i _ _ hkp ho hck hc h
     have B:=hmask k _ hkp (md.closed k _ hkp hl) i x
     rw [hun'] at B; cases B
   ·intro hlt
    exact hbit k (hp.acts i k _ _ ho hkp hc hck hlt)
 unfold wpOp
 simp only [ho]
 rcases tld with ⟨L,M,Hb,F,l⟩ | ⟨b,v,hne,M,G,V,W⟩
 ·have hw:=qAx (by rw [← qCt agree]; exact M) md.fr
  rw [hw]
  simp only [if_true]
  refine .inl ?_
  rw [hz] at L
  have hlt2:D.tI < ops.size:=by omega
  have hcl:=qM9 D.S l
  have hH:Hb=H:=by
   have:=md.at_
   rw [hcount hcl,F] at this
   exact Option.some.inj this
  subst hH
  exact qDe (qHi (qC6 agree) l) md.fr md.rw_ _ Q λw' q=>hQ a m w w' hlt2 md.df md.st q
 rw [hz] at hne
 have hwE:wantedV o ops.toList E=some b:=by rw [← qCt agree]; exact M
 have hw:=qAx hwE md.fr
 rw [hw]
 cases b with
 | false =>
  simp only [Bool.false_eq_true,if_false]
  obtain ⟨rfl,J⟩:=V rfl
  refine ⟨_,m,H,md.next hp K ho hun' hne hdep hdo G md.rw_ (St.refl _ _ _) (qEi _) ?_⟩
  by_cases hc:clsS D.S o=2
  ·rw [hone hc,hcount hc]
   exact J hc H (by rw [← hcount hc]; exact md.at_)
  ·rw [hsame hc]; exact md.at_
 | true =>
  simp only [if_true]
  refine .inl ?_
  obtain ⟨Hb,Ha,F,l,Y⟩:=W rfl
  by_cases g:clsS D.S o=2
  ·have hH:Hb=H:=by
    have:=md.at_
    rw [hcount g,F] at this
    exact Option.some.inj this
   subst hH
   have l:=qDt (qC6 agree) l
   refine qN1 hti l md.fr md.rw_ _ Q λm' w' c N O T=>?_
   exact ⟨_,m',Ha,md.next hp K ho hun' hne hdep hdo G N O T (by rw [hone g,hcount g]; exact Y g)⟩
  ·have quiet:∀ v',evS C D.S E H o=some (v',H)→(∀ d,o.dst=some d→look eE d=v')→o.wp P a w (λa' w' => ∃ E' m' H',Mid D ops env0 eE hs n base m0 A (listed.setIfInBounds i true) a' w' E' m' H') Q:=by
    intro v' hv' hd'
    refine qN1 hti (.inl hv') md.fr md.rw_ _ Q λm' w' c N O T=>?_
    exact ⟨_,m',H,md.next hp K ho hun' hne hdep hdo hd' N O T (by rw [hsame g]; exact md.at_)⟩
   have hcl:clsS D.S o=0∨clsS D.S o=1:=by
    have hle:=qQj D.S o
    omega
   rcases hcl with U | u
   ·have l:=qD7 g (qDt (qC6 agree) l)
    exact quiet v ((qI7 U l).2 H) G
   ·obtain ⟨⟨mk,lo,hi⟩,hpl⟩:=hp.len i o ho
    obtain ⟨hlo,hhi⟩:=hp.reads i o mk lo hi ho hpl u
    have Z:lo≤cnt D.S ops listed:=by
     refine Nat.le_trans hlo (List.countP_mono_left λk hk=>?_)
     simp only [Bool.and_eq_true]
     rintro ⟨e1,e2⟩
     exact ⟨e1,hbit k e2⟩
    have g2:cnt D.S ops listed≤hi:=by
     have:=qE9 (p:=λk=>effAt D.S ops k && listed.getD k false) (q:=λk=>effAt D.S ops k && (maskAt D.pl k).testBit i) (r:=effAt D.S ops) (λk h=>by simp at h; exact h.1) (λk h=>by simp at h; exact h.1) (λk x B=>by
      simp only [Bool.and_eq_true] at x B
      have hk:=hin k x.2
      have hkp:ops[k]? = some ops[k]:=Array.getElem?_eq_getElem hk
      have J:=hmask k _ hkp (md.closed k _ hkp x.2) i B.2
      rw [hun'] at J; cases J) (List.range ops.size)
     unfold cnt
     omega
    by_cases hwin:lo=(ops.toList.take i).countP (λp=>Nat.beq (clsS D.S p) 2)∧hi=(ops.toList.take i).countP (λp=>Nat.beq (clsS D.S p) 2)
    ·have hcn:cnt D.S ops listed=(ops.toList.take i).countP (λp=>Nat.beq (clsS D.S p) 2):=by omega
     have hH:Hb=H:=by
      have:=md.at_
      rw [hcn,F] at this
      exact Option.some.inj this
     subst hH
     have l:=qD7 g (qDt (qC6 agree) l)
     have:=qI8 u l
     subst this
     exact quiet v l G
    ·obtain ⟨v',hv',hd'⟩:=alike i o mk lo hi hoL hpl (by rw [← hnd]; simp [maskAt,hpl]) u (by rw [qCt (agree1 u)]; exact hwE) hwin _ Z g2 H md.at_
     rw [qHy (qC6 (agree1 u)),← qI9 (S:=D.S) (qK (by omega))] at hv'
     exact quiet v' hv' hd'
theorem Mid.run {P : Program} {C : Cx} {D : DP} (hti : ∀ t i, C.ti t = some i → mkTi P t = some i) {ops : Array Oper} (hp : PlanOk D.S ops D.pl) {env0 eE : Env} {hs : List Hp} {n base : Nat} {m0 : Mp} {b : World} {Hl : Hp} {Q : Exit → Act → World → Prop}
 (j:base≤b.heap.size) (hds:ops.toList.all (dstOk n)=true) (told:Told P C D ops.toList env0 eE hs ops.toList) (alike:AlikeP C D ops eE hs) (hsame:∀ t,(∀ (k:Nat) (p:Oper),ops[k]? = some p→p.dst ≠ some t)→look eE t=look env0 t) (hlast:hs[(List.range ops.size).countP (effAt D.S ops)]? = some Hl)
 (hN:∀ a w,¬ D.tI < ops.size→Post m0 b base n eE Hl .normal a w→Q .normal a w) (hQ:∀ a m w w',D.tI < ops.size→a.defers=[]→St m0 b base m w→Thr D.tD D.tH m w base w'→Q (.panic [{ v:=D.tv,recovered:=false }]) a w'):∀ (fuel:Nat) (listed:Array Bool) (a:Act) (w:World) (E:Env) (m:Mp) (H:Hp),
 Mid D ops env0 eE hs n base m0 b listed a w E m H→(List.range ops.size).countP (λk => !listed.getD k false)=fuel→wpAny P .any ops Q fuel listed a w
 | 0,listed,a,w,E,m,H,md,hf=>by
  have hall:∀ k,k < ops.size→listed.getD k false=true:=by
   intro k hk
   have:=List.countP_eq_zero.1 hf k (List.mem_range.2 hk)
   simpa using this
  have hready:Region.ready .any ops listed=[]:=by
   rw [List.eq_nil_iff_forall_not_mem]
   intro i hi
   obtain ⟨c,o,ho,_⟩:=mem_ready.1 hi
   have hlt:i < ops.size:=(Array.getElem?_eq_some_iff.1 ho).1
   have:=hall i hlt
   have hl:i < listed.size:=by rw [md.size]; exact hlt
   simp [hl] at c this
   rw [c] at this; cases this
  refine ⟨hready,?_⟩
  have hcnt:cnt D.S ops listed=(List.range ops.size).countP (effAt D.S ops):=by
   refine List.countP_congr λk hk=>?_
   rw [hall k (List.mem_range.1 hk)]; simp
  have hH:H=Hl:=by
   have:=md.at_
   rw [hcnt,hlast] at this
   exact (Option.some.inj this).symm
  subst hH
  have hnt:¬ D.tI < ops.size:=by
   intro h
   have:=hall D.tI h
   rw [md.nt] at this; cases this
  refine hN a w hnt ⟨rfl,m,md.rw_,md.st,md.fr.less λt => .inr ?_,md.tn,md.df⟩
  by_cases hex:∃ (k:Nat) (p:Oper),ops[k]? = some p∧p.dst=some t
  ·obtain ⟨k,p,hk,hd⟩:=hex
   exact (md.given k p t hk (hall k (Array.getElem?_eq_some_iff.1 hk).1) hd).symm
  ·rw [md.other t λk p hk _ hd=>hex ⟨k,p,hk,hd⟩]
   exact hsame t λk p hk hd=>hex ⟨k,p,hk,hd⟩
 | fuel+1,listed,a,w,E,m,H,md,hf=>by
  refine ⟨?_,?_⟩
  ·intro hempty
   exfalso
   have hpos:0 < (List.range ops.size).countP (λk => !listed.getD k false):=by omega
   obtain ⟨k,hk,hkl⟩:=List.countP_pos_iff.1 hpos
   have key:∀ i,i < ops.size→listed.getD i false=false→False:=by
    intro i
    induction i using Nat.strongRecOn with
    | _ i ih =>
     intro hi hl
     have ho:ops[i]? = some ops[i]:=Array.getElem?_eq_getElem hi
     have hl':i < listed.size:=by rw [md.size]; exact hi
     have:i ∈ Region.ready .any ops listed:=by
      refine mem_ready.2 ⟨by simpa [hl'] using hl,_,ho,?_⟩
      intro e he hbd
      have hlt:=hp.back i _ ho e he hbd
      cases hq:listed.getD e.on false with
      | true=>rfl
      | false=>exact (ih e.on hlt (by omega) hq).elim
     rw [hempty] at this
     cases this
   exact key k (List.mem_range.1 hk) (by simpa using hkl)
  ·intro i hi
   refine wpOp_mono ?_ (md.step hti hp j hds told alike hi hQ)
   rintro a' w' ⟨E',m',H',md'⟩
   refine Mid.run hti hp j hds told alike hsame hlast hN hQ fuel _ a' w' E' m' H' md' ?_
   obtain ⟨c,o,ho,_⟩:=mem_ready.1 hi
   have hlt:i < ops.size:=(Array.getElem?_eq_some_iff.1 ho).1
   have hl:i < listed.size:=by rw [md.size]; exact hlt
   have g:listed.getD i false=false:=by simpa [hl] using c
   have:=qD1 i (λk => !(listed.setIfInBounds i true).getD k false) (λk => !listed.getD k false) (by rw [qBv hl]; rfl) (by rw [g]; rfl) (λk hk=>by rw [getD_set_ne false (Ne.symm hk)]) ops.size hlt
   omega
theorem qHb {P : Program} {C : Cx} {D : DP} (hti : ∀ t i, C.ti t = some i → mkTi P t = some i) (hm : P.follows .mixedOrders = true) {ops : Array Oper} {id n base : Nat} {env eE : Env} {H : Hp} {hs : List Hp} {m : Mp} {w : World} {a : Act} {Q : Exit → Act → World → Prop}
 (hds:ops.toList.all (dstOk n)=true) (hp:planOk D.S ops D.pl=true) (hD:OpsD P C D ops.toList ops.toList env H eE hs) (hq:AlikeP C D ops eE (H::hs)) (fr:FR m env a.tmps) (c:n≤a.tmps.size) (hd:a.defers=[]) (rw:RW m H w base)
 (hN:∀ a w',¬ D.tI < ops.size→Post m w base n eE (lastH H hs) .normal a w'→Q .normal a w') (hQ:∀ a m' b w',D.tI < ops.size→a.defers=[]→St m w base m' b→Thr D.tD D.tH m' b base w'→Q (.panic [{ v:=D.tv,recovered:=false }]) a w') :
 (Code.region id ops true).wp P Q a w:=by
 have hp:=qEt hp
 have hdd:∀ (i j:Nat) (o p:Oper),ops.toList[i]? = some o→ops.toList[j]? = some p→i < j→∀ d,o.dst=some d→p.dst ≠ some d:=by
  intro i j o p ho hpj hij d hdi
  rw [Array.getElem?_toList] at ho hpj
  exact hp.once j i p o hpj ho (by omega) d hdi
 obtain ⟨told,hlen⟩:=qC5 ops.toList env eE H hs hD (Nat.le_refl _) hdd
 have hcount:hs.length=(List.range ops.size).countP (effAt D.S ops):=by
  have:=qCv D.S ops ops.size (Nat.le_refl _)
  rw [List.take_of_length_le (by simp)] at this
  rw [hlen,this]
 have hrep:∀ k,(Array.replicate ops.size false).getD k false=false:=by
  intro k
  by_cases hk:k < ops.size
  ·simp [hk]
  ·have g:(Array.replicate ops.size false)[k]? = none:=Array.getElem?_eq_none (by simp; omega)
   simp [g]
 refine wp_region_any hm ?_
 have rw':RW m H { w with drawn:=w.drawn+1 } base:=rw.drawn _
 have hlk:∀ t,(∀ (k:Nat) (p:Oper),ops[k]? = some p→p.dst ≠ some t)→look eE t=look env t:=λt ht=>qDi hD λo ho=>by
  obtain ⟨k,hk⟩:=List.mem_iff_getElem?.1 ho
  rw [Array.getElem?_toList] at hk
  exact ht k o hk
 refine Mid.run hti hp rw.base_le hds told hq hlk (Hl:=lastH H hs) (by rw [← hcount]; exact qF hs H) hN hQ ops.size (Array.replicate ops.size false) a { w with drawn:=w.drawn+1 } env m H ⟨by simp,?_,fr,c,hd,λ_ _=>rfl,?_,?_,hrep _,rw',St.drawn _ _ _ _⟩ ?_
 ·intro i o _ hl
  rw [hrep] at hl; cases hl
 ·intro k p d _ hl
  rw [hrep] at hl; cases hl
 ·have:cnt D.S ops (Array.replicate ops.size false)=0:=by
   rw [cnt,List.countP_eq_zero]
   intro k _
   rw [hrep]; simp
  rw [this]; rfl
 ·rw [List.countP_eq_length.2]
  ·simp
  ·intro k hk
   rw [hrep]; rfl
end Go.Proofs.Ytjmmjhojbodbdaa.Am
