/- LawFlatRows, part 5: whatever the input, the law comes out true: our texts, joined by a tool, without what the claim does not name. -/
import Derived.Test.YtdaaodknplbmkaaPkFlatRows4
import Derived.Below
import Derived.Test.YtdaaodknplbmkaaRows
import Derived.WalkKit
import Derived.ProofKit
import Derived.OpenShut
import Derived.ShutString
import Derived.ChangeOld
import Derived.SizedLaws
set_option maxRecDepth 100000
set_option linter.unusedVariables false
set_option linter.unusedSimpArgs false
set_option maxRecDepth 100000
set_option linter.unusedVariables false
set_option linter.unusedSimpArgs false
namespace Go.Proofs.Ytdaaodknplbmkaa.Am
open Go
theorem few_n {k : Nat} {a b : Int} {s : List Nat} {l : Fo} {d : Nat} (h : d ≠ 0 → (lst l).length ≤ 500 → qCl k (par4 k) (nd a b s l) (d : Int) k 1 0 = some ((fw l (d - 1) 1 : Nat) : Int)) :
 (par4 (k + 1)).g18 (nd a b s l) (d:Int) = some ((fw1 s l d:Nat):Int):=by
 show g18B k (par4 k) (nd a b s l) (d:Int) = _
 unfold g18B fw1
 by_cases h0:d = 0
 ·refine (jS (v:=true) (fun j=>?_)).trans ?_
  ·exact iT (dT (by omega)) rfl
  ·rw [if_pos rfl,if_pos (Or.inl h0)]; rfl
 by_cases h1:100 < s.length
 ·refine (jS (v:=true) (fun j=>?_)).trans ?_
  ·exact iF (dF (by omega)) (iT (dT (by show (100:Int) < (s.length:Int); omega)) rfl)
  ·rw [if_pos rfl,if_pos (Or.inr (Or.inl h1))]; rfl
 by_cases h2:500 < (lst l).length
 ·refine (jS (v:=true) (fun j=>?_)).trans ?_
  ·refine iF (dF (by omega)) (iF (dF (by show ¬ (100:Int) < (s.length:Int); omega)) ?_)
   rw [dT (show (500:Int) < ((lst l).length:Int) by omega)]
  ·rw [if_pos rfl,if_pos (Or.inr (Or.inr h2))]; rfl
 ·refine (jS (v:=false) (fun j=>?_)).trans ?_
  ·refine iF (dF (by omega)) (iF (dF (by show ¬ (100:Int) < (s.length:Int); omega)) ?_)
   rw [dF (show ¬ (500:Int) < ((lst l).length:Int) by omega)]
  ·rw [if_neg (by decide),if_neg (by omega)]; exact h h0 (by omega)
theorem few_l : ∀ (f : Fo) (k m : Nat) (x : S25) (p : List S25) (d n : Nat), Fat x p f → d ≤ 60 → n ≤ 1000 * (d + 2) → d + 600 ≤ k → (lst f).length + 1 ≤ m →
 qCl k (par4 k) x ((d + 1:Nat):Int) m (n:Int) (p.length:Int) = some ((fw f d n:Nat):Int):=by
 intro f
 induction f with
 | nil =>
  intro k m x p d n h hd hn hk hm
  obtain ⟨m,rfl,-⟩:=pos hm
  rw [qGv]
  exact (jS (v:=(false,(n:Int),(p.length:Int))) (fun j=>iF h.nl rfl)).trans rfl
 | cons a b s l r ihl ihr =>
  intro k m x p d n h hd hn hk hm
  obtain ⟨m,rfl,hm'⟩:=pos hm
  obtain ⟨k,rfl,hk'⟩:=pos (show (d + 599) + 1 ≤ k by omega)
  rw [qGv]
  simp only [lst,List.length_cons] at hm'
  by_cases h1:n < 1000
  ·refine (jS (v:=(true,(n:Int),(p.length:Int))) (fun j=>iT h.lt (by rw [dT (show (n:Int) < 1000 by omega)]))).trans ?_
   refine iT rfl (bS h.nth (bS (a:=((fw1 s l d:Nat):Int)) ?_ ?_))
   ·rw [show fW .i64 (((d + 1:Nat):Int) - 1) = (d:Int) from fw_p (by omega)]
    refine few_n fun h0 h2=>?_
    obtain ⟨d,rfl⟩:∃ e,d = e + 1:=⟨d - 1,by omega⟩
    exact ihl k k (nd a b s l) [] d 1 (Fat.top (by omega)) (by omega) (by omega) (by omega) (by omega)
   ·have h3:=fw1_le s l d
    rw [show fW .i64 ((n:Int) + ((fw1 s l d:Nat):Int)) = ((n + fw1 s l d:Nat):Int) from fw_a (by omega) (by omega)]
    show qCl _ _ _ _ _ _ (fW .i64 ((p.length:Int) + 1)) = _
    rw [h.fw,ihr (k + 1) m x _ d _ h.next hd (by omega) (by omega) (by omega)]
    show some ((fw r d (n + fw1 s l d):Nat):Int) = some ((fw (.cons a b s l r) d n:Nat):Int)
    rw [fw,if_pos h1]; rfl
  ·refine (jS (v:=(false,(n:Int),(p.length:Int))) (fun j=>iT h.lt (by rw [dF (show ¬ (n:Int) < 1000 by omega)]))).trans ?_
   rw [fw,if_neg h1]; rfl
def Sm : Fo → Prop
 | .nil=>True
 | .cons _ _ s l r=>s.length ≤ 100 ∧ Sm l ∧ Sm r
def Bt : Fo → Prop
 | .nil=>True
 | .cons _ _ s l r=>By s ∧ Bt l ∧ Bt r
theorem qEe : ∀ (f : Fo) (d n : Nat), fw f d n ≤ 999 → n + fcn f ≤ fw f d n ∧ Sm f
 | .nil,d,n,h=>⟨Nat.le_refl _,trivial⟩
 | .cons a b s l r,d,n,h=>by
  unfold fw at h ⊢
  by_cases h1:n < 1000
  ·rw [if_pos h1] at h ⊢
   obtain ⟨q1,q2⟩:=qEe r d _ h
   by_cases h2:d = 0 ∨ 100 < s.length ∨ 500 < (lst l).length
   ·rw [if_pos h2] at q1 h ⊢; omega
   ·rw [if_neg h2] at q1 h ⊢
    obtain ⟨q3,q4⟩:=qEe l (d - 1) 1 (by omega)
    exact ⟨by simp only [fcn]; omega,by omega,q4,q2⟩
  ·rw [if_neg h1] at h; omega
theorem few_at {k:Nat} {a b:Int} {s:List Nat} {l:Fo} (hk:700 ≤ k):∃ v,g7 k (nd a b s l) = some v ∧ (v = true → fcn l ≤ 500 ∧ s.length ≤ 100 ∧ Sm l):=by
 obtain ⟨k,rfl,hk'⟩:=pos (show 699 + 1 ≤ k by omega)
 have h:=few_n (k:=k) (a:=a) (b:=b) (s:=s) (l:=l) (d:=60) fun _ h=>few_l l k k (nd a b s l) [] 59 1 (Fat.top (by omega)) (by omega) (by omega) (by omega) (by omega)
 refine ⟨decide (((fw1 s l 60:Nat):Int) ≤ 500),?_,fun hv=>?_⟩
 ·exact bS (a:=((fw1 s l 60:Nat):Int)) h rfl
 ·have hv:fw1 s l 60 ≤ 500:=by have:=of_decide_eq_true hv; omega
  unfold fw1 at hv
  by_cases h2:60 = 0 ∨ 100 < s.length ∨ 500 < (lst l).length
  ·rw [if_pos h2] at hv; omega
  ·rw [if_neg h2] at hv
   have hv:fw l 59 1 ≤ 500:=hv
   obtain ⟨q3,q4⟩:=qEe l 59 1 (by omega)
   exact ⟨by omega,by omega,q4⟩
theorem deep_l:∀ (f:Fo) (k m:Nat) (x:S25) (p:List S25) (a1 y:Int),Fat x p f → fcn f + 1 ≤ k → fcn f + 1 ≤ m → fcn f ≤ 100000 → ∃ v,qD8 k (par5 k) x a1 m y (p.length:Int) = some v:=by
 intro f
 induction f with
 | nil =>
  intro k m x p a1 y h hk hm hC
  obtain ⟨m,rfl,-⟩:=pos hm
  rw [qGu]
  exact ⟨_,(jS (v:=(false,y,(p.length:Int))) (fun j=>iF h.nl rfl)).trans rfl⟩
 | cons a b s l r ihl ihr =>
  intro k m x p a1 y h hk hm hC
  obtain ⟨m,rfl,hm'⟩:=pos hm
  obtain ⟨k,rfl,hk'⟩:=pos hk
  rw [qGu]
  simp only [fcn] at hm' hk' hC
  by_cases h1:0 < a1
  ·obtain ⟨v,hv⟩:=ihl k k (nd a b s l) [] (fW .i64 (a1 - 1)) 0 (Fat.top (by have:=qAh l; omega)) (by omega) (by omega) (by omega)
   obtain ⟨u,hu⟩:=ihr (k + 1) m x _ a1 (maxI y v) h.next (by omega) (by omega) (by omega)
   refine ⟨u,(jS (v:=(true,y,(p.length:Int))) (fun j=>iT h.lt (by rw [dT h1]))).trans ?_⟩
   refine iT rfl (bS h.nth (bS (a:=v) hv ?_))
   show qD8 _ _ _ _ _ _ (fW .i64 ((p.length:Int) + 1)) = _
   rw [h.fw]; exact hu
  ·exact ⟨_,(jS (v:=(false,y,(p.length:Int))) (fun j=>iT h.lt (by rw [dF h1]))).trans rfl⟩
theorem count_f:∀ (f:Fo) (k m:Nat) (x:S25) (p:List S25) (y:Int),Fat x p f → fcn f + 1 ≤ k → fcn f + 1 ≤ m → fcn f ≤ 100000 → ∃ v,qDy k (par7 k) x m y (p.length:Int) = some v:=by
 intro f
 induction f with
 | nil =>
  intro k m x p y h hk hm hC
  obtain ⟨m,rfl,-⟩:=pos hm
  rw [qGr]
  exact ⟨_,iF h.nl rfl⟩
 | cons a b s l r ihl ihr =>
  intro k m x p y h hk hm hC
  obtain ⟨m,rfl,hm'⟩:=pos hm
  obtain ⟨k,rfl,hk'⟩:=pos hk
  rw [qGr]
  simp only [fcn] at hm' hk' hC
  obtain ⟨v,hv⟩:=ihl k k (nd a b s l) [] 1 (Fat.top (by have:=qAh l; omega)) (by omega) (by omega) (by omega)
  obtain ⟨u,hu⟩:=ihr (k + 1) m x _ (fW .i64 (y + v)) h.next (by omega) (by omega) (by omega)
  refine ⟨u,iT h.lt (bS h.nth (bS (a:=v) hv ?_))⟩
  rw [h.fw]; exact hu
def Rt : Fo → Prop
 | .nil=>True
 | .cons a b s l r=>(a = 1 ∨ a = 2 ∨ a = 3 ∨ a = 4 → l = .nil) ∧ Rt l ∧ Rt r
theorem right_t {k:Nat} {F:Fns6} {a b:Int} {s:List Nat} {l:Fo} (hs:s.length ≤ 100):∀ (d m i:Nat),i + d = s.length → ∃ v,qDz k F (nd a b s l) (d + 1 + m) (i:Int) = some v ∧ (v = true → l = .nil):=by
 intro d
 induction d with
 | zero =>
  intro m i h
  rw [show 0 + 1 + m = m + 1 by omega,qGt]
  by_cases h0:(lst l).length = 0
  ·exact ⟨_,iF (dF (by show ¬ (i:Int) < (s.length:Int); omega)) (iT (dT (by show ((lst l).length:Int) = 0; omega)) rfl),fun _=>qIt h0⟩
  ·exact ⟨_,iF (dF (by show ¬ (i:Int) < (s.length:Int); omega)) (iF (dF (by show ¬ ((lst l).length:Int) = 0; omega)) rfl),fun e=>by cases e⟩
 | succ d ih =>
  intro m i h
  obtain ⟨c,t,h1,h2,-,h3⟩:=dcons (s:=s) (i:=i) (by omega)
  obtain ⟨v,hv,hw⟩:=ih m (i + 1) (by omega)
  rw [show d + 1 + 1 + m = (d + 1 + m) + 1 by omega,qGt]
  by_cases hc:(c:Int) = 10
  ·exact ⟨_,iT (dT (by show (i:Int) < (s.length:Int); omega)) (bS (nthX rfl h1) (iT (dT hc) rfl)),fun e=>by cases e⟩
  ·refine ⟨v,iT (dT (by show (i:Int) < (s.length:Int); omega)) (bS (nthX rfl h1) (iF (dF hc) ?_)),hw⟩
   rw [fw_s (by omega)]; exact hv
theorem qI2 {k : Nat} {a b : Int} {s : List Nat} {l : Fo} (hs : s.length ≤ 100) (hk : 101 ≤ k) (h : ∃ v, qD7 k (par6 k) (nd a b s l) k 0 = some v ∧ (v = true → Rt l)) :
 ∃ v,(par6 (k + 1)).g20 (nd a b s l) = some v ∧ (v = true → (a = 1 ∨ a = 2 ∨ a = 3 ∨ a = 4 → l = .nil) ∧ Rt l):=by
 show ∃ v,g20B k (par6 k) (nd a b s l) = some v ∧ _
 unfold g20B
 have fin:∀ w:Option Bool,(a = 2 ∨ a = 3 ∨ a = 4) → (if (eqL s []) then (if (decide (((lst l).length:Int) = 0)) then (some (decide (b = 0))) else (some false)) else (some false)) = w → ∃ v,w = some v ∧ (v = true → (a = 1 ∨ a = 2 ∨ a = 3 ∨ a = 4 → l = .nil) ∧ Rt l):=by
  rintro w - rfl
  by_cases h1:(lst l).length = 0
  ·have h2:=qIt h1
   subst h2
   cases he:eqL s []
   ·exact ⟨false,rfl,fun e=>by cases e⟩
   ·exact ⟨decide (b = 0),rfl,fun _=>⟨fun _=>rfl,trivial⟩⟩
  ·cases he:eqL s []
   ·exact ⟨false,rfl,fun e=>by cases e⟩
   ·exact ⟨false,by rw [dF (show ¬ ((lst l).length:Int) = 0 by omega)]; rfl,fun e=>by cases e⟩
 by_cases a1:a = 1
 ·obtain ⟨q,hq⟩:∃ q,k = s.length + 1 + q:=⟨k - s.length - 1,by omega⟩
  obtain ⟨v,hv,hw⟩:=right_t (k:=k) (F:=par6 k) (a:=a) (b:=b) (s:=s) (l:=l) hs s.length q 0 (by omega)
  rw [← hq] at hv
  exact ⟨v,iT (dT a1) hv,fun e=>by rw [hw e]; exact ⟨fun _=>rfl,trivial⟩⟩
 obtain ⟨v,hv,hw⟩:=h
 have go:∀ v,(v = true → Rt l) → ¬ (a = 1 ∨ a = 2 ∨ a = 3 ∨ a = 4) → (v = true → (a = 1 ∨ a = 2 ∨ a = 3 ∨ a = 4 → l = .nil) ∧ Rt l):=fun v h1 h2 e=>⟨fun h3=>absurd h3 h2,h1 e⟩
 by_cases a2:a = 2
 ·obtain ⟨v,hv,hw⟩:=fin _ (.inl a2) rfl
  exact ⟨v,iF (dF a1) ((jS (v:=true) (fun j=>iT (dT a2) rfl)).trans (iT rfl hv)),hw⟩
 by_cases a3:a = 3
 ·obtain ⟨v,hv,hw⟩:=fin _ (.inr (.inl a3)) rfl
  exact ⟨v,iF (dF a1) ((jS (v:=true) (fun j=>iF (dF a2) (iT (dT a3) rfl))).trans (iT rfl hv)),hw⟩
 by_cases a4:a = 4
 ·obtain ⟨v,hv,hw⟩:=fin _ (.inr (.inr a4)) rfl
  exact ⟨v,iF (dF a1) ((jS (v:=true) (fun j=>iF (dF a2) (iF (dF a3) (by rw [dT a4])))).trans (iT rfl hv)),hw⟩
 have no:¬ (a = 1 ∨ a = 2 ∨ a = 3 ∨ a = 4):=by rintro (h | h | h | h) <;> exact absurd h (by assumption)
 have st:∀ {A:Bool → Option Bool} {r:Option Bool},A false = r → jn A (fun j=>if (decide ((nd a b s l).f0 = 2)) then (j true) else (if (decide ((nd a b s l).f0 = 3)) then (j true) else (j (decide ((nd a b s l).f0 = 4))))) = r :=
  fun {A r} e=>(jS (v:=false) (fun j=>iF (dF a2) (iF (dF a3) (by rw [dF a4])))).trans e
 by_cases a5:a = 5
 ·by_cases hb:b = 0
  ·exact ⟨v,iF (dF a1) (st (iF rfl ((jS (v:=()) (fun j=>iT (dT a5) (iF (by rw [dT hb]; rfl) rfl))).trans hv))),go v hw no⟩
  ·exact ⟨false,iF (dF a1) (st (iF rfl (jC (fun j=>iT (dT a5) (iT (by rw [dF hb]; rfl) rfl))))),fun e=>by cases e⟩
 by_cases a6:a = 6
 ·by_cases hb:b < 0
  ·exact ⟨false,iF (dF a1) (st (iF rfl (jC (fun j=>iF (dF a5) (iT (dT a6) ((jS (v:=true) (fun j=>iT (dT hb) rfl)).trans (iT rfl rfl))))))),fun e=>by cases e⟩
  by_cases hc:1000 < b
  ·exact ⟨false,iF (dF a1) (st (iF rfl (jC (fun j=>iF (dF a5) (iT (dT a6) ((jS (v:=true) (fun j=>iF (dF hb) (by rw [dT hc]))).trans (iT rfl rfl))))))),fun e=>by cases e⟩
  ·exact ⟨v,iF (dF a1) (st (iF rfl ((jS (v:=()) (fun j=>iF (dF a5) (iT (dT a6) ((jS (v:=false) (fun j=>iF (dF hb) (by rw [dF hc]))).trans (iF rfl rfl))))).trans hv))),go v hw no⟩
 by_cases a7:a = 7
 ·by_cases hb:b = 0
  ·exact ⟨v,iF (dF a1) (st (iF rfl ((jS (v:=()) (fun j=>iF (dF a5) (iF (dF a6) (iT (dT a7) ((jS (v:=false) (fun j=>iF (by rw [dT hb]; rfl) rfl)).trans (iF rfl rfl)))))).trans hv))),go v hw no⟩
  by_cases hc:b = 1
  ·exact ⟨v,iF (dF a1) (st (iF rfl ((jS (v:=()) (fun j=>iF (dF a5) (iF (dF a6) (iT (dT a7) ((jS (v:=false) (fun j=>iT (by rw [dF hb]; rfl) (by rw [dT hc]; rfl))).trans (iF rfl rfl)))))).trans hv))),go v hw no⟩
  ·exact ⟨false,iF (dF a1) (st (iF rfl (jC (fun j=>iF (dF a5) (iF (dF a6) (iT (dT a7) ((jS (v:=true) (fun j=>iT (by rw [dF hb]; rfl) (by rw [dF hc]; rfl))).trans (iT rfl rfl)))))))),fun e=>by cases e⟩
 ·exact ⟨false,iF (dF a1) (st (iF rfl (jC (fun j=>iF (dF a5) (iF (dF a6) (iF (dF a7) rfl)))))),fun e=>by cases e⟩
theorem right_l:∀ (f:Fo) (k m:Nat) (x:S25) (p:List S25),Fat x p f → Sm f → fcn f + 200 ≤ k → fcn f + 1 ≤ m → fcn f ≤ 100000 → ∃ v,qD7 k (par6 k) x m (p.length:Int) = some v ∧ (v = true → Rt f):=by
 intro f
 induction f with
 | nil =>
  intro k m x p h hs hk hm hC
  obtain ⟨m,rfl,-⟩:=pos hm
  rw [qGs]
  exact ⟨_,iF h.nl rfl,fun _=>trivial⟩
 | cons a b s l r ihl ihr =>
  intro k m x p h hs hk hm hC
  obtain ⟨m,rfl,hm'⟩:=pos hm
  obtain ⟨k,rfl,hk'⟩:=pos (show (fcn (.cons a b s l r) + 199) + 1 ≤ k by omega)
  rw [qGs]
  obtain ⟨h1,h2,h3⟩:=hs
  simp only [fcn] at hm' hk' hC
  obtain ⟨v,hv,hw⟩:=qI2 (a:=a) (b:=b) h1 (by omega) (ihl k k (nd a b s l) [] (Fat.top (by have:=qAh l; omega)) h2 (by omega) (by omega) (by omega))
  cases v with
  | false=>exact ⟨false,iT h.lt (bS h.nth (bS hv (iT rfl rfl))),fun e=>by cases e⟩
  | true =>
   obtain ⟨u,hu,hz⟩:=ihr (k + 1) m x _ h.next h3 (by omega) (by omega) (by omega)
   refine ⟨u,iT h.lt (bS h.nth (bS hv (iF rfl ?_))),fun e=>⟨(hw rfl).1,(hw rfl).2,hz e⟩⟩
   rw [h.fw]; exact hu
theorem may_at {k:Nat} {a b:Int} {s:List Nat} {l:Fo} (hk:fcn l + 300 ≤ k) (hs:s.length ≤ 100) (hl:Sm l) (hc:fcn l ≤ 500):∃ v,g8 k (nd a b s l) = some v ∧ (v = true → (a = 1 ∨ a = 2 ∨ a = 3 ∨ a = 4 → l = .nil) ∧ Rt l):=by
 obtain ⟨k,rfl,hk'⟩:=pos (show (fcn l + 299) + 1 ≤ k by omega)
 have ht:Fat (nd a b s l) [] l:=Fat.top (by have:=qAh l; omega)
 obtain ⟨x,hx⟩:=deep_l l k k (nd a b s l) [] 200001 0 ht (by omega) (by omega) (by omega)
 obtain ⟨v,hv,hw⟩:=qI2 (a:=a) (b:=b) (k:=k) hs (by omega) (right_l l k k (nd a b s l) [] ht hl (by omega) (by omega) (by omega))
 obtain ⟨y,hy⟩:=count_f l k k (nd a b s l) [] 1 ht (by omega) (by omega) (by omega)
 by_cases h1:x ≤ 200000
 ·cases v with
  | false=>exact ⟨false,bS (a:=x) hx (iT (dT h1) (bS (a:=false) hv (iF rfl rfl))),fun e=>by cases e⟩
  | true=>exact ⟨_,bS (a:=x) hx (iT (dT h1) (bS (a:=true) hv (iT rfl (bS (a:=y) hy rfl)))),fun _=>hw rfl⟩
 ·exact ⟨false,bS (a:=x) hx (iF (dF h1) rfl),fun e=>by cases e⟩
def fh (a b:Int):Bool:=decide (a = 4) || (decide (a = 7) && decide (b = 1))
def fo : Fo → Bool
 | .nil=>false
 | .cons a b _ l r=>(fh a b || fo l) || fo r
theorem fh_j {a b:Int} {A:Bool → Option Bool}:jn A (fun j=>if (decide (a = 4)) then (j true) else (if (decide (a = 7)) then (j (decide (b = 1))) else (j false))) = A (fh a b):=by
 refine jS (v:=fh a b) (fun j=>?_)
 unfold fh
 by_cases h4:a = 4
 ·rw [dT h4]; rfl
 ·by_cases h7:a = 7
  ·rw [dF h4,dT h7]; rfl
  ·rw [dF h4,dF h7]; rfl
theorem for_l : ∀ (f : Fo) (k m : Nat) (x : S25) (p : List S25), Fat x p f → fcn f + 1 ≤ k → fcn f + 1 ≤ m → fcn f ≤ 100000 →
 qDx k (par3 k) x m (p.length:Int) = some (fo f) ∧ qGz k (par8 k) x m (p.length:Int) = some (fo f):=by
 intro f
 induction f with
 | nil =>
  intro k m x p h hk hm hC
  obtain ⟨m,rfl,-⟩:=pos hm
  rw [qGq,qGy]
  exact ⟨iF h.nl rfl,iF h.nl rfl⟩
 | cons a b s l r ihl ihr =>
  intro k m x p h hk hm hC
  obtain ⟨m,rfl,hm'⟩:=pos hm
  obtain ⟨k,rfl,hk'⟩:=pos hk
  rw [qGq,qGy]
  simp only [fcn] at hm' hk' hC
  obtain ⟨q1,q2⟩:=ihl k k (nd a b s l) [] (Fat.top (by have:=qAh l; omega)) (by omega) (by omega) (by omega)
  obtain ⟨q3,q4⟩:=ihr (k + 1) m x _ h.next (by omega) (by omega) (by omega)
  have e1:(par3 (k + 1)).g22 (nd a b s l) = some (fh a b || fo l):=by
   show g22B k (par3 k) (nd a b s l) = _
   unfold g22B
   refine fh_j.trans ?_
   cases fh a b
   ·exact iF rfl q1
   ·rfl
  have e2:(par8 (k + 1)).g16 (nd a b s l) = some (fh a b || fo l):=by
   show g16B k (par8 k) (nd a b s l) = _
   unfold g16B
   refine fh_j.trans ?_
   cases fh a b
   ·exact iF rfl q2
   ·rfl
  refine ⟨iT h.lt (bS h.nth (bS e1 ?_)),iT h.lt (bS h.nth (bS e2 ?_))⟩
  ·show _ = some ((fh a b || fo l) || fo r)
   cases fh a b || fo l
   ·refine iF rfl ?_
    rw [h.fw]; exact q3
   ·rfl
  ·show _ = some ((fh a b || fo l) || fo r)
   cases fh a b || fo l
   ·refine iF rfl ?_
    rw [h.fw]; exact q4
   ·rfl
theorem for_at {k:Nat} {a b:Int} {s:List Nat} {l:Fo} (hk:fcn l + 2 ≤ k) (hc:fcn l ≤ 100000):g22 k (nd a b s l) = some (fh a b || fo l) ∧ g16 k (nd a b s l) = some (fh a b || fo l):=by
 obtain ⟨k,rfl,hk'⟩:=pos (show (fcn l + 1) + 1 ≤ k by omega)
 obtain ⟨q1,q2⟩:=for_l l k k (nd a b s l) [] (Fat.top (by have:=qAh l; omega)) (by omega) (by omega) (by omega)
 refine ⟨?_,?_⟩
 ·show g22B k (par3 k) (nd a b s l) = _
  unfold g22B
  refine fh_j.trans ?_
  cases fh a b
  ·exact iF rfl q1
  ·rfl
 ·show g16B k (par8 k) (nd a b s l) = _
  unfold g16B
  refine fh_j.trans ?_
  cases fh a b
  ·exact iF rfl q2
  ·rfl
def ow (a:Int) (s:List Nat):List Nat:=if a = 1 then s else if a = 2 then [32] else []
def tx : Fo → List Nat
 | .nil=>[]
 | .cons a _ s l r=>(ow a s ++ tx l) ++ tx r
theorem qDp {a:Int} {s:List Nat} (h:s.length ≤ 100):(ow a s).length ≤ 100:=by
 unfold ow
 split
 ·exact h
 ·split <;> simp
theorem qCx : ∀ f : Fo, Sm f → (tx f).length ≤ 100 * fcn f
 | .nil,_=>Nat.zero_le _
 | .cons a b s l r,h=>by
  have h1:=qDp (a:=a) h.1
  have h2:=qCx l h.2.1
  have h3:=qCx r h.2.2
  simp only [tx,fcn,List.length_append]; omega
theorem cat_at {a b:List Nat} (h:a.length + b.length ≤ 1000000000):catS a b = some (a ++ b):=by
 unfold catS; rw [if_pos (by omega)]
theorem app_at {a b:List Int} (h:a.length + b.length ≤ 1000000000):appS 1 a b = some (a ++ b):=by
 unfold appS; rw [if_pos ⟨by omega,by omega⟩]
theorem rtx_n {k:Nat} {a b:Int} {s:List Nat} {l:Fo} (hr:a = 1 ∨ a = 2 ∨ a = 3 ∨ a = 4 → l = .nil) (h:qF0 k (par9 k) (nd a b s l) k [] 0 = some (tx l)):g28 (k + 1) (nd a b s l) = some (ow a s ++ tx l):=by
 show g28B k (par9 k) (nd a b s l) = _
 unfold g28B ow
 by_cases a1:a = 1
 ·rw [if_pos a1,hr (.inl a1)]
  exact iT (dT a1) (by simp only [tx,List.append_nil])
 by_cases a2:a = 2
 ·rw [if_neg a1,if_pos a2,hr (.inr (.inl a2))]
  exact iF (dF a1) (iT (dT a2) rfl)
 ·rw [if_neg a1,if_neg a2]
  exact iF (dF a1) (iF (dF a2) h)
theorem rtx_l : ∀ (f : Fo) (k m : Nat) (x : S25) (p : List S25) (y : List Nat), Fat x p f → Sm f → Rt f → y.length + 100 * fcn f ≤ 1000000000 → fcn f + 1 ≤ k → fcn f + 1 ≤ m → fcn f ≤ 100000 →
 qF0 k (par9 k) x m y (p.length:Int) = some (y ++ tx f):=by
 intro f
 induction f with
 | nil =>
  intro k m x p y h hs hr hy hk hm hC
  obtain ⟨m,rfl,-⟩:=pos hm
  rw [qGp]
  exact iF h.nl (by simp only [tx,List.append_nil])
 | cons a b s l r ihl ihr =>
  intro k m x p y h hs hr hy hk hm hC
  obtain ⟨m,rfl,hm'⟩:=pos hm
  obtain ⟨k,rfl,hk'⟩:=pos hk
  rw [qGp]
  simp only [fcn] at hm' hk' hC hy
  have q1:=ihl k k (nd a b s l) [] [] (Fat.top (by have:=qAh l; omega)) hs.2.1 hr.2.1 (by simp only [List.length_nil]; omega) (by omega) (by omega) (by omega)
  have t1:=qDp (a:=a) hs.1
  have t2:=qCx l hs.2.1
  refine iT h.lt (bS h.nth (bS (rtx_n hr.1 q1) (bS (cat_at (by simp only [List.length_append]; omega)) ?_)))
  rw [h.fw,ihr (k + 1) m x _ _ h.next hs.2.2 hr.2.2 (by simp only [List.length_append]; omega) (by omega) (by omega) (by omega)]
  simp only [tx,List.append_assoc]
theorem bld_at {k:Nat} (st:Bool) (w:List Int):i8 k st w = some true:=by
 unfold i8; cases st <;> rfl
theorem own_at {k:Nat} {a b:Int} {s:List Nat} {l:Fo} {st:Bool} {w:List Int} (h:s.length ≤ 100) (hw:w.length ≤ 999999000):∃ st',i4 k (nd a b s l) st w = some (true,st',w ++ (ow a s).map Int.ofNat):=by
 unfold i4 ow
 by_cases a1:a = 1
 ·rw [if_pos a1]
  refine ⟨true,(jS (v:=(true,w ++ s.map Int.ofNat)) (fun j=>iT (dT a1) (bS (a:=((s.length:Int),true,w ++ s.map Int.ofNat)) ?_ rfl))).trans rfl⟩
  exact bS (bld_at st w) (bS (app_at (by simp only [List.length_map]; omega)) rfl)
 by_cases a2:a = 2
 ·rw [if_neg a1,if_pos a2]
  refine ⟨true,(jS (v:=(true,w ++ [32])) (fun j=>iF (dF a1) (iT (dT a2) (bS (a:=(true,w ++ [32])) ?_ rfl)))).trans rfl⟩
  exact bS (bld_at st w) (bS (app_at (by simp only [List.length_cons,List.length_nil]; omega)) rfl)
 ·rw [if_neg a1,if_neg a2]
  exact ⟨st,(jS (v:=(st,w)) (fun j=>iF (dF a1) (iF (dF a2) rfl))).trans (by simp only [List.map_nil,List.append_nil])⟩
theorem wtx_n {k : Nat} {a b : Int} {s : List Nat} {l : Fo} {st : Bool} {w : List Int} (h : s.length ≤ 100) (hw : w.length ≤ 999999000) (hl : ∀ st' : Bool, ∃ u, qFo k (par0 k) (nd a b s l) k 0 st' (w ++ (ow a s).map Int.ofNat) = some (true, u, (w ++ (ow a s).map Int.ofNat) ++ (tx l).map Int.ofNat)) :
 ∃ u,(par0 (k + 1)).i0 (nd a b s l) st w = some (true,u,w ++ (ow a s ++ tx l).map Int.ofNat):=by
 obtain ⟨st',h1⟩:=own_at (k:=k) (a:=a) (b:=b) (l:=l) (st:=st) h hw
 obtain ⟨u,hu⟩:=hl st'
 refine ⟨u,?_⟩
 show i0B k (par0 k) (nd a b s l) st w = _
 rw [List.map_append,← List.append_assoc]
 exact bS h1 (iF rfl hu)
theorem wtx_l : ∀ (f : Fo) (k m : Nat) (x : S25) (p : List S25) (st : Bool) (w : List Int), Fat x p f → Sm f → w.length + 100 * fcn f ≤ 999999000 → fcn f + 1 ≤ k → fcn f + 1 ≤ m → fcn f ≤ 100000 →
 ∃ u,qFo k (par0 k) x m (p.length:Int) st w = some (true,u,w ++ (tx f).map Int.ofNat):=by
 intro f
 induction f with
 | nil =>
  intro k m x p st w h hs hy hk hm hC
  obtain ⟨m,rfl,-⟩:=pos hm
  rw [qJ0]
  exact ⟨st,iF h.nl (by simp only [tx,List.map_nil,List.append_nil])⟩
 | cons a b s l r ihl ihr =>
  intro k m x p st w h hs hy hk hm hC
  obtain ⟨m,rfl,hm'⟩:=pos hm
  obtain ⟨k,rfl,hk'⟩:=pos hk
  rw [qJ0]
  simp only [fcn] at hm' hk' hC hy
  have t1:=qDp (a:=a) hs.1
  have t2:=qCx l hs.2.1
  obtain ⟨u,hu⟩:=wtx_n (k:=k) (a:=a) (b:=b) (s:=s) (l:=l) (st:=st) (w:=w) hs.1 (by omega) fun st'=>ihl k k (nd a b s l) [] st' _ (Fat.top (by have:=qAh l; omega)) hs.2.1 (by simp only [List.length_append,List.length_map]; omega) (by omega) (by omega) (by omega)
  obtain ⟨v,hv⟩:=ihr (k + 1) m x _ u (w ++ (ow a s ++ tx l).map Int.ofNat) h.next hs.2.2 (by simp only [List.length_append,List.length_map]; omega) (by omega) (by omega) (by omega)
  refine ⟨v,iT h.lt (bS h.nth (bS hu (iF rfl ?_)))⟩
  rw [h.fw]
  refine hv.trans ?_
  simp only [tx,List.map_append,List.append_assoc]
theorem qHr : ∀ {l : List Nat}, By l → toS (l.map Int.ofNat) = some l
 | [],_=>rfl
 | c :: l,h=>by
  have h1:=h.head
  show (match toS (l.map Int.ofNat) with | some l=>if 0 ≤ Int.ofNat c ∧ Int.ofNat c ≤ 255 then some ((Int.ofNat c).toNat :: l) else none | none=>none) = _
  rw [qHr h.tail]
  show (if 0 ≤ Int.ofNat c ∧ Int.ofNat c ≤ 255 then some ((Int.ofNat c).toNat :: l) else none) = _
  rw [if_pos ⟨Int.natCast_nonneg c,by show (c:Int) ≤ 255; omega⟩]; rfl
theorem tx_by : ∀ f : Fo, Bt f → By (tx f)
 | .nil,_=>fun b h=>by cases h
 | .cons a b s l r,h=>by
  have h0:By (ow a s):=by
   unfold ow
   split
   ·exact h.1
   ·split
    ·intro c hc; rw [List.mem_singleton.1 hc]; decide
    ·intro c hc; cases hc
  exact (h0.app (tx_by l h.2.1)).app (tx_by r h.2.2)
theorem qG0 {k : Nat} {a b : Int} {s : List Nat} {l : Fo} (hk : fcn l + 2 ≤ k) (hc : fcn l ≤ 100000) (hs : s.length ≤ 100) (hb : By s) (hl : Sm l) (hbl : Bt l) :
 g9 k (nd a b s l) = some (if fh a b || fo l then ([],false) else (ow a s ++ tx l,true)):=by
 unfold g9
 refine bS (for_at hk hc).1 ?_
 cases fh a b || fo l
 ·obtain ⟨k,rfl,hk'⟩:=pos (show (fcn l + 1) + 1 ≤ k by omega)
  have t1:=qDp (a:=a) hs
  have t2:=qCx l hl
  obtain ⟨u,hu⟩:=wtx_n (k:=k) (a:=a) (b:=b) (s:=s) (l:=l) (st:=false) (w:=[]) hs (by simp only [List.length_nil]; omega) fun st'=>wtx_l l k k (nd a b s l) [] st' _ (Fat.top (by have:=qAh l; omega)) hl (by simp only [List.length_append,List.length_map,List.length_nil]; omega) (by omega) (by omega) (by omega)
  refine iF rfl (bS (a:=(true,u,[] ++ (ow a s ++ tx l).map Int.ofNat)) hu (bS (a:=ow a s ++ tx l) ?_ rfl))
  refine bS (a:=ow a s ++ tx l) ?_ rfl
  unfold unS
  have hby:By (ow a s ++ tx l):=by
   have:=tx_by (.cons a b s l .nil) ⟨hb,hbl,trivial⟩
   simpa only [tx,List.append_nil] using this
  rw [if_pos (by simp only [List.nil_append,List.length_map,List.length_append]; omega),List.nil_append,qHr hby]
 ·rfl
theorem rflat_at {k : Nat} {a b : Int} {s : List Nat} {l : Fo} (hk : fcn l + 2 ≤ k) (hc : fcn l ≤ 100000) (hs : s.length ≤ 100) (hl : Sm l) (hr : a = 1 ∨ a = 2 ∨ a = 3 ∨ a = 4 → l = .nil) (hrl : Rt l) :
 g10 k (nd a b s l) = some (if fh a b || fo l then ([],false) else (ow a s ++ tx l,true)):=by
 unfold g10
 refine bS (for_at hk hc).2 ?_
 cases fh a b || fo l
 ·obtain ⟨k,rfl,hk'⟩:=pos (show (fcn l + 1) + 1 ≤ k by omega)
  exact iF rfl (bS (rtx_n hr (rtx_l l k k (nd a b s l) [] [] (Fat.top (by have:=qAh l; omega)) hl hrl (by simp only [List.length_nil]; omega) (by omega) (by omega) (by omega))) rfl)
 ·rfl
def CC (s:List Nat):Nat:=cpc s.length s
theorem CC_le (s:List Nat):CC s ≤ s.length:=cpc_le _ _ (Nat.le_refl _)
def oc (a:Int) (s:List Nat):Nat:=if a = 1 then CC s else if a = 2 then 1 else 0
def wd : Fo → Nat
 | .nil=>0
 | .cons a _ s l r=>(oc a s + wd l) + wd r
theorem qD6 {a:Int} {s:List Nat} (h:s.length ≤ 100):oc a s ≤ 100:=by
 have:=CC_le s
 unfold oc
 split
 ·omega
 ·split <;> omega
theorem qF8 : ∀ f : Fo, Sm f → wd f ≤ 100 * fcn f
 | .nil,_=>Nat.zero_le _
 | .cons a b s l r,h=>by
  have h1:=qD6 (a:=a) h.1
  have h2:=qF8 l h.2.1
  have h3:=qF8 r h.2.2
  simp only [wd,fcn]; omega
theorem own_w {k:Nat} {a b:Int} {s:List Nat} {l:Fo} (hk:106 ≤ k) (hs:s.length ≤ 100) (hb:By s):g30 k (nd a b s l) = some ((oc a s:Nat):Int):=by
 unfold g30 oc
 by_cases a1:a = 1
 ·rw [if_pos a1]
  exact iT (dT a1) (bS (a:=((CC s:Nat):Int)) (bS (a:=((CC s:Nat):Int)) (qH5 (by omega) hb (by omega)).1 rfl) rfl)
 by_cases a2:a = 2
 ·rw [if_neg a1,if_pos a2]
  exact iF (dF a1) (iT (dT a2) rfl)
 ·rw [if_neg a1,if_neg a2]
  exact iF (dF a1) (iF (dF a2) rfl)
theorem rwd_n {k:Nat} {a b:Int} {s:List Nat} {l:Fo} (hk:106 ≤ k) (hs:s.length ≤ 100) (hb:By s) (hr:a = 1 ∨ a = 2 ∨ a = 3 ∨ a = 4 → l = .nil) (h:qF1 k (par10 k) (nd a b s l) k 0 0 = some ((wd l:Nat):Int)):(par10 (k + 1)).g12 (nd a b s l) = some ((oc a s + wd l:Nat):Int):=by
 show g12B k (par10 k) (nd a b s l) = _
 unfold g12B oc
 by_cases a1:a = 1
 ·rw [if_pos a1,hr (.inl a1)]
  exact iT (dT a1) (bS (a:=((CC s:Nat):Int)) (qH5 (by omega) hb (by omega)).2 rfl)
 by_cases a2:a = 2
 ·rw [if_neg a1,if_pos a2,hr (.inr (.inl a2))]
  exact iF (dF a1) (iT (dT a2) rfl)
 ·rw [if_neg a1,if_neg a2,Nat.zero_add]
  exact iF (dF a1) (iF (dF a2) h)
theorem rwd_l : ∀ (f : Fo) (k m : Nat) (x : S25) (p : List S25) (y : Nat), Fat x p f → Sm f → Bt f → Rt f → y + 100 * fcn f ≤ 1000000000 → fcn f + 200 ≤ k → fcn f + 1 ≤ m → fcn f ≤ 100000 →
 qF1 k (par10 k) x m (y:Int) (p.length:Int) = some ((y + wd f:Nat):Int):=by
 intro f
 induction f with
 | nil =>
  intro k m x p y h hs hb hr hy hk hm hC
  obtain ⟨m,rfl,-⟩:=pos hm
  rw [qH0]
  exact iF h.nl rfl
 | cons a b s l r ihl ihr =>
  intro k m x p y h hs hb hr hy hk hm hC
  obtain ⟨m,rfl,hm'⟩:=pos hm
  obtain ⟨k,rfl,hk'⟩:=pos (show (fcn (.cons a b s l r) + 199) + 1 ≤ k by omega)
  rw [qH0]
  simp only [fcn] at hm' hk' hC hy
  have q1:=ihl k k (nd a b s l) [] 0 (Fat.top (by have:=qAh l; omega)) hs.2.1 hb.2.1 hr.2.1 (by omega) (by omega) (by omega) (by omega)
  have t1:=qD6 (a:=a) hs.1
  have t2:=qF8 l hs.2.1
  rw [Nat.zero_add] at q1
  refine iT h.lt (bS h.nth (bS (rwd_n (by omega) hs.1 hb.1 hr.1 q1) ?_))
  rw [h.fw,show fW .i64 ((y:Int) + ((oc a s + wd l:Nat):Int)) = ((y + (oc a s + wd l):Nat):Int) from fw_a (by omega) (by omega),ihr (k + 1) m x _ _ h.next hs.2.2 hb.2.2 hr.2.2 (by omega) (by omega) (by omega) (by omega)]
  simp only [wd,Nat.add_assoc]
theorem pwd_n {k : Nat} {a b : Int} {s : List Nat} {l : Fo} {y : Nat} (hk : 106 ≤ k) (hs : s.length ≤ 100) (hb : By s) (hy : y ≤ 1000000000) (h : qFn k (par1 k) (nd a b s l) k 0 ((y + oc a s : Nat) : Int) = some (true, ((y + oc a s + wd l : Nat) : Int))) :
 (par1 (k + 1)).i2 (nd a b s l) (y:Int) = some (true,((y + (oc a s + wd l):Nat):Int)):=by
 show i2B k (par1 k) (nd a b s l) (y:Int) = _
 have t1:=qD6 (a:=a) hs
 refine bS (a:=(true,((y + oc a s:Nat):Int))) ?_ (iF rfl (h.trans (by rw [Nat.add_assoc])))
 refine bS (own_w hk hs hb) ?_
 rw [fw_a (by omega) (by omega)]
theorem pwd_l : ∀ (f : Fo) (k m : Nat) (x : S25) (p : List S25) (y : Nat), Fat x p f → Sm f → Bt f → y + 100 * fcn f ≤ 1000000000 → fcn f + 200 ≤ k → fcn f + 1 ≤ m → fcn f ≤ 100000 →
 qFn k (par1 k) x m (p.length:Int) (y:Int) = some (true,((y + wd f:Nat):Int)):=by
 intro f
 induction f with
 | nil =>
  intro k m x p y h hs hb hy hk hm hC
  obtain ⟨m,rfl,-⟩:=pos hm
  rw [qIz]
  exact iF h.nl rfl
 | cons a b s l r ihl ihr =>
  intro k m x p y h hs hb hy hk hm hC
  obtain ⟨m,rfl,hm'⟩:=pos hm
  obtain ⟨k,rfl,hk'⟩:=pos (show (fcn (.cons a b s l r) + 199) + 1 ≤ k by omega)
  rw [qIz]
  simp only [fcn] at hm' hk' hC hy
  have t1:=qD6 (a:=a) hs.1
  have t2:=qF8 l hs.2.1
  have q1:=ihl k k (nd a b s l) [] (y + oc a s) (Fat.top (by have:=qAh l; omega)) hs.2.1 hb.2.1 (by omega) (by omega) (by omega) (by omega)
  refine iT h.lt (bS h.nth (bS (pwd_n (by omega) hs.1 hb.1 (by omega) q1) (iF rfl ?_)))
  rw [h.fw,ihr (k + 1) m x _ _ h.next hs.2.2 hb.2.2 (by omega) (by omega) (by omega) (by omega)]
  simp only [wd,Nat.add_assoc]
theorem qE2 {k:Nat} {a b:Int} {s:List Nat} {l:Fo} (hk:fcn l + 300 ≤ k) (hc:fcn l ≤ 100000) (hs:s.length ≤ 100) (hb:By s) (hl:Sm l) (hbl:Bt l):g11 k (nd a b s l) = some ((oc a s + wd l:Nat):Int):=by
 obtain ⟨k,rfl,hk'⟩:=pos (show (fcn l + 299) + 1 ≤ k by omega)
 have t1:=qD6 (a:=a) hs
 have q:=pwd_l l k k (nd a b s l) [] (0 + oc a s) (Fat.top (by have:=qAh l; omega)) hl hbl (by omega) (by omega) (by omega) (by omega)
 have:=pwd_n (k:=k) (a:=a) (b:=b) (l:=l) (y:=0) (by omega) hs hb (by omega) q
 rw [Nat.zero_add] at this
 exact bS this rfl
theorem qI {k:Nat} {a b:Int} {s:List Nat} {l:Fo} (hk:fcn l + 300 ≤ k) (hc:fcn l ≤ 100000) (hs:s.length ≤ 100) (hb:By s) (hl:Sm l) (hbl:Bt l) (hr:a = 1 ∨ a = 2 ∨ a = 3 ∨ a = 4 → l = .nil) (hrl:Rt l):g12 k (nd a b s l) = some ((oc a s + wd l:Nat):Int):=by
 obtain ⟨k,rfl,hk'⟩:=pos (show (fcn l + 299) + 1 ≤ k by omega)
 have q:=rwd_l l k k (nd a b s l) [] 0 (Fat.top (by have:=qAh l; omega)) hl hbl hrl (by omega) (by omega) (by omega) (by omega)
 rw [Nat.zero_add] at q
 exact rwd_n (by omega) hs hb hr q
def stp (a:Int):Bool:=decide (a = 2) || (decide (a = 3) || decide (a = 4))
def fr1 (a:Int) (s:List Nat) (l r:Nat × Bool):Nat × Bool:=if stp a then (0,true) else if l.2 then (oc a s + l.1,true) else (oc a s + l.1 + r.1,r.2)
def fr : Fo → Nat × Bool
 | .nil=>(0,false)
 | .cons a _ s l r=>fr1 a s (fr l) (fr r)
theorem qJc (a:Int) (s:List Nat) (l r:Nat × Bool):fr1 a s l r = if (fr1 a s l (0,false)).2 then fr1 a s l (0,false) else ((fr1 a s l (0,false)).1 + r.1,r.2):=by
 unfold fr1
 cases stp a
 ·cases h:l.2 <;> simp
 ·rfl
theorem fr_le : ∀ f : Fo, Sm f → (fr f).1 ≤ 100 * fcn f
 | .nil,_=>Nat.zero_le _
 | .cons a b s l r,h=>by
  have h1:=qD6 (a:=a) h.1
  have h2:=fr_le l h.2.1
  have h3:=fr_le r h.2.2
  simp only [fr,fr1,fcn]
  split
  ·exact Nat.zero_le _
  ·split
   ·show oc a s + (fr l).1 ≤ _; omega
   ·show oc a s + (fr l).1 + (fr r).1 ≤ _; omega
theorem stp_j {R:Type} {a:Int} {A:Bool → Option R}:jn A (fun j=>if (decide (a = 2)) then (j true) else (if (decide (a = 3)) then (j true) else (j (decide (a = 4))))) = A (stp a):=by
 refine jS (v:=stp a) (fun j=>?_)
 unfold stp
 by_cases h2:a = 2
 ·rw [dT h2]; rfl
 ·by_cases h3:a = 3
  ·rw [dF h2,dT h3]; rfl
  ·rw [dF h2,dF h3]; rfl
def frn (a:Int) (s:List Nat) (l:Fo):Nat × Bool:=fr1 a s (fr l) (0,false)
theorem pfr_n {k : Nat} {a b : Int} {s : List Nat} {l : Fo} {y : Nat} (hk : 106 ≤ k) (hs : s.length ≤ 100) (hb : By s) (hy : y ≤ 1000000000) (h : qFm k (par2 k) (nd a b s l) k 0 ((y + oc a s : Nat) : Int) = some (!(fr l).2, ((y + oc a s + (fr l).1 : Nat) : Int))) :
 (par2 (k + 1)).i3 (nd a b s l) (y:Int) = some (!(frn a s l).2,((y + (frn a s l).1:Nat):Int)):=by
 show i3B k (par2 k) (nd a b s l) (y:Int) = _
 have t1:=qD6 (a:=a) hs
 unfold i3B frn fr1
 cases hst:stp a
 ·refine bS (a:=(true,((y + oc a s:Nat):Int))) ?_ (iF rfl (h.trans ?_))
  ·unfold i6
   refine stp_j.trans ?_
   rw [hst]
   refine iF rfl (bS (own_w hk hs hb) ?_)
   rw [fw_a (by omega) (by omega)]
  ·rw [if_neg (by decide)]
   cases (fr l).2
   ·rw [if_neg (by decide)]; simp [Nat.add_assoc]
   ·rw [if_pos rfl]; simp [Nat.add_assoc]
 ·refine bS (a:=(false,(y:Int))) ?_ rfl
  unfold i6
  refine stp_j.trans ?_
  rw [hst]; rfl
theorem pfr_l : ∀ (f : Fo) (k m : Nat) (x : S25) (p : List S25) (y : Nat), Fat x p f → Sm f → Bt f → y + 100 * fcn f ≤ 1000000000 → fcn f + 200 ≤ k → fcn f + 1 ≤ m → fcn f ≤ 100000 →
 qFm k (par2 k) x m (p.length:Int) (y:Int) = some (!(fr f).2,((y + (fr f).1:Nat):Int)):=by
 intro f
 induction f with
 | nil =>
  intro k m x p y h hs hb hy hk hm hC
  obtain ⟨m,rfl,-⟩:=pos hm
  rw [qIx]
  exact iF h.nl rfl
 | cons a b s l r ihl ihr =>
  intro k m x p y h hs hb hy hk hm hC
  obtain ⟨m,rfl,hm'⟩:=pos hm
  obtain ⟨k,rfl,hk'⟩:=pos (show (fcn (.cons a b s l r) + 199) + 1 ≤ k by omega)
  rw [qIx]
  simp only [fcn] at hm' hk' hC hy
  have t0:=qD6 (a:=a) hs.1
  have q1:=ihl k k (nd a b s l) [] (y + oc a s) (Fat.top (by have:=qAh l; omega)) hs.2.1 hb.2.1 (by omega) (by omega) (by omega) (by omega)
  have t2:(frn a s l).1 ≤ 100 * (1 + fcn l):=fr_le (.cons a b s l .nil) ⟨hs.1,hs.2.1,trivial⟩
  refine iT h.lt (bS h.nth (bS (pfr_n (by omega) hs.1 hb.1 (by omega) q1) ?_))
  have e:fr (.cons a b s l r) = if (frn a s l).2 then frn a s l else ((frn a s l).1 + (fr r).1,(fr r).2):=qJc a s (fr l) (fr r)
  rw [e]
  cases hst:(frn a s l).2
  ·refine iF rfl ?_
   rw [h.fw,ihr (k + 1) m x _ _ h.next hs.2.2 hb.2.2 (by omega) (by omega) (by omega) (by omega),if_neg (by decide),Nat.add_assoc]
  ·exact congrArg some (Prod.ext (congrArg not hst.symm) rfl)
theorem nthL_at (p:List S25) (x:S25) (r:List S25):nthL (p ++ x :: r) (p.length:Int) = some x:=by
 unfold nthL; simp
theorem first_l : ∀ (f : Fo) (k m : Nat) (L p : List S25) (y : Nat), L = p ++ lst f → Sm f → Bt f → y + 100 * fcn f ≤ 1000000000 → fcn f + 300 ≤ k → fcn f + 1 ≤ m → fcn f ≤ 100000 → L.length ≤ 1000000 →
 qE k L m (p.length:Int) (y:Int) = some ((y + (fr f).1:Nat):Int):=by
 intro f
 induction f with
 | nil =>
  intro k m L p y h hs hb hy hk hm hC hL
  obtain ⟨m,rfl,-⟩:=pos hm
  rw [qH]
  refine (jS (v:=(y:Int)) (fun j=>iF (dF ?_) rfl)).trans rfl
  rw [h]; simp only [lst,List.append_nil]; omega
 | cons a b s l r ihl ihr =>
  intro k m L p y h hs hb hy hk hm hC hL
  obtain ⟨m,rfl,hm'⟩:=pos hm
  rw [qH]
  simp only [fcn] at hm' hk hC hy
  have t0:=qD6 (a:=a) hs.1
  obtain ⟨j,rfl,hj⟩:=pos (show (fcn l + fcn r + 300) + 1 ≤ k by omega)
  have q1:=pfr_l l j j (nd a b s l) [] (y + oc a s) (Fat.top (by have:=qAh l; omega)) hs.2.1 hb.2.1 (by omega) (by omega) (by omega) (by omega)
  have t2:(frn a s l).1 ≤ 100 * (1 + fcn l):=fr_le (.cons a b s l .nil) ⟨hs.1,hs.2.1,trivial⟩
  have q2:=pfr_n (k:=j) (b:=b) (by omega) hs.1 hb.1 (by omega) q1
  have hp:p.length < L.length:=by rw [h]; simp only [List.length_append,lst,List.length_cons]; omega
  have hn:nthL L (p.length:Int) = some (nd a b s l):=by rw [h]; exact nthL_at p (nd a b s l) (lst r)
  have e:fr (.cons a b s l r) = if (frn a s l).2 then frn a s l else ((frn a s l).1 + (fr r).1,(fr r).2):=qJc a s (fr l) (fr r)
  rw [e]
  cases hst:(frn a s l).2
  ·rw [hst] at q2
   have q3:=ihr (j + 1) m L (p ++ [nd a b s l]) (y + (frn a s l).1) (by rw [h]; simp [lst]) hs.2.2 hb.2.2 (by omega) (by omega) (by omega) (by omega) hL
   refine (jD (iT (dT (by omega)) (bS hn (bS q2 (iF rfl ?_))))).trans rfl
   rw [fw_s (by omega),show ((p.length + 1:Nat):Int) = (((p ++ [nd a b s l]).length:Nat):Int) by simp]
   rw [if_neg (by decide)]
   exact q3.trans (by rw [Nat.add_assoc])
  ·rw [hst] at q2
   rw [if_pos rfl]
   exact jD (iT (dT (by omega)) (bS hn (bS q2 (iT rfl rfl))))
theorem qH3 {k:Nat} {f:Fo} (hs:Sm f) (hb:Bt f) (hk:fcn f + 300 ≤ k) (hC:fcn f ≤ 100000):g13 k (lst f) = some (((fr f).1:Nat):Int):=by
 have:=first_l f k k (lst f) [] 0 rfl hs hb (by omega) hk (by omega) hC (by have:=qAh f; omega)
 rw [Nat.zero_add] at this
 exact this
theorem told6 (k:Nat):g6 (k + 60) = some true:=by kernel_rfl
theorem qHq {k:Nat} (h:60 ≤ k):g6 k = some true:=by
 obtain ⟨j,rfl⟩:∃ j,k = j + 60:=⟨k - 60,by omega⟩
 exact told6 j
theorem qIu : ∀ L : List S25, (∀ y ∈ L, ∃ a b s l, y = nd a b s l ∧ By s ∧ Bt l) → ∃ f, lst f = L ∧ Bt f
 | [],_=>⟨.nil,rfl,trivial⟩
 | y :: L,h=>by
  obtain ⟨a,b,s,l,rfl,h1,h2⟩:=h y List.mem_cons_self
  obtain ⟨f,rfl,h3⟩:=qIu L fun z hz=>h z (List.mem_cons_of_mem _ hz)
  exact ⟨.cons a b s l f,rfl,h1,h2,h3⟩
theorem qHo {x:S25} (h:TreeP x):∃ a b s l,x = nd a b s l ∧ By s ∧ Bt l:=by
 induction h with
 | mk x h0 h1 h2 L hL hl hT ih =>
  obtain ⟨f,rfl,hf⟩:=qIu L ih
  obtain ⟨a,b,s,r⟩:=x
  simp only at hL h2
  subst hL
  exact ⟨a,b,s,f,rfl,h2.1,hf⟩
structure Gd (a b:Int) (s:List Nat) (l:Fo):Prop where
 hs:s.length ≤ 100
 hb:By s
 hc:fcn l ≤ 500
 sm:Sm l
 bt:Bt l
 r1:a = 1 ∨ a = 2 ∨ a = 3 ∨ a = 4 → l = .nil
 rt:Rt l
theorem gd_at {k : Nat} {a b : Int} {s : List Nat} {l : Fo} (hk : 1000 ≤ k) (hb : By s) (hl : Bt l) :
 g7 k (nd a b s l) = some false ∨ (g7 k (nd a b s l) = some true ∧ ((g8 k (nd a b s l) = some false) ∨ (g8 k (nd a b s l) = some true ∧ Gd a b s l))):=by
 obtain ⟨v,h1,h2⟩:=few_at (k:=k) (a:=a) (b:=b) (s:=s) (l:=l) (by omega)
 cases v with
 | false=>exact .inl h1
 | true =>
  obtain ⟨q1,q2,q3⟩:=h2 rfl
  obtain ⟨w,h3,h4⟩:=may_at (k:=k) (a:=a) (b:=b) (s:=s) (l:=l) (by omega) q2 q3 q1
  refine .inr ⟨h1,?_⟩
  cases w with
  | false=>exact .inl h3
  | true=>exact .inr ⟨h3,q2,hb,q1,q3,hl,(h4 rfl).1,(h4 rfl).2⟩
def app : Fo → Fo → Fo
 | .nil,g=>g
 | .cons a b s l r,g => .cons a b s l (app r g)
def ft (a b:Int) (s:List Nat) (l:Fo):List Nat × Bool:=if fh a b || fo l then ([],false) else (ow a s ++ tx l,true)
theorem Gd.flat {k:Nat} {a b:Int} {s:List Nat} {l:Fo} (h:Gd a b s l) (hk:1000 ≤ k):g9 k (nd a b s l) = some (ft a b s l) ∧ g10 k (nd a b s l) = some (ft a b s l) ∧ g11 k (nd a b s l) = some ((oc a s + wd l:Nat):Int) ∧ g12 k (nd a b s l) = some ((oc a s + wd l:Nat):Int):=by
 have:=h.hc
 exact ⟨qG0 (by omega) (by omega) h.hs h.hb h.sm h.bt,rflat_at (by omega) (by omega) h.hs h.sm h.r1 h.rt,qE2 (by omega) (by omega) h.hs h.hb h.sm h.bt,qI (by omega) (by omega) h.hs h.hb h.sm h.bt h.r1 h.rt⟩
theorem qEf (d e:S25) (hd:TreeP d) (he:TreeP e):∃ k,g5 k d e = some true:=by
 obtain ⟨a,b,s,l,rfl,hb,hl⟩:=qHo hd
 obtain ⟨a',b',s',l',rfl,hb',hl'⟩:=qHo he
 refine ⟨100000,?_⟩
 generalize hk:(100000:Nat) = k
 unfold g5
 have ht:(g6 k).bind (fun x=>some x) = some true:=bS (qHq (by omega)) rfl
 rcases gd_at (k:=k) (a:=a) (b:=b) (by omega) hb hl with q | ⟨q,q2⟩
 ·exact bS q ((jS (v:=true) (fun j=>iT rfl rfl)).trans (iT rfl ht))
 rcases gd_at (k:=k) (a:=a') (b:=b') (by omega) hb' hl' with p | ⟨p,p2⟩
 ·exact bS q ((jS (v:=true) (fun j=>iF rfl (bS p rfl))).trans (iT rfl ht))
 rcases q2 with q' | ⟨q',gd⟩
 ·exact bS q ((jS (v:=true) (fun j=>iF rfl (bS p (iF rfl (bS q' rfl))))).trans (iT rfl ht))
 rcases p2 with p' | ⟨p',ge⟩
 ·exact bS q ((jS (v:=true) (fun j=>iF rfl (bS p (iF rfl (bS q' (iF rfl (bS p' rfl))))))).trans (iT rfl ht))
 refine bS q ((jS (v:=false) (fun j=>iF rfl (bS p (iF rfl (bS q' (iF rfl (bS p' rfl))))))).trans (iF rfl ?_))
 have hc:=gd.hc
 have hc':=ge.hc
 obtain ⟨e1,-,e3,-⟩:=gd.flat (k:=k) (b:=b) (by omega)
 obtain ⟨d1,-,d3,-⟩:=ge.flat (k:=k) (b:=b') (by omega)
 have nb:By []:=fun c h=>by cases h
 have s1:Sm (.cons a b s l .nil):=⟨gd.hs,gd.sm,trivial⟩
 have b1:Bt (.cons a b s l .nil):=⟨gd.hb,gd.bt,trivial⟩
 have s2:Sm (.cons a b s l (.cons a' b' s' l' .nil)):=⟨gd.hs,gd.sm,ge.hs,ge.sm,trivial⟩
 have b2:Bt (.cons a b s l (.cons a' b' s' l' .nil)):=⟨gd.hb,gd.bt,ge.hb,ge.bt,trivial⟩
 have n1:fcn (.cons a b s l .nil) ≤ 501:=by simp only [fcn]; omega
 have n2:fcn (.cons a b s l (.cons a' b' s' l' .nil)) ≤ 1002:=by simp only [fcn]; omega
 have c1:g9 k (nd 5 0 [] (.cons a b s l (.cons a' b' s' l' .nil))) = some (if (ft a b s l).2 && (ft a' b' s' l').2 then ((ft a b s l).1 ++ (ft a' b' s' l').1,true) else ([],false)):=by
  rw [qG0 (k:=k) (by omega) (by omega) (by simp) nb s2 b2]
  unfold ft
  show some (if false || ((fh a b || fo l) || ((fh a' b' || fo l') || false)) then _ else _) = _
  cases fh a b || fo l <;> cases fh a' b' || fo l' <;> simp [ow,tx]
 have c2:g9 k (nd 6 9 [] (.cons a b s l .nil)) = some (ft a b s l):=by
  rw [qG0 (k:=k) (by omega) (by omega) (by simp) nb s1 b1]
  unfold ft
  show some (if false || ((fh a b || fo l) || false) then _ else _) = _
  cases fh a b || fo l <;> simp [ow,tx]
 have w1:g11 k (nd 5 0 [] (.cons a b s l (.cons a' b' s' l' .nil))) = some (((oc a s + wd l) + (oc a' s' + wd l'):Nat):Int):=by
  rw [qE2 (k:=k) (by omega) (by omega) (by simp) nb s2 b2]
  simp only [wd,oc]; congr 2; simp
 have w2:g11 k (nd 6 9 [] (.cons a b s l .nil)) = some ((oc a s + wd l:Nat):Int):=by
  rw [qE2 (k:=k) (by omega) (by omega) (by simp) nb s1 b1]
  simp only [wd]; congr 2; simp [oc]
 have f1:g13 k [nd a b s l,nd a' b' s' l'] = some (((fr (.cons a b s l (.cons a' b' s' l' .nil))).1:Nat):Int):=qH3 (f := .cons a b s l (.cons a' b' s' l' .nil)) s2 b2 (by omega) (by omega)
 have f2:g13 k [nd 5 0 [] (.cons a b s l (.cons a' b' s' l' .nil))] = some (((fr (.cons a b s l (.cons a' b' s' l' .nil))).1:Nat):Int):=by
  refine (qH3 (f := .cons 5 0 [] (.cons a b s l (.cons a' b' s' l' .nil)) .nil) ⟨by simp,s2,trivial⟩ ⟨nb,b2,trivial⟩ (by simp only [fcn] at n2 ⊢; omega) (by simp only [fcn] at n2 ⊢; omega)).trans ?_
  generalize (Fo.cons a b s l (.cons a' b' s' l' .nil)) = F
  show some (((fr1 5 [] (fr F) (0,false)).1:Nat):Int) = _
  unfold fr1
  rw [if_neg (by decide)]
  have h0:oc 5 [] = 0:=rfl
  cases (fr F).2
  ·rw [if_neg (by decide),h0]; simp
  ·rw [if_pos rfl,h0]; simp
 have x1:=qF8 _ s1
 have x2:=qD6 (a:=a) gd.hs
 have x3:=qF8 _ gd.sm
 have x4:=qD6 (a:=a') ge.hs
 have x5:=qF8 _ ge.sm
 have t1:=qDp (a:=a) gd.hs
 have t2:=qCx l gd.sm
 have t3:=qDp (a:=a') ge.hs
 have t4:=qCx l' ge.sm
 have tail:∀ pv:Bool,(ft a b s l).2 = pv → ((g11 k (nd 5 0 [] (.cons a b s l (.cons a' b' s' l' .nil)))).bind fun x6_22=>(g11 k (nd a b s l)).bind fun x6_24=>(g11 k (nd a' b' s' l')).bind fun x6_26=>if (decide (x6_22 = fW .i64 (x6_24 + x6_26))) then (if ((ft a b s l).2 == pv) then (if (eqL (ft a b s l).1 (ft a b s l).1) then ((g11 k (nd 6 9 [] (.cons a b s l .nil))).bind fun x6_42=>(g11 k (nd a b s l)).bind fun x6_44=>if (decide (x6_42 = x6_44)) then ((g13 k ([nd a b s l,nd a' b' s' l']:List S25)).bind fun x6_51=>(g13 k ([nd 5 0 [] (.cons a b s l (.cons a' b' s' l' .nil))]:List S25)).bind fun x6_54=>some (decide (x6_51 = x6_54))) else (some false)) else (some false)) else (some false)) else (some false)) = some true:=by
  intro pv hpv
  refine bS w1 (bS e3 (bS d3 (iT (dT (by rw [fw_a (by omega) (by omega)])) (iT (by rw [hpv,beq_self_eq_true]) (iT ((qDd _ _).2 rfl) (bS w2 (bS e3 (iT (dT rfl) (bS f1 (bS f2 ?_))))))))))
  rw [dT rfl]
 refine bS e1 (bS d1 (bS c1 (bS c2 (bS (qHq (by omega)) (iT rfl ?_)))))
 have l1:(ft a b s l).1.length ≤ 100000:=by
  unfold ft; split
  ·simp
  ·simp only [List.length_append]; omega
 have l2:(ft a' b' s' l').1.length ≤ 100000:=by
  unfold ft; split
  ·simp
  ·simp only [List.length_append]; omega
 cases hp:(ft a b s l).2
 ·refine iF rfl (iT rfl (iT rfl ?_))
  have:=tail false hp
  rw [hp] at this
  exact this
 ·have:=tail true hp
  rw [hp] at this
  cases hq:(ft a' b' s' l').2
  ·exact iT rfl (iT rfl (iT rfl this))
  ·exact iT rfl (iT rfl (iF rfl (bS (cat_at (by omega)) (iT ((qDd _ _).2 rfl) this))))
end Go.Proofs.Ytdaaodknplbmkaa.Am
set_option linter.unusedVariables false
set_option linter.unusedSimpArgs false
namespace Go.Proofs.Ytdaaodknplbmkaa.Am
open Go Go.ChangeShapes Go.WideShapes
theorem flatRows_walk (c0:Array Value) (a0:S25) (F0:List (Nat × List AV)) (c1:Array Value) (a1:S25) (F1:List (Nat × List AV)) (W:World) (u0:Sees W F0 (e26 a0) c0.toList) (w0:TreeP a0) (u1:Sees W F1 (e26 a1) c1.toList) (w1:TreeP a1):Calls Try.prog 5 #[.agg c0,.agg c1] W fun e W'=>e = .returned (.bool true) ∧ RowKit.Below W.heap.size W W':=by
 obtain ⟨k,h⟩:=qEf a0 a1 w0 w1
 have hs:Sees W _ [.agg (e26 a0),.agg (e26 a1)] [.agg c0,.agg c1] := .cons (u0.agg) (.cons (u1.agg) (.nil))
 exact qHd (g5_ok k _ _ true h) W hs
end Go.Proofs.Ytdaaodknplbmkaa.Am
namespace Go.Proofs.Ytdaaodknplbmkaa.flatRows
open Go.ChangeShapes Go.WideShapes Go.ChangeAt Go.RowKit
open Go.ChangeMaps (open_string shut_string)
set_option linter.unusedVariables false
theorem laidOut:laidOutB Try.prog = true:=by kernel_rfl
theorem own:ownKnob Try.prog.godebug = none:=by kernel_rfl
set_option maxRecDepth 100000 in
theorem lifted (os : Os) (started : os.Started) (H : Type) (enc : TypeId × Value → H) :
 ReturnsInHanded {} Try.checked os 5 .any (Rows.flatRowsSpec.pre6 enc Try.prog Try.f5 Rows.flatRowsRow.domain false) (Rows.flatRowsSpec.post enc Try.prog Try.f5 false true false false):=by
 refine returnsInHanded_of_change_sized (C := Try.checked) own started (by kernel_rfl) Try.func5
  (ChangeSpec.witness6 (enc:=enc) (C:=Try.checked) false ⟨#[],#[.agg #[.int .i64 0,.int .i64 0,.string ByteArray.empty,.slice none 0 0],.agg #[.int .i64 0,.int .i64 0,.string ByteArray.empty,.slice none 0 0]],[]⟩ 8 (by kernel_rfl) (by kernel_rfl) (by kernel_rfl) (by kernel_rfl)) ?_
 intro W base args ds gs before hval0 hW hcnd hsz0 _
 have hsz:(DataW.weightsEach Try.prog (Try.f5.params.toList ++ Rows.flatRowsSpec.plain.varTypes Try.prog) (ds ++ gs)).all (· ≤ reachBytes) = true:=hsz0
 have hval:∀ (j:Nat) t v,Try.f5.params[j]? = some t → args[j]? = some v → Value.okWide Try.prog W .any base t v:=hval0
 have hW':=hW
 obtain ⟨p,q,hA0,hV,rfl,hfz,hnd⟩:=hW
 have hA:DataW.TrodAll enc Try.prog W 0 (fun _=>true) true Try.f5.params.toList args.toList ds p:=hA0
 rw [Try.params5] at hA hval hsz
 obtain ⟨v0,vs0,d0,ds0,p0,q0,hargs,rfl,rfl,h0,r0⟩:=trodAll_cons hA
 obtain ⟨v1,vs1,d1,ds1,p1,q1,rfl,rfl,rfl,h1,r1⟩:=trodAll_cons r0
 obtain ⟨rfl,rfl,rfl⟩:=trodAll_nil r1
 obtain rfl:args = #[v0,v1]:=by cases args; simp_all
 obtain ⟨rfl,rfl⟩:=trodVars_none hV
 obtain ⟨c0,rfl,-⟩:=okWide_struct Try.underlying26 (hval 0 26 v0 rfl rfl)
 have k0:=h0
 have lt0:∀ x ∈ p0,x.block < W.heap.size:=by obtain ⟨m,hm⟩:=k0; exact DataW.trod_lt m _ _ _ hm
 have g0:∃ (x:Am.S25) (F:List (Nat × List Am.AV)),Am.TreeP x ∧ Am.Sees W F (Am.e26 x) c0.toList:=by obtain ⟨m,hm⟩:=h0; exact Am.opnT m _ _ hm
 obtain ⟨a0,F0,w0,u0⟩:=g0
 obtain ⟨c1,rfl,-⟩:=okWide_struct Try.underlying26 (hval 1 26 v1 rfl rfl)
 have k1:=h1
 have lt1:∀ x ∈ p1,x.block < W.heap.size:=by obtain ⟨m,hm⟩:=k1; exact DataW.trod_lt m _ _ _ hm
 have g1:∃ (x:Am.S25) (F:List (Nat × List Am.AV)),Am.TreeP x ∧ Am.Sees W F (Am.e26 x) c1.toList:=by obtain ⟨m,hm⟩:=h1; exact Am.opnT m _ _ hm
 obtain ⟨a1,F1,w1,u1⟩:=g1
 clear hA0 hval0 hsz0 hsz
 refine (Am.flatRows_walk c0 a0 F0 c1 a1 F1 W u0 w0 u1 w1).mono fun e W' ⟨he,bel⟩=>?_
 subst he
 exact ⟨_,rfl,_,_,_,[],_,[],hW',trodAll_mk1 (shut_bool Try.underlying4 _),(trodAll_cons_mk (Below.trod laidOut (by kernel_rfl) (of_decide_eq_true (by kernel_rfl)) k0 bel lt0) (trodAll_cons_mk (Below.trod laidOut (by kernel_rfl) (of_decide_eq_true (by kernel_rfl)) k1 bel lt1) trodAll_mk0)),rfl,bel.frame _,fun h=>by cases h⟩
theorem over:Rows.flatRowsRow.holds Try.pinned (OpenSpec.ofChange Rows.flatRowsSpec) :=
 OpenClaim.holds_of_wide 5 Try.f5 rfl rfl rfl rfl rfl rfl rfl ⟨rfl, rfl, rfl, rfl, rfl⟩ rfl rfl rfl rfl rfl (by kernel_rfl) Try.func5 (by kernel_rfl)
  (of_decide_eq_true (by kernel_rfl)) (by unfold Func.isWrapper; first | (rw [if_pos (by decide +kernel)]; kernel_rfl) | (rw [if_neg (by decide +kernel)]; exact ⟨rfl,rfl⟩))
  (fun os started H enc _=>lifted os started H enc)
theorem proved:Rows.FlatRowsSaid:=over
#print axioms proved
end Go.Proofs.Ytdaaodknplbmkaa.flatRows
namespace Go.Proofs.Ytdaaodknplbmkaa
theorem flatRows_holds:Rows.FlatRowsSaid:=flatRows.proved
end Go.Proofs.Ytdaaodknplbmkaa
