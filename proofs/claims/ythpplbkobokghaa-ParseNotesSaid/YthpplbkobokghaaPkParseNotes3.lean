/- LawParseNotes, part 3: whatever the input, the law comes out true: our texts, joined by a tool, without what the claim does not name. -/
import Derived.Test.YthpplbkobokghaaPkParseNotes2
set_option maxRecDepth 100000
set_option linter.unusedVariables false
set_option linter.unusedSimpArgs false
set_option maxRecDepth 100000
set_option linter.unusedVariables false
namespace Go.Proofs.Ythpplbkobokghaa.Am
noncomputable section
open Go
def i12p4:Pt:=nav [0,0] i12p3
def i12p5:Pt:=nav [1,0,0,0] i12p4
def i12d0:DP:=⟨[18],[(0,0,0),(0,0,0),(2,0,0),(6,0,0),(14,0,0),(0,0,0),(32,0,0),(96,0,0),(224,0,0),(510,0,0),(1022,0,0),(2046,0,0),(4094,0,0),(8191,0,0),(16383,0,0)],15,thrown,[],H0⟩
def qKk (k:Nat)  (a0:LN) (j:List S33) (n:Int) (ih:Int→LL→Option Ri12):Int→LL→Option Ri12 :=
 λ(a:Int) (b:LL)=>(i15 k a0 j a n).bind λg=>if g then ((nthL j a).bind λh=>(appS 16 b ([h.f1]:LL)).bind λc=>ih (fW .i64 (a+1)) c) else (some (b,a))
def qH8 (k:Nat)  (a0:LN) (a:List S33) (b:Int) (n:Nat):Int→LL→Option Ri12:=lp (λ_ _=>none) (qKk k a0 a b) n
theorem qN0 (k:Nat)  (a0:LN) (j:List S33) (o:Int) (n:Nat) (a:Int) (b:LL):qH8 k a0 j o (n+1) a b=((i15 k a0 j a o).bind λg=>if g then ((nthL j a).bind λh=>(appS 16 b ([h.f1]:LL)).bind λc=>(qH8 k a0 j o n) (fW .i64 (a+1)) c) else (some (b,a))):=rfl
theorem qRb (k:Nat) (a0:LN) (j:List S33) (K:Int) (u:Int)    : ∀ (n:Nat) (g:Int) (c:LL),Ok (Xi12 a0 j K u) i12p2 [(0,.ptr 0 4 0),(3,.own 1 (c).length 1)] (mkH [⟨[.str a0,w34 j,.i g,.i u],4,false⟩,⟨(c).flatMap e9,0,false⟩]) (qH8 k a0 j u n g c):=by
 intro n
 induction n with
 | zero=>intro g c; exact ok_none
 | succ n ih =>
  intro g c
  show Ok _ _ _ _ (qKk k a0 j u (qH8 k a0 j u n) g c)
  unfold qKk
  refine qAi (p':=nav [0] i12p2) Kr ?_
  let o:Blk:=⟨[.str a0,w34 j,.i g,.i u],4,false⟩
  let D:Blk:=⟨(c).flatMap e9,0,false⟩
  refine oH 4 (atN 1 (ctl1 i12p3)) [(4,.ptr 0 4 0),(0,.ptr 0 4 0),(3,.own 1 (c).length 1)] (mkH [o,D]) ?_
  refine oN (λ(h:Bool) => .bool h) (λh=>[o,D]) (atN 2 (ctl1 i12p3)) 5 [0] [] [] [.ptr 0 4 0] (qR9 k a0 j g u) trivial (λ_=>trivial) λh I=>?_
  refine oR 1 i12p4 [(5,.bool h),(4,.ptr 0 4 0),(0,.ptr 0 4 0),(3,.own 1 (c).length 1)] ?_
  refine oS 5 (λM=>?_) (λM=>?_)
  ·refine oR 4 i12p5 [(5,.bool true),(5,.bool h),(4,.ptr 0 4 0),(0,.ptr 0 4 0),(3,.own 1 (c).length 1)] ?_
   refine qA9 (λa z=>?_)
   refine qA9 (λb q=>?_)
   let E:Env:=[(14,.i g),(13,.ptr 0 4 2),(12,.ptr 0 4 0),(11,.ptr 0 4 0),(10,w34 j),(9,.ptr 0 4 1),(8,.ptr 0 4 0),(7,.ptr 0 4 0),(6,.own 1 (c).length 1),(5,.bool true),(5,.bool h),(4,.ptr 0 4 0),(0,.ptr 0 4 0),(3,.own 1 (c).length 1)]
   let J:Env:=((19,.own 1 (b).length 1)::(18,w9 ([a.f1]:LL))::(17,.str a.f1)::(16,.vptr [.str a.f1,.i a.f2])::(15,.vptr [.i a.f0,.str a.f1,.i a.f2])::E)
   refine oD (H':=(mkH [o,⟨(b).flatMap e9,0,false⟩])) (nav [0] i12p5) ((3,.own 1 (b).length 1)::J) [(mkH [o,⟨(b).flatMap e9,0,false⟩])] i12d0 (oDr 9 9 E (qAb (l':=(opsAt i12p5).toList.drop 10) (eE:=((15,.vptr [.i a.f0,.str a.f1,.i a.f2])::E)) (hs:=[]) (x:=a) (λ(a:S33)=>(.vptr [.i a.f0,.str a.f1,.i a.f2],(mkH [o,D]))) (vidxH (sz:=3) qAk Kr) z Kr (oDr 3 13 ((18,w9 ([a.f1]:LL))::(17,.str a.f1)::(16,.vptr [.str a.f1,.i a.f2])::(15,.vptr [.i a.f0,.str a.f1,.i a.f2])::E) (qAb (l':=(opsAt i12p5).toList.drop 14) (eE:=J) (hs:=[(mkH [o,⟨(b).flatMap e9,0,false⟩])]) (x:=b) (λ(b:LL)=>(.own 1 (b).length 1,(mkH [o,⟨(b).flatMap e9,0,false⟩]))) (appHV (sz:=1) qBx rfl qNj [o,D] 1 16 c ([a.f1]:LL) rfl rfl Kr) q Kr (oDr 1 15 ((3,.own 1 (b).length 1)::J) .nil))))) ?_
   refine oLH 10 i12p2 [(0,.ptr 0 4 0),(3,.own 1 (b).length 1)] (mkH [⟨[.str a0,w34 j,.i (fW .i64 (g+1)),.i u],4,false⟩,⟨(b).flatMap e9,0,false⟩]) ?_
   exact ih (fW .i64 (g+1)) b
  ·exact oQF 8 [o,D] 1 [] [.own 1 (c).length 1] (w9 c) (qAr qBx e9_pur rfl rfl rfl .ps) trivial
def i12 (k:Nat) (a0:LN) (a:List S33) (b:Int) (c:Int):Option Ri12 :=
 qH8 k a0 a c k b ([]:LL)
theorem i12_all (k:Nat):∀ a0 b a c r,i12 k a0 b a c=some r→CallT Try.prog 58 [.ptr 0 4 0] (mkH [⟨[.str a0,w34 b,.i a,.i c],4,false⟩]) ((Xi12 a0 b a c).thr r) ((Xi12 a0 b a c).enc r) ((Xi12 a0 b a c).fin r):=by
 intro a0 b a c r h
 refine qA2 (Xi12 a0 b a c) Try.func58 Kr Kr rfl (t:=i12 k a0 b a c) ?_ h
 unfold i12
 refine qA (eE:=[(0,.ptr 0 4 0)]) Kr ?_
 let g:Blk:=⟨[.str a0,w34 b,.i a,.i c],4,false⟩
 refine oH 7 (atN 1 (ctl1 i12p1)) [(3,.nils),(2,.nils),(0,.ptr 0 4 0)] (mkH [g]) ?_
 refine qGu [g] 3 1 rfl Kr ?_
 refine oLH 4 i12p2 [(0,.ptr 0 4 0),(3,.own 1 (([]:LL)).length 1)] (mkH [g,⟨(([]:LL)).flatMap e9,0,false⟩]) ?_
 exact (qRb k a0 b a c k) a ([]:LL)
theorem qAm (k:Nat):Pi12 (i12 k):=λa0 a b c=>λx h=>i12_all k a0 a b c x h
def Xg111:Fx Int:=⟨Try.prog,cx,Try.f111,λr => .i r,0,λ_=>H0,cxTi,cxOrd,λ_=>none,false⟩
def g111p2:Pt:=nav [0,0,0,0] (nav [0,0,0,0] (nav [0] (bodyAt Try.f111)))
def g111p4:Pt:=nav [0,0,0] (nav [0,0] g111p2)
def g111p7:Pt:=nav [0,0,0] (nav [1,0,0,0,0] g111p4)
def qDc (k:Nat)  (a0:List Int) (c:Int) (ih:Int→Option Int):Int→Option Int :=
 λ(a:Int)=>if (decide (a < (a0.length:Int))) then ((nthL a0 a).bind λb=>if (decide (c=b)) then (some a) else (ih (fW .i64 (a+1)))) else (some ((-1):Int))
def qBq (k:Nat)  (a0:List Int) (a:Int) (n:Nat):Int→Option Int:=lp (λ_=>none) (qDc k a0 a) n
theorem qS4 (k:Nat)  (a0:List Int) (c:Int) (n:Nat) (a:Int):qBq k a0 c (n+1) a=(if (decide (a < (a0.length:Int))) then ((nthL a0 a).bind λb=>if (decide (c=b)) then (some a) else ((qBq k a0 c n) (fW .i64 (a+1)))) else (some ((-1):Int))):=rfl
theorem qOl (k:Nat)   (a0:List Int) (c:Int)  : ∀ (n:Nat) (a:Int),Ok Xg111 g111p2 [(0,w3 a0),(1,.i c),(7,.i (a0.length:Int)),(8,.i a)] (mkH []) (qBq k a0 c n a):=by
 intro n
 induction n with
 | zero=>intro a; exact ok_none
 | succ n ih =>
  intro a
  show Ok _ _ _ _ (qDc k a0 c (qBq k a0 c n) a)
  unfold qDc
  refine qAi (p':=nav [0] g111p2) Kr ?_
  let j:Env:=[(9,.bool (decide (a < (a0.length:Int)))),(0,w3 a0),(1,.i c),(7,.i (a0.length:Int)),(8,.i a)]
  refine oH 5 g111p4 j (mkH []) ?_
  refine oS 9 (λg=>?_) (λg=>?_)
  ·let o:Env:=((13,.i a)::(12,w3 a0)::(11,.i c)::(5,.i a)::(10,.i a)::(9,.bool true)::j)
   refine oR 14 (atN 3 (ctl1 g111p7)) o ?_
   refine oC (λ(b:Int)=>(.vptr [.i b],(mkH []))) (atN 4 (ctl1 g111p7)) 14 (vidxH (sz:=1) e3_len Kr) λb h=>?_
   refine oH 3 (nav [0,0] g111p7) ((16,.bool (decide (c=b)))::(15,.i b)::(14,.vptr [.i b])::o) (mkH []) ?_
   refine oK [0,1,5,7,8,16] [(0,w3 a0),(1,.i c),(5,.i a),(7,.i (a0.length:Int)),(8,.i a),(16,.bool (decide (c=b)))] ?_
   refine oS 16 (λg=>?_) (λg=>?_)
   ·exact oQ 7
   ·refine oL 6 g111p2 [(0,w3 a0),(1,.i c),(7,.i (a0.length:Int)),(8,.i (fW .i64 (a+1)))] ?_
    exact ih (fW .i64 (a+1))
  ·exact oQ 7
def g111 (k:Nat) (a0:List Int) (a:Int):Option Int :=
 qBq k a0 a k 0
theorem g111_ok (k:Nat) (a0:List Int) (a:Int) (r:Int) (h:g111 k a0 a=some r):PureOk Try.prog 111 [w3 a0,.i a] (.i r):=by
 refine qA4 Xg111 (λ_=>⟨rfl,rfl⟩) Try.func111 (by decide +kernel) Kr (t:=g111 k a0 a) ?_ h
 unfold g111
 refine qA (eE:=[(0,w3 a0),(1,.i a)]) Kr ?_
 refine oLH 13 g111p2 [(0,w3 a0),(1,.i a),(7,.i (a0.length:Int)),(8,.i 0)] (mkH []) ?_
 exact (qOl k a0 a k) 0
def Xg104:Fx Bool:=⟨Try.prog,cx,Try.f104,λr => .bool r,0,λ_=>H0,cxTi,cxOrd,λ_=>none,false⟩
def g104p1:Pt:=nav [0,0,0] (nav [0] (bodyAt Try.f104))
def g104 (k:Nat) (a0:List Int) (b:Int):Option Bool :=
 (g111 k a0 b).bind λa=>some (decide (0≤a))
theorem g104_ok (k:Nat) (a0:List Int) (a:Int) (r:Bool) (h:g104 k a0 a=some r):PureOk Try.prog 104 [w3 a0,.i a] (.bool r):=by
 refine qA4 Xg104 (λ_=>⟨rfl,rfl⟩) Try.func104 (by decide +kernel) Kr (t:=g104 k a0 a) ?_ h
 unfold g104
 refine qA (eE:=[(0,w3 a0),(1,.i a)]) Kr ?_
 refine oH 8 (atN 2 (ctl1 g104p1)) [(6,.i a),(5,w3 a0),(4,.bool false),(0,w3 a0),(1,.i a)] (mkH []) ?_
 refine oA (λ(b:Int) => .i b) (atN 3 (ctl1 g104p1)) 7 [w3 a0,.i a] (g111_ok k a0 a) λb c=>?_
 exact oQ 4
abbrev Ri33:Type:=(LN×Int)
abbrev Ti33:Type:=(List Int)→LN→(List S33)→Int→Int→Option (Option Ri33)
def Xi33 (a0:List Int) (a:LN) (b:List S33) (g:Int) (c:Int):Fx (Option Ri33):=⟨Try.prog,cx,Try.f96,λr=>match r with | some r => .str r.1 | none => .top,1,λr=>match r with | some r=>(mkH [⟨[.str a,w34 b,.i r.2,.i c],4,false⟩]) | none=>(mkH [⟨[.str a,w34 b,.i g,.i c],4,false⟩]),cxTi,cxOrd,λr=>match r with | some _=>none | none=>some (thrown,[]),false⟩
def Pi33 (f:Ti33):Prop := ∀ a0 a b c g,PQh (Xi33 a0 a b c g) 96 [.ptr 0 4 0,w3 a0] (f a0 a b c g)
def i33p1:Pt:=nav [0,0,0] (nav [0] (bodyAt Try.f96))
def i33p2:Pt:=nav [0,0,0] i33p1
def i33p3:Pt:=nav [0,0,0] i33p2
def i33 (k:Nat) (a0:List Int) (g:LN) (h:List S33) (j:Int) (n:Int):Option (Option Ri33) :=
 (i9 k g h j n).bind λa=>(g104 k a0 a.f0).bind λb=>bT (i16 k b) λo=>bT (i11 k g h j n) λc=>some (some (a.f1,c))
theorem qR1 (k:Nat):∀ a0 g j o n r,i33 k a0 g j o n=some r→CallT Try.prog 96 [.ptr 0 4 0,w3 a0] (mkH [⟨[.str g,w34 j,.i o,.i n],4,false⟩]) ((Xi33 a0 g j o n).thr r) ((Xi33 a0 g j o n).enc r) ((Xi33 a0 g j o n).fin r):=by
 intro a0 g j o n r h
 refine qA2 (Xi33 a0 g j o n) Try.func96 Kr Kr rfl (t:=i33 k a0 g j o n) ?_ h
 unfold i33
 refine qA (eE:=[(0,.ptr 0 4 0),(1,w3 a0)]) Kr ?_
 let u:Blk:=⟨[.str g,w34 j,.i o,.i n],4,false⟩
 refine oH 7 (atN 1 (ctl1 i33p1)) [(6,.ptr 0 4 0),(4,.str []),(0,.ptr 0 4 0),(1,w3 a0)] (mkH [u]) ?_
 refine oN (λ(a:S33)=>n34 a) (λa=>[u]) (atN 2 (ctl1 i33p1)) 7 [0] [] [] [.ptr 0 4 0] (qOb k g j o n) trivial (λ_=>trivial) λa x=>?_
 refine oH 8 (atN 3 (ctl1 i33p2)) [(10,.i a.f0),(9,.ptr 1 3 0),(8,w3 a0),(5,.ptr 1 3 0),(7,n34 a),(6,.ptr 0 4 0),(4,.str []),(0,.ptr 0 4 0),(1,w3 a0)] (mkH [u,⟨e34 a,3,false⟩]) ?_
 refine oA (λ(b:Bool) => .bool b) (atN 4 (ctl1 i33p2)) 11 [w3 a0,.i a.f0] (g104_ok k a0 a.f0) λb z=>?_
 refine oX (λ(q:Unit) => .tuple []) (λq=>[u,⟨e34 a,3,false⟩]) (atN 5 (ctl1 i33p2)) 12 [] [] [] [] [] [.bool b] (qDh k b) trivial (λ_=>trivial) trivial λq D=>?_
 refine oL 2 i33p3 [(0,.ptr 0 4 0),(5,.ptr 1 3 0)] ?_
 refine oR 2 (atN 1 (ctl1 i33p3)) ((13,.ptr 0 4 0)::[(0,.ptr 0 4 0),(5,.ptr 1 3 0)]) ?_
 refine oX (λ(c:Int) => .tuple []) (λc=>[⟨[.str g,w34 j,.i c,.i n],4,false⟩,⟨e34 a,3,false⟩]) (atN 2 (ctl1 i33p3)) 14 [0] [] [] [] [] [.ptr 0 4 0] (qH9 k g j o n) trivial (λ_=>trivial) trivial λc E=>?_
 exact oQF 8 [⟨[.str g,w34 j,.i c,.i n],4,false⟩,⟨e34 a,3,false⟩] 1 [] [.str a.f1] (.str a.f1) .ps trivial
theorem qH6 (k:Nat):Pi33 (i33 k):=λa0 a b c g=>⟨λx h=>qR1 k a0 a b c g (some x) h,λh=>⟨_,qR1 k a0 a b c g none h⟩⟩
abbrev Ri22:Type:=(LN×Int)
abbrev Ti22:Type:=LN→(List S33)→Int→Int→Option (Option Ri22)
def Xi22 (a0:LN) (a:List S33) (c:Int) (b:Int):Fx (Option Ri22):=⟨Try.prog,cx,Try.f82,λr=>match r with | some r => .str r.1 | none => .top,1,λr=>match r with | some r=>(mkH [⟨[.str a0,w34 a,.i r.2,.i b],4,false⟩]) | none=>(mkH [⟨[.str a0,w34 a,.i c,.i b],4,false⟩]),cxTi,cxOrd,λr=>match r with | some _=>none | none=>some (thrown,[]),false⟩
def Pi22 (f:Ti22):Prop := ∀ a0 a b c,PQh (Xi22 a0 a b c) 82 [.ptr 0 4 0] (f a0 a b c)
def i22c0:List Int:=[(1:Int),(2:Int),(7:Int)]
def i22p1:Pt:=nav [0,0,0] (nav [0] (bodyAt Try.f82))
def i22 (k:Nat) (a0:LN) (b:List S33) (c:Int) (g:Int):Option (Option Ri22) :=
 bT (i33 k i22c0 a0 b c g) λa=>some (some (a.1,a.2))
theorem qR7 (k:Nat):∀ a0 b g c r,i22 k a0 b g c=some r→CallT Try.prog 82 [.ptr 0 4 0] (mkH [⟨[.str a0,w34 b,.i g,.i c],4,false⟩]) ((Xi22 a0 b g c).thr r) ((Xi22 a0 b g c).enc r) ((Xi22 a0 b g c).fin r):=by
 intro a0 b g c r h
 refine qA2 (Xi22 a0 b g c) Try.func82 Kr Kr rfl (t:=i22 k a0 b g c) ?_ h
 unfold i22
 refine qA (eE:=[(0,.ptr 0 4 0)]) Kr ?_
 let n:Blk:=⟨[.str a0,w34 b,.i g,.i c],4,false⟩
 refine oH 8 (atN 2 (ctl1 i22p1)) [(4,.slice 1 3 0 3 1),(3,.ptr 0 4 0),(2,.str []),(0,.ptr 0 4 0)] (mkH [n,⟨[.i 1,.i 2,.i 7],0,false⟩]) ?_
 refine oZ 4 1 3 1 [.i 1,.i 2,.i 7] [0,2,3] [] trivial ?_
 refine oE [(4,w3 i22c0),(0,.ptr 0 4 0),(2,.str []),(3,.ptr 0 4 0)] ?_
 refine oHp (mkH [n,⟨[],0,false⟩]) ?_
 refine oX (λ(a:Ri33) => .str a.1) (λa=>[⟨[.str a0,w34 b,.i a.2,.i c],4,false⟩,⟨[],0,false⟩]) (atN 3 (ctl1 i22p1)) 5 [0] [] [] [] [] [.ptr 0 4 0,w3 i22c0] (qH6 k i22c0 a0 b g c) trivial (λ_=>trivial) trivial λa j=>?_
 exact oQF 3 [⟨[.str a0,w34 b,.i a.2,.i c],4,false⟩,⟨[],0,false⟩] 1 [] [.str a.1] (.str a.1) .ps trivial
theorem qJn (k:Nat):Pi22 (i22 k):=λa0 a b c=>⟨λx h=>qR7 k a0 a b c (some x) h,λh=>⟨_,qR7 k a0 a b c none h⟩⟩
abbrev Ti7:Type:=LN→LN→(List S33)→Int→Int→Option (Option (Bool×Int))
def Xi7 (a0:LN) (a:LN) (b:List S33) (g:Int) (c:Int):Fx (Option (Bool×Int)):=⟨Try.prog,cx,Try.f47,λr=>match r with | some r => .bool r.1 | none => .top,1,λr=>match r with | some r=>(mkH [⟨[.str a,w34 b,.i r.2,.i c],4,false⟩]) | none=>(mkH [⟨[.str a,w34 b,.i g,.i c],4,false⟩]),cxTi,cxOrd,λr=>match r with | some _=>none | none=>some (thrown,[]),false⟩
def Pi7 (f:Ti7):Prop := ∀ a0 a b c g,PQh (Xi7 a0 a b c g) 47 [.ptr 0 4 0,.str a0] (f a0 a b c g)
def i7p1:Pt:=nav [0,0,0,0] (nav [0] (bodyAt Try.f47))
def i7p2:Pt:=nav [0,0] i7p1
def i7p4:Pt:=nav [2,0,0] i7p2
def i7 (k:Nat) (a0:LN) (g:LN) (h:List S33) (c:Int) (j:Int):Option (Option (Bool×Int)) :=
 (i10 k a0 g h c j).bind λa=>if (!a) then (some (some (false,c))) else (bT (i11 k g h c j) λb=>some (some (true,b)))
theorem i7_all (k:Nat):∀ a0 c g n j r,i7 k a0 c g n j=some r→CallT Try.prog 47 [.ptr 0 4 0,.str a0] (mkH [⟨[.str c,w34 g,.i n,.i j],4,false⟩]) ((Xi7 a0 c g n j).thr r) ((Xi7 a0 c g n j).enc r) ((Xi7 a0 c g n j).fin r):=by
 intro a0 c g n j r h
 refine qA2 (Xi7 a0 c g n j) Try.func47 Kr Kr rfl (t:=i7 k a0 c g n j) ?_ h
 unfold i7
 refine qA (eE:=[(0,.ptr 0 4 0),(1,.str a0)]) Kr ?_
 let o:Env:=[(6,.str a0),(5,.ptr 0 4 0),(4,.bool false),(0,.ptr 0 4 0),(1,.str a0)]
 let q:Blk:=⟨[.str c,w34 g,.i n,.i j],4,false⟩
 refine oH 9 (atN 2 (ctl1 i7p1)) o (mkH [q]) ?_
 refine oN (λ(a:Bool) => .bool a) (λa=>[q]) (atN 3 (ctl1 i7p1)) 7 [0] [] [] [.ptr 0 4 0,.str a0] (qJp k a0 c g n j) trivial (λ_=>trivial) λa u=>?_
 refine oR 2 i7p2 ((8,.bool (!a))::(7,.bool a)::o) ?_
 refine oS 8 (λz=>?_) (λz=>?_)
 ·exact oQF 6 [q] 1 [] [.bool false] (.bool false) .ps trivial
 ·refine oR 5 (atN 1 (ctl1 i7p4)) ((9,.ptr 0 4 0)::(8,.bool false)::(8,.bool (!a))::(7,.bool a)::o) ?_
  refine oX (λ(b:Int) => .tuple []) (λb=>[⟨[.str c,w34 g,.i b,.i j],4,false⟩]) (atN 2 (ctl1 i7p4)) 10 [0] [] [] [] [] [.ptr 0 4 0] (qH9 k c g n j) trivial (λ_=>trivial) trivial λb x=>?_
  refine oL 2 (nav [0,0,0] i7p4) [] ?_
  exact oQF 4 [⟨[.str c,w34 g,.i b,.i j],4,false⟩] 1 [] [.bool true] (.bool true) .ps trivial
theorem qAj (k:Nat):Pi7 (i7 k):=λa0 a b c g=>⟨λx h=>i7_all k a0 a b c g (some x) h,λh=>⟨_,i7_all k a0 a b c g none h⟩⟩
abbrev Ti23:Type:=LN→LN→(List S33)→Int→Int→Option (Option Int)
def Xi23 (a0:LN) (a:LN) (b:List S33) (g:Int) (c:Int):Fx (Option Int):=⟨Try.prog,cx,Try.f83,λr=>match r with | some r => .tuple [] | none => .top,1,λr=>match r with | some r=>(mkH [⟨[.str a,w34 b,.i r,.i c],4,false⟩]) | none=>(mkH [⟨[.str a,w34 b,.i g,.i c],4,false⟩]),cxTi,cxOrd,λr=>match r with | some _=>none | none=>some (thrown,[0]),false⟩
def Pi23 (f:Ti23):Prop := ∀ a0 a b c g,PQh (Xi23 a0 a b c g) 83 [.ptr 0 4 0,.str a0] (f a0 a b c g)
def i23p0:Pt:=nav [] (bodyAt Try.f83)
def i23 (k:Nat) (a0:LN) (c:LN) (g:List S33) (h:Int) (j:Int):Option (Option Int) :=
 bT (i7 k a0 c g h j) λa=>bT (i16 k a.1) λb=>some (some a.2)
theorem qR6 (k:Nat):∀ a0 b c j g r,i23 k a0 b c j g=some r→CallT Try.prog 83 [.ptr 0 4 0,.str a0] (mkH [⟨[.str b,w34 c,.i j,.i g],4,false⟩]) ((Xi23 a0 b c j g).thr r) ((Xi23 a0 b c j g).enc r) ((Xi23 a0 b c j g).fin r):=by
 intro a0 b c j g r h
 refine qA2 (Xi23 a0 b c j g) Try.func83 Kr Kr rfl (t:=i23 k a0 b c j g) ?_ h
 unfold i23
 refine qA (eE:=[(0,.ptr 0 4 0),(1,.str a0)]) Kr ?_
 refine oH 3 (atN 2 (ctl1 i23p0)) [(5,.str a0),(4,.ptr 0 4 0),(0,.ptr 0 4 0),(1,.str a0)] (mkH [⟨[.str b,w34 c,.i j,.i g],4,false⟩]) ?_
 refine oX (λ(a:(Bool×Int)) => .bool a.1) (λa=>[⟨[.str b,w34 c,.i a.2,.i g],4,false⟩]) (atN 3 (ctl1 i23p0)) 6 [0] [] [] [] [] [.ptr 0 4 0,.str a0] (qAj k a0 b c j g) trivial (λ_=>trivial) trivial λa o=>?_
 let u:Blk:=⟨[.str b,w34 c,.i a.2,.i g],4,false⟩
 refine oX (λ(n:Unit) => .tuple []) (λn=>[u]) (atN 4 (ctl1 i23p0)) 7 [] [] [] [] [] [.bool a.1] (qDh k a.1) trivial (λ_=>trivial) trivial λn q=>?_
 exact oQF 1 [u] 1 [] [] (.tuple []) .ps trivial
theorem qAw (k:Nat):Pi23 (i23 k):=λa0 a b c g=>⟨λx h=>qR6 k a0 a b c g (some x) h,λh=>⟨_,qR6 k a0 a b c g none h⟩⟩
def Xg103:Fx Bool:=⟨Try.prog,cx,Try.f103,λr => .bool r,0,λ_=>H0,cxTi,cxOrd,λ_=>none,false⟩
def g103p1:Pt:=nav [0,0,0] (nav [0] (bodyAt Try.f103))
def g103 (k:Nat) (a0:LN) (b:List S33) (c:Int):Option Bool :=
 (g72 k a0 b c).bind λa=>some (decide (0 < a))
theorem g103_ok (k:Nat) (a0:LN) (a:List S33) (b:Int) (r:Bool) (h:g103 k a0 a b=some r):PureOk Try.prog 103 [.str a0,w34 a,.i b] (.bool r):=by
 refine qA4 Xg103 (λ_=>⟨rfl,rfl⟩) Try.func103 (by decide +kernel) Kr (t:=g103 k a0 a b) ?_ h
 unfold g103
 refine qA (eE:=[(0,.str a0),(1,w34 a),(2,.i b)]) Kr ?_
 refine oH 9 (atN 3 (ctl1 g103p1)) [(9,.i b),(8,w34 a),(7,.str a0),(6,.bool false),(0,.str a0),(1,w34 a),(2,.i b)] (mkH []) ?_
 refine oA (λ(c:Int) => .i c) (atN 4 (ctl1 g103p1)) 10 [.str a0,w34 a,.i b] (g72_ok k a0 a b) λc g=>?_
 exact oQ 4
abbrev Ti28:Type:=LN→(List S33)→Int→Int→Option Bool
def Xi28 (a0:LN) (a:List S33) (b:Int) (c:Int):Fx Bool:=⟨Try.prog,cx,Try.f93,λr => .bool r,1,λr=>(mkH [⟨[.str a0,w34 a,.i b,.i c],4,false⟩]),cxTi,cxOrd,λ_=>none,false⟩
def Pi28 (f:Ti28):Prop := ∀ a0 a b c,PNh (Xi28 a0 a b c) 93 [.ptr 0 4 0] (mkH [⟨[.str a0,w34 a,.i b,.i c],4,false⟩]) (f a0 a b c)
def i28p1:Pt:=nav [0,0,0] (nav [0] (bodyAt Try.f93))
def i28d0:DP:=⟨[],[(0,0,0),(1,0,0),(3,0,0),(7,0,0),(0,0,0),(16,0,0),(48,0,0),(112,0,0),(0,0,0),(256,0,0),(768,0,0),(1792,0,0),(4095,0,0),(8191,0,0)],14,thrown,[],H0⟩
def i28 (k:Nat) (a0:LN) (b:List S33) (c:Int) (g:Int):Option Bool :=
 (g103 k a0 b c).bind λa=>some a
theorem i28_all (k:Nat):∀ a0 b c g r,i28 k a0 b c g=some r→CallT Try.prog 93 [.ptr 0 4 0] (mkH [⟨[.str a0,w34 b,.i c,.i g],4,false⟩]) ((Xi28 a0 b c g).thr r) ((Xi28 a0 b c g).enc r) ((Xi28 a0 b c g).fin r):=by
 intro a0 b c g r h
 refine qA2 (Xi28 a0 b c g) Try.func93 Kr Kr rfl (t:=i28 k a0 b c g) ?_ h
 unfold i28
 refine qA (eE:=[(0,.ptr 0 4 0)]) Kr ?_
 let n:Blk:=⟨[.str a0,w34 b,.i c,.i g],4,false⟩
 refine oH 5 i28p1 [(2,.bool false),(0,.ptr 0 4 0)] (mkH [n]) ?_
 refine qA9 (λa j=>?_)
 let o:Env:=[(14,.i c),(13,.ptr 0 4 2),(12,.ptr 0 4 0),(11,.ptr 0 4 0),(10,w34 b),(9,.ptr 0 4 1),(8,.ptr 0 4 0),(7,.ptr 0 4 0),(6,.str a0),(5,.ptr 0 4 0),(4,.ptr 0 4 0),(3,.ptr 0 4 0),(2,.bool false),(0,.ptr 0 4 0)]
 refine oD (H':=(mkH [n])) (nav [0] i28p1) ((2,.bool a)::(15,.bool a)::o) [(mkH [n])] i28d0 (oDr 12 12 o (qAu (l':=(opsAt i28p1).toList.drop 13) (eE:=((15,.bool a)::o)) (hs:=[(mkH [n])]) (fi:=103) (args:=[.str a0,w34 b,.i c]) (v := .bool a) Kr Kr Kr (g103_ok k a0 b c a j) Kr (oDr 1 14 ((2,.bool a)::(15,.bool a)::o) .nil))) ?_
 exact oQF 1 [n] 1 [] [.bool a] (.bool a) .ps trivial
theorem qJm (k:Nat):Pi28 (i28 k):=λa0 a b c=>λx h=>i28_all k a0 a b c x h
abbrev Ri39:Type:=(LN×Int)
abbrev Ti39:Type:=LN→(List S33)→Int→Int→Option (Option Ri39)
def Xi39 (a0:LN) (a:List S33) (c:Int) (b:Int):Fx (Option Ri39):=⟨Try.prog,cx,Try.f95,λr=>match r with | some r => .str r.1 | none => .top,1,λr=>match r with | some r=>(mkH [⟨[.str a0,w34 a,.i r.2,.i b],4,false⟩]) | none=>(mkH [⟨[.str a0,w34 a,.i c,.i b],4,false⟩]),cxTi,cxOrd,λr=>match r with | some _=>none | none=>some (thrown,[]),false⟩
def Pi39 (f:Ti39):Prop := ∀ a0 a b c,PQh (Xi39 a0 a b c) 95 [.ptr 0 4 0] (f a0 a b c)
def i39c0:List Int:=[(3:Int),(2:Int),(7:Int)]
def i39p1:Pt:=nav [0,0,0] (nav [0] (bodyAt Try.f95))
def i39 (k:Nat) (a0:LN) (b:List S33) (c:Int) (g:Int):Option (Option Ri39) :=
 bT (i33 k i39c0 a0 b c g) λa=>some (some (a.1,a.2))
theorem qR (k:Nat):∀ a0 b g c r,i39 k a0 b g c=some r→CallT Try.prog 95 [.ptr 0 4 0] (mkH [⟨[.str a0,w34 b,.i g,.i c],4,false⟩]) ((Xi39 a0 b g c).thr r) ((Xi39 a0 b g c).enc r) ((Xi39 a0 b g c).fin r):=by
 intro a0 b g c r h
 refine qA2 (Xi39 a0 b g c) Try.func95 Kr Kr rfl (t:=i39 k a0 b g c) ?_ h
 unfold i39
 refine qA (eE:=[(0,.ptr 0 4 0)]) Kr ?_
 let n:Blk:=⟨[.str a0,w34 b,.i g,.i c],4,false⟩
 refine oH 8 (atN 2 (ctl1 i39p1)) [(4,.slice 1 3 0 3 1),(3,.ptr 0 4 0),(2,.str []),(0,.ptr 0 4 0)] (mkH [n,⟨[.i 3,.i 2,.i 7],0,false⟩]) ?_
 refine oZ 4 1 3 1 [.i 3,.i 2,.i 7] [0,2,3] [] trivial ?_
 refine oE [(4,w3 i39c0),(0,.ptr 0 4 0),(2,.str []),(3,.ptr 0 4 0)] ?_
 refine oHp (mkH [n,⟨[],0,false⟩]) ?_
 refine oX (λ(a:Ri33) => .str a.1) (λa=>[⟨[.str a0,w34 b,.i a.2,.i c],4,false⟩,⟨[],0,false⟩]) (atN 3 (ctl1 i39p1)) 5 [0] [] [] [] [] [.ptr 0 4 0,w3 i39c0] (qH6 k i39c0 a0 b g c) trivial (λ_=>trivial) trivial λa j=>?_
 exact oQF 3 [⟨[.str a0,w34 b,.i a.2,.i c],4,false⟩,⟨[],0,false⟩] 1 [] [.str a.1] (.str a.1) .ps trivial
theorem i39_ok (k:Nat):Pi39 (i39 k):=λa0 a b c=>⟨λx h=>qR k a0 a b c (some x) h,λh=>⟨_,qR k a0 a b c none h⟩⟩
abbrev Ti35:Type:=LN→(List S33)→Int→Int→Option (Option (S28×Int))
def Xi35 (a0:LN) (a:List S33) (c:Int) (b:Int):Fx (Option (S28×Int)):=⟨Try.prog,cx,Try.f98,λr=>match r with | some r=>n29 r.1 | none => .top,1,λr=>match r with | some r=>(mkH [⟨[.str a0,w34 a,.i r.2,.i b],4,false⟩]) | none=>(mkH [⟨[.str a0,w34 a,.i c,.i b],4,false⟩]),cxTi,cxOrd,λr=>match r with | some _=>none | none=>some (thrown,[0]),false⟩
def Pi35 (f:Ti35):Prop := ∀ a0 a b c,PQh (Xi35 a0 a b c) 98 [.ptr 0 4 0] (f a0 a b c)
def i35p1:Pt:=nav [0,0,0] (nav [0] (bodyAt Try.f98))
def i35p2:Pt:=nav [0,0,0,0] i35p1
def i35p3:Pt:=nav [0,0] i35p2
def i35p4:Pt:=nav [1] i35p3
def i35p5:Pt:=nav [2,0,0] i35p3
def i35p6:Pt:=nav [0,0,0] i35p5
def i35 (k:Nat) (a0:LN) (h:List S33) (E:Int) (j:Int):Option (Option (S28×Int)) :=
 bT (i22 k a0 h E j) λa=>bT (i7 k ([58]:LN) a0 h a.2 j) λb=>jn (λ(z:LN×Int)=>bT (i23 k ([47]:LN) a0 h z.2 j) λn=>(catS z.1 ([47]:LN)).bind λo=>bT (i39 k a0 h n j) λc=>(catS o c.1).bind λq=>some (some ((⟨(16:Int),q,⟨0,[]⟩,false,false,([]:LL),([]:LL)⟩:S28),c.2))) (λD=>if b.1 then ((catS a.1 ([58]:LN)).bind λu=>bT (i22 k a0 h b.2 j) λg=>(catS u g.1).bind λx=>D (x,g.2)) else (D (a.1,b.2)))
theorem qR0 (k:Nat):∀ a0 c E g r,i35 k a0 c E g=some r→CallT Try.prog 98 [.ptr 0 4 0] (mkH [⟨[.str a0,w34 c,.i E,.i g],4,false⟩]) ((Xi35 a0 c E g).thr r) ((Xi35 a0 c E g).enc r) ((Xi35 a0 c E g).fin r):=by
 intro a0 c E g r h
 refine qA2 (Xi35 a0 c E g) Try.func98 Kr Kr rfl (t:=i35 k a0 c E g) ?_ h
 unfold i35
 refine qA (eE:=[(0,.ptr 0 4 0)]) Kr ?_
 let n:Blk:=⟨[.i 0,.str [],.nils,.bool false,.bool false,.nils,.nils],0,false⟩
 refine oH 7 (atN 1 (ctl1 i35p1)) [(4,.ptr 0 4 0),(2,.ptr 1 7 0),(0,.ptr 0 4 0)] (mkH [⟨[.str a0,w34 c,.i E,.i g],4,false⟩,n]) ?_
 refine oX (λ(a:Ri22) => .str a.1) (λa=>[⟨[.str a0,w34 c,.i a.2,.i g],4,false⟩,n]) (atN 2 (ctl1 i35p1)) 5 [0] [] [] [] [] [.ptr 0 4 0] (qJn k a0 c E g) trivial (λ_=>trivial) trivial λa M=>?_
 let K:Env:=[(6,.ptr 0 4 0),(3,.str a.1),(5,.str a.1),(4,.ptr 0 4 0),(2,.ptr 1 7 0),(0,.ptr 0 4 0)]
 refine oR 6 (atN 1 (ctl1 i35p2)) K ?_
 refine oX (λ(b:(Bool×Int)) => .bool b.1) (λb=>[⟨[.str a0,w34 c,.i b.2,.i g],4,false⟩,n]) (atN 2 (ctl1 i35p2)) 7 [0] [] [] [] [] [.ptr 0 4 0,.str [58]] (qAj k ([58]:LN) a0 c a.2 g) trivial (λ_=>trivial) trivial λb N=>?_
 refine oR 1 i35p3 ((7,.bool b.1)::K) ?_
 refine oJ i35p5 (λ(I:LN×Int)=>[(0,.ptr 0 4 0),(2,.ptr 1 7 0),(3,.str I.1)]) (λ(I:LN×Int)=>(mkH [⟨[.str a0,w34 c,.i I.2,.i g],4,false⟩,n])) (λI=>?_) (λj5 J=>?_)
 ·refine oH 2 (atN 1 (ctl1 i35p5)) [(13,.ptr 0 4 0),(0,.ptr 0 4 0),(2,.ptr 1 7 0),(3,.str I.1)] (mkH [⟨[.str a0,w34 c,.i I.2,.i g],4,false⟩,n]) ?_
  refine oX (λ(o:Int) => .tuple []) (λo=>[⟨[.str a0,w34 c,.i o,.i g],4,false⟩,n]) (atN 2 (ctl1 i35p5)) 14 [0] [] [] [0] [] [.ptr 0 4 0,.str [47]] (qAw k ([47]:LN) a0 c I.2 g) trivial (λ_=>trivial) trivial λo O=>?_
  let E2:Env:=[(15,.str I.1),(14,.tuple []),(13,.ptr 0 4 0),(0,.ptr 0 4 0),(2,.ptr 1 7 0),(3,.str I.1)]
  refine oR 4 (atN 1 (ctl1 i35p6)) E2 ?_
  let Q2:Blk:=⟨[.str a0,w34 c,.i o,.i g],4,false⟩
  refine oC (λ(z:LN)=>(.str z,(mkH [Q2,n]))) (atN 2 (ctl1 i35p6)) 16 (catH Kr) λz Q=>?_
  refine oH 1 (atN 3 (ctl1 i35p6)) ((17,.ptr 0 4 0)::(16,.str z)::E2) (mkH [Q2,n]) ?_
  refine oX (λ(q:Ri39) => .str q.1) (λq=>[⟨[.str a0,w34 c,.i q.2,.i g],4,false⟩,n]) (atN 4 (ctl1 i35p6)) 18 [0] [] [] [] [] [.ptr 0 4 0] (i39_ok k a0 c o g) trivial (λ_=>trivial) trivial λq S=>?_
  let Q3:Blk:=⟨[.str a0,w34 c,.i q.2,.i g],4,false⟩
  refine oC (λ(u:LN)=>(.str u,(mkH [Q3,n]))) (atN 5 (ctl1 i35p6)) 19 (catH Kr) λu T=>?_
  exact oQF 4 [Q3,⟨[.i 16,.str u,.nils,.bool false,.bool false,.nils,.nils],7,false⟩] 1 [] [.agg [.i 16,.str u,.nils,.bool false,.bool false,.nils,.nils]] (.agg [.i 16,.str u,.vec 0 7 [],.bool false,.bool false,.vec 0 1 [],.vec 0 1 []]) (.agg (.cs (.cs (.nil (.cs (.cs (.nil (.nil .ps))))))) .ps) trivial
 ·refine oS 7 (λhb=>?_) (λhb=>?_)
  ·let U:Blk:=⟨[.str a0,w34 c,.i b.2,.i g],4,false⟩
   refine oH 3 (atN 1 (ctl1 i35p4)) ((8,.str a.1)::(7,.bool true)::(7,.bool b.1)::K) (mkH [U,n]) ?_
   refine oC (λ(D:LN)=>(.str D,(mkH [U,n]))) (atN 2 (ctl1 i35p4)) 9 (catH Kr) λD Y=>?_
   refine oH 1 (atN 3 (ctl1 i35p4)) ((10,.ptr 0 4 0)::(9,.str D)::(8,.str a.1)::(7,.bool true)::(7,.bool b.1)::K) (mkH [U,n]) ?_
   refine oX (λ(j:Ri22) => .str j.1) (λj=>[⟨[.str a0,w34 c,.i j.2,.i g],4,false⟩,n]) (atN 4 (ctl1 i35p4)) 11 [0] [] [] [] [] [.ptr 0 4 0] (qJn k a0 c b.2 g) trivial (λ_=>trivial) trivial λj Z=>?_
   let Q5:Blk:=⟨[.str a0,w34 c,.i j.2,.i g],4,false⟩
   refine oC (λ(x:LN)=>(.str x,(mkH [Q5,n]))) (atN 5 (ctl1 i35p4)) 12 (catH Kr) λx a4=>?_
   refine oLH 3 i35p5 [(0,.ptr 0 4 0),(2,.ptr 1 7 0),(3,.str x)] (mkH [Q5,n]) ?_
   exact J (x,j.2)
  ·refine oLH 3 i35p5 [(0,.ptr 0 4 0),(2,.ptr 1 7 0),(3,.str a.1)] (mkH [⟨[.str a0,w34 c,.i b.2,.i g],4,false⟩,n]) ?_
   exact J (a.1,b.2)
theorem i35_ok (k:Nat):Pi35 (i35 k):=λa0 a b c=>⟨λx h=>qR0 k a0 a b c (some x) h,λh=>⟨_,qR0 k a0 a b c none h⟩⟩
abbrev Ti5:Type:=Int→LN→(List S33)→Int→Int→Option (Option (S28×Int))
def Xi5 (a0:Int) (a:LN) (b:List S33) (g:Int) (c:Int):Fx (Option (S28×Int)):=⟨Try.prog,cx,Try.f29,λr=>match r with | some r=>n29 r.1 | none => .top,1,λr=>match r with | some r=>(mkH [⟨[.str a,w34 b,.i r.2,.i c],4,false⟩]) | none=>(mkH [⟨[.str a,w34 b,.i g,.i c],4,false⟩]),cxTi,cxOrd,λr=>match r with | some _=>none | none=>some (thrown,[0]),false⟩
def Pi5 (f:Ti5):Prop := ∀ a0 a b c g,PQh (Xi5 a0 a b c g) 29 [.ptr 0 4 0,.i a0] (f a0 a b c g)
abbrev Ti6:Type:=LN→(List S33)→Int→Int→Option (Option (S28×Int))
def Xi6 (a0:LN) (a:List S33) (c:Int) (b:Int):Fx (Option (S28×Int)):=⟨Try.prog,cx,Try.f35,λr=>match r with | some r=>n29 r.1 | none => .top,1,λr=>match r with | some r=>(mkH [⟨[.str a0,w34 a,.i r.2,.i b],4,false⟩]) | none=>(mkH [⟨[.str a0,w34 a,.i c,.i b],4,false⟩]),cxTi,cxOrd,λr=>match r with | some _=>none | none=>some (thrown,[0]),false⟩
def Pi6 (f:Ti6):Prop := ∀ a0 a b c,PQh (Xi6 a0 a b c) 35 [.ptr 0 4 0] (f a0 a b c)
abbrev Ri8:Type:=(S28×Int×Int)
abbrev Ti8:Type:=LN→(List S33)→Int→Int→Option (Option Ri8)
def Xi8 (a0:LN) (a:List S33) (c:Int) (b:Int):Fx (Option Ri8):=⟨Try.prog,cx,Try.f48,λr=>match r with | some r => .tuple [n29 r.1,.i r.2.1] | none => .top,1,λr=>match r with | some r=>(mkH [⟨[.str a0,w34 a,.i r.2.2,.i b],4,false⟩]) | none=>(mkH [⟨[.str a0,w34 a,.i c,.i b],4,false⟩]),cxTi,cxOrd,λr=>match r with | some _=>none | none=>some (thrown,[0]),false⟩
def Pi8 (f:Ti8):Prop := ∀ a0 a b c,PQh (Xi8 a0 a b c) 48 [.ptr 0 4 0] (f a0 a b c)
abbrev Ri13:Type:=(S28×Bool×Int)
abbrev Ti13:Type:=LN→(List S33)→Int→Int→Option (Option Ri13)
def Xi13 (a0:LN) (a:List S33) (c:Int) (b:Int):Fx (Option Ri13):=⟨Try.prog,cx,Try.f66,λr=>match r with | some r => .tuple [n29 r.1,.bool r.2.1] | none => .top,1,λr=>match r with | some r=>(mkH [⟨[.str a0,w34 a,.i r.2.2,.i b],4,false⟩]) | none=>(mkH [⟨[.str a0,w34 a,.i c,.i b],4,false⟩]),cxTi,cxOrd,λr=>match r with | some _=>none | none=>some (thrown,[0]),false⟩
def Pi13 (f:Ti13):Prop := ∀ a0 a b c,PQh (Xi13 a0 a b c) 66 [.ptr 0 4 0] (f a0 a b c)
abbrev Ti14:Type:=S28→Bool→LN→(List S33)→Int→Int→Option (Option (S28×Int))
def Xi14 (a0:S28) (h:Bool) (a:LN) (b:List S33) (g:Int) (c:Int):Fx (Option (S28×Int)):=⟨Try.prog,cx,Try.f67,λr=>match r with | some r=>n29 r.1 | none => .top,1,λr=>match r with | some r=>(mkH [⟨[.str a,w34 b,.i r.2,.i c],4,false⟩]) | none=>(mkH [⟨[.str a,w34 b,.i g,.i c],4,false⟩]),cxTi,cxOrd,λr=>match r with | some _=>none | none=>some (thrown,[0]),false⟩
def Pi14 (f:Ti14):Prop := ∀ a0 a b c g h,PQh (Xi14 a0 a b c g h) 67 [.ptr 0 4 0,n29 a0,.bool a] (f a0 a b c g h)
abbrev Ti17:Type:=LN→(List S33)→Int→Int→Option (Option (S28×Int))
def Xi17 (a0:LN) (a:List S33) (c:Int) (b:Int):Fx (Option (S28×Int)):=⟨Try.prog,cx,Try.f76,λr=>match r with | some r=>n29 r.1 | none => .top,1,λr=>match r with | some r=>(mkH [⟨[.str a0,w34 a,.i r.2,.i b],4,false⟩]) | none=>(mkH [⟨[.str a0,w34 a,.i c,.i b],4,false⟩]),cxTi,cxOrd,λr=>match r with | some _=>none | none=>some (thrown,[0]),false⟩
def Pi17 (f:Ti17):Prop := ∀ a0 a b c,PQh (Xi17 a0 a b c) 76 [.ptr 0 4 0] (f a0 a b c)
abbrev Ri18:Type:=(Int×LN×Bool×Bool×LL×LL×Int×(List S28))
abbrev Ti18:Type:=Int→LN→Bool→Bool→LL→LL→LN→LN→(List S33)→Int→Int→(List S28)→Option (Option Ri18)
def Xi18 (a0:Int) (j:LN) (n:Bool) (o:Bool) (q:LL) (u:LL) (x:LN) (b:LN) (c:List S33) (g:Int) (a:Int) (h:List S28):Fx (Option Ri18):=⟨Try.prog,cx,Try.f77,λr=>match r with | some r => .agg [.i r.1,.str r.2.1,.own 1 (r.2.2.2.2.2.2.2).length 7,.bool r.2.2.1,.bool r.2.2.2.1,w9 r.2.2.2.2.1,w9 r.2.2.2.2.2.1] | none => .top,2,λr=>match r with | some r=>(mkH [⟨[.str b,w34 c,.i r.2.2.2.2.2.2.1,.i a],4,false⟩,⟨(r.2.2.2.2.2.2.2).flatMap e29,0,false⟩]) | none=>(mkH [⟨[.str b,w34 c,.i g,.i a],4,false⟩,⟨(h).flatMap e29,0,false⟩]),cxTi,cxOrd,λr=>match r with | some _=>none | none=>some (thrown,[0,1]),false⟩
def Pi18 (f:Ti18):Prop := ∀ a0 b c g h j n q u x a o,PQh (Xi18 a0 b c g h j n q u x a o) 77 [.ptr 0 4 0,.agg [.i a0,.str b,.own 1 (o).length 7,.bool c,.bool g,w9 h,w9 j],.str n,.func 78 [.ptr 0 4 0] []] (f a0 b c g h j n q u x a o)
abbrev Ti19:Type:=LN→(List S33)→Int→Int→Option (Option (S28×Int))
def Xi19 (a0:LN) (a:List S33) (c:Int) (b:Int):Fx (Option (S28×Int)):=⟨Try.prog,cx,Try.f79,λr=>match r with | some r=>n29 r.1 | none => .top,1,λr=>match r with | some r=>(mkH [⟨[.str a0,w34 a,.i r.2,.i b],4,false⟩]) | none=>(mkH [⟨[.str a0,w34 a,.i c,.i b],4,false⟩]),cxTi,cxOrd,λr=>match r with | some _=>none | none=>some (thrown,[0]),false⟩
def Pi19 (f:Ti19):Prop := ∀ a0 a b c,PQh (Xi19 a0 a b c) 79 [.ptr 0 4 0] (f a0 a b c)
abbrev Ri20:Type:=(Int×LN×Bool×Bool×LL×LL×Int×(List S28))
abbrev Ti20:Type:=Int→LN→Bool→Bool→LL→LL→LN→LN→(List S33)→Int→Int→(List S28)→Option (Option Ri20)
def Xi20 (a0:Int) (j:LN) (n:Bool) (o:Bool) (q:LL) (u:LL) (x:LN) (b:LN) (c:List S33) (g:Int) (a:Int) (h:List S28):Fx (Option Ri20):=⟨Try.prog,cx,Try.f77,λr=>match r with | some r => .agg [.i r.1,.str r.2.1,.own 1 (r.2.2.2.2.2.2.2).length 7,.bool r.2.2.1,.bool r.2.2.2.1,w9 r.2.2.2.2.1,w9 r.2.2.2.2.2.1] | none => .top,2,λr=>match r with | some r=>(mkH [⟨[.str b,w34 c,.i r.2.2.2.2.2.2.1,.i a],4,false⟩,⟨(r.2.2.2.2.2.2.2).flatMap e29,0,false⟩]) | none=>(mkH [⟨[.str b,w34 c,.i g,.i a],4,false⟩,⟨(h).flatMap e29,0,false⟩]),cxTi,cxOrd,λr=>match r with | some _=>none | none=>some (thrown,[0,1]),false⟩
def Pi20 (f:Ti20):Prop := ∀ a0 b c g h j n q u x a o,PQh (Xi20 a0 b c g h j n q u x a o) 77 [.ptr 0 4 0,.agg [.i a0,.str b,.own 1 (o).length 7,.bool c,.bool g,w9 h,w9 j],.str n,.func 80 [.ptr 0 4 0] []] (f a0 b c g h j n q u x a o)
abbrev Ri21:Type:=(Int×LN×Bool×Bool×LL×LL×Int×(List S28))
abbrev Ti21:Type:=Int→LN→Bool→Bool→LL→LL→LN→LN→(List S33)→Int→Int→(List S28)→Option (Option Ri21)
def Xi21 (a0:Int) (j:LN) (n:Bool) (o:Bool) (q:LL) (u:LL) (x:LN) (b:LN) (c:List S33) (g:Int) (a:Int) (h:List S28):Fx (Option Ri21):=⟨Try.prog,cx,Try.f77,λr=>match r with | some r => .agg [.i r.1,.str r.2.1,.own 1 (r.2.2.2.2.2.2.2).length 7,.bool r.2.2.1,.bool r.2.2.2.1,w9 r.2.2.2.2.1,w9 r.2.2.2.2.2.1] | none => .top,2,λr=>match r with | some r=>(mkH [⟨[.str b,w34 c,.i r.2.2.2.2.2.2.1,.i a],4,false⟩,⟨(r.2.2.2.2.2.2.2).flatMap e29,0,false⟩]) | none=>(mkH [⟨[.str b,w34 c,.i g,.i a],4,false⟩,⟨(h).flatMap e29,0,false⟩]),cxTi,cxOrd,λr=>match r with | some _=>none | none=>some (thrown,[0,1]),false⟩
def Pi21 (f:Ti21):Prop := ∀ a0 b c g h j n q u x a o,PQh (Xi21 a0 b c g h j n q u x a o) 77 [.ptr 0 4 0,.agg [.i a0,.str b,.own 1 (o).length 7,.bool c,.bool g,w9 h,w9 j],.str n,.func 81 [.ptr 0 4 0] []] (f a0 b c g h j n q u x a o)
abbrev Ti24:Type:=LN→(List S33)→Int→Int→Option (Option (S28×Int))
def Xi24 (a0:LN) (a:List S33) (c:Int) (b:Int):Fx (Option (S28×Int)):=⟨Try.prog,cx,Try.f84,λr=>match r with | some r=>n29 r.1 | none => .top,1,λr=>match r with | some r=>(mkH [⟨[.str a0,w34 a,.i r.2,.i b],4,false⟩]) | none=>(mkH [⟨[.str a0,w34 a,.i c,.i b],4,false⟩]),cxTi,cxOrd,λr=>match r with | some _=>none | none=>some (thrown,[0]),false⟩
def Pi24 (f:Ti24):Prop := ∀ a0 a b c,PQh (Xi24 a0 a b c) 84 [.ptr 0 4 0] (f a0 a b c)
abbrev Ti25:Type:=LN→(List S33)→Int→Int→Option (Option (S28×Int))
def Xi25 (a0:LN) (a:List S33) (c:Int) (b:Int):Fx (Option (S28×Int)):=⟨Try.prog,cx,Try.f86,λr=>match r with | some r=>n29 r.1 | none => .top,1,λr=>match r with | some r=>(mkH [⟨[.str a0,w34 a,.i r.2,.i b],4,false⟩]) | none=>(mkH [⟨[.str a0,w34 a,.i c,.i b],4,false⟩]),cxTi,cxOrd,λr=>match r with | some _=>none | none=>some (thrown,[0]),false⟩
def Pi25 (f:Ti25):Prop := ∀ a0 a b c,PQh (Xi25 a0 a b c) 86 [.ptr 0 4 0] (f a0 a b c)
abbrev Ti26:Type:=S28→LN→(List S33)→Int→Int→Option (Option (S28×Int))
def Xi26 (a0:S28) (a:LN) (b:List S33) (g:Int) (c:Int):Fx (Option (S28×Int)):=⟨Try.prog,cx,Try.f87,λr=>match r with | some r=>n29 r.1 | none => .top,1,λr=>match r with | some r=>(mkH [⟨[.str a,w34 b,.i r.2,.i c],4,false⟩]) | none=>(mkH [⟨[.str a,w34 b,.i g,.i c],4,false⟩]),cxTi,cxOrd,λr=>match r with | some _=>none | none=>some (thrown,[0]),false⟩
def Pi26 (f:Ti26):Prop := ∀ a0 a b c g,PQh (Xi26 a0 a b c g) 87 [.ptr 0 4 0,n29 a0] (f a0 a b c g)
abbrev Ti29:Type:=LN→(List S33)→Int→Int→Option (Option (S28×Int))
def Xi29 (a0:LN) (a:List S33) (c:Int) (b:Int):Fx (Option (S28×Int)):=⟨Try.prog,cx,Try.f78,λr=>match r with | some r=>n29 r.1 | none => .top,1,λr=>match r with | some r=>(mkH [⟨[.str a0,w34 a,.i r.2,.i b],4,false⟩]) | none=>(mkH [⟨[.str a0,w34 a,.i c,.i b],4,false⟩]),cxTi,cxOrd,λr=>match r with | some _=>none | none=>some (thrown,[0]),false⟩
def Pi29 (f:Ti29):Prop := ∀ a0 a b c,PQh (Xi29 a0 a b c) 78 [.ptr 0 4 0] (f a0 a b c)
abbrev Ri30:Type:=(Int×LN×Bool×Bool×LL×LL×Int×(List S28))
abbrev Ti30:Type:=Int→LN→Bool→Bool→LL→LL→LN→(List S33)→Int→Int→(List S28)→Option (Option Ri30)
def Xi30 (a0:Int) (j:LN) (n:Bool) (o:Bool) (q:LL) (u:LL) (a:LN) (b:List S33) (g:Int) (c:Int) (h:List S28):Fx (Option Ri30):=⟨Try.prog,cx,Try.f94,λr=>match r with | some r => .agg [.i r.1,.str r.2.1,.own 1 (r.2.2.2.2.2.2.2).length 7,.bool r.2.2.1,.bool r.2.2.2.1,w9 r.2.2.2.2.1,w9 r.2.2.2.2.2.1] | none => .top,2,λr=>match r with | some r=>(mkH [⟨[.str a,w34 b,.i r.2.2.2.2.2.2.1,.i c],4,false⟩,⟨(r.2.2.2.2.2.2.2).flatMap e29,0,false⟩]) | none=>(mkH [⟨[.str a,w34 b,.i g,.i c],4,false⟩,⟨(h).flatMap e29,0,false⟩]),cxTi,cxOrd,λr=>match r with | some _=>none | none=>some (thrown,[0,1]),false⟩
def Pi30 (f:Ti30):Prop := ∀ a0 a b c g h n o q u j,PQh (Xi30 a0 a b c g h n o q u j) 94 [.ptr 0 4 0,.agg [.i a0,.str a,.own 1 (j).length 7,.bool b,.bool c,w9 g,w9 h]] (f a0 a b c g h n o q u j)
abbrev Ti31:Type:=LN→(List S33)→Int→Int→Option (Option (S28×Int))
def Xi31 (a0:LN) (a:List S33) (c:Int) (b:Int):Fx (Option (S28×Int)):=⟨Try.prog,cx,Try.f80,λr=>match r with | some r=>n29 r.1 | none => .top,1,λr=>match r with | some r=>(mkH [⟨[.str a0,w34 a,.i r.2,.i b],4,false⟩]) | none=>(mkH [⟨[.str a0,w34 a,.i c,.i b],4,false⟩]),cxTi,cxOrd,λr=>match r with | some _=>none | none=>some (thrown,[0]),false⟩
def Pi31 (f:Ti31):Prop := ∀ a0 a b c,PQh (Xi31 a0 a b c) 80 [.ptr 0 4 0] (f a0 a b c)
abbrev Ti32:Type:=LN→(List S33)→Int→Int→Option (Option (S28×Int))
def Xi32 (a0:LN) (a:List S33) (c:Int) (b:Int):Fx (Option (S28×Int)):=⟨Try.prog,cx,Try.f81,λr=>match r with | some r=>n29 r.1 | none => .top,1,λr=>match r with | some r=>(mkH [⟨[.str a0,w34 a,.i r.2,.i b],4,false⟩]) | none=>(mkH [⟨[.str a0,w34 a,.i c,.i b],4,false⟩]),cxTi,cxOrd,λr=>match r with | some _=>none | none=>some (thrown,[0]),false⟩
def Pi32 (f:Ti32):Prop := ∀ a0 a b c,PQh (Xi32 a0 a b c) 81 [.ptr 0 4 0] (f a0 a b c)
abbrev Ti34:Type:=LN→(List S33)→Int→Int→Option (Option (S28×Int))
def Xi34 (a0:LN) (a:List S33) (c:Int) (b:Int):Fx (Option (S28×Int)):=⟨Try.prog,cx,Try.f97,λr=>match r with | some r=>n29 r.1 | none => .top,1,λr=>match r with | some r=>(mkH [⟨[.str a0,w34 a,.i r.2,.i b],4,false⟩]) | none=>(mkH [⟨[.str a0,w34 a,.i c,.i b],4,false⟩]),cxTi,cxOrd,λr=>match r with | some _=>none | none=>some (thrown,[0]),false⟩
def Pi34 (f:Ti34):Prop := ∀ a0 a b c,PQh (Xi34 a0 a b c) 97 [.ptr 0 4 0] (f a0 a b c)
abbrev Ri36:Type:=(Int×LN×Bool×Bool×LL×LL×Int×(List S28))
abbrev Ti36:Type:=Int→LN→Bool→Bool→LL→LL→LN→(List S33)→Int→Int→(List S28)→Option (Option Ri36)
def Xi36 (a0:Int) (j:LN) (n:Bool) (o:Bool) (q:LL) (u:LL) (a:LN) (b:List S33) (g:Int) (c:Int) (h:List S28):Fx (Option Ri36):=⟨Try.prog,cx,Try.f99,λr=>match r with | some r => .agg [.i r.1,.str r.2.1,.own 1 (r.2.2.2.2.2.2.2).length 7,.bool r.2.2.1,.bool r.2.2.2.1,w9 r.2.2.2.2.1,w9 r.2.2.2.2.2.1] | none => .top,2,λr=>match r with | some r=>(mkH [⟨[.str a,w34 b,.i r.2.2.2.2.2.2.1,.i c],4,false⟩,⟨(r.2.2.2.2.2.2.2).flatMap e29,0,false⟩]) | none=>(mkH [⟨[.str a,w34 b,.i g,.i c],4,false⟩,⟨(h).flatMap e29,0,false⟩]),cxTi,cxOrd,λr=>match r with | some _=>none | none=>some (thrown,[0,1]),false⟩
def Pi36 (f:Ti36):Prop := ∀ a0 a b c g h n o q u j,PQh (Xi36 a0 a b c g h n o q u j) 99 [.ptr 0 4 0,.agg [.i a0,.str a,.own 1 (j).length 7,.bool b,.bool c,w9 g,w9 h],.func 100 [.ptr 0 4 0] []] (f a0 a b c g h n o q u j)
abbrev Ri37:Type:=(Int×LN×Bool×Bool×LL×LL×Int×(List S28))
abbrev Ti37:Type:=Int→LN→Bool→Bool→LL→LL→LN→(List S33)→Int→Int→(List S28)→Option (Option Ri37)
def Xi37 (a0:Int) (j:LN) (n:Bool) (o:Bool) (q:LL) (u:LL) (a:LN) (b:List S33) (g:Int) (c:Int) (h:List S28):Fx (Option Ri37):=⟨Try.prog,cx,Try.f99,λr=>match r with | some r => .agg [.i r.1,.str r.2.1,.own 1 (r.2.2.2.2.2.2.2).length 7,.bool r.2.2.1,.bool r.2.2.2.1,w9 r.2.2.2.2.1,w9 r.2.2.2.2.2.1] | none => .top,2,λr=>match r with | some r=>(mkH [⟨[.str a,w34 b,.i r.2.2.2.2.2.2.1,.i c],4,false⟩,⟨(r.2.2.2.2.2.2.2).flatMap e29,0,false⟩]) | none=>(mkH [⟨[.str a,w34 b,.i g,.i c],4,false⟩,⟨(h).flatMap e29,0,false⟩]),cxTi,cxOrd,λr=>match r with | some _=>none | none=>some (thrown,[0,1]),false⟩
def Pi37 (f:Ti37):Prop := ∀ a0 a b c g h n o q u j,PQh (Xi37 a0 a b c g h n o q u j) 99 [.ptr 0 4 0,.agg [.i a0,.str a,.own 1 (j).length 7,.bool b,.bool c,w9 g,w9 h],.func 101 [.ptr 0 4 0] []] (f a0 a b c g h n o q u j)
abbrev Ti38:Type:=LN→(List S33)→Int→Int→Option (Option (S28×Int))
def Xi38 (a0:LN) (a:List S33) (c:Int) (b:Int):Fx (Option (S28×Int)):=⟨Try.prog,cx,Try.f102,λr=>match r with | some r=>n29 r.1 | none => .top,1,λr=>match r with | some r=>(mkH [⟨[.str a0,w34 a,.i r.2,.i b],4,false⟩]) | none=>(mkH [⟨[.str a0,w34 a,.i c,.i b],4,false⟩]),cxTi,cxOrd,λr=>match r with | some _=>none | none=>some (thrown,[0]),false⟩
def Pi38 (f:Ti38):Prop := ∀ a0 a b c,PQh (Xi38 a0 a b c) 102 [.ptr 0 4 0] (f a0 a b c)
abbrev Ri40:Type:=((List S28)×Int)
abbrev Ti40:Type:=LL→LN→(List S33)→Int→Int→Option (Option Ri40)
def Xi40 (a0:LL) (a:LN) (b:List S33) (g:Int) (c:Int):Fx (Option Ri40):=⟨Try.prog,cx,Try.f105,λr=>match r with | some r=>w29 r.1 | none => .top,2,λr=>match r with | some r=>(mkH [⟨[.str a,w34 b,.i r.2,.i c],4,false⟩,⟨[.ptr 0 4 0],1,false⟩]) | none=>(mkH [⟨[.str a,w34 b,.i g,.i c],4,false⟩,⟨[.ptr 0 4 0],1,false⟩]),cxTi,cxOrd,λr=>match r with | some _=>none | none=>some (thrown,[0,1]),false⟩
def Pi40 (f:Ti40):Prop := ∀ a0 a b c g,PQh (Xi40 a0 a b c g) 105 [.ptr 0 4 0,w9 a0,.func 106 [] [.ptr 1 1 0]] (f a0 a b c g)
abbrev Ri41:Type:=((List S28)×Int)
abbrev Ti41:Type:=LL→LN→(List S33)→Int→Int→Option (Option Ri41)
def Xi41 (a0:LL) (a:LN) (b:List S33) (g:Int) (c:Int):Fx (Option Ri41):=⟨Try.prog,cx,Try.f105,λr=>match r with | some r=>w29 r.1 | none => .top,1,λr=>match r with | some r=>(mkH [⟨[.str a,w34 b,.i r.2,.i c],4,false⟩]) | none=>(mkH [⟨[.str a,w34 b,.i g,.i c],4,false⟩]),cxTi,cxOrd,λr=>match r with | some _=>none | none=>some (thrown,[0]),false⟩
def Pi41 (f:Ti41):Prop := ∀ a0 a b c g,PQh (Xi41 a0 a b c g) 105 [.ptr 0 4 0,w9 a0,.func 100 [.ptr 0 4 0] []] (f a0 a b c g)
abbrev Ri42:Type:=((List S28)×Int)
abbrev Ti42:Type:=LL→LN→(List S33)→Int→Int→Option (Option Ri42)
def Xi42 (a0:LL) (a:LN) (b:List S33) (g:Int) (c:Int):Fx (Option Ri42):=⟨Try.prog,cx,Try.f105,λr=>match r with | some r=>w29 r.1 | none => .top,1,λr=>match r with | some r=>(mkH [⟨[.str a,w34 b,.i r.2,.i c],4,false⟩]) | none=>(mkH [⟨[.str a,w34 b,.i g,.i c],4,false⟩]),cxTi,cxOrd,λr=>match r with | some _=>none | none=>some (thrown,[0]),false⟩
def Pi42 (f:Ti42):Prop := ∀ a0 a b c g,PQh (Xi42 a0 a b c g) 105 [.ptr 0 4 0,w9 a0,.func 101 [.ptr 0 4 0] []] (f a0 a b c g)
abbrev Ri43:Type:=(Int×(List S28))
abbrev Ti43:Type:=LL→LN→(List S33)→Int→Int→Option (Option Ri43)
def Xi43 (a0:LL) (a:LN) (b:List S33) (g:Int) (c:Int):Fx (Option Ri43):=⟨Try.prog,cx,Try.f105,λr=>match r with | some r => .own 1 (r.2).length 7 | none => .top,1,λr=>match r with | some r=>(mkH [⟨[.str a,w34 b,.i r.1,.i c],4,false⟩,⟨(r.2).flatMap e29,0,false⟩]) | none=>(mkH [⟨[.str a,w34 b,.i g,.i c],4,false⟩]),cxTi,cxOrd,λr=>match r with | some _=>none | none=>some (thrown,[0]),false⟩
def Pi43 (f:Ti43):Prop := ∀ a0 a b c g,PQh (Xi43 a0 a b c g) 105 [.ptr 0 4 0,w9 a0,.func 100 [.ptr 0 4 0] []] (f a0 a b c g)
abbrev Ti44:Type:=LN→(List S33)→Int→Int→Option (Option (S28×Int))
def Xi44 (a0:LN) (a:List S33) (c:Int) (b:Int):Fx (Option (S28×Int)):=⟨Try.prog,cx,Try.f106,λr=>match r with | some r=>n29 r.1 | none => .top,2,λr=>match r with | some r=>(mkH [⟨[.str a0,w34 a,.i r.2,.i b],4,false⟩,⟨[.ptr 0 4 0],1,false⟩]) | none=>(mkH [⟨[.str a0,w34 a,.i c,.i b],4,false⟩,⟨[.ptr 0 4 0],1,false⟩]),cxTi,cxOrd,λr=>match r with | some _=>none | none=>some (thrown,[0,1]),false⟩
def Pi44 (f:Ti44):Prop := ∀ a0 a b c,PQh (Xi44 a0 a b c) 106 [.ptr 1 1 0] (f a0 a b c)
abbrev Ti45:Type:=LN→(List S33)→Int→Int→Option (Option (S28×Int))
def Xi45 (a0:LN) (a:List S33) (c:Int) (b:Int):Fx (Option (S28×Int)):=⟨Try.prog,cx,Try.f100,λr=>match r with | some r=>n29 r.1 | none => .top,1,λr=>match r with | some r=>(mkH [⟨[.str a0,w34 a,.i r.2,.i b],4,false⟩]) | none=>(mkH [⟨[.str a0,w34 a,.i c,.i b],4,false⟩]),cxTi,cxOrd,λr=>match r with | some _=>none | none=>some (thrown,[0]),false⟩
def Pi45 (f:Ti45):Prop := ∀ a0 a b c,PQh (Xi45 a0 a b c) 100 [.ptr 0 4 0] (f a0 a b c)
abbrev Ti46:Type:=LN→(List S33)→Int→Int→Option (Option (S28×Int))
def Xi46 (a0:LN) (a:List S33) (c:Int) (b:Int):Fx (Option (S28×Int)):=⟨Try.prog,cx,Try.f101,λr=>match r with | some r=>n29 r.1 | none => .top,1,λr=>match r with | some r=>(mkH [⟨[.str a0,w34 a,.i r.2,.i b],4,false⟩]) | none=>(mkH [⟨[.str a0,w34 a,.i c,.i b],4,false⟩]),cxTi,cxOrd,λr=>match r with | some _=>none | none=>some (thrown,[0]),false⟩
def Pi46 (f:Ti46):Prop := ∀ a0 a b c,PQh (Xi46 a0 a b c) 101 [.ptr 0 4 0] (f a0 a b c)
abbrev Ti47:Type:=LN→S28→S28→LN→(List S33)→Int→Int→Option (Option (S28×Int))
def Xi47 (a0:LN) (h:S28) (j:S28) (a:LN) (b:List S33) (g:Int) (c:Int):Fx (Option (S28×Int)):=⟨Try.prog,cx,Try.f108,λr=>match r with | some r=>n29 r.1 | none => .top,1,λr=>match r with | some r=>(mkH [⟨[.str a,w34 b,.i r.2,.i c],4,false⟩]) | none=>(mkH [⟨[.str a,w34 b,.i g,.i c],4,false⟩]),cxTi,cxOrd,λr=>match r with | some _=>none | none=>some (thrown,[0]),false⟩
def Pi47 (f:Ti47):Prop := ∀ a0 a b c g h j,PQh (Xi47 a0 a b c g h j) 108 [.ptr 0 4 0,.str a0,n29 a,n29 b] (f a0 a b c g h j)
abbrev Ti48:Type:=LN→LN→(List S33)→Int→Int→Option (Option (S28×Int))
def Xi48 (a0:LN) (a:LN) (b:List S33) (g:Int) (c:Int):Fx (Option (S28×Int)):=⟨Try.prog,cx,Try.f107,λr=>match r with | some r=>n29 r.1 | none => .top,1,λr=>match r with | some r=>(mkH [⟨[.str a,w34 b,.i r.2,.i c],4,false⟩]) | none=>(mkH [⟨[.str a,w34 b,.i g,.i c],4,false⟩]),cxTi,cxOrd,λr=>match r with | some _=>none | none=>some (thrown,[0]),false⟩
def Pi48 (f:Ti48):Prop := ∀ a0 a b c g,PQh (Xi48 a0 a b c g) 107 [.ptr 0 4 0,.str a0] (f a0 a b c g)
abbrev Ti49:Type:=LN→(List S33)→Int→Int→Option (Option (S28×Int))
def Xi49 (a0:LN) (a:List S33) (c:Int) (b:Int):Fx (Option (S28×Int)):=⟨Try.prog,cx,Try.f109,λr=>match r with | some r=>n29 r.1 | none => .top,1,λr=>match r with | some r=>(mkH [⟨[.str a0,w34 a,.i r.2,.i b],4,false⟩]) | none=>(mkH [⟨[.str a0,w34 a,.i c,.i b],4,false⟩]),cxTi,cxOrd,λr=>match r with | some _=>none | none=>some (thrown,[0]),false⟩
def Pi49 (f:Ti49):Prop := ∀ a0 a b c,PQh (Xi49 a0 a b c) 109 [.ptr 0 4 0] (f a0 a b c)
abbrev Ti50:Type:=LN→(List S33)→Int→Int→Option (Option (S28×Int))
def Xi50 (a0:LN) (a:List S33) (c:Int) (b:Int):Fx (Option (S28×Int)):=⟨Try.prog,cx,Try.f110,λr=>match r with | some r=>n29 r.1 | none => .top,1,λr=>match r with | some r=>(mkH [⟨[.str a0,w34 a,.i r.2,.i b],4,false⟩]) | none=>(mkH [⟨[.str a0,w34 a,.i c,.i b],4,false⟩]),cxTi,cxOrd,λr=>match r with | some _=>none | none=>some (thrown,[0]),false⟩
def Pi50 (f:Ti50):Prop := ∀ a0 a b c,PQh (Xi50 a0 a b c) 110 [.ptr 0 4 0] (f a0 a b c)
abbrev Ti51:Type:=LN→(List S33)→Int→Int→Option (Option (S28×Int))
def Xi51 (a0:LN) (a:List S33) (c:Int) (b:Int):Fx (Option (S28×Int)):=⟨Try.prog,cx,Try.f112,λr=>match r with | some r=>n29 r.1 | none => .top,1,λr=>match r with | some r=>(mkH [⟨[.str a0,w34 a,.i r.2,.i b],4,false⟩]) | none=>(mkH [⟨[.str a0,w34 a,.i c,.i b],4,false⟩]),cxTi,cxOrd,λr=>match r with | some _=>none | none=>some (thrown,[0]),false⟩
def Pi51 (f:Ti51):Prop := ∀ a0 a b c,PQh (Xi51 a0 a b c) 112 [.ptr 0 4 0] (f a0 a b c)
abbrev Ti52:Type:=LN→(List S33)→Int→Int→Option (Option (S28×Int))
def Xi52 (a0:LN) (a:List S33) (c:Int) (b:Int):Fx (Option (S28×Int)):=⟨Try.prog,cx,Try.f113,λr=>match r with | some r=>n29 r.1 | none => .top,1,λr=>match r with | some r=>(mkH [⟨[.str a0,w34 a,.i r.2,.i b],4,false⟩]) | none=>(mkH [⟨[.str a0,w34 a,.i c,.i b],4,false⟩]),cxTi,cxOrd,λr=>match r with | some _=>none | none=>some (thrown,[0]),false⟩
def Pi52 (f:Ti52):Prop := ∀ a0 a b c,PQh (Xi52 a0 a b c) 113 [.ptr 0 4 0] (f a0 a b c)
structure Fns0 where
 i5:Ti5
 i6:Ti6
 i8:Ti8
 i13:Ti13
 i14:Ti14
 i17:Ti17
 i18:Ti18
 i19:Ti19
 i20:Ti20
 i21:Ti21
 i24:Ti24
 i25:Ti25
 i26:Ti26
 i29:Ti29
 i30:Ti30
 i31:Ti31
 i32:Ti32
 i34:Ti34
 i36:Ti36
 i37:Ti37
 i38:Ti38
 i40:Ti40
 i41:Ti41
 i42:Ti42
 i43:Ti43
 i44:Ti44
 i45:Ti45
 i46:Ti46
 i47:Ti47
 i48:Ti48
 i49:Ti49
 i50:Ti50
 i51:Ti51
 i52:Ti52
structure FnsOk0 (F:Fns0):Prop where
 i5_ok:Pi5 (F.i5)
 i6_ok:Pi6 (F.i6)
 i8_ok:Pi8 (F.i8)
 i13_ok:Pi13 (F.i13)
 i14_ok:Pi14 (F.i14)
 i17_ok:Pi17 (F.i17)
 i18_ok:Pi18 (F.i18)
 i19_ok:Pi19 (F.i19)
 i20_ok:Pi20 (F.i20)
 i21_ok:Pi21 (F.i21)
 i24_ok:Pi24 (F.i24)
 i25_ok:Pi25 (F.i25)
 i26_ok:Pi26 (F.i26)
 i29_ok:Pi29 (F.i29)
 i30_ok:Pi30 (F.i30)
 i31_ok:Pi31 (F.i31)
 i32_ok:Pi32 (F.i32)
 i34_ok:Pi34 (F.i34)
 i36_ok:Pi36 (F.i36)
 i37_ok:Pi37 (F.i37)
 i38_ok:Pi38 (F.i38)
 i40_ok:Pi40 (F.i40)
 i41_ok:Pi41 (F.i41)
 i42_ok:Pi42 (F.i42)
 i43_ok:Pi43 (F.i43)
 i44_ok:Pi44 (F.i44)
 i45_ok:Pi45 (F.i45)
 i46_ok:Pi46 (F.i46)
 i47_ok:Pi47 (F.i47)
 i48_ok:Pi48 (F.i48)
 i49_ok:Pi49 (F.i49)
 i50_ok:Pi50 (F.i50)
 i51_ok:Pi51 (F.i51)
 i52_ok:Pi52 (F.i52)
def i13p1:Pt:=nav [0,0,0,0] (nav [0] (bodyAt Try.f66))
def i13p2:Pt:=nav [0,0,0] i13p1
def i13p3:Pt:=nav [0,0] i13p2
def i13p4:Pt:=nav [1,0] i13p3
def i13p5:Pt:=nav [2,0,0,0,0] i13p3
def i13p7:Pt:=nav [0,0] i13p5
def i13p9:Pt:=nav [1,0] i13p7
def i13p10:Pt:=nav [2,0] i13p7
def i13p11:Pt:=nav [0,0] i13p10
def i13p12:Pt:=nav [1,0] i13p11
def i13p13:Pt:=nav [2,0] i13p11
def i13p14:Pt:=nav [0,0] i13p13
def i13p15:Pt:=nav [1,0] i13p14
def i13p16:Pt:=nav [2,0] i13p14
def i13p17:Pt:=nav [0,0] i13p16
def i13p18:Pt:=nav [1,0] i13p17
def i13p19:Pt:=nav [2,0] i13p17
def i13p20:Pt:=nav [0,0] i13p19
def i13p21:Pt:=nav [1,0,0] i13p20
def i13p22:Pt:=nav [2,0,0] i13p20
def i13p23:Pt:=nav [0,0] i13p21
def i13p24:Pt:=nav [1,0] i13p23
def i13p25:Pt:=nav [2,0,0] i13p23
def i13p26:Pt:=nav [0,0,0] i13p25
def i13p27:Pt:=nav [0,0,0] i13p26
def i13B (k:Nat) (F:Fns0) (a0:LN) (h:List S33) (Q:Int) (j:Int):Option (Option Ri13) :=
 (i9 k a0 h Q j).bind λI=>(g75 k I.f0).bind λN=>if N then (bT (i11 k a0 h Q j) λO=>some (some ((⟨(1:Int),I.f1,⟨0,[]⟩,false,false,([]:LL),([]:LL)⟩:S28),false,O))) else (bT (i7 k ([40]:LN) a0 h Q j) λq=>if q.1 then (bT (F.i17 a0 h q.2 j) λJ=>some (some (J.1,true,J.2))) else (bT (i7 k ([123]:LN) a0 h q.2 j) λu=>if u.1 then (bT (F.i18 (4:Int) ([]:LN) false false ([]:LL) ([]:LL) ([125]:LN) a0 h u.2 j ([]:List S28)) λg=>some (some ((⟨g.1,g.2.1,⟨(g.2.2.2.2.2.2.2).length,(g.2.2.2.2.2.2.2).flatMap e29⟩,g.2.2.1,g.2.2.2.1,g.2.2.2.2.1,g.2.2.2.2.2.1⟩:S28),false,g.2.2.2.2.2.2.1))) else (bT (i7 k ([91]:LN) a0 h u.2 j) λx=>if x.1 then (bT (F.i19 a0 h x.2 j) λK=>some (some (K.1,false,K.2))) else (bT (i7 k ([60,60]:LN) a0 h x.2 j) λz=>if z.1 then (bT (F.i20 (6:Int) ([]:LN) false false ([]:LL) ([]:LL) ([62,62]:LN) a0 h z.2 j ([]:List S28)) λa=>some (some ((⟨a.1,a.2.1,⟨(a.2.2.2.2.2.2.2).length,(a.2.2.2.2.2.2.2).flatMap e29⟩,a.2.2.1,a.2.2.2.1,a.2.2.2.2.1,a.2.2.2.2.2.1⟩:S28),false,a.2.2.2.2.2.2.1))) else (bT (i7 k ([35]:LN) a0 h z.2 j) λn=>if n.1 then (bT (i7 k ([123]:LN) a0 h n.2 j) λo=>if o.1 then (bT (F.i21 (8:Int) ([]:LN) false false ([]:LL) ([]:LL) ([125]:LN) a0 h o.2 j ([]:List S28)) λb=>some (some ((⟨b.1,b.2.1,⟨(b.2.2.2.2.2.2.2).length,(b.2.2.2.2.2.2.2).flatMap e29⟩,b.2.2.1,b.2.2.2.1,b.2.2.2.2.1,b.2.2.2.2.2.1⟩:S28),false,b.2.2.2.2.2.2.1))) else (bT (i22 k a0 h o.2 j) λD=>bT (i23 k ([123]:LN) a0 h D.2 j) λM=>bT (F.i18 (10:Int) D.1 false false ([]:LL) ([]:LL) ([125]:LN) a0 h M j ([]:List S28)) λc=>some (some ((⟨c.1,c.2.1,⟨(c.2.2.2.2.2.2.2).length,(c.2.2.2.2.2.2.2).flatMap e29⟩,c.2.2.1,c.2.2.2.1,c.2.2.2.2.1,c.2.2.2.2.2.1⟩:S28),false,c.2.2.2.2.2.2.1)))) else (bT (F.i24 a0 h n.2 j) λE=>some (some (E.1,false,E.2))))))))
theorem qN (k:Nat) (F:Fns0) (Z:FnsOk0 F):∀ a0 n U o r,i13B k F a0 n U o=some r→CallT Try.prog 66 [.ptr 0 4 0] (mkH [⟨[.str a0,w34 n,.i U,.i o],4,false⟩]) ((Xi13 a0 n U o).thr r) ((Xi13 a0 n U o).enc r) ((Xi13 a0 n U o).fin r):=by
 intro a0 n U o r h
 refine qA2 (Xi13 a0 n U o) Try.func66 Kr Kr rfl (t:=i13B k F a0 n U o) ?_ h
 unfold i13B
 refine qA (eE:=[(0,.ptr 0 4 0)]) Kr ?_
 let Q1:Blk:=⟨[.str a0,w34 n,.i U,.i o],4,false⟩
 let M:Blk:=⟨[.i 0,.str [],.nils,.bool false,.bool false,.nils,.nils],0,false⟩
 refine oH 9 (atN 1 (ctl1 i13p1)) [(6,.ptr 0 4 0),(3,.bool false),(2,.ptr 1 7 0),(0,.ptr 0 4 0)] (mkH [Q1,M]) ?_
 refine oN (λ(g:S33)=>n34 g) (λg=>[Q1,M]) (atN 2 (ctl1 i13p1)) 7 [0] [] [] [.ptr 0 4 0] (qOb k a0 n U o) trivial (λ_=>trivial) λg b7=>?_
 let E1:Env:=[(9,.i g.f0),(8,.ptr 2 3 0),(4,.ptr 2 3 0),(7,n34 g),(6,.ptr 0 4 0),(3,.bool false),(2,.ptr 1 7 0),(0,.ptr 0 4 0)]
 refine oH 7 (atN 2 (ctl1 i13p2)) E1 (mkH [Q1,M,⟨e34 g,3,false⟩]) ?_
 refine oA (λ(Q:Bool) => .bool Q) (atN 3 (ctl1 i13p2)) 10 [.i g.f0] (g75_ok k g.f0) λQ b8=>?_
 refine oR 1 i13p3 ((10,.bool Q)::E1) ?_
 refine oS 10 (λT=>?_) (λT=>?_)
 ·refine oR 4 (atN 1 (ctl1 i13p4)) ((11,.ptr 0 4 0)::(10,.bool true)::(10,.bool Q)::E1) ?_
  refine oX (λ(S:Int) => .tuple []) (λS=>[⟨[.str a0,w34 n,.i S,.i o],4,false⟩,M,⟨e34 g,3,false⟩]) (atN 2 (ctl1 i13p4)) 12 [0] [] [] [] [] [.ptr 0 4 0] (qH9 k a0 n U o) trivial (λ_=>trivial) trivial λS b9=>?_
  refine oL 2 (nav [0,0,0] i13p4) [(2,.ptr 1 7 0),(4,.ptr 2 3 0)] ?_
  exact oQF 8 [⟨[.str a0,w34 n,.i S,.i o],4,false⟩,⟨[.i 1,.str g.f1,.nils,.bool false,.bool false,.nils,.nils],7,false⟩,⟨e34 g,3,false⟩] 1 [] [.agg [.i 1,.str g.f1,.nils,.bool false,.bool false,.nils,.nils],.bool false] (.tuple [.agg [.i 1,.str g.f1,.vec 0 7 [],.bool false,.bool false,.vec 0 1 [],.vec 0 1 []],.bool false]) (.tuple (.agg (.cs (.cs (.nil (.cs (.cs (.nil (.nil .ps))))))) .ps) .ps) trivial
 ·refine oR 7 (atN 1 (ctl1 i13p5)) ((17,.ptr 0 4 0)::(10,.bool false)::(10,.bool Q)::E1) ?_
  refine oX (λ(N:(Bool×Int)) => .bool N.1) (λN=>[⟨[.str a0,w34 n,.i N.2,.i o],4,false⟩,M,⟨e34 g,3,false⟩]) (atN 2 (ctl1 i13p5)) 18 [0] [] [] [] [] [.ptr 0 4 0,.str [40]] (qAj k ([40]:LN) a0 n U o) trivial (λ_=>trivial) trivial λN c0=>?_
  let E4:Env:=[(0,.ptr 0 4 0),(2,.ptr 1 7 0),(16,.bool N.1)]
  refine oL 2 i13p7 E4 ?_
  refine oS 16 (λT=>?_) (λT=>?_)
  ·refine oR 4 (atN 1 (ctl1 i13p9)) ((19,.ptr 0 4 0)::(16,.bool true)::E4) ?_
   refine oX (λ(I:(S28×Int))=>n29 I.1) (λI=>[⟨[.str a0,w34 n,.i I.2,.i o],4,false⟩,M,⟨e34 g,3,false⟩]) (atN 2 (ctl1 i13p9)) 20 [0] [] [] [0] [] [.ptr 0 4 0] (Z.i17_ok a0 n N.2 o) trivial (λ_=>trivial) trivial λI c1=>?_
   exact oQF 4 [⟨[.str a0,w34 n,.i I.2,.i o],4,false⟩,⟨e29 I.1,7,false⟩,⟨e34 g,3,false⟩] 1 [] [n29 I.1,.bool true] (.tuple [n29 I.1,.bool true]) .ps trivial
  ·refine oR 4 (atN 1 (ctl1 i13p10)) ((22,.ptr 0 4 0)::(16,.bool false)::E4) ?_
   refine oX (λ(x:(Bool×Int)) => .bool x.1) (λx=>[⟨[.str a0,w34 n,.i x.2,.i o],4,false⟩,M,⟨e34 g,3,false⟩]) (atN 2 (ctl1 i13p10)) 23 [0] [] [] [] [] [.ptr 0 4 0,.str [123]] (qAj k ([123]:LN) a0 n N.2 o) trivial (λ_=>trivial) trivial λx c2=>?_
   refine oR 2 i13p11 ((21,.bool x.1)::(23,.bool x.1)::(22,.ptr 0 4 0)::(16,.bool false)::E4) ?_
   refine oS 21 (λT=>?_) (λT=>?_)
   ·refine oR 7 (atN 4 (ctl1 i13p12)) ((27,.func 78 [.ptr 0 4 0] [])::(26,.ptr 0 4 0)::(25,.agg [.i 4,.str [],.nils,.bool false,.bool false,.nils,.nils])::(24,.ptr 0 4 0)::(21,.bool true)::(21,.bool x.1)::(23,.bool x.1)::(22,.ptr 0 4 0)::(16,.bool false)::E4) ?_
    refine oXW 1 [⟨[.str a0,w34 n,.i x.2,.i o],4,false⟩,M,⟨e34 g,3,false⟩,⟨(([]:List S28)).flatMap e29,0,false⟩] (λ(j:Ri18) => .agg [.i j.1,.str j.2.1,.own 3 (j.2.2.2.2.2.2.2).length 7,.bool j.2.2.1,.bool j.2.2.2.1,w9 j.2.2.2.2.1,w9 j.2.2.2.2.2.1]) (λj=>[⟨[.str a0,w34 n,.i j.2.2.2.2.2.2.1,.i o],4,false⟩,M,⟨e34 g,3,false⟩,⟨(j.2.2.2.2.2.2.2).flatMap e29,0,false⟩]) (atN 5 (ctl1 i13p12)) 28 [0,3] [0,1] [0,1] [0,3] [] [0,0,0,1] [.ptr 0 4 0,.agg [.i 4,.str [],.nils,.bool false,.bool false,.nils,.nils],.str [125],.func 78 [.ptr 0 4 0] []] [.ptr 0 4 0,.agg [.i 4,.str [],.own 3 (([]:List S28)).length 7,.bool false,.bool false,w9 ([]:LL),w9 ([]:LL)],.str [125],.func 78 [.ptr 0 4 0] []] (.cons (.agg (.cons (.cons (.none (.cons (.cons (.nil (.nil (.refl)))))))) (.refl))) (Z.i18_ok (4:Int) ([]:LN) false false ([]:LL) ([]:LL) ([125]:LN) a0 n x.2 o ([]:List S28)) ⟨u29 _,trivial⟩ (λ_=>⟨u29 _,trivial⟩) trivial λj c3=>?_
    exact oQF 4 [⟨[.str a0,w34 n,.i j.2.2.2.2.2.2.1,.i o],4,false⟩,⟨[.i j.1,.str j.2.1,.own 3 (j.2.2.2.2.2.2.2).length 7,.bool j.2.2.1,.bool j.2.2.2.1,w9 j.2.2.2.2.1,w9 j.2.2.2.2.2.1],7,false⟩,⟨e34 g,3,false⟩,⟨(j.2.2.2.2.2.2.2).flatMap e29,0,false⟩] 1 [] [.agg [.i j.1,.str j.2.1,.own 3 (j.2.2.2.2.2.2.2).length 7,.bool j.2.2.1,.bool j.2.2.2.1,w9 j.2.2.2.2.1,w9 j.2.2.2.2.2.1],.bool false] (.tuple [.agg [.i j.1,.str j.2.1,w29 j.2.2.2.2.2.2.2,.bool j.2.2.1,.bool j.2.2.2.1,w9 j.2.2.2.2.1,w9 j.2.2.2.2.2.1],.bool false]) (.tuple (.agg (.cs (.cs (qAr qA6 qAh rfl rfl rfl .ps))) .ps) .ps) trivial
   ·refine oR 4 (atN 1 (ctl1 i13p13)) ((30,.ptr 0 4 0)::(21,.bool false)::(21,.bool x.1)::(23,.bool x.1)::(22,.ptr 0 4 0)::(16,.bool false)::E4) ?_
    refine oX (λ(J:(Bool×Int)) => .bool J.1) (λJ=>[⟨[.str a0,w34 n,.i J.2,.i o],4,false⟩,M,⟨e34 g,3,false⟩]) (atN 2 (ctl1 i13p13)) 31 [0] [] [] [] [] [.ptr 0 4 0,.str [91]] (qAj k ([91]:LN) a0 n x.2 o) trivial (λ_=>trivial) trivial λJ c4=>?_
    refine oL 2 i13p14 [(0,.ptr 0 4 0),(2,.ptr 1 7 0),(29,.bool J.1)] ?_
    let E7:Env:=[(0,.ptr 0 4 0),(2,.ptr 1 7 0),(29,.bool J.1)]
    refine oS 29 (λT=>?_) (λT=>?_)
    ·refine oR 4 (atN 1 (ctl1 i13p15)) ((32,.ptr 0 4 0)::(29,.bool true)::E7) ?_
     refine oX (λ(K:(S28×Int))=>n29 K.1) (λK=>[⟨[.str a0,w34 n,.i K.2,.i o],4,false⟩,M,⟨e34 g,3,false⟩]) (atN 2 (ctl1 i13p15)) 33 [0] [] [] [0] [] [.ptr 0 4 0] (Z.i19_ok a0 n J.2 o) trivial (λ_=>trivial) trivial λK c5=>?_
     exact oQF 4 [⟨[.str a0,w34 n,.i K.2,.i o],4,false⟩,⟨e29 K.1,7,false⟩,⟨e34 g,3,false⟩] 1 [] [n29 K.1,.bool false] (.tuple [n29 K.1,.bool false]) .ps trivial
    ·refine oR 4 (atN 1 (ctl1 i13p16)) ((35,.ptr 0 4 0)::(29,.bool false)::E7) ?_
     refine oX (λ(z:(Bool×Int)) => .bool z.1) (λz=>[⟨[.str a0,w34 n,.i z.2,.i o],4,false⟩,M,⟨e34 g,3,false⟩]) (atN 2 (ctl1 i13p16)) 36 [0] [] [] [] [] [.ptr 0 4 0,.str [60,60]] (qAj k ([60,60]:LN) a0 n J.2 o) trivial (λ_=>trivial) trivial λz c6=>?_
     refine oR 2 i13p17 ((34,.bool z.1)::(36,.bool z.1)::(35,.ptr 0 4 0)::(29,.bool false)::E7) ?_
     refine oS 34 (λT=>?_) (λT=>?_)
     ·refine oR 7 (atN 4 (ctl1 i13p18)) ((40,.func 80 [.ptr 0 4 0] [])::(39,.ptr 0 4 0)::(38,.agg [.i 6,.str [],.nils,.bool false,.bool false,.nils,.nils])::(37,.ptr 0 4 0)::(34,.bool true)::(34,.bool z.1)::(36,.bool z.1)::(35,.ptr 0 4 0)::(29,.bool false)::E7) ?_
      refine oXW 1 [⟨[.str a0,w34 n,.i z.2,.i o],4,false⟩,M,⟨e34 g,3,false⟩,⟨(([]:List S28)).flatMap e29,0,false⟩] (λ(a:Ri20) => .agg [.i a.1,.str a.2.1,.own 3 (a.2.2.2.2.2.2.2).length 7,.bool a.2.2.1,.bool a.2.2.2.1,w9 a.2.2.2.2.1,w9 a.2.2.2.2.2.1]) (λa=>[⟨[.str a0,w34 n,.i a.2.2.2.2.2.2.1,.i o],4,false⟩,M,⟨e34 g,3,false⟩,⟨(a.2.2.2.2.2.2.2).flatMap e29,0,false⟩]) (atN 5 (ctl1 i13p18)) 41 [0,3] [0,1] [0,1] [0,3] [] [0,0,0,1] [.ptr 0 4 0,.agg [.i 6,.str [],.nils,.bool false,.bool false,.nils,.nils],.str [62,62],.func 80 [.ptr 0 4 0] []] [.ptr 0 4 0,.agg [.i 6,.str [],.own 3 (([]:List S28)).length 7,.bool false,.bool false,w9 ([]:LL),w9 ([]:LL)],.str [62,62],.func 80 [.ptr 0 4 0] []] (.cons (.agg (.cons (.cons (.none (.cons (.cons (.nil (.nil (.refl)))))))) (.refl))) (Z.i20_ok (6:Int) ([]:LN) false false ([]:LL) ([]:LL) ([62,62]:LN) a0 n z.2 o ([]:List S28)) ⟨u29 _,trivial⟩ (λ_=>⟨u29 _,trivial⟩) trivial λa a8=>?_
      exact oQF 4 [⟨[.str a0,w34 n,.i a.2.2.2.2.2.2.1,.i o],4,false⟩,⟨[.i a.1,.str a.2.1,.own 3 (a.2.2.2.2.2.2.2).length 7,.bool a.2.2.1,.bool a.2.2.2.1,w9 a.2.2.2.2.1,w9 a.2.2.2.2.2.1],7,false⟩,⟨e34 g,3,false⟩,⟨(a.2.2.2.2.2.2.2).flatMap e29,0,false⟩] 1 [] [.agg [.i a.1,.str a.2.1,.own 3 (a.2.2.2.2.2.2.2).length 7,.bool a.2.2.1,.bool a.2.2.2.1,w9 a.2.2.2.2.1,w9 a.2.2.2.2.2.1],.bool false] (.tuple [.agg [.i a.1,.str a.2.1,w29 a.2.2.2.2.2.2.2,.bool a.2.2.1,.bool a.2.2.2.1,w9 a.2.2.2.2.1,w9 a.2.2.2.2.2.1],.bool false]) (.tuple (.agg (.cs (.cs (qAr qA6 qAh rfl rfl rfl .ps))) .ps) .ps) trivial
     ·refine oR 4 (atN 1 (ctl1 i13p19)) ((43,.ptr 0 4 0)::(34,.bool false)::(34,.bool z.1)::(36,.bool z.1)::(35,.ptr 0 4 0)::(29,.bool false)::E7) ?_
      refine oX (λ(D:(Bool×Int)) => .bool D.1) (λD=>[⟨[.str a0,w34 n,.i D.2,.i o],4,false⟩,M,⟨e34 g,3,false⟩]) (atN 2 (ctl1 i13p19)) 44 [0] [] [] [] [] [.ptr 0 4 0,.str [35]] (qAj k ([35]:LN) a0 n z.2 o) trivial (λ_=>trivial) trivial λD a9=>?_
      refine oL 2 i13p20 [(0,.ptr 0 4 0),(2,.ptr 1 7 0),(42,.bool D.1)] ?_
      let Y:Env:=[(0,.ptr 0 4 0),(2,.ptr 1 7 0),(42,.bool D.1)]
      refine oS 42 (λT=>?_) (λT=>?_)
      ·refine oR 5 (atN 1 (ctl1 i13p21)) ((45,.ptr 0 4 0)::(42,.bool true)::Y) ?_
       refine oX (λ(u:(Bool×Int)) => .bool u.1) (λu=>[⟨[.str a0,w34 n,.i u.2,.i o],4,false⟩,M,⟨e34 g,3,false⟩]) (atN 2 (ctl1 i13p21)) 46 [0] [] [] [] [] [.ptr 0 4 0,.str [123]] (qAj k ([123]:LN) a0 n D.2 o) trivial (λ_=>trivial) trivial λu b0=>?_
       refine oR 1 i13p23 ((46,.bool u.1)::(45,.ptr 0 4 0)::(42,.bool true)::Y) ?_
       refine oS 46 (λT=>?_) (λT=>?_)
       ·refine oR 7 (atN 4 (ctl1 i13p24)) ((50,.func 81 [.ptr 0 4 0] [])::(49,.ptr 0 4 0)::(48,.agg [.i 8,.str [],.nils,.bool false,.bool false,.nils,.nils])::(47,.ptr 0 4 0)::(46,.bool true)::(46,.bool u.1)::(45,.ptr 0 4 0)::(42,.bool true)::Y) ?_
        refine oXW 1 [⟨[.str a0,w34 n,.i u.2,.i o],4,false⟩,M,⟨e34 g,3,false⟩,⟨(([]:List S28)).flatMap e29,0,false⟩] (λ(b:Ri21) => .agg [.i b.1,.str b.2.1,.own 3 (b.2.2.2.2.2.2.2).length 7,.bool b.2.2.1,.bool b.2.2.2.1,w9 b.2.2.2.2.1,w9 b.2.2.2.2.2.1]) (λb=>[⟨[.str a0,w34 n,.i b.2.2.2.2.2.2.1,.i o],4,false⟩,M,⟨e34 g,3,false⟩,⟨(b.2.2.2.2.2.2.2).flatMap e29,0,false⟩]) (atN 5 (ctl1 i13p24)) 51 [0,3] [0,1] [0,1] [0,3] [] [0,0,0,1] [.ptr 0 4 0,.agg [.i 8,.str [],.nils,.bool false,.bool false,.nils,.nils],.str [125],.func 81 [.ptr 0 4 0] []] [.ptr 0 4 0,.agg [.i 8,.str [],.own 3 (([]:List S28)).length 7,.bool false,.bool false,w9 ([]:LL),w9 ([]:LL)],.str [125],.func 81 [.ptr 0 4 0] []] (.cons (.agg (.cons (.cons (.none (.cons (.cons (.nil (.nil (.refl)))))))) (.refl))) (Z.i21_ok (8:Int) ([]:LN) false false ([]:LL) ([]:LL) ([125]:LN) a0 n u.2 o ([]:List S28)) ⟨u29 _,trivial⟩ (λ_=>⟨u29 _,trivial⟩) trivial λb b1=>?_
        exact oQF 4 [⟨[.str a0,w34 n,.i b.2.2.2.2.2.2.1,.i o],4,false⟩,⟨[.i b.1,.str b.2.1,.own 3 (b.2.2.2.2.2.2.2).length 7,.bool b.2.2.1,.bool b.2.2.2.1,w9 b.2.2.2.2.1,w9 b.2.2.2.2.2.1],7,false⟩,⟨e34 g,3,false⟩,⟨(b.2.2.2.2.2.2.2).flatMap e29,0,false⟩] 1 [] [.agg [.i b.1,.str b.2.1,.own 3 (b.2.2.2.2.2.2.2).length 7,.bool b.2.2.1,.bool b.2.2.2.1,w9 b.2.2.2.2.1,w9 b.2.2.2.2.2.1],.bool false] (.tuple [.agg [.i b.1,.str b.2.1,w29 b.2.2.2.2.2.2.2,.bool b.2.2.1,.bool b.2.2.2.1,w9 b.2.2.2.2.1,w9 b.2.2.2.2.2.1],.bool false]) (.tuple (.agg (.cs (.cs (qAr qA6 qAh rfl rfl rfl .ps))) .ps) .ps) trivial
       ·refine oR 5 (atN 1 (ctl1 i13p25)) ((52,.ptr 0 4 0)::(46,.bool false)::(46,.bool u.1)::(45,.ptr 0 4 0)::(42,.bool true)::Y) ?_
        refine oX (λ(q:Ri22) => .str q.1) (λq=>[⟨[.str a0,w34 n,.i q.2,.i o],4,false⟩,M,⟨e34 g,3,false⟩]) (atN 2 (ctl1 i13p25)) 53 [0] [] [] [] [] [.ptr 0 4 0] (qJn k a0 n u.2 o) trivial (λ_=>trivial) trivial λq b2=>?_
        refine oL 3 i13p26 [(0,.ptr 0 4 0),(2,.ptr 1 7 0),(5,.str q.1)] ?_
        let a6:Env:=[(0,.ptr 0 4 0),(2,.ptr 1 7 0),(5,.str q.1)]
        refine oR 2 (atN 1 (ctl1 i13p26)) ((54,.ptr 0 4 0)::a6) ?_
        refine oX (λ(O:Int) => .tuple []) (λO=>[⟨[.str a0,w34 n,.i O,.i o],4,false⟩,M,⟨e34 g,3,false⟩]) (atN 2 (ctl1 i13p26)) 55 [0] [] [] [0] [] [.ptr 0 4 0,.str [123]] (qAw k ([123]:LN) a0 n q.2 o) trivial (λ_=>trivial) trivial λO b3=>?_
        refine oR 8 (atN 5 (ctl1 i13p27)) ((60,.func 78 [.ptr 0 4 0] [])::(59,.ptr 0 4 0)::(58,.agg [.i 10,.str q.1,.nils,.bool false,.bool false,.nils,.nils])::(57,.str q.1)::(56,.ptr 0 4 0)::(55,.tuple [])::(54,.ptr 0 4 0)::a6) ?_
        refine oXW 1 [⟨[.str a0,w34 n,.i O,.i o],4,false⟩,M,⟨e34 g,3,false⟩,⟨(([]:List S28)).flatMap e29,0,false⟩] (λ(c:Ri18) => .agg [.i c.1,.str c.2.1,.own 3 (c.2.2.2.2.2.2.2).length 7,.bool c.2.2.1,.bool c.2.2.2.1,w9 c.2.2.2.2.1,w9 c.2.2.2.2.2.1]) (λc=>[⟨[.str a0,w34 n,.i c.2.2.2.2.2.2.1,.i o],4,false⟩,M,⟨e34 g,3,false⟩,⟨(c.2.2.2.2.2.2.2).flatMap e29,0,false⟩]) (atN 6 (ctl1 i13p27)) 61 [0,3] [0,1] [0,1] [0,3] [] [0,0,0,1] [.ptr 0 4 0,.agg [.i 10,.str q.1,.nils,.bool false,.bool false,.nils,.nils],.str [125],.func 78 [.ptr 0 4 0] []] [.ptr 0 4 0,.agg [.i 10,.str q.1,.own 3 (([]:List S28)).length 7,.bool false,.bool false,w9 ([]:LL),w9 ([]:LL)],.str [125],.func 78 [.ptr 0 4 0] []] (.cons (.agg (.cons (.cons (.none (.cons (.cons (.nil (.nil (.refl)))))))) (.refl))) (Z.i18_ok (10:Int) q.1 false false ([]:LL) ([]:LL) ([125]:LN) a0 n O o ([]:List S28)) ⟨u29 _,trivial⟩ (λ_=>⟨u29 _,trivial⟩) trivial λc b4=>?_
        exact oQF 4 [⟨[.str a0,w34 n,.i c.2.2.2.2.2.2.1,.i o],4,false⟩,⟨[.i c.1,.str c.2.1,.own 3 (c.2.2.2.2.2.2.2).length 7,.bool c.2.2.1,.bool c.2.2.2.1,w9 c.2.2.2.2.1,w9 c.2.2.2.2.2.1],7,false⟩,⟨e34 g,3,false⟩,⟨(c.2.2.2.2.2.2.2).flatMap e29,0,false⟩] 1 [] [.agg [.i c.1,.str c.2.1,.own 3 (c.2.2.2.2.2.2.2).length 7,.bool c.2.2.1,.bool c.2.2.2.1,w9 c.2.2.2.2.1,w9 c.2.2.2.2.2.1],.bool false] (.tuple [.agg [.i c.1,.str c.2.1,w29 c.2.2.2.2.2.2.2,.bool c.2.2.1,.bool c.2.2.2.1,w9 c.2.2.2.2.1,w9 c.2.2.2.2.2.1],.bool false]) (.tuple (.agg (.cs (.cs (qAr qA6 qAh rfl rfl rfl .ps))) .ps) .ps) trivial
      ·refine oR 5 (atN 1 (ctl1 i13p22)) ((62,.ptr 0 4 0)::(42,.bool false)::Y) ?_
       refine oX (λ(E:(S28×Int))=>n29 E.1) (λE=>[⟨[.str a0,w34 n,.i E.2,.i o],4,false⟩,M,⟨e34 g,3,false⟩]) (atN 2 (ctl1 i13p22)) 63 [0] [] [] [0] [] [.ptr 0 4 0] (Z.i24_ok a0 n D.2 o) trivial (λ_=>trivial) trivial λE b5=>?_
       exact oQF 4 [⟨[.str a0,w34 n,.i E.2,.i o],4,false⟩,⟨e29 E.1,7,false⟩,⟨e34 g,3,false⟩] 1 [] [n29 E.1,.bool false] (.tuple [n29 E.1,.bool false]) .ps trivial
theorem i13B_ok (k:Nat) (F:Fns0) (a:FnsOk0 F):Pi13 (i13B k F):=λa0 b c g=>⟨λx h=>qN k F a a0 b c g (some x) h,λh=>⟨_,qN k F a a0 b c g none h⟩⟩
def i14p1:Pt:=nav [0,0,0,0,0,0,0] (nav [0] (bodyAt Try.f67))
def i14p2:Pt:=nav [0,0] i14p1
def i14p4:Pt:=nav [2,0,0,0,0] i14p2
def i14p6:Pt:=nav [0,0] i14p4
def i14p7:Pt:=nav [1] i14p6
def i14p8:Pt:=nav [2,0] i14p6
def i14p9:Pt:=nav [0,0,0] i14p7
def i14p10:Pt:=nav [0,0] i14p8
def i14p11:Pt:=nav [1] i14p10
def i14p12:Pt:=nav [2,0] i14p10
def i14p13:Pt:=nav [0,0] i14p12
def i14p14:Pt:=nav [1] i14p13
def i14d0:DP:=⟨[45],[(0,0,1),(0,0,0),(2,0,0),(7,0,0),(15,0,0),(31,0,0)],6,thrown,[],H0⟩
def qG4 (k:Nat) (F:Fns0)  (D:LN) (E:List S33) (O:Int) (I:Int) (ih:Bool→Int→S28→Option (Option (S28×Int))):Bool→Int→S28→Option (Option (S28×Int)) :=
 λ(j:Bool) (x:Int) (n:S28)=>jn (λ(h:Bool×Bool×Int×S28)=>if h.1 then (some (some (h.2.2.2,h.2.2.1))) else (bT (i7 k ([40]:LN) D E h.2.2.1 I) λc=>jn (λ(M:Int×S28)=>ih false M.1 M.2) (λK=>if c.1 then (bT (F.i18 (2:Int) ([]:LN) false false ([]:LL) ([]:LL) ([41]:LN) D E c.2 I ([h.2.2.2]:List S28)) λa=>K (a.2.2.2.2.2.2.1,(⟨a.1,a.2.1,(⟨(a.2.2.2.2.2.2.2).length,(a.2.2.2.2.2.2.2).flatMap e29⟩:Raw),a.2.2.1,a.2.2.2.1,a.2.2.2.2.1,a.2.2.2.2.2.1⟩:S28))) else (jn (λ(g:Bool×Int×S28)=>if g.1 then (bT (F.i25 D E g.2.1 I) λo=>K (o.2,(⟨3,([]:LN),(⟨(([g.2.2,o.1]:List S28)).length,(([g.2.2,o.1]:List S28)).flatMap e29⟩:Raw),false,false,([]:LL),([]:LL)⟩:S28))) else (bT (i7 k ([35]:LN) D E g.2.1 I) λq=>if q.1 then (bT (F.i26 g.2.2 D E q.2 I) λz=>K (z.2,z.1)) else (some (some (g.2.2,q.2))))) (λu=>if (!decide (h.2.2.2.f0=3)) then (if h.2.1 then (bT (i7 k ([58]:LN) D E c.2 I) λb=>u (b.1,b.2,h.2.2.2)) else (if (decide (h.2.2.2.f0=1)) then (bT (i7 k ([58]:LN) D E c.2 I) λb=>u (b.1,b.2,h.2.2.2)) else (u (false,c.2,h.2.2.2)))) else (u (false,c.2,h.2.2.2))))))) (λN=>if (!j) then ((g85 k n).bind λJ=>N (!J,j,x,n)) else (N (false,j,x,n)))
def qJo (k:Nat) (F:Fns0)  (a:LN) (b:List S33) (c:Int) (g:Int) (n:Nat):Bool→Int→S28→Option (Option (S28×Int)):=lp (λ_ _ _=>none) (qG4 k F a b c g) n
theorem qRa (k:Nat) (F:Fns0) (hF:FnsOk0 F) (a0:S28) (a1:Bool) (z:LN) (E:List S33) (a4:Int) (I:Int)    : ∀ (n:Nat) (x:Bool) (K:Int) (j:S28),Ok (Xi14 a0 a1 z E a4 I) i14p1 [(0,.ptr 0 4 0),(2,.bool x),(4,.ptr 1 7 0),(6,.ptr 2 7 0)] (mkH [⟨[.str z,w34 E,.i K,.i I],4,false⟩,⟨[.i j.f0,.str j.f1,q29 j.f2,.bool j.f3,.bool j.f4,w9 j.f5,w9 j.f6],7,false⟩,⟨[.i 0,.str [],.nils,.bool false,.bool false,.nils,.nils],0,false⟩]) (qJo k F z E a4 I n x K j):=by
 intro n
 induction n with
 | zero=>intro x K j; exact ok_none
 | succ n ih =>
  intro x K j
  show Ok _ _ _ _ (qG4 k F z E a4 I (qJo k F z E a4 I n) x K j)
  unfold qG4
  let E2:Env:=[(9,.bool (!x)),(8,.bool (!x)),(7,.bool x),(0,.ptr 0 4 0),(2,.bool x),(4,.ptr 1 7 0),(6,.ptr 2 7 0)]
  let Q1:Blk:=⟨[.str z,w34 E,.i K,.i I],4,false⟩
  let u:Blk:=⟨[.i 0,.str [],.nils,.bool false,.bool false,.nils,.nils],0,false⟩
  refine oH 4 (atN 3 (ctl1 i14p1)) E2 (mkH [Q1,⟨e29 j,7,false⟩,u]) ?_
  refine oJ i14p2 (λ(o:Bool×Bool×Int×S28)=>[(0,.ptr 0 4 0),(2,.bool o.2.1),(4,.ptr 1 7 0),(6,.ptr 2 7 0),(13,.bool o.1)]) (λ(o:Bool×Bool×Int×S28)=>(mkH [⟨[.str z,w34 E,.i o.2.2.1,.i I],4,false⟩,⟨e29 o.2.2.2,7,false⟩,u])) (λo=>?_) (λj8 b2=>?_)
  ·refine oS 13 (λT=>?_) (λT=>?_)
   ·exact oQF 7 [⟨[.str z,w34 E,.i o.2.2.1,.i I],4,false⟩,⟨e29 o.2.2.2,7,false⟩,⟨e29 o.2.2.2,7,false⟩] 1 [] [n29 o.2.2.2] (n29 o.2.2.2) .ps trivial
   ·let E4:Env:=[(17,.ptr 0 4 0),(13,.bool false),(0,.ptr 0 4 0),(2,.bool o.2.1),(4,.ptr 1 7 0),(6,.ptr 2 7 0),(13,.bool o.1)]
    refine oH 7 (atN 1 (ctl1 i14p4)) E4 (mkH [⟨[.str z,w34 E,.i o.2.2.1,.i I],4,false⟩,⟨e29 o.2.2.2,7,false⟩,u]) ?_
    refine oX (λ(q:(Bool×Int)) => .bool q.1) (λq=>[⟨[.str z,w34 E,.i q.2,.i I],4,false⟩,⟨e29 o.2.2.2,7,false⟩,u]) (atN 2 (ctl1 i14p4)) 18 [0] [] [] [] [] [.ptr 0 4 0,.str [40]] (qAj k ([40]:LN) z E o.2.2.1 I) trivial (λ_=>trivial) trivial λq b9=>?_
    refine oR 2 i14p6 ((16,.bool q.1)::(18,.bool q.1)::E4) ?_
    refine oJ i14p9 (λ(z9:Int×S28)=>[(0,.ptr 0 4 0),(4,.ptr 1 7 0),(6,.ptr 2 7 0)]) (λ(z9:Int×S28)=>(mkH [⟨[.str z,w34 E,.i z9.1,.i I],4,false⟩,⟨e29 z9.2,7,false⟩,u])) (λz9=>?_) (λj9 a8=>?_)
    ·refine oLH 8 i14p1 [(0,.ptr 0 4 0),(2,.bool false),(4,.ptr 1 7 0),(6,.ptr 2 7 0)] (mkH [⟨[.str z,w34 E,.i z9.1,.i I],4,false⟩,⟨e29 z9.2,7,false⟩,u]) ?_
     exact ih false z9.1 z9.2
    ·refine oS 16 (λT=>?_) (λT=>?_)
     ·let E6:Env:=((21,.slice 3 7 0 1 7)::(20,n29 o.2.2.2)::(19,.ptr 0 4 0)::(16,.bool true)::(16,.bool q.1)::(18,.bool q.1)::E4)
      let Q3:Blk:=⟨[.str z,w34 E,.i q.2,.i I],4,false⟩
      refine oH 5 (atN 3 (ctl1 i14p7)) E6 (mkH [Q3,⟨e29 o.2.2.2,7,false⟩,u,⟨e29 o.2.2.2,0,false⟩]) ?_
      refine qCo 21 3 7 1 7 Kr rfl ?_
      let Q4:Blk:=⟨(([o.2.2.2]:List S28)).flatMap e29,0,false⟩
      refine oH 3 (atN 6 (ctl1 i14p7)) ((24,.func 78 [.ptr 0 4 0] [])::(23,.ptr 0 4 0)::(22,.agg [.i 2,.str [],.own 3 (([o.2.2.2]:List S28)).length 7,.bool false,.bool false,.nils,.nils])::(21,.own 3 (([o.2.2.2]:List S28)).length 7)::E6) (mkH [Q3,⟨e29 o.2.2.2,7,false⟩,u,Q4]) ?_
      refine oXW 0 [Q3,⟨e29 o.2.2.2,7,false⟩,u,Q4] (λ(a:Ri18) => .agg [.i a.1,.str a.2.1,.own 3 (a.2.2.2.2.2.2.2).length 7,.bool a.2.2.1,.bool a.2.2.2.1,w9 a.2.2.2.2.1,w9 a.2.2.2.2.2.1]) (λa=>[⟨[.str z,w34 E,.i a.2.2.2.2.2.2.1,.i I],4,false⟩,⟨e29 o.2.2.2,7,false⟩,u,⟨(a.2.2.2.2.2.2.2).flatMap e29,0,false⟩]) (atN 7 (ctl1 i14p7)) 25 [0,3] [0,1] [0,1] [0,3] [] [0,0,0,1] [.ptr 0 4 0,.agg [.i 2,.str [],.own 3 (([o.2.2.2]:List S28)).length 7,.bool false,.bool false,.nils,.nils],.str [41],.func 78 [.ptr 0 4 0] []] [.ptr 0 4 0,.agg [.i 2,.str [],.own 3 (([o.2.2.2]:List S28)).length 7,.bool false,.bool false,w9 ([]:LL),w9 ([]:LL)],.str [41],.func 78 [.ptr 0 4 0] []] (.cons (.agg (.cons (.cons (.cons (.cons (.cons (.nil (.nil (.refl)))))))) (.refl))) (hF.i18_ok (2:Int) ([]:LN) false false ([]:LL) ([]:LL) ([41]:LN) z E q.2 I ([o.2.2.2]:List S28)) ⟨u29 _,trivial⟩ (λ_=>⟨u29 _,trivial⟩) trivial λa c2=>?_
      let Q5:Blk:=⟨[.str z,w34 E,.i a.2.2.2.2.2.2.1,.i I],4,false⟩
      let Q6:Blk:=⟨[.i a.1,.str a.2.1,.own 3 (a.2.2.2.2.2.2.2).length 7,.bool a.2.2.1,.bool a.2.2.2.1,w9 a.2.2.2.2.1,w9 a.2.2.2.2.2.1],7,false⟩
      let Q7:Blk:=⟨(a.2.2.2.2.2.2.2).flatMap e29,0,false⟩
      refine oH 3 i14p9 ((25,.agg [.i a.1,.str a.2.1,.own 3 (a.2.2.2.2.2.2.2).length 7,.bool a.2.2.1,.bool a.2.2.2.1,w9 a.2.2.2.2.1,w9 a.2.2.2.2.2.1])::(24,.func 78 [.ptr 0 4 0] [])::(23,.ptr 0 4 0)::(22,.agg [.i 2,.str [],.own 3 (([o.2.2.2]:List S28)).length 7,.bool false,.bool false,.nils,.nils])::(21,.own 3 (([o.2.2.2]:List S28)).length 7)::E6) (mkH [Q5,Q6,u,Q7]) ?_
      let Q8:Blk:=⟨[.i a.1,.str a.2.1,w29 a.2.2.2.2.2.2.2,.bool a.2.2.1,.bool a.2.2.2.1,w9 a.2.2.2.2.1,w9 a.2.2.2.2.2.1],7,false⟩
      refine qQ3 [Q5,Q6,u,Q7] [Q5,Q8,u,⟨[],0,false⟩] 3 (a.2.2.2.2.2.2.2).length 7 0 ((a.2.2.2.2.2.2.2).flatMap e29) [0,4,6] (env0:=[(0,.ptr 0 4 0),(4,.ptr 1 7 0),(6,.ptr 2 7 0)]) (eE:=[(0,.ptr 0 4 0),(4,.ptr 1 7 0),(6,.ptr 2 7 0)]) Kr rfl rfl (qB1 qA6 _) (Nat.zero_le _) (u29 _) Kr ⟨⟨rfl,.refl Kr⟩,⟨⟨rfl,.refl Kr⟩,⟨⟨rfl,.refl Kr⟩,trivial⟩⟩⟩ ⟨.inr ⟨rfl,rfl,rfl,.refl Kr⟩,⟨.inr ⟨rfl,rfl,rfl,.cons Kr (.cons Kr (.own (.refl Kr)))⟩,⟨.inr ⟨rfl,rfl,rfl,.refl Kr⟩,⟨.inl ⟨rfl,rfl⟩,trivial⟩⟩⟩⟩ ?_
      refine qAf [Q5,Q8,u] [⟨[],0,false⟩] Kr rfl Kr ⟨Kr,⟨Kr,⟨Kr,trivial⟩⟩⟩ ?_
      exact a8 (a.2.2.2.2.2.2.1,(⟨a.1,a.2.1,(⟨(a.2.2.2.2.2.2.2).length,(a.2.2.2.2.2.2.2).flatMap e29⟩:Raw),a.2.2.1,a.2.2.2.1,a.2.2.2.2.1,a.2.2.2.2.2.1⟩:S28))
     ·let E8:Env:=((30,.bool (!decide (o.2.2.2.f0=3)))::(29,.bool (!decide (o.2.2.2.f0=3)))::(28,.i o.2.2.2.f0)::(27,.ptr 1 7 0)::(16,.bool false)::(16,.bool q.1)::(18,.bool q.1)::E4)
      let Q9:Blk:=⟨[.str z,w34 E,.i q.2,.i I],4,false⟩
      refine oH 7 (atN 4 (ctl1 i14p8)) E8 (mkH [Q9,⟨e29 o.2.2.2,7,false⟩,u]) ?_
      refine oJ i14p10 (λ(b:Bool×Int×S28)=>[(0,.ptr 0 4 0),(4,.ptr 1 7 0),(6,.ptr 2 7 0),(26,.bool b.1)]) (λ(b:Bool×Int×S28)=>(mkH [⟨[.str z,w34 E,.i b.2.1,.i I],4,false⟩,⟨e29 b.2.2,7,false⟩,u])) (λb=>?_) (λd5 U=>?_)
      ·refine oS 26 (λT=>?_) (λT=>?_)
       ·let Q:Blk:=⟨[.str z,w34 E,.i b.2.1,.i I],4,false⟩
        refine oH 1 i14p11 [(26,.bool true),(0,.ptr 0 4 0),(4,.ptr 1 7 0),(6,.ptr 2 7 0),(26,.bool b.1)] (mkH [Q,⟨e29 b.2.2,7,false⟩,u]) ?_
        refine qCp (λh=>?_) (λg a9=>?_)
        ·let O:Env:=[(43,.ptr 0 4 0),(42,n29 b.2.2),(26,.bool true),(0,.ptr 0 4 0),(4,.ptr 1 7 0),(6,.ptr 2 7 0),(26,.bool b.1)]
         exact qAo (eE:=((46,.top)::(45,.top)::(44,.top)::O)) (i14d0.th 2 thrown [0] (mkH [Q,⟨e29 b.2.2,7,false⟩,u])) (hs:=[(mkH [Q,⟨e29 b.2.2,7,false⟩,u]),(mkH [Q,⟨e29 b.2.2,7,false⟩,u])]) (LX:=[⟨[.str z,w34 E,.i a4,.i I],4,false⟩]) (L:=[Q,⟨e29 b.2.2,7,false⟩,u]) rfl rfl rfl Kr rfl ⟨.inl rfl,trivial⟩ Kr Kr Kr Kr (qA7 2 (l':=(opsAt i14p11).toList.drop 2) (eE:=O) (H':=(mkH [Q,⟨e29 b.2.2,7,false⟩,u])) (hs:=[]) Kr (qAn (l':=(opsAt i14p11).toList.drop 3) (eE:=((44,.top)::O)) (hs:=[(mkH [Q,⟨e29 b.2.2,7,false⟩,u])]) (fi:=86) (args:=[.ptr 0 4 0]) Kr Kr (frS 0 (M:=[Q,⟨e29 b.2.2,7,false⟩,u]) (rs:=[0]) (ms:=[]) (mv:=[]) (mm:=[]) (D:=[0]) (xs':=[.ptr 0 4 0]) (.refl) ((hF.i25_ok z E b.2.1 I).2 h) trivial trivial Kr) Kr (qA1 (l':=(opsAt i14p11).toList.drop 4) (eE:=((45,.top)::(44,.top)::O)) (hs:=[]) Kr Kr (qA1 (l':=(opsAt i14p11).toList.drop 5) (eE:=((46,.top)::(45,.top)::(44,.top)::O)) (hs:=[]) Kr Kr (qA1 (l':=(opsAt i14p11).toList.drop 6) (eE:=((46,.top)::(45,.top)::(44,.top)::O)) (hs:=[(mkH [Q,⟨e29 b.2.2,7,false⟩,u])]) Kr Kr (.nil)))))) Kr Kr
        ·let O:Env:=[(43,.ptr 0 4 0),(42,n29 b.2.2),(26,.bool true),(0,.ptr 0 4 0),(4,.ptr 1 7 0),(6,.ptr 2 7 0),(26,.bool b.1)]
         let S:Blk:=⟨[.str z,w34 E,.i g.2,.i I],4,false⟩
         let Z:Blk:=⟨[.i 3,.str [],w29 ([b.2.2,g.1]:List S28),.bool false,.bool false,.nils,.nils],7,false⟩
         refine oD (H':=(mkH [S,Z,u])) (nav [0] i14p11) ((46,.agg [.i 3,.str [],w29 ([b.2.2,g.1]:List S28),.bool false,.bool false,.nils,.nils])::(45,w29 ([b.2.2,g.1]:List S28))::(44,n29 g.1)::O) [(mkH [S,⟨e29 b.2.2,7,false⟩,u]),(mkH [S,Z,u])] i14d0 (oDr 2 2 O (qA5 (l':=(opsAt i14p11).toList.drop 3) (eE:=((44,n29 g.1)::O)) (hs:=[(mkH [S,⟨e29 b.2.2,7,false⟩,u])]) (H':=(mkH [S,⟨e29 b.2.2,7,false⟩,u])) (fi:=86) (args:=[.ptr 0 4 0]) (v:=n29 g.1) Kr (frC (rs:=[0]) (ms:=[]) (ms':=[]) ((hF.i25_ok z E b.2.1 I).1 g a9) trivial trivial Kr) Kr (oDh 3 6 ((46,.agg [.i 3,.str [],w29 ([b.2.2,g.1]:List S28),.bool false,.bool false,.nils,.nils])::(45,w29 ([b.2.2,g.1]:List S28))::(44,n29 g.1)::O) (mkH [S,Z,u]) [(mkH [S,Z,u])] .nil))) ?_
         refine oR 1 i14p9 ((46,.agg [.i 3,.str [],w29 ([b.2.2,g.1]:List S28),.bool false,.bool false,.nils,.nils])::(45,w29 ([b.2.2,g.1]:List S28))::(44,n29 g.1)::O) ?_
         refine qDv [S,Z,u] 1 7 [.i 3,.str [],w29 ([b.2.2,g.1]:List S28),.bool false,.bool false,.nils,.nils] [.i 3,.str [],w29 ([b.2.2,g.1]:List S28),.bool false,.bool false,w9 ([]:LL),w9 ([]:LL)] Kr rfl (.cons (.cons (.cons (.cons (.cons (.nil (.nil (.refl)))))))) ?_
         refine oHp (mkH [S,⟨[.i 3,.str [],w29 ([b.2.2,g.1]:List S28),.bool false,.bool false,w9 ([]:LL),w9 ([]:LL)],7,false⟩,u]) ?_
         refine oK [0,4,6] [(0,.ptr 0 4 0),(4,.ptr 1 7 0),(6,.ptr 2 7 0)] ?_
         exact a8 (g.2,(⟨3,([]:LN),(⟨(([b.2.2,g.1]:List S28)).length,(([b.2.2,g.1]:List S28)).flatMap e29⟩:Raw),false,false,([]:LL),([]:LL)⟩:S28))
       ·let b0:Env:=[(48,.ptr 0 4 0),(26,.bool false),(0,.ptr 0 4 0),(4,.ptr 1 7 0),(6,.ptr 2 7 0),(26,.bool b.1)]
        refine oH 4 (atN 1 (ctl1 i14p12)) b0 (mkH [⟨[.str z,w34 E,.i b.2.1,.i I],4,false⟩,⟨e29 b.2.2,7,false⟩,u]) ?_
        refine oX (λ(J:(Bool×Int)) => .bool J.1) (λJ=>[⟨[.str z,w34 E,.i J.2,.i I],4,false⟩,⟨e29 b.2.2,7,false⟩,u]) (atN 2 (ctl1 i14p12)) 49 [0] [] [] [] [] [.ptr 0 4 0,.str [35]] (qAj k ([35]:LN) z E b.2.1 I) trivial (λ_=>trivial) trivial λJ c4=>?_
        refine oR 2 i14p13 ((47,.bool J.1)::(49,.bool J.1)::b0) ?_
        refine oS 47 (λT=>?_) (λT=>?_)
        ·refine oR 4 (atN 2 (ctl1 i14p14)) ((51,n29 b.2.2)::(50,.ptr 0 4 0)::(47,.bool true)::(47,.bool J.1)::(49,.bool J.1)::b0) ?_
         refine oX (λ(N:(S28×Int))=>n29 N.1) (λN=>[⟨[.str z,w34 E,.i N.2,.i I],4,false⟩,⟨e29 b.2.2,7,false⟩,u]) (atN 3 (ctl1 i14p14)) 52 [0] [] [] [0] [] [.ptr 0 4 0,n29 b.2.2] (hF.i26_ok b.2.2 z E J.2 I) trivial (λ_=>trivial) trivial λN c5=>?_
         refine oLH 3 i14p9 [(0,.ptr 0 4 0),(4,.ptr 1 7 0),(6,.ptr 2 7 0)] (mkH [⟨[.str z,w34 E,.i N.2,.i I],4,false⟩,⟨e29 N.1,7,false⟩,u]) ?_
         exact a8 (N.2,N.1)
        ·exact oQF 7 [⟨[.str z,w34 E,.i J.2,.i I],4,false⟩,⟨e29 b.2.2,7,false⟩,⟨e29 b.2.2,7,false⟩] 1 [] [n29 b.2.2] (n29 b.2.2) .ps trivial
      ·refine oS 30 (λT=>?_) (λT=>?_)
       ·refine oH 2 (atN 6 (ctl1 i14p8)) ((32,.bool o.2.1)::(31,.bool o.2.1)::(30,.bool true)::E8) (mkH [Q9,⟨e29 o.2.2.2,7,false⟩,u]) ?_
        refine oS 32 (λT=>?_) (λT=>?_)
        ·refine oR 7 (atN 13 (ctl1 i14p8)) ((39,.ptr 0 4 0)::(38,.bool true)::(37,.bool true)::(36,.bool true)::(35,.tuple [])::(34,.tuple [])::(33,.tuple [])::(32,.bool true)::(32,.bool o.2.1)::(31,.bool o.2.1)::(30,.bool true)::E8) ?_
         refine oX (λ(c:(Bool×Int)) => .bool c.1) (λc=>[⟨[.str z,w34 E,.i c.2,.i I],4,false⟩,⟨e29 o.2.2.2,7,false⟩,u]) (atN 14 (ctl1 i14p8)) 40 [0] [] [] [] [] [.ptr 0 4 0,.str [58]] (qAj k ([58]:LN) z E q.2 I) trivial (λ_=>trivial) trivial λc a6=>?_
         refine oL 3 i14p10 [(0,.ptr 0 4 0),(4,.ptr 1 7 0),(6,.ptr 2 7 0),(26,.bool c.1)] ?_
         exact U (c.1,c.2,o.2.2.2)
        ·let b3:Env:=((38,.bool (decide (o.2.2.2.f0=1)))::(37,.bool (decide (o.2.2.2.f0=1)))::(36,.bool (decide (o.2.2.2.f0=1)))::(35,.bool (decide (o.2.2.2.f0=1)))::(34,.i o.2.2.2.f0)::(33,.ptr 1 7 0)::(32,.bool false)::(32,.bool o.2.1)::(31,.bool o.2.1)::(30,.bool true)::E8)
         refine oR 6 (atN 12 (ctl1 i14p8)) b3 ?_
         refine oS 38 (λT=>?_) (λT=>?_)
         ·refine oR 1 (atN 13 (ctl1 i14p8)) ((39,.ptr 0 4 0)::(38,.bool true)::b3) ?_
          refine oX (λ(c:(Bool×Int)) => .bool c.1) (λc=>[⟨[.str z,w34 E,.i c.2,.i I],4,false⟩,⟨e29 o.2.2.2,7,false⟩,u]) (atN 14 (ctl1 i14p8)) 40 [0] [] [] [] [] [.ptr 0 4 0,.str [58]] (qAj k ([58]:LN) z E q.2 I) trivial (λ_=>trivial) trivial λc a6=>?_
          refine oL 3 i14p10 [(0,.ptr 0 4 0),(4,.ptr 1 7 0),(6,.ptr 2 7 0),(26,.bool c.1)] ?_
          exact U (c.1,c.2,o.2.2.2)
         ·refine oL 5 i14p10 [(0,.ptr 0 4 0),(4,.ptr 1 7 0),(6,.ptr 2 7 0),(26,.bool false)] ?_
          exact U (false,q.2,o.2.2.2)
       ·refine oLH 13 i14p10 [(0,.ptr 0 4 0),(4,.ptr 1 7 0),(6,.ptr 2 7 0),(26,.bool false)] (mkH [Q9,⟨e29 o.2.2.2,7,false⟩,u]) ?_
        exact U (false,q.2,o.2.2.2)
  ·refine oS 9 (λT=>?_) (λT=>?_)
   ·refine oH 1 (atN 4 (ctl1 i14p1)) ((10,n29 j)::(9,.bool true)::E2) (mkH [Q1,⟨e29 j,7,false⟩,u]) ?_
    refine oA (λ(Y:Bool) => .bool Y) (atN 5 (ctl1 i14p1)) 11 [n29 j] (g85_ok k j) λY c6=>?_
    refine oL 3 i14p2 [(0,.ptr 0 4 0),(2,.bool x),(4,.ptr 1 7 0),(6,.ptr 2 7 0),(13,.bool (!Y))] ?_
    exact b2 (!Y,x,K,j)
   ·refine oLH 5 i14p2 [(0,.ptr 0 4 0),(2,.bool x),(4,.ptr 1 7 0),(6,.ptr 2 7 0),(13,.bool false)] (mkH [Q1,⟨e29 j,7,false⟩,u]) ?_
    exact b2 (false,x,K,j)
def i14B (k:Nat) (F:Fns0) (a0:S28) (b:Bool) (c:LN) (g:List S33) (a:Int) (h:Int):Option (Option (S28×Int)) :=
 qJo k F c g a h k b a a0
theorem qMz (k:Nat) (F:Fns0) (q:FnsOk0 F):∀ a0 a c g b j r,i14B k F a0 a c g b j=some r→CallT Try.prog 67 [.ptr 0 4 0,.agg [.i a0.f0,.str a0.f1,q29 a0.f2,.bool a0.f3,.bool a0.f4,w9 a0.f5,w9 a0.f6],.bool a] (mkH [⟨[.str c,w34 g,.i b,.i j],4,false⟩]) ((Xi14 a0 a c g b j).thr r) ((Xi14 a0 a c g b j).enc r) ((Xi14 a0 a c g b j).fin r):=by
 intro a0 a c g b j r h
 refine qA2 (Xi14 a0 a c g b j) Try.func67 Kr Kr rfl (t:=i14B k F a0 a c g b j) ?_ h
 unfold i14B
 refine qA (eE:=[(0,.ptr 0 4 0),(1,.agg [.i a0.f0,.str a0.f1,q29 a0.f2,.bool a0.f3,.bool a0.f4,w9 a0.f5,w9 a0.f6]),(2,.bool a)]) Kr ?_
 let n:Blk:=⟨[.str c,w34 g,.i b,.i j],4,false⟩
 let o:Blk:=⟨[.i 0,.str [],.nils,.bool false,.bool false,.nils,.nils],0,false⟩
 refine oLH 10 i14p1 [(0,.ptr 0 4 0),(2,.bool a),(4,.ptr 1 7 0),(6,.ptr 2 7 0)] (mkH [n,⟨e29 a0,0,false⟩,o]) ?_
 refine qQ2 [n,⟨e29 a0,0,false⟩,o] 1 [.i a0.f0,.str a0.f1,q29 a0.f2,.bool a0.f3,.bool a0.f4,w9 a0.f5,w9 a0.f6] 0 7 rfl rfl (by decide) ?_
 refine oHp (mkH [n,⟨e29 a0,7,false⟩,o]) ?_
 exact (qRa k F q a0 a c g b j k) a b a0
theorem i14B_ok (k:Nat) (F:Fns0) (a:FnsOk0 F):Pi14 (i14B k F):=λa0 b c g j n=>⟨λx h=>qMz k F a a0 b c g j n (some x) h,λh=>⟨_,qMz k F a a0 b c g j n none h⟩⟩
def i17p1:Pt:=nav [0,0,0] (nav [0] (bodyAt Try.f76))
def i17p2:Pt:=nav [0,0,0] i17p1
def i17B (k:Nat) (F:Fns0) (a0:LN) (c:List S33) (h:Int) (g:Int):Option (Option (S28×Int)) :=
 bT (F.i5 (0:Int) a0 c h g) λa=>bT (i23 k ([41]:LN) a0 c a.2 g) λb=>some (some (a.1,b))
theorem qMy (k:Nat) (F:Fns0) (u:FnsOk0 F):∀ a0 b j c r,i17B k F a0 b j c=some r→CallT Try.prog 76 [.ptr 0 4 0] (mkH [⟨[.str a0,w34 b,.i j,.i c],4,false⟩]) ((Xi17 a0 b j c).thr r) ((Xi17 a0 b j c).enc r) ((Xi17 a0 b j c).fin r):=by
 intro a0 b j c r h
 refine qA2 (Xi17 a0 b j c) Try.func76 Kr Kr rfl (t:=i17B k F a0 b j c) ?_ h
 unfold i17B
 refine qA (eE:=[(0,.ptr 0 4 0)]) Kr ?_
 let n:Blk:=⟨[.i 0,.str [],.nils,.bool false,.bool false,.nils,.nils],0,false⟩
 refine oH 7 (atN 1 (ctl1 i17p1)) [(4,.ptr 0 4 0),(2,.ptr 1 7 0),(0,.ptr 0 4 0)] (mkH [⟨[.str a0,w34 b,.i j,.i c],4,false⟩,n]) ?_
 refine oX (λ(a:(S28×Int))=>n29 a.1) (λa=>[⟨[.str a0,w34 b,.i a.2,.i c],4,false⟩,n]) (atN 2 (ctl1 i17p1)) 5 [0] [] [] [0] [] [.ptr 0 4 0,.i 0] (u.i5_ok (0:Int) a0 b j c) trivial (λ_=>trivial) trivial λa o=>?_
 refine oH 6 (atN 1 (ctl1 i17p2)) [(6,.ptr 0 4 0),(3,.ptr 2 7 0),(5,n29 a.1),(4,.ptr 0 4 0),(2,.ptr 1 7 0),(0,.ptr 0 4 0)] (mkH [⟨[.str a0,w34 b,.i a.2,.i c],4,false⟩,n,⟨e29 a.1,7,false⟩]) ?_
 refine oX (λ(g:Int) => .tuple []) (λg=>[⟨[.str a0,w34 b,.i g,.i c],4,false⟩,n,⟨e29 a.1,7,false⟩]) (atN 2 (ctl1 i17p2)) 7 [0] [] [] [0] [] [.ptr 0 4 0,.str [41]] (qAw k ([41]:LN) a0 b a.2 c) trivial (λ_=>trivial) trivial λg q=>?_
 exact oQF 7 [⟨[.str a0,w34 b,.i g,.i c],4,false⟩,⟨e29 a.1,7,false⟩,⟨e29 a.1,7,false⟩] 1 [] [n29 a.1] (n29 a.1) .ps trivial
theorem i17B_ok (k:Nat) (F:Fns0) (a:FnsOk0 F):Pi17 (i17B k F):=λa0 b c g=>⟨λx h=>qMy k F a a0 b c g (some x) h,λh=>⟨_,qMy k F a a0 b c g none h⟩⟩
def i18p1:Pt:=nav [0,0,0,0] (nav [0] (bodyAt Try.f77))
def i18p2:Pt:=nav [0,0,0] i18p1
def i18p3:Pt:=nav [0,0,0,0] i18p2
def i18p4:Pt:=nav [0,0] i18p3
def i18p6:Pt:=nav [2,0,0,0,0] i18p4
def i18p10:Pt:=nav [0,0,0] (nav [0,0,0] i18p6)
def i18p11:Pt:=nav [0,0,0,0] i18p10
def i18p12:Pt:=nav [0,0,0] i18p11
def i18p13:Pt:=nav [0,0] i18p12
def i18p15:Pt:=nav [2,0,0] i18p13
def i18p17:Pt:=nav [0,0,0] i18p15
def i18p18:Pt:=nav [0,0,0] i18p17
def qE1 (k:Nat) (F:Fns0)  (a0:Int) (I:LN) (J:Bool) (K:LL) (N:LL) (M:LN) (u:LN) (x:List S33) (b:Int) (z:Bool) (ih:LL→Int→(List S28)→Option (Option Ri18)):LL→Int→(List S28)→Option (Option Ri18) :=
 λ(n:LL) (o:Int) (q:List S28)=>bT (F.i29 u x o b) λa=>(appS 104 q ([(⟨a.1.f0,a.1.f1,a.1.f2,a.1.f3,a.1.f4,n,a.1.f6⟩:S28)]:List S28)).bind λh=>(i12 k u x a.2 b).bind λc=>bT (i7 k M u x c.2 b) λg=>if g.1 then (some (some (a0,I,z,J,K,c.1,g.2,h))) else (bT (i16 k (decide ((c.1.length:Int)=0))) λE=>bT (i23 k ([44]:LN) u x g.2 b) λD=>(i12 k u x D b).bind λj=>ih j.1 j.2 h)
def qG3 (k:Nat) (F:Fns0)  (a0:Int) (c:LN) (g:Bool) (h:LL) (j:LL) (o:LN) (q:LN) (u:List S33) (b:Int) (a:Bool) (n:Nat):LL→Int→(List S28)→Option (Option Ri18):=lp (λ_ _ _=>none) (qE1 k F a0 c g h j o q u b a) n
theorem qOh (k:Nat) (F:Fns0) (hF:FnsOk0 F) (a0:Int) (M:LN) (a2:Bool) (N:Bool) (O:LL) (Y:LL) (Q:LN) (z:LN) (D:List S33) (a9:Int) (h:Int) (b1:List S28)  (j:Bool)  : ∀ (n:Nat) (c:LL) (u:Int) (g:List S28),Ok (Xi18 a0 M a2 N O Y Q z D a9 h b1) i18p6 [(0,.ptr 0 4 0),(2,.str Q),(3,.func 78 [.ptr 0 4 0] []),(5,.ptr 2 7 0),(8,.ptr 3 7 0),(9,w9 c)] (mkH [⟨[.str z,w34 D,.i u,.i h],4,false⟩,⟨(g).flatMap e29,0,false⟩,⟨[.i a0,.str M,.own 1 (g).length 7,.bool j,.bool N,w9 O,w9 Y],7,false⟩,⟨[.i 0,.str [],.nils,.bool false,.bool false,.nils,.nils],0,false⟩]) (qG3 k F a0 M N O Y Q z D h j n c u g):=by
 intro n
 induction n with
 | zero=>intro c u g; exact ok_none
 | succ n ih =>
  intro c u g
  show Ok _ _ _ _ (qE1 k F a0 M N O Y Q z D h j (qG3 k F a0 M N O Y Q z D h j n) c u g)
  unfold qE1
  let E5:Env:=[(22,.func 78 [.ptr 0 4 0] []),(0,.ptr 0 4 0),(2,.str Q),(3,.func 78 [.ptr 0 4 0] []),(5,.ptr 2 7 0),(8,.ptr 3 7 0),(9,w9 c)]
  let Q1:Blk:=⟨(g).flatMap e29,0,false⟩
  let Q2:Blk:=⟨[.i a0,.str M,.own 1 (g).length 7,.bool j,.bool N,w9 O,w9 Y],7,false⟩
  let I:Blk:=⟨[.i 0,.str [],.nils,.bool false,.bool false,.nils,.nils],0,false⟩
  refine oH 2 (atN 1 (ctl1 i18p6)) E5 (mkH [⟨[.str z,w34 D,.i u,.i h],4,false⟩,Q1,Q2,I]) ?_
  refine oX (λ(a:(S28×Int))=>n29 a.1) (λa=>[⟨[.str z,w34 D,.i a.2,.i h],4,false⟩,Q1,Q2,I]) (atN 2 (ctl1 i18p6)) 23 [0] [] [] [0,2] [0,1] [.ptr 0 4 0] (hF.i29_ok z D u h) trivial (λ_=>trivial) ⟨u29 _,trivial⟩ λa b6=>?_
  let Q4:Blk:=⟨[.str z,w34 D,.i a.2,.i h],4,false⟩
  let J:Blk:=⟨[.i a.1.f0,.str a.1.f1,q29 a.1.f2,.bool a.1.f3,.bool a.1.f4,w9 c,w9 a.1.f6],7,false⟩
  let K:Blk:=⟨[.i a.1.f0,.str a.1.f1,q29 a.1.f2,.bool a.1.f3,.bool a.1.f4,w9 c,w9 a.1.f6],0,false⟩
  refine oH 15 (atN 4 (ctl1 i18p10)) ((29,.slice 5 7 0 1 7)::(28,.agg [.i a.1.f0,.str a.1.f1,q29 a.1.f2,.bool a.1.f3,.bool a.1.f4,w9 c,w9 a.1.f6])::(27,.own 1 (g).length 7)::(26,.ptr 2 7 2)::(25,.ptr 4 7 5)::(24,w9 c)::(10,.ptr 4 7 0)::(23,n29 a.1)::E5) (mkH [Q4,Q1,Q2,I,J,K]) ?_
  refine oC (λ(o:List S28)=>(.own 1 (o).length 7,(mkH [Q4,⟨(o).flatMap e29,0,false⟩,Q2,I,J,K]))) (atN 5 (ctl1 i18p10)) 30 (appH (sz:=7) qA6 rfl qAx [Q4,Q1,Q2,I,J,K] 1 104 g ([(⟨a.1.f0,a.1.f1,a.1.f2,a.1.f3,a.1.f4,c,a.1.f6⟩:S28)]:List S28) rfl rfl Kr) λo b7=>?_
  let E7:Env:=[(0,.ptr 0 4 0),(2,.str Q),(3,.func 78 [.ptr 0 4 0] []),(5,.ptr 2 7 0),(8,.ptr 3 7 0)]
  let T:Blk:=⟨(o).flatMap e29,0,false⟩
  let Z:Blk:=⟨[.i a0,.str M,.own 1 (o).length 7,.bool j,.bool N,w9 O,w9 Y],7,false⟩
  refine oLH 5 i18p11 E7 (mkH [Q4,T,Z,I,J,K]) ?_
  refine oR 2 (atN 1 (ctl1 i18p11)) ((32,.ptr 0 4 0)::E7) ?_
  refine oN (λ(b:Ri12)=>w9 b.1) (λb=>[⟨[.str z,w34 D,.i b.2,.i h],4,false⟩,T,Z,I,J,K]) (atN 2 (ctl1 i18p11)) 33 [0] [] [] [.ptr 0 4 0] (qAm k z D a.2 h) trivial (λ_=>trivial) λb b9=>?_
  let E8:Env:=((35,.str Q)::(34,.ptr 0 4 0)::(9,w9 b.1)::(33,w9 b.1)::(32,.ptr 0 4 0)::E7)
  refine oR 6 (atN 2 (ctl1 i18p12)) E8 ?_
  refine oX (λ(q:(Bool×Int)) => .bool q.1) (λq=>[⟨[.str z,w34 D,.i q.2,.i h],4,false⟩,T,Z,I,J,K]) (atN 3 (ctl1 i18p12)) 36 [0] [] [] [2] [0,1] [.ptr 0 4 0,.str Q] (qAj k Q z D b.2 h) trivial (λ_=>trivial) ⟨u29 _,trivial⟩ λq c1=>?_
  refine oR 1 i18p13 ((36,.bool q.1)::E8) ?_
  refine oS 36 (λhb=>?_) (λhb=>?_)
  ·let Q9:Blk:=⟨[.str z,w34 D,.i q.2,.i h],4,false⟩
   let S:Blk:=⟨[.i a0,.str M,.own 1 (o).length 7,.bool j,.bool N,w9 O,w9 b.1],7,false⟩
   refine oLH 8 (nav [0,0,0] (nav [1,0] i18p13)) [(5,.ptr 2 7 0),(8,.ptr 3 7 0)] (mkH [Q9,T,S,I,J,K]) ?_
   refine oH 5 .fin ((39,.agg [.i a0,.str M,.own 1 (o).length 7,.bool j,.bool N,w9 O,w9 b.1])::[(5,.ptr 2 7 0),(8,.ptr 3 7 0)]) (mkH [Q9,T,S,S,J,K]) ?_
   exact qC3 (r:=some (a0,M,j,N,O,b.1,q.2,o)) (xs:=[.agg [.i a0,.str M,.own 1 (o).length 7,.bool j,.bool N,w9 O,w9 b.1]]) [Q9,T] [S,S,J,K] Kr Kr Kr Kr Kr ⟨Kr,⟨(qA3 _ (u29 _)),trivial⟩⟩ Kr Kr
  ·let b0:Env:=((42,.bool (decide ((b.1.length:Int)=0)))::(41,.i (b.1.length:Int))::(40,w9 b.1)::(36,.bool false)::(36,.bool q.1)::E8)
   refine oR 7 (atN 3 (ctl1 i18p15)) b0 ?_
   refine oX (λ(U:Unit) => .tuple []) (λU=>[⟨[.str z,w34 D,.i q.2,.i h],4,false⟩,T,Z,I,J,K]) (atN 4 (ctl1 i18p15)) 43 [] [] [] [2] [0,1] [.bool (decide ((b.1.length:Int)=0))] (qDh k (decide ((b.1.length:Int)=0))) trivial (λ_=>trivial) ⟨u29 _,trivial⟩ λU c3=>?_
   refine oR 2 i18p17 ((43,.tuple [])::b0) ?_
   refine oK0 [0,2,3,5,8] ?_
   let b3:Env:=keepOnly ((43,.tuple [])::b0) [0,2,3,5,8]
   refine oR 2 (atN 1 (ctl1 i18p17)) ((44,.ptr 0 4 0)::b3) ?_
   refine oX (λ(E:Int) => .tuple []) (λE=>[⟨[.str z,w34 D,.i E,.i h],4,false⟩,T,Z,I,J,K]) (atN 2 (ctl1 i18p17)) 45 [0] [] [] [0,2] [0,1] [.ptr 0 4 0,.str [44]] (qAw k ([44]:LN) z D q.2 h) trivial (λ_=>trivial) ⟨u29 _,trivial⟩ λE c4=>?_
   refine oR 4 (atN 1 (ctl1 i18p18)) ((46,.ptr 0 4 0)::(45,.tuple [])::(44,.ptr 0 4 0)::b3) ?_
   refine oN (λ(x:Ri12)=>w9 x.1) (λx=>[⟨[.str z,w34 D,.i x.2,.i h],4,false⟩,T,Z,I,J,K]) (atN 2 (ctl1 i18p18)) 47 [0] [] [] [.ptr 0 4 0] (qAm k z D E h) trivial (λ_=>trivial) λx c5=>?_
   refine oL 6 i18p6 [(0,.ptr 0 4 0),(2,.str Q),(3,.func 78 [.ptr 0 4 0] []),(5,.ptr 2 7 0),(8,.ptr 3 7 0),(9,w9 x.1)] ?_
   refine qAf [⟨[.str z,w34 D,.i x.2,.i h],4,false⟩,T,Z,I] [J,K] Kr rfl Kr ⟨Kr,⟨(qA3 _ (u29 _)),⟨Kr,⟨Kr,trivial⟩⟩⟩⟩ ?_
   exact ih x.1 x.2 o
def i18B (k:Nat) (F:Fns0) (a0:Int) (n:LN) (E:Bool) (o:Bool) (q:LL) (D:LL) (u:LN) (h:LN) (j:List S33) (x:Int) (c:Int) (z:List S28):Option (Option Ri18) :=
 (i28 k h j x c).bind λg=>(i12 k h j x c).bind λa=>bT (i7 k u h j a.2 c) λb=>if b.1 then (some (some (a0,n,g,o,q,a.1,b.2,z))) else (qG3 k F a0 n o q D u h j c g k a.1 b.2 z)
theorem qMx (k:Nat) (F:Fns0) (hF:FnsOk0 F):∀ a0 n E o q D u x z I c j r,i18B k F a0 n E o q D u x z I c j=some r→CallT Try.prog 77 [.ptr 0 4 0,.agg [.i a0,.str n,.own 1 (j).length 7,.bool E,.bool o,w9 q,w9 D],.str u,.func 78 [.ptr 0 4 0] []] (mkH [⟨[.str x,w34 z,.i I,.i c],4,false⟩,⟨(j).flatMap e29,0,false⟩]) ((Xi18 a0 n E o q D u x z I c j).thr r) ((Xi18 a0 n E o q D u x z I c j).enc r) ((Xi18 a0 n E o q D u x z I c j).fin r):=by
 intro a0 n E o q D u x z I c j r h
 refine qA2 (Xi18 a0 n E o q D u x z I c j) Try.func77 Kr Kr rfl (t:=i18B k F a0 n E o q D u x z I c j) ?_ h
 unfold i18B
 refine qA (eE:=[(0,.ptr 0 4 0),(1,.agg [.i a0,.str n,.own 1 (j).length 7,.bool E,.bool o,w9 q,w9 D]),(2,.str u),(3,.func 78 [.ptr 0 4 0] [])]) Kr ?_
 let N:Env:=[(11,.ptr 0 4 0),(8,.ptr 3 7 0),(5,.ptr 2 7 0),(0,.ptr 0 4 0),(1,.agg [.i a0,.str n,.own 1 (j).length 7,.bool E,.bool o,w9 q,w9 D]),(2,.str u),(3,.func 78 [.ptr 0 4 0] [])]
 let O:Blk:=⟨[.str x,w34 z,.i I,.i c],4,false⟩
 let J:Blk:=⟨(j).flatMap e29,0,false⟩
 let Q3:Blk:=⟨[.i a0,.str n,.own 1 (j).length 7,.bool E,.bool o,w9 q,w9 D],0,false⟩
 let K:Blk:=⟨[.i 0,.str [],.nils,.bool false,.bool false,.nils,.nils],0,false⟩
 refine oH 9 (atN 1 (ctl1 i18p1)) N (mkH [O,J,Q3,K]) ?_
 refine oN (λ(b:Bool) => .bool b) (λb=>[O,J,Q3,K]) (atN 2 (ctl1 i18p1)) 12 [0] [] [] [.ptr 0 4 0] (qJm k x z I c) trivial (λ_=>trivial) λb Q=>?_
 let S:Blk:=⟨[.i a0,.str n,.own 1 (j).length 7,.bool b,.bool o,w9 q,w9 D],7,false⟩
 refine oH 6 (atN 1 (ctl1 i18p2)) ((14,.ptr 0 4 0)::(13,.ptr 2 7 3)::(12,.bool b)::N) (mkH [O,J,S,K]) ?_
 refine oN (λ(a:Ri12)=>w9 a.1) (λa=>[⟨[.str x,w34 z,.i a.2,.i c],4,false⟩,J,S,K]) (atN 2 (ctl1 i18p2)) 15 [0] [] [] [.ptr 0 4 0] (qAm k x z I c) trivial (λ_=>trivial) λa T=>?_
 let U:Env:=((17,.str u)::(16,.ptr 0 4 0)::(9,w9 a.1)::(15,w9 a.1)::(14,.ptr 0 4 0)::(13,.ptr 2 7 3)::(12,.bool b)::N)
 refine oR 7 (atN 2 (ctl1 i18p3)) U ?_
 refine oX (λ(g:(Bool×Int)) => .bool g.1) (λg=>[⟨[.str x,w34 z,.i g.2,.i c],4,false⟩,J,S,K]) (atN 3 (ctl1 i18p3)) 18 [0] [] [] [2] [0,1] [.ptr 0 4 0,.str u] (qAj k u x z a.2 c) trivial (λ_=>trivial) ⟨u29 _,trivial⟩ λg Y=>?_
 refine oR 1 i18p4 ((18,.bool g.1)::U) ?_
 refine oK [0,2,3,5,8,9,18] [(0,.ptr 0 4 0),(2,.str u),(3,.func 78 [.ptr 0 4 0] []),(5,.ptr 2 7 0),(8,.ptr 3 7 0),(9,w9 a.1),(18,.bool g.1)] ?_
 refine oS 18 (λhb=>?_) (λhb=>?_)
 ·let Z:Blk:=⟨[.str x,w34 z,.i g.2,.i c],4,false⟩
  let M:Blk:=⟨[.i a0,.str n,.own 1 (j).length 7,.bool b,.bool o,w9 q,w9 a.1],7,false⟩
  refine oLH 8 (nav [0,0,0] (nav [1,0] i18p4)) [(5,.ptr 2 7 0),(8,.ptr 3 7 0)] (mkH [Z,J,M,K]) ?_
  refine oH 5 .fin ((21,.agg [.i a0,.str n,.own 1 (j).length 7,.bool b,.bool o,w9 q,w9 a.1])::[(5,.ptr 2 7 0),(8,.ptr 3 7 0)]) (mkH [Z,J,M,M]) ?_
  exact qC3 (r:=some (a0,n,b,o,q,a.1,g.2,j)) (xs:=[.agg [.i a0,.str n,.own 1 (j).length 7,.bool b,.bool o,w9 q,w9 a.1]]) [Z,J] [M,M] Kr Kr Kr Kr Kr ⟨Kr,⟨(qA3 _ (u29 _)),trivial⟩⟩ Kr Kr
 ·refine oR 5 i18p6 ((18,.bool false)::(keepOnly ((18,.bool g.1)::U) [0,2,3,5,8,9,18])) ?_
  refine oK [0,2,3,5,8,9] [(0,.ptr 0 4 0),(2,.str u),(3,.func 78 [.ptr 0 4 0] []),(5,.ptr 2 7 0),(8,.ptr 3 7 0),(9,w9 a.1)] ?_
  exact (qOh k F hF a0 n E o q D u x z I c j b k) a.1 g.2 j
theorem i18B_ok (k:Nat) (F:Fns0) (b:FnsOk0 F):Pi18 (i18B k F):=λa0 c g j n o q u z D a E=>⟨λx h=>qMx k F b a0 c g j n o q u z D a E (some x) h,λh=>⟨_,qMx k F b a0 c g j n o q u z D a E none h⟩⟩
def i19p1:Pt:=nav [0,0,0,0] (nav [0] (bodyAt Try.f79))
def i19p2:Pt:=nav [0,0,0] i19p1
def i19p3:Pt:=nav [0,0,0,0] i19p2
def i19p4:Pt:=nav [0,0] i19p3
def i19p6:Pt:=nav [2,0,0] i19p4
def i19p8:Pt:=nav [0,0,0,0] i19p6
def i19p10:Pt:=nav [0,0] i19p8
def i19p11:Pt:=nav [1,0] i19p10
def i19p12:Pt:=nav [2,0,0,0,0] i19p10
def i19p13:Pt:=nav [0,0,0] i19p12
def i19p14:Pt:=nav [0,0,0,0] i19p13
def i19p15:Pt:=nav [0,0] i19p14
def i19p16:Pt:=nav [1,0] i19p15
def i19p17:Pt:=nav [2,0,0,0] i19p15
def i19p18:Pt:=nav [0,0] i19p16
def i19p19:Pt:=nav [0,0,0] i19p17
def i19p20:Pt:=nav [0,0,0] i19p18
def i19p21:Pt:=nav [0,0] i19p19
def i19p24:Pt:=nav [2,0,0] i19p21
def i19p26:Pt:=nav [0,0,0] i19p24
def i19p27:Pt:=nav [0,0,0] i19p26
def i19p28:Pt:=nav [0,0,0] i19p27
def i19d0:DP:=⟨[46],[(0,0,0),(1,0,1),(0,0,0),(4,0,0),(12,0,0),(31,0,0),(3,0,0),(127,0,0),(255,0,0),(511,0,0)],10,thrown,[],H0⟩
def qE0 (k:Nat) (F:Fns0)  (a0:LN) (o:List S33) (O:Int) (q:Int) (u:Bool) (ih:LL→Int→(List S28)→S28→Option (Option (S28×Int))):LL→Int→(List S28)→S28→Option (Option (S28×Int)) :=
 λ(E:LL) (I:Int) (J:List S28) (a:S28)=>(appS 104 J ([(⟨a.f0,a.f1,a.f2,a.f3,a.f4,E,a.f6⟩:S28)]:List S28)).bind λg=>bT (i7 k ([124]:LN) a0 o I q) λh=>if h.1 then (bT (F.i5 (3:Int) a0 o h.2 q) λx=>(appS 104 g ([x.1]:List S28)).bind λz=>(i12 k a0 o x.2 q).bind λD=>bT (i23 k ([93]:LN) a0 o D.2 q) λK=>some (some ((⟨(5:Int),([124]:LN),⟨(z).length,(z).flatMap e29⟩,u,false,([]:LL),D.1⟩:S28),K))) else ((i12 k a0 o h.2 q).bind λb=>bT (i7 k ([93]:LN) a0 o b.2 q) λc=>if c.1 then (some (some ((⟨(5:Int),([]:LN),⟨(g).length,(g).flatMap e29⟩,u,false,([]:LL),b.1⟩:S28),c.2))) else (bT (i16 k (decide ((b.1.length:Int)=0))) λN=>bT (i23 k ([44]:LN) a0 o c.2 q) λM=>(i12 k a0 o M q).bind λj=>bT (F.i5 (3:Int) a0 o j.2 q) λn=>ih j.1 n.2 g n.1))
def qG2 (k:Nat) (F:Fns0)  (a0:LN) (b:List S33) (c:Int) (g:Int) (a:Bool) (n:Nat):LL→Int→(List S28)→S28→Option (Option (S28×Int)):=lp (λ_ _ _ _=>none) (qE0 k F a0 b c g a) n
theorem qOg (k:Nat) (F:Fns0) (hF:FnsOk0 F) (a0:LN) (Q:List S33) (a2:Int) (S:Int)  (g:Bool)  : ∀ (n:Nat) (j:LL) (T:Int) (u:List S28) (a:S28),Ok (Xi19 a0 Q a2 S) i19p12 [(0,.ptr 0 4 0),(2,.ptr 1 7 0),(3,.ptr 2 7 0),(4,w9 j),(5,.ptr 4 7 0)] (mkH [⟨[.str a0,w34 Q,.i T,.i S],4,false⟩,⟨[.i 0,.str [],.nils,.bool false,.bool false,.nils,.nils],0,false⟩,⟨[.i 5,.str [],.own 3 (u).length 7,.bool g,.bool false,.nils,.nils],7,false⟩,⟨(u).flatMap e29,0,false⟩,⟨[.i a.f0,.str a.f1,q29 a.f2,.bool a.f3,.bool a.f4,w9 a.f5,w9 a.f6],7,false⟩]) (qG2 k F a0 Q a2 S g n j T u a):=by
 intro n
 induction n with
 | zero=>intro j T u a; exact ok_none
 | succ n ih =>
  intro j T u a
  show Ok _ _ _ _ (qE0 k F a0 Q a2 S g (qG2 k F a0 Q a2 S g n) j T u a)
  unfold qE0
  let Q1:Blk:=⟨[.str a0,w34 Q,.i T,.i S],4,false⟩
  let z:Blk:=⟨[.i 0,.str [],.nils,.bool false,.bool false,.nils,.nils],0,false⟩
  let Q3:Blk:=⟨[.i 5,.str [],.own 3 (u).length 7,.bool g,.bool false,.nils,.nils],7,false⟩
  let Q4:Blk:=⟨(u).flatMap e29,0,false⟩
  let E:Blk:=⟨[.i a.f0,.str a.f1,q29 a.f2,.bool a.f3,.bool a.f4,w9 j,w9 a.f6],7,false⟩
  let o:Blk:=⟨[.i a.f0,.str a.f1,q29 a.f2,.bool a.f3,.bool a.f4,w9 j,w9 a.f6],0,false⟩
  refine oH 11 (atN 4 (ctl1 i19p13)) [(37,.slice 5 7 0 1 7),(36,.agg [.i a.f0,.str a.f1,q29 a.f2,.bool a.f3,.bool a.f4,w9 j,w9 a.f6]),(35,.own 3 (u).length 7),(34,.ptr 2 7 2),(33,.ptr 4 7 5),(32,w9 j),(0,.ptr 0 4 0),(2,.ptr 1 7 0),(3,.ptr 2 7 0),(4,w9 j),(5,.ptr 4 7 0)] (mkH [Q1,z,Q3,Q4,E,o]) ?_
  refine oC (λ(I:List S28)=>(.own 3 (I).length 7,(mkH [Q1,z,Q3,⟨(I).flatMap e29,0,false⟩,E,o]))) (atN 5 (ctl1 i19p13)) 38 (appH (sz:=7) qA6 rfl qAx [Q1,z,Q3,Q4,E,o] 3 104 u ([(⟨a.f0,a.f1,a.f2,a.f3,a.f4,j,a.f6⟩:S28)]:List S28) rfl rfl Kr) λI d9=>?_
  let U:Blk:=⟨[.i 5,.str [],.own 3 (I).length 7,.bool g,.bool false,.nils,.nils],7,false⟩
  let Y:Blk:=⟨(I).flatMap e29,0,false⟩
  refine oLH 5 i19p14 [(0,.ptr 0 4 0),(2,.ptr 1 7 0),(3,.ptr 2 7 0),(5,.ptr 4 7 0)] (mkH [Q1,z,U,Y,E,o]) ?_
  let E8:Env:=[(0,.ptr 0 4 0),(2,.ptr 1 7 0),(3,.ptr 2 7 0),(5,.ptr 4 7 0)]
  refine oR 2 (atN 1 (ctl1 i19p14)) ((40,.ptr 0 4 0)::E8) ?_
  refine oX (λ(q:(Bool×Int)) => .bool q.1) (λq=>[⟨[.str a0,w34 Q,.i q.2,.i S],4,false⟩,z,U,Y,E,o]) (atN 2 (ctl1 i19p14)) 41 [0] [] [] [2] [0,0,0,1] [.ptr 0 4 0,.str [124]] (qAj k ([124]:LN) a0 Q T S) trivial (λ_=>trivial) ⟨u29 _,trivial⟩ λq e0=>?_
  refine oR 1 i19p15 ((41,.bool q.1)::(40,.ptr 0 4 0)::E8) ?_
  refine oS 41 (λhb=>?_) (λhb=>?_)
  ·refine oR 2 i19p16 ((41,.bool true)::(41,.bool q.1)::(40,.ptr 0 4 0)::E8) ?_
   refine qCp (λh=>?_) (λO b2=>?_)
   ·let E9:Env:=[(44,.ptr 0 4 0),(43,.own 3 (I).length 7),(42,.ptr 2 7 2),(41,.bool true),(41,.bool q.1),(40,.ptr 0 4 0),(0,.ptr 0 4 0),(2,.ptr 1 7 0),(3,.ptr 2 7 0),(5,.ptr 4 7 0)]
    let b3:Env:=((49,.top)::(48,.ptr 2 7 1)::(47,.top)::(46,.top)::(45,.top)::E9)
    let Q9:Blk:=⟨[.str a0,w34 Q,.i q.2,.i S],4,false⟩
    exact qAo (eE:=b3) (i19d0.th 3 thrown [0,2] (mkH [Q9,z,U,Y,E,o])) (hs:=[(mkH [Q9,z,U,Y,E,o]),(mkH [Q9,z,U,Y,E,o]),(mkH [Q9,z,U,Y,E,o]),(mkH [Q9,z,U,Y,E,o])]) (LX:=[⟨[.str a0,w34 Q,.i a2,.i S],4,false⟩]) (L:=[Q9,z,U,Y,E,o]) rfl rfl rfl Kr rfl ⟨.inl rfl,trivial⟩ Kr Kr Kr Kr (qA7 3 (l':=(opsAt i19p16).toList.drop 3) (eE:=E9) (H':=(mkH [Q9,z,U,Y,E,o])) (hs:=[]) Kr (qAn (l':=(opsAt i19p16).toList.drop 4) (eE:=((45,.top)::E9)) (hs:=[(mkH [Q9,z,U,Y,E,o])]) (fi:=29) (args:=[.ptr 0 4 0,.i 3]) Kr Kr (frS 0 (M:=[Q9,z,U,Y,E,o]) (rs:=[0]) (ms:=[]) (mv:=[0,0,0,1]) (mm:=[0,0,0,1]) (D:=[0,2]) (xs':=[.ptr 0 4 0,.i 3]) (.refl) ((hF.i5_ok (3:Int) a0 Q q.2 S).2 h) trivial ⟨u29 _,trivial⟩ Kr) Kr (qA1 (l':=(opsAt i19p16).toList.drop 5) (eE:=((46,.top)::(45,.top)::E9)) (hs:=[]) Kr Kr (qA1 (l':=(opsAt i19p16).toList.drop 6) (eE:=((47,.top)::(46,.top)::(45,.top)::E9)) (hs:=[(mkH [Q9,z,U,Y,E,o])]) Kr Kr (qA7 1 (l':=(opsAt i19p16).toList.drop 7) (eE:=((48,.ptr 2 7 1)::(47,.top)::(46,.top)::(45,.top)::E9)) (H':=(mkH [Q9,z,U,Y,E,o])) (hs:=[]) Kr (qA1 (l':=(opsAt i19p16).toList.drop 8) (eE:=((48,.ptr 2 7 1)::(47,.top)::(46,.top)::(45,.top)::E9)) (hs:=[(mkH [Q9,z,U,Y,E,o])]) Kr Kr (qA1 (l':=(opsAt i19p16).toList.drop 9) (eE:=b3) (hs:=[]) Kr Kr (qA1 (l':=(opsAt i19p16).toList.drop 10) (eE:=b3) (hs:=[(mkH [Q9,z,U,Y,E,o])]) Kr Kr (.nil))))))))) Kr Kr
   ·refine qA9 (λb b4=>?_)
    let E9:Env:=[(44,.ptr 0 4 0),(43,.own 3 (I).length 7),(42,.ptr 2 7 2),(41,.bool true),(41,.bool q.1),(40,.ptr 0 4 0),(0,.ptr 0 4 0),(2,.ptr 1 7 0),(3,.ptr 2 7 0),(5,.ptr 4 7 0)]
    let b5:Env:=((49,.ptr 2 7 2)::(48,.ptr 2 7 1)::(47,.own 3 (b).length 7)::(46,w29 ([O.1]:List S28))::(45,n29 O.1)::E9)
    let a4:Blk:=⟨[.str a0,w34 Q,.i O.2,.i S],4,false⟩
    let c2:Blk:=⟨[.i 5,.str [124],.own 3 (I).length 7,.bool g,.bool false,.nils,.nils],7,false⟩
    refine oD (H':=(mkH [a4,z,⟨[.i 5,.str [124],.own 3 (b).length 7,.bool g,.bool false,.nils,.nils],7,false⟩,⟨(b).flatMap e29,0,false⟩,E,o])) (nav [0] i19p16) b5 [(mkH [a4,z,U,Y,E,o]),(mkH [a4,z,U,⟨(b).flatMap e29,0,false⟩,E,o]),(mkH [a4,z,c2,⟨(b).flatMap e29,0,false⟩,E,o]),(mkH [a4,z,⟨[.i 5,.str [124],.own 3 (b).length 7,.bool g,.bool false,.nils,.nils],7,false⟩,⟨(b).flatMap e29,0,false⟩,E,o])] i19d0 (oDr 3 3 E9 (qA5 (l':=(opsAt i19p16).toList.drop 4) (eE:=((45,n29 O.1)::E9)) (hs:=[(mkH [a4,z,U,Y,E,o])]) (H':=(mkH [a4,z,U,Y,E,o])) (fi:=29) (args:=[.ptr 0 4 0,.i 3]) (v:=n29 O.1) Kr (frC (rs:=[0]) (ms:=[]) (ms':=[]) ((hF.i5_ok (3:Int) a0 Q q.2 S).1 O b2) trivial trivial Kr) Kr (oDr 1 5 ((46,w29 ([O.1]:List S28))::(45,n29 O.1)::E9) (qAb (l':=(opsAt i19p16).toList.drop 6) (eE:=((47,.own 3 (b).length 7)::(46,w29 ([O.1]:List S28))::(45,n29 O.1)::E9)) (hs:=[(mkH [a4,z,U,⟨(b).flatMap e29,0,false⟩,E,o])]) (x:=b) (λ(b:List S28)=>(.own 3 (b).length 7,(mkH [a4,z,U,⟨(b).flatMap e29,0,false⟩,E,o]))) (appHV (sz:=7) qA6 rfl qAx [a4,z,U,Y,E,o] 3 104 I ([O.1]:List S28) rfl rfl Kr) b4 Kr (oDh 4 10 b5 (mkH [a4,z,⟨[.i 5,.str [124],.own 3 (b).length 7,.bool g,.bool false,.nils,.nils],7,false⟩,⟨(b).flatMap e29,0,false⟩,E,o]) [(mkH [a4,z,c2,⟨(b).flatMap e29,0,false⟩,E,o]),(mkH [a4,z,⟨[.i 5,.str [124],.own 3 (b).length 7,.bool g,.bool false,.nils,.nils],7,false⟩,⟨(b).flatMap e29,0,false⟩,E,o])] .nil))))) ?_
    refine oR 3 (atN 1 (ctl1 i19p18)) ((50,.ptr 0 4 0)::b5) ?_
    let b0:Blk:=⟨(b).flatMap e29,0,false⟩
    refine oN (λ(Z:Ri12)=>w9 Z.1) (λZ=>[⟨[.str a0,w34 Q,.i Z.2,.i S],4,false⟩,z,⟨[.i 5,.str [124],.own 3 (b).length 7,.bool g,.bool false,.nils,.nils],7,false⟩,b0,E,o]) (atN 2 (ctl1 i19p18)) 51 [0] [] [] [.ptr 0 4 0] (qAm k a0 Q O.2 S) trivial (λ_=>trivial) λZ f7=>?_
    let b1:Blk:=⟨[.i 5,.str [124],.own 3 (b).length 7,.bool g,.bool false,.nils,w9 Z.1],7,false⟩
    refine oLH 4 i19p20 [(0,.ptr 0 4 0),(2,.ptr 1 7 0),(3,.ptr 2 7 0)] (mkH [⟨[.str a0,w34 Q,.i Z.2,.i S],4,false⟩,z,b1,b0,E,o]) ?_
    refine oR 2 (atN 1 (ctl1 i19p20)) ((53,.ptr 0 4 0)::[(0,.ptr 0 4 0),(2,.ptr 1 7 0),(3,.ptr 2 7 0)]) ?_
    refine oX (λ(a5:Int) => .tuple []) (λa5=>[⟨[.str a0,w34 Q,.i a5,.i S],4,false⟩,z,b1,b0,E,o]) (atN 2 (ctl1 i19p20)) 54 [0] [] [] [0,2] [0,0,0,1] [.ptr 0 4 0,.str [93]] (qAw k ([93]:LN) a0 Q Z.2 S) trivial (λ_=>trivial) ⟨u29 _,trivial⟩ λa5 c6=>?_
    exact oQF 7 [⟨[.str a0,w34 Q,.i a5,.i S],4,false⟩,b1,b1,b0,E,o] 1 [] [.agg [.i 5,.str [124],.own 3 (b).length 7,.bool g,.bool false,.nils,w9 Z.1]] (.agg [.i 5,.str [124],w29 b,.bool g,.bool false,.vec 0 1 [],w9 Z.1]) (.agg (.cs (.cs (qAr qA6 qAh rfl rfl rfl (.cs (.cs (.nil .ps)))))) .ps) trivial
  ·refine oR 6 (atN 1 (ctl1 i19p17)) ((56,.ptr 0 4 0)::(41,.bool false)::(41,.bool q.1)::(40,.ptr 0 4 0)::E8) ?_
   refine oN (λ(c:Ri12)=>w9 c.1) (λc=>[⟨[.str a0,w34 Q,.i c.2,.i S],4,false⟩,z,U,Y,E,o]) (atN 2 (ctl1 i19p17)) 57 [0] [] [] [.ptr 0 4 0] (qAm k a0 Q q.2 S) trivial (λ_=>trivial) λc c8=>?_
   let b6:Env:=((58,.ptr 0 4 0)::(4,w9 c.1)::(57,w9 c.1)::(56,.ptr 0 4 0)::(41,.bool false)::(41,.bool q.1)::(40,.ptr 0 4 0)::E8)
   refine oR 5 (atN 1 (ctl1 i19p19)) b6 ?_
   refine oX (λ(J:(Bool×Int)) => .bool J.1) (λJ=>[⟨[.str a0,w34 Q,.i J.2,.i S],4,false⟩,z,U,Y,E,o]) (atN 2 (ctl1 i19p19)) 59 [0] [] [] [2] [0,0,0,1] [.ptr 0 4 0,.str [93]] (qAj k ([93]:LN) a0 Q c.2 S) trivial (λ_=>trivial) ⟨u29 _,trivial⟩ λJ d0=>?_
   refine oR 1 i19p21 ((59,.bool J.1)::b6) ?_
   refine oS 59 (λhb=>?_) (λhb=>?_)
   ·let c3:Blk:=⟨[.str a0,w34 Q,.i J.2,.i S],4,false⟩
    let b7:Blk:=⟨[.i 5,.str [],.own 3 (I).length 7,.bool g,.bool false,.nils,w9 c.1],7,false⟩
    refine oLH 8 (nav [0,0,0] (nav [1,0] i19p21)) [(2,.ptr 1 7 0),(3,.ptr 2 7 0)] (mkH [c3,z,b7,Y,E,o]) ?_
    exact oQF 5 [c3,b7,b7,Y,E,o] 1 [] [.agg [.i 5,.str [],.own 3 (I).length 7,.bool g,.bool false,.nils,w9 c.1]] (.agg [.i 5,.str [],w29 I,.bool g,.bool false,.vec 0 1 [],w9 c.1]) (.agg (.cs (.cs (qAr qA6 qAh rfl rfl rfl (.cs (.cs (.nil .ps)))))) .ps) trivial
   ·let b8:Env:=((65,.bool (decide ((c.1.length:Int)=0)))::(64,.i (c.1.length:Int))::(63,w9 c.1)::(59,.bool false)::(59,.bool J.1)::b6)
    refine oR 7 (atN 3 (ctl1 i19p24)) b8 ?_
    refine oX (λ(a9:Unit) => .tuple []) (λa9=>[⟨[.str a0,w34 Q,.i J.2,.i S],4,false⟩,z,U,Y,E,o]) (atN 4 (ctl1 i19p24)) 66 [] [] [] [2] [0,0,0,1] [.bool (decide ((c.1.length:Int)=0))] (qDh k (decide ((c.1.length:Int)=0))) trivial (λ_=>trivial) ⟨u29 _,trivial⟩ λa9 d1=>?_
    refine oR 2 i19p26 ((66,.tuple [])::b8) ?_
    refine oK0 [0,2,3,5] ?_
    let b9:Env:=keepOnly ((66,.tuple [])::b8) [0,2,3,5]
    refine oR 2 (atN 1 (ctl1 i19p26)) ((67,.ptr 0 4 0)::b9) ?_
    refine oX (λ(a6:Int) => .tuple []) (λa6=>[⟨[.str a0,w34 Q,.i a6,.i S],4,false⟩,z,U,Y,E,o]) (atN 2 (ctl1 i19p26)) 68 [0] [] [] [0,2] [0,0,0,1] [.ptr 0 4 0,.str [44]] (qAw k ([44]:LN) a0 Q J.2 S) trivial (λ_=>trivial) ⟨u29 _,trivial⟩ λa6 d2=>?_
    refine oR 4 (atN 1 (ctl1 i19p27)) ((69,.ptr 0 4 0)::(68,.tuple [])::(67,.ptr 0 4 0)::b9) ?_
    refine oN (λ(K:Ri12)=>w9 K.1) (λK=>[⟨[.str a0,w34 Q,.i K.2,.i S],4,false⟩,z,U,Y,E,o]) (atN 2 (ctl1 i19p27)) 70 [0] [] [] [.ptr 0 4 0] (qAm k a0 Q a6 S) trivial (λ_=>trivial) λK d3=>?_
    refine oR 5 (atN 1 (ctl1 i19p28)) ((71,.ptr 0 4 0)::(4,w9 K.1)::(70,w9 K.1)::(69,.ptr 0 4 0)::(68,.tuple [])::(67,.ptr 0 4 0)::b9) ?_
    refine oX (λ(N:(S28×Int))=>n29 N.1) (λN=>[⟨[.str a0,w34 Q,.i N.2,.i S],4,false⟩,z,U,Y,E,o]) (atN 2 (ctl1 i19p28)) 72 [0] [] [] [0,2] [0,0,0,1] [.ptr 0 4 0,.i 3] (hF.i5_ok (3:Int) a0 Q K.2 S) trivial (λ_=>trivial) ⟨u29 _,trivial⟩ λN d4=>?_
    let c4:Blk:=⟨[.str a0,w34 Q,.i N.2,.i S],4,false⟩
    refine oLH 6 i19p12 [(0,.ptr 0 4 0),(2,.ptr 1 7 0),(3,.ptr 2 7 0),(4,w9 K.1),(5,.ptr 4 7 0)] (mkH [c4,z,U,Y,⟨e29 N.1,7,false⟩,o]) ?_
    refine qAf [c4,z,U,Y,⟨e29 N.1,7,false⟩] [o] Kr rfl Kr ⟨Kr,⟨Kr,⟨Kr,⟨(qA3 _ (u29 _)),⟨Kr,trivial⟩⟩⟩⟩⟩ ?_
    exact ih K.1 N.2 I N.1
def i19B (k:Nat) (F:Fns0) (a0:LN) (n:List S33) (x:Int) (o:Int):Option (Option (S28×Int)) :=
 (i28 k a0 n x o).bind λg=>(i12 k a0 n x o).bind λb=>bT (i7 k ([93]:LN) a0 n b.2 o) λh=>if h.1 then (some (some ((⟨(5:Int),([]:LN),⟨(([]:List S28)).length,(([]:List S28)).flatMap e29⟩,g,false,([]:LL),b.1⟩:S28),h.2))) else (bT (F.i5 (3:Int) a0 n h.2 o) λc=>jn (λ(q:Bool×Int)=>if q.1 then (bT (F.i30 (15:Int) ([]:LN) g false ([]:LL) ([]:LL) a0 n q.2 o ([c.1]:List S28)) λa=>some (some ((⟨a.1,a.2.1,⟨(a.2.2.2.2.2.2.2).length,(a.2.2.2.2.2.2.2).flatMap e29⟩,a.2.2.1,a.2.2.2.1,a.2.2.2.2.1,a.2.2.2.2.2.1⟩:S28),a.2.2.2.2.2.2.1))) else (qG2 k F a0 n x o g k b.1 q.2 ([]:List S28) c.1)) (λu=>if (decide ((b.1.length:Int)=0)) then (bT (i7 k ([124,124]:LN) a0 n c.2 o) λj=>u (j.1,j.2)) else (u (false,c.2))))
theorem qMw (k:Nat) (F:Fns0) (S:FnsOk0 F):∀ a0 n E o r,i19B k F a0 n E o=some r→CallT Try.prog 79 [.ptr 0 4 0] (mkH [⟨[.str a0,w34 n,.i E,.i o],4,false⟩]) ((Xi19 a0 n E o).thr r) ((Xi19 a0 n E o).enc r) ((Xi19 a0 n E o).fin r):=by
 intro a0 n E o r h
 refine qA2 (Xi19 a0 n E o) Try.func79 Kr Kr rfl (t:=i19B k F a0 n E o) ?_ h
 unfold i19B
 refine qA (eE:=[(0,.ptr 0 4 0)]) Kr ?_
 let J:Blk:=⟨[.str a0,w34 n,.i E,.i o],4,false⟩
 let u:Blk:=⟨[.i 0,.str [],.nils,.bool false,.bool false,.nils,.nils],0,false⟩
 refine oH 8 (atN 1 (ctl1 i19p1)) [(6,.ptr 0 4 0),(2,.ptr 1 7 0),(0,.ptr 0 4 0)] (mkH [J,u]) ?_
 refine oN (λ(g:Bool) => .bool g) (λg=>[J,u]) (atN 2 (ctl1 i19p1)) 7 [0] [] [] [.ptr 0 4 0] (qJm k a0 n E o) trivial (λ_=>trivial) λg T=>?_
 let O:Env:=[(3,.ptr 2 7 0),(8,.agg [.i 5,.str [],.nils,.bool g,.bool false,.nils,.nils]),(7,.bool g),(6,.ptr 0 4 0),(2,.ptr 1 7 0),(0,.ptr 0 4 0)]
 let Q:Blk:=⟨[.i 5,.str [],.nils,.bool g,.bool false,.nils,.nils],7,false⟩
 refine oH 5 i19p2 O (mkH [J,u,Q]) ?_
 refine qI9 [J,u,Q] Kr ?_
 let x:Blk:=⟨(([]:List S28)).flatMap e29,0,false⟩
 refine oHp (mkH [J,u,Q,x]) ?_
 refine qDv [J,u,Q,x] 2 7 [.i 5,.str [],.nils,.bool g,.bool false,.nils,.nils] [.i 5,.str [],.own 3 (([]:List S28)).length 7,.bool g,.bool false,.nils,.nils] Kr rfl (.cons (.cons (.none (.refl)))) ?_
 let D:Blk:=⟨[.i 5,.str [],.own 3 (([]:List S28)).length 7,.bool g,.bool false,.nils,.nils],7,false⟩
 refine oH 2 (atN 1 (ctl1 i19p2)) ((9,.ptr 0 4 0)::O) (mkH [J,u,D,x]) ?_
 refine oN (λ(b:Ri12)=>w9 b.1) (λb=>[⟨[.str a0,w34 n,.i b.2,.i o],4,false⟩,u,D,x]) (atN 2 (ctl1 i19p2)) 10 [0] [] [] [.ptr 0 4 0] (qAm k a0 n E o) trivial (λ_=>trivial) λb U=>?_
 refine oR 6 (atN 1 (ctl1 i19p3)) ((11,.ptr 0 4 0)::(4,w9 b.1)::(10,w9 b.1)::(9,.ptr 0 4 0)::O) ?_
 refine oX (λ(q:(Bool×Int)) => .bool q.1) (λq=>[⟨[.str a0,w34 n,.i q.2,.i o],4,false⟩,u,D,x]) (atN 2 (ctl1 i19p3)) 12 [0] [] [] [2] [0,0,0,1] [.ptr 0 4 0,.str [93]] (qAj k ([93]:LN) a0 n b.2 o) trivial (λ_=>trivial) ⟨u29 _,trivial⟩ λq Y=>?_
 let E2:Env:=((12,.bool q.1)::(11,.ptr 0 4 0)::(4,w9 b.1)::(10,w9 b.1)::(9,.ptr 0 4 0)::O)
 refine oR 1 i19p4 E2 ?_
 refine oS 12 (λK=>?_) (λK=>?_)
 ·let Q6:Blk:=⟨[.str a0,w34 n,.i q.2,.i o],4,false⟩
  let Z:Blk:=⟨[.i 5,.str [],.own 3 (([]:List S28)).length 7,.bool g,.bool false,.nils,w9 b.1],7,false⟩
  refine oLH 8 (nav [0,0,0] (nav [1,0] i19p4)) [(2,.ptr 1 7 0),(3,.ptr 2 7 0)] (mkH [Q6,u,Z,x]) ?_
  exact oQF 5 [Q6,Z,Z,x] 1 [] [.agg [.i 5,.str [],.own 3 (([]:List S28)).length 7,.bool g,.bool false,.nils,w9 b.1]] (.agg [.i 5,.str [],w29 ([]:List S28),.bool g,.bool false,.vec 0 1 [],w9 b.1]) (.agg (.cs (.cs (qAr qA6 qAh rfl rfl rfl (.cs (.cs (.nil .ps)))))) .ps) trivial
 ·refine oR 5 (atN 1 (ctl1 i19p6)) ((16,.ptr 0 4 0)::(12,.bool false)::E2) ?_
  refine oX (λ(c:(S28×Int))=>n29 c.1) (λc=>[⟨[.str a0,w34 n,.i c.2,.i o],4,false⟩,u,D,x]) (atN 2 (ctl1 i19p6)) 17 [0] [] [] [0,2] [0,0,0,1] [.ptr 0 4 0,.i 3] (S.i5_ok (3:Int) a0 n q.2 o) trivial (λ_=>trivial) ⟨u29 _,trivial⟩ λc a4=>?_
  let Q8:Blk:=⟨[.str a0,w34 n,.i c.2,.i o],4,false⟩
  refine oLH 5 i19p8 [(0,.ptr 0 4 0),(2,.ptr 1 7 0),(3,.ptr 2 7 0),(4,w9 b.1),(5,.ptr 4 7 0)] (mkH [Q8,u,D,x,⟨e29 c.1,7,false⟩]) ?_
  let E4:Env:=[(0,.ptr 0 4 0),(2,.ptr 1 7 0),(3,.ptr 2 7 0),(4,w9 b.1),(5,.ptr 4 7 0)]
  refine oR 5 (atN 4 (ctl1 i19p8)) ((21,.bool (decide ((b.1.length:Int)=0)))::(20,.bool (decide ((b.1.length:Int)=0)))::(19,.i (b.1.length:Int))::(18,w9 b.1)::E4) ?_
  refine oJ i19p10 (λ(z:Bool×Int)=>[(0,.ptr 0 4 0),(2,.ptr 1 7 0),(3,.ptr 2 7 0),(4,w9 b.1),(5,.ptr 4 7 0),(24,.bool z.1)]) (λ(z:Bool×Int)=>(mkH [⟨[.str a0,w34 n,.i z.2,.i o],4,false⟩,u,D,x,⟨e29 c.1,7,false⟩])) (λz=>?_) (λb3 I=>?_)
  ·refine oS 24 (λK=>?_) (λK=>?_)
   ·let E5:Env:=[(29,.slice 5 7 0 1 7),(28,n29 c.1),(27,.bool g),(26,.ptr 2 7 3),(25,.ptr 0 4 0),(24,.bool true),(0,.ptr 0 4 0),(2,.ptr 1 7 0),(3,.ptr 2 7 0),(4,w9 b.1),(5,.ptr 4 7 0),(24,.bool z.1)]
    let Q9:Blk:=⟨[.str a0,w34 n,.i z.2,.i o],4,false⟩
    refine oH 8 (atN 5 (ctl1 i19p11)) E5 (mkH [Q9,u,D,x,⟨e29 c.1,7,false⟩,⟨e29 c.1,0,false⟩]) ?_
    refine qCo 29 5 7 1 7 Kr rfl ?_
    let M:Blk:=⟨(([c.1]:List S28)).flatMap e29,0,false⟩
    refine oH 1 (atN 6 (ctl1 i19p11)) ((30,.agg [.i 15,.str [],.own 5 (([c.1]:List S28)).length 7,.bool g,.bool false,.nils,.nils])::(29,.own 5 (([c.1]:List S28)).length 7)::E5) (mkH [Q9,u,D,x,⟨e29 c.1,7,false⟩,M]) ?_
    refine oXW 0 [Q9,u,D,x,⟨e29 c.1,7,false⟩,M] (λ(a:Ri30) => .agg [.i a.1,.str a.2.1,.own 5 (a.2.2.2.2.2.2.2).length 7,.bool a.2.2.1,.bool a.2.2.2.1,w9 a.2.2.2.2.1,w9 a.2.2.2.2.2.1]) (λa=>[⟨[.str a0,w34 n,.i a.2.2.2.2.2.2.1,.i o],4,false⟩,u,D,x,⟨e29 c.1,7,false⟩,⟨(a.2.2.2.2.2.2.2).flatMap e29,0,false⟩]) (atN 7 (ctl1 i19p11)) 31 [0,5] [0,1] [0,1] [0,2,5] [0,0,0,1] [0,0,0,1,0,1] [.ptr 0 4 0,.agg [.i 15,.str [],.own 5 (([c.1]:List S28)).length 7,.bool g,.bool false,.nils,.nils]] [.ptr 0 4 0,.agg [.i 15,.str [],.own 5 (([c.1]:List S28)).length 7,.bool g,.bool false,w9 ([]:LL),w9 ([]:LL)]] (.cons (.agg (.cons (.cons (.cons (.cons (.cons (.nil (.nil (.refl)))))))) (.refl))) (S.i30_ok (15:Int) ([]:LN) g false ([]:LL) ([]:LL) a0 n z.2 o ([c.1]:List S28)) ⟨u29 _,trivial⟩ (λ_=>⟨u29 _,trivial⟩) ⟨u29 _,trivial⟩ λa a7=>?_
    exact oQF 3 [⟨[.str a0,w34 n,.i a.2.2.2.2.2.2.1,.i o],4,false⟩,⟨[.i a.1,.str a.2.1,.own 5 (a.2.2.2.2.2.2.2).length 7,.bool a.2.2.1,.bool a.2.2.2.1,w9 a.2.2.2.2.1,w9 a.2.2.2.2.2.1],7,false⟩,D,x,⟨e29 c.1,7,false⟩,⟨(a.2.2.2.2.2.2.2).flatMap e29,0,false⟩] 1 [] [.agg [.i a.1,.str a.2.1,.own 5 (a.2.2.2.2.2.2.2).length 7,.bool a.2.2.1,.bool a.2.2.2.1,w9 a.2.2.2.2.1,w9 a.2.2.2.2.2.1]] (.agg [.i a.1,.str a.2.1,w29 a.2.2.2.2.2.2.2,.bool a.2.2.1,.bool a.2.2.2.1,w9 a.2.2.2.2.1,w9 a.2.2.2.2.2.1]) (.agg (.cs (.cs (qAr qA6 qAh rfl rfl rfl .ps))) .ps) trivial
   ·refine oLH 5 i19p12 [(0,.ptr 0 4 0),(2,.ptr 1 7 0),(3,.ptr 2 7 0),(4,w9 b.1),(5,.ptr 4 7 0)] (mkH [⟨[.str a0,w34 n,.i z.2,.i o],4,false⟩,u,D,x,⟨e29 c.1,7,false⟩]) ?_
    exact (qOg k F S a0 n E o g k) b.1 z.2 ([]:List S28) c.1
  ·refine oS 21 (λK=>?_) (λK=>?_)
   ·let N:Env:=((22,.ptr 0 4 0)::(21,.bool true)::(21,.bool (decide ((b.1.length:Int)=0)))::(20,.bool (decide ((b.1.length:Int)=0)))::(19,.i (b.1.length:Int))::(18,w9 b.1)::E4)
    refine oH 1 (atN 5 (ctl1 i19p8)) N (mkH [Q8,u,D,x,⟨e29 c.1,7,false⟩]) ?_
    refine oX (λ(j:(Bool×Int)) => .bool j.1) (λj=>[⟨[.str a0,w34 n,.i j.2,.i o],4,false⟩,u,D,x,⟨e29 c.1,7,false⟩]) (atN 6 (ctl1 i19p8)) 23 [0] [] [] [2] [0,0,0,1] [.ptr 0 4 0,.str [124,124]] (qAj k ([124,124]:LN) a0 n c.2 o) trivial (λ_=>trivial) ⟨u29 _,trivial⟩ λj a8=>?_
    refine oR 2 i19p10 ((24,.bool j.1)::(23,.bool j.1)::N) ?_
    refine oK [0,2,3,4,5,24] [(0,.ptr 0 4 0),(2,.ptr 1 7 0),(3,.ptr 2 7 0),(4,w9 b.1),(5,.ptr 4 7 0),(24,.bool j.1)] ?_
    exact I (j.1,j.2)
   ·refine oLH 4 i19p10 [(0,.ptr 0 4 0),(2,.ptr 1 7 0),(3,.ptr 2 7 0),(4,w9 b.1),(5,.ptr 4 7 0),(24,.bool false)] (mkH [Q8,u,D,x,⟨e29 c.1,7,false⟩]) ?_
    exact I (false,c.2)
theorem i19B_ok (k:Nat) (F:Fns0) (a:FnsOk0 F):Pi19 (i19B k F):=λa0 b c g=>⟨λx h=>qMw k F a a0 b c g (some x) h,λh=>⟨_,qMw k F a a0 b c g none h⟩⟩
def i20p1:Pt:=nav [0,0,0,0] (nav [0] (bodyAt Try.f77))
def i20p2:Pt:=nav [0,0,0] i20p1
def i20p3:Pt:=nav [0,0,0,0] i20p2
def i20p4:Pt:=nav [0,0] i20p3
def i20p6:Pt:=nav [2,0,0,0,0] i20p4
def i20p10:Pt:=nav [0,0,0] (nav [0,0,0] i20p6)
def i20p11:Pt:=nav [0,0,0,0] i20p10
def i20p12:Pt:=nav [0,0,0] i20p11
def i20p13:Pt:=nav [0,0] i20p12
def i20p15:Pt:=nav [2,0,0] i20p13
def i20p17:Pt:=nav [0,0,0] i20p15
def i20p18:Pt:=nav [0,0,0] i20p17
def qE (k:Nat) (F:Fns0)  (a0:Int) (I:LN) (J:Bool) (K:LL) (N:LL) (M:LN) (u:LN) (x:List S33) (b:Int) (z:Bool) (ih:LL→Int→(List S28)→Option (Option Ri20)):LL→Int→(List S28)→Option (Option Ri20) :=
 λ(n:LL) (o:Int) (q:List S28)=>bT (F.i31 u x o b) λa=>(appS 104 q ([(⟨a.1.f0,a.1.f1,a.1.f2,a.1.f3,a.1.f4,n,a.1.f6⟩:S28)]:List S28)).bind λh=>(i12 k u x a.2 b).bind λc=>bT (i7 k M u x c.2 b) λg=>if g.1 then (some (some (a0,I,z,J,K,c.1,g.2,h))) else (bT (i16 k (decide ((c.1.length:Int)=0))) λE=>bT (i23 k ([44]:LN) u x g.2 b) λD=>(i12 k u x D b).bind λj=>ih j.1 j.2 h)
def qG1 (k:Nat) (F:Fns0)  (a0:Int) (c:LN) (g:Bool) (h:LL) (j:LL) (o:LN) (q:LN) (u:List S33) (b:Int) (a:Bool) (n:Nat):LL→Int→(List S28)→Option (Option Ri20):=lp (λ_ _ _=>none) (qE k F a0 c g h j o q u b a) n
theorem qOf (k:Nat) (F:Fns0) (hF:FnsOk0 F) (a0:Int) (M:LN) (a2:Bool) (N:Bool) (O:LL) (Y:LL) (Q:LN) (z:LN) (D:List S33) (a9:Int) (h:Int) (b1:List S28)  (j:Bool)  : ∀ (n:Nat) (c:LL) (u:Int) (g:List S28),Ok (Xi20 a0 M a2 N O Y Q z D a9 h b1) i20p6 [(0,.ptr 0 4 0),(2,.str Q),(3,.func 80 [.ptr 0 4 0] []),(5,.ptr 2 7 0),(8,.ptr 3 7 0),(9,w9 c)] (mkH [⟨[.str z,w34 D,.i u,.i h],4,false⟩,⟨(g).flatMap e29,0,false⟩,⟨[.i a0,.str M,.own 1 (g).length 7,.bool j,.bool N,w9 O,w9 Y],7,false⟩,⟨[.i 0,.str [],.nils,.bool false,.bool false,.nils,.nils],0,false⟩]) (qG1 k F a0 M N O Y Q z D h j n c u g):=by
 intro n
 induction n with
 | zero=>intro c u g; exact ok_none
 | succ n ih =>
  intro c u g
  show Ok _ _ _ _ (qE k F a0 M N O Y Q z D h j (qG1 k F a0 M N O Y Q z D h j n) c u g)
  unfold qE
  let E5:Env:=[(22,.func 80 [.ptr 0 4 0] []),(0,.ptr 0 4 0),(2,.str Q),(3,.func 80 [.ptr 0 4 0] []),(5,.ptr 2 7 0),(8,.ptr 3 7 0),(9,w9 c)]
  let Q1:Blk:=⟨(g).flatMap e29,0,false⟩
  let Q2:Blk:=⟨[.i a0,.str M,.own 1 (g).length 7,.bool j,.bool N,w9 O,w9 Y],7,false⟩
  let I:Blk:=⟨[.i 0,.str [],.nils,.bool false,.bool false,.nils,.nils],0,false⟩
  refine oH 2 (atN 1 (ctl1 i20p6)) E5 (mkH [⟨[.str z,w34 D,.i u,.i h],4,false⟩,Q1,Q2,I]) ?_
  refine oX (λ(a:(S28×Int))=>n29 a.1) (λa=>[⟨[.str z,w34 D,.i a.2,.i h],4,false⟩,Q1,Q2,I]) (atN 2 (ctl1 i20p6)) 23 [0] [] [] [0,2] [0,1] [.ptr 0 4 0] (hF.i31_ok z D u h) trivial (λ_=>trivial) ⟨u29 _,trivial⟩ λa b6=>?_
  let Q4:Blk:=⟨[.str z,w34 D,.i a.2,.i h],4,false⟩
  let J:Blk:=⟨[.i a.1.f0,.str a.1.f1,q29 a.1.f2,.bool a.1.f3,.bool a.1.f4,w9 c,w9 a.1.f6],7,false⟩
  let K:Blk:=⟨[.i a.1.f0,.str a.1.f1,q29 a.1.f2,.bool a.1.f3,.bool a.1.f4,w9 c,w9 a.1.f6],0,false⟩
  refine oH 15 (atN 4 (ctl1 i20p10)) ((29,.slice 5 7 0 1 7)::(28,.agg [.i a.1.f0,.str a.1.f1,q29 a.1.f2,.bool a.1.f3,.bool a.1.f4,w9 c,w9 a.1.f6])::(27,.own 1 (g).length 7)::(26,.ptr 2 7 2)::(25,.ptr 4 7 5)::(24,w9 c)::(10,.ptr 4 7 0)::(23,n29 a.1)::E5) (mkH [Q4,Q1,Q2,I,J,K]) ?_
  refine oC (λ(o:List S28)=>(.own 1 (o).length 7,(mkH [Q4,⟨(o).flatMap e29,0,false⟩,Q2,I,J,K]))) (atN 5 (ctl1 i20p10)) 30 (appH (sz:=7) qA6 rfl qAx [Q4,Q1,Q2,I,J,K] 1 104 g ([(⟨a.1.f0,a.1.f1,a.1.f2,a.1.f3,a.1.f4,c,a.1.f6⟩:S28)]:List S28) rfl rfl Kr) λo b7=>?_
  let E7:Env:=[(0,.ptr 0 4 0),(2,.str Q),(3,.func 80 [.ptr 0 4 0] []),(5,.ptr 2 7 0),(8,.ptr 3 7 0)]
  let T:Blk:=⟨(o).flatMap e29,0,false⟩
  let Z:Blk:=⟨[.i a0,.str M,.own 1 (o).length 7,.bool j,.bool N,w9 O,w9 Y],7,false⟩
  refine oLH 5 i20p11 E7 (mkH [Q4,T,Z,I,J,K]) ?_
  refine oR 2 (atN 1 (ctl1 i20p11)) ((32,.ptr 0 4 0)::E7) ?_
  refine oN (λ(b:Ri12)=>w9 b.1) (λb=>[⟨[.str z,w34 D,.i b.2,.i h],4,false⟩,T,Z,I,J,K]) (atN 2 (ctl1 i20p11)) 33 [0] [] [] [.ptr 0 4 0] (qAm k z D a.2 h) trivial (λ_=>trivial) λb b9=>?_
  let E8:Env:=((35,.str Q)::(34,.ptr 0 4 0)::(9,w9 b.1)::(33,w9 b.1)::(32,.ptr 0 4 0)::E7)
  refine oR 6 (atN 2 (ctl1 i20p12)) E8 ?_
  refine oX (λ(q:(Bool×Int)) => .bool q.1) (λq=>[⟨[.str z,w34 D,.i q.2,.i h],4,false⟩,T,Z,I,J,K]) (atN 3 (ctl1 i20p12)) 36 [0] [] [] [2] [0,1] [.ptr 0 4 0,.str Q] (qAj k Q z D b.2 h) trivial (λ_=>trivial) ⟨u29 _,trivial⟩ λq c1=>?_
  refine oR 1 i20p13 ((36,.bool q.1)::E8) ?_
  refine oS 36 (λhb=>?_) (λhb=>?_)
  ·let Q9:Blk:=⟨[.str z,w34 D,.i q.2,.i h],4,false⟩
   let S:Blk:=⟨[.i a0,.str M,.own 1 (o).length 7,.bool j,.bool N,w9 O,w9 b.1],7,false⟩
   refine oLH 8 (nav [0,0,0] (nav [1,0] i20p13)) [(5,.ptr 2 7 0),(8,.ptr 3 7 0)] (mkH [Q9,T,S,I,J,K]) ?_
   refine oH 5 .fin ((39,.agg [.i a0,.str M,.own 1 (o).length 7,.bool j,.bool N,w9 O,w9 b.1])::[(5,.ptr 2 7 0),(8,.ptr 3 7 0)]) (mkH [Q9,T,S,S,J,K]) ?_
   exact qC3 (r:=some (a0,M,j,N,O,b.1,q.2,o)) (xs:=[.agg [.i a0,.str M,.own 1 (o).length 7,.bool j,.bool N,w9 O,w9 b.1]]) [Q9,T] [S,S,J,K] Kr Kr Kr Kr Kr ⟨Kr,⟨(qA3 _ (u29 _)),trivial⟩⟩ Kr Kr
  ·let b0:Env:=((42,.bool (decide ((b.1.length:Int)=0)))::(41,.i (b.1.length:Int))::(40,w9 b.1)::(36,.bool false)::(36,.bool q.1)::E8)
   refine oR 7 (atN 3 (ctl1 i20p15)) b0 ?_
   refine oX (λ(U:Unit) => .tuple []) (λU=>[⟨[.str z,w34 D,.i q.2,.i h],4,false⟩,T,Z,I,J,K]) (atN 4 (ctl1 i20p15)) 43 [] [] [] [2] [0,1] [.bool (decide ((b.1.length:Int)=0))] (qDh k (decide ((b.1.length:Int)=0))) trivial (λ_=>trivial) ⟨u29 _,trivial⟩ λU c3=>?_
   refine oR 2 i20p17 ((43,.tuple [])::b0) ?_
   refine oK0 [0,2,3,5,8] ?_
   let b3:Env:=keepOnly ((43,.tuple [])::b0) [0,2,3,5,8]
   refine oR 2 (atN 1 (ctl1 i20p17)) ((44,.ptr 0 4 0)::b3) ?_
   refine oX (λ(E:Int) => .tuple []) (λE=>[⟨[.str z,w34 D,.i E,.i h],4,false⟩,T,Z,I,J,K]) (atN 2 (ctl1 i20p17)) 45 [0] [] [] [0,2] [0,1] [.ptr 0 4 0,.str [44]] (qAw k ([44]:LN) z D q.2 h) trivial (λ_=>trivial) ⟨u29 _,trivial⟩ λE c4=>?_
   refine oR 4 (atN 1 (ctl1 i20p18)) ((46,.ptr 0 4 0)::(45,.tuple [])::(44,.ptr 0 4 0)::b3) ?_
   refine oN (λ(x:Ri12)=>w9 x.1) (λx=>[⟨[.str z,w34 D,.i x.2,.i h],4,false⟩,T,Z,I,J,K]) (atN 2 (ctl1 i20p18)) 47 [0] [] [] [.ptr 0 4 0] (qAm k z D E h) trivial (λ_=>trivial) λx c5=>?_
   refine oL 6 i20p6 [(0,.ptr 0 4 0),(2,.str Q),(3,.func 80 [.ptr 0 4 0] []),(5,.ptr 2 7 0),(8,.ptr 3 7 0),(9,w9 x.1)] ?_
   refine qAf [⟨[.str z,w34 D,.i x.2,.i h],4,false⟩,T,Z,I] [J,K] Kr rfl Kr ⟨Kr,⟨(qA3 _ (u29 _)),⟨Kr,⟨Kr,trivial⟩⟩⟩⟩ ?_
   exact ih x.1 x.2 o
def i20B (k:Nat) (F:Fns0) (a0:Int) (n:LN) (E:Bool) (o:Bool) (q:LL) (D:LL) (u:LN) (h:LN) (j:List S33) (x:Int) (c:Int) (z:List S28):Option (Option Ri20) :=
 (i28 k h j x c).bind λg=>(i12 k h j x c).bind λa=>bT (i7 k u h j a.2 c) λb=>if b.1 then (some (some (a0,n,g,o,q,a.1,b.2,z))) else (qG1 k F a0 n o q D u h j c g k a.1 b.2 z)
theorem qMv (k:Nat) (F:Fns0) (hF:FnsOk0 F):∀ a0 n E o q D u x z I c j r,i20B k F a0 n E o q D u x z I c j=some r→CallT Try.prog 77 [.ptr 0 4 0,.agg [.i a0,.str n,.own 1 (j).length 7,.bool E,.bool o,w9 q,w9 D],.str u,.func 80 [.ptr 0 4 0] []] (mkH [⟨[.str x,w34 z,.i I,.i c],4,false⟩,⟨(j).flatMap e29,0,false⟩]) ((Xi20 a0 n E o q D u x z I c j).thr r) ((Xi20 a0 n E o q D u x z I c j).enc r) ((Xi20 a0 n E o q D u x z I c j).fin r):=by
 intro a0 n E o q D u x z I c j r h
 refine qA2 (Xi20 a0 n E o q D u x z I c j) Try.func77 Kr Kr rfl (t:=i20B k F a0 n E o q D u x z I c j) ?_ h
 unfold i20B
 refine qA (eE:=[(0,.ptr 0 4 0),(1,.agg [.i a0,.str n,.own 1 (j).length 7,.bool E,.bool o,w9 q,w9 D]),(2,.str u),(3,.func 80 [.ptr 0 4 0] [])]) Kr ?_
 let N:Env:=[(11,.ptr 0 4 0),(8,.ptr 3 7 0),(5,.ptr 2 7 0),(0,.ptr 0 4 0),(1,.agg [.i a0,.str n,.own 1 (j).length 7,.bool E,.bool o,w9 q,w9 D]),(2,.str u),(3,.func 80 [.ptr 0 4 0] [])]
 let O:Blk:=⟨[.str x,w34 z,.i I,.i c],4,false⟩
 let J:Blk:=⟨(j).flatMap e29,0,false⟩
 let Q3:Blk:=⟨[.i a0,.str n,.own 1 (j).length 7,.bool E,.bool o,w9 q,w9 D],0,false⟩
 let K:Blk:=⟨[.i 0,.str [],.nils,.bool false,.bool false,.nils,.nils],0,false⟩
 refine oH 9 (atN 1 (ctl1 i20p1)) N (mkH [O,J,Q3,K]) ?_
 refine oN (λ(b:Bool) => .bool b) (λb=>[O,J,Q3,K]) (atN 2 (ctl1 i20p1)) 12 [0] [] [] [.ptr 0 4 0] (qJm k x z I c) trivial (λ_=>trivial) λb Q=>?_
 let S:Blk:=⟨[.i a0,.str n,.own 1 (j).length 7,.bool b,.bool o,w9 q,w9 D],7,false⟩
 refine oH 6 (atN 1 (ctl1 i20p2)) ((14,.ptr 0 4 0)::(13,.ptr 2 7 3)::(12,.bool b)::N) (mkH [O,J,S,K]) ?_
 refine oN (λ(a:Ri12)=>w9 a.1) (λa=>[⟨[.str x,w34 z,.i a.2,.i c],4,false⟩,J,S,K]) (atN 2 (ctl1 i20p2)) 15 [0] [] [] [.ptr 0 4 0] (qAm k x z I c) trivial (λ_=>trivial) λa T=>?_
 let U:Env:=((17,.str u)::(16,.ptr 0 4 0)::(9,w9 a.1)::(15,w9 a.1)::(14,.ptr 0 4 0)::(13,.ptr 2 7 3)::(12,.bool b)::N)
 refine oR 7 (atN 2 (ctl1 i20p3)) U ?_
 refine oX (λ(g:(Bool×Int)) => .bool g.1) (λg=>[⟨[.str x,w34 z,.i g.2,.i c],4,false⟩,J,S,K]) (atN 3 (ctl1 i20p3)) 18 [0] [] [] [2] [0,1] [.ptr 0 4 0,.str u] (qAj k u x z a.2 c) trivial (λ_=>trivial) ⟨u29 _,trivial⟩ λg Y=>?_
 refine oR 1 i20p4 ((18,.bool g.1)::U) ?_
 refine oK [0,2,3,5,8,9,18] [(0,.ptr 0 4 0),(2,.str u),(3,.func 80 [.ptr 0 4 0] []),(5,.ptr 2 7 0),(8,.ptr 3 7 0),(9,w9 a.1),(18,.bool g.1)] ?_
 refine oS 18 (λhb=>?_) (λhb=>?_)
 ·let Z:Blk:=⟨[.str x,w34 z,.i g.2,.i c],4,false⟩
  let M:Blk:=⟨[.i a0,.str n,.own 1 (j).length 7,.bool b,.bool o,w9 q,w9 a.1],7,false⟩
  refine oLH 8 (nav [0,0,0] (nav [1,0] i20p4)) [(5,.ptr 2 7 0),(8,.ptr 3 7 0)] (mkH [Z,J,M,K]) ?_
  refine oH 5 .fin ((21,.agg [.i a0,.str n,.own 1 (j).length 7,.bool b,.bool o,w9 q,w9 a.1])::[(5,.ptr 2 7 0),(8,.ptr 3 7 0)]) (mkH [Z,J,M,M]) ?_
  exact qC3 (r:=some (a0,n,b,o,q,a.1,g.2,j)) (xs:=[.agg [.i a0,.str n,.own 1 (j).length 7,.bool b,.bool o,w9 q,w9 a.1]]) [Z,J] [M,M] Kr Kr Kr Kr Kr ⟨Kr,⟨(qA3 _ (u29 _)),trivial⟩⟩ Kr Kr
 ·refine oR 5 i20p6 ((18,.bool false)::(keepOnly ((18,.bool g.1)::U) [0,2,3,5,8,9,18])) ?_
  refine oK [0,2,3,5,8,9] [(0,.ptr 0 4 0),(2,.str u),(3,.func 80 [.ptr 0 4 0] []),(5,.ptr 2 7 0),(8,.ptr 3 7 0),(9,w9 a.1)] ?_
  exact (qOf k F hF a0 n E o q D u x z I c j b k) a.1 g.2 j
theorem i20B_ok (k:Nat) (F:Fns0) (b:FnsOk0 F):Pi20 (i20B k F):=λa0 c g j n o q u z D a E=>⟨λx h=>qMv k F b a0 c g j n o q u z D a E (some x) h,λh=>⟨_,qMv k F b a0 c g j n o q u z D a E none h⟩⟩
def i21p1:Pt:=nav [0,0,0,0] (nav [0] (bodyAt Try.f77))
def i21p2:Pt:=nav [0,0,0] i21p1
def i21p3:Pt:=nav [0,0,0,0] i21p2
def i21p4:Pt:=nav [0,0] i21p3
def i21p6:Pt:=nav [2,0,0,0,0] i21p4
def i21p10:Pt:=nav [0,0,0] (nav [0,0,0] i21p6)
def i21p11:Pt:=nav [0,0,0,0] i21p10
def i21p12:Pt:=nav [0,0,0] i21p11
def i21p13:Pt:=nav [0,0] i21p12
def i21p15:Pt:=nav [2,0,0] i21p13
def i21p17:Pt:=nav [0,0,0] i21p15
def i21p18:Pt:=nav [0,0,0] i21p17
def qDz (k:Nat) (F:Fns0)  (a0:Int) (I:LN) (J:Bool) (K:LL) (N:LL) (M:LN) (u:LN) (x:List S33) (b:Int) (z:Bool) (ih:LL→Int→(List S28)→Option (Option Ri21)):LL→Int→(List S28)→Option (Option Ri21) :=
 λ(n:LL) (o:Int) (q:List S28)=>bT (F.i32 u x o b) λa=>(appS 104 q ([(⟨a.1.f0,a.1.f1,a.1.f2,a.1.f3,a.1.f4,n,a.1.f6⟩:S28)]:List S28)).bind λh=>(i12 k u x a.2 b).bind λc=>bT (i7 k M u x c.2 b) λg=>if g.1 then (some (some (a0,I,z,J,K,c.1,g.2,h))) else (bT (i16 k (decide ((c.1.length:Int)=0))) λE=>bT (i23 k ([44]:LN) u x g.2 b) λD=>(i12 k u x D b).bind λj=>ih j.1 j.2 h)
def qG0 (k:Nat) (F:Fns0)  (a0:Int) (c:LN) (g:Bool) (h:LL) (j:LL) (o:LN) (q:LN) (u:List S33) (b:Int) (a:Bool) (n:Nat):LL→Int→(List S28)→Option (Option Ri21):=lp (λ_ _ _=>none) (qDz k F a0 c g h j o q u b a) n
theorem qOe (k:Nat) (F:Fns0) (hF:FnsOk0 F) (a0:Int) (M:LN) (a2:Bool) (N:Bool) (O:LL) (Y:LL) (Q:LN) (z:LN) (D:List S33) (a9:Int) (h:Int) (b1:List S28)  (j:Bool)  : ∀ (n:Nat) (c:LL) (u:Int) (g:List S28),Ok (Xi21 a0 M a2 N O Y Q z D a9 h b1) i21p6 [(0,.ptr 0 4 0),(2,.str Q),(3,.func 81 [.ptr 0 4 0] []),(5,.ptr 2 7 0),(8,.ptr 3 7 0),(9,w9 c)] (mkH [⟨[.str z,w34 D,.i u,.i h],4,false⟩,⟨(g).flatMap e29,0,false⟩,⟨[.i a0,.str M,.own 1 (g).length 7,.bool j,.bool N,w9 O,w9 Y],7,false⟩,⟨[.i 0,.str [],.nils,.bool false,.bool false,.nils,.nils],0,false⟩]) (qG0 k F a0 M N O Y Q z D h j n c u g):=by
 intro n
 induction n with
 | zero=>intro c u g; exact ok_none
 | succ n ih =>
  intro c u g
  show Ok _ _ _ _ (qDz k F a0 M N O Y Q z D h j (qG0 k F a0 M N O Y Q z D h j n) c u g)
  unfold qDz
  let E5:Env:=[(22,.func 81 [.ptr 0 4 0] []),(0,.ptr 0 4 0),(2,.str Q),(3,.func 81 [.ptr 0 4 0] []),(5,.ptr 2 7 0),(8,.ptr 3 7 0),(9,w9 c)]
  let Q1:Blk:=⟨(g).flatMap e29,0,false⟩
  let Q2:Blk:=⟨[.i a0,.str M,.own 1 (g).length 7,.bool j,.bool N,w9 O,w9 Y],7,false⟩
  let I:Blk:=⟨[.i 0,.str [],.nils,.bool false,.bool false,.nils,.nils],0,false⟩
  refine oH 2 (atN 1 (ctl1 i21p6)) E5 (mkH [⟨[.str z,w34 D,.i u,.i h],4,false⟩,Q1,Q2,I]) ?_
  refine oX (λ(a:(S28×Int))=>n29 a.1) (λa=>[⟨[.str z,w34 D,.i a.2,.i h],4,false⟩,Q1,Q2,I]) (atN 2 (ctl1 i21p6)) 23 [0] [] [] [0,2] [0,1] [.ptr 0 4 0] (hF.i32_ok z D u h) trivial (λ_=>trivial) ⟨u29 _,trivial⟩ λa b6=>?_
  let Q4:Blk:=⟨[.str z,w34 D,.i a.2,.i h],4,false⟩
  let J:Blk:=⟨[.i a.1.f0,.str a.1.f1,q29 a.1.f2,.bool a.1.f3,.bool a.1.f4,w9 c,w9 a.1.f6],7,false⟩
  let K:Blk:=⟨[.i a.1.f0,.str a.1.f1,q29 a.1.f2,.bool a.1.f3,.bool a.1.f4,w9 c,w9 a.1.f6],0,false⟩
  refine oH 15 (atN 4 (ctl1 i21p10)) ((29,.slice 5 7 0 1 7)::(28,.agg [.i a.1.f0,.str a.1.f1,q29 a.1.f2,.bool a.1.f3,.bool a.1.f4,w9 c,w9 a.1.f6])::(27,.own 1 (g).length 7)::(26,.ptr 2 7 2)::(25,.ptr 4 7 5)::(24,w9 c)::(10,.ptr 4 7 0)::(23,n29 a.1)::E5) (mkH [Q4,Q1,Q2,I,J,K]) ?_
  refine oC (λ(o:List S28)=>(.own 1 (o).length 7,(mkH [Q4,⟨(o).flatMap e29,0,false⟩,Q2,I,J,K]))) (atN 5 (ctl1 i21p10)) 30 (appH (sz:=7) qA6 rfl qAx [Q4,Q1,Q2,I,J,K] 1 104 g ([(⟨a.1.f0,a.1.f1,a.1.f2,a.1.f3,a.1.f4,c,a.1.f6⟩:S28)]:List S28) rfl rfl Kr) λo b7=>?_
  let E7:Env:=[(0,.ptr 0 4 0),(2,.str Q),(3,.func 81 [.ptr 0 4 0] []),(5,.ptr 2 7 0),(8,.ptr 3 7 0)]
  let T:Blk:=⟨(o).flatMap e29,0,false⟩
  let Z:Blk:=⟨[.i a0,.str M,.own 1 (o).length 7,.bool j,.bool N,w9 O,w9 Y],7,false⟩
  refine oLH 5 i21p11 E7 (mkH [Q4,T,Z,I,J,K]) ?_
  refine oR 2 (atN 1 (ctl1 i21p11)) ((32,.ptr 0 4 0)::E7) ?_
  refine oN (λ(b:Ri12)=>w9 b.1) (λb=>[⟨[.str z,w34 D,.i b.2,.i h],4,false⟩,T,Z,I,J,K]) (atN 2 (ctl1 i21p11)) 33 [0] [] [] [.ptr 0 4 0] (qAm k z D a.2 h) trivial (λ_=>trivial) λb b9=>?_
  let E8:Env:=((35,.str Q)::(34,.ptr 0 4 0)::(9,w9 b.1)::(33,w9 b.1)::(32,.ptr 0 4 0)::E7)
  refine oR 6 (atN 2 (ctl1 i21p12)) E8 ?_
  refine oX (λ(q:(Bool×Int)) => .bool q.1) (λq=>[⟨[.str z,w34 D,.i q.2,.i h],4,false⟩,T,Z,I,J,K]) (atN 3 (ctl1 i21p12)) 36 [0] [] [] [2] [0,1] [.ptr 0 4 0,.str Q] (qAj k Q z D b.2 h) trivial (λ_=>trivial) ⟨u29 _,trivial⟩ λq c1=>?_
  refine oR 1 i21p13 ((36,.bool q.1)::E8) ?_
  refine oS 36 (λhb=>?_) (λhb=>?_)
  ·let Q9:Blk:=⟨[.str z,w34 D,.i q.2,.i h],4,false⟩
   let S:Blk:=⟨[.i a0,.str M,.own 1 (o).length 7,.bool j,.bool N,w9 O,w9 b.1],7,false⟩
   refine oLH 8 (nav [0,0,0] (nav [1,0] i21p13)) [(5,.ptr 2 7 0),(8,.ptr 3 7 0)] (mkH [Q9,T,S,I,J,K]) ?_
   refine oH 5 .fin ((39,.agg [.i a0,.str M,.own 1 (o).length 7,.bool j,.bool N,w9 O,w9 b.1])::[(5,.ptr 2 7 0),(8,.ptr 3 7 0)]) (mkH [Q9,T,S,S,J,K]) ?_
   exact qC3 (r:=some (a0,M,j,N,O,b.1,q.2,o)) (xs:=[.agg [.i a0,.str M,.own 1 (o).length 7,.bool j,.bool N,w9 O,w9 b.1]]) [Q9,T] [S,S,J,K] Kr Kr Kr Kr Kr ⟨Kr,⟨(qA3 _ (u29 _)),trivial⟩⟩ Kr Kr
  ·let b0:Env:=((42,.bool (decide ((b.1.length:Int)=0)))::(41,.i (b.1.length:Int))::(40,w9 b.1)::(36,.bool false)::(36,.bool q.1)::E8)
   refine oR 7 (atN 3 (ctl1 i21p15)) b0 ?_
   refine oX (λ(U:Unit) => .tuple []) (λU=>[⟨[.str z,w34 D,.i q.2,.i h],4,false⟩,T,Z,I,J,K]) (atN 4 (ctl1 i21p15)) 43 [] [] [] [2] [0,1] [.bool (decide ((b.1.length:Int)=0))] (qDh k (decide ((b.1.length:Int)=0))) trivial (λ_=>trivial) ⟨u29 _,trivial⟩ λU c3=>?_
   refine oR 2 i21p17 ((43,.tuple [])::b0) ?_
   refine oK0 [0,2,3,5,8] ?_
   let b3:Env:=keepOnly ((43,.tuple [])::b0) [0,2,3,5,8]
   refine oR 2 (atN 1 (ctl1 i21p17)) ((44,.ptr 0 4 0)::b3) ?_
   refine oX (λ(E:Int) => .tuple []) (λE=>[⟨[.str z,w34 D,.i E,.i h],4,false⟩,T,Z,I,J,K]) (atN 2 (ctl1 i21p17)) 45 [0] [] [] [0,2] [0,1] [.ptr 0 4 0,.str [44]] (qAw k ([44]:LN) z D q.2 h) trivial (λ_=>trivial) ⟨u29 _,trivial⟩ λE c4=>?_
   refine oR 4 (atN 1 (ctl1 i21p18)) ((46,.ptr 0 4 0)::(45,.tuple [])::(44,.ptr 0 4 0)::b3) ?_
   refine oN (λ(x:Ri12)=>w9 x.1) (λx=>[⟨[.str z,w34 D,.i x.2,.i h],4,false⟩,T,Z,I,J,K]) (atN 2 (ctl1 i21p18)) 47 [0] [] [] [.ptr 0 4 0] (qAm k z D E h) trivial (λ_=>trivial) λx c5=>?_
   refine oL 6 i21p6 [(0,.ptr 0 4 0),(2,.str Q),(3,.func 81 [.ptr 0 4 0] []),(5,.ptr 2 7 0),(8,.ptr 3 7 0),(9,w9 x.1)] ?_
   refine qAf [⟨[.str z,w34 D,.i x.2,.i h],4,false⟩,T,Z,I] [J,K] Kr rfl Kr ⟨Kr,⟨(qA3 _ (u29 _)),⟨Kr,⟨Kr,trivial⟩⟩⟩⟩ ?_
   exact ih x.1 x.2 o
def i21B (k:Nat) (F:Fns0) (a0:Int) (n:LN) (E:Bool) (o:Bool) (q:LL) (D:LL) (u:LN) (h:LN) (j:List S33) (x:Int) (c:Int) (z:List S28):Option (Option Ri21) :=
 (i28 k h j x c).bind λg=>(i12 k h j x c).bind λa=>bT (i7 k u h j a.2 c) λb=>if b.1 then (some (some (a0,n,g,o,q,a.1,b.2,z))) else (qG0 k F a0 n o q D u h j c g k a.1 b.2 z)
theorem qMu (k:Nat) (F:Fns0) (hF:FnsOk0 F):∀ a0 n E o q D u x z I c j r,i21B k F a0 n E o q D u x z I c j=some r→CallT Try.prog 77 [.ptr 0 4 0,.agg [.i a0,.str n,.own 1 (j).length 7,.bool E,.bool o,w9 q,w9 D],.str u,.func 81 [.ptr 0 4 0] []] (mkH [⟨[.str x,w34 z,.i I,.i c],4,false⟩,⟨(j).flatMap e29,0,false⟩]) ((Xi21 a0 n E o q D u x z I c j).thr r) ((Xi21 a0 n E o q D u x z I c j).enc r) ((Xi21 a0 n E o q D u x z I c j).fin r):=by
 intro a0 n E o q D u x z I c j r h
 refine qA2 (Xi21 a0 n E o q D u x z I c j) Try.func77 Kr Kr rfl (t:=i21B k F a0 n E o q D u x z I c j) ?_ h
 unfold i21B
 refine qA (eE:=[(0,.ptr 0 4 0),(1,.agg [.i a0,.str n,.own 1 (j).length 7,.bool E,.bool o,w9 q,w9 D]),(2,.str u),(3,.func 81 [.ptr 0 4 0] [])]) Kr ?_
 let N:Env:=[(11,.ptr 0 4 0),(8,.ptr 3 7 0),(5,.ptr 2 7 0),(0,.ptr 0 4 0),(1,.agg [.i a0,.str n,.own 1 (j).length 7,.bool E,.bool o,w9 q,w9 D]),(2,.str u),(3,.func 81 [.ptr 0 4 0] [])]
 let O:Blk:=⟨[.str x,w34 z,.i I,.i c],4,false⟩
 let J:Blk:=⟨(j).flatMap e29,0,false⟩
 let Q3:Blk:=⟨[.i a0,.str n,.own 1 (j).length 7,.bool E,.bool o,w9 q,w9 D],0,false⟩
 let K:Blk:=⟨[.i 0,.str [],.nils,.bool false,.bool false,.nils,.nils],0,false⟩
 refine oH 9 (atN 1 (ctl1 i21p1)) N (mkH [O,J,Q3,K]) ?_
 refine oN (λ(b:Bool) => .bool b) (λb=>[O,J,Q3,K]) (atN 2 (ctl1 i21p1)) 12 [0] [] [] [.ptr 0 4 0] (qJm k x z I c) trivial (λ_=>trivial) λb Q=>?_
 let S:Blk:=⟨[.i a0,.str n,.own 1 (j).length 7,.bool b,.bool o,w9 q,w9 D],7,false⟩
 refine oH 6 (atN 1 (ctl1 i21p2)) ((14,.ptr 0 4 0)::(13,.ptr 2 7 3)::(12,.bool b)::N) (mkH [O,J,S,K]) ?_
 refine oN (λ(a:Ri12)=>w9 a.1) (λa=>[⟨[.str x,w34 z,.i a.2,.i c],4,false⟩,J,S,K]) (atN 2 (ctl1 i21p2)) 15 [0] [] [] [.ptr 0 4 0] (qAm k x z I c) trivial (λ_=>trivial) λa T=>?_
 let U:Env:=((17,.str u)::(16,.ptr 0 4 0)::(9,w9 a.1)::(15,w9 a.1)::(14,.ptr 0 4 0)::(13,.ptr 2 7 3)::(12,.bool b)::N)
 refine oR 7 (atN 2 (ctl1 i21p3)) U ?_
 refine oX (λ(g:(Bool×Int)) => .bool g.1) (λg=>[⟨[.str x,w34 z,.i g.2,.i c],4,false⟩,J,S,K]) (atN 3 (ctl1 i21p3)) 18 [0] [] [] [2] [0,1] [.ptr 0 4 0,.str u] (qAj k u x z a.2 c) trivial (λ_=>trivial) ⟨u29 _,trivial⟩ λg Y=>?_
 refine oR 1 i21p4 ((18,.bool g.1)::U) ?_
 refine oK [0,2,3,5,8,9,18] [(0,.ptr 0 4 0),(2,.str u),(3,.func 81 [.ptr 0 4 0] []),(5,.ptr 2 7 0),(8,.ptr 3 7 0),(9,w9 a.1),(18,.bool g.1)] ?_
 refine oS 18 (λhb=>?_) (λhb=>?_)
 ·let Z:Blk:=⟨[.str x,w34 z,.i g.2,.i c],4,false⟩
  let M:Blk:=⟨[.i a0,.str n,.own 1 (j).length 7,.bool b,.bool o,w9 q,w9 a.1],7,false⟩
  refine oLH 8 (nav [0,0,0] (nav [1,0] i21p4)) [(5,.ptr 2 7 0),(8,.ptr 3 7 0)] (mkH [Z,J,M,K]) ?_
  refine oH 5 .fin ((21,.agg [.i a0,.str n,.own 1 (j).length 7,.bool b,.bool o,w9 q,w9 a.1])::[(5,.ptr 2 7 0),(8,.ptr 3 7 0)]) (mkH [Z,J,M,M]) ?_
  exact qC3 (r:=some (a0,n,b,o,q,a.1,g.2,j)) (xs:=[.agg [.i a0,.str n,.own 1 (j).length 7,.bool b,.bool o,w9 q,w9 a.1]]) [Z,J] [M,M] Kr Kr Kr Kr Kr ⟨Kr,⟨(qA3 _ (u29 _)),trivial⟩⟩ Kr Kr
 ·refine oR 5 i21p6 ((18,.bool false)::(keepOnly ((18,.bool g.1)::U) [0,2,3,5,8,9,18])) ?_
  refine oK [0,2,3,5,8,9] [(0,.ptr 0 4 0),(2,.str u),(3,.func 81 [.ptr 0 4 0] []),(5,.ptr 2 7 0),(8,.ptr 3 7 0),(9,w9 a.1)] ?_
  exact (qOe k F hF a0 n E o q D u x z I c j b k) a.1 g.2 j
theorem i21B_ok (k:Nat) (F:Fns0) (b:FnsOk0 F):Pi21 (i21B k F):=λa0 c g j n o q u z D a E=>⟨λx h=>qMu k F b a0 c g j n o q u z D a E (some x) h,λh=>⟨_,qMu k F b a0 c g j n o q u z D a E none h⟩⟩
def i24c0:LN:=[114,101,99,101,105,118,101]
def i24c1:LN:=[98,101,103,105,110]
def i24p1:Pt:=nav [0,0,0,0,0] (nav [0] (bodyAt Try.f84))
def i24p2:Pt:=nav [0,0] i24p1
def i24p3:Pt:=nav [1,0,0] i24p2
def i24p4:Pt:=nav [2,0] i24p2
def i24p5:Pt:=nav [0,0] i24p3
def i24p6:Pt:=nav [0,0] i24p4
def i24p7:Pt:=nav [1,0] i24p5
def i24p8:Pt:=nav [2,0,0] i24p5
def i24p9:Pt:=nav [1,0] i24p6
def i24p10:Pt:=nav [2,0] i24p6
def i24p12:Pt:=nav [0,0,0] i24p9
def i24p13:Pt:=nav [0,0] i24p10
def i24p14:Pt:=nav [0,0,0] i24p12
def i24p15:Pt:=nav [1,0] i24p13
def i24p16:Pt:=nav [2,0] i24p13
def i24p17:Pt:=nav [0,0] i24p16
def i24p18:Pt:=nav [1,0] i24p17
def i24p19:Pt:=nav [2,0,0] i24p17
def i24p20:Pt:=nav [0,0,0] i24p19
def i24p21:Pt:=nav [0,0,0] i24p20
def i24p22:Pt:=nav [0,0,0] i24p21
def i24B (k:Nat) (F:Fns0) (a0:LN) (g:List S33) (N:Int) (h:Int):Option (Option (S28×Int)) :=
 bT (i7 k ([102,117,110]:LN) a0 g N h) λc=>if c.1 then ((i10 k ([40]:LN) a0 g c.2 h).bind λK=>if K then (bT (F.i34 a0 g c.2 h) λz=>some (some (z.1,z.2))) else (bT (i35 k a0 g c.2 h) λD=>some (some (D.1,D.2)))) else (bT (i7 k ([99,97,115,101]:LN) a0 g c.2 h) λo=>if o.1 then (bT (F.i5 (0:Int) a0 g o.2 h) λE=>bT (i23 k ([111,102]:LN) a0 g E.2 h) λM=>bT (F.i36 (18:Int) ([]:LN) false false ([]:LL) ([]:LL) a0 g M h ([E.1]:List S28)) λa=>some (some ((⟨a.1,a.2.1,⟨(a.2.2.2.2.2.2.2).length,(a.2.2.2.2.2.2.2).flatMap e29⟩,a.2.2.1,a.2.2.2.1,a.2.2.2.2.1,a.2.2.2.2.2.1⟩:S28),a.2.2.2.2.2.2.1))) else (bT (i7 k ([105,102]:LN) a0 g o.2 h) λq=>if q.1 then (bT (F.i37 (19:Int) ([]:LN) false false ([]:LL) ([]:LL) a0 g q.2 h ([]:List S28)) λb=>some (some ((⟨b.1,b.2.1,⟨(b.2.2.2.2.2.2.2).length,(b.2.2.2.2.2.2.2).flatMap e29⟩,b.2.2.1,b.2.2.2.1,b.2.2.2.2.1,b.2.2.2.2.2.1⟩:S28),b.2.2.2.2.2.2.1))) else (bT (i7 k i24c0 a0 g q.2 h) λj=>if j.1 then (bT (F.i38 a0 g j.2 h) λu=>some (some (u.1,u.2))) else (bT (i23 k i24c1 a0 g j.2 h) λI=>bT (F.i6 a0 g I h) λn=>(i12 k a0 g n.2 h).bind λx=>bT (i23 k ([101,110,100]:LN) a0 g x.2 h) λJ=>some (some ((⟨(21:Int),([]:LN),⟨(([n.1]:List S28)).length,(([n.1]:List S28)).flatMap e29⟩,false,false,([]:LL),x.1⟩:S28),J))))))
theorem qMt (k:Nat) (F:Fns0) (U:FnsOk0 F):∀ a0 g Q j r,i24B k F a0 g Q j=some r→CallT Try.prog 84 [.ptr 0 4 0] (mkH [⟨[.str a0,w34 g,.i Q,.i j],4,false⟩]) ((Xi24 a0 g Q j).thr r) ((Xi24 a0 g Q j).enc r) ((Xi24 a0 g Q j).fin r):=by
 intro a0 g Q j r h
 refine qA2 (Xi24 a0 g Q j) Try.func84 Kr Kr rfl (t:=i24B k F a0 g Q j) ?_ h
 unfold i24B
 refine qA (eE:=[(0,.ptr 0 4 0)]) Kr ?_
 let J:Blk:=⟨[.i 0,.str [],.nils,.bool false,.bool false,.nils,.nils],0,false⟩
 refine oH 9 (atN 1 (ctl1 i24p1)) [(6,.ptr 0 4 0),(2,.ptr 1 7 0),(0,.ptr 0 4 0)] (mkH [⟨[.str a0,w34 g,.i Q,.i j],4,false⟩,J]) ?_
 refine oX (λ(x:(Bool×Int)) => .bool x.1) (λx=>[⟨[.str a0,w34 g,.i x.2,.i j],4,false⟩,J]) (atN 2 (ctl1 i24p1)) 7 [0] [] [] [] [] [.ptr 0 4 0,.str [102,117,110]] (qAj k ([102,117,110]:LN) a0 g Q j) trivial (λ_=>trivial) trivial λx b2=>?_
 let S:Env:=[(5,.bool x.1),(7,.bool x.1),(6,.ptr 0 4 0),(2,.ptr 1 7 0),(0,.ptr 0 4 0)]
 refine oR 2 i24p2 S ?_
 refine oS 5 (λT=>?_) (λT=>?_)
 ·refine oR 5 (atN 1 (ctl1 i24p3)) ((8,.ptr 0 4 0)::(5,.bool true)::S) ?_
  refine oN (λ(K:Bool) => .bool K) (λK=>[⟨[.str a0,w34 g,.i x.2,.i j],4,false⟩,J]) (atN 2 (ctl1 i24p3)) 9 [0] [] [] [.ptr 0 4 0,.str [40]] (qJp k ([40]:LN) a0 g x.2 j) trivial (λ_=>trivial) λK b3=>?_
  refine oR 1 i24p5 ((9,.bool K)::(8,.ptr 0 4 0)::(5,.bool true)::S) ?_
  refine oS 9 (λT=>?_) (λT=>?_)
  ·refine oR 4 (atN 1 (ctl1 i24p7)) ((10,.ptr 0 4 0)::(9,.bool true)::(9,.bool K)::(8,.ptr 0 4 0)::(5,.bool true)::S) ?_
   refine oX (λ(E:(S28×Int))=>n29 E.1) (λE=>[⟨[.str a0,w34 g,.i E.2,.i j],4,false⟩,J]) (atN 2 (ctl1 i24p7)) 11 [0] [] [] [0] [] [.ptr 0 4 0] (U.i34_ok a0 g x.2 j) trivial (λ_=>trivial) trivial λE b4=>?_
   exact oQF 3 [⟨[.str a0,w34 g,.i E.2,.i j],4,false⟩,⟨e29 E.1,7,false⟩] 1 [] [n29 E.1] (n29 E.1) .ps trivial
  ·refine oR 5 (atN 1 (ctl1 i24p8)) ((12,.ptr 0 4 0)::(9,.bool false)::(9,.bool K)::(8,.ptr 0 4 0)::(5,.bool true)::S) ?_
   refine oX (λ(I:(S28×Int))=>n29 I.1) (λI=>[⟨[.str a0,w34 g,.i I.2,.i j],4,false⟩,J]) (atN 2 (ctl1 i24p8)) 13 [0] [] [] [0] [] [.ptr 0 4 0] (i35_ok k a0 g x.2 j) trivial (λ_=>trivial) trivial λI b5=>?_
   exact oQF 3 [⟨[.str a0,w34 g,.i I.2,.i j],4,false⟩,⟨e29 I.1,7,false⟩] 1 [] [n29 I.1] (n29 I.1) .ps trivial
 ·refine oR 4 (atN 1 (ctl1 i24p4)) ((15,.ptr 0 4 0)::(5,.bool false)::S) ?_
  refine oX (λ(u:(Bool×Int)) => .bool u.1) (λu=>[⟨[.str a0,w34 g,.i u.2,.i j],4,false⟩,J]) (atN 2 (ctl1 i24p4)) 16 [0] [] [] [] [] [.ptr 0 4 0,.str [99,97,115,101]] (qAj k ([99,97,115,101]:LN) a0 g x.2 j) trivial (λ_=>trivial) trivial λu b6=>?_
  refine oR 2 i24p6 ((14,.bool u.1)::(16,.bool u.1)::(15,.ptr 0 4 0)::(5,.bool false)::S) ?_
  refine oS 14 (λT=>?_) (λT=>?_)
  ·let E4:Env:=((17,.ptr 0 4 0)::(14,.bool true)::(14,.bool u.1)::(16,.bool u.1)::(15,.ptr 0 4 0)::(5,.bool false)::S)
   refine oR 4 (atN 1 (ctl1 i24p9)) E4 ?_
   refine oX (λ(o:(S28×Int))=>n29 o.1) (λo=>[⟨[.str a0,w34 g,.i o.2,.i j],4,false⟩,J]) (atN 2 (ctl1 i24p9)) 18 [0] [] [] [0] [] [.ptr 0 4 0,.i 0] (U.i5_ok (0:Int) a0 g u.2 j) trivial (λ_=>trivial) trivial λo b7=>?_
   let Q2:Blk:=⟨[.str a0,w34 g,.i o.2,.i j],4,false⟩
   refine oH 1 (atN 3 (ctl1 i24p9)) ((19,.slice 2 7 0 1 7)::(18,n29 o.1)::E4) (mkH [Q2,J,⟨e29 o.1,0,false⟩]) ?_
   refine qCo 19 2 7 1 7 Kr rfl ?_
   let E6:Env:=[(0,.ptr 0 4 0),(2,.ptr 1 7 0),(3,.ptr 3 7 0)]
   let Q3:Blk:=⟨(([o.1]:List S28)).flatMap e29,0,false⟩
   let Y:Blk:=⟨[.i 18,.str [],.own 2 (([o.1]:List S28)).length 7,.bool false,.bool false,.nils,.nils],7,false⟩
   refine oLH 5 i24p12 E6 (mkH [Q2,J,Q3,Y]) ?_
   refine oR 2 (atN 1 (ctl1 i24p12)) ((21,.ptr 0 4 0)::E6) ?_
   refine oX (λ(O:Int) => .tuple []) (λO=>[⟨[.str a0,w34 g,.i O,.i j],4,false⟩,J,Q3,Y]) (atN 2 (ctl1 i24p12)) 22 [0] [] [] [0,3] [0,0,1] [.ptr 0 4 0,.str [111,102]] (qAw k ([111,102]:LN) a0 g o.2 j) trivial (λ_=>trivial) ⟨u29 _,trivial⟩ λO c0=>?_
   refine oR 7 (atN 4 (ctl1 i24p14)) ((26,.func 100 [.ptr 0 4 0] [])::(25,.ptr 0 4 0)::(24,.agg [.i 18,.str [],.own 2 (([o.1]:List S28)).length 7,.bool false,.bool false,.nils,.nils])::(23,.ptr 0 4 0)::(22,.tuple [])::(21,.ptr 0 4 0)::E6) ?_
   refine oXW 0 [⟨[.str a0,w34 g,.i O,.i j],4,false⟩,J,Q3,Y] (λ(a:Ri36) => .agg [.i a.1,.str a.2.1,.own 2 (a.2.2.2.2.2.2.2).length 7,.bool a.2.2.1,.bool a.2.2.2.1,w9 a.2.2.2.2.1,w9 a.2.2.2.2.2.1]) (λa=>[⟨[.str a0,w34 g,.i a.2.2.2.2.2.2.1,.i j],4,false⟩,J,⟨(a.2.2.2.2.2.2.2).flatMap e29,0,false⟩,Y]) (atN 5 (ctl1 i24p14)) 27 [0,2] [0,1] [0,1] [0,2,3] [] [0,0,1] [.ptr 0 4 0,.agg [.i 18,.str [],.own 2 (([o.1]:List S28)).length 7,.bool false,.bool false,.nils,.nils],.func 100 [.ptr 0 4 0] []] [.ptr 0 4 0,.agg [.i 18,.str [],.own 2 (([o.1]:List S28)).length 7,.bool false,.bool false,w9 ([]:LL),w9 ([]:LL)],.func 100 [.ptr 0 4 0] []] (.cons (.agg (.cons (.cons (.cons (.cons (.cons (.nil (.nil (.refl)))))))) (.refl))) (U.i36_ok (18:Int) ([]:LN) false false ([]:LL) ([]:LL) a0 g O j ([o.1]:List S28)) ⟨u29 _,trivial⟩ (λ_=>⟨u29 _,trivial⟩) trivial λa c1=>?_
   exact oQF 3 [⟨[.str a0,w34 g,.i a.2.2.2.2.2.2.1,.i j],4,false⟩,⟨[.i a.1,.str a.2.1,.own 2 (a.2.2.2.2.2.2.2).length 7,.bool a.2.2.1,.bool a.2.2.2.1,w9 a.2.2.2.2.1,w9 a.2.2.2.2.2.1],7,false⟩,⟨(a.2.2.2.2.2.2.2).flatMap e29,0,false⟩,Y] 1 [] [.agg [.i a.1,.str a.2.1,.own 2 (a.2.2.2.2.2.2.2).length 7,.bool a.2.2.1,.bool a.2.2.2.1,w9 a.2.2.2.2.1,w9 a.2.2.2.2.2.1]] (.agg [.i a.1,.str a.2.1,w29 a.2.2.2.2.2.2.2,.bool a.2.2.1,.bool a.2.2.2.1,w9 a.2.2.2.2.1,w9 a.2.2.2.2.2.1]) (.agg (.cs (.cs (qAr qA6 qAh rfl rfl rfl .ps))) .ps) trivial
  ·refine oR 4 (atN 1 (ctl1 i24p10)) ((29,.ptr 0 4 0)::(14,.bool false)::(14,.bool u.1)::(16,.bool u.1)::(15,.ptr 0 4 0)::(5,.bool false)::S) ?_
   refine oX (λ(D:(Bool×Int)) => .bool D.1) (λD=>[⟨[.str a0,w34 g,.i D.2,.i j],4,false⟩,J]) (atN 2 (ctl1 i24p10)) 30 [0] [] [] [] [] [.ptr 0 4 0,.str [105,102]] (qAj k ([105,102]:LN) a0 g u.2 j) trivial (λ_=>trivial) trivial λD c2=>?_
   refine oL 2 i24p13 [(0,.ptr 0 4 0),(2,.ptr 1 7 0),(28,.bool D.1)] ?_
   let Z:Env:=[(0,.ptr 0 4 0),(2,.ptr 1 7 0),(28,.bool D.1)]
   refine oS 28 (λT=>?_) (λT=>?_)
   ·refine oR 7 (atN 4 (ctl1 i24p15)) ((34,.func 101 [.ptr 0 4 0] [])::(33,.ptr 0 4 0)::(32,.agg [.i 19,.str [],.nils,.bool false,.bool false,.nils,.nils])::(31,.ptr 0 4 0)::(28,.bool true)::Z) ?_
    refine oXW 1 [⟨[.str a0,w34 g,.i D.2,.i j],4,false⟩,J,⟨(([]:List S28)).flatMap e29,0,false⟩] (λ(b:Ri37) => .agg [.i b.1,.str b.2.1,.own 2 (b.2.2.2.2.2.2.2).length 7,.bool b.2.2.1,.bool b.2.2.2.1,w9 b.2.2.2.2.1,w9 b.2.2.2.2.2.1]) (λb=>[⟨[.str a0,w34 g,.i b.2.2.2.2.2.2.1,.i j],4,false⟩,J,⟨(b.2.2.2.2.2.2.2).flatMap e29,0,false⟩]) (atN 5 (ctl1 i24p15)) 35 [0,2] [0,1] [0,1] [0,2] [] [0,0,1] [.ptr 0 4 0,.agg [.i 19,.str [],.nils,.bool false,.bool false,.nils,.nils],.func 101 [.ptr 0 4 0] []] [.ptr 0 4 0,.agg [.i 19,.str [],.own 2 (([]:List S28)).length 7,.bool false,.bool false,w9 ([]:LL),w9 ([]:LL)],.func 101 [.ptr 0 4 0] []] (.cons (.agg (.cons (.cons (.none (.cons (.cons (.nil (.nil (.refl)))))))) (.refl))) (U.i37_ok (19:Int) ([]:LN) false false ([]:LL) ([]:LL) a0 g D.2 j ([]:List S28)) ⟨u29 _,trivial⟩ (λ_=>⟨u29 _,trivial⟩) trivial λb c3=>?_
    exact oQF 3 [⟨[.str a0,w34 g,.i b.2.2.2.2.2.2.1,.i j],4,false⟩,⟨[.i b.1,.str b.2.1,.own 2 (b.2.2.2.2.2.2.2).length 7,.bool b.2.2.1,.bool b.2.2.2.1,w9 b.2.2.2.2.1,w9 b.2.2.2.2.2.1],7,false⟩,⟨(b.2.2.2.2.2.2.2).flatMap e29,0,false⟩] 1 [] [.agg [.i b.1,.str b.2.1,.own 2 (b.2.2.2.2.2.2.2).length 7,.bool b.2.2.1,.bool b.2.2.2.1,w9 b.2.2.2.2.1,w9 b.2.2.2.2.2.1]] (.agg [.i b.1,.str b.2.1,w29 b.2.2.2.2.2.2.2,.bool b.2.2.1,.bool b.2.2.2.1,w9 b.2.2.2.2.1,w9 b.2.2.2.2.2.1]) (.agg (.cs (.cs (qAr qA6 qAh rfl rfl rfl .ps))) .ps) trivial
   ·refine oR 4 (atN 1 (ctl1 i24p16)) ((37,.ptr 0 4 0)::(28,.bool false)::Z) ?_
    refine oX (λ(n:(Bool×Int)) => .bool n.1) (λn=>[⟨[.str a0,w34 g,.i n.2,.i j],4,false⟩,J]) (atN 2 (ctl1 i24p16)) 38 [0] [] [] [] [] [.ptr 0 4 0,.str i24c0] (qAj k i24c0 a0 g D.2 j) trivial (λ_=>trivial) trivial λn a5=>?_
    refine oR 2 i24p17 ((36,.bool n.1)::(38,.bool n.1)::(37,.ptr 0 4 0)::(28,.bool false)::Z) ?_
    refine oS 36 (λT=>?_) (λT=>?_)
    ·refine oR 4 (atN 1 (ctl1 i24p18)) ((39,.ptr 0 4 0)::(36,.bool true)::(36,.bool n.1)::(38,.bool n.1)::(37,.ptr 0 4 0)::(28,.bool false)::Z) ?_
     refine oX (λ(z:(S28×Int))=>n29 z.1) (λz=>[⟨[.str a0,w34 g,.i z.2,.i j],4,false⟩,J]) (atN 2 (ctl1 i24p18)) 40 [0] [] [] [0] [] [.ptr 0 4 0] (U.i38_ok a0 g n.2 j) trivial (λ_=>trivial) trivial λz a6=>?_
     exact oQF 3 [⟨[.str a0,w34 g,.i z.2,.i j],4,false⟩,⟨e29 z.1,7,false⟩] 1 [] [n29 z.1] (n29 z.1) .ps trivial
    ·refine oR 5 (atN 1 (ctl1 i24p19)) ((41,.ptr 0 4 0)::(36,.bool false)::(36,.bool n.1)::(38,.bool n.1)::(37,.ptr 0 4 0)::(28,.bool false)::Z) ?_
     refine oX (λ(M:Int) => .tuple []) (λM=>[⟨[.str a0,w34 g,.i M,.i j],4,false⟩,J]) (atN 2 (ctl1 i24p19)) 42 [0] [] [] [0] [] [.ptr 0 4 0,.str i24c1] (qAw k i24c1 a0 g n.2 j) trivial (λ_=>trivial) trivial λM a7=>?_
     refine oL 2 i24p20 [(0,.ptr 0 4 0),(2,.ptr 1 7 0)] ?_
     let a4:Env:=[(0,.ptr 0 4 0),(2,.ptr 1 7 0)]
     refine oR 2 (atN 1 (ctl1 i24p20)) ((43,.ptr 0 4 0)::a4) ?_
     refine oX (λ(c:(S28×Int))=>n29 c.1) (λc=>[⟨[.str a0,w34 g,.i c.2,.i j],4,false⟩,J]) (atN 2 (ctl1 i24p20)) 44 [0] [] [] [0] [] [.ptr 0 4 0] (U.i6_ok a0 g M j) trivial (λ_=>trivial) trivial λc a8=>?_
     let Q5:Blk:=⟨[.str a0,w34 g,.i c.2,.i j],4,false⟩
     refine oH 1 (atN 3 (ctl1 i24p20)) ((45,.slice 2 7 0 1 7)::(44,n29 c.1)::(43,.ptr 0 4 0)::a4) (mkH [Q5,J,⟨e29 c.1,0,false⟩]) ?_
     refine oZ 45 2 1 7 [.i c.1.f0,.str c.1.f1,q29 c.1.f2,.bool c.1.f3,.bool c.1.f4,w9 c.1.f5,w9 c.1.f6] [0,2,43,44] [] trivial ?_
     let Q6:Blk:=⟨[.i 21,.str [],w29 ([c.1]:List S28),.bool false,.bool false,.nils,.nils],7,false⟩
     refine oH 7 (atN 1 (ctl1 i24p21)) [(47,.ptr 0 4 0),(4,.ptr 3 7 0),(46,.agg [.i 21,.str [],w29 ([c.1]:List S28),.bool false,.bool false,.nils,.nils]),(45,w29 ([c.1]:List S28)),(0,.ptr 0 4 0),(2,.ptr 1 7 0),(43,.ptr 0 4 0),(44,n29 c.1)] (mkH [Q5,J,⟨[],0,false⟩,Q6]) ?_
     refine oN (λ(q:Ri12)=>w9 q.1) (λq=>[⟨[.str a0,w34 g,.i q.2,.i j],4,false⟩,J,⟨[],0,false⟩,Q6]) (atN 2 (ctl1 i24p21)) 48 [0] [] [] [.ptr 0 4 0] (qAm k a0 g c.2 j) trivial (λ_=>trivial) λq a9=>?_
     let Q7:Blk:=⟨[.i 21,.str [],w29 ([c.1]:List S28),.bool false,.bool false,.nils,w9 q.1],7,false⟩
     refine oLH 4 i24p22 [(0,.ptr 0 4 0),(2,.ptr 1 7 0),(4,.ptr 3 7 0)] (mkH [⟨[.str a0,w34 g,.i q.2,.i j],4,false⟩,J,⟨[],0,false⟩,Q7]) ?_
     refine oR 2 (atN 1 (ctl1 i24p22)) ((50,.ptr 0 4 0)::[(0,.ptr 0 4 0),(2,.ptr 1 7 0),(4,.ptr 3 7 0)]) ?_
     refine oX (λ(N:Int) => .tuple []) (λN=>[⟨[.str a0,w34 g,.i N,.i j],4,false⟩,J,⟨[],0,false⟩,Q7]) (atN 2 (ctl1 i24p22)) 51 [0] [] [] [0] [] [.ptr 0 4 0,.str [101,110,100]] (qAw k ([101,110,100]:LN) a0 g q.2 j) trivial (λ_=>trivial) trivial λN b1=>?_
     exact oQF 7 [⟨[.str a0,w34 g,.i N,.i j],4,false⟩,Q7,⟨[],0,false⟩,Q7] 1 [] [.agg [.i 21,.str [],w29 ([c.1]:List S28),.bool false,.bool false,.nils,w9 q.1]] (.agg [.i 21,.str [],w29 ([c.1]:List S28),.bool false,.bool false,.vec 0 1 [],w9 q.1]) (.agg (.cs (.cs (.cs (.cs (.cs (.nil .ps)))))) .ps) trivial
theorem i24B_ok (k:Nat) (F:Fns0) (a:FnsOk0 F):Pi24 (i24B k F):=λa0 b c g=>⟨λx h=>qMt k F a a0 b c g (some x) h,λh=>⟨_,qMt k F a a0 b c g none h⟩⟩
def i25p1:Pt:=nav [0,0,0,0] (nav [0] (bodyAt Try.f86))
def i25p2:Pt:=nav [0,0] i25p1
def i25p3:Pt:=nav [1,0] i25p2
def i25p4:Pt:=nav [2,0,0] i25p2
def i25B (k:Nat) (F:Fns0) (a0:LN) (g:List S33) (j:Int) (h:Int):Option (Option (S28×Int)) :=
 bT (i7 k ([40]:LN) a0 g j h) λa=>if a.1 then (bT (F.i17 a0 g a.2 h) λb=>some (some (b.1,b.2))) else (bT (i22 k a0 g a.2 h) λc=>some (some ((⟨(1:Int),c.1,⟨0,[]⟩,false,false,([]:LL),([]:LL)⟩:S28),c.2)))
theorem qMs (k:Nat) (F:Fns0) (z:FnsOk0 F):∀ a0 g n j r,i25B k F a0 g n j=some r→CallT Try.prog 86 [.ptr 0 4 0] (mkH [⟨[.str a0,w34 g,.i n,.i j],4,false⟩]) ((Xi25 a0 g n j).thr r) ((Xi25 a0 g n j).enc r) ((Xi25 a0 g n j).fin r):=by
 intro a0 g n j r h
 refine qA2 (Xi25 a0 g n j) Try.func86 Kr Kr rfl (t:=i25B k F a0 g n j) ?_ h
 unfold i25B
 refine qA (eE:=[(0,.ptr 0 4 0)]) Kr ?_
 let o:Blk:=⟨[.i 0,.str [],.nils,.bool false,.bool false,.nils,.nils],0,false⟩
 refine oH 8 (atN 1 (ctl1 i25p1)) [(3,.ptr 0 4 0),(2,.ptr 1 7 0),(0,.ptr 0 4 0)] (mkH [⟨[.str a0,w34 g,.i n,.i j],4,false⟩,o]) ?_
 refine oX (λ(a:(Bool×Int)) => .bool a.1) (λa=>[⟨[.str a0,w34 g,.i a.2,.i j],4,false⟩,o]) (atN 2 (ctl1 i25p1)) 4 [0] [] [] [] [] [.ptr 0 4 0,.str [40]] (qAj k ([40]:LN) a0 g n j) trivial (λ_=>trivial) trivial λa q=>?_
 refine oR 1 i25p2 [(4,.bool a.1),(3,.ptr 0 4 0),(2,.ptr 1 7 0),(0,.ptr 0 4 0)] ?_
 refine oS 4 (λD=>?_) (λD=>?_)
 ·refine oR 4 (atN 1 (ctl1 i25p3)) [(5,.ptr 0 4 0),(4,.bool true),(4,.bool a.1),(3,.ptr 0 4 0),(2,.ptr 1 7 0),(0,.ptr 0 4 0)] ?_
  refine oX (λ(b:(S28×Int))=>n29 b.1) (λb=>[⟨[.str a0,w34 g,.i b.2,.i j],4,false⟩,o]) (atN 2 (ctl1 i25p3)) 6 [0] [] [] [0] [] [.ptr 0 4 0] (z.i17_ok a0 g a.2 j) trivial (λ_=>trivial) trivial λb u=>?_
  exact oQF 3 [⟨[.str a0,w34 g,.i b.2,.i j],4,false⟩,⟨e29 b.1,7,false⟩] 1 [] [n29 b.1] (n29 b.1) .ps trivial
 ·refine oR 5 (atN 1 (ctl1 i25p4)) [(7,.ptr 0 4 0),(4,.bool false),(4,.bool a.1),(3,.ptr 0 4 0),(2,.ptr 1 7 0),(0,.ptr 0 4 0)] ?_
  refine oX (λ(c:Ri22) => .str c.1) (λc=>[⟨[.str a0,w34 g,.i c.2,.i j],4,false⟩,o]) (atN 2 (ctl1 i25p4)) 8 [0] [] [] [] [] [.ptr 0 4 0] (qJn k a0 g a.2 j) trivial (λ_=>trivial) trivial λc x=>?_
  exact oQF 4 [⟨[.str a0,w34 g,.i c.2,.i j],4,false⟩,⟨[.i 1,.str c.1,.nils,.bool false,.bool false,.nils,.nils],7,false⟩] 1 [] [.agg [.i 1,.str c.1,.nils,.bool false,.bool false,.nils,.nils]] (.agg [.i 1,.str c.1,.vec 0 7 [],.bool false,.bool false,.vec 0 1 [],.vec 0 1 []]) (.agg (.cs (.cs (.nil (.cs (.cs (.nil (.nil .ps))))))) .ps) trivial
theorem i25B_ok (k:Nat) (F:Fns0) (a:FnsOk0 F):Pi25 (i25B k F):=λa0 b c g=>⟨λx h=>qMs k F a a0 b c g (some x) h,λh=>⟨_,qMs k F a a0 b c g none h⟩⟩
def i26p1:Pt:=nav [0,0,0,0] (nav [0] (bodyAt Try.f87))
def i26p2:Pt:=nav [0,0] i26p1
def i26p3:Pt:=nav [1,0] i26p2
def i26p4:Pt:=nav [2,0,0] i26p2
def i26p6:Pt:=nav [0,0,0,0] i26p4
def i26p7:Pt:=nav [0,0] i26p6
def i26p8:Pt:=nav [1,0] i26p7
def i26p9:Pt:=nav [2,0,0] i26p7
def i26p10:Pt:=nav [0,0,0] i26p9
def i26d0:DP:=⟨[22,26],[(0,0,0),(1,0,0),(0,0,0),(0,0,0),(12,0,0),(31,0,0),(0,0,1),(64,0,0),(255,0,0),(511,0,0)],10,thrown,[],H0⟩
def i26B (k:Nat) (F:Fns0) (a0:S28) (n:LN) (o:List S33) (D:Int) (q:Int):Option (Option (S28×Int)) :=
 bT (i7 k ([123]:LN) n o D q) λc=>if c.1 then (bT (F.i21 (9:Int) ([]:LN) false false ([]:LL) ([]:LL) ([125]:LN) n o c.2 q ([a0]:List S28)) λa=>some (some ((⟨a.1,a.2.1,⟨(a.2.2.2.2.2.2.2).length,(a.2.2.2.2.2.2.2).flatMap e29⟩,a.2.2.1,a.2.2.2.1,a.2.2.2.2.1,a.2.2.2.2.2.1⟩:S28),a.2.2.2.2.2.2.1))) else (bT (i22 k n o c.2 q) λg=>bT (i7 k ([46]:LN) n o g.2 q) λh=>if h.1 then ((catS g.1 ([46]:LN)).bind λu=>bT (i33 k ([(1:Int)]:List Int) n o h.2 q) λj=>(catS u j.1).bind λx=>some (some ((⟨(12:Int),x,⟨(([a0]:List S28)).length,(([a0]:List S28)).flatMap e29⟩,false,false,([]:LL),([]:LL)⟩:S28),j.2))) else (bT (i23 k ([123]:LN) n o h.2 q) λz=>bT (F.i18 (11:Int) g.1 false false ([]:LL) ([]:LL) ([125]:LN) n o z q ([a0]:List S28)) λb=>some (some ((⟨b.1,b.2.1,⟨(b.2.2.2.2.2.2.2).length,(b.2.2.2.2.2.2.2).flatMap e29⟩,b.2.2.1,b.2.2.2.1,b.2.2.2.2.1,b.2.2.2.2.2.1⟩:S28),b.2.2.2.2.2.2.1))))
theorem qMr (k:Nat) (F:Fns0) (hF:FnsOk0 F):∀ a0 q u Q z r,i26B k F a0 q u Q z=some r→CallT Try.prog 87 [.ptr 0 4 0,.agg [.i a0.f0,.str a0.f1,q29 a0.f2,.bool a0.f3,.bool a0.f4,w9 a0.f5,w9 a0.f6]] (mkH [⟨[.str q,w34 u,.i Q,.i z],4,false⟩]) ((Xi26 a0 q u Q z).thr r) ((Xi26 a0 q u Q z).enc r) ((Xi26 a0 q u Q z).fin r):=by
 intro a0 q u Q z r h
 refine qA2 (Xi26 a0 q u Q z) Try.func87 Kr Kr rfl (t:=i26B k F a0 q u Q z) ?_ h
 unfold i26B
 refine qA (eE:=[(0,.ptr 0 4 0),(1,.agg [.i a0.f0,.str a0.f1,q29 a0.f2,.bool a0.f3,.bool a0.f4,w9 a0.f5,w9 a0.f6])]) Kr ?_
 let Y:Env:=[(6,.ptr 0 4 0),(4,.ptr 2 7 0),(3,.ptr 1 7 0),(0,.ptr 0 4 0),(1,n29 a0)]
 let Q1:Blk:=⟨[.str q,w34 u,.i Q,.i z],4,false⟩
 let E:Blk:=⟨[.i 0,.str [],.nils,.bool false,.bool false,.nils,.nils],0,false⟩
 refine oH 9 (atN 1 (ctl1 i26p1)) Y (mkH [Q1,⟨e29 a0,0,false⟩,E]) ?_
 refine oX (λ(o:(Bool×Int)) => .bool o.1) (λo=>[⟨[.str q,w34 u,.i o.2,.i z],4,false⟩,⟨e29 a0,0,false⟩,E]) (atN 2 (ctl1 i26p1)) 7 [0] [] [] [] [] [.ptr 0 4 0,.str [123]] (qAj k ([123]:LN) q u Q z) trivial (λ_=>trivial) trivial λo a5=>?_
 refine oR 1 i26p2 ((7,.bool o.1)::Y) ?_
 refine oS 7 (λhb=>?_) (λhb=>?_)
 ·let E2:Env:=((10,.slice 3 7 0 1 7)::(9,n29 a0)::(8,.ptr 0 4 0)::(7,.bool true)::(7,.bool o.1)::Y)
  let Q3:Blk:=⟨[.str q,w34 u,.i o.2,.i z],4,false⟩
  refine oH 6 (atN 3 (ctl1 i26p3)) E2 (mkH [Q3,⟨e29 a0,0,false⟩,E,⟨e29 a0,0,false⟩]) ?_
  refine qCo 10 3 7 1 7 Kr rfl ?_
  let Q4:Blk:=⟨(([a0]:List S28)).flatMap e29,0,false⟩
  refine oH 3 (atN 6 (ctl1 i26p3)) ((13,.func 81 [.ptr 0 4 0] [])::(12,.ptr 0 4 0)::(11,.agg [.i 9,.str [],.own 3 (([a0]:List S28)).length 7,.bool false,.bool false,.nils,.nils])::(10,.own 3 (([a0]:List S28)).length 7)::E2) (mkH [Q3,⟨e29 a0,0,false⟩,E,Q4]) ?_
  refine oXW 0 [Q3,⟨e29 a0,0,false⟩,E,Q4] (λ(a:Ri21) => .agg [.i a.1,.str a.2.1,.own 3 (a.2.2.2.2.2.2.2).length 7,.bool a.2.2.1,.bool a.2.2.2.1,w9 a.2.2.2.2.1,w9 a.2.2.2.2.2.1]) (λa=>[⟨[.str q,w34 u,.i a.2.2.2.2.2.2.1,.i z],4,false⟩,⟨e29 a0,0,false⟩,E,⟨(a.2.2.2.2.2.2.2).flatMap e29,0,false⟩]) (atN 7 (ctl1 i26p3)) 14 [0,3] [0,1] [0,1] [0,3] [] [0,0,0,1] [.ptr 0 4 0,.agg [.i 9,.str [],.own 3 (([a0]:List S28)).length 7,.bool false,.bool false,.nils,.nils],.str [125],.func 81 [.ptr 0 4 0] []] [.ptr 0 4 0,.agg [.i 9,.str [],.own 3 (([a0]:List S28)).length 7,.bool false,.bool false,w9 ([]:LL),w9 ([]:LL)],.str [125],.func 81 [.ptr 0 4 0] []] (.cons (.agg (.cons (.cons (.cons (.cons (.cons (.nil (.nil (.refl)))))))) (.refl))) (hF.i21_ok (9:Int) ([]:LN) false false ([]:LL) ([]:LL) ([125]:LN) q u o.2 z ([a0]:List S28)) ⟨u29 _,trivial⟩ (λ_=>⟨u29 _,trivial⟩) trivial λa a8=>?_
  exact oQF 3 [⟨[.str q,w34 u,.i a.2.2.2.2.2.2.1,.i z],4,false⟩,⟨e29 a0,0,false⟩,⟨[.i a.1,.str a.2.1,.own 3 (a.2.2.2.2.2.2.2).length 7,.bool a.2.2.1,.bool a.2.2.2.1,w9 a.2.2.2.2.1,w9 a.2.2.2.2.2.1],7,false⟩,⟨(a.2.2.2.2.2.2.2).flatMap e29,0,false⟩] 1 [] [.agg [.i a.1,.str a.2.1,.own 3 (a.2.2.2.2.2.2.2).length 7,.bool a.2.2.1,.bool a.2.2.2.1,w9 a.2.2.2.2.1,w9 a.2.2.2.2.2.1]] (.agg [.i a.1,.str a.2.1,w29 a.2.2.2.2.2.2.2,.bool a.2.2.1,.bool a.2.2.2.1,w9 a.2.2.2.2.1,w9 a.2.2.2.2.2.1]) (.agg (.cs (.cs (qAr qA6 qAh rfl rfl rfl .ps))) .ps) trivial
 ·refine oR 5 (atN 1 (ctl1 i26p4)) ((15,.ptr 0 4 0)::(7,.bool false)::(7,.bool o.1)::Y) ?_
  refine oX (λ(c:Ri22) => .str c.1) (λc=>[⟨[.str q,w34 u,.i c.2,.i z],4,false⟩,⟨e29 a0,0,false⟩,E]) (atN 2 (ctl1 i26p4)) 16 [0] [] [] [] [] [.ptr 0 4 0] (qJn k q u o.2 z) trivial (λ_=>trivial) trivial λc a9=>?_
  let E4:Env:=((17,.ptr 0 4 0)::(5,.str c.1)::(16,.str c.1)::(15,.ptr 0 4 0)::(7,.bool false)::(7,.bool o.1)::Y)
  refine oR 6 (atN 1 (ctl1 i26p6)) E4 ?_
  refine oX (λ(g:(Bool×Int)) => .bool g.1) (λg=>[⟨[.str q,w34 u,.i g.2,.i z],4,false⟩,⟨e29 a0,0,false⟩,E]) (atN 2 (ctl1 i26p6)) 18 [0] [] [] [] [] [.ptr 0 4 0,.str [46]] (qAj k ([46]:LN) q u c.2 z) trivial (λ_=>trivial) trivial λg b1=>?_
  refine oR 1 i26p7 ((18,.bool g.1)::E4) ?_
  refine oK [0,3,4,5,18] [(0,.ptr 0 4 0),(3,.ptr 1 7 0),(4,.ptr 2 7 0),(5,.str c.1),(18,.bool g.1)] ?_
  let E5:Env:=keepOnly ((18,.bool g.1)::E4) [0,3,4,5,18]
  refine oS 18 (λhb=>?_) (λhb=>?_)
  ·refine oR 2 i26p8 ((18,.bool true)::E5) ?_
   refine qA9 (λj K=>?_)
   refine qCp (λh=>?_) (λI T=>?_)
   ·let N:Env:=[(19,.str c.1),(18,.bool true),(0,.ptr 0 4 0),(3,.ptr 1 7 0),(4,.ptr 2 7 0),(5,.str c.1),(18,.bool g.1)]
    let Z:Env:=((24,.top)::(23,.top)::(22,w3 ([(1:Int)]:List Int))::(21,.ptr 0 4 0)::(20,.str j)::N)
    let O:Blk:=⟨[.str q,w34 u,.i g.2,.i z],4,false⟩
    exact qAo (eE:=((27,.top)::(26,w29 ([a0]:List S28))::(25,n29 a0)::Z)) (i26d0.th 4 thrown [] (mkH [O,⟨e29 a0,0,false⟩,E])) (hs:=[(mkH [O,⟨e29 a0,0,false⟩,E]),(mkH [O,⟨e29 a0,0,false⟩,E])]) (LX:=[Q1]) (L:=[O,⟨e29 a0,0,false⟩,E]) rfl rfl rfl Kr rfl ⟨.inl rfl,trivial⟩ Kr Kr Kr Kr (qA7 1 (l':=(opsAt i26p8).toList.drop 1) (eE:=N) (H':=(mkH [O,⟨e29 a0,0,false⟩,E])) (hs:=[]) Kr (qAb (l':=(opsAt i26p8).toList.drop 2) (eE:=((20,.str j)::N)) (hs:=[]) (x:=j) (λ(j:LN)=>(.str j,(mkH [O,⟨e29 a0,0,false⟩,E]))) (catH Kr) K Kr (qA7 2 (l':=(opsAt i26p8).toList.drop 4) (eE:=((22,w3 ([(1:Int)]:List Int))::(21,.ptr 0 4 0)::(20,.str j)::N)) (H':=(mkH [O,⟨e29 a0,0,false⟩,E])) (hs:=[]) Kr (qAn (l':=(opsAt i26p8).toList.drop 5) (eE:=((23,.top)::(22,w3 ([(1:Int)]:List Int))::(21,.ptr 0 4 0)::(20,.str j)::N)) (hs:=[(mkH [O,⟨e29 a0,0,false⟩,E])]) (fi:=96) (args:=[.ptr 0 4 0,w3 ([(1:Int)]:List Int)]) Kr Kr (frS 0 (M:=[O,⟨e29 a0,0,false⟩,E]) (rs:=[0]) (ms:=[]) (mv:=[]) (mm:=[]) (D:=[]) (xs':=[.ptr 0 4 0,w3 ([(1:Int)]:List Int)]) (.refl) ((qH6 k ([(1:Int)]:List Int) q u g.2 z).2 h) trivial trivial Kr) Kr (qA1 (l':=(opsAt i26p8).toList.drop 6) (eE:=Z) (hs:=[]) Kr Kr (qA7 2 (l':=(opsAt i26p8).toList.drop 8) (eE:=((26,w29 ([a0]:List S28))::(25,n29 a0)::Z)) (H':=(mkH [O,⟨e29 a0,0,false⟩,E])) (hs:=[]) Kr (qA1 (l':=(opsAt i26p8).toList.drop 9) (eE:=((27,.top)::(26,w29 ([a0]:List S28))::(25,n29 a0)::Z)) (hs:=[]) Kr Kr (qA1 (l':=(opsAt i26p8).toList.drop 10) (eE:=((27,.top)::(26,w29 ([a0]:List S28))::(25,n29 a0)::Z)) (hs:=[(mkH [O,⟨e29 a0,0,false⟩,E])]) Kr Kr (.nil))))))))) Kr Kr
   ·refine qA9 (λn U=>?_)
    let N:Env:=[(19,.str c.1),(18,.bool true),(0,.ptr 0 4 0),(3,.ptr 1 7 0),(4,.ptr 2 7 0),(5,.str c.1),(18,.bool g.1)]
    let E8:Env:=((24,.str n)::(23,.str I.1)::(22,w3 ([(1:Int)]:List Int))::(21,.ptr 0 4 0)::(20,.str j)::N)
    let S:Blk:=⟨[.str q,w34 u,.i I.2,.i z],4,false⟩
    refine oD (H':=(mkH [S,⟨e29 a0,0,false⟩,⟨[.i 12,.str n,w29 ([a0]:List S28),.bool false,.bool false,.nils,.nils],7,false⟩])) (nav [0] i26p8) ((27,.agg [.i 12,.str n,w29 ([a0]:List S28),.bool false,.bool false,.nils,.nils])::(26,w29 ([a0]:List S28))::(25,n29 a0)::E8) [(mkH [S,⟨e29 a0,0,false⟩,E]),(mkH [S,⟨e29 a0,0,false⟩,⟨[.i 12,.str n,w29 ([a0]:List S28),.bool false,.bool false,.nils,.nils],7,false⟩])] i26d0 (oDr 1 1 N (qAb (l':=(opsAt i26p8).toList.drop 2) (eE:=((20,.str j)::N)) (hs:=[]) (x:=j) (λ(j:LN)=>(.str j,(mkH [⟨[.str q,w34 u,.i g.2,.i z],4,false⟩,⟨e29 a0,0,false⟩,E]))) (catH Kr) K Kr (oDr 2 4 ((22,w3 ([(1:Int)]:List Int))::(21,.ptr 0 4 0)::(20,.str j)::N) (qA5 (l':=(opsAt i26p8).toList.drop 5) (eE:=((23,.str I.1)::(22,w3 ([(1:Int)]:List Int))::(21,.ptr 0 4 0)::(20,.str j)::N)) (hs:=[(mkH [S,⟨e29 a0,0,false⟩,E])]) (H':=(mkH [S,⟨e29 a0,0,false⟩,E])) (fi:=96) (args:=[.ptr 0 4 0,w3 ([(1:Int)]:List Int)]) (v := .str I.1) Kr (frC (rs:=[0]) (ms:=[]) (ms':=[]) ((qH6 k ([(1:Int)]:List Int) q u g.2 z).1 I T) trivial trivial Kr) Kr (qAb (l':=(opsAt i26p8).toList.drop 6) (eE:=E8) (hs:=[]) (x:=n) (λ(n:LN)=>(.str n,(mkH [S,⟨e29 a0,0,false⟩,E]))) (catH Kr) U Kr (oDh 4 10 ((27,.agg [.i 12,.str n,w29 ([a0]:List S28),.bool false,.bool false,.nils,.nils])::(26,w29 ([a0]:List S28))::(25,n29 a0)::E8) (mkH [S,⟨e29 a0,0,false⟩,⟨[.i 12,.str n,w29 ([a0]:List S28),.bool false,.bool false,.nils,.nils],7,false⟩]) [(mkH [S,⟨e29 a0,0,false⟩,⟨[.i 12,.str n,w29 ([a0]:List S28),.bool false,.bool false,.nils,.nils],7,false⟩])] .nil)))))) ?_
    exact oQF 1 [S,⟨e29 a0,0,false⟩,⟨[.i 12,.str n,w29 ([a0]:List S28),.bool false,.bool false,.nils,.nils],7,false⟩] 1 [] [.agg [.i 12,.str n,w29 ([a0]:List S28),.bool false,.bool false,.nils,.nils]] (.agg [.i 12,.str n,w29 ([a0]:List S28),.bool false,.bool false,.vec 0 1 [],.vec 0 1 []]) (.agg (.cs (.cs (.cs (.cs (.cs (.nil (.nil .ps))))))) .ps) trivial
  ·refine oR 5 (atN 1 (ctl1 i26p9)) ((28,.ptr 0 4 0)::(18,.bool false)::E5) ?_
   refine oX (λ(J:Int) => .tuple []) (λJ=>[⟨[.str q,w34 u,.i J,.i z],4,false⟩,⟨e29 a0,0,false⟩,E]) (atN 2 (ctl1 i26p9)) 29 [0] [] [] [0] [] [.ptr 0 4 0,.str [123]] (qAw k ([123]:LN) q u g.2 z) trivial (λ_=>trivial) trivial λJ b4=>?_
   let E9:Env:=((33,.slice 3 7 0 1 7)::(32,n29 a0)::(31,.str c.1)::(30,.ptr 0 4 0)::(29,.tuple [])::(28,.ptr 0 4 0)::(18,.bool false)::E5)
   let Q7:Blk:=⟨[.str q,w34 u,.i J,.i z],4,false⟩
   refine oH 7 (atN 4 (ctl1 i26p10)) E9 (mkH [Q7,⟨e29 a0,0,false⟩,E,⟨e29 a0,0,false⟩]) ?_
   refine qCo 33 3 7 1 7 Kr rfl ?_
   let Q8:Blk:=⟨(([a0]:List S28)).flatMap e29,0,false⟩
   refine oH 3 (atN 7 (ctl1 i26p10)) ((36,.func 78 [.ptr 0 4 0] [])::(35,.ptr 0 4 0)::(34,.agg [.i 11,.str c.1,.own 3 (([a0]:List S28)).length 7,.bool false,.bool false,.nils,.nils])::(33,.own 3 (([a0]:List S28)).length 7)::E9) (mkH [Q7,⟨e29 a0,0,false⟩,E,Q8]) ?_
   refine oXW 0 [Q7,⟨e29 a0,0,false⟩,E,Q8] (λ(b:Ri18) => .agg [.i b.1,.str b.2.1,.own 3 (b.2.2.2.2.2.2.2).length 7,.bool b.2.2.1,.bool b.2.2.2.1,w9 b.2.2.2.2.1,w9 b.2.2.2.2.2.1]) (λb=>[⟨[.str q,w34 u,.i b.2.2.2.2.2.2.1,.i z],4,false⟩,⟨e29 a0,0,false⟩,E,⟨(b.2.2.2.2.2.2.2).flatMap e29,0,false⟩]) (atN 8 (ctl1 i26p10)) 37 [0,3] [0,1] [0,1] [0,3] [] [0,0,0,1] [.ptr 0 4 0,.agg [.i 11,.str c.1,.own 3 (([a0]:List S28)).length 7,.bool false,.bool false,.nils,.nils],.str [125],.func 78 [.ptr 0 4 0] []] [.ptr 0 4 0,.agg [.i 11,.str c.1,.own 3 (([a0]:List S28)).length 7,.bool false,.bool false,w9 ([]:LL),w9 ([]:LL)],.str [125],.func 78 [.ptr 0 4 0] []] (.cons (.agg (.cons (.cons (.cons (.cons (.cons (.nil (.nil (.refl)))))))) (.refl))) (hF.i18_ok (11:Int) c.1 false false ([]:LL) ([]:LL) ([125]:LN) q u J z ([a0]:List S28)) ⟨u29 _,trivial⟩ (λ_=>⟨u29 _,trivial⟩) trivial λb b6=>?_
   exact oQF 3 [⟨[.str q,w34 u,.i b.2.2.2.2.2.2.1,.i z],4,false⟩,⟨e29 a0,0,false⟩,⟨[.i b.1,.str b.2.1,.own 3 (b.2.2.2.2.2.2.2).length 7,.bool b.2.2.1,.bool b.2.2.2.1,w9 b.2.2.2.2.1,w9 b.2.2.2.2.2.1],7,false⟩,⟨(b.2.2.2.2.2.2.2).flatMap e29,0,false⟩] 1 [] [.agg [.i b.1,.str b.2.1,.own 3 (b.2.2.2.2.2.2.2).length 7,.bool b.2.2.1,.bool b.2.2.2.1,w9 b.2.2.2.2.1,w9 b.2.2.2.2.2.1]] (.agg [.i b.1,.str b.2.1,w29 b.2.2.2.2.2.2.2,.bool b.2.2.1,.bool b.2.2.2.1,w9 b.2.2.2.2.1,w9 b.2.2.2.2.2.1]) (.agg (.cs (.cs (qAr qA6 qAh rfl rfl rfl .ps))) .ps) trivial
theorem i26B_ok (k:Nat) (F:Fns0) (a:FnsOk0 F):Pi26 (i26B k F):=λa0 b c g j=>⟨λx h=>qMr k F a a0 b c g j (some x) h,λh=>⟨_,qMr k F a a0 b c g j none h⟩⟩
def i29p1:Pt:=nav [0,0,0] (nav [0] (bodyAt Try.f78))
def i29B (k:Nat) (F:Fns0) (a0:LN) (b:List S33) (c:Int) (g:Int):Option (Option (S28×Int)) :=
 bT (F.i5 (0:Int) a0 b c g) λa=>some (some (a.1,a.2))
theorem qMq (k:Nat) (F:Fns0) (o:FnsOk0 F):∀ a0 b g c r,i29B k F a0 b g c=some r→CallT Try.prog 78 [.ptr 0 4 0] (mkH [⟨[.str a0,w34 b,.i g,.i c],4,false⟩]) ((Xi29 a0 b g c).thr r) ((Xi29 a0 b g c).enc r) ((Xi29 a0 b g c).fin r):=by
 intro a0 b g c r h
 refine qA2 (Xi29 a0 b g c) Try.func78 Kr Kr rfl (t:=i29B k F a0 b g c) ?_ h
 unfold i29B
 refine qA (eE:=[(0,.ptr 0 4 0)]) Kr ?_
 let n:Blk:=⟨[.i 0,.str [],.nils,.bool false,.bool false,.nils,.nils],0,false⟩
 refine oH 7 (atN 1 (ctl1 i29p1)) [(3,.ptr 0 4 0),(2,.ptr 1 7 0),(0,.ptr 0 4 0)] (mkH [⟨[.str a0,w34 b,.i g,.i c],4,false⟩,n]) ?_
 refine oX (λ(a:(S28×Int))=>n29 a.1) (λa=>[⟨[.str a0,w34 b,.i a.2,.i c],4,false⟩,n]) (atN 2 (ctl1 i29p1)) 4 [0] [] [] [0] [] [.ptr 0 4 0,.i 0] (o.i5_ok (0:Int) a0 b g c) trivial (λ_=>trivial) trivial λa j=>?_
 exact oQF 3 [⟨[.str a0,w34 b,.i a.2,.i c],4,false⟩,⟨e29 a.1,7,false⟩] 1 [] [n29 a.1] (n29 a.1) .ps trivial
theorem i29B_ok (k:Nat) (F:Fns0) (a:FnsOk0 F):Pi29 (i29B k F):=λa0 b c g=>⟨λx h=>qMq k F a a0 b c g (some x) h,λh=>⟨_,qMq k F a a0 b c g none h⟩⟩
def i30c0:LL:=[([60,45]:LN),([60,61]:LN)]
def i30p1:Pt:=nav [0,0,0,0] (nav [0] (bodyAt Try.f94))
def i30p2:Pt:=nav [0,0,0] i30p1
def i30p3:Pt:=nav [0,0,0,0] i30p2
def i30p4:Pt:=nav [0,0,0,0] i30p3
def i30p6:Pt:=nav [0,0,0] (nav [0,0] i30p4)
def i30p7:Pt:=nav [1,0,0,0,0] i30p6
def i30p8:Pt:=nav [2,0,0] i30p6
def i30p9:Pt:=nav [0,0,0] i30p7
def i30p10:Pt:=nav [0,0,0,0] i30p8
def i30p11:Pt:=nav [0,0] i30p9
def i30p12:Pt:=nav [0,0] i30p10
def i30p13:Pt:=nav [1,0] i30p11
def i30p16:Pt:=nav [2,0] i30p12
def i30d0:DP:=⟨[23],[(0,0,0),(0,0,1),(0,0,0),(4,0,0),(14,0,0),(31,0,0),(63,0,0)],7,thrown,[],H0⟩
def qFz (k:Nat) (F:Fns0) (c7:Int→(List S28)→Option (Option Ri30)) (a0:Int) (J:LN) (K:Bool) (M:Bool) (N:LL) (O:LL) (D:LN) (E:List S33) (T:Int) (I:Int) (U:List S28) (a:(S28×Int)) (ih:Int→Int→(List S28)→Option (Option Ri30)):Int→Int→(List S28)→Option (Option Ri30) :=
 λ(b:Int) (n:Int) (c:List S28)=>jn (λ(u:Int×S28×(List S28))=>(appS 104 u.2.2 ([u.2.1]:List S28)).bind λo=>bT (i7 k ([93]:LN) D E u.1 I) λg=>if g.1 then (some (some (a0,J,K,M,N,O,g.2,o))) else (bT (i23 k ([44]:LN) D E g.2 I) λx=>c7 x o)) (λz=>if (decide (b < (i30c0.length:Int))) then ((nthL i30c0 b).bind λq=>bT (i7 k q D E n I) λh=>jn (λ(Q:List S28)=>bT (F.i5 (3:Int) D E h.2 I) λj=>z (j.2,(⟨14,q,(⟨(([a.1,j.1]:List S28)).length,(([a.1,j.1]:List S28)).flatMap e29⟩:Raw),false,false,([]:LL),([]:LL)⟩:S28),Q)) (λS=>if h.1 then (S c) else (ih (fW .i64 (b+1)) h.2 c))) else (z (n,a.1,c)))
def qJl (k:Nat) (F:Fns0) (c7:Int→(List S28)→Option (Option Ri30)) (a0:Int) (b:LN) (c:Bool) (g:Bool) (h:LL) (j:LL) (o:LN) (q:List S33) (u:Int) (x:Int) (z:List S28) (a:(S28×Int)) (n:Nat):Int→Int→(List S28)→Option (Option Ri30):=lp (λ_ _ _=>none) (qFz k F c7 a0 b c g h j o q u x z a) n
theorem qR3 (k:Nat) (F:Fns0) (hF:FnsOk0 F) (a0:Int) (T:LN) (U:Bool) (Y:Bool) (Z:LL) (a5:LL) (I:LN) (J:List S33) (a8:Int) (K:Int) (b1:List S28) (c7:Int→(List S28)→Option (Option Ri30)) (a:(S28×Int)) (d5:∀ (b9:Int) (b6:List S28),Ok (Xi30 a0 T U Y Z a5 I J a8 K b1) i30p1 [(0,.ptr 0 4 0),(3,.ptr 2 7 0),(4,.ptr 3 7 0)] (mkH [⟨[.str I,w34 J,.i b9,.i K],4,false⟩,⟨(b6).flatMap e29,0,false⟩,⟨[.i a0,.str T,.own 1 (b6).length 7,.bool U,.bool Y,w9 Z,w9 a5],7,false⟩,⟨[.i 0,.str [],.nils,.bool false,.bool false,.nils,.nils],0,false⟩]) (c7 b9 b6)):∀ (n:Nat) (u:Int) (E:Int) (j:List S28),Ok (Xi30 a0 T U Y Z a5 I J a8 K b1) i30p4 [(0,.ptr 0 4 0),(3,.ptr 2 7 0),(4,.ptr 3 7 0),(5,.ptr 4 7 0),(10,w9 i30c0),(11,.i (i30c0.length:Int)),(12,.i u)] (mkH [⟨[.str I,w34 J,.i E,.i K],4,false⟩,⟨(j).flatMap e29,0,false⟩,⟨[.i a0,.str T,.own 1 (j).length 7,.bool U,.bool Y,w9 Z,w9 a5],7,false⟩,⟨[.i 0,.str [],.nils,.bool false,.bool false,.nils,.nils],0,false⟩,⟨[.i a.1.f0,.str a.1.f1,q29 a.1.f2,.bool a.1.f3,.bool a.1.f4,w9 a.1.f5,w9 a.1.f6],7,false⟩]) (qJl k F c7 a0 T U Y Z a5 I J a8 K b1 a n u E j):=by
 intro n
 induction n with
 | zero=>intro u E j; exact ok_none
 | succ n ih =>
  intro u E j
  show Ok _ _ _ _ (qFz k F c7 a0 T U Y Z a5 I J a8 K b1 a (qJl k F c7 a0 T U Y Z a5 I J a8 K b1 a n) u E j)
  unfold qFz
  refine qAi (p':=nav [0] i30p4) Kr ?_
  let E3:Env:=[(13,.bool (decide (u < (i30c0.length:Int)))),(0,.ptr 0 4 0),(3,.ptr 2 7 0),(4,.ptr 3 7 0),(5,.ptr 4 7 0),(10,w9 i30c0),(11,.i (i30c0.length:Int)),(12,.i u)]
  let Q1:Blk:=⟨[.str I,w34 J,.i E,.i K],4,false⟩
  let Q2:Blk:=⟨(j).flatMap e29,0,false⟩
  let Q3:Blk:=⟨[.i a0,.str T,.own 1 (j).length 7,.bool U,.bool Y,w9 Z,w9 a5],7,false⟩
  let o:Blk:=⟨[.i 0,.str [],.nils,.bool false,.bool false,.nils,.nils],0,false⟩
  refine oH 5 i30p6 E3 (mkH [Q1,Q2,Q3,o,⟨e29 a.1,7,false⟩]) ?_
  refine oJ i30p8 (λ(g:Int×S28×(List S28))=>[(0,.ptr 0 4 0),(3,.ptr 2 7 0),(4,.ptr 3 7 0),(5,.ptr 4 7 0)]) (λ(g:Int×S28×(List S28))=>(mkH [⟨[.str I,w34 J,.i g.1,.i K],4,false⟩,⟨(g.2.2).flatMap e29,0,false⟩,⟨[.i a0,.str T,.own 1 (g.2.2).length 7,.bool U,.bool Y,w9 Z,w9 a5],7,false⟩,o,⟨e29 g.2.1,7,false⟩])) (λg=>?_) (λg4 c2=>?_)
  ·let Q5:Blk:=⟨[.str I,w34 J,.i g.1,.i K],4,false⟩
   let Q7:Blk:=⟨[.i a0,.str T,.own 1 (g.2.2).length 7,.bool U,.bool Y,w9 Z,w9 a5],7,false⟩
   let K1:List Blk:=[Q5,⟨(g.2.2).flatMap e29,0,false⟩,Q7,o,⟨e29 g.2.1,7,false⟩,⟨e29 g.2.1,0,false⟩]
   refine oH 5 (atN 4 (ctl1 i30p8)) [(29,.slice 5 7 0 1 7),(28,n29 g.2.1),(27,.own 1 (g.2.2).length 7),(26,.ptr 2 7 2),(0,.ptr 0 4 0),(3,.ptr 2 7 0),(4,.ptr 3 7 0),(5,.ptr 4 7 0)] (mkH K1) ?_
   refine oC (λ(x:List S28)=>(.own 1 (x).length 7,(mkH [Q5,⟨(x).flatMap e29,0,false⟩,Q7,o,⟨e29 g.2.1,7,false⟩,⟨e29 g.2.1,0,false⟩]))) (atN 5 (ctl1 i30p8)) 30 (appH (sz:=7) qA6 rfl qAx K1 1 104 g.2.2 ([g.2.1]:List S28) rfl rfl Kr) λx d9=>?_
   let Q8:Blk:=⟨(x).flatMap e29,0,false⟩
   let Q9:Blk:=⟨[.i a0,.str T,.own 1 (x).length 7,.bool U,.bool Y,w9 Z,w9 a5],7,false⟩
   refine oLH 5 i30p10 [(0,.ptr 0 4 0),(3,.ptr 2 7 0),(4,.ptr 3 7 0)] (mkH [Q5,Q8,Q9,o,⟨e29 g.2.1,7,false⟩,⟨e29 g.2.1,0,false⟩]) ?_
   let E5:Env:=[(0,.ptr 0 4 0),(3,.ptr 2 7 0),(4,.ptr 3 7 0)]
   refine oR 2 (atN 1 (ctl1 i30p10)) ((32,.ptr 0 4 0)::E5) ?_
   refine oX (λ(q:(Bool×Int)) => .bool q.1) (λq=>[⟨[.str I,w34 J,.i q.2,.i K],4,false⟩,Q8,Q9,o,⟨e29 g.2.1,7,false⟩,⟨e29 g.2.1,0,false⟩]) (atN 2 (ctl1 i30p10)) 33 [0] [] [] [2] [0,1] [.ptr 0 4 0,.str [93]] (qAj k ([93]:LN) I J g.1 K) trivial (λ_=>trivial) ⟨u29 _,trivial⟩ λq e0=>?_
   refine oR 1 i30p12 ((33,.bool q.1)::(32,.ptr 0 4 0)::E5) ?_
   refine oS 33 (λhb=>?_) (λhb=>?_)
   ·let d2:Blk:=⟨[.str I,w34 J,.i q.2,.i K],4,false⟩
    refine oH 7 .fin ((34,.agg [.i a0,.str T,.own 1 (x).length 7,.bool U,.bool Y,w9 Z,w9 a5])::(33,.bool true)::(33,.bool q.1)::(32,.ptr 0 4 0)::E5) (mkH [d2,Q8,Q9,Q9,⟨e29 g.2.1,7,false⟩,⟨e29 g.2.1,0,false⟩]) ?_
    exact qC3 (r:=some (a0,T,U,Y,Z,a5,q.2,x)) (xs:=[.agg [.i a0,.str T,.own 1 (x).length 7,.bool U,.bool Y,w9 Z,w9 a5]]) [d2,Q8] [Q9,Q9,⟨e29 g.2.1,7,false⟩,⟨e29 g.2.1,0,false⟩] Kr Kr Kr Kr Kr ⟨Kr,⟨(qA3 _ (u29 _)),trivial⟩⟩ Kr Kr
   ·refine oR 4 (atN 1 (ctl1 i30p16)) ((35,.ptr 0 4 0)::(33,.bool false)::(33,.bool q.1)::(32,.ptr 0 4 0)::E5) ?_
    refine oX (λ(b2:Int) => .tuple []) (λb2=>[⟨[.str I,w34 J,.i b2,.i K],4,false⟩,Q8,Q9,o,⟨e29 g.2.1,7,false⟩,⟨e29 g.2.1,0,false⟩]) (atN 2 (ctl1 i30p16)) 36 [0] [] [] [0,2] [0,1] [.ptr 0 4 0,.str [44]] (qAw k ([44]:LN) I J q.2 K) trivial (λ_=>trivial) ⟨u29 _,trivial⟩ λb2 e1=>?_
    refine oL 1 i30p1 [(0,.ptr 0 4 0),(3,.ptr 2 7 0),(4,.ptr 3 7 0)] ?_
    refine qAf [⟨[.str I,w34 J,.i b2,.i K],4,false⟩,Q8,Q9,o] [⟨e29 g.2.1,7,false⟩,⟨e29 g.2.1,0,false⟩] Kr rfl Kr ⟨Kr,⟨(qA3 _ (u29 _)),⟨Kr,⟨Kr,trivial⟩⟩⟩⟩ ?_
    exact d5 b2 x
  ·refine oS 13 (λhb=>?_) (λhb=>?_)
   ·refine oH 6 (atN 0 (ctl1 i30p7)) ((13,.bool true)::E3) (mkH [Q1,Q2,Q3,o,⟨e29 a.1,7,false⟩]) ?_
    refine oC (λ(b:LN)=>(.vptr [.str b],(mkH [Q1,Q2,Q3,o,⟨e29 a.1,7,false⟩]))) (atN 1 (ctl1 i30p7)) 14 (vidxH (sz:=1) qBx Kr) λb f7=>?_
    let E8:Env:=((17,.str b)::(16,.ptr 0 4 0)::(7,.str b)::(15,.str b)::(14,.vptr [.str b])::(13,.bool true)::E3)
    refine oH 7 (atN 2 (ctl1 i30p9)) E8 (mkH [Q1,Q2,Q3,o,⟨e29 a.1,7,false⟩]) ?_
    refine oX (λ(z:(Bool×Int)) => .bool z.1) (λz=>[⟨[.str I,w34 J,.i z.2,.i K],4,false⟩,Q2,Q3,o,⟨e29 a.1,7,false⟩]) (atN 3 (ctl1 i30p9)) 18 [0] [] [] [2] [0,1] [.ptr 0 4 0,.str b] (qAj k b I J E K) trivial (λ_=>trivial) ⟨u29 _,trivial⟩ λz f8=>?_
    refine oR 1 i30p11 ((18,.bool z.1)::E8) ?_
    let N:Blk:=⟨[.str I,w34 J,.i z.2,.i K],4,false⟩
    refine oJ i30p13 (λ(z9:List S28)=>[(0,.ptr 0 4 0),(3,.ptr 2 7 0),(4,.ptr 3 7 0),(5,.ptr 4 7 0),(7,.str b)]) (λ(z9:List S28)=>(mkH [N,⟨(z9).flatMap e29,0,false⟩,⟨[.i a0,.str T,.own 1 (z9).length 7,.bool U,.bool Y,w9 Z,w9 a5],7,false⟩,o,⟨e29 a.1,7,false⟩])) (λz9=>?_) (λj9 f9=>?_)
    ·refine qCp (λh=>?_) (λc c4=>?_)
     ·let E9:Env:=[(21,.ptr 0 4 0),(20,n29 a.1),(19,.str b),(0,.ptr 0 4 0),(3,.ptr 2 7 0),(4,.ptr 3 7 0),(5,.ptr 4 7 0),(7,.str b)]
      let b3:Blk:=⟨(z9).flatMap e29,0,false⟩
      let b4:Blk:=⟨[.i a0,.str T,.own 1 (z9).length 7,.bool U,.bool Y,w9 Z,w9 a5],7,false⟩
      exact qAo (eE:=((24,.top)::(23,.top)::(22,.top)::E9)) (i30d0.th 3 thrown [0,2] (mkH [N,b3,b4,o,⟨e29 a.1,7,false⟩])) (hs:=[(mkH [N,b3,b4,o,⟨e29 a.1,7,false⟩]),(mkH [N,b3,b4,o,⟨e29 a.1,7,false⟩])]) (LX:=[⟨[.str I,w34 J,.i a8,.i K],4,false⟩,⟨(b1).flatMap e29,0,false⟩]) (L:=[N,b3,b4,o,⟨e29 a.1,7,false⟩]) rfl rfl rfl Kr rfl ⟨.inl rfl,⟨.inl rfl,trivial⟩⟩ Kr Kr Kr Kr (qA7 3 (l':=(opsAt i30p13).toList.drop 3) (eE:=E9) (H':=(mkH [N,b3,b4,o,⟨e29 a.1,7,false⟩])) (hs:=[]) Kr (qAn (l':=(opsAt i30p13).toList.drop 4) (eE:=((22,.top)::E9)) (hs:=[(mkH [N,b3,b4,o,⟨e29 a.1,7,false⟩])]) (fi:=29) (args:=[.ptr 0 4 0,.i 3]) Kr Kr (frS 0 (M:=[N,b3,b4,o,⟨e29 a.1,7,false⟩]) (rs:=[0]) (ms:=[]) (mv:=[0,1]) (mm:=[0,1]) (D:=[0,2]) (xs':=[.ptr 0 4 0,.i 3]) (.refl) ((hF.i5_ok (3:Int) I J z.2 K).2 h) trivial ⟨u29 _,trivial⟩ Kr) Kr (qA1 (l':=(opsAt i30p13).toList.drop 5) (eE:=((23,.top)::(22,.top)::E9)) (hs:=[]) Kr Kr (qA1 (l':=(opsAt i30p13).toList.drop 6) (eE:=((24,.top)::(23,.top)::(22,.top)::E9)) (hs:=[]) Kr Kr (qA1 (l':=(opsAt i30p13).toList.drop 7) (eE:=((24,.top)::(23,.top)::(22,.top)::E9)) (hs:=[(mkH [N,b3,b4,o,⟨e29 a.1,7,false⟩])]) Kr Kr (.nil)))))) Kr Kr
     ·let E9:Env:=[(21,.ptr 0 4 0),(20,n29 a.1),(19,.str b),(0,.ptr 0 4 0),(3,.ptr 2 7 0),(4,.ptr 3 7 0),(5,.ptr 4 7 0),(7,.str b)]
      let O:Blk:=⟨[.str I,w34 J,.i c.2,.i K],4,false⟩
      let Q:Blk:=⟨(z9).flatMap e29,0,false⟩
      let S:Blk:=⟨[.i a0,.str T,.own 1 (z9).length 7,.bool U,.bool Y,w9 Z,w9 a5],7,false⟩
      let b7:Blk:=⟨[.i 14,.str b,w29 ([a.1,c.1]:List S28),.bool false,.bool false,.nils,.nils],7,false⟩
      refine oD (H':=(mkH [O,Q,S,o,b7])) (nav [0] i30p13) ((24,.agg [.i 14,.str b,w29 ([a.1,c.1]:List S28),.bool false,.bool false,.nils,.nils])::(23,w29 ([a.1,c.1]:List S28))::(22,n29 c.1)::E9) [(mkH [O,Q,S,o,⟨e29 a.1,7,false⟩]),(mkH [O,Q,S,o,b7])] i30d0 (oDr 3 3 E9 (qA5 (l':=(opsAt i30p13).toList.drop 4) (eE:=((22,n29 c.1)::E9)) (hs:=[(mkH [O,Q,S,o,⟨e29 a.1,7,false⟩])]) (H':=(mkH [O,Q,S,o,⟨e29 a.1,7,false⟩])) (fi:=29) (args:=[.ptr 0 4 0,.i 3]) (v:=n29 c.1) Kr (frC (rs:=[0]) (ms:=[]) (ms':=[]) ((hF.i5_ok (3:Int) I J z.2 K).1 c c4) trivial trivial Kr) Kr (oDh 3 7 ((24,.agg [.i 14,.str b,w29 ([a.1,c.1]:List S28),.bool false,.bool false,.nils,.nils])::(23,w29 ([a.1,c.1]:List S28))::(22,n29 c.1)::E9) (mkH [O,Q,S,o,b7]) [(mkH [O,Q,S,o,b7])] .nil))) ?_
      refine oR 2 i30p8 ((24,.agg [.i 14,.str b,w29 ([a.1,c.1]:List S28),.bool false,.bool false,.nils,.nils])::(23,w29 ([a.1,c.1]:List S28))::(22,n29 c.1)::E9) ?_
      refine qDv [O,Q,S,o,b7] 4 7 [.i 14,.str b,w29 ([a.1,c.1]:List S28),.bool false,.bool false,.nils,.nils] [.i 14,.str b,w29 ([a.1,c.1]:List S28),.bool false,.bool false,w9 ([]:LL),w9 ([]:LL)] Kr rfl (.cons (.cons (.cons (.cons (.cons (.nil (.nil (.refl)))))))) ?_
      refine oHp (mkH [O,Q,S,o,⟨[.i 14,.str b,w29 ([a.1,c.1]:List S28),.bool false,.bool false,w9 ([]:LL),w9 ([]:LL)],7,false⟩]) ?_
      refine oK [0,3,4,5] [(0,.ptr 0 4 0),(3,.ptr 2 7 0),(4,.ptr 3 7 0),(5,.ptr 4 7 0)] ?_
      exact c2 (c.2,(⟨14,b,(⟨(([a.1,c.1]:List S28)).length,(([a.1,c.1]:List S28)).flatMap e29⟩:Raw),false,false,([]:LL),([]:LL)⟩:S28),z9)
    ·refine oS 18 (λhb=>?_) (λhb=>?_)
     ·refine oLH 2 i30p13 [(0,.ptr 0 4 0),(3,.ptr 2 7 0),(4,.ptr 3 7 0),(5,.ptr 4 7 0),(7,.str b)] (mkH [N,Q2,Q3,o,⟨e29 a.1,7,false⟩]) ?_
      exact f9 j
     ·refine oLH 6 i30p4 [(0,.ptr 0 4 0),(3,.ptr 2 7 0),(4,.ptr 3 7 0),(5,.ptr 4 7 0),(10,w9 i30c0),(11,.i (i30c0.length:Int)),(12,.i (fW .i64 (u+1)))] (mkH [N,Q2,Q3,o,⟨e29 a.1,7,false⟩]) ?_
      exact ih (fW .i64 (u+1)) z.2 j
   ·refine oH 3 i30p8 ((13,.bool false)::E3) (mkH [Q1,Q2,Q3,o,⟨e29 a.1,7,false⟩]) ?_
    refine oK [0,3,4,5] [(0,.ptr 0 4 0),(3,.ptr 2 7 0),(4,.ptr 3 7 0),(5,.ptr 4 7 0)] ?_
    exact c2 (E,a.1,j)
def qG (k:Nat) (F:Fns0)  (a0:Int) (n:LN) (o:Bool) (q:Bool) (u:LL) (x:LL) (g:LN) (h:List S33) (z:Int) (j:Int) (D:List S28) (ih:Int→(List S28)→Option (Option Ri30)):Int→(List S28)→Option (Option Ri30) :=
 λ(b:Int) (c:List S28)=>bT (F.i5 (3:Int) g h b j) λa=>qJl k F ih a0 n o q u x g h z j D a k 0 a.2 c
def qH7 (k:Nat) (F:Fns0)  (a0:Int) (a:LN) (b:Bool) (c:Bool) (g:LL) (h:LL) (j:LN) (o:List S33) (q:Int) (u:Int) (x:List S28) (n:Nat):Int→(List S28)→Option (Option Ri30):=lp (λ_ _=>none) (qG k F a0 a b c g h j o q u x) n
theorem qR4 (k:Nat) (F:Fns0) (O:FnsOk0 F) (a0:Int) (o:LN) (q:Bool) (u:Bool) (x:LL) (z:LL) (g:LN) (h:List S33) (D:Int) (j:Int) (E:List S28)    : ∀ (n:Nat) (c:Int) (b:List S28),Ok (Xi30 a0 o q u x z g h D j E) i30p1 [(0,.ptr 0 4 0),(3,.ptr 2 7 0),(4,.ptr 3 7 0)] (mkH [⟨[.str g,w34 h,.i c,.i j],4,false⟩,⟨(b).flatMap e29,0,false⟩,⟨[.i a0,.str o,.own 1 (b).length 7,.bool q,.bool u,w9 x,w9 z],7,false⟩,⟨[.i 0,.str [],.nils,.bool false,.bool false,.nils,.nils],0,false⟩]) (qH7 k F a0 o q u x z g h D j E n c b):=by
 intro n
 induction n with
 | zero=>intro c b; exact ok_none
 | succ n ih =>
  intro c b
  show Ok _ _ _ _ (qG k F a0 o q u x z g h D j E (qH7 k F a0 o q u x z g h D j E n) c b)
  unfold qG
  refine qAi (p':=nav [0] i30p1) Kr ?_
  let I:Blk:=⟨(b).flatMap e29,0,false⟩
  let J:Blk:=⟨[.i a0,.str o,.own 1 (b).length 7,.bool q,.bool u,w9 x,w9 z],7,false⟩
  let K:Blk:=⟨[.i 0,.str [],.nils,.bool false,.bool false,.nils,.nils],0,false⟩
  refine oH 4 (atN 1 (ctl1 i30p2)) [(8,.ptr 0 4 0),(0,.ptr 0 4 0),(3,.ptr 2 7 0),(4,.ptr 3 7 0)] (mkH [⟨[.str g,w34 h,.i c,.i j],4,false⟩,I,J,K]) ?_
  refine oX (λ(a:(S28×Int))=>n29 a.1) (λa=>[⟨[.str g,w34 h,.i a.2,.i j],4,false⟩,I,J,K]) (atN 2 (ctl1 i30p2)) 9 [0] [] [] [0,2] [0,1] [.ptr 0 4 0,.i 3] (O.i5_ok (3:Int) g h c j) trivial (λ_=>trivial) ⟨u29 _,trivial⟩ λa M=>?_
  let N:Blk:=⟨[.str g,w34 h,.i a.2,.i j],4,false⟩
  refine oH 7 (atN 1 (ctl1 i30p3)) [(10,.slice 5 2 0 2 1),(5,.ptr 4 7 0),(9,n29 a.1),(8,.ptr 0 4 0),(0,.ptr 0 4 0),(3,.ptr 2 7 0),(4,.ptr 3 7 0)] (mkH [N,I,J,K,⟨e29 a.1,7,false⟩,⟨[.str [60,45],.str [60,61]],0,false⟩]) ?_
  refine oZ 10 5 2 1 [.str [60,45],.str [60,61]] [0,3,4,5,8,9] [0,1] ⟨u29 _,trivial⟩ ?_
  refine oLH 5 i30p4 [(0,.ptr 0 4 0),(3,.ptr 2 7 0),(4,.ptr 3 7 0),(5,.ptr 4 7 0),(10,w9 i30c0),(11,.i (i30c0.length:Int)),(12,.i 0)] (mkH [N,I,J,K,⟨e29 a.1,7,false⟩,⟨[],0,false⟩]) ?_
  refine qAf [N,I,J,K,⟨e29 a.1,7,false⟩] [⟨[],0,false⟩] Kr rfl Kr ⟨Kr,⟨(qA3 _ (u29 _)),⟨Kr,⟨Kr,⟨Kr,trivial⟩⟩⟩⟩⟩ ?_
  exact (qR3 k F O a0 o q u x z g h D j E (qH7 k F a0 o q u x z g h D j E n) a ih k) 0 a.2 b
def i30B (k:Nat) (F:Fns0) (a0:Int) (c:LN) (g:Bool) (h:Bool) (j:LL) (n:LL) (o:LN) (q:List S33) (a:Int) (u:Int) (b:List S28):Option (Option Ri30) :=
 qH7 k F a0 c g h j n o q a u b k a b
theorem qMp (k:Nat) (F:Fns0) (J:FnsOk0 F):∀ a0 b c g j n q u o x a r,i30B k F a0 b c g j n q u o x a=some r→CallT Try.prog 94 [.ptr 0 4 0,.agg [.i a0,.str b,.own 1 (a).length 7,.bool c,.bool g,w9 j,w9 n]] (mkH [⟨[.str q,w34 u,.i o,.i x],4,false⟩,⟨(a).flatMap e29,0,false⟩]) ((Xi30 a0 b c g j n q u o x a).thr r) ((Xi30 a0 b c g j n q u o x a).enc r) ((Xi30 a0 b c g j n q u o x a).fin r):=by
 intro a0 b c g j n q u o x a r h
 refine qA2 (Xi30 a0 b c g j n q u o x a) Try.func94 Kr Kr rfl (t:=i30B k F a0 b c g j n q u o x a) ?_ h
 unfold i30B
 refine qA (eE:=[(0,.ptr 0 4 0),(1,.agg [.i a0,.str b,.own 1 (a).length 7,.bool c,.bool g,w9 j,w9 n])]) Kr ?_
 let z:Blk:=⟨[.str q,w34 u,.i o,.i x],4,false⟩
 let D:Blk:=⟨(a).flatMap e29,0,false⟩
 let I:Blk:=⟨[.i a0,.str b,.own 1 (a).length 7,.bool c,.bool g,w9 j,w9 n],0,false⟩
 let E:Blk:=⟨[.i 0,.str [],.nils,.bool false,.bool false,.nils,.nils],0,false⟩
 refine oLH 7 i30p1 [(0,.ptr 0 4 0),(3,.ptr 2 7 0),(4,.ptr 3 7 0)] (mkH [z,D,I,E]) ?_
 refine qQ2 [z,D,I,E] 2 [.i a0,.str b,.own 1 (a).length 7,.bool c,.bool g,w9 j,w9 n] 0 7 rfl rfl (by decide) ?_
 refine oHp (mkH [z,D,⟨[.i a0,.str b,.own 1 (a).length 7,.bool c,.bool g,w9 j,w9 n],7,false⟩,E]) ?_
 exact (qR4 k F J a0 b c g j n q u o x a k) o a
theorem i30B_ok (k:Nat) (F:Fns0) (a:FnsOk0 F):Pi30 (i30B k F):=λa0 b c g j n o q u z D=>⟨λx h=>qMp k F a a0 b c g j n o q u z D (some x) h,λh=>⟨_,qMp k F a a0 b c g j n o q u z D none h⟩⟩
def i31p2:Pt:=nav [0,0,0,0] (nav [0,0,0] (nav [0] (bodyAt Try.f80)))
def i31p3:Pt:=nav [0,0,0,0] i31p2
def i31p4:Pt:=nav [0,0] i31p3
def i31p5:Pt:=nav [1,0] i31p4
def i31p6:Pt:=nav [2,0] i31p4
def i31p7:Pt:=nav [0,0] i31p5
def i31p8:Pt:=nav [0,0] i31p6
def i31p9:Pt:=nav [0,0,0] i31p7
def i31p10:Pt:=nav [1] i31p8
def i31p11:Pt:=nav [2,0] i31p8
def i31p12:Pt:=nav [0,0,0,0] i31p9
def i31p13:Pt:=nav [0,0] i31p11
def i31p14:Pt:=nav [0,0] i31p12
def i31p15:Pt:=nav [1] i31p14
def i31p16:Pt:=nav [2,0,0,0] i31p14
def i31p17:Pt:=nav [0,0] i31p16
def i31p18:Pt:=nav [1,0] i31p17
def i31p19:Pt:=nav [2,0,0,0] i31p17
def i31p20:Pt:=nav [0,0,0,0] i31p18
def i31p21:Pt:=nav [0,0] i31p19
def i31p22:Pt:=nav [0,0,0] i31p20
def i31p25:Pt:=nav [0,0] i31p22
def i31p27:Pt:=nav [1,0,0] i31p25
def qDy (k:Nat) (F:Fns0) (n:LN×Int→Option (Option (S28×Int))) (a0:LN) (o:List S33) (q:Int) (u:Int×S28) (ih:LN→Int→Option (Option (S28×Int))):LN→Int→Option (Option (S28×Int)) :=
 λ(b:LN) (g:Int)=>bT (i7 k ([45]:LN) a0 o g q) λa=>if a.1 then ((catS b ([45]:LN)).bind λh=>bT (i33 k ([(1:Int)]:List Int) a0 o a.2 q) λc=>(catS h c.1).bind λj=>ih j c.2) else (n (b,a.2))
def qFy (k:Nat) (F:Fns0) (a:LN×Int→Option (Option (S28×Int))) (a0:LN) (c:List S33) (g:Int) (b:Int×S28) (n:Nat):LN→Int→Option (Option (S28×Int)):=lp (λ_ _=>none) (qDy k F a a0 c g b) n
theorem qOd (k:Nat) (F:Fns0) (U:FnsOk0 F) (a0:LN) (u:List S33) (S:Int) (x:Int) (z:LN×Int→Option (Option (S28×Int))) (a:Int×S28) (E:∀ q:LN×Int,Ok (Xi31 a0 u S x) i31p19 ((λ(q:LN×Int)=>[(2,.ptr 1 7 0),(3,.ptr 2 7 0),(5,.str q.1)]) q) ((λ(q:LN×Int)=>(mkH [⟨[.str a0,w34 u,.i q.2,.i x],4,false⟩,⟨[.i 0,.str [],.nils,.bool false,.bool false,.nils,.nils],0,false⟩,⟨[.i a.2.f0,.str a.2.f1,q29 a.2.f2,.bool a.2.f3,.bool a.2.f4,w9 a.2.f5,w9 a.2.f6],7,false⟩])) q) (z q)):∀ (n:Nat) (b:LN) (g:Int),Ok (Xi31 a0 u S x) i31p20 [(0,.ptr 0 4 0),(2,.ptr 1 7 0),(3,.ptr 2 7 0),(5,.str b)] (mkH [⟨[.str a0,w34 u,.i g,.i x],4,false⟩,⟨[.i 0,.str [],.nils,.bool false,.bool false,.nils,.nils],0,false⟩,⟨[.i a.2.f0,.str a.2.f1,q29 a.2.f2,.bool a.2.f3,.bool a.2.f4,w9 a.2.f5,w9 a.2.f6],7,false⟩]) (qFy k F z a0 u x a n b g):=by
 intro n
 induction n with
 | zero=>intro b g; exact ok_none
 | succ n ih =>
  intro b g
  show Ok _ _ _ _ (qDy k F z a0 u x a (qFy k F z a0 u x a n) b g)
  unfold qDy
  refine qAi (p':=nav [0] i31p20) Kr ?_
  let I:Env:=[(42,.ptr 0 4 0),(0,.ptr 0 4 0),(2,.ptr 1 7 0),(3,.ptr 2 7 0),(5,.str b)]
  let D:Blk:=⟨[.i 0,.str [],.nils,.bool false,.bool false,.nils,.nils],0,false⟩
  refine oH 4 (atN 1 (ctl1 i31p22)) I (mkH [⟨[.str a0,w34 u,.i g,.i x],4,false⟩,D,⟨e29 a.2,7,false⟩]) ?_
  refine oX (λ(c:(Bool×Int)) => .bool c.1) (λc=>[⟨[.str a0,w34 u,.i c.2,.i x],4,false⟩,D,⟨e29 a.2,7,false⟩]) (atN 2 (ctl1 i31p22)) 43 [0] [] [] [] [] [.ptr 0 4 0,.str [45]] (qAj k ([45]:LN) a0 u g x) trivial (λ_=>trivial) trivial λc J=>?_
  refine oR 1 i31p25 ((43,.bool c.1)::I) ?_
  refine oS 43 (λT=>?_) (λT=>?_)
  ·refine oR 5 (atN 1 (ctl1 i31p27)) ((44,.str b)::(43,.bool true)::(43,.bool c.1)::I) ?_
   let O:Blk:=⟨[.str a0,w34 u,.i c.2,.i x],4,false⟩
   refine oC (λ(j:LN)=>(.str j,(mkH [O,D,⟨e29 a.2,7,false⟩]))) (atN 2 (ctl1 i31p27)) 45 (catH Kr) λj K=>?_
   refine oH 2 (atN 4 (ctl1 i31p27)) ((47,.slice 3 1 0 1 1)::(46,.ptr 0 4 0)::(45,.str j)::(44,.str b)::(43,.bool true)::(43,.bool c.1)::I) (mkH [O,D,⟨e29 a.2,7,false⟩,⟨[.i 1],0,false⟩]) ?_
   refine oZ 47 3 1 1 [.i 1] [0,2,3,5,42,43,44,45,46] [] trivial ?_
   refine oE [(47,w3 ([(1:Int)]:List Int)),(0,.ptr 0 4 0),(2,.ptr 1 7 0),(3,.ptr 2 7 0),(5,.str b),(42,.ptr 0 4 0),(43,.bool true),(44,.str b),(45,.str j),(46,.ptr 0 4 0)] ?_
   refine oHp (mkH [O,D,⟨e29 a.2,7,false⟩,⟨[],0,false⟩]) ?_
   refine oX (λ(h:Ri33) => .str h.1) (λh=>[⟨[.str a0,w34 u,.i h.2,.i x],4,false⟩,D,⟨e29 a.2,7,false⟩,⟨[],0,false⟩]) (atN 5 (ctl1 i31p27)) 48 [0] [] [] [] [] [.ptr 0 4 0,w3 ([(1:Int)]:List Int)] (qH6 k ([(1:Int)]:List Int) a0 u c.2 x) trivial (λ_=>trivial) trivial λh M=>?_
   let Q:Blk:=⟨[.str a0,w34 u,.i h.2,.i x],4,false⟩
   refine oC (λ(o:LN)=>(.str o,(mkH [Q,D,⟨e29 a.2,7,false⟩,⟨[],0,false⟩]))) (atN 6 (ctl1 i31p27)) 49 (catH Kr) λo N=>?_
   refine oLH 2 i31p20 [(0,.ptr 0 4 0),(2,.ptr 1 7 0),(3,.ptr 2 7 0),(5,.str o)] (mkH [Q,D,⟨e29 a.2,7,false⟩,⟨[],0,false⟩]) ?_
   refine qAf [Q,D,⟨e29 a.2,7,false⟩] [⟨[],0,false⟩] Kr rfl Kr ⟨Kr,⟨Kr,⟨Kr,trivial⟩⟩⟩ ?_
   exact ih o h.2
  ·refine oL 4 i31p19 [(2,.ptr 1 7 0),(3,.ptr 2 7 0),(5,.str b)] ?_
   exact E (b,c.2)
def i31B (k:Nat) (F:Fns0) (a0:LN) (b:List S33) (T:Int) (c:Int):Option (Option (S28×Int)) :=
 (i9 k a0 b T c).bind λu=>(g75 k u.f0).bind λK=>jn (λ(g:Int×S28)=>bT (i7 k ([58]:LN) a0 b g.1 c) λh=>jn (λ(D:LN×Int)=>bT (i7 k ([47]:LN) a0 b D.2 c) λj=>jn (λ(q:LN×Int)=>if (eqL q.1 []) then (some (some (g.2,q.2))) else (some (some ((⟨(7:Int),q.1,⟨(([g.2]:List S28)).length,(([g.2]:List S28)).flatMap e29⟩,false,false,([]:LL),([]:LL)⟩:S28),q.2)))) (λM=>if j.1 then ((catS D.1 ([47]:LN)).bind λE=>bT (i33 k ([(1:Int)]:List Int) a0 b j.2 c) λn=>(catS E n.1).bind λI=>qFy k F M a0 b c g k I n.2) else (M (D.1,j.2)))) (λN=>if h.1 then (bT (i39 k a0 b h.2 c) λx=>(catS ([58]:LN) x.1).bind λO=>N (O,x.2)) else (N (([]:LN),h.2)))) (λJ=>if K then (bT (i11 k a0 b T c) λQ=>J (Q,(⟨1,u.f1,(⟨(([]:List S28)).length,(([]:List S28)).flatMap e29⟩:Raw),false,false,([]:LL),([]:LL)⟩:S28))) else (bT (i7 k ([40]:LN) a0 b T c) λo=>if o.1 then (bT (F.i17 a0 b o.2 c) λz=>J (z.2,z.1)) else (bT (i23 k ([60,60]:LN) a0 b o.2 c) λS=>bT (F.i20 (6:Int) ([]:LN) false false ([]:LL) ([]:LL) ([62,62]:LN) a0 b S c ([]:List S28)) λa=>J (a.2.2.2.2.2.2.1,(⟨a.1,a.2.1,(⟨(a.2.2.2.2.2.2.2).length,(a.2.2.2.2.2.2.2).flatMap e29⟩:Raw),a.2.2.1,a.2.2.2.1,a.2.2.2.2.1,a.2.2.2.2.2.1⟩:S28)))))
theorem qMo (k:Nat) (F:Fns0) (hF:FnsOk0 F):∀ a0 j S n r,i31B k F a0 j S n=some r→CallT Try.prog 80 [.ptr 0 4 0] (mkH [⟨[.str a0,w34 j,.i S,.i n],4,false⟩]) ((Xi31 a0 j S n).thr r) ((Xi31 a0 j S n).enc r) ((Xi31 a0 j S n).fin r):=by
 intro a0 j S n r h
 refine qA2 (Xi31 a0 j S n) Try.func80 Kr Kr rfl (t:=i31B k F a0 j S n) ?_ h
 unfold i31B
 refine qA (eE:=[(0,.ptr 0 4 0)]) Kr ?_
 let Q1:Blk:=⟨[.str a0,w34 j,.i S,.i n],4,false⟩
 let g:Blk:=⟨[.i 0,.str [],.nils,.bool false,.bool false,.nils,.nils],0,false⟩
 refine oH 12 (atN 1 (ctl1 i31p2)) [(6,.ptr 0 4 0),(3,.ptr 2 7 0),(2,.ptr 1 7 0),(0,.ptr 0 4 0)] (mkH [Q1,g,g]) ?_
 refine oN (λ(b:S33)=>n34 b) (λb=>[Q1,g,g]) (atN 2 (ctl1 i31p2)) 7 [0] [] [] [.ptr 0 4 0] (qOb k a0 j S n) trivial (λ_=>trivial) λb c2=>?_
 let E1:Env:=[(17,.i b.f0),(16,.ptr 3 3 0),(4,.ptr 3 3 0),(7,n34 b),(6,.ptr 0 4 0),(3,.ptr 2 7 0),(2,.ptr 1 7 0),(0,.ptr 0 4 0)]
 refine oH 8 (atN 2 (ctl1 i31p3)) E1 (mkH [Q1,g,g,⟨e34 b,3,false⟩]) ?_
 refine oA (λ(D:Bool) => .bool D) (atN 3 (ctl1 i31p3)) 18 [.i b.f0] (g75_ok k b.f0) λD c3=>?_
 refine oR 2 i31p4 ((15,.bool D)::(18,.bool D)::E1) ?_
 refine oJ i31p9 (λ(c:Int×S28)=>[(0,.ptr 0 4 0),(2,.ptr 1 7 0),(3,.ptr 2 7 0)]) (λ(c:Int×S28)=>(mkH [⟨[.str a0,w34 j,.i c.1,.i n],4,false⟩,g,⟨e29 c.2,7,false⟩])) (λc=>?_) (λf9 T=>?_)
 ·let E2:Env:=[(29,.ptr 0 4 0),(5,.str []),(0,.ptr 0 4 0),(2,.ptr 1 7 0),(3,.ptr 2 7 0)]
  refine oH 7 (atN 1 (ctl1 i31p12)) E2 (mkH [⟨[.str a0,w34 j,.i c.1,.i n],4,false⟩,g,⟨e29 c.2,7,false⟩]) ?_
  refine oX (λ(q:(Bool×Int)) => .bool q.1) (λq=>[⟨[.str a0,w34 j,.i q.2,.i n],4,false⟩,g,⟨e29 c.2,7,false⟩]) (atN 2 (ctl1 i31p12)) 30 [0] [] [] [] [] [.ptr 0 4 0,.str [58]] (qAj k ([58]:LN) a0 j c.1 n) trivial (λ_=>trivial) trivial λq c5=>?_
  refine oR 1 i31p14 ((30,.bool q.1)::E2) ?_
  refine oJ i31p16 (λ(x:LN×Int)=>[(0,.ptr 0 4 0),(2,.ptr 1 7 0),(3,.ptr 2 7 0),(5,.str x.1)]) (λ(x:LN×Int)=>(mkH [⟨[.str a0,w34 j,.i x.2,.i n],4,false⟩,g,⟨e29 c.2,7,false⟩])) (λx=>?_) (λg0 a4=>?_)
  ·let E3:Env:=[(34,.ptr 0 4 0),(0,.ptr 0 4 0),(2,.ptr 1 7 0),(3,.ptr 2 7 0),(5,.str x.1)]
   refine oH 2 (atN 1 (ctl1 i31p16)) E3 (mkH [⟨[.str a0,w34 j,.i x.2,.i n],4,false⟩,g,⟨e29 c.2,7,false⟩]) ?_
   refine oX (λ(o:(Bool×Int)) => .bool o.1) (λo=>[⟨[.str a0,w34 j,.i o.2,.i n],4,false⟩,g,⟨e29 c.2,7,false⟩]) (atN 2 (ctl1 i31p16)) 35 [0] [] [] [] [] [.ptr 0 4 0,.str [47]] (qAj k ([47]:LN) a0 j x.2 n) trivial (λ_=>trivial) trivial λo c6=>?_
   refine oR 1 i31p17 ((35,.bool o.1)::E3) ?_
   refine oJ i31p19 (λ(E:LN×Int)=>[(2,.ptr 1 7 0),(3,.ptr 2 7 0),(5,.str E.1)]) (λ(E:LN×Int)=>(mkH [⟨[.str a0,w34 j,.i E.2,.i n],4,false⟩,g,⟨e29 c.2,7,false⟩])) (λE=>?_) (λc8 a5=>?_)
   ·let E4:Env:=[(51,.bool (eqL E.1 [])),(50,.str E.1),(2,.ptr 1 7 0),(3,.ptr 2 7 0),(5,.str E.1)]
    let Q3:Blk:=⟨[.str a0,w34 j,.i E.2,.i n],4,false⟩
    refine oH 4 i31p21 E4 (mkH [Q3,g,⟨e29 c.2,7,false⟩]) ?_
    refine oS 51 (λU=>?_) (λU=>?_)
    ·exact oQF 7 [Q3,⟨e29 c.2,7,false⟩,⟨e29 c.2,7,false⟩] 1 [] [n29 c.2] (n29 c.2) .ps trivial
    ·refine oH 7 (atN 3 (ctl1 (nav [2,0,0] i31p21))) ((55,.slice 3 7 0 1 7)::(54,n29 c.2)::(53,.str E.1)::(51,.bool false)::E4) (mkH [Q3,g,⟨e29 c.2,7,false⟩,⟨e29 c.2,0,false⟩]) ?_
     refine oZ 55 3 1 7 [.i c.2.f0,.str c.2.f1,q29 c.2.f2,.bool c.2.f3,.bool c.2.f4,w9 c.2.f5,w9 c.2.f6] [2,3,5,50,51,53,54] [] trivial ?_
     exact oQF 4 [Q3,⟨[.i 7,.str E.1,w29 ([c.2]:List S28),.bool false,.bool false,.nils,.nils],7,false⟩,⟨e29 c.2,7,false⟩,⟨[],0,false⟩] 1 [] [.agg [.i 7,.str E.1,w29 ([c.2]:List S28),.bool false,.bool false,.nils,.nils]] (.agg [.i 7,.str E.1,w29 ([c.2]:List S28),.bool false,.bool false,.vec 0 1 [],.vec 0 1 []]) (.agg (.cs (.cs (.cs (.cs (.cs (.nil (.nil .ps))))))) .ps) trivial
   ·refine oS 35 (λU=>?_) (λU=>?_)
    ·let Q4:Blk:=⟨[.str a0,w34 j,.i o.2,.i n],4,false⟩
     refine oH 4 (atN 1 (ctl1 i31p18)) ((36,.str x.1)::(35,.bool true)::(35,.bool o.1)::E3) (mkH [Q4,g,⟨e29 c.2,7,false⟩]) ?_
     refine oC (λ(K:LN)=>(.str K,(mkH [Q4,g,⟨e29 c.2,7,false⟩]))) (atN 2 (ctl1 i31p18)) 37 (catH Kr) λK b7=>?_
     refine oH 2 (atN 4 (ctl1 i31p18)) ((39,.slice 3 1 0 1 1)::(38,.ptr 0 4 0)::(37,.str K)::(36,.str x.1)::(35,.bool true)::(35,.bool o.1)::E3) (mkH [Q4,g,⟨e29 c.2,7,false⟩,⟨[.i 1],0,false⟩]) ?_
     refine oZ 39 3 1 1 [.i 1] [0,2,3,5,34,35,36,37,38] [] trivial ?_
     refine oE [(39,w3 ([(1:Int)]:List Int)),(0,.ptr 0 4 0),(2,.ptr 1 7 0),(3,.ptr 2 7 0),(5,.str x.1),(34,.ptr 0 4 0),(35,.bool true),(36,.str x.1),(37,.str K),(38,.ptr 0 4 0)] ?_
     refine oHp (mkH [Q4,g,⟨e29 c.2,7,false⟩,⟨[],0,false⟩]) ?_
     refine oX (λ(z:Ri33) => .str z.1) (λz=>[⟨[.str a0,w34 j,.i z.2,.i n],4,false⟩,g,⟨e29 c.2,7,false⟩,⟨[],0,false⟩]) (atN 5 (ctl1 i31p18)) 40 [0] [] [] [] [] [.ptr 0 4 0,w3 ([(1:Int)]:List Int)] (qH6 k ([(1:Int)]:List Int) a0 j o.2 n) trivial (λ_=>trivial) trivial λz b8=>?_
     let Q5:Blk:=⟨[.str a0,w34 j,.i z.2,.i n],4,false⟩
     refine oC (λ(M:LN)=>(.str M,(mkH [Q5,g,⟨e29 c.2,7,false⟩,⟨[],0,false⟩]))) (atN 6 (ctl1 i31p18)) 41 (catH Kr) λM b9=>?_
     refine oLH 4 i31p20 [(0,.ptr 0 4 0),(2,.ptr 1 7 0),(3,.ptr 2 7 0),(5,.str M)] (mkH [Q5,g,⟨e29 c.2,7,false⟩,⟨[],0,false⟩]) ?_
     refine qAf [Q5,g,⟨e29 c.2,7,false⟩] [⟨[],0,false⟩] Kr rfl Kr ⟨Kr,⟨Kr,⟨Kr,trivial⟩⟩⟩ ?_
     exact (qOd k F hF a0 j S n c8 c a5 k) M z.2
    ·refine oLH 4 i31p19 [(2,.ptr 1 7 0),(3,.ptr 2 7 0),(5,.str x.1)] (mkH [⟨[.str a0,w34 j,.i o.2,.i n],4,false⟩,g,⟨e29 c.2,7,false⟩]) ?_
     exact a5 (x.1,o.2)
  ·refine oS 30 (λU=>?_) (λU=>?_)
   ·refine oH 3 (atN 1 (ctl1 i31p15)) ((31,.ptr 0 4 0)::(30,.bool true)::(30,.bool q.1)::E2) (mkH [⟨[.str a0,w34 j,.i q.2,.i n],4,false⟩,g,⟨e29 c.2,7,false⟩]) ?_
    refine oX (λ(J:Ri39) => .str J.1) (λJ=>[⟨[.str a0,w34 j,.i J.2,.i n],4,false⟩,g,⟨e29 c.2,7,false⟩]) (atN 2 (ctl1 i31p15)) 32 [0] [] [] [] [] [.ptr 0 4 0] (i39_ok k a0 j q.2 n) trivial (λ_=>trivial) trivial λJ d1=>?_
    let Q6:Blk:=⟨[.str a0,w34 j,.i J.2,.i n],4,false⟩
    refine oC (λ(Q:LN)=>(.str Q,(mkH [Q6,g,⟨e29 c.2,7,false⟩]))) (atN 3 (ctl1 i31p15)) 33 (catH Kr) λQ d2=>?_
    refine oLH 4 i31p16 [(0,.ptr 0 4 0),(2,.ptr 1 7 0),(3,.ptr 2 7 0),(5,.str Q)] (mkH [Q6,g,⟨e29 c.2,7,false⟩]) ?_
    exact a4 (Q,J.2)
   ·refine oLH 4 i31p16 [(0,.ptr 0 4 0),(2,.ptr 1 7 0),(3,.ptr 2 7 0),(5,.str [])] (mkH [⟨[.str a0,w34 j,.i q.2,.i n],4,false⟩,g,⟨e29 c.2,7,false⟩]) ?_
    exact a4 (([]:LN),q.2)
 ·refine oS 15 (λU=>?_) (λU=>?_)
  ·refine oH 4 (atN 1 (ctl1 i31p5)) ((19,.ptr 0 4 0)::(15,.bool true)::(15,.bool D)::(18,.bool D)::E1) (mkH [Q1,g,g,⟨e34 b,3,false⟩]) ?_
   refine oX (λ(N:Int) => .tuple []) (λN=>[⟨[.str a0,w34 j,.i N,.i n],4,false⟩,g,g,⟨e34 b,3,false⟩]) (atN 2 (ctl1 i31p5)) 20 [0] [] [] [] [] [.ptr 0 4 0] (qH9 k a0 j S n) trivial (λ_=>trivial) trivial λN d3=>?_
   let a7:Env:=[(0,.ptr 0 4 0),(2,.ptr 1 7 0),(3,.ptr 2 7 0),(4,.ptr 3 3 0)]
   refine oL 1 i31p7 a7 ?_
   let Q7:Blk:=⟨[.str a0,w34 j,.i N,.i n],4,false⟩
   let Q8:Blk:=⟨[.i 1,.str b.f1,.nils,.bool false,.bool false,.nils,.nils],7,false⟩
   refine oH 7 i31p9 ((23,.agg [.i 1,.str b.f1,.nils,.bool false,.bool false,.nils,.nils])::(22,.str b.f1)::(21,.ptr 3 3 1)::a7) (mkH [Q7,g,Q8,⟨e34 b,3,false⟩]) ?_
   refine qDv [Q7,g,Q8,⟨e34 b,3,false⟩] 2 7 [.i 1,.str b.f1,.nils,.bool false,.bool false,.nils,.nils] [.i 1,.str b.f1,w29 ([]:List S28),.bool false,.bool false,w9 ([]:LL),w9 ([]:LL)] Kr rfl (.cons (.cons (.nil (.cons (.cons (.nil (.nil (.refl)))))))) ?_
   let Q9:Blk:=⟨[.i 1,.str b.f1,w29 ([]:List S28),.bool false,.bool false,w9 ([]:LL),w9 ([]:LL)],7,false⟩
   refine oHp (mkH [Q7,g,Q9,⟨e34 b,3,false⟩]) ?_
   refine oK [0,2,3] [(0,.ptr 0 4 0),(2,.ptr 1 7 0),(3,.ptr 2 7 0)] ?_
   refine qAf [Q7,g,Q9] [⟨e34 b,3,false⟩] Kr rfl Kr ⟨Kr,⟨Kr,⟨Kr,trivial⟩⟩⟩ ?_
   exact T (N,(⟨1,b.f1,(⟨(([]:List S28)).length,(([]:List S28)).flatMap e29⟩:Raw),false,false,([]:LL),([]:LL)⟩:S28))
  ·refine oH 4 (atN 1 (ctl1 i31p6)) ((25,.ptr 0 4 0)::(15,.bool false)::(15,.bool D)::(18,.bool D)::E1) (mkH [Q1,g,g,⟨e34 b,3,false⟩]) ?_
   refine oX (λ(I:(Bool×Int)) => .bool I.1) (λI=>[⟨[.str a0,w34 j,.i I.2,.i n],4,false⟩,g,g,⟨e34 b,3,false⟩]) (atN 2 (ctl1 i31p6)) 26 [0] [] [] [] [] [.ptr 0 4 0,.str [40]] (qAj k ([40]:LN) a0 j S n) trivial (λ_=>trivial) trivial λI d4=>?_
   let Y:Env:=[(0,.ptr 0 4 0),(2,.ptr 1 7 0),(3,.ptr 2 7 0),(24,.bool I.1)]
   refine oL 2 i31p8 Y ?_
   refine oS 24 (λU=>?_) (λU=>?_)
   ·refine oR 3 (atN 1 (ctl1 i31p10)) ((27,.ptr 0 4 0)::(24,.bool true)::Y) ?_
    refine oX (λ(u:(S28×Int))=>n29 u.1) (λu=>[⟨[.str a0,w34 j,.i u.2,.i n],4,false⟩,g,g,⟨e34 b,3,false⟩]) (atN 2 (ctl1 i31p10)) 28 [0] [] [] [0] [] [.ptr 0 4 0] (hF.i17_ok a0 j I.2 n) trivial (λ_=>trivial) trivial λu d5=>?_
    let a8:Blk:=⟨[.str a0,w34 j,.i u.2,.i n],4,false⟩
    refine oLH 3 i31p9 [(0,.ptr 0 4 0),(2,.ptr 1 7 0),(3,.ptr 2 7 0)] (mkH [a8,g,⟨e29 u.1,7,false⟩,⟨e34 b,3,false⟩]) ?_
    refine qAf [a8,g,⟨e29 u.1,7,false⟩] [⟨e34 b,3,false⟩] Kr rfl Kr ⟨Kr,⟨Kr,⟨Kr,trivial⟩⟩⟩ ?_
    exact T (u.2,u.1)
   ·refine oR 4 (atN 1 (ctl1 i31p11)) ((8,.ptr 0 4 0)::(24,.bool false)::Y) ?_
    refine oX (λ(O:Int) => .tuple []) (λO=>[⟨[.str a0,w34 j,.i O,.i n],4,false⟩,g,g,⟨e34 b,3,false⟩]) (atN 2 (ctl1 i31p11)) 9 [0] [] [] [0] [] [.ptr 0 4 0,.str [60,60]] (qAw k ([60,60]:LN) a0 j I.2 n) trivial (λ_=>trivial) trivial λO d6=>?_
    let a9:Env:=((13,.func 80 [.ptr 0 4 0] [])::(12,.ptr 0 4 0)::(11,.agg [.i 6,.str [],.nils,.bool false,.bool false,.nils,.nils])::(10,.ptr 0 4 0)::(9,.tuple [])::(8,.ptr 0 4 0)::(24,.bool false)::Y)
    refine oR 6 (atN 4 (ctl1 i31p13)) a9 ?_
    refine oXW 1 [⟨[.str a0,w34 j,.i O,.i n],4,false⟩,g,g,⟨e34 b,3,false⟩,⟨(([]:List S28)).flatMap e29,0,false⟩] (λ(a:Ri20) => .agg [.i a.1,.str a.2.1,.own 4 (a.2.2.2.2.2.2.2).length 7,.bool a.2.2.1,.bool a.2.2.2.1,w9 a.2.2.2.2.1,w9 a.2.2.2.2.2.1]) (λa=>[⟨[.str a0,w34 j,.i a.2.2.2.2.2.2.1,.i n],4,false⟩,g,g,⟨e34 b,3,false⟩,⟨(a.2.2.2.2.2.2.2).flatMap e29,0,false⟩]) (atN 5 (ctl1 i31p13)) 14 [0,4] [0,1] [0,1] [0,4] [] [0,0,0,0,1] [.ptr 0 4 0,.agg [.i 6,.str [],.nils,.bool false,.bool false,.nils,.nils],.str [62,62],.func 80 [.ptr 0 4 0] []] [.ptr 0 4 0,.agg [.i 6,.str [],.own 4 (([]:List S28)).length 7,.bool false,.bool false,w9 ([]:LL),w9 ([]:LL)],.str [62,62],.func 80 [.ptr 0 4 0] []] (.cons (.agg (.cons (.cons (.none (.cons (.cons (.nil (.nil (.refl)))))))) (.refl))) (hF.i20_ok (6:Int) ([]:LN) false false ([]:LL) ([]:LL) ([62,62]:LN) a0 j O n ([]:List S28)) ⟨u29 _,trivial⟩ (λ_=>⟨u29 _,trivial⟩) trivial λa d9=>?_
    let Z:Blk:=⟨[.str a0,w34 j,.i a.2.2.2.2.2.2.1,.i n],4,false⟩
    let b0:Blk:=⟨[.i a.1,.str a.2.1,.own 4 (a.2.2.2.2.2.2.2).length 7,.bool a.2.2.1,.bool a.2.2.2.1,w9 a.2.2.2.2.1,w9 a.2.2.2.2.2.1],7,false⟩
    let b1:Blk:=⟨(a.2.2.2.2.2.2.2).flatMap e29,0,false⟩
    refine oH 3 i31p9 ((14,.agg [.i a.1,.str a.2.1,.own 4 (a.2.2.2.2.2.2.2).length 7,.bool a.2.2.1,.bool a.2.2.2.1,w9 a.2.2.2.2.1,w9 a.2.2.2.2.2.1])::a9) (mkH [Z,g,b0,⟨e34 b,3,false⟩,b1]) ?_
    let b2:Blk:=⟨[.i a.1,.str a.2.1,w29 a.2.2.2.2.2.2.2,.bool a.2.2.1,.bool a.2.2.2.1,w9 a.2.2.2.2.1,w9 a.2.2.2.2.2.1],7,false⟩
    refine qQ3 [Z,g,b0,⟨e34 b,3,false⟩,b1] [Z,g,b2,⟨e34 b,3,false⟩,⟨[],0,false⟩] 4 (a.2.2.2.2.2.2.2).length 7 0 ((a.2.2.2.2.2.2.2).flatMap e29) [0,2,3] (env0:=[(0,.ptr 0 4 0),(2,.ptr 1 7 0),(3,.ptr 2 7 0)]) (eE:=[(0,.ptr 0 4 0),(2,.ptr 1 7 0),(3,.ptr 2 7 0)]) Kr rfl rfl (qB1 qA6 _) (Nat.zero_le _) (u29 _) Kr ⟨⟨rfl,.refl Kr⟩,⟨⟨rfl,.refl Kr⟩,⟨⟨rfl,.refl Kr⟩,trivial⟩⟩⟩ ⟨.inr ⟨rfl,rfl,rfl,.refl Kr⟩,⟨.inr ⟨rfl,rfl,rfl,.refl Kr⟩,⟨.inr ⟨rfl,rfl,rfl,.cons Kr (.cons Kr (.own (.refl Kr)))⟩,⟨.inr ⟨rfl,rfl,rfl,.refl Kr⟩,⟨.inl ⟨rfl,rfl⟩,trivial⟩⟩⟩⟩⟩ ?_
    refine qAf [Z,g,b2] [⟨e34 b,3,false⟩,⟨[],0,false⟩] Kr rfl Kr ⟨Kr,⟨Kr,⟨Kr,trivial⟩⟩⟩ ?_
    exact T (a.2.2.2.2.2.2.1,(⟨a.1,a.2.1,(⟨(a.2.2.2.2.2.2.2).length,(a.2.2.2.2.2.2.2).flatMap e29⟩:Raw),a.2.2.1,a.2.2.2.1,a.2.2.2.2.1,a.2.2.2.2.2.1⟩:S28))
theorem i31B_ok (k:Nat) (F:Fns0) (a:FnsOk0 F):Pi31 (i31B k F):=λa0 b c g=>⟨λx h=>qMo k F a a0 b c g (some x) h,λh=>⟨_,qMo k F a a0 b c g none h⟩⟩
def i32c0:LL:=[([61,62]:LN),([58,61]:LN)]
def i32p1:Pt:=nav [0,0,0] (nav [0] (bodyAt Try.f81))
def i32p2:Pt:=nav [0,0,0,0] i32p1
def i32p3:Pt:=nav [0,0,0,0] i32p2
def i32p5:Pt:=nav [0,0,0] (nav [0,0] i32p3)
def i32p6:Pt:=nav [1,0,0,0,0] i32p5
def i32p8:Pt:=nav [0,0,0] i32p6
def i32p10:Pt:=nav [0,0] i32p8
def i32p11:Pt:=nav [1,0] i32p10
def i32d0:DP:=⟨[21],[(0,0,0),(0,0,1),(0,0,0),(4,0,0),(14,0,0),(31,0,0),(63,0,0)],7,thrown,[],H0⟩
def qFx (k:Nat) (F:Fns0)  (a0:LN) (n:List S33) (q:Int) (o:Int) (a:(S28×Int)) (ih:Int→Int→Option (Option (S28×Int))):Int→Int→Option (Option (S28×Int)) :=
 λ(b:Int) (h:Int)=>if (decide (b < (i32c0.length:Int))) then ((nthL i32c0 b).bind λj=>bT (i7 k j a0 n h o) λc=>if c.1 then (bT (F.i5 (1:Int) a0 n c.2 o) λg=>some (some ((⟨(14:Int),j,⟨(([a.1,g.1]:List S28)).length,(([a.1,g.1]:List S28)).flatMap e29⟩,false,false,([]:LL),([]:LL)⟩:S28),g.2))) else (ih (fW .i64 (b+1)) c.2)) else (some (some (a.1,h)))
def qJk (k:Nat) (F:Fns0)  (a0:LN) (b:List S33) (c:Int) (g:Int) (a:(S28×Int)) (n:Nat):Int→Int→Option (Option (S28×Int)):=lp (λ_ _=>none) (qFx k F a0 b c g a) n
theorem qR2 (k:Nat) (F:Fns0) (Z:FnsOk0 F) (a0:LN) (u:List S33) (K:Int) (x:Int)  (a:(S28×Int))  : ∀ (n:Nat) (c:Int) (o:Int),Ok (Xi32 a0 u K x) i32p3 [(0,.ptr 0 4 0),(2,.ptr 1 7 0),(3,.ptr 2 7 0),(8,w9 i32c0),(9,.i (i32c0.length:Int)),(10,.i c)] (mkH [⟨[.str a0,w34 u,.i o,.i x],4,false⟩,⟨[.i 0,.str [],.nils,.bool false,.bool false,.nils,.nils],0,false⟩,⟨[.i a.1.f0,.str a.1.f1,q29 a.1.f2,.bool a.1.f3,.bool a.1.f4,w9 a.1.f5,w9 a.1.f6],7,false⟩]) (qJk k F a0 u K x a n c o):=by
 intro n
 induction n with
 | zero=>intro c o; exact ok_none
 | succ n ih =>
  intro c o
  show Ok _ _ _ _ (qFx k F a0 u K x a (qJk k F a0 u K x a n) c o)
  unfold qFx
  refine qAi (p':=nav [0] i32p3) Kr ?_
  let Q:Env:=[(11,.bool (decide (c < (i32c0.length:Int)))),(0,.ptr 0 4 0),(2,.ptr 1 7 0),(3,.ptr 2 7 0),(8,w9 i32c0),(9,.i (i32c0.length:Int)),(10,.i c)]
  let O:Blk:=⟨[.str a0,w34 u,.i o,.i x],4,false⟩
  let q:Blk:=⟨[.i 0,.str [],.nils,.bool false,.bool false,.nils,.nils],0,false⟩
  refine oH 5 i32p5 Q (mkH [O,q,⟨e29 a.1,7,false⟩]) ?_
  refine oS 11 (λS=>?_) (λS=>?_)
  ·refine oR 6 (atN 0 (ctl1 i32p6)) ((11,.bool true)::Q) ?_
   refine oC (λ(b:LN)=>(.vptr [.str b],(mkH [O,q,⟨e29 a.1,7,false⟩]))) (atN 1 (ctl1 i32p6)) 12 (vidxH (sz:=1) qBx Kr) λb T=>?_
   let U:Env:=((15,.str b)::(14,.ptr 0 4 0)::(5,.str b)::(13,.str b)::(12,.vptr [.str b])::(11,.bool true)::Q)
   refine oH 7 (atN 2 (ctl1 i32p8)) U (mkH [O,q,⟨e29 a.1,7,false⟩]) ?_
   refine oX (λ(j:(Bool×Int)) => .bool j.1) (λj=>[⟨[.str a0,w34 u,.i j.2,.i x],4,false⟩,q,⟨e29 a.1,7,false⟩]) (atN 3 (ctl1 i32p8)) 16 [0] [] [] [] [] [.ptr 0 4 0,.str b] (qAj k b a0 u o x) trivial (λ_=>trivial) trivial λj Y=>?_
   refine oR 1 i32p10 ((16,.bool j.1)::U) ?_
   refine oS 16 (λS=>?_) (λS=>?_)
   ·refine oR 2 i32p11 ((16,.bool true)::(16,.bool j.1)::U) ?_
    refine qCp (λh=>?_) (λg J=>?_)
    ·let z:Env:=[(19,.ptr 0 4 0),(18,n29 a.1),(17,.str b),(16,.bool true),(16,.bool j.1),(15,.str b),(14,.ptr 0 4 0),(5,.str b),(13,.str b),(12,.vptr [.str b]),(11,.bool true),(11,.bool (decide (c < (i32c0.length:Int)))),(0,.ptr 0 4 0),(2,.ptr 1 7 0),(3,.ptr 2 7 0),(8,w9 i32c0),(9,.i (i32c0.length:Int)),(10,.i c)]
     let E:Blk:=⟨[.str a0,w34 u,.i j.2,.i x],4,false⟩
     exact qAo (eE:=((22,.top)::(21,.top)::(20,.top)::z)) (i32d0.th 3 thrown [0] (mkH [E,q,⟨e29 a.1,7,false⟩])) (hs:=[(mkH [E,q,⟨e29 a.1,7,false⟩]),(mkH [E,q,⟨e29 a.1,7,false⟩])]) (LX:=[⟨[.str a0,w34 u,.i K,.i x],4,false⟩]) (L:=[E,q,⟨e29 a.1,7,false⟩]) rfl rfl rfl Kr rfl ⟨.inl rfl,trivial⟩ Kr Kr Kr Kr (qA7 3 (l':=(opsAt i32p11).toList.drop 3) (eE:=z) (H':=(mkH [E,q,⟨e29 a.1,7,false⟩])) (hs:=[]) Kr (qAn (l':=(opsAt i32p11).toList.drop 4) (eE:=((20,.top)::z)) (hs:=[(mkH [E,q,⟨e29 a.1,7,false⟩])]) (fi:=29) (args:=[.ptr 0 4 0,.i 1]) Kr Kr (frS 0 (M:=[E,q,⟨e29 a.1,7,false⟩]) (rs:=[0]) (ms:=[]) (mv:=[]) (mm:=[]) (D:=[0]) (xs':=[.ptr 0 4 0,.i 1]) (.refl) ((Z.i5_ok (1:Int) a0 u j.2 x).2 h) trivial trivial Kr) Kr (qA1 (l':=(opsAt i32p11).toList.drop 5) (eE:=((21,.top)::(20,.top)::z)) (hs:=[]) Kr Kr (qA1 (l':=(opsAt i32p11).toList.drop 6) (eE:=((22,.top)::(21,.top)::(20,.top)::z)) (hs:=[]) Kr Kr (qA1 (l':=(opsAt i32p11).toList.drop 7) (eE:=((22,.top)::(21,.top)::(20,.top)::z)) (hs:=[(mkH [E,q,⟨e29 a.1,7,false⟩])]) Kr Kr (.nil)))))) Kr Kr
    ·let z:Env:=[(19,.ptr 0 4 0),(18,n29 a.1),(17,.str b),(16,.bool true),(16,.bool j.1),(15,.str b),(14,.ptr 0 4 0),(5,.str b),(13,.str b),(12,.vptr [.str b]),(11,.bool true),(11,.bool (decide (c < (i32c0.length:Int)))),(0,.ptr 0 4 0),(2,.ptr 1 7 0),(3,.ptr 2 7 0),(8,w9 i32c0),(9,.i (i32c0.length:Int)),(10,.i c)]
     let I:Blk:=⟨[.str a0,w34 u,.i g.2,.i x],4,false⟩
     let N:Blk:=⟨[.i 14,.str b,w29 ([a.1,g.1]:List S28),.bool false,.bool false,.nils,.nils],7,false⟩
     refine oD (H':=(mkH [I,N,⟨e29 a.1,7,false⟩])) (nav [0] i32p11) ((22,.agg [.i 14,.str b,w29 ([a.1,g.1]:List S28),.bool false,.bool false,.nils,.nils])::(21,w29 ([a.1,g.1]:List S28))::(20,n29 g.1)::z) [(mkH [I,q,⟨e29 a.1,7,false⟩]),(mkH [I,N,⟨e29 a.1,7,false⟩])] i32d0 (oDr 3 3 z (qA5 (l':=(opsAt i32p11).toList.drop 4) (eE:=((20,n29 g.1)::z)) (hs:=[(mkH [I,q,⟨e29 a.1,7,false⟩])]) (H':=(mkH [I,q,⟨e29 a.1,7,false⟩])) (fi:=29) (args:=[.ptr 0 4 0,.i 1]) (v:=n29 g.1) Kr (frC (rs:=[0]) (ms:=[]) (ms':=[]) ((Z.i5_ok (1:Int) a0 u j.2 x).1 g J) trivial trivial Kr) Kr (oDh 3 7 ((22,.agg [.i 14,.str b,w29 ([a.1,g.1]:List S28),.bool false,.bool false,.nils,.nils])::(21,w29 ([a.1,g.1]:List S28))::(20,n29 g.1)::z) (mkH [I,N,⟨e29 a.1,7,false⟩]) [(mkH [I,N,⟨e29 a.1,7,false⟩])] .nil))) ?_
     exact oQF 1 [I,N,⟨e29 a.1,7,false⟩] 1 [] [.agg [.i 14,.str b,w29 ([a.1,g.1]:List S28),.bool false,.bool false,.nils,.nils]] (.agg [.i 14,.str b,w29 ([a.1,g.1]:List S28),.bool false,.bool false,.vec 0 1 [],.vec 0 1 []]) (.agg (.cs (.cs (.cs (.cs (.cs (.nil (.nil .ps))))))) .ps) trivial
   ·refine oL 6 i32p3 [(0,.ptr 0 4 0),(2,.ptr 1 7 0),(3,.ptr 2 7 0),(8,w9 i32c0),(9,.i (i32c0.length:Int)),(10,.i (fW .i64 (c+1)))] ?_
    exact ih (fW .i64 (c+1)) j.2
  ·exact oQF 8 [O,⟨e29 a.1,7,false⟩,⟨e29 a.1,7,false⟩] 1 [] [n29 a.1] (n29 a.1) .ps trivial
def i32B (k:Nat) (F:Fns0) (a0:LN) (b:List S33) (c:Int) (g:Int):Option (Option (S28×Int)) :=
 bT (F.i5 (1:Int) a0 b c g) λa=>qJk k F a0 b c g a k 0 a.2
theorem qMn (k:Nat) (F:Fns0) (q:FnsOk0 F):∀ a0 b g c r,i32B k F a0 b g c=some r→CallT Try.prog 81 [.ptr 0 4 0] (mkH [⟨[.str a0,w34 b,.i g,.i c],4,false⟩]) ((Xi32 a0 b g c).thr r) ((Xi32 a0 b g c).enc r) ((Xi32 a0 b g c).fin r):=by
 intro a0 b g c r h
 refine qA2 (Xi32 a0 b g c) Try.func81 Kr Kr rfl (t:=i32B k F a0 b g c) ?_ h
 unfold i32B
 refine qA (eE:=[(0,.ptr 0 4 0)]) Kr ?_
 let j:Blk:=⟨[.i 0,.str [],.nils,.bool false,.bool false,.nils,.nils],0,false⟩
 refine oH 7 (atN 1 (ctl1 i32p1)) [(6,.ptr 0 4 0),(2,.ptr 1 7 0),(0,.ptr 0 4 0)] (mkH [⟨[.str a0,w34 b,.i g,.i c],4,false⟩,j]) ?_
 refine oX (λ(a:(S28×Int))=>n29 a.1) (λa=>[⟨[.str a0,w34 b,.i a.2,.i c],4,false⟩,j]) (atN 2 (ctl1 i32p1)) 7 [0] [] [] [0] [] [.ptr 0 4 0,.i 1] (q.i5_ok (1:Int) a0 b g c) trivial (λ_=>trivial) trivial λa n=>?_
 let o:Blk:=⟨[.str a0,w34 b,.i a.2,.i c],4,false⟩
 refine oH 7 (atN 1 (ctl1 i32p2)) [(8,.slice 3 2 0 2 1),(3,.ptr 2 7 0),(7,n29 a.1),(6,.ptr 0 4 0),(2,.ptr 1 7 0),(0,.ptr 0 4 0)] (mkH [o,j,⟨e29 a.1,7,false⟩,⟨[.str [61,62],.str [58,61]],0,false⟩]) ?_
 refine oZ 8 3 2 1 [.str [61,62],.str [58,61]] [0,2,3,6,7] [] trivial ?_
 refine oLH 5 i32p3 [(0,.ptr 0 4 0),(2,.ptr 1 7 0),(3,.ptr 2 7 0),(8,w9 i32c0),(9,.i (i32c0.length:Int)),(10,.i 0)] (mkH [o,j,⟨e29 a.1,7,false⟩,⟨[],0,false⟩]) ?_
 refine qAf [o,j,⟨e29 a.1,7,false⟩] [⟨[],0,false⟩] Kr rfl Kr ⟨Kr,⟨Kr,⟨Kr,trivial⟩⟩⟩ ?_
 exact (qR2 k F q a0 b g c a k) 0 a.2
theorem i32B_ok (k:Nat) (F:Fns0) (a:FnsOk0 F):Pi32 (i32B k F):=λa0 b c g=>⟨λx h=>qMn k F a a0 b c g (some x) h,λh=>⟨_,qMn k F a a0 b c g none h⟩⟩
def i34p1:Pt:=nav [0,0,0] (nav [0] (bodyAt Try.f97))
def i34p2:Pt:=nav [0,0,0] i34p1
def i34p3:Pt:=nav [0,0,0] i34p2
def i34B (k:Nat) (F:Fns0) (a0:LN) (g:List S33) (j:Int) (h:Int):Option (Option (S28×Int)) :=
 bT (F.i40 ([]:LL) a0 g j h) λa=>(i12 k a0 g a.2 h).bind λb=>bT (i23 k ([101,110,100]:LN) a0 g b.2 h) λc=>some (some ((⟨(17:Int),([]:LN),⟨(a.1).length,(a.1).flatMap e29⟩,false,false,([]:LL),b.1⟩:S28),c))
theorem qMm (k:Nat) (F:Fns0) (K:FnsOk0 F):∀ a0 c n g r,i34B k F a0 c n g=some r→CallT Try.prog 97 [.ptr 0 4 0] (mkH [⟨[.str a0,w34 c,.i n,.i g],4,false⟩]) ((Xi34 a0 c n g).thr r) ((Xi34 a0 c n g).enc r) ((Xi34 a0 c n g).fin r):=by
 intro a0 c n g r h
 refine qA2 (Xi34 a0 c n g) Try.func97 Kr Kr rfl (t:=i34B k F a0 c n g) ?_ h
 unfold i34B
 refine qA (eE:=[(0,.ptr 0 4 0)]) Kr ?_
 let D:Env:=[(5,.func 106 [] [.ptr 1 1 0]),(4,.ptr 0 4 0),(2,.ptr 2 7 0),(1,.ptr 1 1 0),(0,.ptr 0 4 0)]
 let E:Blk:=⟨[.str a0,w34 c,.i n,.i g],4,false⟩
 let o:Blk:=⟨[.i 0,.str [],.nils,.bool false,.bool false,.nils,.nils],0,false⟩
 refine oH 9 (atN 2 (ctl1 i34p1)) D (mkH [E,⟨[.ptr 0 4 0],0,false⟩,o]) ?_
 refine oXW 0 [E,⟨[.ptr 0 4 0],1,false⟩,o] (λ(a:Ri40)=>w29 a.1) (λa=>[⟨[.str a0,w34 c,.i a.2,.i g],4,false⟩,⟨[.ptr 0 4 0],1,false⟩,o]) (atN 3 (ctl1 i34p1)) 6 [0,1] [] [] [0,1] [] [] [.ptr 0 4 0,.nils,.func 106 [] [.ptr 1 1 0]] [.ptr 0 4 0,w9 ([]:LL),.func 106 [] [.ptr 1 1 0]] (.cons (.nil (.refl))) (K.i40_ok ([]:LL) a0 c n g) trivial (λ_=>trivial) trivial λa u=>?_
 let I:Blk:=⟨[.i 17,.str [],w29 a.1,.bool false,.bool false,.nils,.nils],7,false⟩
 refine oH 7 (atN 1 (ctl1 i34p2)) ((8,.ptr 0 4 0)::(3,.ptr 3 7 0)::(7,.agg [.i 17,.str [],w29 a.1,.bool false,.bool false,.nils,.nils])::(6,w29 a.1)::D) (mkH [⟨[.str a0,w34 c,.i a.2,.i g],4,false⟩,⟨[.ptr 0 4 0],1,false⟩,o,I]) ?_
 refine oN (λ(b:Ri12)=>w9 b.1) (λb=>[⟨[.str a0,w34 c,.i b.2,.i g],4,false⟩,⟨[.ptr 0 4 0],1,false⟩,o,I]) (atN 2 (ctl1 i34p2)) 9 [0] [] [] [.ptr 0 4 0] (qAm k a0 c a.2 g) trivial (λ_=>trivial) λb x=>?_
 let J:Env:=[(1,.ptr 1 1 0),(2,.ptr 2 7 0),(3,.ptr 3 7 0)]
 let q:Blk:=⟨[.i 17,.str [],w29 a.1,.bool false,.bool false,.nils,w9 b.1],7,false⟩
 refine oLH 4 i34p3 J (mkH [⟨[.str a0,w34 c,.i b.2,.i g],4,false⟩,⟨[.ptr 0 4 0],1,false⟩,o,q]) ?_
 refine oR 2 (atN 1 (ctl1 i34p3)) ((11,.ptr 0 4 0)::J) ?_
 refine oX (λ(j:Int) => .tuple []) (λj=>[⟨[.str a0,w34 c,.i j,.i g],4,false⟩,⟨[.ptr 0 4 0],1,false⟩,o,q]) (atN 2 (ctl1 i34p3)) 12 [0] [] [] [0,1] [] [.ptr 0 4 0,.str [101,110,100]] (qAw k ([101,110,100]:LN) a0 c b.2 g) trivial (λ_=>trivial) trivial λj z=>?_
 exact oQF 7 [⟨[.str a0,w34 c,.i j,.i g],4,false⟩,⟨[.ptr 0 4 0],1,false⟩,q,q] 1 [] [.agg [.i 17,.str [],w29 a.1,.bool false,.bool false,.nils,w9 b.1]] (.agg [.i 17,.str [],w29 a.1,.bool false,.bool false,.vec 0 1 [],w9 b.1]) (.agg (.cs (.cs (.cs (.cs (.cs (.nil .ps)))))) .ps) trivial
theorem i34B_ok (k:Nat) (F:Fns0) (a:FnsOk0 F):Pi34 (i34B k F):=λa0 b c g=>⟨λx h=>qMm k F a a0 b c g (some x) h,λh=>⟨_,qMm k F a a0 b c g none h⟩⟩
def i36p1:Pt:=nav [0,0,0] (nav [0] (bodyAt Try.f99))
def i36p2:Pt:=nav [0,0] i36p1
def i36p3:Pt:=nav [0,0,0] i36p2
def i36d0:DP:=⟨[],[(0,0,0),(1,0,2),(0,0,0),(0,0,0),(8,0,0),(0,0,0),(60,0,0),(127,0,0),(255,0,0),(511,0,0)],10,thrown,[],H0⟩
def i36B (k:Nat) (F:Fns0) (a0:Int) (q:LN) (u:Bool) (x:Bool) (z:LL) (I:LL) (j:LN) (n:List S33) (D:Int) (o:Int) (E:List S28):Option (Option Ri36) :=
 (i12 k j n D o).bind λa=>bT (F.i41 a.1 j n a.2 o) λb=>(appS 104 E b.1).bind λg=>(i12 k j n b.2 o).bind λc=>bT (i23 k ([101,110,100]:LN) j n c.2 o) λh=>some (some (a0,q,u,x,z,c.1,h,g))
theorem qMl (k:Nat) (F:Fns0) (hF:FnsOk0 F):∀ a0 q u z E N I J U K O r,i36B k F a0 q u z E N I J U K O=some r→CallT Try.prog 99 [.ptr 0 4 0,.agg [.i a0,.str q,.own 1 (O).length 7,.bool u,.bool z,w9 E,w9 N],.func 100 [.ptr 0 4 0] []] (mkH [⟨[.str I,w34 J,.i U,.i K],4,false⟩,⟨(O).flatMap e29,0,false⟩]) ((Xi36 a0 q u z E N I J U K O).thr r) ((Xi36 a0 q u z E N I J U K O).enc r) ((Xi36 a0 q u z E N I J U K O).fin r):=by
 intro a0 q u z E N I J U K O r h
 refine qA2 (Xi36 a0 q u z E N I J U K O) Try.func99 Kr Kr rfl (t:=i36B k F a0 q u z E N I J U K O) ?_ h
 unfold i36B
 refine qA (eE:=[(0,.ptr 0 4 0),(1,.agg [.i a0,.str q,.own 1 (O).length 7,.bool u,.bool z,w9 E,w9 N]),(2,.func 100 [.ptr 0 4 0] [])]) Kr ?_
 let Q1:Blk:=⟨[.str I,w34 J,.i U,.i K],4,false⟩
 let o:Blk:=⟨(O).flatMap e29,0,false⟩
 let n:Blk:=⟨[.i a0,.str q,.own 1 (O).length 7,.bool u,.bool z,w9 E,w9 N],0,false⟩
 let c:Blk:=⟨[.i 0,.str [],.nils,.bool false,.bool false,.nils,.nils],0,false⟩
 refine oH 6 i36p1 [(6,.ptr 3 7 0),(4,.ptr 2 7 0),(0,.ptr 0 4 0),(1,.agg [.i a0,.str q,.own 1 (O).length 7,.bool u,.bool z,w9 E,w9 N]),(2,.func 100 [.ptr 0 4 0] [])] (mkH [Q1,o,n,c]) ?_
 refine qA9 (λa Y=>?_)
 refine qCp (λh=>?_) (λj b0=>?_)
 ·let S:Env:=[(10,.ptr 0 4 0),(9,.ptr 0 4 0),(8,.own 1 (O).length 7),(7,.ptr 2 7 2),(6,.ptr 3 7 0),(4,.ptr 2 7 0),(0,.ptr 0 4 0),(1,.agg [.i a0,.str q,.own 1 (O).length 7,.bool u,.bool z,w9 E,w9 N]),(2,.func 100 [.ptr 0 4 0] [])]
  let E3:Env:=((15,.top)::(14,.top)::(13,.top)::(12,.func 100 [.ptr 0 4 0] [])::(11,w9 a.1)::S)
  let T:Blk:=⟨[.str I,w34 J,.i a.2,.i K],4,false⟩
  exact qAo (eE:=E3) (i36d0.th 6 thrown [0,2] (mkH [T,o,n,c])) (hs:=[(mkH [T,o,n,c]),(mkH [T,o,n,c]),(mkH [T,o,n,c]),(mkH [T,o,n,c])]) (LX:=[Q1,o]) (L:=[T,o,n,c]) rfl rfl rfl Kr rfl ⟨.inl rfl,⟨.inl rfl,trivial⟩⟩ Kr Kr Kr Kr (qA7 4 (l':=(opsAt i36p1).toList.drop 4) (eE:=S) (H':=(mkH [Q1,o,n,c])) (hs:=[]) Kr (qA5 (l':=(opsAt i36p1).toList.drop 5) (eE:=((11,w9 a.1)::S)) (hs:=[(mkH [T,o,n,c])]) (H':=(mkH [T,o,n,c])) (fi:=58) (args:=[.ptr 0 4 0]) (v:=w9 a.1) Kr (frC (rs:=[0]) (ms:=[]) (ms':=[]) (qAm k I J U K a Y) trivial trivial Kr) Kr (qA7 1 (l':=(opsAt i36p1).toList.drop 6) (eE:=((12,.func 100 [.ptr 0 4 0] [])::(11,w9 a.1)::S)) (H':=(mkH [T,o,n,c])) (hs:=[]) Kr (qAn (l':=(opsAt i36p1).toList.drop 7) (eE:=((13,.top)::(12,.func 100 [.ptr 0 4 0] [])::(11,w9 a.1)::S)) (hs:=[(mkH [T,o,n,c])]) (fi:=105) (args:=[.ptr 0 4 0,w9 a.1,.func 100 [.ptr 0 4 0] []]) Kr Kr (frS 0 (M:=[T,o,n,c]) (rs:=[0]) (ms:=[]) (mv:=[0,1]) (mm:=[0,1]) (D:=[0,2]) (xs':=[.ptr 0 4 0,w9 a.1,.func 100 [.ptr 0 4 0] []]) (.refl) ((hF.i41_ok a.1 I J a.2 K).2 h) trivial ⟨u29 _,trivial⟩ Kr) Kr (qA1 (l':=(opsAt i36p1).toList.drop 8) (eE:=((14,.top)::(13,.top)::(12,.func 100 [.ptr 0 4 0] [])::(11,w9 a.1)::S)) (hs:=[(mkH [T,o,n,c])]) Kr Kr (qA1 (l':=(opsAt i36p1).toList.drop 9) (eE:=E3) (hs:=[]) Kr Kr (qA1 (l':=(opsAt i36p1).toList.drop 10) (eE:=E3) (hs:=[(mkH [T,o,n,c])]) Kr Kr (.nil)))))))) Kr Kr
 ·refine qA9 (λb b2=>?_)
  let S:Env:=[(10,.ptr 0 4 0),(9,.ptr 0 4 0),(8,.own 1 (O).length 7),(7,.ptr 2 7 2),(6,.ptr 3 7 0),(4,.ptr 2 7 0),(0,.ptr 0 4 0),(1,.agg [.i a0,.str q,.own 1 (O).length 7,.bool u,.bool z,w9 E,w9 N]),(2,.func 100 [.ptr 0 4 0] [])]
  let E4:Env:=((15,.ptr 2 7 2)::(14,.own 1 (b).length 7)::(13,w29 j.1)::(12,.func 100 [.ptr 0 4 0] [])::(11,w9 a.1)::S)
  let Z:Blk:=⟨[.str I,w34 J,.i j.2,.i K],4,false⟩
  let Q7:Blk:=⟨[.str I,w34 J,.i a.2,.i K],4,false⟩
  refine oD (H':=(mkH [Z,⟨(b).flatMap e29,0,false⟩,⟨[.i a0,.str q,.own 1 (b).length 7,.bool u,.bool z,w9 E,w9 N],7,false⟩,c])) (nav [0] i36p1) E4 [(mkH [Q7,o,n,c]),(mkH [Z,o,n,c]),(mkH [Z,⟨(b).flatMap e29,0,false⟩,n,c]),(mkH [Z,⟨(b).flatMap e29,0,false⟩,⟨[.i a0,.str q,.own 1 (b).length 7,.bool u,.bool z,w9 E,w9 N],7,false⟩,c])] i36d0 (oDr 4 4 S (qA5 (l':=(opsAt i36p1).toList.drop 5) (eE:=((11,w9 a.1)::S)) (hs:=[(mkH [Q7,o,n,c])]) (H':=(mkH [Q7,o,n,c])) (fi:=58) (args:=[.ptr 0 4 0]) (v:=w9 a.1) Kr (frC (rs:=[0]) (ms:=[]) (ms':=[]) (qAm k I J U K a Y) trivial trivial Kr) Kr (oDr 1 6 ((12,.func 100 [.ptr 0 4 0] [])::(11,w9 a.1)::S) (qA5 (l':=(opsAt i36p1).toList.drop 7) (eE:=((13,w29 j.1)::(12,.func 100 [.ptr 0 4 0] [])::(11,w9 a.1)::S)) (hs:=[(mkH [Z,o,n,c])]) (H':=(mkH [Z,o,n,c])) (fi:=105) (args:=[.ptr 0 4 0,w9 a.1,.func 100 [.ptr 0 4 0] []]) (v:=w29 j.1) Kr (frC (rs:=[0]) (ms:=[]) (ms':=[]) ((hF.i41_ok a.1 I J a.2 K).1 j b0) trivial trivial Kr) Kr (qAb (l':=(opsAt i36p1).toList.drop 8) (eE:=((14,.own 1 (b).length 7)::(13,w29 j.1)::(12,.func 100 [.ptr 0 4 0] [])::(11,w9 a.1)::S)) (hs:=[(mkH [Z,⟨(b).flatMap e29,0,false⟩,n,c])]) (x:=b) (λ(b:List S28)=>(.own 1 (b).length 7,(mkH [Z,⟨(b).flatMap e29,0,false⟩,n,c]))) (appHV (sz:=7) qA6 rfl qAx [Z,o,n,c] 1 104 O j.1 rfl rfl Kr) b2 Kr (oDh 2 10 E4 (mkH [Z,⟨(b).flatMap e29,0,false⟩,⟨[.i a0,.str q,.own 1 (b).length 7,.bool u,.bool z,w9 E,w9 N],7,false⟩,c]) [(mkH [Z,⟨(b).flatMap e29,0,false⟩,⟨[.i a0,.str q,.own 1 (b).length 7,.bool u,.bool z,w9 E,w9 N],7,false⟩,c])] .nil)))))) ?_
  refine oR 3 (atN 1 (ctl1 i36p2)) ((16,.ptr 0 4 0)::E4) ?_
  let Q8:Blk:=⟨(b).flatMap e29,0,false⟩
  refine oN (λ(g:Ri12)=>w9 g.1) (λg=>[⟨[.str I,w34 J,.i g.2,.i K],4,false⟩,Q8,⟨[.i a0,.str q,.own 1 (b).length 7,.bool u,.bool z,w9 E,w9 N],7,false⟩,c]) (atN 2 (ctl1 i36p2)) 17 [0] [] [] [.ptr 0 4 0] (qAm k I J j.2 K) trivial (λ_=>trivial) λg c0=>?_
  let Q9:Blk:=⟨[.i a0,.str q,.own 1 (b).length 7,.bool u,.bool z,w9 E,w9 g.1],7,false⟩
  refine oLH 4 i36p3 [(0,.ptr 0 4 0),(4,.ptr 2 7 0),(6,.ptr 3 7 0)] (mkH [⟨[.str I,w34 J,.i g.2,.i K],4,false⟩,Q8,Q9,c]) ?_
  let E5:Env:=[(0,.ptr 0 4 0),(4,.ptr 2 7 0),(6,.ptr 3 7 0)]
  refine oR 2 (atN 1 (ctl1 i36p3)) ((19,.ptr 0 4 0)::E5) ?_
  refine oX (λ(Q:Int) => .tuple []) (λQ=>[⟨[.str I,w34 J,.i Q,.i K],4,false⟩,Q8,Q9,c]) (atN 2 (ctl1 i36p3)) 20 [0] [] [] [0,2] [0,1] [.ptr 0 4 0,.str [101,110,100]] (qAw k ([101,110,100]:LN) I J g.2 K) trivial (λ_=>trivial) ⟨u29 _,trivial⟩ λQ c1=>?_
  let b5:Blk:=⟨[.str I,w34 J,.i Q,.i K],4,false⟩
  refine oH 7 .fin ((21,.agg [.i a0,.str q,.own 1 (b).length 7,.bool u,.bool z,w9 E,w9 g.1])::(20,.tuple [])::(19,.ptr 0 4 0)::E5) (mkH [b5,Q8,Q9,Q9]) ?_
  exact qC3 (r:=some (a0,q,u,z,E,g.1,Q,b)) (xs:=[.agg [.i a0,.str q,.own 1 (b).length 7,.bool u,.bool z,w9 E,w9 g.1]]) [b5,Q8] [Q9,Q9] Kr Kr Kr Kr Kr ⟨Kr,⟨(qA3 _ (u29 _)),trivial⟩⟩ Kr Kr
theorem i36B_ok (k:Nat) (F:Fns0) (a:FnsOk0 F):Pi36 (i36B k F):=λa0 b c g j n o q u z D=>⟨λx h=>qMl k F a a0 b c g j n o q u z D (some x) h,λh=>⟨_,qMl k F a a0 b c g j n o q u z D none h⟩⟩
def i37p1:Pt:=nav [0,0,0] (nav [0] (bodyAt Try.f99))
def i37p2:Pt:=nav [0,0] i37p1
def i37p3:Pt:=nav [0,0,0] i37p2
def i37d0:DP:=⟨[],[(0,0,0),(1,0,2),(0,0,0),(0,0,0),(8,0,0),(0,0,0),(60,0,0),(127,0,0),(255,0,0),(511,0,0)],10,thrown,[],H0⟩
def i37B (k:Nat) (F:Fns0) (a0:Int) (q:LN) (u:Bool) (x:Bool) (z:LL) (I:LL) (j:LN) (n:List S33) (D:Int) (o:Int) (E:List S28):Option (Option Ri37) :=
 (i12 k j n D o).bind λa=>bT (F.i42 a.1 j n a.2 o) λb=>(appS 104 E b.1).bind λg=>(i12 k j n b.2 o).bind λc=>bT (i23 k ([101,110,100]:LN) j n c.2 o) λh=>some (some (a0,q,u,x,z,c.1,h,g))
theorem qMk (k:Nat) (F:Fns0) (hF:FnsOk0 F):∀ a0 q u z E N I J U K O r,i37B k F a0 q u z E N I J U K O=some r→CallT Try.prog 99 [.ptr 0 4 0,.agg [.i a0,.str q,.own 1 (O).length 7,.bool u,.bool z,w9 E,w9 N],.func 101 [.ptr 0 4 0] []] (mkH [⟨[.str I,w34 J,.i U,.i K],4,false⟩,⟨(O).flatMap e29,0,false⟩]) ((Xi37 a0 q u z E N I J U K O).thr r) ((Xi37 a0 q u z E N I J U K O).enc r) ((Xi37 a0 q u z E N I J U K O).fin r):=by
 intro a0 q u z E N I J U K O r h
 refine qA2 (Xi37 a0 q u z E N I J U K O) Try.func99 Kr Kr rfl (t:=i37B k F a0 q u z E N I J U K O) ?_ h
 unfold i37B
 refine qA (eE:=[(0,.ptr 0 4 0),(1,.agg [.i a0,.str q,.own 1 (O).length 7,.bool u,.bool z,w9 E,w9 N]),(2,.func 101 [.ptr 0 4 0] [])]) Kr ?_
 let Q1:Blk:=⟨[.str I,w34 J,.i U,.i K],4,false⟩
 let o:Blk:=⟨(O).flatMap e29,0,false⟩
 let n:Blk:=⟨[.i a0,.str q,.own 1 (O).length 7,.bool u,.bool z,w9 E,w9 N],0,false⟩
 let c:Blk:=⟨[.i 0,.str [],.nils,.bool false,.bool false,.nils,.nils],0,false⟩
 refine oH 6 i37p1 [(6,.ptr 3 7 0),(4,.ptr 2 7 0),(0,.ptr 0 4 0),(1,.agg [.i a0,.str q,.own 1 (O).length 7,.bool u,.bool z,w9 E,w9 N]),(2,.func 101 [.ptr 0 4 0] [])] (mkH [Q1,o,n,c]) ?_
 refine qA9 (λa Y=>?_)
 refine qCp (λh=>?_) (λj b0=>?_)
 ·let S:Env:=[(10,.ptr 0 4 0),(9,.ptr 0 4 0),(8,.own 1 (O).length 7),(7,.ptr 2 7 2),(6,.ptr 3 7 0),(4,.ptr 2 7 0),(0,.ptr 0 4 0),(1,.agg [.i a0,.str q,.own 1 (O).length 7,.bool u,.bool z,w9 E,w9 N]),(2,.func 101 [.ptr 0 4 0] [])]
  let E3:Env:=((15,.top)::(14,.top)::(13,.top)::(12,.func 101 [.ptr 0 4 0] [])::(11,w9 a.1)::S)
  let T:Blk:=⟨[.str I,w34 J,.i a.2,.i K],4,false⟩
  exact qAo (eE:=E3) (i37d0.th 6 thrown [0,2] (mkH [T,o,n,c])) (hs:=[(mkH [T,o,n,c]),(mkH [T,o,n,c]),(mkH [T,o,n,c]),(mkH [T,o,n,c])]) (LX:=[Q1,o]) (L:=[T,o,n,c]) rfl rfl rfl Kr rfl ⟨.inl rfl,⟨.inl rfl,trivial⟩⟩ Kr Kr Kr Kr (qA7 4 (l':=(opsAt i37p1).toList.drop 4) (eE:=S) (H':=(mkH [Q1,o,n,c])) (hs:=[]) Kr (qA5 (l':=(opsAt i37p1).toList.drop 5) (eE:=((11,w9 a.1)::S)) (hs:=[(mkH [T,o,n,c])]) (H':=(mkH [T,o,n,c])) (fi:=58) (args:=[.ptr 0 4 0]) (v:=w9 a.1) Kr (frC (rs:=[0]) (ms:=[]) (ms':=[]) (qAm k I J U K a Y) trivial trivial Kr) Kr (qA7 1 (l':=(opsAt i37p1).toList.drop 6) (eE:=((12,.func 101 [.ptr 0 4 0] [])::(11,w9 a.1)::S)) (H':=(mkH [T,o,n,c])) (hs:=[]) Kr (qAn (l':=(opsAt i37p1).toList.drop 7) (eE:=((13,.top)::(12,.func 101 [.ptr 0 4 0] [])::(11,w9 a.1)::S)) (hs:=[(mkH [T,o,n,c])]) (fi:=105) (args:=[.ptr 0 4 0,w9 a.1,.func 101 [.ptr 0 4 0] []]) Kr Kr (frS 0 (M:=[T,o,n,c]) (rs:=[0]) (ms:=[]) (mv:=[0,1]) (mm:=[0,1]) (D:=[0,2]) (xs':=[.ptr 0 4 0,w9 a.1,.func 101 [.ptr 0 4 0] []]) (.refl) ((hF.i42_ok a.1 I J a.2 K).2 h) trivial ⟨u29 _,trivial⟩ Kr) Kr (qA1 (l':=(opsAt i37p1).toList.drop 8) (eE:=((14,.top)::(13,.top)::(12,.func 101 [.ptr 0 4 0] [])::(11,w9 a.1)::S)) (hs:=[(mkH [T,o,n,c])]) Kr Kr (qA1 (l':=(opsAt i37p1).toList.drop 9) (eE:=E3) (hs:=[]) Kr Kr (qA1 (l':=(opsAt i37p1).toList.drop 10) (eE:=E3) (hs:=[(mkH [T,o,n,c])]) Kr Kr (.nil)))))))) Kr Kr
 ·refine qA9 (λb b2=>?_)
  let S:Env:=[(10,.ptr 0 4 0),(9,.ptr 0 4 0),(8,.own 1 (O).length 7),(7,.ptr 2 7 2),(6,.ptr 3 7 0),(4,.ptr 2 7 0),(0,.ptr 0 4 0),(1,.agg [.i a0,.str q,.own 1 (O).length 7,.bool u,.bool z,w9 E,w9 N]),(2,.func 101 [.ptr 0 4 0] [])]
  let E4:Env:=((15,.ptr 2 7 2)::(14,.own 1 (b).length 7)::(13,w29 j.1)::(12,.func 101 [.ptr 0 4 0] [])::(11,w9 a.1)::S)
  let Z:Blk:=⟨[.str I,w34 J,.i j.2,.i K],4,false⟩
  let Q7:Blk:=⟨[.str I,w34 J,.i a.2,.i K],4,false⟩
  refine oD (H':=(mkH [Z,⟨(b).flatMap e29,0,false⟩,⟨[.i a0,.str q,.own 1 (b).length 7,.bool u,.bool z,w9 E,w9 N],7,false⟩,c])) (nav [0] i37p1) E4 [(mkH [Q7,o,n,c]),(mkH [Z,o,n,c]),(mkH [Z,⟨(b).flatMap e29,0,false⟩,n,c]),(mkH [Z,⟨(b).flatMap e29,0,false⟩,⟨[.i a0,.str q,.own 1 (b).length 7,.bool u,.bool z,w9 E,w9 N],7,false⟩,c])] i37d0 (oDr 4 4 S (qA5 (l':=(opsAt i37p1).toList.drop 5) (eE:=((11,w9 a.1)::S)) (hs:=[(mkH [Q7,o,n,c])]) (H':=(mkH [Q7,o,n,c])) (fi:=58) (args:=[.ptr 0 4 0]) (v:=w9 a.1) Kr (frC (rs:=[0]) (ms:=[]) (ms':=[]) (qAm k I J U K a Y) trivial trivial Kr) Kr (oDr 1 6 ((12,.func 101 [.ptr 0 4 0] [])::(11,w9 a.1)::S) (qA5 (l':=(opsAt i37p1).toList.drop 7) (eE:=((13,w29 j.1)::(12,.func 101 [.ptr 0 4 0] [])::(11,w9 a.1)::S)) (hs:=[(mkH [Z,o,n,c])]) (H':=(mkH [Z,o,n,c])) (fi:=105) (args:=[.ptr 0 4 0,w9 a.1,.func 101 [.ptr 0 4 0] []]) (v:=w29 j.1) Kr (frC (rs:=[0]) (ms:=[]) (ms':=[]) ((hF.i42_ok a.1 I J a.2 K).1 j b0) trivial trivial Kr) Kr (qAb (l':=(opsAt i37p1).toList.drop 8) (eE:=((14,.own 1 (b).length 7)::(13,w29 j.1)::(12,.func 101 [.ptr 0 4 0] [])::(11,w9 a.1)::S)) (hs:=[(mkH [Z,⟨(b).flatMap e29,0,false⟩,n,c])]) (x:=b) (λ(b:List S28)=>(.own 1 (b).length 7,(mkH [Z,⟨(b).flatMap e29,0,false⟩,n,c]))) (appHV (sz:=7) qA6 rfl qAx [Z,o,n,c] 1 104 O j.1 rfl rfl Kr) b2 Kr (oDh 2 10 E4 (mkH [Z,⟨(b).flatMap e29,0,false⟩,⟨[.i a0,.str q,.own 1 (b).length 7,.bool u,.bool z,w9 E,w9 N],7,false⟩,c]) [(mkH [Z,⟨(b).flatMap e29,0,false⟩,⟨[.i a0,.str q,.own 1 (b).length 7,.bool u,.bool z,w9 E,w9 N],7,false⟩,c])] .nil)))))) ?_
  refine oR 3 (atN 1 (ctl1 i37p2)) ((16,.ptr 0 4 0)::E4) ?_
  let Q8:Blk:=⟨(b).flatMap e29,0,false⟩
  refine oN (λ(g:Ri12)=>w9 g.1) (λg=>[⟨[.str I,w34 J,.i g.2,.i K],4,false⟩,Q8,⟨[.i a0,.str q,.own 1 (b).length 7,.bool u,.bool z,w9 E,w9 N],7,false⟩,c]) (atN 2 (ctl1 i37p2)) 17 [0] [] [] [.ptr 0 4 0] (qAm k I J j.2 K) trivial (λ_=>trivial) λg c0=>?_
  let Q9:Blk:=⟨[.i a0,.str q,.own 1 (b).length 7,.bool u,.bool z,w9 E,w9 g.1],7,false⟩
  refine oLH 4 i37p3 [(0,.ptr 0 4 0),(4,.ptr 2 7 0),(6,.ptr 3 7 0)] (mkH [⟨[.str I,w34 J,.i g.2,.i K],4,false⟩,Q8,Q9,c]) ?_
  let E5:Env:=[(0,.ptr 0 4 0),(4,.ptr 2 7 0),(6,.ptr 3 7 0)]
  refine oR 2 (atN 1 (ctl1 i37p3)) ((19,.ptr 0 4 0)::E5) ?_
  refine oX (λ(Q:Int) => .tuple []) (λQ=>[⟨[.str I,w34 J,.i Q,.i K],4,false⟩,Q8,Q9,c]) (atN 2 (ctl1 i37p3)) 20 [0] [] [] [0,2] [0,1] [.ptr 0 4 0,.str [101,110,100]] (qAw k ([101,110,100]:LN) I J g.2 K) trivial (λ_=>trivial) ⟨u29 _,trivial⟩ λQ c1=>?_
  let b5:Blk:=⟨[.str I,w34 J,.i Q,.i K],4,false⟩
  refine oH 7 .fin ((21,.agg [.i a0,.str q,.own 1 (b).length 7,.bool u,.bool z,w9 E,w9 g.1])::(20,.tuple [])::(19,.ptr 0 4 0)::E5) (mkH [b5,Q8,Q9,Q9]) ?_
  exact qC3 (r:=some (a0,q,u,z,E,g.1,Q,b)) (xs:=[.agg [.i a0,.str q,.own 1 (b).length 7,.bool u,.bool z,w9 E,w9 g.1]]) [b5,Q8] [Q9,Q9] Kr Kr Kr Kr Kr ⟨Kr,⟨(qA3 _ (u29 _)),trivial⟩⟩ Kr Kr
theorem i37B_ok (k:Nat) (F:Fns0) (a:FnsOk0 F):Pi37 (i37B k F):=λa0 b c g j n o q u z D=>⟨λx h=>qMk k F a a0 b c g j n o q u z D (some x) h,λh=>⟨_,qMk k F a a0 b c g j n o q u z D none h⟩⟩
def i38c0:LN:=[97,102,116,101,114]
def i38p2:Pt:=nav [0,0,0] (nav [0,0,0] (nav [0] (bodyAt Try.f102)))
def i38p3:Pt:=nav [0,0,0,0] i38p2
def i38p4:Pt:=nav [0,0] i38p3
def i38p5:Pt:=nav [1,0] i38p4
def i38p6:Pt:=nav [2,0,0,0] i38p4
def i38p7:Pt:=nav [0,0] i38p5
def i38p8:Pt:=nav [0,0] i38p6
def i38p9:Pt:=nav [1,0] i38p8
def i38p11:Pt:=nav [0,0,0] i38p9
def i38p12:Pt:=nav [0,0,0] (nav [2,0,0] i38p8)
def i38p13:Pt:=nav [0,0,0] i38p11
def i38p14:Pt:=nav [0,0,0] i38p12
def i38p15:Pt:=nav [0,0,0] i38p13
def i38p17:Pt:=nav [0,0] i38p15
def i38B (k:Nat) (F:Fns0) (a0:LN) (o:List S33) (D:Int) (q:Int):Option (Option (S28×Int)) :=
 (i12 k a0 o D q).bind λh=>(i10 k i38c0 a0 o h.2 q).bind λz=>if (!z) then (bT (F.i43 h.1 a0 o h.2 q) λu=>(i12 k a0 o u.1 q).bind λx=>bT (i7 k i38c0 a0 o x.2 q) λb=>if b.1 then (bT (F.i5 (1:Int) a0 o b.2 q) λc=>bT (F.i47 ([]:LN) (⟨23,([]:LN),(⟨(([c.1]:List S28)).length,(([c.1]:List S28)).flatMap e29⟩:Raw),false,false,([]:LL),([]:LL)⟩:S28) (⟨24,([]:LN),(⟨(([]:List S28)).length,(([]:List S28)).flatMap e29⟩:Raw),false,false,([]:LL),([]:LL)⟩:S28) a0 o c.2 q) λa=>(appS 104 u.2 ([(⟨a.1.f0,a.1.f1,a.1.f2,a.1.f3,a.1.f4,x.1,a.1.f6⟩:S28)]:List S28)).bind λj=>(i12 k a0 o a.2 q).bind λn=>bT (i23 k ([101,110,100]:LN) a0 o n.2 q) λg=>some (some ((⟨(20:Int),i38c0,⟨(j).length,(j).flatMap e29⟩,false,false,([]:LL),n.1⟩:S28),g))) else (bT (i23 k ([101,110,100]:LN) a0 o b.2 q) λg=>some (some ((⟨(20:Int),([]:LN),⟨(u.2).length,(u.2).flatMap e29⟩,false,false,([]:LL),x.1⟩:S28),g)))) else (bT (i7 k i38c0 a0 o h.2 q) λb=>if b.1 then (bT (F.i5 (1:Int) a0 o b.2 q) λc=>bT (F.i47 ([]:LN) (⟨23,([]:LN),(⟨(([c.1]:List S28)).length,(([c.1]:List S28)).flatMap e29⟩:Raw),false,false,([]:LL),([]:LL)⟩:S28) (⟨24,([]:LN),(⟨(([]:List S28)).length,(([]:List S28)).flatMap e29⟩:Raw),false,false,([]:LL),([]:LL)⟩:S28) a0 o c.2 q) λa=>(appS 104 ([]:List S28) ([(⟨a.1.f0,a.1.f1,a.1.f2,a.1.f3,a.1.f4,h.1,a.1.f6⟩:S28)]:List S28)).bind λj=>(i12 k a0 o a.2 q).bind λn=>bT (i23 k ([101,110,100]:LN) a0 o n.2 q) λg=>some (some ((⟨(20:Int),i38c0,⟨(j).length,(j).flatMap e29⟩,false,false,([]:LL),n.1⟩:S28),g))) else (bT (i23 k ([101,110,100]:LN) a0 o b.2 q) λg=>some (some ((⟨(20:Int),([]:LN),⟨(([]:List S28)).length,(([]:List S28)).flatMap e29⟩,false,false,([]:LL),h.1⟩:S28),g))))
theorem qMj (k:Nat) (F:Fns0) (hF:FnsOk0 F):∀ a0 o a2 q r,i38B k F a0 o a2 q=some r→CallT Try.prog 102 [.ptr 0 4 0] (mkH [⟨[.str a0,w34 o,.i a2,.i q],4,false⟩]) ((Xi38 a0 o a2 q).thr r) ((Xi38 a0 o a2 q).enc r) ((Xi38 a0 o a2 q).fin r):=by
 intro a0 o a2 q r h
 refine qA2 (Xi38 a0 o a2 q) Try.func102 Kr Kr rfl (t:=i38B k F a0 o a2 q) ?_ h
 unfold i38B
 refine qA (eE:=[(0,.ptr 0 4 0)]) Kr ?_
 let Q1:Blk:=⟨[.str a0,w34 o,.i a2,.i q],4,false⟩
 let D:Blk:=⟨[.i 0,.str [],.nils,.bool false,.bool false,.nils,.nils],0,false⟩
 let Q3:Blk:=⟨[.i 20,.str [],.nils,.bool false,.bool false,.nils,.nils],7,false⟩
 refine oH 11 i38p2 [(3,.ptr 2 7 0),(7,.agg [.i 20,.str [],.nils,.bool false,.bool false,.nils,.nils]),(2,.ptr 1 7 0),(0,.ptr 0 4 0)] (mkH [Q1,D,Q3]) ?_
 refine qI9 [Q1,D,Q3] Kr ?_
 let E:Blk:=⟨(([]:List S28)).flatMap e29,0,false⟩
 refine oHp (mkH [Q1,D,Q3,E]) ?_
 refine qDv [Q1,D,Q3,E] 2 7 [.i 20,.str [],.nils,.bool false,.bool false,.nils,.nils] [.i 20,.str [],.own 3 (([]:List S28)).length 7,.bool false,.bool false,.nils,.nils] Kr rfl (.cons (.cons (.none (.refl)))) ?_
 let E1:Env:=[(8,.ptr 0 4 0),(3,.ptr 2 7 0),(7,.agg [.i 20,.str [],.nils,.bool false,.bool false,.nils,.nils]),(2,.ptr 1 7 0),(0,.ptr 0 4 0)]
 let S:Blk:=⟨[.i 20,.str [],.own 3 (([]:List S28)).length 7,.bool false,.bool false,.nils,.nils],7,false⟩
 refine oH 2 (atN 1 (ctl1 i38p2)) E1 (mkH [Q1,D,S,E]) ?_
 refine oN (λ(c:Ri12)=>w9 c.1) (λc=>[⟨[.str a0,w34 o,.i c.2,.i q],4,false⟩,D,S,E]) (atN 2 (ctl1 i38p2)) 9 [0] [] [] [.ptr 0 4 0] (qAm k a0 o a2 q) trivial (λ_=>trivial) λc d0=>?_
 refine oR 6 (atN 1 (ctl1 i38p3)) ((10,.ptr 0 4 0)::(4,w9 c.1)::(9,w9 c.1)::E1) ?_
 refine oN (λ(J:Bool) => .bool J) (λJ=>[⟨[.str a0,w34 o,.i c.2,.i q],4,false⟩,D,S,E]) (atN 2 (ctl1 i38p3)) 11 [0] [] [] [.ptr 0 4 0,.str i38c0] (qJp k i38c0 a0 o c.2 q) trivial (λ_=>trivial) λJ d1=>?_
 let E2:Env:=((12,.bool (!J))::(11,.bool J)::(10,.ptr 0 4 0)::(4,w9 c.1)::(9,w9 c.1)::E1)
 refine oR 2 i38p4 E2 ?_
 refine oS 12 (λhb=>?_) (λhb=>?_)
 ·refine oR 7 (atN 4 (ctl1 i38p5)) ((16,.func 100 [.ptr 0 4 0] [])::(15,.ptr 0 4 0)::(14,w9 c.1)::(13,.ptr 0 4 0)::(12,.bool true)::E2) ?_
  refine oX (λ(z:Ri43) => .own 4 (z.2).length 7) (λz=>[⟨[.str a0,w34 o,.i z.1,.i q],4,false⟩,D,S,E,⟨(z.2).flatMap e29,0,false⟩]) (atN 5 (ctl1 i38p5)) 17 [0,4] [] [0,1] [0,2] [0,0,0,1] [.ptr 0 4 0,w9 c.1,.func 100 [.ptr 0 4 0] []] (hF.i43_ok c.1 a0 o c.2 q) trivial (λ_=>⟨u29 _,trivial⟩) ⟨u29 _,trivial⟩ λz d3=>?_
  let U:Blk:=⟨[.i 20,.str [],.own 4 (z.2).length 7,.bool false,.bool false,.nils,.nils],7,false⟩
  let T:Blk:=⟨(z.2).flatMap e29,0,false⟩
  refine oLH 3 i38p7 [(0,.ptr 0 4 0),(2,.ptr 1 7 0),(3,.ptr 2 7 0)] (mkH [⟨[.str a0,w34 o,.i z.1,.i q],4,false⟩,D,U,E,T]) ?_
  let E4:Env:=[(0,.ptr 0 4 0),(2,.ptr 1 7 0),(3,.ptr 2 7 0)]
  refine oR 2 (atN 1 (ctl1 i38p7)) ((19,.ptr 0 4 0)::E4) ?_
  refine oN (λ(u:Ri12)=>w9 u.1) (λu=>[⟨[.str a0,w34 o,.i u.2,.i q],4,false⟩,D,U,E,T]) (atN 2 (ctl1 i38p7)) 20 [0] [] [] [.ptr 0 4 0] (qAm k a0 o z.1 q) trivial (λ_=>trivial) λu d5=>?_
  refine oR 6 (atN 1 (ctl1 i38p6)) ((21,.ptr 0 4 0)::(4,w9 u.1)::(20,w9 u.1)::(19,.ptr 0 4 0)::E4) ?_
  refine oX (λ(n:(Bool×Int)) => .bool n.1) (λn=>[⟨[.str a0,w34 o,.i n.2,.i q],4,false⟩,D,U,E,T]) (atN 2 (ctl1 i38p6)) 22 [0] [] [] [2] [0,0,0,1,1] [.ptr 0 4 0,.str i38c0] (qAj k i38c0 a0 o u.2 q) trivial (λ_=>trivial) ⟨u29 _,u29 _,trivial⟩ λn b2=>?_
  let E5:Env:=((22,.bool n.1)::(21,.ptr 0 4 0)::(4,w9 u.1)::(20,w9 u.1)::(19,.ptr 0 4 0)::E4)
  refine oR 1 i38p8 E5 ?_
  refine oS 22 (λhb=>?_) (λhb=>?_)
  ·refine oR 4 (atN 1 (ctl1 i38p9)) ((23,.ptr 0 4 0)::(22,.bool true)::E5) ?_
   refine oX (λ(b:(S28×Int))=>n29 b.1) (λb=>[⟨[.str a0,w34 o,.i b.2,.i q],4,false⟩,D,U,E,T]) (atN 2 (ctl1 i38p9)) 24 [0] [] [] [0,2] [0,0,0,1,1] [.ptr 0 4 0,.i 1] (hF.i5_ok (1:Int) a0 o n.2 q) trivial (λ_=>trivial) ⟨u29 _,u29 _,trivial⟩ λb b3=>?_
   let Q8:Blk:=⟨[.str a0,w34 o,.i b.2,.i q],4,false⟩
   refine oH 1 (atN 3 (ctl1 i38p9)) ((25,.slice 5 7 0 1 7)::(24,n29 b.1)::(23,.ptr 0 4 0)::(22,.bool true)::E5) (mkH [Q8,D,U,E,T,⟨e29 b.1,0,false⟩]) ?_
   refine oZ 25 5 1 7 [.i b.1.f0,.str b.1.f1,q29 b.1.f2,.bool b.1.f3,.bool b.1.f4,w9 b.1.f5,w9 b.1.f6] [0,2,3,4,19,20,21,22,23,24] [0,0,0,1,1] ⟨u29 _,u29 _,trivial⟩ ?_
   let E7:Env:=[(0,.ptr 0 4 0),(2,.ptr 1 7 0),(3,.ptr 2 7 0),(4,w9 u.1),(5,.ptr 6 7 0)]
   let Y:Blk:=⟨[.i 23,.str [],w29 ([b.1]:List S28),.bool false,.bool false,.nils,.nils],7,false⟩
   refine oLH 5 i38p11 E7 (mkH [Q8,D,U,E,T,⟨[],0,false⟩,Y]) ?_
   refine oR 4 (atN 3 (ctl1 i38p11)) ((29,.agg [.i 24,.str [],.nils,.bool false,.bool false,.nils,.nils])::(28,.agg [.i 23,.str [],w29 ([b.1]:List S28),.bool false,.bool false,.nils,.nils])::(27,.ptr 0 4 0)::E7) ?_
   refine oXW 0 [Q8,D,U,E,T,⟨[],0,false⟩,Y] (λ(a:(S28×Int))=>n29 a.1) (λa=>[⟨[.str a0,w34 o,.i a.2,.i q],4,false⟩,D,U,E,T,⟨[],0,false⟩,Y]) (atN 4 (ctl1 i38p11)) 30 [0] [] [] [0,2] [0,0,0,1,1] [0,0,0,1,1] [.ptr 0 4 0,.str [],.agg [.i 23,.str [],w29 ([b.1]:List S28),.bool false,.bool false,.nils,.nils],.agg [.i 24,.str [],.nils,.bool false,.bool false,.nils,.nils]] [.ptr 0 4 0,.str [],.agg [.i 23,.str [],w29 ([b.1]:List S28),.bool false,.bool false,w9 ([]:LL),w9 ([]:LL)],.agg [.i 24,.str [],w29 ([]:List S28),.bool false,.bool false,w9 ([]:LL),w9 ([]:LL)]] (.cons (.cons (.agg (.cons (.cons (.cons (.cons (.cons (.nil (.nil (.refl)))))))) (.agg (.cons (.cons (.nil (.cons (.cons (.nil (.nil (.refl)))))))) (.refl))))) (hF.i47_ok ([]:LN) (⟨23,([]:LN),(⟨(([b.1]:List S28)).length,(([b.1]:List S28)).flatMap e29⟩:Raw),false,false,([]:LL),([]:LL)⟩:S28) (⟨24,([]:LN),(⟨(([]:List S28)).length,(([]:List S28)).flatMap e29⟩:Raw),false,false,([]:LL),([]:LL)⟩:S28) a0 o b.2 q) trivial (λ_=>trivial) ⟨u29 _,u29 _,trivial⟩ λa b4=>?_
   let E9:Env:=[(0,.ptr 0 4 0),(2,.ptr 1 7 0),(3,.ptr 2 7 0),(6,.ptr 7 7 0)]
   let a7:Blk:=⟨[.str a0,w34 o,.i a.2,.i q],4,false⟩
   let K:Blk:=⟨[.i a.1.f0,.str a.1.f1,q29 a.1.f2,.bool a.1.f3,.bool a.1.f4,w9 u.1,w9 a.1.f6],7,false⟩
   refine oLH 10 i38p15 E9 (mkH [a7,D,U,E,T,⟨[],0,false⟩,Y,K]) ?_
   let O:Blk:=⟨[.i a.1.f0,.str a.1.f1,q29 a.1.f2,.bool a.1.f3,.bool a.1.f4,w9 u.1,w9 a.1.f6],0,false⟩
   let K1:List Blk:=[a7,D,U,E,T,⟨[],0,false⟩,Y,K,O]
   refine oH 5 (atN 4 (ctl1 i38p15)) ((36,.slice 8 7 0 1 7)::(35,.agg [.i a.1.f0,.str a.1.f1,q29 a.1.f2,.bool a.1.f3,.bool a.1.f4,w9 u.1,w9 a.1.f6])::(34,.own 4 (z.2).length 7)::(33,.ptr 2 7 2)::E9) (mkH K1) ?_
   refine oC (λ(x:List S28)=>(.own 4 (x).length 7,(mkH [a7,D,U,E,⟨(x).flatMap e29,0,false⟩,⟨[],0,false⟩,Y,K,O]))) (atN 5 (ctl1 i38p15)) 37 (appH (sz:=7) qA6 rfl qAx K1 4 104 z.2 ([(⟨a.1.f0,a.1.f1,a.1.f2,a.1.f3,a.1.f4,u.1,a.1.f6⟩:S28)]:List S28) rfl rfl Kr) λx b5=>?_
   let b6:Env:=[(0,.ptr 0 4 0),(2,.ptr 1 7 0),(3,.ptr 2 7 0)]
   let c3:Blk:=⟨[.i 20,.str i38c0,.own 4 (x).length 7,.bool false,.bool false,.nils,.nils],7,false⟩
   let Z:Blk:=⟨(x).flatMap e29,0,false⟩
   refine oLH 5 i38p17 b6 (mkH [a7,D,c3,E,Z,⟨[],0,false⟩,Y,K,O]) ?_
   refine oR 2 (atN 1 (ctl1 i38p17)) ((40,.ptr 0 4 0)::b6) ?_
   refine oN (λ(g:Ri12)=>w9 g.1) (λg=>[⟨[.str a0,w34 o,.i g.2,.i q],4,false⟩,D,c3,E,Z,⟨[],0,false⟩,Y,K,O]) (atN 2 (ctl1 i38p17)) 41 [0] [] [] [.ptr 0 4 0] (qAm k a0 o a.2 q) trivial (λ_=>trivial) λg b7=>?_
   let a8:Blk:=⟨[.i 20,.str i38c0,.own 4 (x).length 7,.bool false,.bool false,.nils,w9 g.1],7,false⟩
   refine oH 11 (atN 1 (ctl1 i38p12)) ((44,.ptr 0 4 0)::(43,.ptr 2 7 6)::(42,w9 g.1)::(4,w9 g.1)::(41,w9 g.1)::(40,.ptr 0 4 0)::b6) (mkH [⟨[.str a0,w34 o,.i g.2,.i q],4,false⟩,D,a8,E,Z,⟨[],0,false⟩,Y,K,O]) ?_
   refine oX (λ(j:Int) => .tuple []) (λj=>[⟨[.str a0,w34 o,.i j,.i q],4,false⟩,D,a8,E,Z,⟨[],0,false⟩,Y,K,O]) (atN 2 (ctl1 i38p12)) 45 [0] [] [] [0,2] [0,0,0,1,1] [.ptr 0 4 0,.str [101,110,100]] (qAw k ([101,110,100]:LN) a0 o g.2 q) trivial (λ_=>trivial) ⟨u29 _,u29 _,trivial⟩ λj Q=>?_
   refine oL 2 i38p14 [(2,.ptr 1 7 0),(3,.ptr 2 7 0)] ?_
   exact oQF 5 [⟨[.str a0,w34 o,.i j,.i q],4,false⟩,a8,a8,E,Z,⟨[],0,false⟩,Y,K,O] 1 [] [.agg [.i 20,.str i38c0,.own 4 (x).length 7,.bool false,.bool false,.nils,w9 g.1]] (.agg [.i 20,.str i38c0,w29 x,.bool false,.bool false,.vec 0 1 [],w9 g.1]) (.agg (.cs (.cs (qAr qA6 qAh rfl rfl rfl (.cs (.cs (.nil .ps)))))) .ps) trivial
  ·let a9:Blk:=⟨[.i 20,.str [],.own 4 (z.2).length 7,.bool false,.bool false,.nils,w9 u.1],7,false⟩
   refine oLH 9 i38p12 [(0,.ptr 0 4 0),(2,.ptr 1 7 0),(3,.ptr 2 7 0)] (mkH [⟨[.str a0,w34 o,.i n.2,.i q],4,false⟩,D,a9,E,T]) ?_
   refine oR 2 (atN 1 (ctl1 i38p12)) ((44,.ptr 0 4 0)::[(0,.ptr 0 4 0),(2,.ptr 1 7 0),(3,.ptr 2 7 0)]) ?_
   refine oX (λ(j:Int) => .tuple []) (λj=>[⟨[.str a0,w34 o,.i j,.i q],4,false⟩,D,a9,E,T]) (atN 2 (ctl1 i38p12)) 45 [0] [] [] [0,2] [0,0,0,1,1] [.ptr 0 4 0,.str [101,110,100]] (qAw k ([101,110,100]:LN) a0 o n.2 q) trivial (λ_=>trivial) ⟨u29 _,u29 _,trivial⟩ λj Q=>?_
   exact oQF 7 [⟨[.str a0,w34 o,.i j,.i q],4,false⟩,a9,a9,E,T] 1 [] [.agg [.i 20,.str [],.own 4 (z.2).length 7,.bool false,.bool false,.nils,w9 u.1]] (.agg [.i 20,.str [],w29 z.2,.bool false,.bool false,.vec 0 1 [],w9 u.1]) (.agg (.cs (.cs (qAr qA6 qAh rfl rfl rfl (.cs (.cs (.nil .ps)))))) .ps) trivial
 ·refine oR 6 (atN 1 (ctl1 i38p6)) ((21,.ptr 0 4 0)::(12,.bool false)::E2) ?_
  refine oX (λ(n:(Bool×Int)) => .bool n.1) (λn=>[⟨[.str a0,w34 o,.i n.2,.i q],4,false⟩,D,S,E]) (atN 2 (ctl1 i38p6)) 22 [0] [] [] [2] [0,0,0,1] [.ptr 0 4 0,.str i38c0] (qAj k i38c0 a0 o c.2 q) trivial (λ_=>trivial) ⟨u29 _,trivial⟩ λn b2=>?_
  refine oL 1 i38p8 [(0,.ptr 0 4 0),(2,.ptr 1 7 0),(3,.ptr 2 7 0),(4,w9 c.1),(22,.bool n.1)] ?_
  let b8:Env:=[(0,.ptr 0 4 0),(2,.ptr 1 7 0),(3,.ptr 2 7 0),(4,w9 c.1),(22,.bool n.1)]
  refine oS 22 (λhb=>?_) (λhb=>?_)
  ·refine oR 4 (atN 1 (ctl1 i38p9)) ((23,.ptr 0 4 0)::(22,.bool true)::b8) ?_
   refine oX (λ(b:(S28×Int))=>n29 b.1) (λb=>[⟨[.str a0,w34 o,.i b.2,.i q],4,false⟩,D,S,E]) (atN 2 (ctl1 i38p9)) 24 [0] [] [] [0,2] [0,0,0,1] [.ptr 0 4 0,.i 1] (hF.i5_ok (1:Int) a0 o n.2 q) trivial (λ_=>trivial) ⟨u29 _,trivial⟩ λb b3=>?_
   let b9:Blk:=⟨[.str a0,w34 o,.i b.2,.i q],4,false⟩
   refine oH 1 (atN 3 (ctl1 i38p9)) ((25,.slice 4 7 0 1 7)::(24,n29 b.1)::(23,.ptr 0 4 0)::(22,.bool true)::b8) (mkH [b9,D,S,E,⟨e29 b.1,0,false⟩]) ?_
   refine oZ 25 4 1 7 [.i b.1.f0,.str b.1.f1,q29 b.1.f2,.bool b.1.f3,.bool b.1.f4,w9 b.1.f5,w9 b.1.f6] [0,2,3,4,22,23,24] [0,0,0,1] ⟨u29 _,trivial⟩ ?_
   let I:Blk:=⟨[.i 23,.str [],w29 ([b.1]:List S28),.bool false,.bool false,.nils,.nils],7,false⟩
   refine oH 9 (atN 3 (ctl1 i38p11)) [(29,.agg [.i 24,.str [],.nils,.bool false,.bool false,.nils,.nils]),(28,.agg [.i 23,.str [],w29 ([b.1]:List S28),.bool false,.bool false,.nils,.nils]),(27,.ptr 0 4 0),(5,.ptr 5 7 0),(26,.agg [.i 23,.str [],w29 ([b.1]:List S28),.bool false,.bool false,.nils,.nils]),(25,w29 ([b.1]:List S28)),(0,.ptr 0 4 0),(2,.ptr 1 7 0),(3,.ptr 2 7 0),(4,w9 c.1),(22,.bool true),(23,.ptr 0 4 0),(24,n29 b.1)] (mkH [b9,D,S,E,⟨[],0,false⟩,I]) ?_
   refine oXW 0 [b9,D,S,E,⟨[],0,false⟩,I] (λ(a:(S28×Int))=>n29 a.1) (λa=>[⟨[.str a0,w34 o,.i a.2,.i q],4,false⟩,D,S,E,⟨[],0,false⟩,I]) (atN 4 (ctl1 i38p11)) 30 [0] [] [] [0,2] [0,0,0,1] [0,0,0,1] [.ptr 0 4 0,.str [],.agg [.i 23,.str [],w29 ([b.1]:List S28),.bool false,.bool false,.nils,.nils],.agg [.i 24,.str [],.nils,.bool false,.bool false,.nils,.nils]] [.ptr 0 4 0,.str [],.agg [.i 23,.str [],w29 ([b.1]:List S28),.bool false,.bool false,w9 ([]:LL),w9 ([]:LL)],.agg [.i 24,.str [],w29 ([]:List S28),.bool false,.bool false,w9 ([]:LL),w9 ([]:LL)]] (.cons (.cons (.agg (.cons (.cons (.cons (.cons (.cons (.nil (.nil (.refl)))))))) (.agg (.cons (.cons (.nil (.cons (.cons (.nil (.nil (.refl)))))))) (.refl))))) (hF.i47_ok ([]:LN) (⟨23,([]:LN),(⟨(([b.1]:List S28)).length,(([b.1]:List S28)).flatMap e29⟩:Raw),false,false,([]:LL),([]:LL)⟩:S28) (⟨24,([]:LN),(⟨(([]:List S28)).length,(([]:List S28)).flatMap e29⟩:Raw),false,false,([]:LL),([]:LL)⟩:S28) a0 o b.2 q) trivial (λ_=>trivial) ⟨u29 _,trivial⟩ λa b4=>?_
   let a4:Blk:=⟨[.str a0,w34 o,.i a.2,.i q],4,false⟩
   refine oLH 4 i38p13 [(0,.ptr 0 4 0),(2,.ptr 1 7 0),(3,.ptr 2 7 0),(4,w9 c.1),(6,.ptr 6 7 0)] (mkH [a4,D,S,E,⟨[],0,false⟩,I,⟨e29 a.1,7,false⟩]) ?_
   let M:Blk:=⟨[.i a.1.f0,.str a.1.f1,q29 a.1.f2,.bool a.1.f3,.bool a.1.f4,w9 c.1,w9 a.1.f6],7,false⟩
   let N:Blk:=⟨[.i a.1.f0,.str a.1.f1,q29 a.1.f2,.bool a.1.f3,.bool a.1.f4,w9 c.1,w9 a.1.f6],0,false⟩
   refine oH 11 (atN 4 (ctl1 i38p15)) ((36,.slice 7 7 0 1 7)::(35,.agg [.i a.1.f0,.str a.1.f1,q29 a.1.f2,.bool a.1.f3,.bool a.1.f4,w9 c.1,w9 a.1.f6])::(34,.own 3 (([]:List S28)).length 7)::(33,.ptr 2 7 2)::(32,.ptr 6 7 5)::(31,w9 c.1)::[(0,.ptr 0 4 0),(2,.ptr 1 7 0),(3,.ptr 2 7 0),(4,w9 c.1),(6,.ptr 6 7 0)]) (mkH [a4,D,S,E,⟨[],0,false⟩,I,M,N]) ?_
   refine oC (λ(x:List S28)=>(.own 3 (x).length 7,(mkH [a4,D,S,⟨(x).flatMap e29,0,false⟩,⟨[],0,false⟩,I,M,N]))) (atN 5 (ctl1 i38p15)) 37 (appH (sz:=7) qA6 rfl qAx [a4,D,S,E,⟨[],0,false⟩,I,M,N] 3 104 ([]:List S28) ([(⟨a.1.f0,a.1.f1,a.1.f2,a.1.f3,a.1.f4,c.1,a.1.f6⟩:S28)]:List S28) rfl rfl Kr) λx b5=>?_
   let c4:Blk:=⟨[.i 20,.str i38c0,.own 3 (x).length 7,.bool false,.bool false,.nils,.nils],7,false⟩
   let a5:Blk:=⟨(x).flatMap e29,0,false⟩
   refine oLH 5 i38p17 [(0,.ptr 0 4 0),(2,.ptr 1 7 0),(3,.ptr 2 7 0)] (mkH [a4,D,c4,a5,⟨[],0,false⟩,I,M,N]) ?_
   let c5:Env:=[(0,.ptr 0 4 0),(2,.ptr 1 7 0),(3,.ptr 2 7 0)]
   refine oR 2 (atN 1 (ctl1 i38p17)) ((40,.ptr 0 4 0)::c5) ?_
   refine oN (λ(g:Ri12)=>w9 g.1) (λg=>[⟨[.str a0,w34 o,.i g.2,.i q],4,false⟩,D,c4,a5,⟨[],0,false⟩,I,M,N]) (atN 2 (ctl1 i38p17)) 41 [0] [] [] [.ptr 0 4 0] (qAm k a0 o a.2 q) trivial (λ_=>trivial) λg b7=>?_
   let b0:Blk:=⟨[.i 20,.str i38c0,.own 3 (x).length 7,.bool false,.bool false,.nils,w9 g.1],7,false⟩
   refine oH 11 (atN 1 (ctl1 i38p12)) ((44,.ptr 0 4 0)::(43,.ptr 2 7 6)::(42,w9 g.1)::(4,w9 g.1)::(41,w9 g.1)::(40,.ptr 0 4 0)::c5) (mkH [⟨[.str a0,w34 o,.i g.2,.i q],4,false⟩,D,b0,a5,⟨[],0,false⟩,I,M,N]) ?_
   refine oX (λ(j:Int) => .tuple []) (λj=>[⟨[.str a0,w34 o,.i j,.i q],4,false⟩,D,b0,a5,⟨[],0,false⟩,I,M,N]) (atN 2 (ctl1 i38p12)) 45 [0] [] [] [0,2] [0,0,0,1] [.ptr 0 4 0,.str [101,110,100]] (qAw k ([101,110,100]:LN) a0 o g.2 q) trivial (λ_=>trivial) ⟨u29 _,trivial⟩ λj Q=>?_
   refine oL 2 i38p14 [(2,.ptr 1 7 0),(3,.ptr 2 7 0)] ?_
   exact oQF 5 [⟨[.str a0,w34 o,.i j,.i q],4,false⟩,b0,b0,a5,⟨[],0,false⟩,I,M,N] 1 [] [.agg [.i 20,.str i38c0,.own 3 (x).length 7,.bool false,.bool false,.nils,w9 g.1]] (.agg [.i 20,.str i38c0,w29 x,.bool false,.bool false,.vec 0 1 [],w9 g.1]) (.agg (.cs (.cs (qAr qA6 qAh rfl rfl rfl (.cs (.cs (.nil .ps)))))) .ps) trivial
  ·let b1:Blk:=⟨[.i 20,.str [],.own 3 (([]:List S28)).length 7,.bool false,.bool false,.nils,w9 c.1],7,false⟩
   refine oH 11 (atN 1 (ctl1 i38p12)) ((44,.ptr 0 4 0)::(43,.ptr 2 7 6)::(42,w9 c.1)::(22,.bool false)::b8) (mkH [⟨[.str a0,w34 o,.i n.2,.i q],4,false⟩,D,b1,E]) ?_
   refine oX (λ(j:Int) => .tuple []) (λj=>[⟨[.str a0,w34 o,.i j,.i q],4,false⟩,D,b1,E]) (atN 2 (ctl1 i38p12)) 45 [0] [] [] [0,2] [0,0,0,1] [.ptr 0 4 0,.str [101,110,100]] (qAw k ([101,110,100]:LN) a0 o n.2 q) trivial (λ_=>trivial) ⟨u29 _,trivial⟩ λj Q=>?_
   refine oL 2 i38p14 [(2,.ptr 1 7 0),(3,.ptr 2 7 0)] ?_
   exact oQF 5 [⟨[.str a0,w34 o,.i j,.i q],4,false⟩,b1,b1,E] 1 [] [.agg [.i 20,.str [],.own 3 (([]:List S28)).length 7,.bool false,.bool false,.nils,w9 c.1]] (.agg [.i 20,.str [],w29 ([]:List S28),.bool false,.bool false,.vec 0 1 [],w9 c.1]) (.agg (.cs (.cs (qAr qA6 qAh rfl rfl rfl (.cs (.cs (.nil .ps)))))) .ps) trivial
theorem i38B_ok (k:Nat) (F:Fns0) (a:FnsOk0 F):Pi38 (i38B k F):=λa0 b c g=>⟨λx h=>qMj k F a a0 b c g (some x) h,λh=>⟨_,qMj k F a a0 b c g none h⟩⟩
def i40p1:Pt:=nav [0,0,0,0] (nav [0] (bodyAt Try.f105))
def i40p2:Pt:=nav [0,0,0,0,0] i40p1
def i40p4:Pt:=nav [0,0,0] (nav [0,0,0] i40p2)
def i40p5:Pt:=nav [0,0,0,0] i40p4
def i40p6:Pt:=nav [0,0] i40p5
def i40p7:Pt:=nav [1,0] i40p6
def qFw (k:Nat) (F:Fns0)  (o:LN) (q:List S33) (u:Int) (ih:LL→Int→(List S28)→Option (Option Ri40)):LL→Int→(List S28)→Option (Option Ri40) :=
 λ(h:LL) (j:Int) (n:List S28)=>bT (F.i44 o q j u) λa=>(appS 104 n ([(⟨a.1.f0,a.1.f1,a.1.f2,a.1.f3,a.1.f4,h,a.1.f6⟩:S28)]:List S28)).bind λc=>bT (i7 k ([59]:LN) o q a.2 u) λb=>if b.1 then ((i12 k o q b.2 u).bind λg=>ih g.1 g.2 c) else (some (some (c,b.2)))
def qJj (k:Nat) (F:Fns0)  (a:LN) (b:List S33) (c:Int) (n:Nat):LL→Int→(List S28)→Option (Option Ri40):=lp (λ_ _ _=>none) (qFw k F a b c) n
theorem qQz (k:Nat) (F:Fns0) (T:FnsOk0 F) (a0:LL) (q:LN) (u:List S33) (U:Int) (x:Int)    : ∀ (n:Nat) (b:LL) (o:Int) (c:List S28),Ok (Xi40 a0 q u U x) i40p2 [(0,.ptr 0 4 0),(1,w9 b),(2,.func 106 [] [.ptr 1 1 0]),(7,.own 2 (c).length 7)] (mkH [⟨[.str q,w34 u,.i o,.i x],4,false⟩,⟨[.ptr 0 4 0],1,false⟩,⟨(c).flatMap e29,0,false⟩]) (qJj k F q u x n b o c):=by
 intro n
 induction n with
 | zero=>intro b o c; exact ok_none
 | succ n ih =>
  intro b o c
  show Ok _ _ _ _ (qFw k F q u x (qJj k F q u x n) b o c)
  unfold qFw
  let S:Env:=[(9,.func 106 [] [.ptr 1 1 0]),(0,.ptr 0 4 0),(1,w9 b),(2,.func 106 [] [.ptr 1 1 0]),(7,.own 2 (c).length 7)]
  let I:Blk:=⟨(c).flatMap e29,0,false⟩
  refine oH 2 (atN 1 (ctl1 i40p2)) S (mkH [⟨[.str q,w34 u,.i o,.i x],4,false⟩,⟨[.ptr 0 4 0],1,false⟩,I]) ?_
  refine oX (λ(a:(S28×Int))=>n29 a.1) (λa=>[⟨[.str q,w34 u,.i a.2,.i x],4,false⟩,⟨[.ptr 0 4 0],1,false⟩,I]) (atN 2 (ctl1 i40p2)) 10 [0,1] [] [] [0,1] [0,0,1] [.ptr 1 1 0] (T.i44_ok q u o x) trivial (λ_=>trivial) ⟨u29 _,trivial⟩ λa K=>?_
  let J:Blk:=⟨[.str q,w34 u,.i a.2,.i x],4,false⟩
  let z:Blk:=⟨[.i a.1.f0,.str a.1.f1,q29 a.1.f2,.bool a.1.f3,.bool a.1.f4,w9 b,w9 a.1.f6],7,false⟩
  let D:Blk:=⟨[.i a.1.f0,.str a.1.f1,q29 a.1.f2,.bool a.1.f3,.bool a.1.f4,w9 b,w9 a.1.f6],0,false⟩
  refine oH 14 (atN 3 (ctl1 i40p4)) ((15,.slice 4 7 0 1 7)::(14,.agg [.i a.1.f0,.str a.1.f1,q29 a.1.f2,.bool a.1.f3,.bool a.1.f4,w9 b,w9 a.1.f6])::(13,.own 2 (c).length 7)::(12,.ptr 3 7 5)::(11,w9 b)::(8,.ptr 3 7 0)::(10,n29 a.1)::S) (mkH [J,⟨[.ptr 0 4 0],1,false⟩,I,z,D]) ?_
  refine oC (λ(g:List S28)=>(.own 2 (g).length 7,(mkH [J,⟨[.ptr 0 4 0],1,false⟩,⟨(g).flatMap e29,0,false⟩,z,D]))) (atN 4 (ctl1 i40p4)) 16 (appH (sz:=7) qA6 rfl qAx [J,⟨[.ptr 0 4 0],1,false⟩,I,z,D] 2 104 c ([(⟨a.1.f0,a.1.f1,a.1.f2,a.1.f3,a.1.f4,b,a.1.f6⟩:S28)]:List S28) rfl rfl Kr) λg M=>?_
  let E:Blk:=⟨(g).flatMap e29,0,false⟩
  refine oLH 4 i40p5 [(0,.ptr 0 4 0),(2,.func 106 [] [.ptr 1 1 0]),(7,.own 2 (g).length 7)] (mkH [J,⟨[.ptr 0 4 0],1,false⟩,E,z,D]) ?_
  let N:Env:=[(0,.ptr 0 4 0),(2,.func 106 [] [.ptr 1 1 0]),(7,.own 2 (g).length 7)]
  refine oR 2 (atN 1 (ctl1 i40p5)) ((17,.ptr 0 4 0)::N) ?_
  refine oX (λ(h:(Bool×Int)) => .bool h.1) (λh=>[⟨[.str q,w34 u,.i h.2,.i x],4,false⟩,⟨[.ptr 0 4 0],1,false⟩,E,z,D]) (atN 2 (ctl1 i40p5)) 18 [0] [] [] [1] [0,0,1] [.ptr 0 4 0,.str [59]] (qAj k ([59]:LN) q u a.2 x) trivial (λ_=>trivial) ⟨u29 _,trivial⟩ λh O=>?_
  refine oR 1 i40p6 ((18,.bool h.1)::(17,.ptr 0 4 0)::N) ?_
  refine oS 18 (λY=>?_) (λY=>?_)
  ·refine oR 4 (atN 1 (ctl1 i40p7)) ((19,.ptr 0 4 0)::(18,.bool true)::(18,.bool h.1)::(17,.ptr 0 4 0)::N) ?_
   refine oN (λ(j:Ri12)=>w9 j.1) (λj=>[⟨[.str q,w34 u,.i j.2,.i x],4,false⟩,⟨[.ptr 0 4 0],1,false⟩,E,z,D]) (atN 2 (ctl1 i40p7)) 20 [0] [] [] [.ptr 0 4 0] (qAm k q u h.2 x) trivial (λ_=>trivial) λj Q=>?_
   refine oL 6 i40p2 [(0,.ptr 0 4 0),(1,w9 j.1),(2,.func 106 [] [.ptr 1 1 0]),(7,.own 2 (g).length 7)] ?_
   refine qAf [⟨[.str q,w34 u,.i j.2,.i x],4,false⟩,⟨[.ptr 0 4 0],1,false⟩,E] [z,D] Kr rfl Kr ⟨Kr,⟨Kr,⟨(qA3 _ (u29 _)),trivial⟩⟩⟩ ?_
   exact ih j.1 j.2 g
  ·exact oQF 8 [⟨[.str q,w34 u,.i h.2,.i x],4,false⟩,⟨[.ptr 0 4 0],1,false⟩,E,z,D] 2 [] [.own 2 (g).length 7] (w29 g) (qAr qA6 qAh rfl rfl rfl .ps) trivial
def i40B (k:Nat) (F:Fns0) (a0:LL) (a:LN) (b:List S33) (c:Int) (g:Int):Option (Option Ri40) :=
 qJj k F a b g k a0 c ([]:List S28)
theorem qMi (k:Nat) (F:Fns0) (o:FnsOk0 F):∀ a0 b c a g r,i40B k F a0 b c a g=some r→CallT Try.prog 105 [.ptr 0 4 0,w9 a0,.func 106 [] [.ptr 1 1 0]] (mkH [⟨[.str b,w34 c,.i a,.i g],4,false⟩,⟨[.ptr 0 4 0],1,false⟩]) ((Xi40 a0 b c a g).thr r) ((Xi40 a0 b c a g).enc r) ((Xi40 a0 b c a g).fin r):=by
 intro a0 b c a g r h
 refine qA2 (Xi40 a0 b c a g) Try.func105 Kr Kr rfl (t:=i40B k F a0 b c a g) ?_ h
 unfold i40B
 refine qA (eE:=[(0,.ptr 0 4 0),(1,w9 a0),(2,.func 106 [] [.ptr 1 1 0])]) Kr ?_
 let n:Env:=[(7,.nils),(6,.nils),(0,.ptr 0 4 0),(1,w9 a0),(2,.func 106 [] [.ptr 1 1 0])]
 let j:Blk:=⟨[.str b,w34 c,.i a,.i g],4,false⟩
 refine oH 8 (atN 1 (ctl1 i40p1)) n (mkH [j,⟨[.ptr 0 4 0],1,false⟩]) ?_
 refine qGu [j,⟨[.ptr 0 4 0],1,false⟩] 7 7 rfl Kr ?_
 refine oH 4 i40p2 ((7,.own 2 (([]:List S28)).length 7)::n) (mkH [j,⟨[.ptr 0 4 0],1,false⟩,⟨(([]:List S28)).flatMap e29,0,false⟩]) ?_
 refine oK [0,1,2,7] [(0,.ptr 0 4 0),(1,w9 a0),(2,.func 106 [] [.ptr 1 1 0]),(7,.own 2 (([]:List S28)).length 7)] ?_
 exact (qQz k F o a0 b c a g k) a0 a ([]:List S28)
theorem i40B_ok (k:Nat) (F:Fns0) (a:FnsOk0 F):Pi40 (i40B k F):=λa0 b c g j=>⟨λx h=>qMi k F a a0 b c g j (some x) h,λh=>⟨_,qMi k F a a0 b c g j none h⟩⟩
def i41p1:Pt:=nav [0,0,0,0] (nav [0] (bodyAt Try.f105))
def i41p2:Pt:=nav [0,0,0,0,0] i41p1
def i41p4:Pt:=nav [0,0,0] (nav [0,0,0] i41p2)
def i41p5:Pt:=nav [0,0,0,0] i41p4
def i41p6:Pt:=nav [0,0] i41p5
def i41p7:Pt:=nav [1,0] i41p6
def qFv (k:Nat) (F:Fns0)  (o:LN) (q:List S33) (u:Int) (ih:LL→Int→(List S28)→Option (Option Ri41)):LL→Int→(List S28)→Option (Option Ri41) :=
 λ(h:LL) (j:Int) (n:List S28)=>bT (F.i45 o q j u) λa=>(appS 104 n ([(⟨a.1.f0,a.1.f1,a.1.f2,a.1.f3,a.1.f4,h,a.1.f6⟩:S28)]:List S28)).bind λc=>bT (i7 k ([59]:LN) o q a.2 u) λb=>if b.1 then ((i12 k o q b.2 u).bind λg=>ih g.1 g.2 c) else (some (some (c,b.2)))
def qJi (k:Nat) (F:Fns0)  (a:LN) (b:List S33) (c:Int) (n:Nat):LL→Int→(List S28)→Option (Option Ri41):=lp (λ_ _ _=>none) (qFv k F a b c) n
theorem qQy (k:Nat) (F:Fns0) (T:FnsOk0 F) (a0:LL) (q:LN) (u:List S33) (U:Int) (x:Int)    : ∀ (n:Nat) (b:LL) (o:Int) (c:List S28),Ok (Xi41 a0 q u U x) i41p2 [(0,.ptr 0 4 0),(1,w9 b),(2,.func 100 [.ptr 0 4 0] []),(7,.own 1 (c).length 7)] (mkH [⟨[.str q,w34 u,.i o,.i x],4,false⟩,⟨(c).flatMap e29,0,false⟩]) (qJi k F q u x n b o c):=by
 intro n
 induction n with
 | zero=>intro b o c; exact ok_none
 | succ n ih =>
  intro b o c
  show Ok _ _ _ _ (qFv k F q u x (qJi k F q u x n) b o c)
  unfold qFv
  let S:Env:=[(9,.func 100 [.ptr 0 4 0] []),(0,.ptr 0 4 0),(1,w9 b),(2,.func 100 [.ptr 0 4 0] []),(7,.own 1 (c).length 7)]
  let I:Blk:=⟨(c).flatMap e29,0,false⟩
  refine oH 2 (atN 1 (ctl1 i41p2)) S (mkH [⟨[.str q,w34 u,.i o,.i x],4,false⟩,I]) ?_
  refine oX (λ(a:(S28×Int))=>n29 a.1) (λa=>[⟨[.str q,w34 u,.i a.2,.i x],4,false⟩,I]) (atN 2 (ctl1 i41p2)) 10 [0] [] [] [0] [0,1] [.ptr 0 4 0] (T.i45_ok q u o x) trivial (λ_=>trivial) ⟨u29 _,trivial⟩ λa K=>?_
  let J:Blk:=⟨[.str q,w34 u,.i a.2,.i x],4,false⟩
  let z:Blk:=⟨[.i a.1.f0,.str a.1.f1,q29 a.1.f2,.bool a.1.f3,.bool a.1.f4,w9 b,w9 a.1.f6],7,false⟩
  let D:Blk:=⟨[.i a.1.f0,.str a.1.f1,q29 a.1.f2,.bool a.1.f3,.bool a.1.f4,w9 b,w9 a.1.f6],0,false⟩
  refine oH 14 (atN 3 (ctl1 i41p4)) ((15,.slice 3 7 0 1 7)::(14,.agg [.i a.1.f0,.str a.1.f1,q29 a.1.f2,.bool a.1.f3,.bool a.1.f4,w9 b,w9 a.1.f6])::(13,.own 1 (c).length 7)::(12,.ptr 2 7 5)::(11,w9 b)::(8,.ptr 2 7 0)::(10,n29 a.1)::S) (mkH [J,I,z,D]) ?_
  refine oC (λ(g:List S28)=>(.own 1 (g).length 7,(mkH [J,⟨(g).flatMap e29,0,false⟩,z,D]))) (atN 4 (ctl1 i41p4)) 16 (appH (sz:=7) qA6 rfl qAx [J,I,z,D] 1 104 c ([(⟨a.1.f0,a.1.f1,a.1.f2,a.1.f3,a.1.f4,b,a.1.f6⟩:S28)]:List S28) rfl rfl Kr) λg M=>?_
  let E:Blk:=⟨(g).flatMap e29,0,false⟩
  refine oLH 4 i41p5 [(0,.ptr 0 4 0),(2,.func 100 [.ptr 0 4 0] []),(7,.own 1 (g).length 7)] (mkH [J,E,z,D]) ?_
  let N:Env:=[(0,.ptr 0 4 0),(2,.func 100 [.ptr 0 4 0] []),(7,.own 1 (g).length 7)]
  refine oR 2 (atN 1 (ctl1 i41p5)) ((17,.ptr 0 4 0)::N) ?_
  refine oX (λ(h:(Bool×Int)) => .bool h.1) (λh=>[⟨[.str q,w34 u,.i h.2,.i x],4,false⟩,E,z,D]) (atN 2 (ctl1 i41p5)) 18 [0] [] [] [] [0,1] [.ptr 0 4 0,.str [59]] (qAj k ([59]:LN) q u a.2 x) trivial (λ_=>trivial) ⟨u29 _,trivial⟩ λh O=>?_
  refine oR 1 i41p6 ((18,.bool h.1)::(17,.ptr 0 4 0)::N) ?_
  refine oS 18 (λY=>?_) (λY=>?_)
  ·refine oR 4 (atN 1 (ctl1 i41p7)) ((19,.ptr 0 4 0)::(18,.bool true)::(18,.bool h.1)::(17,.ptr 0 4 0)::N) ?_
   refine oN (λ(j:Ri12)=>w9 j.1) (λj=>[⟨[.str q,w34 u,.i j.2,.i x],4,false⟩,E,z,D]) (atN 2 (ctl1 i41p7)) 20 [0] [] [] [.ptr 0 4 0] (qAm k q u h.2 x) trivial (λ_=>trivial) λj Q=>?_
   refine oL 6 i41p2 [(0,.ptr 0 4 0),(1,w9 j.1),(2,.func 100 [.ptr 0 4 0] []),(7,.own 1 (g).length 7)] ?_
   refine qAf [⟨[.str q,w34 u,.i j.2,.i x],4,false⟩,E] [z,D] Kr rfl Kr ⟨Kr,⟨(qA3 _ (u29 _)),trivial⟩⟩ ?_
   exact ih j.1 j.2 g
  ·exact oQF 8 [⟨[.str q,w34 u,.i h.2,.i x],4,false⟩,E,z,D] 1 [] [.own 1 (g).length 7] (w29 g) (qAr qA6 qAh rfl rfl rfl .ps) trivial
def i41B (k:Nat) (F:Fns0) (a0:LL) (a:LN) (b:List S33) (c:Int) (g:Int):Option (Option Ri41) :=
 qJi k F a b g k a0 c ([]:List S28)
theorem qMh (k:Nat) (F:Fns0) (o:FnsOk0 F):∀ a0 b c a g r,i41B k F a0 b c a g=some r→CallT Try.prog 105 [.ptr 0 4 0,w9 a0,.func 100 [.ptr 0 4 0] []] (mkH [⟨[.str b,w34 c,.i a,.i g],4,false⟩]) ((Xi41 a0 b c a g).thr r) ((Xi41 a0 b c a g).enc r) ((Xi41 a0 b c a g).fin r):=by
 intro a0 b c a g r h
 refine qA2 (Xi41 a0 b c a g) Try.func105 Kr Kr rfl (t:=i41B k F a0 b c a g) ?_ h
 unfold i41B
 refine qA (eE:=[(0,.ptr 0 4 0),(1,w9 a0),(2,.func 100 [.ptr 0 4 0] [])]) Kr ?_
 let n:Env:=[(7,.nils),(6,.nils),(0,.ptr 0 4 0),(1,w9 a0),(2,.func 100 [.ptr 0 4 0] [])]
 let j:Blk:=⟨[.str b,w34 c,.i a,.i g],4,false⟩
 refine oH 8 (atN 1 (ctl1 i41p1)) n (mkH [j]) ?_
 refine qGu [j] 7 7 rfl Kr ?_
 refine oH 4 i41p2 ((7,.own 1 (([]:List S28)).length 7)::n) (mkH [j,⟨(([]:List S28)).flatMap e29,0,false⟩]) ?_
 refine oK [0,1,2,7] [(0,.ptr 0 4 0),(1,w9 a0),(2,.func 100 [.ptr 0 4 0] []),(7,.own 1 (([]:List S28)).length 7)] ?_
 exact (qQy k F o a0 b c a g k) a0 a ([]:List S28)
theorem i41B_ok (k:Nat) (F:Fns0) (a:FnsOk0 F):Pi41 (i41B k F):=λa0 b c g j=>⟨λx h=>qMh k F a a0 b c g j (some x) h,λh=>⟨_,qMh k F a a0 b c g j none h⟩⟩
def i42p1:Pt:=nav [0,0,0,0] (nav [0] (bodyAt Try.f105))
def i42p2:Pt:=nav [0,0,0,0,0] i42p1
def i42p4:Pt:=nav [0,0,0] (nav [0,0,0] i42p2)
def i42p5:Pt:=nav [0,0,0,0] i42p4
def i42p6:Pt:=nav [0,0] i42p5
def i42p7:Pt:=nav [1,0] i42p6
def qFu (k:Nat) (F:Fns0)  (o:LN) (q:List S33) (u:Int) (ih:LL→Int→(List S28)→Option (Option Ri42)):LL→Int→(List S28)→Option (Option Ri42) :=
 λ(h:LL) (j:Int) (n:List S28)=>bT (F.i46 o q j u) λa=>(appS 104 n ([(⟨a.1.f0,a.1.f1,a.1.f2,a.1.f3,a.1.f4,h,a.1.f6⟩:S28)]:List S28)).bind λc=>bT (i7 k ([59]:LN) o q a.2 u) λb=>if b.1 then ((i12 k o q b.2 u).bind λg=>ih g.1 g.2 c) else (some (some (c,b.2)))
def qJh (k:Nat) (F:Fns0)  (a:LN) (b:List S33) (c:Int) (n:Nat):LL→Int→(List S28)→Option (Option Ri42):=lp (λ_ _ _=>none) (qFu k F a b c) n
theorem qQx (k:Nat) (F:Fns0) (T:FnsOk0 F) (a0:LL) (q:LN) (u:List S33) (U:Int) (x:Int)    : ∀ (n:Nat) (b:LL) (o:Int) (c:List S28),Ok (Xi42 a0 q u U x) i42p2 [(0,.ptr 0 4 0),(1,w9 b),(2,.func 101 [.ptr 0 4 0] []),(7,.own 1 (c).length 7)] (mkH [⟨[.str q,w34 u,.i o,.i x],4,false⟩,⟨(c).flatMap e29,0,false⟩]) (qJh k F q u x n b o c):=by
 intro n
 induction n with
 | zero=>intro b o c; exact ok_none
 | succ n ih =>
  intro b o c
  show Ok _ _ _ _ (qFu k F q u x (qJh k F q u x n) b o c)
  unfold qFu
  let S:Env:=[(9,.func 101 [.ptr 0 4 0] []),(0,.ptr 0 4 0),(1,w9 b),(2,.func 101 [.ptr 0 4 0] []),(7,.own 1 (c).length 7)]
  let I:Blk:=⟨(c).flatMap e29,0,false⟩
  refine oH 2 (atN 1 (ctl1 i42p2)) S (mkH [⟨[.str q,w34 u,.i o,.i x],4,false⟩,I]) ?_
  refine oX (λ(a:(S28×Int))=>n29 a.1) (λa=>[⟨[.str q,w34 u,.i a.2,.i x],4,false⟩,I]) (atN 2 (ctl1 i42p2)) 10 [0] [] [] [0] [0,1] [.ptr 0 4 0] (T.i46_ok q u o x) trivial (λ_=>trivial) ⟨u29 _,trivial⟩ λa K=>?_
  let J:Blk:=⟨[.str q,w34 u,.i a.2,.i x],4,false⟩
  let z:Blk:=⟨[.i a.1.f0,.str a.1.f1,q29 a.1.f2,.bool a.1.f3,.bool a.1.f4,w9 b,w9 a.1.f6],7,false⟩
  let D:Blk:=⟨[.i a.1.f0,.str a.1.f1,q29 a.1.f2,.bool a.1.f3,.bool a.1.f4,w9 b,w9 a.1.f6],0,false⟩
  refine oH 14 (atN 3 (ctl1 i42p4)) ((15,.slice 3 7 0 1 7)::(14,.agg [.i a.1.f0,.str a.1.f1,q29 a.1.f2,.bool a.1.f3,.bool a.1.f4,w9 b,w9 a.1.f6])::(13,.own 1 (c).length 7)::(12,.ptr 2 7 5)::(11,w9 b)::(8,.ptr 2 7 0)::(10,n29 a.1)::S) (mkH [J,I,z,D]) ?_
  refine oC (λ(g:List S28)=>(.own 1 (g).length 7,(mkH [J,⟨(g).flatMap e29,0,false⟩,z,D]))) (atN 4 (ctl1 i42p4)) 16 (appH (sz:=7) qA6 rfl qAx [J,I,z,D] 1 104 c ([(⟨a.1.f0,a.1.f1,a.1.f2,a.1.f3,a.1.f4,b,a.1.f6⟩:S28)]:List S28) rfl rfl Kr) λg M=>?_
  let E:Blk:=⟨(g).flatMap e29,0,false⟩
  refine oLH 4 i42p5 [(0,.ptr 0 4 0),(2,.func 101 [.ptr 0 4 0] []),(7,.own 1 (g).length 7)] (mkH [J,E,z,D]) ?_
  let N:Env:=[(0,.ptr 0 4 0),(2,.func 101 [.ptr 0 4 0] []),(7,.own 1 (g).length 7)]
  refine oR 2 (atN 1 (ctl1 i42p5)) ((17,.ptr 0 4 0)::N) ?_
  refine oX (λ(h:(Bool×Int)) => .bool h.1) (λh=>[⟨[.str q,w34 u,.i h.2,.i x],4,false⟩,E,z,D]) (atN 2 (ctl1 i42p5)) 18 [0] [] [] [] [0,1] [.ptr 0 4 0,.str [59]] (qAj k ([59]:LN) q u a.2 x) trivial (λ_=>trivial) ⟨u29 _,trivial⟩ λh O=>?_
  refine oR 1 i42p6 ((18,.bool h.1)::(17,.ptr 0 4 0)::N) ?_
  refine oS 18 (λY=>?_) (λY=>?_)
  ·refine oR 4 (atN 1 (ctl1 i42p7)) ((19,.ptr 0 4 0)::(18,.bool true)::(18,.bool h.1)::(17,.ptr 0 4 0)::N) ?_
   refine oN (λ(j:Ri12)=>w9 j.1) (λj=>[⟨[.str q,w34 u,.i j.2,.i x],4,false⟩,E,z,D]) (atN 2 (ctl1 i42p7)) 20 [0] [] [] [.ptr 0 4 0] (qAm k q u h.2 x) trivial (λ_=>trivial) λj Q=>?_
   refine oL 6 i42p2 [(0,.ptr 0 4 0),(1,w9 j.1),(2,.func 101 [.ptr 0 4 0] []),(7,.own 1 (g).length 7)] ?_
   refine qAf [⟨[.str q,w34 u,.i j.2,.i x],4,false⟩,E] [z,D] Kr rfl Kr ⟨Kr,⟨(qA3 _ (u29 _)),trivial⟩⟩ ?_
   exact ih j.1 j.2 g
  ·exact oQF 8 [⟨[.str q,w34 u,.i h.2,.i x],4,false⟩,E,z,D] 1 [] [.own 1 (g).length 7] (w29 g) (qAr qA6 qAh rfl rfl rfl .ps) trivial
def i42B (k:Nat) (F:Fns0) (a0:LL) (a:LN) (b:List S33) (c:Int) (g:Int):Option (Option Ri42) :=
 qJh k F a b g k a0 c ([]:List S28)
theorem qMg (k:Nat) (F:Fns0) (o:FnsOk0 F):∀ a0 b c a g r,i42B k F a0 b c a g=some r→CallT Try.prog 105 [.ptr 0 4 0,w9 a0,.func 101 [.ptr 0 4 0] []] (mkH [⟨[.str b,w34 c,.i a,.i g],4,false⟩]) ((Xi42 a0 b c a g).thr r) ((Xi42 a0 b c a g).enc r) ((Xi42 a0 b c a g).fin r):=by
 intro a0 b c a g r h
 refine qA2 (Xi42 a0 b c a g) Try.func105 Kr Kr rfl (t:=i42B k F a0 b c a g) ?_ h
 unfold i42B
 refine qA (eE:=[(0,.ptr 0 4 0),(1,w9 a0),(2,.func 101 [.ptr 0 4 0] [])]) Kr ?_
 let n:Env:=[(7,.nils),(6,.nils),(0,.ptr 0 4 0),(1,w9 a0),(2,.func 101 [.ptr 0 4 0] [])]
 let j:Blk:=⟨[.str b,w34 c,.i a,.i g],4,false⟩
 refine oH 8 (atN 1 (ctl1 i42p1)) n (mkH [j]) ?_
 refine qGu [j] 7 7 rfl Kr ?_
 refine oH 4 i42p2 ((7,.own 1 (([]:List S28)).length 7)::n) (mkH [j,⟨(([]:List S28)).flatMap e29,0,false⟩]) ?_
 refine oK [0,1,2,7] [(0,.ptr 0 4 0),(1,w9 a0),(2,.func 101 [.ptr 0 4 0] []),(7,.own 1 (([]:List S28)).length 7)] ?_
 exact (qQx k F o a0 b c a g k) a0 a ([]:List S28)
theorem i42B_ok (k:Nat) (F:Fns0) (a:FnsOk0 F):Pi42 (i42B k F):=λa0 b c g j=>⟨λx h=>qMg k F a a0 b c g j (some x) h,λh=>⟨_,qMg k F a a0 b c g j none h⟩⟩
def i43p1:Pt:=nav [0,0,0,0] (nav [0] (bodyAt Try.f105))
def i43p2:Pt:=nav [0,0,0,0,0] i43p1
def i43p4:Pt:=nav [0,0,0] (nav [0,0,0] i43p2)
def i43p5:Pt:=nav [0,0,0,0] i43p4
def i43p6:Pt:=nav [0,0] i43p5
def i43p7:Pt:=nav [1,0] i43p6
def qFt (k:Nat) (F:Fns0)  (o:LN) (q:List S33) (u:Int) (ih:LL→Int→(List S28)→Option (Option Ri43)):LL→Int→(List S28)→Option (Option Ri43) :=
 λ(h:LL) (j:Int) (n:List S28)=>bT (F.i45 o q j u) λa=>(appS 104 n ([(⟨a.1.f0,a.1.f1,a.1.f2,a.1.f3,a.1.f4,h,a.1.f6⟩:S28)]:List S28)).bind λc=>bT (i7 k ([59]:LN) o q a.2 u) λb=>if b.1 then ((i12 k o q b.2 u).bind λg=>ih g.1 g.2 c) else (some (some (b.2,c)))
def qJg (k:Nat) (F:Fns0)  (a:LN) (b:List S33) (c:Int) (n:Nat):LL→Int→(List S28)→Option (Option Ri43):=lp (λ_ _ _=>none) (qFt k F a b c) n
theorem qQw (k:Nat) (F:Fns0) (T:FnsOk0 F) (a0:LL) (q:LN) (u:List S33) (U:Int) (x:Int)    : ∀ (n:Nat) (c:LL) (o:Int) (g:List S28),Ok (Xi43 a0 q u U x) i43p2 [(0,.ptr 0 4 0),(1,w9 c),(2,.func 100 [.ptr 0 4 0] []),(7,.own 1 (g).length 7)] (mkH [⟨[.str q,w34 u,.i o,.i x],4,false⟩,⟨(g).flatMap e29,0,false⟩]) (qJg k F q u x n c o g):=by
 intro n
 induction n with
 | zero=>intro c o g; exact ok_none
 | succ n ih =>
  intro c o g
  show Ok _ _ _ _ (qFt k F q u x (qJg k F q u x n) c o g)
  unfold qFt
  let S:Env:=[(9,.func 100 [.ptr 0 4 0] []),(0,.ptr 0 4 0),(1,w9 c),(2,.func 100 [.ptr 0 4 0] []),(7,.own 1 (g).length 7)]
  let I:Blk:=⟨(g).flatMap e29,0,false⟩
  refine oH 2 (atN 1 (ctl1 i43p2)) S (mkH [⟨[.str q,w34 u,.i o,.i x],4,false⟩,I]) ?_
  refine oX (λ(a:(S28×Int))=>n29 a.1) (λa=>[⟨[.str q,w34 u,.i a.2,.i x],4,false⟩,I]) (atN 2 (ctl1 i43p2)) 10 [0] [] [] [0] [0,1] [.ptr 0 4 0] (T.i45_ok q u o x) trivial (λ_=>trivial) ⟨u29 _,trivial⟩ λa M=>?_
  let J:Blk:=⟨[.str q,w34 u,.i a.2,.i x],4,false⟩
  let z:Blk:=⟨[.i a.1.f0,.str a.1.f1,q29 a.1.f2,.bool a.1.f3,.bool a.1.f4,w9 c,w9 a.1.f6],7,false⟩
  let D:Blk:=⟨[.i a.1.f0,.str a.1.f1,q29 a.1.f2,.bool a.1.f3,.bool a.1.f4,w9 c,w9 a.1.f6],0,false⟩
  refine oH 14 (atN 3 (ctl1 i43p4)) ((15,.slice 3 7 0 1 7)::(14,.agg [.i a.1.f0,.str a.1.f1,q29 a.1.f2,.bool a.1.f3,.bool a.1.f4,w9 c,w9 a.1.f6])::(13,.own 1 (g).length 7)::(12,.ptr 2 7 5)::(11,w9 c)::(8,.ptr 2 7 0)::(10,n29 a.1)::S) (mkH [J,I,z,D]) ?_
  refine oC (λ(b:List S28)=>(.own 1 (b).length 7,(mkH [J,⟨(b).flatMap e29,0,false⟩,z,D]))) (atN 4 (ctl1 i43p4)) 16 (appH (sz:=7) qA6 rfl qAx [J,I,z,D] 1 104 g ([(⟨a.1.f0,a.1.f1,a.1.f2,a.1.f3,a.1.f4,c,a.1.f6⟩:S28)]:List S28) rfl rfl Kr) λb N=>?_
  let E:Blk:=⟨(b).flatMap e29,0,false⟩
  refine oLH 4 i43p5 [(0,.ptr 0 4 0),(2,.func 100 [.ptr 0 4 0] []),(7,.own 1 (b).length 7)] (mkH [J,E,z,D]) ?_
  let K:Env:=[(0,.ptr 0 4 0),(2,.func 100 [.ptr 0 4 0] []),(7,.own 1 (b).length 7)]
  refine oR 2 (atN 1 (ctl1 i43p5)) ((17,.ptr 0 4 0)::K) ?_
  refine oX (λ(h:(Bool×Int)) => .bool h.1) (λh=>[⟨[.str q,w34 u,.i h.2,.i x],4,false⟩,E,z,D]) (atN 2 (ctl1 i43p5)) 18 [0] [] [] [] [0,1] [.ptr 0 4 0,.str [59]] (qAj k ([59]:LN) q u a.2 x) trivial (λ_=>trivial) ⟨u29 _,trivial⟩ λh O=>?_
  refine oR 1 i43p6 ((18,.bool h.1)::(17,.ptr 0 4 0)::K) ?_
  refine oS 18 (λY=>?_) (λY=>?_)
  ·refine oR 4 (atN 1 (ctl1 i43p7)) ((19,.ptr 0 4 0)::(18,.bool true)::(18,.bool h.1)::(17,.ptr 0 4 0)::K) ?_
   refine oN (λ(j:Ri12)=>w9 j.1) (λj=>[⟨[.str q,w34 u,.i j.2,.i x],4,false⟩,E,z,D]) (atN 2 (ctl1 i43p7)) 20 [0] [] [] [.ptr 0 4 0] (qAm k q u h.2 x) trivial (λ_=>trivial) λj Q=>?_
   refine oL 6 i43p2 [(0,.ptr 0 4 0),(1,w9 j.1),(2,.func 100 [.ptr 0 4 0] []),(7,.own 1 (b).length 7)] ?_
   refine qAf [⟨[.str q,w34 u,.i j.2,.i x],4,false⟩,E] [z,D] Kr rfl Kr ⟨Kr,⟨(qA3 _ (u29 _)),trivial⟩⟩ ?_
   exact ih j.1 j.2 b
  ·refine oR 8 .fin ((6,.own 1 (b).length 7)::(21,.own 1 (b).length 7)::(18,.bool false)::(18,.bool h.1)::(17,.ptr 0 4 0)::K) ?_
   exact qC3 (r:=some (h.2,b)) (xs:=[.own 1 (b).length 7]) [⟨[.str q,w34 u,.i h.2,.i x],4,false⟩,E] [z,D] Kr Kr Kr Kr Kr ⟨Kr,⟨(qA3 _ (u29 _)),trivial⟩⟩ Kr Kr
def i43B (k:Nat) (F:Fns0) (a0:LL) (a:LN) (b:List S33) (c:Int) (g:Int):Option (Option Ri43) :=
 qJg k F a b g k a0 c ([]:List S28)
theorem qMf (k:Nat) (F:Fns0) (o:FnsOk0 F):∀ a0 b c a g r,i43B k F a0 b c a g=some r→CallT Try.prog 105 [.ptr 0 4 0,w9 a0,.func 100 [.ptr 0 4 0] []] (mkH [⟨[.str b,w34 c,.i a,.i g],4,false⟩]) ((Xi43 a0 b c a g).thr r) ((Xi43 a0 b c a g).enc r) ((Xi43 a0 b c a g).fin r):=by
 intro a0 b c a g r h
 refine qA2 (Xi43 a0 b c a g) Try.func105 Kr Kr rfl (t:=i43B k F a0 b c a g) ?_ h
 unfold i43B
 refine qA (eE:=[(0,.ptr 0 4 0),(1,w9 a0),(2,.func 100 [.ptr 0 4 0] [])]) Kr ?_
 let n:Env:=[(7,.nils),(6,.nils),(0,.ptr 0 4 0),(1,w9 a0),(2,.func 100 [.ptr 0 4 0] [])]
 let j:Blk:=⟨[.str b,w34 c,.i a,.i g],4,false⟩
 refine oH 8 (atN 1 (ctl1 i43p1)) n (mkH [j]) ?_
 refine qGu [j] 7 7 rfl Kr ?_
 refine oH 4 i43p2 ((7,.own 1 (([]:List S28)).length 7)::n) (mkH [j,⟨(([]:List S28)).flatMap e29,0,false⟩]) ?_
 refine oK [0,1,2,7] [(0,.ptr 0 4 0),(1,w9 a0),(2,.func 100 [.ptr 0 4 0] []),(7,.own 1 (([]:List S28)).length 7)] ?_
 exact (qQw k F o a0 b c a g k) a0 a ([]:List S28)
theorem i43B_ok (k:Nat) (F:Fns0) (a:FnsOk0 F):Pi43 (i43B k F):=λa0 b c g j=>⟨λx h=>qMf k F a a0 b c g j (some x) h,λh=>⟨_,qMf k F a a0 b c g j none h⟩⟩
def i44p1:Pt:=nav [0,0,0] (nav [0] (bodyAt Try.f106))
def i44B (k:Nat) (F:Fns0) (a0:LN) (b:List S33) (c:Int) (g:Int):Option (Option (S28×Int)) :=
 bT (F.i48 ([]:LN) a0 b c g) λa=>some (some (a.1,a.2))
theorem qMe (k:Nat) (F:Fns0) (o:FnsOk0 F):∀ a0 b g c r,i44B k F a0 b g c=some r→CallT Try.prog 106 [.ptr 1 1 0] (mkH [⟨[.str a0,w34 b,.i g,.i c],4,false⟩,⟨[.ptr 0 4 0],1,false⟩]) ((Xi44 a0 b g c).thr r) ((Xi44 a0 b g c).enc r) ((Xi44 a0 b g c).fin r):=by
 intro a0 b g c r h
 refine qA2 (Xi44 a0 b g c) Try.func106 Kr Kr rfl (t:=i44B k F a0 b g c) ?_ h
 unfold i44B
 refine qA (eE:=[(0,.ptr 1 1 0)]) Kr ?_
 let n:Blk:=⟨[.i 0,.str [],.nils,.bool false,.bool false,.nils,.nils],0,false⟩
 refine oH 7 (atN 1 (ctl1 i44p1)) [(2,.ptr 0 4 0),(1,.ptr 2 7 0),(0,.ptr 1 1 0)] (mkH [⟨[.str a0,w34 b,.i g,.i c],4,false⟩,⟨[.ptr 0 4 0],1,false⟩,n]) ?_
 refine oX (λ(a:(S28×Int))=>n29 a.1) (λa=>[⟨[.str a0,w34 b,.i a.2,.i c],4,false⟩,⟨[.ptr 0 4 0],1,false⟩,n]) (atN 2 (ctl1 i44p1)) 3 [0] [] [] [0,1] [] [.ptr 0 4 0,.str []] (o.i48_ok ([]:LN) a0 b g c) trivial (λ_=>trivial) trivial λa j=>?_
 exact oQF 3 [⟨[.str a0,w34 b,.i a.2,.i c],4,false⟩,⟨[.ptr 0 4 0],1,false⟩,⟨e29 a.1,7,false⟩] 2 [] [n29 a.1] (n29 a.1) .ps trivial
theorem i44B_ok (k:Nat) (F:Fns0) (a:FnsOk0 F):Pi44 (i44B k F):=λa0 b c g=>⟨λx h=>qMe k F a a0 b c g (some x) h,λh=>⟨_,qMe k F a a0 b c g none h⟩⟩
def i45p1:Pt:=nav [0,0,0] (nav [0] (bodyAt Try.f100))
def i45p2:Pt:=nav [0,0,0] i45p1
def i45d0:DP:=⟨[],[(0,0,0),(0,0,1),(0,0,0),(4,0,0),(15,0,0),(31,0,0)],6,thrown,[],H0⟩
def i45B (k:Nat) (F:Fns0) (a0:LN) (g:List S33) (j:Int) (h:Int):Option (Option (S28×Int)) :=
 bT (F.i5 (1:Int) a0 g j h) λa=>bT (F.i49 a0 g a.2 h) λb=>bT (F.i47 ([]:LN) (⟨23,([]:LN),(⟨(([a.1]:List S28)).length,(([a.1]:List S28)).flatMap e29⟩:Raw),false,false,([]:LL),([]:LL)⟩:S28) b.1 a0 g b.2 h) λc=>some (some (c.1,c.2))
theorem qMd (k:Nat) (F:Fns0) (K:FnsOk0 F):∀ a0 n z o r,i45B k F a0 n z o=some r→CallT Try.prog 100 [.ptr 0 4 0] (mkH [⟨[.str a0,w34 n,.i z,.i o],4,false⟩]) ((Xi45 a0 n z o).thr r) ((Xi45 a0 n z o).enc r) ((Xi45 a0 n z o).fin r):=by
 intro a0 n z o r h
 refine qA2 (Xi45 a0 n z o) Try.func100 Kr Kr rfl (t:=i45B k F a0 n z o) ?_ h
 unfold i45B
 refine qA (eE:=[(0,.ptr 0 4 0)]) Kr ?_
 let O:Blk:=⟨[.str a0,w34 n,.i z,.i o],4,false⟩
 let j:Blk:=⟨[.i 0,.str [],.nils,.bool false,.bool false,.nils,.nils],0,false⟩
 refine oH 7 (atN 1 (ctl1 i45p1)) [(4,.ptr 0 4 0),(2,.ptr 1 7 0),(0,.ptr 0 4 0)] (mkH [O,j]) ?_
 refine oX (λ(a:(S28×Int))=>n29 a.1) (λa=>[⟨[.str a0,w34 n,.i a.2,.i o],4,false⟩,j]) (atN 2 (ctl1 i45p1)) 5 [0] [] [] [0] [] [.ptr 0 4 0,.i 1] (K.i5_ok (1:Int) a0 n z o) trivial (λ_=>trivial) trivial λa Q=>?_
 let u:Blk:=⟨[.str a0,w34 n,.i a.2,.i o],4,false⟩
 refine oH 1 (atN 3 (ctl1 i45p1)) [(6,.slice 2 7 0 1 7),(5,n29 a.1),(4,.ptr 0 4 0),(2,.ptr 1 7 0),(0,.ptr 0 4 0)] (mkH [u,j,⟨e29 a.1,0,false⟩]) ?_
 refine oZ 6 2 1 7 [.i a.1.f0,.str a.1.f1,q29 a.1.f2,.bool a.1.f3,.bool a.1.f4,w9 a.1.f5,w9 a.1.f6] [0,2,4,5] [] trivial ?_
 let g:Blk:=⟨[.i 23,.str [],w29 ([a.1]:List S28),.bool false,.bool false,.nils,.nils],7,false⟩
 refine oH 5 i45p2 [(3,.ptr 3 7 0),(7,.agg [.i 23,.str [],w29 ([a.1]:List S28),.bool false,.bool false,.nils,.nils]),(6,w29 ([a.1]:List S28)),(0,.ptr 0 4 0),(2,.ptr 1 7 0),(4,.ptr 0 4 0),(5,n29 a.1)] (mkH [u,j,⟨[],0,false⟩,g]) ?_
 refine qCp (λh=>?_) (λb x=>?_)
 ·let q:Env:=[(10,.ptr 0 4 0),(9,.agg [.i 23,.str [],w29 ([a.1]:List S28),.bool false,.bool false,.nils,.nils]),(8,.ptr 0 4 0),(3,.ptr 3 7 0),(7,.agg [.i 23,.str [],w29 ([a.1]:List S28),.bool false,.bool false,.nils,.nils]),(6,w29 ([a.1]:List S28)),(0,.ptr 0 4 0),(2,.ptr 1 7 0),(4,.ptr 0 4 0),(5,n29 a.1)]
  exact qAo (eE:=((12,.top)::(11,.top)::q)) (i45d0.th 3 thrown [0] (mkH [u,j,⟨[],0,false⟩,g])) (hs:=[(mkH [u,j,⟨[],0,false⟩,g]),(mkH [u,j,⟨[],0,false⟩,g]),(mkH [u,j,⟨[],0,false⟩,g])]) (LX:=[O]) (L:=[u,j,⟨[],0,false⟩,g]) rfl rfl rfl Kr rfl ⟨.inl rfl,trivial⟩ Kr Kr Kr Kr (qA7 3 (l':=(opsAt i45p2).toList.drop 3) (eE:=q) (H':=(mkH [u,j,⟨[],0,false⟩,g])) (hs:=[]) Kr (qAn (l':=(opsAt i45p2).toList.drop 4) (eE:=((11,.top)::q)) (hs:=[(mkH [u,j,⟨[],0,false⟩,g])]) (fi:=109) (args:=[.ptr 0 4 0]) Kr Kr (frS 0 (M:=[u,j,⟨[],0,false⟩,g]) (rs:=[0]) (ms:=[]) (mv:=[]) (mm:=[]) (D:=[0]) (xs':=[.ptr 0 4 0]) (.refl) ((K.i49_ok a0 n a.2 o).2 h) trivial trivial Kr) Kr (qA1 (l':=(opsAt i45p2).toList.drop 5) (eE:=((12,.top)::(11,.top)::q)) (hs:=[(mkH [u,j,⟨[],0,false⟩,g])]) Kr Kr (qA1 (l':=(opsAt i45p2).toList.drop 6) (eE:=((12,.top)::(11,.top)::q)) (hs:=[(mkH [u,j,⟨[],0,false⟩,g])]) Kr Kr (.nil))))) Kr Kr
 ·refine qCp (λh=>?_) (λc J=>?_)
  ·let q:Env:=[(10,.ptr 0 4 0),(9,.agg [.i 23,.str [],w29 ([a.1]:List S28),.bool false,.bool false,.nils,.nils]),(8,.ptr 0 4 0),(3,.ptr 3 7 0),(7,.agg [.i 23,.str [],w29 ([a.1]:List S28),.bool false,.bool false,.nils,.nils]),(6,w29 ([a.1]:List S28)),(0,.ptr 0 4 0),(2,.ptr 1 7 0),(4,.ptr 0 4 0),(5,n29 a.1)]
   let E:Blk:=⟨[.str a0,w34 n,.i b.2,.i o],4,false⟩
   exact qAo (eE:=((12,.top)::(11,n29 b.1)::q)) (i45d0.th 4 thrown [0] (mkH [E,j,⟨[],0,false⟩,g])) (hs:=[(mkH [E,j,⟨[],0,false⟩,g]),(mkH [E,j,⟨[],0,false⟩,g]),(mkH [E,j,⟨[],0,false⟩,g])]) (LX:=[O]) (L:=[E,j,⟨[],0,false⟩,g]) rfl rfl rfl Kr rfl ⟨.inl rfl,trivial⟩ Kr Kr Kr Kr (qA7 3 (l':=(opsAt i45p2).toList.drop 3) (eE:=q) (H':=(mkH [u,j,⟨[],0,false⟩,g])) (hs:=[]) Kr (qA5 (l':=(opsAt i45p2).toList.drop 4) (eE:=((11,n29 b.1)::q)) (hs:=[(mkH [E,j,⟨[],0,false⟩,g])]) (H':=(mkH [E,j,⟨[],0,false⟩,g])) (fi:=109) (args:=[.ptr 0 4 0]) (v:=n29 b.1) Kr (frC (rs:=[0]) (ms:=[]) (ms':=[]) ((K.i49_ok a0 n a.2 o).1 b x) trivial trivial Kr) Kr (qAn (l':=(opsAt i45p2).toList.drop 5) (eE:=((12,.top)::(11,n29 b.1)::q)) (hs:=[(mkH [E,j,⟨[],0,false⟩,g])]) (fi:=108) (args:=[.ptr 0 4 0,.str [],.agg [.i 23,.str [],w29 ([a.1]:List S28),.bool false,.bool false,.nils,.nils],n29 b.1]) Kr Kr (frS 0 (M:=[E,j,⟨[],0,false⟩,g]) (rs:=[0]) (ms:=[]) (mv:=[]) (mm:=[]) (D:=[0]) (xs':=[.ptr 0 4 0,.str [],.agg [.i 23,.str [],w29 ([a.1]:List S28),.bool false,.bool false,w9 ([]:LL),w9 ([]:LL)],n29 b.1]) (.cons (.cons (.agg (.cons (.cons (.cons (.cons (.cons (.nil (.nil (.refl)))))))) (.refl)))) ((K.i47_ok ([]:LN) (⟨23,([]:LN),(⟨(([a.1]:List S28)).length,(([a.1]:List S28)).flatMap e29⟩:Raw),false,false,([]:LL),([]:LL)⟩:S28) b.1 a0 n b.2 o).2 h) trivial trivial Kr) Kr (qA1 (l':=(opsAt i45p2).toList.drop 6) (eE:=((12,.top)::(11,n29 b.1)::q)) (hs:=[(mkH [E,j,⟨[],0,false⟩,g])]) Kr Kr (.nil))))) Kr Kr
  ·let q:Env:=[(10,.ptr 0 4 0),(9,.agg [.i 23,.str [],w29 ([a.1]:List S28),.bool false,.bool false,.nils,.nils]),(8,.ptr 0 4 0),(3,.ptr 3 7 0),(7,.agg [.i 23,.str [],w29 ([a.1]:List S28),.bool false,.bool false,.nils,.nils]),(6,w29 ([a.1]:List S28)),(0,.ptr 0 4 0),(2,.ptr 1 7 0),(4,.ptr 0 4 0),(5,n29 a.1)]
   let I:Blk:=⟨[.str a0,w34 n,.i c.2,.i o],4,false⟩
   let N:Blk:=⟨[.str a0,w34 n,.i b.2,.i o],4,false⟩
   refine oD (H':=(mkH [I,⟨e29 c.1,7,false⟩,⟨[],0,false⟩,g])) (nav [0] i45p2) ((12,n29 c.1)::(11,n29 b.1)::q) [(mkH [N,j,⟨[],0,false⟩,g]),(mkH [I,j,⟨[],0,false⟩,g]),(mkH [I,⟨e29 c.1,7,false⟩,⟨[],0,false⟩,g])] i45d0 (oDr 3 3 q (qA5 (l':=(opsAt i45p2).toList.drop 4) (eE:=((11,n29 b.1)::q)) (hs:=[(mkH [N,j,⟨[],0,false⟩,g])]) (H':=(mkH [N,j,⟨[],0,false⟩,g])) (fi:=109) (args:=[.ptr 0 4 0]) (v:=n29 b.1) Kr (frC (rs:=[0]) (ms:=[]) (ms':=[]) ((K.i49_ok a0 n a.2 o).1 b x) trivial trivial Kr) Kr (qA5 (l':=(opsAt i45p2).toList.drop 5) (eE:=((12,n29 c.1)::(11,n29 b.1)::q)) (hs:=[(mkH [I,j,⟨[],0,false⟩,g])]) (H':=(mkH [I,j,⟨[],0,false⟩,g])) (fi:=108) (args:=[.ptr 0 4 0,.str [],.agg [.i 23,.str [],w29 ([a.1]:List S28),.bool false,.bool false,.nils,.nils],n29 b.1]) (v:=n29 c.1) Kr (frW 0 [N,j,⟨[],0,false⟩,g] (rs:=[0]) (ms:=[]) (ms':=[]) (mv:=[]) (xs':=[.ptr 0 4 0,.str [],.agg [.i 23,.str [],w29 ([a.1]:List S28),.bool false,.bool false,w9 ([]:LL),w9 ([]:LL)],n29 b.1]) (.cons (.cons (.agg (.cons (.cons (.cons (.cons (.cons (.nil (.nil (.refl)))))))) (.refl)))) ((K.i47_ok ([]:LN) (⟨23,([]:LN),(⟨(([a.1]:List S28)).length,(([a.1]:List S28)).flatMap e29⟩:Raw),false,false,([]:LL),([]:LL)⟩:S28) b.1 a0 n b.2 o).1 c J) trivial trivial Kr) Kr (oDh 1 6 ((12,n29 c.1)::(11,n29 b.1)::q) (mkH [I,⟨e29 c.1,7,false⟩,⟨[],0,false⟩,g]) [(mkH [I,⟨e29 c.1,7,false⟩,⟨[],0,false⟩,g])] .nil)))) ?_
   exact oQF 1 [I,⟨e29 c.1,7,false⟩,⟨[],0,false⟩,g] 1 [] [n29 c.1] (n29 c.1) .ps trivial
theorem i45B_ok (k:Nat) (F:Fns0) (a:FnsOk0 F):Pi45 (i45B k F):=λa0 b c g=>⟨λx h=>qMd k F a a0 b c g (some x) h,λh=>⟨_,qMd k F a a0 b c g none h⟩⟩
def i46p1:Pt:=nav [0,0,0] (nav [0] (bodyAt Try.f101))
def i46B (k:Nat) (F:Fns0) (a0:LN) (c:List S33) (h:Int) (g:Int):Option (Option (S28×Int)) :=
 bT (F.i50 a0 c h g) λa=>bT (F.i47 ([]:LN) (⟨23,([]:LN),(⟨(([]:List S28)).length,(([]:List S28)).flatMap e29⟩:Raw),false,false,([]:LL),([]:LL)⟩:S28) a.1 a0 c a.2 g) λb=>some (some (b.1,b.2))
theorem qMc (k:Nat) (F:Fns0) (u:FnsOk0 F):∀ a0 c j g r,i46B k F a0 c j g=some r→CallT Try.prog 101 [.ptr 0 4 0] (mkH [⟨[.str a0,w34 c,.i j,.i g],4,false⟩]) ((Xi46 a0 c j g).thr r) ((Xi46 a0 c j g).enc r) ((Xi46 a0 c j g).fin r):=by
 intro a0 c j g r h
 refine qA2 (Xi46 a0 c j g) Try.func101 Kr Kr rfl (t:=i46B k F a0 c j g) ?_ h
 unfold i46B
 refine qA (eE:=[(0,.ptr 0 4 0)]) Kr ?_
 let n:Blk:=⟨[.i 0,.str [],.nils,.bool false,.bool false,.nils,.nils],0,false⟩
 refine oH 9 (atN 3 (ctl1 i46p1)) [(5,.ptr 0 4 0),(4,.agg [.i 23,.str [],.nils,.bool false,.bool false,.nils,.nils]),(3,.ptr 0 4 0),(2,.ptr 1 7 0),(0,.ptr 0 4 0)] (mkH [⟨[.str a0,w34 c,.i j,.i g],4,false⟩,n]) ?_
 refine oX (λ(a:(S28×Int))=>n29 a.1) (λa=>[⟨[.str a0,w34 c,.i a.2,.i g],4,false⟩,n]) (atN 4 (ctl1 i46p1)) 6 [0] [] [] [0] [] [.ptr 0 4 0] (u.i50_ok a0 c j g) trivial (λ_=>trivial) trivial λa o=>?_
 refine oXW 0 [⟨[.str a0,w34 c,.i a.2,.i g],4,false⟩,n] (λ(b:(S28×Int))=>n29 b.1) (λb=>[⟨[.str a0,w34 c,.i b.2,.i g],4,false⟩,n]) (atN 5 (ctl1 i46p1)) 7 [0] [] [] [0] [] [] [.ptr 0 4 0,.str [],.agg [.i 23,.str [],.nils,.bool false,.bool false,.nils,.nils],n29 a.1] [.ptr 0 4 0,.str [],.agg [.i 23,.str [],w29 ([]:List S28),.bool false,.bool false,w9 ([]:LL),w9 ([]:LL)],n29 a.1] (.cons (.cons (.agg (.cons (.cons (.nil (.cons (.cons (.nil (.nil (.refl)))))))) (.refl)))) (u.i47_ok ([]:LN) (⟨23,([]:LN),(⟨(([]:List S28)).length,(([]:List S28)).flatMap e29⟩:Raw),false,false,([]:LL),([]:LL)⟩:S28) a.1 a0 c a.2 g) trivial (λ_=>trivial) trivial λb q=>?_
 exact oQF 3 [⟨[.str a0,w34 c,.i b.2,.i g],4,false⟩,⟨e29 b.1,7,false⟩] 1 [] [n29 b.1] (n29 b.1) .ps trivial
theorem i46B_ok (k:Nat) (F:Fns0) (a:FnsOk0 F):Pi46 (i46B k F):=λa0 b c g=>⟨λx h=>qMc k F a a0 b c g (some x) h,λh=>⟨_,qMc k F a a0 b c g none h⟩⟩
def i47p1:Pt:=nav [0,0,0] (nav [0] (bodyAt Try.f108))
def i47p2:Pt:=nav [0,0,0] i47p1
def i47p3:Pt:=nav [0,0,0] i47p2
def i47d0:DP:=⟨[20],[(0,0,1),(0,0,1),(0,0,0),(4,0,0),(15,0,0),(31,0,0),(63,0,0)],7,thrown,[],H0⟩
def i47B (k:Nat) (F:Fns0) (a0:LN) (n:S28) (o:S28) (g:LN) (h:List S33) (q:Int) (j:Int):Option (Option (S28×Int)) :=
 bT (i23 k ([45,62]:LN) g h q j) λb=>(i28 k g h b j).bind λc=>bT (F.i6 g h b j) λa=>some (some ((⟨(22:Int),a0,⟨(([n,o,a.1]:List S28)).length,(([n,o,a.1]:List S28)).flatMap e29⟩,c,false,([]:LL),([]:LL)⟩:S28),a.2))
theorem qMb (k:Nat) (F:Fns0) (T:FnsOk0 F):∀ a0 a b n o x q r,i47B k F a0 a b n o x q=some r→CallT Try.prog 108 [.ptr 0 4 0,.str a0,.agg [.i a.f0,.str a.f1,q29 a.f2,.bool a.f3,.bool a.f4,w9 a.f5,w9 a.f6],.agg [.i b.f0,.str b.f1,q29 b.f2,.bool b.f3,.bool b.f4,w9 b.f5,w9 b.f6]] (mkH [⟨[.str n,w34 o,.i x,.i q],4,false⟩]) ((Xi47 a0 a b n o x q).thr r) ((Xi47 a0 a b n o x q).enc r) ((Xi47 a0 a b n o x q).fin r):=by
 intro a0 a b n o x q r h
 refine qA2 (Xi47 a0 a b n o x q) Try.func108 Kr Kr rfl (t:=i47B k F a0 a b n o x q) ?_ h
 unfold i47B
 refine qA (eE:=[(0,.ptr 0 4 0),(1,.str a0),(2,.agg [.i a.f0,.str a.f1,q29 a.f2,.bool a.f3,.bool a.f4,w9 a.f5,w9 a.f6]),(3,.agg [.i b.f0,.str b.f1,q29 b.f2,.bool b.f3,.bool b.f4,w9 b.f5,w9 b.f6])]) Kr ?_
 let U:Env:=[(10,.ptr 0 4 0),(8,.ptr 3 7 0),(7,.ptr 2 7 0),(6,.ptr 1 7 0),(0,.ptr 0 4 0),(1,.str a0),(2,n29 a),(3,n29 b)]
 let Y:Blk:=⟨[.str n,w34 o,.i x,.i q],4,false⟩
 let I:Blk:=⟨[.i 0,.str [],.nils,.bool false,.bool false,.nils,.nils],0,false⟩
 refine oH 9 (atN 1 (ctl1 i47p1)) U (mkH [Y,⟨e29 a,0,false⟩,⟨e29 b,0,false⟩,I]) ?_
 refine oX (λ(g:Int) => .tuple []) (λg=>[⟨[.str n,w34 o,.i g,.i q],4,false⟩,⟨e29 a,0,false⟩,⟨e29 b,0,false⟩,I]) (atN 2 (ctl1 i47p1)) 11 [0] [] [] [0] [] [.ptr 0 4 0,.str [45,62]] (qAw k ([45,62]:LN) n o x q) trivial (λ_=>trivial) trivial λg K=>?_
 refine oR 5 (atN 2 (ctl1 i47p2)) ((13,.ptr 0 4 0)::(12,.str a0)::(11,.tuple [])::U) ?_
 let Z:Blk:=⟨[.str n,w34 o,.i g,.i q],4,false⟩
 refine oN (λ(j:Bool) => .bool j) (λj=>[Z,⟨e29 a,0,false⟩,⟨e29 b,0,false⟩,I]) (atN 3 (ctl1 i47p2)) 14 [0] [] [] [.ptr 0 4 0] (qJm k n o g q) trivial (λ_=>trivial) λj N=>?_
 let Q4:Blk:=⟨[.i 22,.str a0,.nils,.bool j,.bool false,.nils,.nils],7,false⟩
 let z:List Blk:=[Z,⟨e29 a,0,false⟩,⟨e29 b,0,false⟩,I,Q4]
 refine oLH 5 i47p3 [(0,.ptr 0 4 0),(6,.ptr 1 7 0),(7,.ptr 2 7 0),(8,.ptr 3 7 0),(9,.ptr 4 7 0)] (mkH z) ?_
 refine qCp (λh=>?_) (λc E=>?_)
 ·let u:Env:=[(18,.ptr 0 4 0),(17,n29 b),(16,n29 a),(0,.ptr 0 4 0),(6,.ptr 1 7 0),(7,.ptr 2 7 0),(8,.ptr 3 7 0),(9,.ptr 4 7 0)]
  exact qAo (eE:=((21,.top)::(20,.top)::(19,.top)::u)) (i47d0.th 3 thrown [0] (mkH z)) (hs:=[(mkH z),(mkH z)]) (LX:=[Y]) (L:=z) rfl rfl rfl Kr rfl ⟨.inl rfl,trivial⟩ Kr Kr Kr Kr (qA7 3 (l':=(opsAt i47p3).toList.drop 3) (eE:=u) (H':=(mkH z)) (hs:=[]) Kr (qAn (l':=(opsAt i47p3).toList.drop 4) (eE:=((19,.top)::u)) (hs:=[(mkH z)]) (fi:=35) (args:=[.ptr 0 4 0]) Kr Kr (frS 0 (M:=z) (rs:=[0]) (ms:=[]) (mv:=[]) (mm:=[]) (D:=[0]) (xs':=[.ptr 0 4 0]) (.refl) ((T.i6_ok n o g q).2 h) trivial trivial Kr) Kr (qA1 (l':=(opsAt i47p3).toList.drop 5) (eE:=((20,.top)::(19,.top)::u)) (hs:=[]) Kr Kr (qA1 (l':=(opsAt i47p3).toList.drop 6) (eE:=((21,.top)::(20,.top)::(19,.top)::u)) (hs:=[]) Kr Kr (qA1 (l':=(opsAt i47p3).toList.drop 7) (eE:=((21,.top)::(20,.top)::(19,.top)::u)) (hs:=[(mkH z)]) Kr Kr (.nil)))))) Kr Kr
 ·let u:Env:=[(18,.ptr 0 4 0),(17,n29 b),(16,n29 a),(0,.ptr 0 4 0),(6,.ptr 1 7 0),(7,.ptr 2 7 0),(8,.ptr 3 7 0),(9,.ptr 4 7 0)]
  let O:Blk:=⟨[.str n,w34 o,.i c.2,.i q],4,false⟩
  let Q:Blk:=⟨[.i 22,.str a0,w29 ([a,b,c.1]:List S28),.bool j,.bool false,.nils,.nils],7,false⟩
  let J:List Blk:=[O,⟨e29 a,0,false⟩,⟨e29 b,0,false⟩,I,Q]
  let S:List Blk:=[O,⟨e29 a,0,false⟩,⟨e29 b,0,false⟩,I,Q4]
  refine oD (H':=(mkH J)) (nav [0] i47p3) ((21,.ptr 4 7 2)::(20,w29 ([a,b,c.1]:List S28))::(19,n29 c.1)::u) [(mkH S),(mkH J)] i47d0 (oDr 3 3 u (qA5 (l':=(opsAt i47p3).toList.drop 4) (eE:=((19,n29 c.1)::u)) (hs:=[(mkH S)]) (H':=(mkH S)) (fi:=35) (args:=[.ptr 0 4 0]) (v:=n29 c.1) Kr (frC (rs:=[0]) (ms:=[]) (ms':=[]) ((T.i6_ok n o g q).1 c E) trivial trivial Kr) Kr (oDh 3 7 ((21,.ptr 4 7 2)::(20,w29 ([a,b,c.1]:List S28))::(19,n29 c.1)::u) (mkH J) [(mkH J)] .nil))) ?_
  exact oQF 6 [O,⟨e29 a,0,false⟩,⟨e29 b,0,false⟩,Q,Q] 1 [] [.agg [.i 22,.str a0,w29 ([a,b,c.1]:List S28),.bool j,.bool false,.nils,.nils]] (.agg [.i 22,.str a0,w29 ([a,b,c.1]:List S28),.bool j,.bool false,.vec 0 1 [],.vec 0 1 []]) (.agg (.cs (.cs (.cs (.cs (.cs (.nil (.nil .ps))))))) .ps) trivial
theorem i47B_ok (k:Nat) (F:Fns0) (a:FnsOk0 F):Pi47 (i47B k F):=λa0 b c g j n o=>⟨λx h=>qMb k F a a0 b c g j n o (some x) h,λh=>⟨_,qMb k F a a0 b c g j n o none h⟩⟩
def i48p1:Pt:=nav [0,0,0] (nav [0] (bodyAt Try.f107))
def i48p2:Pt:=nav [0,0,0] i48p1
def i48d0:DP:=⟨[],[(0,0,0),(0,0,0),(0,0,1),(0,0,0),(8,0,0),(31,0,0),(63,0,0)],7,thrown,[],H0⟩
def i48B (k:Nat) (F:Fns0) (a0:LN) (g:LN) (h:List S33) (n:Int) (j:Int):Option (Option (S28×Int)) :=
 bT (F.i51 g h n j) λa=>bT (F.i49 g h a.2 j) λb=>bT (F.i47 a0 a.1 b.1 g h b.2 j) λc=>some (some (c.1,c.2))
theorem qMa (k:Nat) (F:Fns0) (J:FnsOk0 F):∀ a0 j n z o r,i48B k F a0 j n z o=some r→CallT Try.prog 107 [.ptr 0 4 0,.str a0] (mkH [⟨[.str j,w34 n,.i z,.i o],4,false⟩]) ((Xi48 a0 j n z o).thr r) ((Xi48 a0 j n z o).enc r) ((Xi48 a0 j n z o).fin r):=by
 intro a0 j n z o r h
 refine qA2 (Xi48 a0 j n z o) Try.func107 Kr Kr rfl (t:=i48B k F a0 j n z o) ?_ h
 unfold i48B
 refine qA (eE:=[(0,.ptr 0 4 0),(1,.str a0)]) Kr ?_
 let O:Blk:=⟨[.str j,w34 n,.i z,.i o],4,false⟩
 let c:Blk:=⟨[.i 0,.str [],.nils,.bool false,.bool false,.nils,.nils],0,false⟩
 refine oH 7 (atN 1 (ctl1 i48p1)) [(6,.ptr 0 4 0),(4,.ptr 1 7 0),(0,.ptr 0 4 0),(1,.str a0)] (mkH [O,c]) ?_
 refine oX (λ(a:(S28×Int))=>n29 a.1) (λa=>[⟨[.str j,w34 n,.i a.2,.i o],4,false⟩,c]) (atN 2 (ctl1 i48p1)) 7 [0] [] [] [0] [] [.ptr 0 4 0] (J.i51_ok j n z o) trivial (λ_=>trivial) trivial λa Q=>?_
 let u:Blk:=⟨[.str j,w34 n,.i a.2,.i o],4,false⟩
 refine oH 4 i48p2 [(5,.ptr 2 7 0),(7,n29 a.1),(6,.ptr 0 4 0),(4,.ptr 1 7 0),(0,.ptr 0 4 0),(1,.str a0)] (mkH [u,c,⟨e29 a.1,7,false⟩]) ?_
 refine qCp (λh=>?_) (λb x=>?_)
 ·let q:Env:=[(11,.ptr 0 4 0),(10,n29 a.1),(9,.str a0),(8,.ptr 0 4 0),(5,.ptr 2 7 0),(7,n29 a.1),(6,.ptr 0 4 0),(4,.ptr 1 7 0),(0,.ptr 0 4 0),(1,.str a0)]
  exact qAo (eE:=((13,.top)::(12,.top)::q)) (i48d0.th 4 thrown [0] (mkH [u,c,⟨e29 a.1,7,false⟩])) (hs:=[(mkH [u,c,⟨e29 a.1,7,false⟩]),(mkH [u,c,⟨e29 a.1,7,false⟩]),(mkH [u,c,⟨e29 a.1,7,false⟩])]) (LX:=[O]) (L:=[u,c,⟨e29 a.1,7,false⟩]) rfl rfl rfl Kr rfl ⟨.inl rfl,trivial⟩ Kr Kr Kr Kr (qA7 4 (l':=(opsAt i48p2).toList.drop 4) (eE:=q) (H':=(mkH [u,c,⟨e29 a.1,7,false⟩])) (hs:=[]) Kr (qAn (l':=(opsAt i48p2).toList.drop 5) (eE:=((12,.top)::q)) (hs:=[(mkH [u,c,⟨e29 a.1,7,false⟩])]) (fi:=109) (args:=[.ptr 0 4 0]) Kr Kr (frS 0 (M:=[u,c,⟨e29 a.1,7,false⟩]) (rs:=[0]) (ms:=[]) (mv:=[]) (mm:=[]) (D:=[0]) (xs':=[.ptr 0 4 0]) (.refl) ((J.i49_ok j n a.2 o).2 h) trivial trivial Kr) Kr (qA1 (l':=(opsAt i48p2).toList.drop 6) (eE:=((13,.top)::(12,.top)::q)) (hs:=[(mkH [u,c,⟨e29 a.1,7,false⟩])]) Kr Kr (qA1 (l':=(opsAt i48p2).toList.drop 7) (eE:=((13,.top)::(12,.top)::q)) (hs:=[(mkH [u,c,⟨e29 a.1,7,false⟩])]) Kr Kr (.nil))))) Kr Kr
 ·refine qCp (λh=>?_) (λg I=>?_)
  ·let q:Env:=[(11,.ptr 0 4 0),(10,n29 a.1),(9,.str a0),(8,.ptr 0 4 0),(5,.ptr 2 7 0),(7,n29 a.1),(6,.ptr 0 4 0),(4,.ptr 1 7 0),(0,.ptr 0 4 0),(1,.str a0)]
   let E:Blk:=⟨[.str j,w34 n,.i b.2,.i o],4,false⟩
   exact qAo (eE:=((13,.top)::(12,n29 b.1)::q)) (i48d0.th 5 thrown [0] (mkH [E,c,⟨e29 a.1,7,false⟩])) (hs:=[(mkH [E,c,⟨e29 a.1,7,false⟩]),(mkH [E,c,⟨e29 a.1,7,false⟩]),(mkH [E,c,⟨e29 a.1,7,false⟩])]) (LX:=[O]) (L:=[E,c,⟨e29 a.1,7,false⟩]) rfl rfl rfl Kr rfl ⟨.inl rfl,trivial⟩ Kr Kr Kr Kr (qA7 4 (l':=(opsAt i48p2).toList.drop 4) (eE:=q) (H':=(mkH [u,c,⟨e29 a.1,7,false⟩])) (hs:=[]) Kr (qA5 (l':=(opsAt i48p2).toList.drop 5) (eE:=((12,n29 b.1)::q)) (hs:=[(mkH [E,c,⟨e29 a.1,7,false⟩])]) (H':=(mkH [E,c,⟨e29 a.1,7,false⟩])) (fi:=109) (args:=[.ptr 0 4 0]) (v:=n29 b.1) Kr (frC (rs:=[0]) (ms:=[]) (ms':=[]) ((J.i49_ok j n a.2 o).1 b x) trivial trivial Kr) Kr (qAn (l':=(opsAt i48p2).toList.drop 6) (eE:=((13,.top)::(12,n29 b.1)::q)) (hs:=[(mkH [E,c,⟨e29 a.1,7,false⟩])]) (fi:=108) (args:=[.ptr 0 4 0,.str a0,n29 a.1,n29 b.1]) Kr Kr (frS 0 (M:=[E,c,⟨e29 a.1,7,false⟩]) (rs:=[0]) (ms:=[]) (mv:=[]) (mm:=[]) (D:=[0]) (xs':=[.ptr 0 4 0,.str a0,n29 a.1,n29 b.1]) (.refl) ((J.i47_ok a0 a.1 b.1 j n b.2 o).2 h) trivial trivial Kr) Kr (qA1 (l':=(opsAt i48p2).toList.drop 7) (eE:=((13,.top)::(12,n29 b.1)::q)) (hs:=[(mkH [E,c,⟨e29 a.1,7,false⟩])]) Kr Kr (.nil))))) Kr Kr
  ·let q:Env:=[(11,.ptr 0 4 0),(10,n29 a.1),(9,.str a0),(8,.ptr 0 4 0),(5,.ptr 2 7 0),(7,n29 a.1),(6,.ptr 0 4 0),(4,.ptr 1 7 0),(0,.ptr 0 4 0),(1,.str a0)]
   let N:Blk:=⟨[.str j,w34 n,.i g.2,.i o],4,false⟩
   let S:Blk:=⟨[.str j,w34 n,.i b.2,.i o],4,false⟩
   let K:List Blk:=[N,⟨e29 g.1,7,false⟩,⟨e29 a.1,7,false⟩]
   refine oD (H':=(mkH K)) (nav [0] i48p2) ((13,n29 g.1)::(12,n29 b.1)::q) [(mkH [S,c,⟨e29 a.1,7,false⟩]),(mkH [N,c,⟨e29 a.1,7,false⟩]),(mkH K)] i48d0 (oDr 4 4 q (qA5 (l':=(opsAt i48p2).toList.drop 5) (eE:=((12,n29 b.1)::q)) (hs:=[(mkH [S,c,⟨e29 a.1,7,false⟩])]) (H':=(mkH [S,c,⟨e29 a.1,7,false⟩])) (fi:=109) (args:=[.ptr 0 4 0]) (v:=n29 b.1) Kr (frC (rs:=[0]) (ms:=[]) (ms':=[]) ((J.i49_ok j n a.2 o).1 b x) trivial trivial Kr) Kr (qA5 (l':=(opsAt i48p2).toList.drop 6) (eE:=((13,n29 g.1)::(12,n29 b.1)::q)) (hs:=[(mkH [N,c,⟨e29 a.1,7,false⟩])]) (H':=(mkH [N,c,⟨e29 a.1,7,false⟩])) (fi:=108) (args:=[.ptr 0 4 0,.str a0,n29 a.1,n29 b.1]) (v:=n29 g.1) Kr (frC (rs:=[0]) (ms:=[]) (ms':=[]) ((J.i47_ok a0 a.1 b.1 j n b.2 o).1 g I) trivial trivial Kr) Kr (oDh 1 7 ((13,n29 g.1)::(12,n29 b.1)::q) (mkH K) [(mkH K)] .nil)))) ?_
   exact oQF 1 K 1 [] [n29 g.1] (n29 g.1) .ps trivial
theorem i48B_ok (k:Nat) (F:Fns0) (a:FnsOk0 F):Pi48 (i48B k F):=λa0 b c g j=>⟨λx h=>qMa k F a a0 b c g j (some x) h,λh=>⟨_,qMa k F a a0 b c g j none h⟩⟩
def i49p1:Pt:=nav [0,0,0,0] (nav [0] (bodyAt Try.f109))
def i49p2:Pt:=nav [0,0] i49p1
def i49p3:Pt:=nav [1,0] i49p2
end
end Go.Proofs.Ythpplbkobokghaa.Am
