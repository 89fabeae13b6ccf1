/- LawShapeClauses, part 4: whatever the input, the law comes out true: our texts, joined by a tool, without what the claim does not name. -/
import Derived.Test.YtjmmjhojbodbdaaPkShapeClauses3
set_option maxRecDepth 100000
set_option linter.unusedVariables false
set_option linter.unusedSimpArgs false
set_option maxRecDepth 100000
set_option linter.unusedVariables false
namespace Go.Proofs.Ytjmmjhojbodbdaa.Am
noncomputable section
open Go
theorem g43_ok (k:Nat) (a:S38) (r:Bool) (h:g43 k a=some r):PureOk Try.prog 43 [.agg [.i a.f0,.str a.f1,.i a.f2]] (.bool r):=by
 refine qA6 Xg43 (λ_=>⟨rfl,rfl⟩) Try.func43 (by decide +kernel) Kr (t:=g43 k a) ?_ h
 unfold g43
 refine qA (eE:=[(0,.agg [.i a.f0,.str a.f1,.i a.f2])]) Kr ?_
 refine oH 11 (atN 4 (ctl1 (nav [0,0,0] (nav [0] (bodyAt Try.f43))))) [(6,.bool (decide (a.f0=9))),(5,.bool (decide (a.f0=9))),(4,.i a.f0),(3,.ptr 0 3 0),(2,.bool false),(1,.ptr 0 3 0),(0,n39 a)] (mkH [⟨e39 a,0,false⟩]) ?_
 refine oS 6 (λb=>?_) (λb=>?_)
 ·exact oQ 7
 ·exact oQ 7
def Xg84:Fx (List LL):=⟨Try.prog,cx,Try.f84,λr => .agg ((r).map v22),0,λ_=>H0,cxTi,cxOrd,λ_=>none,false⟩
def g84c0:LL:=[([61]:LN),([33]:LN)]
def g84c1:LN:=[111,114,101,108,115,101]
def g84c2:LN:=[97,110,100,97,108,115,111]
def g84c3:LL:=[([61,61]:LN),([47,61]:LN),([61,60]:LN),([60]:LN),([62,61]:LN),([62]:LN),([61,58,61]:LN),([61,47,61]:LN)]
def g84c4:LL:=[([43,43]:LN),([45,45]:LN)]
def g84c5:LL:=[([43]:LN),([45]:LN),([98,111,114]:LN),([98,120,111,114]:LN),([98,115,108]:LN),([98,115,114]:LN),([111,114]:LN),([120,111,114]:LN)]
def g84c6:LL:=[([42]:LN),([47]:LN),([100,105,118]:LN),([114,101,109]:LN),([98,97,110,100]:LN),([97,110,100]:LN)]
def g84c7:List LL:=[([([58,58]:LN)]:LL),([([124]:LN)]:LL),g84c0,([g84c1]:LL),([g84c2]:LL),g84c3,g84c4,g84c5,g84c6]
def g84p1:Pt:=nav [0,0,0] (nav [0] (bodyAt Try.f84))
def g84 (k:Nat)  : Option (List LL) :=
 some g84c7
theorem g84_ok (k:Nat)  (r:List LL) (h:g84 k  = some r):PureOk Try.prog 84 [] (.agg ((r).map v22)):=by
 refine qA6 Xg84 (λ_=>⟨rfl,rfl⟩) Try.func84 (by decide +kernel) Kr (t:=g84 k ) ?_ h
 unfold g84
 refine qA (eE:=[]) Kr ?_
 let a:Blk:=⟨[.nils,.nils,.nils,.nils,.nils,.nils,.nils,.nils,.nils],0,false⟩
 refine oH 7 (atN 1 (ctl1 g84p1)) [(1,.slice 1 1 0 1 1),(0,.ptr 0 9 0)] (mkH [a,⟨[.str [58,58]],0,false⟩]) ?_
 refine oZ 1 1 1 1 [.str [58,58]] [0] [] trivial ?_
 refine oH 1 (atN 2 (ctl1 g84p1)) [(2,.slice 2 1 0 1 1),(1,w9 ([([58,58]:LN)]:LL)),(0,.ptr 0 9 0)] (mkH [a,⟨[],0,false⟩,⟨[.str [124]],0,false⟩]) ?_
 refine oZ 2 2 1 1 [.str [124]] [0,1] [] trivial ?_
 refine oH 1 (atN 3 (ctl1 g84p1)) [(3,.slice 3 2 0 2 1),(2,w9 ([([124]:LN)]:LL)),(0,.ptr 0 9 0),(1,w9 ([([58,58]:LN)]:LL))] (mkH [a,⟨[],0,false⟩,⟨[],0,false⟩,⟨[.str [61],.str [33]],0,false⟩]) ?_
 refine oZ 3 3 2 1 [.str [61],.str [33]] [0,1,2] [] trivial ?_
 refine oH 1 (atN 4 (ctl1 g84p1)) [(4,.slice 4 1 0 1 1),(3,w9 g84c0),(0,.ptr 0 9 0),(1,w9 ([([58,58]:LN)]:LL)),(2,w9 ([([124]:LN)]:LL))] (mkH [a,⟨[],0,false⟩,⟨[],0,false⟩,⟨[],0,false⟩,⟨[.str g84c1],0,false⟩]) ?_
 refine oZ 4 4 1 1 [.str g84c1] [0,1,2,3] [] trivial ?_
 refine oH 1 (atN 5 (ctl1 g84p1)) [(5,.slice 5 1 0 1 1),(4,w9 ([g84c1]:LL)),(0,.ptr 0 9 0),(1,w9 ([([58,58]:LN)]:LL)),(2,w9 ([([124]:LN)]:LL)),(3,w9 g84c0)] (mkH [a,⟨[],0,false⟩,⟨[],0,false⟩,⟨[],0,false⟩,⟨[],0,false⟩,⟨[.str g84c2],0,false⟩]) ?_
 refine oZ 5 5 1 1 [.str g84c2] [0,1,2,3,4] [] trivial ?_
 refine oH 1 (atN 6 (ctl1 g84p1)) [(6,.slice 6 8 0 8 1),(5,w9 ([g84c2]:LL)),(0,.ptr 0 9 0),(1,w9 ([([58,58]:LN)]:LL)),(2,w9 ([([124]:LN)]:LL)),(3,w9 g84c0),(4,w9 ([g84c1]:LL))] (mkH [a,⟨[],0,false⟩,⟨[],0,false⟩,⟨[],0,false⟩,⟨[],0,false⟩,⟨[],0,false⟩,⟨[.str [61,61],.str [47,61],.str [61,60],.str [60],.str [62,61],.str [62],.str [61,58,61],.str [61,47,61]],0,false⟩]) ?_
 refine oZ 6 6 8 1 [.str [61,61],.str [47,61],.str [61,60],.str [60],.str [62,61],.str [62],.str [61,58,61],.str [61,47,61]] [0,1,2,3,4,5] [] trivial ?_
 refine oH 1 (atN 7 (ctl1 g84p1)) [(7,.slice 7 2 0 2 1),(6,w9 g84c3),(0,.ptr 0 9 0),(1,w9 ([([58,58]:LN)]:LL)),(2,w9 ([([124]:LN)]:LL)),(3,w9 g84c0),(4,w9 ([g84c1]:LL)),(5,w9 ([g84c2]:LL))] (mkH [a,⟨[],0,false⟩,⟨[],0,false⟩,⟨[],0,false⟩,⟨[],0,false⟩,⟨[],0,false⟩,⟨[],0,false⟩,⟨[.str [43,43],.str [45,45]],0,false⟩]) ?_
 refine oZ 7 7 2 1 [.str [43,43],.str [45,45]] [0,1,2,3,4,5,6] [] trivial ?_
 refine oH 1 (atN 8 (ctl1 g84p1)) [(8,.slice 8 8 0 8 1),(7,w9 g84c4),(0,.ptr 0 9 0),(1,w9 ([([58,58]:LN)]:LL)),(2,w9 ([([124]:LN)]:LL)),(3,w9 g84c0),(4,w9 ([g84c1]:LL)),(5,w9 ([g84c2]:LL)),(6,w9 g84c3)] (mkH [a,⟨[],0,false⟩,⟨[],0,false⟩,⟨[],0,false⟩,⟨[],0,false⟩,⟨[],0,false⟩,⟨[],0,false⟩,⟨[],0,false⟩,⟨[.str [43],.str [45],.str [98,111,114],.str [98,120,111,114],.str [98,115,108],.str [98,115,114],.str [111,114],.str [120,111,114]],0,false⟩]) ?_
 refine oZ 8 8 8 1 [.str [43],.str [45],.str [98,111,114],.str [98,120,111,114],.str [98,115,108],.str [98,115,114],.str [111,114],.str [120,111,114]] [0,1,2,3,4,5,6,7] [] trivial ?_
 refine oH 1 (atN 9 (ctl1 g84p1)) [(9,.slice 9 6 0 6 1),(8,w9 g84c5),(0,.ptr 0 9 0),(1,w9 ([([58,58]:LN)]:LL)),(2,w9 ([([124]:LN)]:LL)),(3,w9 g84c0),(4,w9 ([g84c1]:LL)),(5,w9 ([g84c2]:LL)),(6,w9 g84c3),(7,w9 g84c4)] (mkH [a,⟨[],0,false⟩,⟨[],0,false⟩,⟨[],0,false⟩,⟨[],0,false⟩,⟨[],0,false⟩,⟨[],0,false⟩,⟨[],0,false⟩,⟨[],0,false⟩,⟨[.str [42],.str [47],.str [100,105,118],.str [114,101,109],.str [98,97,110,100],.str [97,110,100]],0,false⟩]) ?_
 refine oZ 9 9 6 1 [.str [42],.str [47],.str [100,105,118],.str [114,101,109],.str [98,97,110,100],.str [97,110,100]] [0,1,2,3,4,5,6,7,8] [] trivial ?_
 exact oQ 4
def Xg73:Fx Int:=⟨Try.prog,cx,Try.f73,λr => .i r,0,λ_=>H0,cxTi,cxOrd,λ_=>none,false⟩
def g73p1:Pt:=nav [0,0,0,0] (nav [0] (bodyAt Try.f73))
def g73p2:Pt:=nav [0,0,0,0] g73p1
def g73p4:Pt:=nav [0,0,0] (nav [0,0] g73p2)
def g73p5:Pt:=nav [1,0,0,0,0] g73p4
def g73p9:Pt:=nav [0,0,0,0] (nav [0,0,0] g73p5)
def g73p11:Pt:=nav [0,0,0] (nav [0,0] g73p9)
def g73p12:Pt:=nav [1,0,0,0,0] g73p11
def g73p13:Pt:=nav [2,0] g73p11
def qJj (k:Nat) (m:Int→Option Int) (n:LN) (j:List LL) (l:Int) (b:LL) (ih:Int→Int→Int→Option Int):Int→Int→Int→Option Int :=
 λ(a:Int) (c:Int) (g:Int)=>jn (λ(o:Int)=>m (fW .i64 (o+1))) (λq=>if (decide (a < (b.length:Int))) then ((nthL b a).bind λh=>if (eqL h n) then (some (fW .i64 (c+1))) else (ih (fW .i64 (a+1)) c g)) else (q g))
def qPg (k:Nat) (g:Int→Option Int) (h:LN) (a:List LL) (b:Int) (c:LL) (n:Nat):Int→Int→Int→Option Int:=lp (λ_ _ _=>none) (qJj k g h a b c) n
theorem qPf (k:Nat)  (q:Int→Option Int) (l:LN) (c:List LL) (j:Int) (a:LL) (r:∀ (j:Int),Ok Xg73 g73p2 [(0,.str l),(7,.agg ((c).map v22)),(8,.i j)] (mkH []) (q j)):∀ (n:Nat) (b:Int) (h:Int) (g:Int),Ok Xg73 g73p9 [(0,.str l),(3,.i h),(7,.agg ((c).map v22)),(8,.i g),(12,w9 a),(13,.i (a.length:Int)),(14,.i b)] (mkH []) (qPg k q l c j a n b h g):=by
 intro n
 induction n with
 | zero=>intro b h g; exact ok_none
 | succ n ih =>
  intro b h g
  show Ok _ _ _ _ (qJj k q l c j a (qPg k q l c j a n) b h g)
  unfold qJj
  refine qAk (p':=nav [0] g73p9) Kr ?_
  let B:Env:=[(15,.bool (decide (b < (a.length:Int)))),(0,.str l),(3,.i h),(7,.agg ((c).map v22)),(8,.i g),(12,w9 a),(13,.i (a.length:Int)),(14,.i b)]
  refine oH 5 g73p11 B (mkH []) ?_
  refine oJ g73p13 (λ(o:Int)=>[(0,.str l),(7,.agg ((c).map v22)),(8,.i o)]) (λ(o:Int)=>(mkH [])) (λo=>?_) (λD u=>?_)
  ·refine oLH 4 g73p2 [(0,.str l),(7,.agg ((c).map v22)),(8,.i (fW .i64 (o+1)))] (mkH []) ?_
   exact r (fW .i64 (o+1))
  ·refine oS 15 (λx=>?_) (λx=>?_)
   ·refine oH 6 (atN 0 (ctl1 g73p12)) ((15,.bool true)::B) (mkH []) ?_
    refine oC (λ(m:LN)=>(.vptr [.str m],(mkH []))) (atN 1 (ctl1 g73p12)) 16 (vidxH (sz:=1) qE7 Kr) λm A=>?_
    let C:Env:=[(0,.str l),(3,.i h),(7,.agg ((c).map v22)),(8,.i g),(12,w9 a),(13,.i (a.length:Int)),(14,.i b),(20,.bool (eqL m l))]
    refine oLH 9 (nav [0,0] (nav [0,0,0] g73p12)) C (mkH []) ?_
    refine oS 20 (λx=>?_) (λx=>?_)
    ·exact oQ 8
    ·refine oR 6 g73p9 ((14,.i (fW .i64 (b+1)))::(23,.i (fW .i64 (b+1)))::(20,.bool false)::C) ?_
     refine oK [0,3,7,8,12,13,14] [(0,.str l),(3,.i h),(7,.agg ((c).map v22)),(8,.i g),(12,w9 a),(13,.i (a.length:Int)),(14,.i (fW .i64 (b+1)))] ?_
     exact ih (fW .i64 (b+1)) h g
   ·refine oLH 2 g73p13 [(0,.str l),(7,.agg ((c).map v22)),(8,.i g)] (mkH []) ?_
    exact u g
def qJk (k:Nat)  (g:LN) (b:List LL) (ih:Int→Option Int):Int→Option Int :=
 λ(a:Int)=>if (decide (a < 9)) then ((nthA b 9 a).bind λc=>qPg k ih g b a c k 0 a a) else (some (0:Int))
def qLs (k:Nat)  (b:LN) (a:List LL) (n:Nat):Int→Option Int:=lp (λ_=>none) (qJk k b a) n
theorem qPh (k:Nat)   (g:LN) (b:List LL)  : ∀ (n:Nat) (a:Int),Ok Xg73 g73p2 [(0,.str g),(7,.agg ((b).map v22)),(8,.i a)] (mkH []) (qLs k g b n a):=by
 intro n
 induction n with
 | zero=>intro a; exact ok_none
 | succ n ih =>
  intro a
  show Ok _ _ _ _ (qJk k g b (qLs k g b n) a)
  unfold qJk
  refine qAk (p':=nav [0] g73p2) Kr ?_
  refine oH 5 g73p4 [(9,.bool (decide (a < 9))),(0,.str g),(7,.agg ((b).map v22)),(8,.i a)] (mkH []) ?_
  refine oS 9 (λj=>?_) (λj=>?_)
  ·refine oR 7 (atN 1 (ctl1 g73p5)) [(10,.i a),(9,.bool true),(9,.bool (decide (a < 9))),(0,.str g),(7,.agg ((b).map v22)),(8,.i a)] ?_
   refine oC (λ(c:LL)=>(w9 c,(mkH []))) (atN 2 (ctl1 g73p5)) 11 (aidxH v22 b Kr) λc h=>?_
   refine oLH 11 g73p9 [(0,.str g),(3,.i a),(7,.agg ((b).map v22)),(8,.i a),(12,w9 c),(13,.i (c.length:Int)),(14,.i 0)] (mkH []) ?_
   exact (qPf k (qLs k g b n) g b a c ih k) 0 a a
  ·exact oQ 7
def g73 (k:Nat) (b:LN):Option Int :=
 (g84 k).bind λa=>qLs k b a k 0
theorem qG4 (k:Nat) (b:LN) (r:Int) (h:g73 k b=some r):PureOk Try.prog 73 [.str b] (.i r):=by
 refine qA6 Xg73 (λ_=>⟨rfl,rfl⟩) Try.func73 (by decide +kernel) Kr (t:=g73 k b) ?_ h
 unfold g73
 refine qA (eE:=[(0,.str b)]) Kr ?_
 refine oH 7 (atN 0 (ctl1 g73p1)) [(2,.i 0),(0,.str b)] (mkH []) ?_
 refine oAp (λ(a:List LL) => .agg ((a).map v22)) (atN 1 (ctl1 g73p1)) 7 [] (λ_=>arr_pur (λ_=>rfl) _) (g84_ok k ) λa c=>?_
 refine oL 4 g73p2 [(0,.str b),(7,.agg ((a).map v22)),(8,.i 0)] ?_
 exact (qPh k b a k) 0
def Xg85:Fx Int:=⟨Try.prog,cx,Try.f85,λr => .i r,0,λ_=>H0,cxTi,cxOrd,λ_=>none,false⟩
def g85c0:List Int:=[(0:Int),(2:Int),(1:Int),(2:Int),(2:Int),(2:Int),(3:Int),(2:Int),(1:Int),(1:Int)]
def g85p1:Pt:=nav [0,0,0] (nav [0] (bodyAt Try.f85))
def g85 (k:Nat) (c:LN):Option Int :=
 (g73 k c).bind λa=>(nthA g85c0 10 a).bind λb=>some b
theorem g85_ok (k:Nat) (a:LN) (r:Int) (h:g85 k a=some r):PureOk Try.prog 85 [.str a] (.i r):=by
 refine qA6 Xg85 (λ_=>⟨rfl,rfl⟩) Try.func85 (by decide +kernel) Kr (t:=g85 k a) ?_ h
 unfold g85
 refine qA (eE:=[(0,.str a)]) Kr ?_
 refine oH 8 (atN 2 (ctl1 g85p1)) [(4,.str a),(3,.agg [.i 0,.i 2,.i 1,.i 2,.i 2,.i 2,.i 3,.i 2,.i 1,.i 1]),(2,.i 0),(0,.str a)] (mkH []) ?_
 refine oA (λ(b:Int) => .i b) (atN 3 (ctl1 g85p1)) 5 [.str a] (qG4 k a) λb g=>?_
 refine oC (λ(c:Int)=>(.i c,(mkH []))) (atN 4 (ctl1 g85p1)) 6 (aidxH v3 g85c0 Kr) λc j=>?_
 exact oQ 3
def Xg74:Fx Int:=⟨Try.prog,cx,Try.f74,λr => .i r,0,λ_=>H0,cxTi,cxOrd,λ_=>none,false⟩
def g74p1:Pt:=nav [0,0,0,0] (nav [0] (bodyAt Try.f74))
def g74p2:Pt:=nav [0,0] g74p1
def g74p3:Pt:=nav [1,0] g74p2
def g74p4:Pt:=nav [2,0,0] g74p2
def g74 (k:Nat) (g:LN):Option Int :=
 (g85 k g).bind λa=>if (decide (1 < a)) then ((g73 k g).bind λb=>some (fW .i64 (b+1))) else ((g73 k g).bind λc=>some c)
theorem g74_ok (k:Nat) (a:LN) (r:Int) (h:g74 k a=some r):PureOk Try.prog 74 [.str a] (.i r):=by
 refine qA6 Xg74 (λ_=>⟨rfl,rfl⟩) Try.func74 (by decide +kernel) Kr (t:=g74 k a) ?_ h
 unfold g74
 refine qA (eE:=[(0,.str a)]) Kr ?_
 refine oH 8 (atN 1 (ctl1 g74p1)) [(3,.str a),(2,.i 0),(0,.str a)] (mkH []) ?_
 refine oA (λ(b:Int) => .i b) (atN 2 (ctl1 g74p1)) 4 [.str a] (g85_ok k a) λb j=>?_
 let l:Env:=[(5,.bool (decide (1 < b))),(4,.i b),(3,.str a),(2,.i 0),(0,.str a)]
 refine oR 2 g74p2 l ?_
 refine oS 5 (λo=>?_) (λo=>?_)
 ·refine oR 4 (atN 1 (ctl1 g74p3)) ((6,.str a)::(5,.bool true)::l) ?_
  refine oA (λ(c:Int) => .i c) (atN 2 (ctl1 g74p3)) 7 [.str a] (qG4 k a) λc m=>?_
  exact oQ 4
 ·refine oR 5 (atN 1 (ctl1 g74p4)) ((9,.str a)::(5,.bool false)::l) ?_
  refine oA (λ(g:Int) => .i g) (atN 2 (ctl1 g74p4)) 10 [.str a] (qG4 k a) λg n=>?_
  exact oQ 3
def Xg75:Fx Int:=⟨Try.prog,cx,Try.f75,λr => .i r,0,λ_=>H0,cxTi,cxOrd,λ_=>none,false⟩
def g75p1:Pt:=nav [0,0,0,0] (nav [0] (bodyAt Try.f75))
def g75p2:Pt:=nav [0,0] g75p1
def g75p3:Pt:=nav [1,0] g75p2
def g75p4:Pt:=nav [2,0,0] g75p2
def g75 (k:Nat) (g:LN):Option Int :=
 (g85 k g).bind λa=>if (decide (andI .i64 a 1=1)) then ((g73 k g).bind λb=>some (fW .i64 (b+1))) else ((g73 k g).bind λc=>some c)
theorem g75_ok (k:Nat) (b:LN) (r:Int) (h:g75 k b=some r):PureOk Try.prog 75 [.str b] (.i r):=by
 refine qA6 Xg75 (λ_=>⟨rfl,rfl⟩) Try.func75 (by decide +kernel) Kr (t:=g75 k b) ?_ h
 unfold g75
 refine qA (eE:=[(0,.str b)]) Kr ?_
 refine oH 8 (atN 1 (ctl1 g75p1)) [(3,.str b),(2,.i 0),(0,.str b)] (mkH []) ?_
 refine oA (λ(a:Int) => .i a) (atN 2 (ctl1 g75p1)) 4 [.str b] (g85_ok k b) λa j=>?_
 let l:Env:=[(6,.bool (decide (andI .i64 a 1=1))),(5,.i (andI .i64 a 1)),(4,.i a),(3,.str b),(2,.i 0),(0,.str b)]
 refine oR 3 g75p2 l ?_
 refine oS 6 (λo=>?_) (λo=>?_)
 ·refine oR 4 (atN 1 (ctl1 g75p3)) ((7,.str b)::(6,.bool true)::l) ?_
  refine oA (λ(c:Int) => .i c) (atN 2 (ctl1 g75p3)) 8 [.str b] (qG4 k b) λc m=>?_
  exact oQ 4
 ·refine oR 5 (atN 1 (ctl1 g75p4)) ((10,.str b)::(6,.bool false)::l) ?_
  refine oA (λ(g:Int) => .i g) (atN 2 (ctl1 g75p4)) 11 [.str b] (qG4 k b) λg n=>?_
  exact oQ 3
def Xg81:Fx Int:=⟨Try.prog,cx,Try.f81,λr => .i r,0,λ_=>H0,cxTi,cxOrd,λ_=>none,false⟩
def g81p3:Pt:=nav [0,0] (nav [0,0,0,0,0] (nav [0,0,0,0] (nav [0] (bodyAt Try.f81))))
def g81p4:Pt:=nav [1,0] g81p3
def g81p8:Pt:=nav [0,0] (nav [2,0] g81p3)
def g81 (k:Nat) (a:LN):Option Int :=
 jn (λ(c:Bool)=>if c then (some (10:Int)) else (some (0:Int))) (λb=>if (eqL a [43]) then (b true) else (if (eqL a [45]) then (b true) else (if (eqL a [110,111,116]) then (b true) else (b (eqL a [98,110,111,116])))))
theorem g81_ok (k:Nat) (a:LN) (r:Int) (h:g81 k a=some r):PureOk Try.prog 81 [.str a] (.i r):=by
 refine qA6 Xg81 (λ_=>⟨rfl,rfl⟩) Try.func81 (by decide +kernel) Kr (t:=g81 k a) ?_ h
 unfold g81
 refine qA (eE:=[(0,.str a)]) Kr ?_
 let j:Env:=[(4,.bool (eqL a [43])),(5,.bool (eqL a [43])),(3,.str a),(2,.i 0),(0,.str a)]
 refine oH 16 g81p3 j (mkH []) ?_
 refine oJ g81p4 (λ(g:Bool)=>[(4,.bool g)]) (λ(g:Bool)=>(mkH [])) (λg=>?_) (λl b=>?_)
 ·refine oS 4 (λc=>?_) (λc=>?_)
  ·exact oQ 6
  ·exact oQ 7
 ·refine oS 4 (λc=>?_) (λc=>?_)
  ·refine oLH 2 g81p4 [(4,.bool true)] (mkH []) ?_
   exact b true
  ·refine oH 6 g81p8 ((4,.bool (eqL a [45]))::(6,.bool (eqL a [45]))::(4,.bool false)::j) (mkH []) ?_
   refine oS 4 (λc=>?_) (λc=>?_)
   ·refine oL 2 g81p4 [(4,.bool true)] ?_
    exact b true
   ·refine oL 6 (nav [0,0] (nav [2,0] g81p8)) [(3,.str a),(4,.bool (eqL a [110,111,116]))] ?_
    refine oS 4 (λc=>?_) (λc=>?_)
    ·refine oL 2 g81p4 [(4,.bool true)] ?_
     exact b true
    ·refine oL 5 g81p4 [(4,.bool (eqL a [98,110,111,116]))] ?_
     exact b (eqL a [98,110,111,116])
def Xg87:Fx Bool:=⟨Try.prog,cx,Try.f87,λr => .bool r,0,λ_=>H0,cxTi,cxOrd,λ_=>none,false⟩
def g87 (k:Nat) (a:Int):Option Bool :=
 if (decide (1≤a)) then (some (decide (a≤7))) else (some false)
theorem g87_ok (k:Nat) (a:Int) (r:Bool) (h:g87 k a=some r):PureOk Try.prog 87 [.i a] (.bool r):=by
 refine qA6 Xg87 (λ_=>⟨rfl,rfl⟩) Try.func87 (by decide +kernel) Kr (t:=g87 k a) ?_ h
 unfold g87
 refine qA (eE:=[(0,.i a)]) Kr ?_
 refine oH 9 (atN 3 (ctl1 (nav [0,0,0] (nav [0] (bodyAt Try.f87))))) [(5,.bool (decide (1≤a))),(4,.bool (decide (1≤a))),(3,.i a),(2,.bool false),(0,.i a)] (mkH []) ?_
 refine oS 5 (λb=>?_) (λb=>?_)
 ·exact oQ 6
 ·exact oQ 6
def Xg94:Fx Bool:=⟨Try.prog,cx,Try.f94,λr => .bool r,0,λ_=>H0,cxTi,cxOrd,λ_=>none,false⟩
def g94p3:Pt:=nav [0,0] (nav [0,0,0,0] (nav [0,0,0,0] (nav [0] (bodyAt Try.f94))))
def g94p4:Pt:=nav [1,0] g94p3
def g94p6:Pt:=nav [0,0,0] g94p4
def g94p7:Pt:=nav [0,0] (nav [2,0,0] g94p3)
def g94p9:Pt:=nav [1,0] g94p7
def g94p13:Pt:=nav [0,0] (nav [2,0] g94p7)
def g94p15:Pt:=nav [0,0] (nav [2,0] g94p13)
def g94p17:Pt:=nav [0,0] (nav [2,0] g94p15)
def g94p19:Pt:=nav [0,0] (nav [2,0] g94p17)
def g94 (k:Nat) (b:S31):Option Bool :=
 if (decide (b.f0=1)) then ((nthS b.f1 0).bind λa=>if (!decide (a=36)) then (if (!decide (a=34)) then (if (decide (a < 48)) then (some true) else (some (decide (57 < a)))) else (some false)) else (some false)) else (jn (λ(g:Bool)=>if g then (some true) else (some false)) (λc=>if (decide (b.f0=2)) then (c true) else (if (decide (b.f0=3)) then (c true) else (if (decide (b.f0=8)) then (c true) else (if (decide (b.f0=9)) then (c true) else (if (decide (b.f0=10)) then (c true) else (if (decide (b.f0=11)) then (c true) else (c (decide (b.f0=12))))))))))
theorem g94_ok (k:Nat) (b:S31) (r:Bool) (h:g94 k b=some r):PureOk Try.prog 94 [.agg [.i b.f0,.str b.f1,q32 b.f2,.bool b.f3,.bool b.f4,w9 b.f5,w9 b.f6]] (.bool r):=by
 refine qA6 Xg94 (λ_=>⟨rfl,rfl⟩) Try.func94 (by decide +kernel) Kr (t:=g94 k b) ?_ h
 unfold g94
 refine qA (eE:=[(0,.agg [.i b.f0,.str b.f1,q32 b.f2,.bool b.f3,.bool b.f4,w9 b.f5,w9 b.f6])]) Kr ?_
 let n:Env:=[(6,.bool (decide (b.f0=1))),(7,.bool (decide (b.f0=1))),(5,.i b.f0),(4,.ptr 0 7 0),(2,.bool false),(1,.ptr 0 7 0),(0,n32 b)]
 refine oH 17 g94p3 n (mkH [⟨e32 b,0,false⟩]) ?_
 refine oS 6 (λc=>?_) (λc=>?_)
 ·refine oR 5 (atN 2 (ctl1 g94p4)) ((9,.str b.f1)::(8,.ptr 0 7 1)::(6,.bool true)::n) ?_
  refine oC (λ(a:Int)=>(.y a,(mkH [⟨e32 b,0,false⟩]))) (atN 3 (ctl1 g94p4)) 10 (idxH Kr) λa l=>?_
  refine oLH 3 g94p6 [(3,.y a)] (mkH [⟨e32 b,0,false⟩]) ?_
  refine oR 4 (atN 3 (ctl1 g94p6)) [(13,.bool (!decide (a=36))),(12,.bool (!decide (a=36))),(11,.y a),(3,.y a)] ?_
  refine oS 13 (λc=>?_) (λc=>?_)
  ·let o:Env:=[(17,.bool (!decide (a=34))),(16,.bool (!decide (a=34))),(15,.bool (!decide (a=34))),(14,.y a),(13,.bool true),(13,.bool (!decide (a=36))),(12,.bool (!decide (a=36))),(11,.y a),(3,.y a)]
   refine oR 4 (atN 7 (ctl1 g94p6)) o ?_
   refine oS 17 (λc=>?_) (λc=>?_)
   ·refine oR 3 (atN 10 (ctl1 g94p6)) ((20,.bool (decide (a < 48)))::(19,.bool (decide (a < 48)))::(18,.y a)::(17,.bool true)::o) ?_
    refine oS 20 (λc=>?_) (λc=>?_)
    ·exact oQ 7
    ·exact oQ 7
   ·exact oQ 10
  ·exact oQ 14
 ·refine oL 7 g94p7 [(5,.i b.f0),(25,.bool (decide (b.f0=2)))] ?_
  let q:Env:=[(5,.i b.f0),(25,.bool (decide (b.f0=2)))]
  refine oJ g94p9 (λ(m:Bool)=>[(25,.bool m)]) (λ(m:Bool)=>(mkH [])) (λm=>?_) (λu g=>?_)
  ·refine oS 25 (λc=>?_) (λc=>?_)
   ·exact oQ 6
   ·exact oQ 7
  ·refine oS 25 (λc=>?_) (λc=>?_)
   ·refine oLH 2 g94p9 [(25,.bool true)] (mkH [⟨e32 b,0,false⟩]) ?_
    refine qA9 [] [⟨e32 b,0,false⟩] Kr rfl Kr trivial ?_
    exact g true
   ·refine oH 6 g94p13 ((25,.bool (decide (b.f0=3)))::(27,.bool (decide (b.f0=3)))::(25,.bool false)::q) (mkH [⟨e32 b,0,false⟩]) ?_
    refine oS 25 (λc=>?_) (λc=>?_)
    ·refine oL 2 g94p9 [(25,.bool true)] ?_
     refine qA9 [] [⟨e32 b,0,false⟩] Kr rfl Kr trivial ?_
     exact g true
    ·refine oR 6 g94p15 ((25,.bool (decide (b.f0=8)))::(28,.bool (decide (b.f0=8)))::(25,.bool false)::(25,.bool (decide (b.f0=3)))::(27,.bool (decide (b.f0=3)))::(25,.bool false)::q) ?_
     refine oS 25 (λc=>?_) (λc=>?_)
     ·refine oL 2 g94p9 [(25,.bool true)] ?_
      refine qA9 [] [⟨e32 b,0,false⟩] Kr rfl Kr trivial ?_
      exact g true
     ·refine oL 6 g94p17 [(5,.i b.f0),(25,.bool (decide (b.f0=9)))] ?_
      let j:Env:=[(5,.i b.f0),(25,.bool (decide (b.f0=9)))]
      refine oS 25 (λc=>?_) (λc=>?_)
      ·refine oL 2 g94p9 [(25,.bool true)] ?_
       refine qA9 [] [⟨e32 b,0,false⟩] Kr rfl Kr trivial ?_
       exact g true
      ·refine oR 6 g94p19 ((25,.bool (decide (b.f0=10)))::(30,.bool (decide (b.f0=10)))::(25,.bool false)::j) ?_
       refine oS 25 (λc=>?_) (λc=>?_)
       ·refine oL 2 g94p9 [(25,.bool true)] ?_
        refine qA9 [] [⟨e32 b,0,false⟩] Kr rfl Kr trivial ?_
        exact g true
       ·refine oR 6 (nav [0,0] (nav [2,0] g94p19)) ((25,.bool (decide (b.f0=11)))::(31,.bool (decide (b.f0=11)))::(25,.bool false)::(25,.bool (decide (b.f0=10)))::(30,.bool (decide (b.f0=10)))::(25,.bool false)::j) ?_
        refine oS 25 (λc=>?_) (λc=>?_)
        ·refine oL 2 g94p9 [(25,.bool true)] ?_
         refine qA9 [] [⟨e32 b,0,false⟩] Kr rfl Kr trivial ?_
         exact g true
        ·refine oL 5 g94p9 [(25,.bool (decide (b.f0=12)))] ?_
         refine qA9 [] [⟨e32 b,0,false⟩] Kr rfl Kr trivial ?_
         exact g (decide (b.f0=12))
abbrev Ti20:Type:=LN→(List S38)→Int→Int→Option Bool
def Xi20 (a:LN) (b:List S38) (c:Int) (g:Int):Fx Bool:=⟨Try.prog,cx,Try.f76,λr => .bool r,1,λr=>(mkH [⟨[.str a,w39 b,.i c,.i g],4,false⟩]),cxTi,cxOrd,λ_=>none,false⟩
def Pi20 (f:Ti20):Prop := ∀ a b c g,PNh (Xi20 a b c g) 76 [.ptr 0 4 0] (mkH [⟨[.str a,w39 b,.i c,.i g],4,false⟩]) (f a b c g)
def i20p1:Pt:=nav [0,0,0] (nav [0] (bodyAt Try.f76))
def i20d0:DP:=⟨[],[(0,0,0),(1,0,0),(3,0,0),(7,0,0),(0,0,0),(16,0,0),(48,0,0),(112,0,0),(255,0,0),(511,0,0),(1023,0,0),(2047,0,0),(4095,0,0),(8191,0,0),(1023,0,0),(17407,0,0),(50175,0,0),(115711,0,0),(262143,0,0),(524287,0,0),(1048575,0,0),(2097151,0,0),(4194303,0,0),(8388607,0,0)],24,thrown,[],H0⟩
def i20 (k:Nat) (h:LN) (c:List S38) (b:Int) (g:Int):Option Bool :=
 if (decide (b < g)) then ((nthL c b).bind λa=>some (decide (a.f0=11))) else (some false)
theorem i20_all (k:Nat):∀ j g b c r,i20 k j g b c=some r→CallT Try.prog 76 [.ptr 0 4 0] (mkH [⟨[.str j,w39 g,.i b,.i c],4,false⟩]) ((Xi20 j g b c).thr r) ((Xi20 j g b c).enc r) ((Xi20 j g b c).fin r):=by
 intro j g b c r h
 refine qA1 (Xi20 j g b c) Try.func76 Kr Kr rfl (t:=i20 k j g b c) ?_ h
 unfold i20
 refine qA (eE:=[(0,.ptr 0 4 0)]) Kr ?_
 let n:Blk:=⟨[.str j,w39 g,.i b,.i c],4,false⟩
 refine oH 5 i20p1 [(2,.bool false),(0,.ptr 0 4 0)] (mkH [n]) ?_
 refine qCo (λm=>?_) (λm=>?_)
 ·refine qA7 (λa l=>?_)
  let o:Env:=[(12,.bool (decide (b < c))),(11,.bool (decide (b < c))),(10,.i c),(9,.ptr 0 4 3),(8,.ptr 0 4 0),(7,.ptr 0 4 0),(6,.i b),(5,.ptr 0 4 2),(4,.ptr 0 4 0),(3,.ptr 0 4 0),(2,.bool false),(0,.ptr 0 4 0)]
  let q:Env:=[(20,.i b),(19,.ptr 0 4 2),(18,.ptr 0 4 0),(17,.ptr 0 4 0),(16,w39 g),(15,.ptr 0 4 1),(14,.ptr 0 4 0),(13,.ptr 0 4 0),(12,.bool true),(11,.bool true),(10,.i c),(9,.ptr 0 4 3),(8,.ptr 0 4 0),(7,.ptr 0 4 0),(6,.i b),(5,.ptr 0 4 2),(4,.ptr 0 4 0),(3,.ptr 0 4 0),(2,.bool false),(0,.ptr 0 4 0)]
  let u:Env:=((2,.bool (decide (a.f0=11)))::(25,.bool (decide (a.f0=11)))::(24,.bool (decide (a.f0=11)))::(23,.i a.f0)::(22,.vptr [.i a.f0,.str a.f1,.i a.f2])::(21,.vptr [.i a.f0,.str a.f1,.i a.f2])::q)
  refine oD (H':=(mkH [n])) (nav [0] i20p1) u [] i20d0 (oDr 10 10 o (oDe (λz=>[(12,.bool z),(11,.bool z),(10,.i c),(9,.ptr 0 4 3),(8,.ptr 0 4 0),(7,.ptr 0 4 0),(6,.i b),(5,.ptr 0 4 2),(4,.ptr 0 4 0),(3,.ptr 0 4 0),(2,.bool false),(0,.ptr 0 4 0)]) m (oDr 8 18 q (qAa (l':=(opsAt i20p1).toList.drop 19) (eE:=((21,.vptr [.i a.f0,.str a.f1,.i a.f2])::q)) (hs:=[]) (x:=a) (λ(a:S38)=>(.vptr [.i a.f0,.str a.f1,.i a.f2],(mkH [n]))) (vidxH (sz:=3) qAn Kr) l Kr (oDr 5 24 u .nil))))) ?_
  exact oQF 1 [n] 1 [] [.bool (decide (a.f0=11))] (.bool (decide (a.f0=11))) .ps trivial
 ·let o:Env:=[(12,.bool (decide (b < c))),(11,.bool (decide (b < c))),(10,.i c),(9,.ptr 0 4 3),(8,.ptr 0 4 0),(7,.ptr 0 4 0),(6,.i b),(5,.ptr 0 4 2),(4,.ptr 0 4 0),(3,.ptr 0 4 0),(2,.bool false),(0,.ptr 0 4 0)]
  let A:Env:=[(2,.bool false),(25,.bool false),(24,.tuple []),(23,.tuple []),(22,.tuple []),(21,.tuple []),(20,.tuple []),(19,.tuple []),(18,.tuple []),(17,.tuple []),(16,.tuple []),(15,.tuple []),(14,.tuple []),(13,.tuple []),(12,.bool false),(11,.bool false),(10,.i c),(9,.ptr 0 4 3),(8,.ptr 0 4 0),(7,.ptr 0 4 0),(6,.i b),(5,.ptr 0 4 2),(4,.ptr 0 4 0),(3,.ptr 0 4 0),(2,.bool false),(0,.ptr 0 4 0)]
  refine oD (H':=(mkH [n])) (nav [0] i20p1) A [] i20d0 (oDr 10 10 o (oDe (λz=>[(12,.bool z),(11,.bool z),(10,.i c),(9,.ptr 0 4 3),(8,.ptr 0 4 0),(7,.ptr 0 4 0),(6,.i b),(5,.ptr 0 4 2),(4,.ptr 0 4 0),(3,.ptr 0 4 0),(2,.bool false),(0,.ptr 0 4 0)]) m (oDr 14 24 A .nil))) ?_
  exact oQF 1 [n] 1 [] [.bool false] (.bool false) .ps trivial
theorem qP3 (k:Nat):Pi20 (i20 k):=λa b c g=>λx h=>i20_all k a b c g x h
abbrev Ti28:Type:=Option (Option Unit)
def Xi28  : Fx (Option Unit):=⟨Try.prog,cx,Try.f79,λr=>match r with | some r => .tuple [] | none => .top,0,λr=>match r with | some r=>(mkH []) | none=>(mkH []),cxTi,cxOrd,λr=>match r with | some _=>none | none=>some (thrown,[]),false⟩
def Pi28 (f:Ti28):Prop:=PQh Xi28 79 [] (f )
def i28 (k:Nat)  : Option (Option Unit) :=
 some none
theorem qP (k:Nat):∀  r,i28 k  = some r→CallT Try.prog 79 [] (mkH []) (Xi28.thr r) (Xi28.enc r) (Xi28.fin r):=by
 intro  r h
 refine qA1 Xi28 Try.func79 Kr Kr rfl (t:=i28 k ) ?_ h
 unfold i28
 refine qA (eE:=[]) Kr ?_
 refine oH 3 (atN 2 (ctl1 (nav [] (bodyAt Try.f79)))) [(1,.iface 88 (.agg [])),(0,.agg [])] (mkH []) ?_
 exact ok_panic (LX:=[]) (L:=[]) rfl rfl rfl Kr rfl trivial Kr
theorem i28_ok (k:Nat):Pi28 (i28 k):=⟨λx h=>qP k  (some x) h,λh=>⟨_,qP k  none h⟩⟩
abbrev Ti21:Type:=Bool→Option (Option Unit)
def Xi21 (a:Bool):Fx (Option Unit):=⟨Try.prog,cx,Try.f66,λr=>match r with | some r => .tuple [] | none => .top,0,λr=>match r with | some r=>(mkH []) | none=>(mkH []),cxTi,cxOrd,λr=>match r with | some _=>none | none=>some (thrown,[]),false⟩
def Pi21 (f:Ti21):Prop := ∀ a,PQh (Xi21 a) 66 [.bool a] (f a)
def i21p1:Pt:=nav [0,0] (nav [0] (bodyAt Try.f66))
def i21p2:Pt:=nav [1] i21p1
def i21 (k:Nat) (b:Bool):Option (Option Unit) :=
 if (!b) then (bT (i28 k) λa=>some (some ())) else (some (some ()))
theorem qP2 (k:Nat):∀ a r,i21 k a=some r→CallT Try.prog 66 [.bool a] (mkH []) ((Xi21 a).thr r) ((Xi21 a).enc r) ((Xi21 a).fin r):=by
 intro a r h
 refine qA1 (Xi21 a) Try.func66 Kr Kr rfl (t:=i21 k a) ?_ h
 unfold i21
 refine qA (eE:=[(0,.bool a)]) Kr ?_
 refine oH 5 i21p1 [(3,.bool (!a)),(2,.bool a),(0,.bool a)] (mkH []) ?_
 refine oS 3 (λg=>?_) (λg=>?_)
 ·refine oR 2 (atN 0 (ctl1 i21p2)) [(3,.bool true),(3,.bool (!a)),(2,.bool a),(0,.bool a)] ?_
  refine oX (λ(b:Unit) => .tuple []) (λb=>[]) (atN 1 (ctl1 i21p2)) 4 [] [] [] [] [] [] (i28_ok k) trivial (λ_=>trivial) trivial λb c=>?_
  exact oQF 1 [] 0 [] [] (.tuple []) .ps trivial
 ·exact oQF 2 [] 0 [] [] (.tuple []) .ps trivial
theorem qD5 (k:Nat):Pi21 (i21 k):=λa=>⟨λx h=>qP2 k a (some x) h,λh=>⟨_,qP2 k a none h⟩⟩
abbrev Ti17:Type:=LN→(List S38)→Int→Int→Option (Option Int)
def Xi17 (a:LN) (b:List S38) (g:Int) (c:Int):Fx (Option Int):=⟨Try.prog,cx,Try.f68,λr=>match r with | some r => .tuple [] | none => .top,1,λr=>match r with | some r=>(mkH [⟨[.str a,w39 b,.i r,.i c],4,false⟩]) | none=>(mkH [⟨[.str a,w39 b,.i g,.i c],4,false⟩]),cxTi,cxOrd,λr=>match r with | some _=>none | none=>some (thrown,[]),false⟩
def Pi17 (f:Ti17):Prop := ∀ a b c g,PQh (Xi17 a b c g) 68 [.ptr 0 4 0] (f a b c g)
def i17p0:Pt:=nav [0] (bodyAt Try.f68)
def i17d0:DP:=⟨[],[(0,0,0),(1,0,0),(3,0,0),(7,0,0),(0,0,0),(16,0,0),(48,0,0),(112,0,0),(255,0,0),(511,0,0),(1023,0,0),(2047,0,0),(4095,0,0),(8191,0,0),(16383,0,0)],15,thrown,[],H0⟩
def i17 (k:Nat) (j:LN) (l:List S38) (c:Int) (g:Int):Option (Option Int) :=
 jn (λ(m:Unit)=>some (some (fW .i64 (c+1)))) (λh=>if (decide (c < g)) then ((i20 k j l c g).bind λa=>bT (i21 k (!a)) λb=>h ()) else (bT (i21 k false) λb=>h ()))
theorem qP5 (k:Nat):∀ n o c g r,i17 k n o c g=some r→CallT Try.prog 68 [.ptr 0 4 0] (mkH [⟨[.str n,w39 o,.i c,.i g],4,false⟩]) ((Xi17 n o c g).thr r) ((Xi17 n o c g).enc r) ((Xi17 n o c g).fin r):=by
 intro n o c g r h
 refine qA1 (Xi17 n o c g) Try.func68 Kr Kr rfl (t:=i17 k n o c g) ?_ h
 unfold i17
 refine qA (eE:=[(0,.ptr 0 4 0)]) Kr ?_
 let b:Blk:=⟨[.str n,w39 o,.i c,.i g],4,false⟩
 refine oH 1 i17p0 [(0,.ptr 0 4 0)] (mkH [b]) ?_
 refine oJ (nav [0] i17p0) (λ(C:Unit)=>[(0,.ptr 0 4 0)]) (λ(C:Unit)=>(mkH [b])) (λC=>?_) (λE B=>?_)
 ·exact oQF 10 [⟨[.str n,w39 o,.i (fW .i64 (c+1)),.i g],4,false⟩] 1 [] [] (.tuple []) .ps trivial
 ·refine qCo (λq=>?_) (λq=>?_)
  ·refine qA7 (λa m=>?_)
   refine qCe (λh=>?_) (λl j=>?_)
   ·let x:Env:=[(11,.bool (decide (c < g))),(10,.bool (decide (c < g))),(9,.i g),(8,.ptr 0 4 3),(7,.ptr 0 4 0),(6,.ptr 0 4 0),(5,.i c),(4,.ptr 0 4 2),(3,.ptr 0 4 0),(2,.ptr 0 4 0),(0,.ptr 0 4 0)]
    let u:Env:=[(12,.ptr 0 4 0),(11,.bool true),(10,.bool true),(9,.i g),(8,.ptr 0 4 3),(7,.ptr 0 4 0),(6,.ptr 0 4 0),(5,.i c),(4,.ptr 0 4 2),(3,.ptr 0 4 0),(2,.ptr 0 4 0),(0,.ptr 0 4 0)]
    exact qAm (eE:=((16,.top)::(15,.bool (!a))::(14,.bool (!a))::(13,.bool a)::u)) (i17d0.th 14 thrown [] (mkH [b])) (hs:=[(mkH [b]),(mkH [b])]) (LX:=[b]) (L:=[b]) rfl rfl rfl Kr rfl ⟨.inr ⟨rfl,rfl,by kernel_rfl⟩,trivial⟩ Kr Kr Kr Kr (qA8 10 (l':=(opsAt i17p0).toList.drop 10) (eE:=x) (H':=(mkH [b])) (hs:=[]) Kr (oDe (λz=>[(11,.bool z),(10,.bool z),(9,.i g),(8,.ptr 0 4 3),(7,.ptr 0 4 0),(6,.ptr 0 4 0),(5,.i c),(4,.ptr 0 4 2),(3,.ptr 0 4 0),(2,.ptr 0 4 0),(0,.ptr 0 4 0)]) q (qA8 1 (l':=(opsAt i17p0).toList.drop 11) (eE:=u) (H':=(mkH [b])) (hs:=[]) Kr (qA5 (l':=(opsAt i17p0).toList.drop 12) (eE:=((13,.bool a)::u)) (hs:=[(mkH [b])]) (H':=(mkH [b])) (fi:=76) (args:=[.ptr 0 4 0]) (v := .bool a) Kr (frC (rs:=[0]) (ms:=[]) (ms':=[]) (qP3 k n o c g a m) trivial trivial Kr) Kr (qA8 2 (l':=(opsAt i17p0).toList.drop 14) (eE:=((15,.bool (!a))::(14,.bool (!a))::(13,.bool a)::u)) (H':=(mkH [b])) (hs:=[]) Kr (qAh (l':=(opsAt i17p0).toList.drop 15) (eE:=((16,.top)::(15,.bool (!a))::(14,.bool (!a))::(13,.bool a)::u)) (hs:=[(mkH [b])]) (fi:=66) (args:=[.bool (!a)]) Kr Kr (frS 0 (M:=[b]) (rs:=[]) (ms:=[]) (mv:=[]) (mm:=[]) (D:=[]) (xs':=[.bool (!a)]) (.refl) ((qD5 k (!a)).2 h) trivial trivial Kr) Kr (.nil))))))) Kr Kr
   ·let x:Env:=[(11,.bool (decide (c < g))),(10,.bool (decide (c < g))),(9,.i g),(8,.ptr 0 4 3),(7,.ptr 0 4 0),(6,.ptr 0 4 0),(5,.i c),(4,.ptr 0 4 2),(3,.ptr 0 4 0),(2,.ptr 0 4 0),(0,.ptr 0 4 0)]
    let u:Env:=[(12,.ptr 0 4 0),(11,.bool true),(10,.bool true),(9,.i g),(8,.ptr 0 4 3),(7,.ptr 0 4 0),(6,.ptr 0 4 0),(5,.i c),(4,.ptr 0 4 2),(3,.ptr 0 4 0),(2,.ptr 0 4 0),(0,.ptr 0 4 0)]
    refine oD (H':=(mkH [b])) (nav [0] i17p0) ((16,.tuple [])::(15,.bool (!a))::(14,.bool (!a))::(13,.bool a)::u) [(mkH [b]),(mkH [b])] i17d0 (oDr 10 10 x (oDe (λz=>[(11,.bool z),(10,.bool z),(9,.i g),(8,.ptr 0 4 3),(7,.ptr 0 4 0),(6,.ptr 0 4 0),(5,.i c),(4,.ptr 0 4 2),(3,.ptr 0 4 0),(2,.ptr 0 4 0),(0,.ptr 0 4 0)]) q (oDr 1 11 u (qA5 (l':=(opsAt i17p0).toList.drop 12) (eE:=((13,.bool a)::u)) (hs:=[(mkH [b])]) (H':=(mkH [b])) (fi:=76) (args:=[.ptr 0 4 0]) (v := .bool a) Kr (frC (rs:=[0]) (ms:=[]) (ms':=[]) (qP3 k n o c g a m) trivial trivial Kr) Kr (oDr 2 14 ((15,.bool (!a))::(14,.bool (!a))::(13,.bool a)::u) (qA5 (l':=(opsAt i17p0).toList.drop 15) (eE:=((16,.tuple [])::(15,.bool (!a))::(14,.bool (!a))::(13,.bool a)::u)) (hs:=[(mkH [b])]) (H':=(mkH [b])) (fi:=66) (args:=[.bool (!a)]) (v := .tuple []) Kr (frC (rs:=[]) (ms:=[]) (ms':=[]) ((qD5 k (!a)).1 l j) trivial trivial Kr) Kr .nil)))))) ?_
    refine oK [0] [(0,.ptr 0 4 0)] ?_
    exact B ()
  ·refine qCe (λh=>?_) (λl j=>?_)
   ·let x:Env:=[(11,.bool (decide (c < g))),(10,.bool (decide (c < g))),(9,.i g),(8,.ptr 0 4 3),(7,.ptr 0 4 0),(6,.ptr 0 4 0),(5,.i c),(4,.ptr 0 4 2),(3,.ptr 0 4 0),(2,.ptr 0 4 0),(0,.ptr 0 4 0)]
    let A:Env:=[(15,.bool false),(14,.tuple []),(13,.tuple []),(12,.tuple []),(11,.bool false),(10,.bool false),(9,.i g),(8,.ptr 0 4 3),(7,.ptr 0 4 0),(6,.ptr 0 4 0),(5,.i c),(4,.ptr 0 4 2),(3,.ptr 0 4 0),(2,.ptr 0 4 0),(0,.ptr 0 4 0)]
    exact qAm (eE:=((16,.top)::A)) (i17d0.th 14 thrown [] (mkH [b])) (hs:=[(mkH [b]),(mkH [b])]) (LX:=[b]) (L:=[b]) rfl rfl rfl Kr rfl ⟨.inr ⟨rfl,rfl,by kernel_rfl⟩,trivial⟩ Kr Kr Kr Kr (qA8 10 (l':=(opsAt i17p0).toList.drop 10) (eE:=x) (H':=(mkH [b])) (hs:=[]) Kr (oDe (λz=>[(11,.bool z),(10,.bool z),(9,.i g),(8,.ptr 0 4 3),(7,.ptr 0 4 0),(6,.ptr 0 4 0),(5,.i c),(4,.ptr 0 4 2),(3,.ptr 0 4 0),(2,.ptr 0 4 0),(0,.ptr 0 4 0)]) q (qA8 4 (l':=(opsAt i17p0).toList.drop 14) (eE:=A) (H':=(mkH [b])) (hs:=[(mkH [b])]) Kr (qAh (l':=(opsAt i17p0).toList.drop 15) (eE:=((16,.top)::A)) (hs:=[(mkH [b])]) (fi:=66) (args:=[.bool false]) Kr Kr (frS 0 (M:=[b]) (rs:=[]) (ms:=[]) (mv:=[]) (mm:=[]) (D:=[]) (xs':=[.bool false]) (.refl) ((qD5 k false).2 h) trivial trivial Kr) Kr (.nil))))) Kr Kr
   ·let x:Env:=[(11,.bool (decide (c < g))),(10,.bool (decide (c < g))),(9,.i g),(8,.ptr 0 4 3),(7,.ptr 0 4 0),(6,.ptr 0 4 0),(5,.i c),(4,.ptr 0 4 2),(3,.ptr 0 4 0),(2,.ptr 0 4 0),(0,.ptr 0 4 0)]
    let A:Env:=[(15,.bool false),(14,.tuple []),(13,.tuple []),(12,.tuple []),(11,.bool false),(10,.bool false),(9,.i g),(8,.ptr 0 4 3),(7,.ptr 0 4 0),(6,.ptr 0 4 0),(5,.i c),(4,.ptr 0 4 2),(3,.ptr 0 4 0),(2,.ptr 0 4 0),(0,.ptr 0 4 0)]
    refine oD (H':=(mkH [b])) (nav [0] i17p0) ((16,.tuple [])::A) [(mkH [b]),(mkH [b])] i17d0 (oDr 10 10 x (oDe (λz=>[(11,.bool z),(10,.bool z),(9,.i g),(8,.ptr 0 4 3),(7,.ptr 0 4 0),(6,.ptr 0 4 0),(5,.i c),(4,.ptr 0 4 2),(3,.ptr 0 4 0),(2,.ptr 0 4 0),(0,.ptr 0 4 0)]) q (oDh 4 14 A (mkH [b]) [(mkH [b])] (qA5 (l':=(opsAt i17p0).toList.drop 15) (eE:=((16,.tuple [])::A)) (hs:=[(mkH [b])]) (H':=(mkH [b])) (fi:=66) (args:=[.bool false]) (v := .tuple []) Kr (frC (rs:=[]) (ms:=[]) (ms':=[]) ((qD5 k false).1 l j) trivial trivial Kr) Kr .nil)))) ?_
    refine oK [0] [(0,.ptr 0 4 0)] ?_
    exact B ()
theorem qG1 (k:Nat):Pi17 (i17 k):=λa b c g=>⟨λx h=>qP5 k a b c g (some x) h,λh=>⟨_,qP5 k a b c g none h⟩⟩
abbrev Ti13:Type:=LN→(List S38)→Int→Int→Option S38
def Xi13 (a:LN) (b:List S38) (c:Int) (g:Int):Fx S38:=⟨Try.prog,cx,Try.f65,λr=>n39 r,1,λr=>(mkH [⟨[.str a,w39 b,.i c,.i g],4,false⟩]),cxTi,cxOrd,λ_=>none,false⟩
def Pi13 (f:Ti13):Prop := ∀ a b c g,PNh (Xi13 a b c g) 65 [.ptr 0 4 0] (mkH [⟨[.str a,w39 b,.i c,.i g],4,false⟩]) (f a b c g)
def i13p2:Pt:=nav [0,0,0,0] (nav [0,0,0,0] (nav [0] (bodyAt Try.f65)))
def i13p4:Pt:=nav [0,0] (nav [0,0,0] i13p2)
def i13p5:Pt:=nav [1,0,0,0,0] i13p4
def i13p7:Pt:=nav [0,0] i13p5
def i13p9:Pt:=nav [1,0] i13p7
def qJg (k:Nat)  (j:LN) (g:List S38) (l:Int) (h:Int) (ih:Int→Option S38):Int→Option S38 :=
 λ(a:Int)=>if (decide (a < h)) then ((nthL g a).bind λb=>if (!decide (b.f0=11)) then ((nthL g a).bind λc=>some c) else (ih (fW .i64 (a+1)))) else (some (⟨(0:Int),([]:LN),(0:Int)⟩:S38))
def qP8 (k:Nat)  (a:LN) (b:List S38) (c:Int) (g:Int) (n:Nat):Int→Option S38:=lp (λ_=>none) (qJg k a b c g) n
theorem qP7 (k:Nat) (j:LN) (g:List S38) (l:Int) (h:Int)    : ∀ (n:Nat) (a:Int),Ok (Xi13 j g l h) i13p2 [(0,.ptr 0 4 0),(2,.ptr 1 3 0),(3,.i a)] (mkH [⟨[.str j,w39 g,.i l,.i h],4,false⟩,⟨[.i 0,.str [],.i 0],0,false⟩]) (qP8 k j g l h n a):=by
 intro n
 induction n with
 | zero=>intro a; exact ok_none
 | succ n ih =>
  intro a
  show Ok _ _ _ _ (qJg k j g l h (qP8 k j g l h n) a)
  unfold qJg
  refine qAk (p':=nav [0] i13p2) Kr ?_
  let x:Env:=[(13,.bool (decide (a < h))),(12,.i h),(11,.ptr 0 4 3),(10,.ptr 0 4 0),(9,.ptr 0 4 0),(8,.i a),(0,.ptr 0 4 0),(2,.ptr 1 3 0),(3,.i a)]
  let m:Blk:=⟨[.str j,w39 g,.i l,.i h],4,false⟩
  let o:Blk:=⟨[.i 0,.str [],.i 0],0,false⟩
  refine oH 10 i13p4 x (mkH [m,o]) ?_
  refine oS 13 (λq=>?_) (λq=>?_)
  ·refine oR 11 (atN 5 (ctl1 i13p5)) ((20,.i a)::(19,w39 g)::(18,.ptr 0 4 1)::(17,.ptr 0 4 0)::(16,.ptr 0 4 0)::(13,.bool true)::x) ?_
   refine oC (λ(c:S38)=>(.vptr [.i c.f0,.str c.f1,.i c.f2],(mkH [m,o]))) (atN 6 (ctl1 i13p5)) 21 (vidxH (sz:=3) qAn Kr) λc r=>?_
   refine oLH 4 i13p7 [(0,.ptr 0 4 0),(2,.ptr 1 3 0),(3,.i a),(24,.bool (!decide (c.f0=11)))] (mkH [m,o]) ?_
   refine oS 24 (λq=>?_) (λq=>?_)
   ·refine oR 8 (atN 5 (ctl1 i13p9)) ((29,.i a)::(28,w39 g)::(27,.ptr 0 4 1)::(26,.ptr 0 4 0)::(25,.ptr 0 4 0)::(24,.bool true)::[(0,.ptr 0 4 0),(2,.ptr 1 3 0),(3,.i a),(24,.bool (!decide (c.f0=11)))]) ?_
    refine oC (λ(b:S38)=>(.vptr [.i b.f0,.str b.f1,.i b.f2],(mkH [m,o]))) (atN 6 (ctl1 i13p9)) 30 (vidxH (sz:=3) qAn Kr) λb u=>?_
    exact oQF 4 [m,⟨e39 b,3,false⟩] 1 [] [n39 b] (n39 b) .ps trivial
   ·refine oL 7 i13p2 [(0,.ptr 0 4 0),(2,.ptr 1 3 0),(3,.i (fW .i64 (a+1)))] ?_
    exact ih (fW .i64 (a+1))
  ·exact oQF 8 [m,⟨[.i 0,.str [],.i 0],3,false⟩] 1 [] [.agg [.i 0,.str [],.i 0]] (.agg [.i 0,.str [],.i 0]) .ps trivial
def i13 (k:Nat) (b:LN) (c:List S38) (a:Int) (g:Int):Option S38 :=
 qP8 k b c a g k a
theorem i13_all (k:Nat):∀ b c a g r,i13 k b c a g=some r→CallT Try.prog 65 [.ptr 0 4 0] (mkH [⟨[.str b,w39 c,.i a,.i g],4,false⟩]) ((Xi13 b c a g).thr r) ((Xi13 b c a g).enc r) ((Xi13 b c a g).fin r):=by
 intro b c a g r h
 refine qA1 (Xi13 b c a g) Try.func65 Kr Kr rfl (t:=i13 k b c a g) ?_ h
 unfold i13
 refine qA (eE:=[(0,.ptr 0 4 0)]) Kr ?_
 refine oLH 15 i13p2 [(0,.ptr 0 4 0),(2,.ptr 1 3 0),(3,.i a)] (mkH [⟨[.str b,w39 c,.i a,.i g],4,false⟩,⟨[.i 0,.str [],.i 0],0,false⟩]) ?_
 exact (qP7 k b c a g k) a
theorem qG2 (k:Nat):Pi13 (i13 k):=λa b c g=>λx h=>i13_all k a b c g x h
abbrev Ti7:Type:=LN→LN→(List S38)→Int→Int→Option Bool
def Xi7 (h:LN) (a:LN) (b:List S38) (c:Int) (g:Int):Fx Bool:=⟨Try.prog,cx,Try.f59,λr => .bool r,1,λr=>(mkH [⟨[.str a,w39 b,.i c,.i g],4,false⟩]),cxTi,cxOrd,λ_=>none,false⟩
def Pi7 (f:Ti7):Prop := ∀ a b c g h,PNh (Xi7 a b c g h) 59 [.ptr 0 4 0,.str a] (mkH [⟨[.str b,w39 c,.i g,.i h],4,false⟩]) (f a b c g h)
def i7p1:Pt:=nav [0,0,0] (nav [0] (bodyAt Try.f59))
def i7p2:Pt:=nav [0,0,0] i7p1
def i7 (k:Nat) (b:LN) (c:LN) (g:List S38) (h:Int) (j:Int):Option Bool :=
 (i13 k c g h j).bind λa=>if (decide (a.f0=9)) then (some (eqL a.f1 b)) else (if (decide (a.f0=8)) then (some (eqL a.f1 b)) else (some false))
theorem i7_all (k:Nat):∀ b c g j l r,i7 k b c g j l=some r→CallT Try.prog 59 [.ptr 0 4 0,.str b] (mkH [⟨[.str c,w39 g,.i j,.i l],4,false⟩]) ((Xi7 b c g j l).thr r) ((Xi7 b c g j l).enc r) ((Xi7 b c g j l).fin r):=by
 intro b c g j l r h
 refine qA1 (Xi7 b c g j l) Try.func59 Kr Kr rfl (t:=i7 k b c g j l) ?_ h
 unfold i7
 refine qA (eE:=[(0,.ptr 0 4 0),(1,.str b)]) Kr ?_
 let m:Blk:=⟨[.str c,w39 g,.i j,.i l],4,false⟩
 refine oH 7 (atN 1 (ctl1 i7p1)) [(6,.ptr 0 4 0),(4,.bool false),(0,.ptr 0 4 0),(1,.str b)] (mkH [m]) ?_
 refine oN (λ(a:S38)=>n39 a) (λa=>[m]) (atN 2 (ctl1 i7p1)) 7 [0] [] [] [.ptr 0 4 0] (qG2 k c g j l) trivial (λ_=>trivial) λa n=>?_
 let q:Env:=[(11,.bool (decide (a.f0=9))),(10,.bool (decide (a.f0=9))),(9,.i a.f0),(8,.ptr 1 3 0),(5,.ptr 1 3 0),(7,n39 a),(6,.ptr 0 4 0),(4,.bool false),(0,.ptr 0 4 0),(1,.str b)]
 refine oH 9 (atN 4 (ctl1 i7p2)) q (mkH [m,⟨e39 a,3,false⟩]) ?_
 refine oS 11 (λo=>?_) (λo=>?_)
 ·exact oQF 13 [m,⟨e39 a,3,false⟩] 1 [] [.bool (eqL a.f1 b)] (.bool (eqL a.f1 b)) .ps trivial
 ·refine oR 5 (atN 9 (ctl1 i7p2)) ((16,.bool (decide (a.f0=8)))::(15,.bool (decide (a.f0=8)))::(14,.bool (decide (a.f0=8)))::(13,.i a.f0)::(12,.ptr 1 3 0)::(11,.bool false)::q) ?_
  refine oS 16 (λo=>?_) (λo=>?_)
  ·exact oQF 8 [m,⟨e39 a,3,false⟩] 1 [] [.bool (eqL a.f1 b)] (.bool (eqL a.f1 b)) .ps trivial
  ·exact oQF 8 [m,⟨e39 a,3,false⟩] 1 [] [.bool false] (.bool false) .ps trivial
theorem qMj (k:Nat):Pi7 (i7 k):=λa b c g j=>λx h=>i7_all k a b c g j x h
abbrev Ti11:Type:=LN→LN→(List S38)→Int→Int→Option (Option (Bool×Int))
def Xi11 (h:LN) (a:LN) (b:List S38) (g:Int) (c:Int):Fx (Option (Bool×Int)):=⟨Try.prog,cx,Try.f61,λr=>match r with | some r => .bool r.1 | none => .top,1,λr=>match r with | some r=>(mkH [⟨[.str a,w39 b,.i r.2,.i c],4,false⟩]) | none=>(mkH [⟨[.str a,w39 b,.i g,.i c],4,false⟩]),cxTi,cxOrd,λr=>match r with | some _=>none | none=>some (thrown,[]),false⟩
def Pi11 (f:Ti11):Prop := ∀ a b c g h,PQh (Xi11 a b c g h) 61 [.ptr 0 4 0,.str a] (f a b c g h)
def i11p1:Pt:=nav [0,0,0,0] (nav [0] (bodyAt Try.f61))
def i11p2:Pt:=nav [0,0] i11p1
def i11p4:Pt:=nav [2,0,0] i11p2
def i11 (k:Nat) (l:LN) (g:LN) (h:List S38) (c:Int) (j:Int):Option (Option (Bool×Int)) :=
 (i7 k l g h c j).bind λa=>if (!a) then (some (some (false,c))) else (bT (i17 k g h c j) λb=>some (some (true,b)))
theorem qPb (k:Nat):∀ c g j m l r,i11 k c g j m l=some r→CallT Try.prog 61 [.ptr 0 4 0,.str c] (mkH [⟨[.str g,w39 j,.i m,.i l],4,false⟩]) ((Xi11 c g j m l).thr r) ((Xi11 c g j m l).enc r) ((Xi11 c g j m l).fin r):=by
 intro c g j m l r h
 refine qA1 (Xi11 c g j m l) Try.func61 Kr Kr rfl (t:=i11 k c g j m l) ?_ h
 unfold i11
 refine qA (eE:=[(0,.ptr 0 4 0),(1,.str c)]) Kr ?_
 let n:Env:=[(6,.str c),(5,.ptr 0 4 0),(4,.bool false),(0,.ptr 0 4 0),(1,.str c)]
 let o:Blk:=⟨[.str g,w39 j,.i m,.i l],4,false⟩
 refine oH 9 (atN 2 (ctl1 i11p1)) n (mkH [o]) ?_
 refine oN (λ(a:Bool) => .bool a) (λa=>[o]) (atN 3 (ctl1 i11p1)) 7 [0] [] [] [.ptr 0 4 0,.str c] (qMj k c g j m l) trivial (λ_=>trivial) λa q=>?_
 refine oR 2 i11p2 ((8,.bool (!a))::(7,.bool a)::n) ?_
 refine oS 8 (λx=>?_) (λx=>?_)
 ·exact oQF 6 [o] 1 [] [.bool false] (.bool false) .ps trivial
 ·refine oR 5 (atN 1 (ctl1 i11p4)) ((9,.ptr 0 4 0)::(8,.bool false)::(8,.bool (!a))::(7,.bool a)::n) ?_
  refine oX (λ(b:Int) => .tuple []) (λb=>[⟨[.str g,w39 j,.i b,.i l],4,false⟩]) (atN 2 (ctl1 i11p4)) 10 [0] [] [] [] [] [.ptr 0 4 0] (qG1 k g j m l) trivial (λ_=>trivial) trivial λb u=>?_
  refine oL 2 (nav [0,0,0] i11p4) [] ?_
  exact oQF 4 [⟨[.str g,w39 j,.i b,.i l],4,false⟩] 1 [] [.bool true] (.bool true) .ps trivial
theorem qAb (k:Nat):Pi11 (i11 k):=λa b c g j=>⟨λx h=>qPb k a b c g j (some x) h,λh=>⟨_,qPb k a b c g j none h⟩⟩
abbrev Ri12:Type:=(LL×Int)
abbrev Ti12:Type:=LN→(List S38)→Int→Int→Option Ri12
def Xi12 (a:LN) (b:List S38) (g:Int) (c:Int):Fx Ri12:=⟨Try.prog,cx,Try.f62,λr=>w9 r.1,1,λr=>(mkH [⟨[.str a,w39 b,.i r.2,.i c],4,false⟩]),cxTi,cxOrd,λ_=>none,false⟩
def Pi12 (f:Ti12):Prop := ∀ a b c g,PNh (Xi12 a b c g) 62 [.ptr 0 4 0] (mkH [⟨[.str a,w39 b,.i c,.i g],4,false⟩]) (f a b c g)
def i12p1:Pt:=nav [0,0,0] (nav [0] (bodyAt Try.f62))
def i12p2:Pt:=nav [0,0,0,0,0] i12p1
def i12p3:Pt:=nav [0,0,0] i12p2
def i12p4:Pt:=nav [0,0] i12p3
def i12p5:Pt:=nav [1,0,0,0] i12p4
def i12d0:DP:=⟨[18],[(0,0,0),(0,0,0),(2,0,0),(6,0,0),(14,0,0),(0,0,0),(32,0,0),(96,0,0),(224,0,0),(510,0,0),(1022,0,0),(2046,0,0),(4094,0,0),(8191,0,0),(16383,0,0)],15,thrown,[],H0⟩
def qJh (k:Nat)  (l:LN) (j:List S38) (m:Int) (ih:Int→LL→Option Ri12):Int→LL→Option Ri12 :=
 λ(a:Int) (b:LL)=>(i20 k l j a m).bind λg=>if g then ((nthL j a).bind λh=>(appS 16 b ([h.f1]:LL)).bind λc=>ih (fW .i64 (a+1)) c) else (some (b,a))
def qPa (k:Nat)  (a:LN) (b:List S38) (c:Int) (n:Nat):Int→LL→Option Ri12:=lp (λ_ _=>none) (qJh k a b c) n
theorem qP9 (k:Nat) (o:LN) (j:List S38) (D:Int) (q:Int)    : ∀ (n:Nat) (g:Int) (c:LL),Ok (Xi12 o j D q) i12p2 [(0,.ptr 0 4 0),(3,.own 1 (c).length 1)] (mkH [⟨[.str o,w39 j,.i g,.i q],4,false⟩,⟨(c).flatMap e9,0,false⟩]) (qPa k o j q n g c):=by
 intro n
 induction n with
 | zero=>intro g c; exact ok_none
 | succ n ih =>
  intro g c
  show Ok _ _ _ _ (qJh k o j q (qPa k o j q n) g c)
  unfold qJh
  refine qAk (p':=nav [0] i12p2) Kr ?_
  let l:Blk:=⟨[.str o,w39 j,.i g,.i q],4,false⟩
  let u:Blk:=⟨(c).flatMap e9,0,false⟩
  refine oH 4 (atN 1 (ctl1 i12p3)) [(4,.ptr 0 4 0),(0,.ptr 0 4 0),(3,.own 1 (c).length 1)] (mkH [l,u]) ?_
  refine oN (λ(h:Bool) => .bool h) (λh=>[l,u]) (atN 2 (ctl1 i12p3)) 5 [0] [] [] [.ptr 0 4 0] (qP3 k o j g q) trivial (λ_=>trivial) λh B=>?_
  refine oR 1 i12p4 [(5,.bool h),(4,.ptr 0 4 0),(0,.ptr 0 4 0),(3,.own 1 (c).length 1)] ?_
  refine oS 5 (λE=>?_) (λE=>?_)
  ·refine oR 4 i12p5 [(5,.bool true),(5,.bool h),(4,.ptr 0 4 0),(0,.ptr 0 4 0),(3,.own 1 (c).length 1)] ?_
   refine qA7 (λa r=>?_)
   refine qA7 (λb m=>?_)
   let A:Env:=[(14,.i g),(13,.ptr 0 4 2),(12,.ptr 0 4 0),(11,.ptr 0 4 0),(10,w39 j),(9,.ptr 0 4 1),(8,.ptr 0 4 0),(7,.ptr 0 4 0),(6,.own 1 (c).length 1),(5,.bool true),(5,.bool h),(4,.ptr 0 4 0),(0,.ptr 0 4 0),(3,.own 1 (c).length 1)]
   let C:Env:=((19,.own 1 (b).length 1)::(18,w9 ([a.f1]:LL))::(17,.str a.f1)::(16,.vptr [.str a.f1,.i a.f2])::(15,.vptr [.i a.f0,.str a.f1,.i a.f2])::A)
   refine oD (H':=(mkH [l,⟨(b).flatMap e9,0,false⟩])) (nav [0] i12p5) ((3,.own 1 (b).length 1)::C) [(mkH [l,⟨(b).flatMap e9,0,false⟩])] i12d0 (oDr 9 9 A (qAa (l':=(opsAt i12p5).toList.drop 10) (eE:=((15,.vptr [.i a.f0,.str a.f1,.i a.f2])::A)) (hs:=[]) (x:=a) (λ(a:S38)=>(.vptr [.i a.f0,.str a.f1,.i a.f2],(mkH [l,u]))) (vidxH (sz:=3) qAn Kr) r Kr (oDr 3 13 ((18,w9 ([a.f1]:LL))::(17,.str a.f1)::(16,.vptr [.str a.f1,.i a.f2])::(15,.vptr [.i a.f0,.str a.f1,.i a.f2])::A) (qAa (l':=(opsAt i12p5).toList.drop 14) (eE:=C) (hs:=[(mkH [l,⟨(b).flatMap e9,0,false⟩])]) (x:=b) (λ(b:LL)=>(.own 1 (b).length 1,(mkH [l,⟨(b).flatMap e9,0,false⟩]))) (appHV (sz:=1) qE7 rfl e9_one [l,u] 1 16 c ([a.f1]:LL) rfl rfl Kr) m Kr (oDr 1 15 ((3,.own 1 (b).length 1)::C) .nil))))) ?_
   refine oLH 10 i12p2 [(0,.ptr 0 4 0),(3,.own 1 (b).length 1)] (mkH [⟨[.str o,w39 j,.i (fW .i64 (g+1)),.i q],4,false⟩,⟨(b).flatMap e9,0,false⟩]) ?_
   exact ih (fW .i64 (g+1)) b
  ·exact oQF 8 [l,u] 1 [] [.own 1 (c).length 1] (w9 c) (qAw qE7 e9_pur rfl rfl rfl .ps) trivial
def i12 (k:Nat) (a:LN) (b:List S38) (c:Int) (g:Int):Option Ri12 :=
 qPa k a b g k c ([]:LL)
theorem i12_all (k:Nat):∀ b c a g r,i12 k b c a g=some r→CallT Try.prog 62 [.ptr 0 4 0] (mkH [⟨[.str b,w39 c,.i a,.i g],4,false⟩]) ((Xi12 b c a g).thr r) ((Xi12 b c a g).enc r) ((Xi12 b c a g).fin r):=by
 intro b c a g r h
 refine qA1 (Xi12 b c a g) Try.func62 Kr Kr rfl (t:=i12 k b c a g) ?_ h
 unfold i12
 refine qA (eE:=[(0,.ptr 0 4 0)]) Kr ?_
 let j:Blk:=⟨[.str b,w39 c,.i a,.i g],4,false⟩
 refine oH 7 (atN 1 (ctl1 i12p1)) [(3,.nils),(2,.nils),(0,.ptr 0 4 0)] (mkH [j]) ?_
 refine qE4 [j] 3 1 rfl Kr ?_
 refine oLH 4 i12p2 [(0,.ptr 0 4 0),(3,.own 1 (([]:LL)).length 1)] (mkH [j,⟨(([]:LL)).flatMap e9,0,false⟩]) ?_
 exact (qP9 k b c a g k) a ([]:LL)
theorem qAp (k:Nat):Pi12 (i12 k):=λa b c g=>λx h=>i12_all k a b c g x h
abbrev Ti14:Type:=LN→LN→(List S38)→Int→Int→Option (Option Int)
def Xi14 (h:LN) (a:LN) (b:List S38) (g:Int) (c:Int):Fx (Option Int):=⟨Try.prog,cx,Try.f55,λr=>match r with | some r => .tuple [] | none => .top,1,λr=>match r with | some r=>(mkH [⟨[.str a,w39 b,.i r,.i c],4,false⟩]) | none=>(mkH [⟨[.str a,w39 b,.i g,.i c],4,false⟩]),cxTi,cxOrd,λr=>match r with | some _=>none | none=>some (thrown,[0]),false⟩
def Pi14 (f:Ti14):Prop := ∀ a b c g h,PQh (Xi14 a b c g h) 55 [.ptr 0 4 0,.str a] (f a b c g h)
def i14p0:Pt:=nav [] (bodyAt Try.f55)
def i14 (k:Nat) (c:LN) (g:LN) (h:List S38) (j:Int) (l:Int):Option (Option Int) :=
 bT (i11 k c g h j l) λa=>bT (i21 k a.1) λb=>some (some a.2)
theorem qP6 (k:Nat):∀ b c g l j r,i14 k b c g l j=some r→CallT Try.prog 55 [.ptr 0 4 0,.str b] (mkH [⟨[.str c,w39 g,.i l,.i j],4,false⟩]) ((Xi14 b c g l j).thr r) ((Xi14 b c g l j).enc r) ((Xi14 b c g l j).fin r):=by
 intro b c g l j r h
 refine qA1 (Xi14 b c g l j) Try.func55 Kr Kr rfl (t:=i14 k b c g l j) ?_ h
 unfold i14
 refine qA (eE:=[(0,.ptr 0 4 0),(1,.str b)]) Kr ?_
 refine oH 3 (atN 2 (ctl1 i14p0)) [(5,.str b),(4,.ptr 0 4 0),(0,.ptr 0 4 0),(1,.str b)] (mkH [⟨[.str c,w39 g,.i l,.i j],4,false⟩]) ?_
 refine oX (λ(a:(Bool×Int)) => .bool a.1) (λa=>[⟨[.str c,w39 g,.i a.2,.i j],4,false⟩]) (atN 3 (ctl1 i14p0)) 6 [0] [] [] [] [] [.ptr 0 4 0,.str b] (qAb k b c g l j) trivial (λ_=>trivial) trivial λa n=>?_
 let q:Blk:=⟨[.str c,w39 g,.i a.2,.i j],4,false⟩
 refine oX (λ(m:Unit) => .tuple []) (λm=>[q]) (atN 4 (ctl1 i14p0)) 7 [] [] [] [] [] [.bool a.1] (qD5 k a.1) trivial (λ_=>trivial) trivial λm o=>?_
 exact oQF 1 [q] 1 [] [] (.tuple []) .ps trivial
theorem qB2 (k:Nat):Pi14 (i14 k):=λa b c g j=>⟨λx h=>qP6 k a b c g j (some x) h,λh=>⟨_,qP6 k a b c g j none h⟩⟩
def Xg80:Fx Int:=⟨Try.prog,cx,Try.f80,λr => .i r,0,λ_=>H0,cxTi,cxOrd,λ_=>none,false⟩
def g80p2:Pt:=nav [0,0,0,0] (nav [0,0,0,0] (nav [0] (bodyAt Try.f80)))
def g80p4:Pt:=nav [0,0,0] (nav [0,0] g80p2)
def g80p7:Pt:=nav [0,0,0] (nav [1,0,0,0,0] g80p4)
def qJi (k:Nat)  (c:List Int) (g:Int) (ih:Int→Option Int):Int→Option Int :=
 λ(a:Int)=>if (decide (a < (c.length:Int))) then ((nthL c a).bind λb=>if (decide (g=b)) then (some a) else (ih (fW .i64 (a+1)))) else (some ((-1):Int))
def qPe (k:Nat)  (a:List Int) (b:Int) (n:Nat):Int→Option Int:=lp (λ_=>none) (qJi k a b) n
theorem qPd (k:Nat)   (c:List Int) (g:Int)  : ∀ (n:Nat) (a:Int),Ok Xg80 g80p2 [(0,w3 c),(1,.i g),(7,.i (c.length:Int)),(8,.i a)] (mkH []) (qPe k c g n a):=by
 intro n
 induction n with
 | zero=>intro a; exact ok_none
 | succ n ih =>
  intro a
  show Ok _ _ _ _ (qJi k c g (qPe k c g n) a)
  unfold qJi
  refine qAk (p':=nav [0] g80p2) Kr ?_
  let l:Env:=[(9,.bool (decide (a < (c.length:Int)))),(0,w3 c),(1,.i g),(7,.i (c.length:Int)),(8,.i a)]
  refine oH 5 g80p4 l (mkH []) ?_
  refine oS 9 (λh=>?_) (λh=>?_)
  ·let m:Env:=((13,.i a)::(12,w3 c)::(11,.i g)::(5,.i a)::(10,.i a)::(9,.bool true)::l)
   refine oR 14 (atN 3 (ctl1 g80p7)) m ?_
   refine oC (λ(b:Int)=>(.vptr [.i b],(mkH []))) (atN 4 (ctl1 g80p7)) 14 (vidxH (sz:=1) e3_len Kr) λb j=>?_
   refine oH 3 (nav [0,0] g80p7) ((16,.bool (decide (g=b)))::(15,.i b)::(14,.vptr [.i b])::m) (mkH []) ?_
   refine oK [0,1,5,7,8,16] [(0,w3 c),(1,.i g),(5,.i a),(7,.i (c.length:Int)),(8,.i a),(16,.bool (decide (g=b)))] ?_
   refine oS 16 (λh=>?_) (λh=>?_)
   ·exact oQ 7
   ·refine oL 6 g80p2 [(0,w3 c),(1,.i g),(7,.i (c.length:Int)),(8,.i (fW .i64 (a+1)))] ?_
    exact ih (fW .i64 (a+1))
  ·exact oQ 7
def g80 (k:Nat) (a:List Int) (b:Int):Option Int :=
 qPe k a b k 0
theorem g80_ok (k:Nat) (a:List Int) (b:Int) (r:Int) (h:g80 k a b=some r):PureOk Try.prog 80 [w3 a,.i b] (.i r):=by
 refine qA6 Xg80 (λ_=>⟨rfl,rfl⟩) Try.func80 (by decide +kernel) Kr (t:=g80 k a b) ?_ h
 unfold g80
 refine qA (eE:=[(0,w3 a),(1,.i b)]) Kr ?_
 refine oLH 13 g80p2 [(0,w3 a),(1,.i b),(7,.i (a.length:Int)),(8,.i 0)] (mkH []) ?_
 exact (qPd k a b k) 0
def Xg67:Fx Bool:=⟨Try.prog,cx,Try.f67,λr => .bool r,0,λ_=>H0,cxTi,cxOrd,λ_=>none,false⟩
def g67p1:Pt:=nav [0,0,0] (nav [0] (bodyAt Try.f67))
def g67 (k:Nat) (b:List Int) (c:Int):Option Bool :=
 (g80 k b c).bind λa=>some (decide (0≤a))
theorem g67_ok (k:Nat) (a:List Int) (b:Int) (r:Bool) (h:g67 k a b=some r):PureOk Try.prog 67 [w3 a,.i b] (.bool r):=by
 refine qA6 Xg67 (λ_=>⟨rfl,rfl⟩) Try.func67 (by decide +kernel) Kr (t:=g67 k a b) ?_ h
 unfold g67
 refine qA (eE:=[(0,w3 a),(1,.i b)]) Kr ?_
 refine oH 8 (atN 2 (ctl1 g67p1)) [(6,.i b),(5,w3 a),(4,.bool false),(0,w3 a),(1,.i b)] (mkH []) ?_
 refine oA (λ(c:Int) => .i c) (atN 3 (ctl1 g67p1)) 7 [w3 a,.i b] (g80_ok k a b) λc g=>?_
 exact oQ 4
abbrev Ri18:Type:=(LN×Int)
abbrev Ti18:Type:=(List Int)→LN→(List S38)→Int→Int→Option (Option Ri18)
def Xi18 (h:List Int) (a:LN) (b:List S38) (g:Int) (c:Int):Fx (Option Ri18):=⟨Try.prog,cx,Try.f51,λr=>match r with | some r => .str r.1 | none => .top,1,λr=>match r with | some r=>(mkH [⟨[.str a,w39 b,.i r.2,.i c],4,false⟩]) | none=>(mkH [⟨[.str a,w39 b,.i g,.i c],4,false⟩]),cxTi,cxOrd,λr=>match r with | some _=>none | none=>some (thrown,[]),false⟩
def Pi18 (f:Ti18):Prop := ∀ a b c g h,PQh (Xi18 a b c g h) 51 [.ptr 0 4 0,w3 a] (f a b c g h)
def i18p1:Pt:=nav [0,0,0] (nav [0] (bodyAt Try.f51))
def i18p2:Pt:=nav [0,0,0] i18p1
def i18p3:Pt:=nav [0,0,0] i18p2
def i18 (k:Nat) (n:List Int) (g:LN) (h:List S38) (j:Int) (l:Int):Option (Option Ri18) :=
 (i13 k g h j l).bind λa=>(g67 k n a.f0).bind λb=>bT (i21 k b) λm=>bT (i17 k g h j l) λc=>some (some (a.f1,c))
theorem qP4 (k:Nat):∀ b j l n m r,i18 k b j l n m=some r→CallT Try.prog 51 [.ptr 0 4 0,w3 b] (mkH [⟨[.str j,w39 l,.i n,.i m],4,false⟩]) ((Xi18 b j l n m).thr r) ((Xi18 b j l n m).enc r) ((Xi18 b j l n m).fin r):=by
 intro b j l n m r h
 refine qA1 (Xi18 b j l n m) Try.func51 Kr Kr rfl (t:=i18 k b j l n m) ?_ h
 unfold i18
 refine qA (eE:=[(0,.ptr 0 4 0),(1,w3 b)]) Kr ?_
 let q:Blk:=⟨[.str j,w39 l,.i n,.i m],4,false⟩
 refine oH 7 (atN 1 (ctl1 i18p1)) [(6,.ptr 0 4 0),(4,.str []),(0,.ptr 0 4 0),(1,w3 b)] (mkH [q]) ?_
 refine oN (λ(a:S38)=>n39 a) (λa=>[q]) (atN 2 (ctl1 i18p1)) 7 [0] [] [] [.ptr 0 4 0] (qG2 k j l n m) trivial (λ_=>trivial) λa u=>?_
 refine oH 8 (atN 3 (ctl1 i18p2)) [(10,.i a.f0),(9,.ptr 1 3 0),(8,w3 b),(5,.ptr 1 3 0),(7,n39 a),(6,.ptr 0 4 0),(4,.str []),(0,.ptr 0 4 0),(1,w3 b)] (mkH [q,⟨e39 a,3,false⟩]) ?_
 refine oA (λ(c:Bool) => .bool c) (atN 4 (ctl1 i18p2)) 11 [w3 b,.i a.f0] (g67_ok k b a.f0) λc x=>?_
 refine oX (λ(o:Unit) => .tuple []) (λo=>[q,⟨e39 a,3,false⟩]) (atN 5 (ctl1 i18p2)) 12 [] [] [] [] [] [.bool c] (qD5 k c) trivial (λ_=>trivial) trivial λo A=>?_
 refine oL 2 i18p3 [(0,.ptr 0 4 0),(5,.ptr 1 3 0)] ?_
 refine oR 2 (atN 1 (ctl1 i18p3)) ((13,.ptr 0 4 0)::[(0,.ptr 0 4 0),(5,.ptr 1 3 0)]) ?_
 refine oX (λ(g:Int) => .tuple []) (λg=>[⟨[.str j,w39 l,.i g,.i m],4,false⟩,⟨e39 a,3,false⟩]) (atN 2 (ctl1 i18p3)) 14 [0] [] [] [] [] [.ptr 0 4 0] (qG1 k j l n m) trivial (λ_=>trivial) trivial λg B=>?_
 exact oQF 8 [⟨[.str j,w39 l,.i g,.i m],4,false⟩,⟨e39 a,3,false⟩] 1 [] [.str a.f1] (.str a.f1) .ps trivial
theorem qD6 (k:Nat):Pi18 (i18 k):=λa b c g j=>⟨λx h=>qP4 k a b c g j (some x) h,λh=>⟨_,qP4 k a b c g j none h⟩⟩
def Xg71:Fx Bool:=⟨Try.prog,cx,Try.f71,λr => .bool r,0,λ_=>H0,cxTi,cxOrd,λ_=>none,false⟩
def g71p1:Pt:=nav [0,0,0] (nav [0] (bodyAt Try.f71))
def g71 (k:Nat) (b:LN) (c:List S38) (g:Int):Option Bool :=
 (g35 k b c g).bind λa=>some (decide (0 < a))
theorem g71_ok (k:Nat) (a:LN) (b:List S38) (c:Int) (r:Bool) (h:g71 k a b c=some r):PureOk Try.prog 71 [.str a,w39 b,.i c] (.bool r):=by
 refine qA6 Xg71 (λ_=>⟨rfl,rfl⟩) Try.func71 (by decide +kernel) Kr (t:=g71 k a b c) ?_ h
 unfold g71
 refine qA (eE:=[(0,.str a),(1,w39 b),(2,.i c)]) Kr ?_
 refine oH 9 (atN 3 (ctl1 g71p1)) [(9,.i c),(8,w39 b),(7,.str a),(6,.bool false),(0,.str a),(1,w39 b),(2,.i c)] (mkH []) ?_
 refine oA (λ(g:Int) => .i g) (atN 4 (ctl1 g71p1)) 10 [.str a,w39 b,.i c] (g35_ok k a b c) λg j=>?_
 exact oQ 4
abbrev Ti22:Type:=LN→(List S38)→Int→Int→Option Bool
def Xi22 (a:LN) (b:List S38) (c:Int) (g:Int):Fx Bool:=⟨Try.prog,cx,Try.f56,λr => .bool r,1,λr=>(mkH [⟨[.str a,w39 b,.i c,.i g],4,false⟩]),cxTi,cxOrd,λ_=>none,false⟩
def Pi22 (f:Ti22):Prop := ∀ a b c g,PNh (Xi22 a b c g) 56 [.ptr 0 4 0] (mkH [⟨[.str a,w39 b,.i c,.i g],4,false⟩]) (f a b c g)
def i22p1:Pt:=nav [0,0,0] (nav [0] (bodyAt Try.f56))
def i22d0:DP:=⟨[],[(0,0,0),(1,0,0),(3,0,0),(7,0,0),(0,0,0),(16,0,0),(48,0,0),(112,0,0),(0,0,0),(256,0,0),(768,0,0),(1792,0,0),(4095,0,0),(8191,0,0)],14,thrown,[],H0⟩
def i22 (k:Nat) (b:LN) (c:List S38) (g:Int) (h:Int):Option Bool :=
 (g71 k b c g).bind λa=>some a
theorem i22_all (k:Nat):∀ b c g j r,i22 k b c g j=some r→CallT Try.prog 56 [.ptr 0 4 0] (mkH [⟨[.str b,w39 c,.i g,.i j],4,false⟩]) ((Xi22 b c g j).thr r) ((Xi22 b c g j).enc r) ((Xi22 b c g j).fin r):=by
 intro b c g j r h
 refine qA1 (Xi22 b c g j) Try.func56 Kr Kr rfl (t:=i22 k b c g j) ?_ h
 unfold i22
 refine qA (eE:=[(0,.ptr 0 4 0)]) Kr ?_
 let m:Blk:=⟨[.str b,w39 c,.i g,.i j],4,false⟩
 refine oH 5 i22p1 [(2,.bool false),(0,.ptr 0 4 0)] (mkH [m]) ?_
 refine qA7 (λa l=>?_)
 let n:Env:=[(14,.i g),(13,.ptr 0 4 2),(12,.ptr 0 4 0),(11,.ptr 0 4 0),(10,w39 c),(9,.ptr 0 4 1),(8,.ptr 0 4 0),(7,.ptr 0 4 0),(6,.str b),(5,.ptr 0 4 0),(4,.ptr 0 4 0),(3,.ptr 0 4 0),(2,.bool false),(0,.ptr 0 4 0)]
 refine oD (H':=(mkH [m])) (nav [0] i22p1) ((2,.bool a)::(15,.bool a)::n) [(mkH [m])] i22d0 (oDr 12 12 n (qAs (l':=(opsAt i22p1).toList.drop 13) (eE:=((15,.bool a)::n)) (hs:=[(mkH [m])]) (fi:=71) (args:=[.str b,w39 c,.i g]) (v := .bool a) Kr Kr Kr (g71_ok k b c g a l) Kr (oDr 1 14 ((2,.bool a)::(15,.bool a)::n) .nil))) ?_
 exact oQF 1 [m] 1 [] [.bool a] (.bool a) .ps trivial
theorem qG0 (k:Nat):Pi22 (i22 k):=λa b c g=>λx h=>i22_all k a b c g x h
abbrev Ri33:Type:=(LN×Int)
abbrev Ti33:Type:=LN→(List S38)→Int→Int→Option (Option Ri33)
def Xi33 (a:LN) (b:List S38) (g:Int) (c:Int):Fx (Option Ri33):=⟨Try.prog,cx,Try.f92,λr=>match r with | some r => .str r.1 | none => .top,1,λr=>match r with | some r=>(mkH [⟨[.str a,w39 b,.i r.2,.i c],4,false⟩]) | none=>(mkH [⟨[.str a,w39 b,.i g,.i c],4,false⟩]),cxTi,cxOrd,λr=>match r with | some _=>none | none=>some (thrown,[]),false⟩
def Pi33 (f:Ti33):Prop := ∀ a b c g,PQh (Xi33 a b c g) 92 [.ptr 0 4 0] (f a b c g)
def i33c0:List Int:=[(1:Int),(2:Int),(7:Int)]
def i33p1:Pt:=nav [0,0,0] (nav [0] (bodyAt Try.f92))
def i33 (k:Nat) (b:LN) (c:List S38) (g:Int) (h:Int):Option (Option Ri33) :=
 bT (i18 k i33c0 b c g h) λa=>some (some (a.1,a.2))
theorem qOz (k:Nat):∀ b c j g r,i33 k b c j g=some r→CallT Try.prog 92 [.ptr 0 4 0] (mkH [⟨[.str b,w39 c,.i j,.i g],4,false⟩]) ((Xi33 b c j g).thr r) ((Xi33 b c j g).enc r) ((Xi33 b c j g).fin r):=by
 intro b c j g r h
 refine qA1 (Xi33 b c j g) Try.func92 Kr Kr rfl (t:=i33 k b c j g) ?_ h
 unfold i33
 refine qA (eE:=[(0,.ptr 0 4 0)]) Kr ?_
 let m:Blk:=⟨[.str b,w39 c,.i j,.i g],4,false⟩
 refine oH 8 (atN 2 (ctl1 i33p1)) [(4,.slice 1 3 0 3 1),(3,.ptr 0 4 0),(2,.str []),(0,.ptr 0 4 0)] (mkH [m,⟨[.i 1,.i 2,.i 7],0,false⟩]) ?_
 refine oZ 4 1 3 1 [.i 1,.i 2,.i 7] [0,2,3] [] trivial ?_
 refine oE [(4,w3 i33c0),(0,.ptr 0 4 0),(2,.str []),(3,.ptr 0 4 0)] ?_
 refine oHp (mkH [m,⟨[],0,false⟩]) ?_
 refine oX (λ(a:Ri18) => .str a.1) (λa=>[⟨[.str b,w39 c,.i a.2,.i g],4,false⟩,⟨[],0,false⟩]) (atN 3 (ctl1 i33p1)) 5 [0] [] [] [] [] [.ptr 0 4 0,w3 i33c0] (qD6 k i33c0 b c j g) trivial (λ_=>trivial) trivial λa l=>?_
 exact oQF 3 [⟨[.str b,w39 c,.i a.2,.i g],4,false⟩,⟨[],0,false⟩] 1 [] [.str a.1] (.str a.1) .ps trivial
theorem qI2 (k:Nat):Pi33 (i33 k):=λa b c g=>⟨λx h=>qOz k a b c g (some x) h,λh=>⟨_,qOz k a b c g none h⟩⟩
abbrev Ri48:Type:=(LN×Int)
abbrev Ti48:Type:=LN→(List S38)→Int→Int→Option (Option Ri48)
def Xi48 (a:LN) (b:List S38) (g:Int) (c:Int):Fx (Option Ri48):=⟨Try.prog,cx,Try.f98,λr=>match r with | some r => .str r.1 | none => .top,1,λr=>match r with | some r=>(mkH [⟨[.str a,w39 b,.i r.2,.i c],4,false⟩]) | none=>(mkH [⟨[.str a,w39 b,.i g,.i c],4,false⟩]),cxTi,cxOrd,λr=>match r with | some _=>none | none=>some (thrown,[]),false⟩
def Pi48 (f:Ti48):Prop := ∀ a b c g,PQh (Xi48 a b c g) 98 [.ptr 0 4 0] (f a b c g)
def i48c0:List Int:=[(3:Int),(2:Int),(7:Int)]
def i48p1:Pt:=nav [0,0,0] (nav [0] (bodyAt Try.f98))
def i48 (k:Nat) (b:LN) (c:List S38) (g:Int) (h:Int):Option (Option Ri48) :=
 bT (i18 k i48c0 b c g h) λa=>some (some (a.1,a.2))
theorem qOl (k:Nat):∀ b c j g r,i48 k b c j g=some r→CallT Try.prog 98 [.ptr 0 4 0] (mkH [⟨[.str b,w39 c,.i j,.i g],4,false⟩]) ((Xi48 b c j g).thr r) ((Xi48 b c j g).enc r) ((Xi48 b c j g).fin r):=by
 intro b c j g r h
 refine qA1 (Xi48 b c j g) Try.func98 Kr Kr rfl (t:=i48 k b c j g) ?_ h
 unfold i48
 refine qA (eE:=[(0,.ptr 0 4 0)]) Kr ?_
 let m:Blk:=⟨[.str b,w39 c,.i j,.i g],4,false⟩
 refine oH 8 (atN 2 (ctl1 i48p1)) [(4,.slice 1 3 0 3 1),(3,.ptr 0 4 0),(2,.str []),(0,.ptr 0 4 0)] (mkH [m,⟨[.i 3,.i 2,.i 7],0,false⟩]) ?_
 refine oZ 4 1 3 1 [.i 3,.i 2,.i 7] [0,2,3] [] trivial ?_
 refine oE [(4,w3 i48c0),(0,.ptr 0 4 0),(2,.str []),(3,.ptr 0 4 0)] ?_
 refine oHp (mkH [m,⟨[],0,false⟩]) ?_
 refine oX (λ(a:Ri18) => .str a.1) (λa=>[⟨[.str b,w39 c,.i a.2,.i g],4,false⟩,⟨[],0,false⟩]) (atN 3 (ctl1 i48p1)) 5 [0] [] [] [] [] [.ptr 0 4 0,w3 i48c0] (qD6 k i48c0 b c j g) trivial (λ_=>trivial) trivial λa l=>?_
 exact oQF 3 [⟨[.str b,w39 c,.i a.2,.i g],4,false⟩,⟨[],0,false⟩] 1 [] [.str a.1] (.str a.1) .ps trivial
theorem i48_ok (k:Nat):Pi48 (i48 k):=λa b c g=>⟨λx h=>qOl k a b c g (some x) h,λh=>⟨_,qOl k a b c g none h⟩⟩
abbrev Ti43:Type:=LN→(List S38)→Int→Int→Option (Option (S31×Int))
def Xi43 (a:LN) (b:List S38) (g:Int) (c:Int):Fx (Option (S31×Int)):=⟨Try.prog,cx,Try.f100,λr=>match r with | some r=>n32 r.1 | none => .top,1,λr=>match r with | some r=>(mkH [⟨[.str a,w39 b,.i r.2,.i c],4,false⟩]) | none=>(mkH [⟨[.str a,w39 b,.i g,.i c],4,false⟩]),cxTi,cxOrd,λr=>match r with | some _=>none | none=>some (thrown,[0]),false⟩
def Pi43 (f:Ti43):Prop := ∀ a b c g,PQh (Xi43 a b c g) 100 [.ptr 0 4 0] (f a b c g)
def i43p1:Pt:=nav [0,0,0] (nav [0] (bodyAt Try.f100))
def i43p2:Pt:=nav [0,0,0,0] i43p1
def i43p3:Pt:=nav [0,0] i43p2
def i43p4:Pt:=nav [1] i43p3
def i43p5:Pt:=nav [2,0,0] i43p3
def i43p6:Pt:=nav [0,0,0] i43p5
def i43 (k:Nat) (h:LN) (j:List S38) (A:Int) (l:Int):Option (Option (S31×Int)) :=
 bT (i33 k h j A l) λa=>bT (i11 k ([58]:LN) h j a.2 l) λb=>jn (λ(u:LN×Int)=>bT (i14 k ([47]:LN) h j u.2 l) λm=>(catS u.1 ([47]:LN)).bind λn=>bT (i48 k h j m l) λc=>(catS n c.1).bind λo=>some (some ((⟨(16:Int),o,⟨0,[]⟩,false,false,([]:LL),([]:LL)⟩:S31),c.2))) (λx=>if b.1 then ((catS a.1 ([58]:LN)).bind λq=>bT (i33 k h j b.2 l) λg=>(catS q g.1).bind λr=>x (r,g.2)) else (x (a.1,b.2)))
theorem qOo (k:Nat):∀ c g B j r,i43 k c g B j=some r→CallT Try.prog 100 [.ptr 0 4 0] (mkH [⟨[.str c,w39 g,.i B,.i j],4,false⟩]) ((Xi43 c g B j).thr r) ((Xi43 c g B j).enc r) ((Xi43 c g B j).fin r):=by
 intro c g B j r h
 refine qA1 (Xi43 c g B j) Try.func100 Kr Kr rfl (t:=i43 k c g B j) ?_ h
 unfold i43
 refine qA (eE:=[(0,.ptr 0 4 0)]) Kr ?_
 let m:Blk:=⟨[.i 0,.str [],.nils,.bool false,.bool false,.nils,.nils],0,false⟩
 refine oH 7 (atN 1 (ctl1 i43p1)) [(4,.ptr 0 4 0),(2,.ptr 1 7 0),(0,.ptr 0 4 0)] (mkH [⟨[.str c,w39 g,.i B,.i j],4,false⟩,m]) ?_
 refine oX (λ(a:Ri33) => .str a.1) (λa=>[⟨[.str c,w39 g,.i a.2,.i j],4,false⟩,m]) (atN 2 (ctl1 i43p1)) 5 [0] [] [] [] [] [.ptr 0 4 0] (qI2 k c g B j) trivial (λ_=>trivial) trivial λa F=>?_
 let E:Env:=[(6,.ptr 0 4 0),(3,.str a.1),(5,.str a.1),(4,.ptr 0 4 0),(2,.ptr 1 7 0),(0,.ptr 0 4 0)]
 refine oR 6 (atN 1 (ctl1 i43p2)) E ?_
 refine oX (λ(b:(Bool×Int)) => .bool b.1) (λb=>[⟨[.str c,w39 g,.i b.2,.i j],4,false⟩,m]) (atN 2 (ctl1 i43p2)) 7 [0] [] [] [] [] [.ptr 0 4 0,.str [58]] (qAb k ([58]:LN) c g a.2 j) trivial (λ_=>trivial) trivial λb G=>?_
 refine oR 1 i43p3 ((7,.bool b.1)::E) ?_
 refine oJ i43p5 (λ(C:LN×Int)=>[(0,.ptr 0 4 0),(2,.ptr 1 7 0),(3,.str C.1)]) (λ(C:LN×Int)=>(mkH [⟨[.str c,w39 g,.i C.2,.i j],4,false⟩,m])) (λC=>?_) (λj5 D=>?_)
 ·refine oH 2 (atN 1 (ctl1 i43p5)) [(13,.ptr 0 4 0),(0,.ptr 0 4 0),(2,.ptr 1 7 0),(3,.str C.1)] (mkH [⟨[.str c,w39 g,.i C.2,.i j],4,false⟩,m]) ?_
  refine oX (λ(n:Int) => .tuple []) (λn=>[⟨[.str c,w39 g,.i n,.i j],4,false⟩,m]) (atN 2 (ctl1 i43p5)) 14 [0] [] [] [0] [] [.ptr 0 4 0,.str [47]] (qB2 k ([47]:LN) c g C.2 j) trivial (λ_=>trivial) trivial λn J=>?_
  let U:Env:=[(15,.str C.1),(14,.tuple []),(13,.ptr 0 4 0),(0,.ptr 0 4 0),(2,.ptr 1 7 0),(3,.str C.1)]
  refine oR 4 (atN 1 (ctl1 i43p6)) U ?_
  let V:Blk:=⟨[.str c,w39 g,.i n,.i j],4,false⟩
  refine oC (λ(x:LN)=>(.str x,(mkH [V,m]))) (atN 2 (ctl1 i43p6)) 16 (catH Kr) λx K=>?_
  refine oH 1 (atN 3 (ctl1 i43p6)) ((17,.ptr 0 4 0)::(16,.str x)::U) (mkH [V,m]) ?_
  refine oX (λ(o:Ri48) => .str o.1) (λo=>[⟨[.str c,w39 g,.i o.2,.i j],4,false⟩,m]) (atN 4 (ctl1 i43p6)) 18 [0] [] [] [] [] [.ptr 0 4 0] (i48_ok k c g n j) trivial (λ_=>trivial) trivial λo L=>?_
  let W:Blk:=⟨[.str c,w39 g,.i o.2,.i j],4,false⟩
  refine oC (λ(q:LN)=>(.str q,(mkH [W,m]))) (atN 5 (ctl1 i43p6)) 19 (catH Kr) λq M=>?_
  exact oQF 4 [W,⟨[.i 16,.str q,.nils,.bool false,.bool false,.nils,.nils],7,false⟩] 1 [] [.agg [.i 16,.str q,.nils,.bool false,.bool false,.nils,.nils]] (.agg [.i 16,.str q,.vec 0 7 [],.bool false,.bool false,.vec 0 1 [],.vec 0 1 []]) (.agg (.cs (.cs (.nil (.cs (.cs (.nil (.nil .ps))))))) .ps) trivial
 ·refine oS 7 (λZ=>?_) (λZ=>?_)
  ·let N:Blk:=⟨[.str c,w39 g,.i b.2,.i j],4,false⟩
   refine oH 3 (atN 1 (ctl1 i43p4)) ((8,.str a.1)::(7,.bool true)::(7,.bool b.1)::E) (mkH [N,m]) ?_
   refine oC (λ(A:LN)=>(.str A,(mkH [N,m]))) (atN 2 (ctl1 i43p4)) 9 (catH Kr) λA O=>?_
   refine oH 1 (atN 3 (ctl1 i43p4)) ((10,.ptr 0 4 0)::(9,.str A)::(8,.str a.1)::(7,.bool true)::(7,.bool b.1)::E) (mkH [N,m]) ?_
   refine oX (λ(l:Ri33) => .str l.1) (λl=>[⟨[.str c,w39 g,.i l.2,.i j],4,false⟩,m]) (atN 4 (ctl1 i43p4)) 11 [0] [] [] [] [] [.ptr 0 4 0] (qI2 k c g b.2 j) trivial (λ_=>trivial) trivial λl S=>?_
   let Y:Blk:=⟨[.str c,w39 g,.i l.2,.i j],4,false⟩
   refine oC (λ(u:LN)=>(.str u,(mkH [Y,m]))) (atN 5 (ctl1 i43p4)) 12 (catH Kr) λu T=>?_
   refine oLH 3 i43p5 [(0,.ptr 0 4 0),(2,.ptr 1 7 0),(3,.str u)] (mkH [Y,m]) ?_
   exact D (u,l.2)
  ·refine oLH 3 i43p5 [(0,.ptr 0 4 0),(2,.ptr 1 7 0),(3,.str a.1)] (mkH [⟨[.str c,w39 g,.i b.2,.i j],4,false⟩,m]) ?_
   exact D (a.1,b.2)
theorem i43_ok (k:Nat):Pi43 (i43 k):=λa b c g=>⟨λx h=>qOo k a b c g (some x) h,λh=>⟨_,qOo k a b c g none h⟩⟩
abbrev Ti8:Type:=LN→(List S38)→Int→Int→Option (Option (S31×Int))
def Xi8 (a:LN) (b:List S38) (g:Int) (c:Int):Fx (Option (S31×Int)):=⟨Try.prog,cx,Try.f54,λr=>match r with | some r=>n32 r.1 | none => .top,1,λr=>match r with | some r=>(mkH [⟨[.str a,w39 b,.i r.2,.i c],4,false⟩]) | none=>(mkH [⟨[.str a,w39 b,.i g,.i c],4,false⟩]),cxTi,cxOrd,λr=>match r with | some _=>none | none=>some (thrown,[0]),false⟩
def Pi8 (f:Ti8):Prop := ∀ a b c g,PQh (Xi8 a b c g) 54 [.ptr 0 4 0] (f a b c g)
abbrev Ti9:Type:=Int→LN→(List S38)→Int→Int→Option (Option (S31×Int))
def Xi9 (h:Int) (a:LN) (b:List S38) (g:Int) (c:Int):Fx (Option (S31×Int)):=⟨Try.prog,cx,Try.f57,λr=>match r with | some r=>n32 r.1 | none => .top,1,λr=>match r with | some r=>(mkH [⟨[.str a,w39 b,.i r.2,.i c],4,false⟩]) | none=>(mkH [⟨[.str a,w39 b,.i g,.i c],4,false⟩]),cxTi,cxOrd,λr=>match r with | some _=>none | none=>some (thrown,[0]),false⟩
def Pi9 (f:Ti9):Prop := ∀ a b c g h,PQh (Xi9 a b c g h) 57 [.ptr 0 4 0,.i a] (f a b c g h)
abbrev Ri15:Type:=(Int×LN×Bool×Bool×LL×LL×Int×(List S31))
abbrev Ti15:Type:=Int→LN→Bool→Bool→LL→LL→LN→LN→(List S38)→Int→Int→(List S31)→Option (Option Ri15)
def Xi15 (j:Int) (k:LN) (l:Bool) (m:Bool) (n:LL) (o:LL) (q:LN) (b:LN) (c:List S38) (g:Int) (a:Int) (h:List S31):Fx (Option Ri15):=⟨Try.prog,cx,Try.f69,λr=>match r with | some r => .agg [.i r.1,.str r.2.1,.own 1 (r.2.2.2.2.2.2.2).length 7,.bool r.2.2.1,.bool r.2.2.2.1,w9 r.2.2.2.2.1,w9 r.2.2.2.2.2.1] | none => .top,2,λr=>match r with | some r=>(mkH [⟨[.str b,w39 c,.i r.2.2.2.2.2.2.1,.i a],4,false⟩,⟨(r.2.2.2.2.2.2.2).flatMap e32,0,false⟩]) | none=>(mkH [⟨[.str b,w39 c,.i g,.i a],4,false⟩,⟨(h).flatMap e32,0,false⟩]),cxTi,cxOrd,λr=>match r with | some _=>none | none=>some (thrown,[0,1]),false⟩
def Pi15 (f:Ti15):Prop := ∀ b c g h j k l n o q a m,PQh (Xi15 b c g h j k l n o q a m) 69 [.ptr 0 4 0,.agg [.i b,.str c,.own 1 (m).length 7,.bool g,.bool h,w9 j,w9 k],.str l,.func 70 [.ptr 0 4 0] []] (f b c g h j k l n o q a m)
abbrev Ri16:Type:=(S31×Int×Int)
abbrev Ti16:Type:=LN→(List S38)→Int→Int→Option (Option Ri16)
def Xi16 (a:LN) (b:List S38) (g:Int) (c:Int):Fx (Option Ri16):=⟨Try.prog,cx,Try.f72,λr=>match r with | some r => .tuple [n32 r.1,.i r.2.1] | none => .top,1,λr=>match r with | some r=>(mkH [⟨[.str a,w39 b,.i r.2.2,.i c],4,false⟩]) | none=>(mkH [⟨[.str a,w39 b,.i g,.i c],4,false⟩]),cxTi,cxOrd,λr=>match r with | some _=>none | none=>some (thrown,[0]),false⟩
def Pi16 (f:Ti16):Prop := ∀ a b c g,PQh (Xi16 a b c g) 72 [.ptr 0 4 0] (f a b c g)
abbrev Ti19:Type:=LN→LN→(List S38)→Int→Int→Option (Option (S31×Int))
def Xi19 (h:LN) (a:LN) (b:List S38) (g:Int) (c:Int):Fx (Option (S31×Int)):=⟨Try.prog,cx,Try.f50,λr=>match r with | some r=>n32 r.1 | none => .top,1,λr=>match r with | some r=>(mkH [⟨[.str a,w39 b,.i r.2,.i c],4,false⟩]) | none=>(mkH [⟨[.str a,w39 b,.i g,.i c],4,false⟩]),cxTi,cxOrd,λr=>match r with | some _=>none | none=>some (thrown,[0]),false⟩
def Pi19 (f:Ti19):Prop := ∀ a b c g h,PQh (Xi19 a b c g h) 50 [.ptr 0 4 0,.str a] (f a b c g h)
abbrev Ti23:Type:=LN→(List S38)→Int→Int→Option (Option (S31×Int))
def Xi23 (a:LN) (b:List S38) (g:Int) (c:Int):Fx (Option (S31×Int)):=⟨Try.prog,cx,Try.f70,λr=>match r with | some r=>n32 r.1 | none => .top,1,λr=>match r with | some r=>(mkH [⟨[.str a,w39 b,.i r.2,.i c],4,false⟩]) | none=>(mkH [⟨[.str a,w39 b,.i g,.i c],4,false⟩]),cxTi,cxOrd,λr=>match r with | some _=>none | none=>some (thrown,[0]),false⟩
def Pi23 (f:Ti23):Prop := ∀ a b c g,PQh (Xi23 a b c g) 70 [.ptr 0 4 0] (f a b c g)
abbrev Ri24:Type:=(S31×Bool×Int)
abbrev Ti24:Type:=LN→(List S38)→Int→Int→Option (Option Ri24)
def Xi24 (a:LN) (b:List S38) (g:Int) (c:Int):Fx (Option Ri24):=⟨Try.prog,cx,Try.f82,λr=>match r with | some r => .tuple [n32 r.1,.bool r.2.1] | none => .top,1,λr=>match r with | some r=>(mkH [⟨[.str a,w39 b,.i r.2.2,.i c],4,false⟩]) | none=>(mkH [⟨[.str a,w39 b,.i g,.i c],4,false⟩]),cxTi,cxOrd,λr=>match r with | some _=>none | none=>some (thrown,[0]),false⟩
def Pi24 (f:Ti24):Prop := ∀ a b c g,PQh (Xi24 a b c g) 82 [.ptr 0 4 0] (f a b c g)
abbrev Ti25:Type:=S31→Bool→LN→(List S38)→Int→Int→Option (Option (S31×Int))
def Xi25 (h:S31) (j:Bool) (a:LN) (b:List S38) (g:Int) (c:Int):Fx (Option (S31×Int)):=⟨Try.prog,cx,Try.f83,λr=>match r with | some r=>n32 r.1 | none => .top,1,λr=>match r with | some r=>(mkH [⟨[.str a,w39 b,.i r.2,.i c],4,false⟩]) | none=>(mkH [⟨[.str a,w39 b,.i g,.i c],4,false⟩]),cxTi,cxOrd,λr=>match r with | some _=>none | none=>some (thrown,[0]),false⟩
def Pi25 (f:Ti25):Prop := ∀ a b c g h j,PQh (Xi25 a b c g h j) 83 [.ptr 0 4 0,n32 a,.bool b] (f a b c g h j)
abbrev Ti26:Type:=LN→(List S38)→Int→Int→Option (Option (S31×Int))
def Xi26 (a:LN) (b:List S38) (g:Int) (c:Int):Fx (Option (S31×Int)):=⟨Try.prog,cx,Try.f64,λr=>match r with | some r=>n32 r.1 | none => .top,1,λr=>match r with | some r=>(mkH [⟨[.str a,w39 b,.i r.2,.i c],4,false⟩]) | none=>(mkH [⟨[.str a,w39 b,.i g,.i c],4,false⟩]),cxTi,cxOrd,λr=>match r with | some _=>none | none=>some (thrown,[0]),false⟩
def Pi26 (f:Ti26):Prop := ∀ a b c g,PQh (Xi26 a b c g) 64 [.ptr 0 4 0] (f a b c g)
abbrev Ti27:Type:=LN→S31→S31→LN→(List S38)→Int→Int→Option (Option (S31×Int))
def Xi27 (h:LN) (j:S31) (k:S31) (a:LN) (b:List S38) (g:Int) (c:Int):Fx (Option (S31×Int)):=⟨Try.prog,cx,Try.f63,λr=>match r with | some r=>n32 r.1 | none => .top,1,λr=>match r with | some r=>(mkH [⟨[.str a,w39 b,.i r.2,.i c],4,false⟩]) | none=>(mkH [⟨[.str a,w39 b,.i g,.i c],4,false⟩]),cxTi,cxOrd,λr=>match r with | some _=>none | none=>some (thrown,[0]),false⟩
def Pi27 (f:Ti27):Prop := ∀ a b c g h j k,PQh (Xi27 a b c g h j k) 63 [.ptr 0 4 0,.str a,n32 b,n32 c] (f a b c g h j k)
abbrev Ti29:Type:=LN→(List S38)→Int→Int→Option (Option (S31×Int))
def Xi29 (a:LN) (b:List S38) (g:Int) (c:Int):Fx (Option (S31×Int)):=⟨Try.prog,cx,Try.f88,λr=>match r with | some r=>n32 r.1 | none => .top,1,λr=>match r with | some r=>(mkH [⟨[.str a,w39 b,.i r.2,.i c],4,false⟩]) | none=>(mkH [⟨[.str a,w39 b,.i g,.i c],4,false⟩]),cxTi,cxOrd,λr=>match r with | some _=>none | none=>some (thrown,[0]),false⟩
def Pi29 (f:Ti29):Prop := ∀ a b c g,PQh (Xi29 a b c g) 88 [.ptr 0 4 0] (f a b c g)
abbrev Ti30:Type:=LN→(List S38)→Int→Int→Option (Option (S31×Int))
def Xi30 (a:LN) (b:List S38) (g:Int) (c:Int):Fx (Option (S31×Int)):=⟨Try.prog,cx,Try.f89,λr=>match r with | some r=>n32 r.1 | none => .top,1,λr=>match r with | some r=>(mkH [⟨[.str a,w39 b,.i r.2,.i c],4,false⟩]) | none=>(mkH [⟨[.str a,w39 b,.i g,.i c],4,false⟩]),cxTi,cxOrd,λr=>match r with | some _=>none | none=>some (thrown,[0]),false⟩
def Pi30 (f:Ti30):Prop := ∀ a b c g,PQh (Xi30 a b c g) 89 [.ptr 0 4 0] (f a b c g)
abbrev Ri31:Type:=(Int×LN×Bool×Bool×LL×LL×Int×(List S31))
abbrev Ti31:Type:=Int→LN→Bool→Bool→LL→LL→LN→LN→(List S38)→Int→Int→(List S31)→Option (Option Ri31)
def Xi31 (j:Int) (k:LN) (l:Bool) (m:Bool) (n:LL) (o:LL) (q:LN) (b:LN) (c:List S38) (g:Int) (a:Int) (h:List S31):Fx (Option Ri31):=⟨Try.prog,cx,Try.f69,λr=>match r with | some r => .agg [.i r.1,.str r.2.1,.own 1 (r.2.2.2.2.2.2.2).length 7,.bool r.2.2.1,.bool r.2.2.2.1,w9 r.2.2.2.2.1,w9 r.2.2.2.2.2.1] | none => .top,2,λr=>match r with | some r=>(mkH [⟨[.str b,w39 c,.i r.2.2.2.2.2.2.1,.i a],4,false⟩,⟨(r.2.2.2.2.2.2.2).flatMap e32,0,false⟩]) | none=>(mkH [⟨[.str b,w39 c,.i g,.i a],4,false⟩,⟨(h).flatMap e32,0,false⟩]),cxTi,cxOrd,λr=>match r with | some _=>none | none=>some (thrown,[0,1]),false⟩
def Pi31 (f:Ti31):Prop := ∀ b c g h j k l n o q a m,PQh (Xi31 b c g h j k l n o q a m) 69 [.ptr 0 4 0,.agg [.i b,.str c,.own 1 (m).length 7,.bool g,.bool h,w9 j,w9 k],.str l,.func 90 [.ptr 0 4 0] []] (f b c g h j k l n o q a m)
abbrev Ri32:Type:=(Int×LN×Bool×Bool×LL×LL×Int×(List S31))
abbrev Ti32:Type:=Int→LN→Bool→Bool→LL→LL→LN→LN→(List S38)→Int→Int→(List S31)→Option (Option Ri32)
def Xi32 (j:Int) (k:LN) (l:Bool) (m:Bool) (n:LL) (o:LL) (q:LN) (b:LN) (c:List S38) (g:Int) (a:Int) (h:List S31):Fx (Option Ri32):=⟨Try.prog,cx,Try.f69,λr=>match r with | some r => .agg [.i r.1,.str r.2.1,.own 1 (r.2.2.2.2.2.2.2).length 7,.bool r.2.2.1,.bool r.2.2.2.1,w9 r.2.2.2.2.1,w9 r.2.2.2.2.2.1] | none => .top,2,λr=>match r with | some r=>(mkH [⟨[.str b,w39 c,.i r.2.2.2.2.2.2.1,.i a],4,false⟩,⟨(r.2.2.2.2.2.2.2).flatMap e32,0,false⟩]) | none=>(mkH [⟨[.str b,w39 c,.i g,.i a],4,false⟩,⟨(h).flatMap e32,0,false⟩]),cxTi,cxOrd,λr=>match r with | some _=>none | none=>some (thrown,[0,1]),false⟩
def Pi32 (f:Ti32):Prop := ∀ b c g h j k l n o q a m,PQh (Xi32 b c g h j k l n o q a m) 69 [.ptr 0 4 0,.agg [.i b,.str c,.own 1 (m).length 7,.bool g,.bool h,w9 j,w9 k],.str l,.func 91 [.ptr 0 4 0] []] (f b c g h j k l n o q a m)
abbrev Ti34:Type:=LN→(List S38)→Int→Int→Option (Option (S31×Int))
def Xi34 (a:LN) (b:List S38) (g:Int) (c:Int):Fx (Option (S31×Int)):=⟨Try.prog,cx,Try.f93,λr=>match r with | some r=>n32 r.1 | none => .top,1,λr=>match r with | some r=>(mkH [⟨[.str a,w39 b,.i r.2,.i c],4,false⟩]) | none=>(mkH [⟨[.str a,w39 b,.i g,.i c],4,false⟩]),cxTi,cxOrd,λr=>match r with | some _=>none | none=>some (thrown,[0]),false⟩
def Pi34 (f:Ti34):Prop := ∀ a b c g,PQh (Xi34 a b c g) 93 [.ptr 0 4 0] (f a b c g)
abbrev Ti35:Type:=LN→(List S38)→Int→Int→Option (Option (S31×Int))
def Xi35 (a:LN) (b:List S38) (g:Int) (c:Int):Fx (Option (S31×Int)):=⟨Try.prog,cx,Try.f95,λr=>match r with | some r=>n32 r.1 | none => .top,1,λr=>match r with | some r=>(mkH [⟨[.str a,w39 b,.i r.2,.i c],4,false⟩]) | none=>(mkH [⟨[.str a,w39 b,.i g,.i c],4,false⟩]),cxTi,cxOrd,λr=>match r with | some _=>none | none=>some (thrown,[0]),false⟩
def Pi35 (f:Ti35):Prop := ∀ a b c g,PQh (Xi35 a b c g) 95 [.ptr 0 4 0] (f a b c g)
abbrev Ti36:Type:=S31→LN→(List S38)→Int→Int→Option (Option (S31×Int))
def Xi36 (h:S31) (a:LN) (b:List S38) (g:Int) (c:Int):Fx (Option (S31×Int)):=⟨Try.prog,cx,Try.f96,λr=>match r with | some r=>n32 r.1 | none => .top,1,λr=>match r with | some r=>(mkH [⟨[.str a,w39 b,.i r.2,.i c],4,false⟩]) | none=>(mkH [⟨[.str a,w39 b,.i g,.i c],4,false⟩]),cxTi,cxOrd,λr=>match r with | some _=>none | none=>some (thrown,[0]),false⟩
def Pi36 (f:Ti36):Prop := ∀ a b c g h,PQh (Xi36 a b c g h) 96 [.ptr 0 4 0,n32 a] (f a b c g h)
abbrev Ti37:Type:=LN→(List S38)→Int→Int→Option (Option (S31×Int))
def Xi37 (a:LN) (b:List S38) (g:Int) (c:Int):Fx (Option (S31×Int)):=⟨Try.prog,cx,Try.f78,λr=>match r with | some r=>n32 r.1 | none => .top,1,λr=>match r with | some r=>(mkH [⟨[.str a,w39 b,.i r.2,.i c],4,false⟩]) | none=>(mkH [⟨[.str a,w39 b,.i g,.i c],4,false⟩]),cxTi,cxOrd,λr=>match r with | some _=>none | none=>some (thrown,[0]),false⟩
def Pi37 (f:Ti37):Prop := ∀ a b c g,PQh (Xi37 a b c g) 78 [.ptr 0 4 0] (f a b c g)
abbrev Ti38:Type:=LN→(List S38)→Int→Int→Option (Option (S31×Int))
def Xi38 (a:LN) (b:List S38) (g:Int) (c:Int):Fx (Option (S31×Int)):=⟨Try.prog,cx,Try.f77,λr=>match r with | some r=>n32 r.1 | none => .top,1,λr=>match r with | some r=>(mkH [⟨[.str a,w39 b,.i r.2,.i c],4,false⟩]) | none=>(mkH [⟨[.str a,w39 b,.i g,.i c],4,false⟩]),cxTi,cxOrd,λr=>match r with | some _=>none | none=>some (thrown,[0]),false⟩
def Pi38 (f:Ti38):Prop := ∀ a b c g,PQh (Xi38 a b c g) 77 [.ptr 0 4 0] (f a b c g)
abbrev Ri39:Type:=(Int×LN×Bool×Bool×LL×LL×Int×(List S31))
abbrev Ti39:Type:=Int→LN→Bool→Bool→LL→LL→LN→(List S38)→Int→Int→(List S31)→Option (Option Ri39)
def Xi39 (j:Int) (k:LN) (l:Bool) (m:Bool) (n:LL) (o:LL) (a:LN) (b:List S38) (g:Int) (c:Int) (h:List S31):Fx (Option Ri39):=⟨Try.prog,cx,Try.f97,λr=>match r with | some r => .agg [.i r.1,.str r.2.1,.own 1 (r.2.2.2.2.2.2.2).length 7,.bool r.2.2.1,.bool r.2.2.2.1,w9 r.2.2.2.2.1,w9 r.2.2.2.2.2.1] | none => .top,2,λr=>match r with | some r=>(mkH [⟨[.str a,w39 b,.i r.2.2.2.2.2.2.1,.i c],4,false⟩,⟨(r.2.2.2.2.2.2.2).flatMap e32,0,false⟩]) | none=>(mkH [⟨[.str a,w39 b,.i g,.i c],4,false⟩,⟨(h).flatMap e32,0,false⟩]),cxTi,cxOrd,λr=>match r with | some _=>none | none=>some (thrown,[0,1]),false⟩
def Pi39 (f:Ti39):Prop := ∀ a b c g h j l m n o k,PQh (Xi39 a b c g h j l m n o k) 97 [.ptr 0 4 0,.agg [.i a,.str b,.own 1 (k).length 7,.bool c,.bool g,w9 h,w9 j]] (f a b c g h j l m n o k)
abbrev Ti40:Type:=LN→(List S38)→Int→Int→Option (Option (S31×Int))
def Xi40 (a:LN) (b:List S38) (g:Int) (c:Int):Fx (Option (S31×Int)):=⟨Try.prog,cx,Try.f90,λr=>match r with | some r=>n32 r.1 | none => .top,1,λr=>match r with | some r=>(mkH [⟨[.str a,w39 b,.i r.2,.i c],4,false⟩]) | none=>(mkH [⟨[.str a,w39 b,.i g,.i c],4,false⟩]),cxTi,cxOrd,λr=>match r with | some _=>none | none=>some (thrown,[0]),false⟩
def Pi40 (f:Ti40):Prop := ∀ a b c g,PQh (Xi40 a b c g) 90 [.ptr 0 4 0] (f a b c g)
abbrev Ti41:Type:=LN→(List S38)→Int→Int→Option (Option (S31×Int))
def Xi41 (a:LN) (b:List S38) (g:Int) (c:Int):Fx (Option (S31×Int)):=⟨Try.prog,cx,Try.f91,λr=>match r with | some r=>n32 r.1 | none => .top,1,λr=>match r with | some r=>(mkH [⟨[.str a,w39 b,.i r.2,.i c],4,false⟩]) | none=>(mkH [⟨[.str a,w39 b,.i g,.i c],4,false⟩]),cxTi,cxOrd,λr=>match r with | some _=>none | none=>some (thrown,[0]),false⟩
def Pi41 (f:Ti41):Prop := ∀ a b c g,PQh (Xi41 a b c g) 91 [.ptr 0 4 0] (f a b c g)
abbrev Ti42:Type:=LN→(List S38)→Int→Int→Option (Option (S31×Int))
def Xi42 (a:LN) (b:List S38) (g:Int) (c:Int):Fx (Option (S31×Int)):=⟨Try.prog,cx,Try.f99,λr=>match r with | some r=>n32 r.1 | none => .top,1,λr=>match r with | some r=>(mkH [⟨[.str a,w39 b,.i r.2,.i c],4,false⟩]) | none=>(mkH [⟨[.str a,w39 b,.i g,.i c],4,false⟩]),cxTi,cxOrd,λr=>match r with | some _=>none | none=>some (thrown,[0]),false⟩
def Pi42 (f:Ti42):Prop := ∀ a b c g,PQh (Xi42 a b c g) 99 [.ptr 0 4 0] (f a b c g)
abbrev Ri44:Type:=(Int×LN×Bool×Bool×LL×LL×Int×(List S31))
abbrev Ti44:Type:=Int→LN→Bool→Bool→LL→LL→LN→(List S38)→Int→Int→(List S31)→Option (Option Ri44)
def Xi44 (j:Int) (k:LN) (l:Bool) (m:Bool) (n:LL) (o:LL) (a:LN) (b:List S38) (g:Int) (c:Int) (h:List S31):Fx (Option Ri44):=⟨Try.prog,cx,Try.f101,λr=>match r with | some r => .agg [.i r.1,.str r.2.1,.own 1 (r.2.2.2.2.2.2.2).length 7,.bool r.2.2.1,.bool r.2.2.2.1,w9 r.2.2.2.2.1,w9 r.2.2.2.2.2.1] | none => .top,2,λr=>match r with | some r=>(mkH [⟨[.str a,w39 b,.i r.2.2.2.2.2.2.1,.i c],4,false⟩,⟨(r.2.2.2.2.2.2.2).flatMap e32,0,false⟩]) | none=>(mkH [⟨[.str a,w39 b,.i g,.i c],4,false⟩,⟨(h).flatMap e32,0,false⟩]),cxTi,cxOrd,λr=>match r with | some _=>none | none=>some (thrown,[0,1]),false⟩
def Pi44 (f:Ti44):Prop := ∀ a b c g h j l m n o k,PQh (Xi44 a b c g h j l m n o k) 101 [.ptr 0 4 0,.agg [.i a,.str b,.own 1 (k).length 7,.bool c,.bool g,w9 h,w9 j],.func 102 [.ptr 0 4 0] []] (f a b c g h j l m n o k)
abbrev Ri45:Type:=(Int×LN×Bool×Bool×LL×LL×Int×(List S31))
abbrev Ti45:Type:=Int→LN→Bool→Bool→LL→LL→LN→(List S38)→Int→Int→(List S31)→Option (Option Ri45)
def Xi45 (j:Int) (k:LN) (l:Bool) (m:Bool) (n:LL) (o:LL) (a:LN) (b:List S38) (g:Int) (c:Int) (h:List S31):Fx (Option Ri45):=⟨Try.prog,cx,Try.f101,λr=>match r with | some r => .agg [.i r.1,.str r.2.1,.own 1 (r.2.2.2.2.2.2.2).length 7,.bool r.2.2.1,.bool r.2.2.2.1,w9 r.2.2.2.2.1,w9 r.2.2.2.2.2.1] | none => .top,2,λr=>match r with | some r=>(mkH [⟨[.str a,w39 b,.i r.2.2.2.2.2.2.1,.i c],4,false⟩,⟨(r.2.2.2.2.2.2.2).flatMap e32,0,false⟩]) | none=>(mkH [⟨[.str a,w39 b,.i g,.i c],4,false⟩,⟨(h).flatMap e32,0,false⟩]),cxTi,cxOrd,λr=>match r with | some _=>none | none=>some (thrown,[0,1]),false⟩
def Pi45 (f:Ti45):Prop := ∀ a b c g h j l m n o k,PQh (Xi45 a b c g h j l m n o k) 101 [.ptr 0 4 0,.agg [.i a,.str b,.own 1 (k).length 7,.bool c,.bool g,w9 h,w9 j],.func 103 [.ptr 0 4 0] []] (f a b c g h j l m n o k)
abbrev Ti46:Type:=LN→(List S38)→Int→Int→Option (Option (S31×Int))
def Xi46 (a:LN) (b:List S38) (g:Int) (c:Int):Fx (Option (S31×Int)):=⟨Try.prog,cx,Try.f104,λr=>match r with | some r=>n32 r.1 | none => .top,1,λr=>match r with | some r=>(mkH [⟨[.str a,w39 b,.i r.2,.i c],4,false⟩]) | none=>(mkH [⟨[.str a,w39 b,.i g,.i c],4,false⟩]),cxTi,cxOrd,λr=>match r with | some _=>none | none=>some (thrown,[0]),false⟩
def Pi46 (f:Ti46):Prop := ∀ a b c g,PQh (Xi46 a b c g) 104 [.ptr 0 4 0] (f a b c g)
abbrev Ti47:Type:=LN→(List S38)→Int→Int→Option (Option (S31×Int))
def Xi47 (a:LN) (b:List S38) (g:Int) (c:Int):Fx (Option (S31×Int)):=⟨Try.prog,cx,Try.f86,λr=>match r with | some r=>n32 r.1 | none => .top,1,λr=>match r with | some r=>(mkH [⟨[.str a,w39 b,.i r.2,.i c],4,false⟩]) | none=>(mkH [⟨[.str a,w39 b,.i g,.i c],4,false⟩]),cxTi,cxOrd,λr=>match r with | some _=>none | none=>some (thrown,[0]),false⟩
def Pi47 (f:Ti47):Prop := ∀ a b c g,PQh (Xi47 a b c g) 86 [.ptr 0 4 0] (f a b c g)
abbrev Ri49:Type:=((List S31)×Int)
abbrev Ti49:Type:=LL→LN→(List S38)→Int→Int→Option (Option Ri49)
def Xi49 (h:LL) (a:LN) (b:List S38) (g:Int) (c:Int):Fx (Option Ri49):=⟨Try.prog,cx,Try.f48,λr=>match r with | some r=>w32 r.1 | none => .top,2,λr=>match r with | some r=>(mkH [⟨[.str a,w39 b,.i r.2,.i c],4,false⟩,⟨[.ptr 0 4 0],1,false⟩]) | none=>(mkH [⟨[.str a,w39 b,.i g,.i c],4,false⟩,⟨[.ptr 0 4 0],1,false⟩]),cxTi,cxOrd,λr=>match r with | some _=>none | none=>some (thrown,[0,1]),false⟩
def Pi49 (f:Ti49):Prop := ∀ a b c g h,PQh (Xi49 a b c g h) 48 [.ptr 0 4 0,w9 a,.func 105 [] [.ptr 1 1 0]] (f a b c g h)
abbrev Ri50:Type:=((List S31)×Int)
abbrev Ti50:Type:=LL→LN→(List S38)→Int→Int→Option (Option Ri50)
def Xi50 (h:LL) (a:LN) (b:List S38) (g:Int) (c:Int):Fx (Option Ri50):=⟨Try.prog,cx,Try.f48,λr=>match r with | some r=>w32 r.1 | none => .top,1,λr=>match r with | some r=>(mkH [⟨[.str a,w39 b,.i r.2,.i c],4,false⟩]) | none=>(mkH [⟨[.str a,w39 b,.i g,.i c],4,false⟩]),cxTi,cxOrd,λr=>match r with | some _=>none | none=>some (thrown,[0]),false⟩
def Pi50 (f:Ti50):Prop := ∀ a b c g h,PQh (Xi50 a b c g h) 48 [.ptr 0 4 0,w9 a,.func 102 [.ptr 0 4 0] []] (f a b c g h)
abbrev Ri51:Type:=((List S31)×Int)
abbrev Ti51:Type:=LL→LN→(List S38)→Int→Int→Option (Option Ri51)
def Xi51 (h:LL) (a:LN) (b:List S38) (g:Int) (c:Int):Fx (Option Ri51):=⟨Try.prog,cx,Try.f48,λr=>match r with | some r=>w32 r.1 | none => .top,1,λr=>match r with | some r=>(mkH [⟨[.str a,w39 b,.i r.2,.i c],4,false⟩]) | none=>(mkH [⟨[.str a,w39 b,.i g,.i c],4,false⟩]),cxTi,cxOrd,λr=>match r with | some _=>none | none=>some (thrown,[0]),false⟩
def Pi51 (f:Ti51):Prop := ∀ a b c g h,PQh (Xi51 a b c g h) 48 [.ptr 0 4 0,w9 a,.func 103 [.ptr 0 4 0] []] (f a b c g h)
abbrev Ri52:Type:=(Int×(List S31))
abbrev Ti52:Type:=LL→LN→(List S38)→Int→Int→Option (Option Ri52)
def Xi52 (h:LL) (a:LN) (b:List S38) (g:Int) (c:Int):Fx (Option Ri52):=⟨Try.prog,cx,Try.f48,λr=>match r with | some r => .own 1 (r.2).length 7 | none => .top,1,λr=>match r with | some r=>(mkH [⟨[.str a,w39 b,.i r.1,.i c],4,false⟩,⟨(r.2).flatMap e32,0,false⟩]) | none=>(mkH [⟨[.str a,w39 b,.i g,.i c],4,false⟩]),cxTi,cxOrd,λr=>match r with | some _=>none | none=>some (thrown,[0]),false⟩
def Pi52 (f:Ti52):Prop := ∀ a b c g h,PQh (Xi52 a b c g h) 48 [.ptr 0 4 0,w9 a,.func 102 [.ptr 0 4 0] []] (f a b c g h)
abbrev Ti53:Type:=LN→(List S38)→Int→Int→Option (Option (S31×Int))
def Xi53 (a:LN) (b:List S38) (g:Int) (c:Int):Fx (Option (S31×Int)):=⟨Try.prog,cx,Try.f105,λr=>match r with | some r=>n32 r.1 | none => .top,2,λr=>match r with | some r=>(mkH [⟨[.str a,w39 b,.i r.2,.i c],4,false⟩,⟨[.ptr 0 4 0],1,false⟩]) | none=>(mkH [⟨[.str a,w39 b,.i g,.i c],4,false⟩,⟨[.ptr 0 4 0],1,false⟩]),cxTi,cxOrd,λr=>match r with | some _=>none | none=>some (thrown,[0,1]),false⟩
def Pi53 (f:Ti53):Prop := ∀ a b c g,PQh (Xi53 a b c g) 105 [.ptr 1 1 0] (f a b c g)
abbrev Ti54:Type:=LN→(List S38)→Int→Int→Option (Option (S31×Int))
def Xi54 (a:LN) (b:List S38) (g:Int) (c:Int):Fx (Option (S31×Int)):=⟨Try.prog,cx,Try.f102,λr=>match r with | some r=>n32 r.1 | none => .top,1,λr=>match r with | some r=>(mkH [⟨[.str a,w39 b,.i r.2,.i c],4,false⟩]) | none=>(mkH [⟨[.str a,w39 b,.i g,.i c],4,false⟩]),cxTi,cxOrd,λr=>match r with | some _=>none | none=>some (thrown,[0]),false⟩
def Pi54 (f:Ti54):Prop := ∀ a b c g,PQh (Xi54 a b c g) 102 [.ptr 0 4 0] (f a b c g)
abbrev Ti55:Type:=LN→(List S38)→Int→Int→Option (Option (S31×Int))
def Xi55 (a:LN) (b:List S38) (g:Int) (c:Int):Fx (Option (S31×Int)):=⟨Try.prog,cx,Try.f103,λr=>match r with | some r=>n32 r.1 | none => .top,1,λr=>match r with | some r=>(mkH [⟨[.str a,w39 b,.i r.2,.i c],4,false⟩]) | none=>(mkH [⟨[.str a,w39 b,.i g,.i c],4,false⟩]),cxTi,cxOrd,λr=>match r with | some _=>none | none=>some (thrown,[0]),false⟩
def Pi55 (f:Ti55):Prop := ∀ a b c g,PQh (Xi55 a b c g) 103 [.ptr 0 4 0] (f a b c g)
structure Fns0 where
 i8:Ti8
 i9:Ti9
 i15:Ti15
 i16:Ti16
 i19:Ti19
 i23:Ti23
 i24:Ti24
 i25:Ti25
 i26:Ti26
 i27:Ti27
 i29:Ti29
 i30:Ti30
 i31:Ti31
 i32:Ti32
 i34:Ti34
 i35:Ti35
 i36:Ti36
 i37:Ti37
 i38:Ti38
 i39:Ti39
 i40:Ti40
 i41:Ti41
 i42:Ti42
 i44:Ti44
 i45:Ti45
 i46:Ti46
 i47:Ti47
 i49:Ti49
 i50:Ti50
 i51:Ti51
 i52:Ti52
 i53:Ti53
 i54:Ti54
 i55:Ti55
structure FnsOk0 (F:Fns0):Prop where
 i8_ok:Pi8 (F.i8)
 i9_ok:Pi9 (F.i9)
 i15_ok:Pi15 (F.i15)
 i16_ok:Pi16 (F.i16)
 i19_ok:Pi19 (F.i19)
 i23_ok:Pi23 (F.i23)
 i24_ok:Pi24 (F.i24)
 i25_ok:Pi25 (F.i25)
 i26_ok:Pi26 (F.i26)
 i27_ok:Pi27 (F.i27)
 i29_ok:Pi29 (F.i29)
 i30_ok:Pi30 (F.i30)
 i31_ok:Pi31 (F.i31)
 i32_ok:Pi32 (F.i32)
 i34_ok:Pi34 (F.i34)
 i35_ok:Pi35 (F.i35)
 i36_ok:Pi36 (F.i36)
 i37_ok:Pi37 (F.i37)
 i38_ok:Pi38 (F.i38)
 i39_ok:Pi39 (F.i39)
 i40_ok:Pi40 (F.i40)
 i41_ok:Pi41 (F.i41)
 i42_ok:Pi42 (F.i42)
 i44_ok:Pi44 (F.i44)
 i45_ok:Pi45 (F.i45)
 i46_ok:Pi46 (F.i46)
 i47_ok:Pi47 (F.i47)
 i49_ok:Pi49 (F.i49)
 i50_ok:Pi50 (F.i50)
 i51_ok:Pi51 (F.i51)
 i52_ok:Pi52 (F.i52)
 i53_ok:Pi53 (F.i53)
 i54_ok:Pi54 (F.i54)
 i55_ok:Pi55 (F.i55)
def i15p1:Pt:=nav [0,0,0,0] (nav [0] (bodyAt Try.f69))
def i15p2:Pt:=nav [0,0,0] i15p1
def i15p3:Pt:=nav [0,0,0,0] i15p2
def i15p4:Pt:=nav [0,0] i15p3
def i15p6:Pt:=nav [2,0,0,0,0] i15p4
def i15p10:Pt:=nav [0,0,0] (nav [0,0,0] i15p6)
def i15p11:Pt:=nav [0,0,0,0] i15p10
def i15p12:Pt:=nav [0,0,0] i15p11
def i15p13:Pt:=nav [0,0] i15p12
def i15p15:Pt:=nav [2,0,0] i15p13
def i15p17:Pt:=nav [0,0,0] i15p15
def i15p18:Pt:=nav [0,0,0] i15p17
def qH5 (k:Nat) (F:Fns0)  (A:Int) (B:LN) (C:Bool) (D:LL) (G:LL) (E:LN) (o:LN) (q:List S38) (b:Int) (r:Bool) (ih:LL→Int→(List S31)→Option (Option Ri15)):LL→Int→(List S31)→Option (Option Ri15) :=
 λ(l:LL) (m:Int) (n:List S31)=>bT (F.i23 o q m b) λa=>(appS 104 n ([(⟨a.1.f0,a.1.f1,a.1.f2,a.1.f3,a.1.f4,l,a.1.f6⟩:S31)]:List S31)).bind λh=>(i12 k o q a.2 b).bind λc=>bT (i11 k E o q c.2 b) λg=>if g.1 then (some (some (A,B,r,C,D,c.1,g.2,h))) else (bT (i21 k (decide ((c.1.length:Int)=0))) λx=>bT (i14 k ([44]:LN) o q g.2 b) λu=>(i12 k o q u b).bind λj=>ih j.1 j.2 h)
def qJf (k:Nat) (F:Fns0)  (c:Int) (g:LN) (h:Bool) (j:LL) (l:LL) (m:LN) (o:LN) (q:List S38) (b:Int) (a:Bool) (n:Nat):LL→Int→(List S31)→Option (Option Ri15):=lp (λ_ _ _=>none) (qH5 k F c g h j l m o q b a) n
theorem qMo (k:Nat) (F:Fns0) (hF:FnsOk0 F) (E:Int) (G:LN) (a2:Bool) (J:Bool) (K:LL) (S:LL) (L:LN) (u:LN) (x:List S38) (a9:Int) (h:Int) (b1:List S31)  (j:Bool)  : ∀ (n:Nat) (c:LL) (o:Int) (g:List S31),Ok (Xi15 E G a2 J K S L u x a9 h b1) i15p6 [(0,.ptr 0 4 0),(2,.str L),(3,.func 70 [.ptr 0 4 0] []),(5,.ptr 2 7 0),(8,.ptr 3 7 0),(9,w9 c)] (mkH [⟨[.str u,w39 x,.i o,.i h],4,false⟩,⟨(g).flatMap e32,0,false⟩,⟨[.i E,.str G,.own 1 (g).length 7,.bool j,.bool J,w9 K,w9 S],7,false⟩,⟨[.i 0,.str [],.nils,.bool false,.bool false,.nils,.nils],0,false⟩]) (qJf k F E G J K S L u x h j n c o g):=by
 intro n
 induction n with
 | zero=>intro c o g; exact ok_none
 | succ n ih =>
  intro c o g
  show Ok _ _ _ _ (qH5 k F E G J K S L u x h j (qJf k F E G J K S L u x h j n) c o g)
  unfold qH5
  let E5:Env:=[(22,.func 70 [.ptr 0 4 0] []),(0,.ptr 0 4 0),(2,.str L),(3,.func 70 [.ptr 0 4 0] []),(5,.ptr 2 7 0),(8,.ptr 3 7 0),(9,w9 c)]
  let Y:Blk:=⟨(g).flatMap e32,0,false⟩
  let V:Blk:=⟨[.i E,.str G,.own 1 (g).length 7,.bool j,.bool J,w9 K,w9 S],7,false⟩
  let B:Blk:=⟨[.i 0,.str [],.nils,.bool false,.bool false,.nils,.nils],0,false⟩
  refine oH 2 (atN 1 (ctl1 i15p6)) E5 (mkH [⟨[.str u,w39 x,.i o,.i h],4,false⟩,Y,V,B]) ?_
  refine oX (λ(a:(S31×Int))=>n32 a.1) (λa=>[⟨[.str u,w39 x,.i a.2,.i h],4,false⟩,Y,V,B]) (atN 2 (ctl1 i15p6)) 23 [0] [] [] [0,2] [0,1] [.ptr 0 4 0] (hF.i23_ok u x o h) trivial (λ_=>trivial) ⟨u32 _,trivial⟩ λa b2=>?_
  let Z:Blk:=⟨[.str u,w39 x,.i a.2,.i h],4,false⟩
  let C:Blk:=⟨[.i a.1.f0,.str a.1.f1,q32 a.1.f2,.bool a.1.f3,.bool a.1.f4,w9 c,w9 a.1.f6],7,false⟩
  let D:Blk:=⟨[.i a.1.f0,.str a.1.f1,q32 a.1.f2,.bool a.1.f3,.bool a.1.f4,w9 c,w9 a.1.f6],0,false⟩
  refine oH 15 (atN 4 (ctl1 i15p10)) ((29,.slice 5 7 0 1 7)::(28,.agg [.i a.1.f0,.str a.1.f1,q32 a.1.f2,.bool a.1.f3,.bool a.1.f4,w9 c,w9 a.1.f6])::(27,.own 1 (g).length 7)::(26,.ptr 2 7 2)::(25,.ptr 4 7 5)::(24,w9 c)::(10,.ptr 4 7 0)::(23,n32 a.1)::E5) (mkH [Z,Y,V,B,C,D]) ?_
  refine oC (λ(l:List S31)=>(.own 1 (l).length 7,(mkH [Z,⟨(l).flatMap e32,0,false⟩,V,B,C,D]))) (atN 5 (ctl1 i15p10)) 30 (appH (sz:=7) qA4 rfl qB0 [Z,Y,V,B,C,D] 1 104 g ([(⟨a.1.f0,a.1.f1,a.1.f2,a.1.f3,a.1.f4,c,a.1.f6⟩:S31)]:List S31) rfl rfl Kr) λl b3=>?_
  let E7:Env:=[(0,.ptr 0 4 0),(2,.str L),(3,.func 70 [.ptr 0 4 0] []),(5,.ptr 2 7 0),(8,.ptr 3 7 0)]
  let N:Blk:=⟨(l).flatMap e32,0,false⟩
  let T:Blk:=⟨[.i E,.str G,.own 1 (l).length 7,.bool j,.bool J,w9 K,w9 S],7,false⟩
  refine oLH 5 i15p11 E7 (mkH [Z,N,T,B,C,D]) ?_
  refine oR 2 (atN 1 (ctl1 i15p11)) ((32,.ptr 0 4 0)::E7) ?_
  refine oN (λ(b:Ri12)=>w9 b.1) (λb=>[⟨[.str u,w39 x,.i b.2,.i h],4,false⟩,N,T,B,C,D]) (atN 2 (ctl1 i15p11)) 33 [0] [] [] [.ptr 0 4 0] (qAp k u x a.2 h) trivial (λ_=>trivial) λb b5=>?_
  let E8:Env:=((35,.str L)::(34,.ptr 0 4 0)::(9,w9 b.1)::(33,w9 b.1)::(32,.ptr 0 4 0)::E7)
  refine oR 6 (atN 2 (ctl1 i15p12)) E8 ?_
  refine oX (λ(m:(Bool×Int)) => .bool m.1) (λm=>[⟨[.str u,w39 x,.i m.2,.i h],4,false⟩,N,T,B,C,D]) (atN 3 (ctl1 i15p12)) 36 [0] [] [] [2] [0,1] [.ptr 0 4 0,.str L] (qAb k L u x b.2 h) trivial (λ_=>trivial) ⟨u32 _,trivial⟩ λm b7=>?_
  refine oR 1 i15p13 ((36,.bool m.1)::E8) ?_
  refine oS 36 (λhb=>?_) (λhb=>?_)
  ·let Q9:Blk:=⟨[.str u,w39 x,.i m.2,.i h],4,false⟩
   let M:Blk:=⟨[.i E,.str G,.own 1 (l).length 7,.bool j,.bool J,w9 K,w9 b.1],7,false⟩
   refine oLH 8 (nav [0,0,0] (nav [1,0] i15p13)) [(5,.ptr 2 7 0),(8,.ptr 3 7 0)] (mkH [Q9,N,M,B,C,D]) ?_
   refine oH 5 .fin ((39,.agg [.i E,.str G,.own 1 (l).length 7,.bool j,.bool J,w9 K,w9 b.1])::[(5,.ptr 2 7 0),(8,.ptr 3 7 0)]) (mkH [Q9,N,M,M,C,D]) ?_
   exact qC1 (r:=some (E,G,j,J,K,b.1,m.2,l)) (xs:=[.agg [.i E,.str G,.own 1 (l).length 7,.bool j,.bool J,w9 K,w9 b.1]]) [Q9,N] [M,M,C,D] Kr Kr Kr Kr Kr ⟨Kr,⟨(qA3 _ (u32 _)),trivial⟩⟩ Kr Kr
  ·let U:Env:=((42,.bool (decide ((b.1.length:Int)=0)))::(41,.i (b.1.length:Int))::(40,w9 b.1)::(36,.bool false)::(36,.bool m.1)::E8)
   refine oR 7 (atN 3 (ctl1 i15p15)) U ?_
   refine oX (λ(O:Unit) => .tuple []) (λO=>[⟨[.str u,w39 x,.i m.2,.i h],4,false⟩,N,T,B,C,D]) (atN 4 (ctl1 i15p15)) 43 [] [] [] [2] [0,1] [.bool (decide ((b.1.length:Int)=0))] (qD5 k (decide ((b.1.length:Int)=0))) trivial (λ_=>trivial) ⟨u32 _,trivial⟩ λO b9=>?_
   refine oR 2 i15p17 ((43,.tuple [])::U) ?_
   refine oK0 [0,2,3,5,8] ?_
   let W:Env:=keepOnly ((43,.tuple [])::U) [0,2,3,5,8]
   refine oR 2 (atN 1 (ctl1 i15p17)) ((44,.ptr 0 4 0)::W) ?_
   refine oX (λ(A:Int) => .tuple []) (λA=>[⟨[.str u,w39 x,.i A,.i h],4,false⟩,N,T,B,C,D]) (atN 2 (ctl1 i15p17)) 45 [0] [] [] [0,2] [0,1] [.ptr 0 4 0,.str [44]] (qB2 k ([44]:LN) u x m.2 h) trivial (λ_=>trivial) ⟨u32 _,trivial⟩ λA c0=>?_
   refine oR 4 (atN 1 (ctl1 i15p18)) ((46,.ptr 0 4 0)::(45,.tuple [])::(44,.ptr 0 4 0)::W) ?_
   refine oN (λ(q:Ri12)=>w9 q.1) (λq=>[⟨[.str u,w39 x,.i q.2,.i h],4,false⟩,N,T,B,C,D]) (atN 2 (ctl1 i15p18)) 47 [0] [] [] [.ptr 0 4 0] (qAp k u x A h) trivial (λ_=>trivial) λq c1=>?_
   refine oL 6 i15p6 [(0,.ptr 0 4 0),(2,.str L),(3,.func 70 [.ptr 0 4 0] []),(5,.ptr 2 7 0),(8,.ptr 3 7 0),(9,w9 q.1)] ?_
   refine qA9 [⟨[.str u,w39 x,.i q.2,.i h],4,false⟩,N,T,B] [C,D] Kr rfl Kr ⟨Kr,⟨(qA3 _ (u32 _)),⟨Kr,⟨Kr,trivial⟩⟩⟩⟩ ?_
   exact ih q.1 q.2 l
def i15B (k:Nat) (F:Fns0) (l:Int) (m:LN) (A:Bool) (n:Bool) (o:LL) (x:LL) (q:LN) (h:LN) (j:List S38) (r:Int) (c:Int) (u:List S31):Option (Option Ri15) :=
 (i22 k h j r c).bind λg=>(i12 k h j r c).bind λa=>bT (i11 k q h j a.2 c) λb=>if b.1 then (some (some (l,m,g,n,o,a.1,b.2,u))) else (qJf k F l m n o x q h j c g k a.1 b.2 u)
theorem qLr (k:Nat) (F:Fns0) (V:FnsOk0 F):∀ l m B n o A q u x C c j r,i15B k F l m B n o A q u x C c j=some r→CallT Try.prog 69 [.ptr 0 4 0,.agg [.i l,.str m,.own 1 (j).length 7,.bool B,.bool n,w9 o,w9 A],.str q,.func 70 [.ptr 0 4 0] []] (mkH [⟨[.str u,w39 x,.i C,.i c],4,false⟩,⟨(j).flatMap e32,0,false⟩]) ((Xi15 l m B n o A q u x C c j).thr r) ((Xi15 l m B n o A q u x C c j).enc r) ((Xi15 l m B n o A q u x C c j).fin r):=by
 intro l m B n o A q u x C c j r h
 refine qA1 (Xi15 l m B n o A q u x C c j) Try.func69 Kr Kr rfl (t:=i15B k F l m B n o A q u x C c j) ?_ h
 unfold i15B
 refine qA (eE:=[(0,.ptr 0 4 0),(1,.agg [.i l,.str m,.own 1 (j).length 7,.bool B,.bool n,w9 o,w9 A]),(2,.str q),(3,.func 70 [.ptr 0 4 0] [])]) Kr ?_
 let J:Env:=[(11,.ptr 0 4 0),(8,.ptr 3 7 0),(5,.ptr 2 7 0),(0,.ptr 0 4 0),(1,.agg [.i l,.str m,.own 1 (j).length 7,.bool B,.bool n,w9 o,w9 A]),(2,.str q),(3,.func 70 [.ptr 0 4 0] [])]
 let K:Blk:=⟨[.str u,w39 x,.i C,.i c],4,false⟩
 let D:Blk:=⟨(j).flatMap e32,0,false⟩
 let U:Blk:=⟨[.i l,.str m,.own 1 (j).length 7,.bool B,.bool n,w9 o,w9 A],0,false⟩
 let E:Blk:=⟨[.i 0,.str [],.nils,.bool false,.bool false,.nils,.nils],0,false⟩
 refine oH 9 (atN 1 (ctl1 i15p1)) J (mkH [K,D,U,E]) ?_
 refine oN (λ(b:Bool) => .bool b) (λb=>[K,D,U,E]) (atN 2 (ctl1 i15p1)) 12 [0] [] [] [.ptr 0 4 0] (qG0 k u x C c) trivial (λ_=>trivial) λb L=>?_
 let M:Blk:=⟨[.i l,.str m,.own 1 (j).length 7,.bool b,.bool n,w9 o,w9 A],7,false⟩
 refine oH 6 (atN 1 (ctl1 i15p2)) ((14,.ptr 0 4 0)::(13,.ptr 2 7 3)::(12,.bool b)::J) (mkH [K,D,M,E]) ?_
 refine oN (λ(a:Ri12)=>w9 a.1) (λa=>[⟨[.str u,w39 x,.i a.2,.i c],4,false⟩,D,M,E]) (atN 2 (ctl1 i15p2)) 15 [0] [] [] [.ptr 0 4 0] (qAp k u x C c) trivial (λ_=>trivial) λa N=>?_
 let O:Env:=((17,.str q)::(16,.ptr 0 4 0)::(9,w9 a.1)::(15,w9 a.1)::(14,.ptr 0 4 0)::(13,.ptr 2 7 3)::(12,.bool b)::J)
 refine oR 7 (atN 2 (ctl1 i15p3)) O ?_
 refine oX (λ(g:(Bool×Int)) => .bool g.1) (λg=>[⟨[.str u,w39 x,.i g.2,.i c],4,false⟩,D,M,E]) (atN 3 (ctl1 i15p3)) 18 [0] [] [] [2] [0,1] [.ptr 0 4 0,.str q] (qAb k q u x a.2 c) trivial (λ_=>trivial) ⟨u32 _,trivial⟩ λg S=>?_
 refine oR 1 i15p4 ((18,.bool g.1)::O) ?_
 refine oK [0,2,3,5,8,9,18] [(0,.ptr 0 4 0),(2,.str q),(3,.func 70 [.ptr 0 4 0] []),(5,.ptr 2 7 0),(8,.ptr 3 7 0),(9,w9 a.1),(18,.bool g.1)] ?_
 refine oS 18 (λW=>?_) (λW=>?_)
 ·let T:Blk:=⟨[.str u,w39 x,.i g.2,.i c],4,false⟩
  let G:Blk:=⟨[.i l,.str m,.own 1 (j).length 7,.bool b,.bool n,w9 o,w9 a.1],7,false⟩
  refine oLH 8 (nav [0,0,0] (nav [1,0] i15p4)) [(5,.ptr 2 7 0),(8,.ptr 3 7 0)] (mkH [T,D,G,E]) ?_
  refine oH 5 .fin ((21,.agg [.i l,.str m,.own 1 (j).length 7,.bool b,.bool n,w9 o,w9 a.1])::[(5,.ptr 2 7 0),(8,.ptr 3 7 0)]) (mkH [T,D,G,G]) ?_
  exact qC1 (r:=some (l,m,b,n,o,a.1,g.2,j)) (xs:=[.agg [.i l,.str m,.own 1 (j).length 7,.bool b,.bool n,w9 o,w9 a.1]]) [T,D] [G,G] Kr Kr Kr Kr Kr ⟨Kr,⟨(qA3 _ (u32 _)),trivial⟩⟩ Kr Kr
 ·refine oR 5 i15p6 ((18,.bool false)::(keepOnly ((18,.bool g.1)::O) [0,2,3,5,8,9,18])) ?_
  refine oK [0,2,3,5,8,9] [(0,.ptr 0 4 0),(2,.str q),(3,.func 70 [.ptr 0 4 0] []),(5,.ptr 2 7 0),(8,.ptr 3 7 0),(9,w9 a.1)] ?_
  exact (qMo k F V l m B n o A q u x C c j b k) a.1 g.2 j
theorem i15B_ok (k:Nat) (F:Fns0) (b:FnsOk0 F):Pi15 (i15B k F):=λc g j l m n o q r u a A=>⟨λx h=>qLr k F b c g j l m n o q r u a A (some x) h,λh=>⟨_,qLr k F b c g j l m n o q r u a A none h⟩⟩
def i16p1:Pt:=nav [0,0,0] (nav [0] (bodyAt Try.f72))
def i16p2:Pt:=nav [0,0,0,0] i16p1
def i16p3:Pt:=nav [0,0] i16p2
def i16p4:Pt:=nav [1,0] i16p3
def i16p5:Pt:=nav [2,0,0] i16p3
def i16p6:Pt:=nav [0,0,0] i16p4
def i16p7:Pt:=nav [0,0,0] i16p5
def i16p8:Pt:=nav [0,0,0] i16p6
def i16d0:DP:=⟨[31],[(0,0,0),(1,0,1),(0,0,1),(4,0,0),(15,0,0),(0,0,0),(32,0,0),(96,0,0),(255,0,0),(511,0,0)],10,thrown,[],H0⟩
def i16B (k:Nat) (F:Fns0) (h:LN) (j:List S38) (r:Int) (l:Int):Option (Option Ri16) :=
 (i13 k h j r l).bind λa=>(i7 k a.f1 h j r l).bind λm=>jn (λ(x:Bool)=>if x then (bT (i17 k h j r l) λn=>bT (F.i16 h j n l) λb=>(g81 k a.f1).bind λo=>some (some ((⟨(13:Int),a.f1,⟨(([b.1]:List S31)).length,(([b.1]:List S31)).flatMap e32⟩,false,false,([]:LL),([]:LL)⟩:S31),o,b.2.2))) else (bT (F.i24 h j r l) λc=>bT (F.i25 c.1 c.2.1 h j c.2.2 l) λg=>some (some (g.1,(11:Int),g.2)))) (λu=>if m then ((g81 k a.f1).bind λq=>u (decide (0 < q))) else (u false))
theorem qLq (k:Nat) (F:Fns0) (K:FnsOk0 F):∀ m n A o r,i16B k F m n A o=some r→CallT Try.prog 72 [.ptr 0 4 0] (mkH [⟨[.str m,w39 n,.i A,.i o],4,false⟩]) ((Xi16 m n A o).thr r) ((Xi16 m n A o).enc r) ((Xi16 m n A o).fin r):=by
 intro m n A o r h
 refine qA1 (Xi16 m n A o) Try.func72 Kr Kr rfl (t:=i16B k F m n A o) ?_ h
 unfold i16B
 refine qA (eE:=[(0,.ptr 0 4 0)]) Kr ?_
 let B:Blk:=⟨[.str m,w39 n,.i A,.i o],4,false⟩
 let q:Blk:=⟨[.i 0,.str [],.nils,.bool false,.bool false,.nils,.nils],0,false⟩
 refine oH 8 (atN 1 (ctl1 i16p1)) [(9,.ptr 0 4 0),(3,.i 0),(2,.ptr 1 7 0),(0,.ptr 0 4 0)] (mkH [B,q]) ?_
 refine oN (λ(a:S38)=>n39 a) (λa=>[B,q]) (atN 2 (ctl1 i16p1)) 10 [0] [] [] [.ptr 0 4 0] (qG2 k m n A o) trivial (λ_=>trivial) λa L=>?_
 let M:Env:=[(13,.str a.f1),(12,.ptr 2 3 1),(11,.ptr 0 4 0),(4,.ptr 2 3 0),(10,n39 a),(9,.ptr 0 4 0),(3,.i 0),(2,.ptr 1 7 0),(0,.ptr 0 4 0)]
 refine oH 9 (atN 3 (ctl1 i16p2)) M (mkH [B,q,⟨e39 a,3,false⟩]) ?_
 refine oN (λ(l:Bool) => .bool l) (λl=>[B,q,⟨e39 a,3,false⟩]) (atN 4 (ctl1 i16p2)) 14 [0] [] [] [.ptr 0 4 0,.str a.f1] (qMj k a.f1 m n A o) trivial (λ_=>trivial) λl N=>?_
 refine oR 1 (atN 5 (ctl1 i16p2)) ((15,.bool l)::(14,.bool l)::M) ?_
 refine oJ i16p3 (λ(D:Bool)=>[(0,.ptr 0 4 0),(2,.ptr 1 7 0),(4,.ptr 2 3 0),(20,.bool D)]) (λ(D:Bool)=>(mkH [B,q,⟨e39 a,3,false⟩])) (λD=>?_) (λj7 E=>?_)
 ·refine oS 20 (λO=>?_) (λO=>?_)
  ·let Z:Env:=[(21,.ptr 0 4 0),(20,.bool true),(0,.ptr 0 4 0),(2,.ptr 1 7 0),(4,.ptr 2 3 0),(20,.bool D)]
   refine oH 4 (atN 1 (ctl1 i16p4)) Z (mkH [B,q,⟨e39 a,3,false⟩]) ?_
   refine oX (λ(u:Int) => .tuple []) (λu=>[⟨[.str m,w39 n,.i u,.i o],4,false⟩,q,⟨e39 a,3,false⟩]) (atN 2 (ctl1 i16p4)) 22 [0] [] [] [] [] [.ptr 0 4 0] (qG1 k m n A o) trivial (λ_=>trivial) trivial λu S=>?_
   refine oR 4 (atN 1 (ctl1 i16p6)) ((24,.ptr 0 4 0)::(22,.tuple [])::Z) ?_
   refine oX (λ(c:Ri16) => .tuple [n32 c.1,.i c.2.1]) (λc=>[⟨[.str m,w39 n,.i c.2.2,.i o],4,false⟩,q,⟨e39 a,3,false⟩]) (atN 2 (ctl1 i16p6)) 25 [0] [] [] [0] [] [.ptr 0 4 0] (K.i16_ok m n u o) trivial (λ_=>trivial) trivial λc T=>?_
   let Q3:Blk:=⟨[.str m,w39 n,.i c.2.2,.i o],4,false⟩
   let U:List Blk:=[Q3,q,⟨e39 a,3,false⟩,⟨e32 c.1,7,false⟩]
   refine oLH 8 i16p8 [(2,.ptr 1 7 0),(4,.ptr 2 3 0),(5,.ptr 3 7 0)] (mkH U) ?_
   refine qA7 (λg C=>?_)
   let J:Env:=[(34,.str a.f1),(33,.ptr 2 3 1),(32,.agg [.i 13,.str a.f1,w32 ([c.1]:List S31),.bool false,.bool false,.nils,.nils]),(31,w32 ([c.1]:List S31)),(30,n32 c.1),(29,.str a.f1),(28,.ptr 2 3 1),(2,.ptr 1 7 0),(4,.ptr 2 3 0),(5,.ptr 3 7 0)]
   let G:List Blk:=[Q3,⟨[.i 13,.str a.f1,w32 ([c.1]:List S31),.bool false,.bool false,.nils,.nils],7,false⟩,⟨e39 a,3,false⟩,⟨e32 c.1,7,false⟩]
   refine oD (H':=(mkH G)) (nav [0] i16p8) ((3,.i g)::(35,.i g)::J) [(mkH U),(mkH G)] i16d0 (oDr 7 7 J (qAs (l':=(opsAt i16p8).toList.drop 8) (eE:=((35,.i g)::J)) (hs:=[(mkH U)]) (fi:=81) (args:=[.str a.f1]) (v := .i g) Kr Kr Kr (g81_ok k a.f1 g C) Kr (oDh 2 10 ((3,.i g)::(35,.i g)::J) (mkH G) [(mkH G)] .nil))) ?_
   exact oQF 1 G 1 [] [.agg [.i 13,.str a.f1,w32 ([c.1]:List S31),.bool false,.bool false,.nils,.nils],.i g] (.tuple [.agg [.i 13,.str a.f1,w32 ([c.1]:List S31),.bool false,.bool false,.vec 0 1 [],.vec 0 1 []],.i g]) (.tuple (.agg (.cs (.cs (.cs (.cs (.cs (.nil (.nil .ps))))))) .ps) .ps) trivial
  ·refine oH 5 (atN 1 (ctl1 i16p5)) [(37,.ptr 0 4 0),(20,.bool false),(0,.ptr 0 4 0),(2,.ptr 1 7 0),(4,.ptr 2 3 0),(20,.bool D)] (mkH [B,q,⟨e39 a,3,false⟩]) ?_
   refine oX (λ(b:Ri24) => .tuple [n32 b.1,.bool b.2.1]) (λb=>[⟨[.str m,w39 n,.i b.2.2,.i o],4,false⟩,q,⟨e39 a,3,false⟩]) (atN 2 (ctl1 i16p5)) 38 [0] [] [] [0] [] [.ptr 0 4 0] (K.i24_ok m n A o) trivial (λ_=>trivial) trivial λb V=>?_
   let E8:Env:=[(0,.ptr 0 4 0),(2,.ptr 1 7 0),(7,.ptr 3 7 0),(8,.bool b.2.1)]
   refine oLH 8 i16p7 E8 (mkH [⟨[.str m,w39 n,.i b.2.2,.i o],4,false⟩,q,⟨e39 a,3,false⟩,⟨e32 b.1,7,false⟩]) ?_
   refine oR 4 (atN 3 (ctl1 i16p7)) ((43,.bool b.2.1)::(42,n32 b.1)::(41,.ptr 0 4 0)::E8) ?_
   refine oX (λ(j:(S31×Int))=>n32 j.1) (λj=>[⟨[.str m,w39 n,.i j.2,.i o],4,false⟩,q,⟨e39 a,3,false⟩,⟨e32 b.1,7,false⟩]) (atN 4 (ctl1 i16p7)) 44 [0] [] [] [0] [] [.ptr 0 4 0,n32 b.1,.bool b.2.1] (K.i25_ok b.1 b.2.1 m n b.2.2 o) trivial (λ_=>trivial) trivial λj W=>?_
   exact oQF 4 [⟨[.str m,w39 n,.i j.2,.i o],4,false⟩,⟨e32 j.1,7,false⟩,⟨e39 a,3,false⟩,⟨e32 b.1,7,false⟩] 1 [] [n32 j.1,.i 11] (.tuple [n32 j.1,.i 11]) .ps trivial
 ·refine oS 15 (λO=>?_) (λO=>?_)
  ·refine oH 2 (atN 7 (ctl1 i16p2)) ((17,.str a.f1)::(16,.ptr 2 3 1)::(15,.bool true)::(15,.bool l)::(14,.bool l)::M) (mkH [B,q,⟨e39 a,3,false⟩]) ?_
   refine oA (λ(x:Int) => .i x) (atN 8 (ctl1 i16p2)) 18 [.str a.f1] (g81_ok k a.f1) λx Y=>?_
   refine oL 3 i16p3 [(0,.ptr 0 4 0),(2,.ptr 1 7 0),(4,.ptr 2 3 0),(20,.bool (decide (0 < x)))] ?_
   exact E (decide (0 < x))
  ·refine oLH 6 i16p3 [(0,.ptr 0 4 0),(2,.ptr 1 7 0),(4,.ptr 2 3 0),(20,.bool false)] (mkH [B,q,⟨e39 a,3,false⟩]) ?_
   exact E false
theorem i16B_ok (k:Nat) (F:Fns0) (a:FnsOk0 F):Pi16 (i16B k F):=λb c g j=>⟨λx h=>qLq k F a b c g j (some x) h,λh=>⟨_,qLq k F a b c g j none h⟩⟩
def i19p1:Pt:=nav [0,0,0] (nav [0] (bodyAt Try.f50))
def i19p2:Pt:=nav [0,0,0] i19p1
def i19d0:DP:=⟨[],[(0,0,0),(0,0,0),(0,0,1),(0,0,0),(8,0,0),(31,0,0),(63,0,0)],7,thrown,[],H0⟩
def i19B (k:Nat) (F:Fns0) (l:LN) (g:LN) (h:List S38) (m:Int) (j:Int):Option (Option (S31×Int)) :=
 bT (F.i8 g h m j) λa=>bT (F.i26 g h a.2 j) λb=>bT (F.i27 l a.1 b.1 g h b.2 j) λc=>some (some (c.1,c.2))
theorem qLp (k:Nat) (F:Fns0) (C:FnsOk0 F):∀ j l m x n r,i19B k F j l m x n=some r→CallT Try.prog 50 [.ptr 0 4 0,.str j] (mkH [⟨[.str l,w39 m,.i x,.i n],4,false⟩]) ((Xi19 j l m x n).thr r) ((Xi19 j l m x n).enc r) ((Xi19 j l m x n).fin r):=by
 intro j l m x n r h
 refine qA1 (Xi19 j l m x n) Try.func50 Kr Kr rfl (t:=i19B k F j l m x n) ?_ h
 unfold i19B
 refine qA (eE:=[(0,.ptr 0 4 0),(1,.str j)]) Kr ?_
 let J:Blk:=⟨[.str l,w39 m,.i x,.i n],4,false⟩
 let c:Blk:=⟨[.i 0,.str [],.nils,.bool false,.bool false,.nils,.nils],0,false⟩
 refine oH 7 (atN 1 (ctl1 i19p1)) [(6,.ptr 0 4 0),(4,.ptr 1 7 0),(0,.ptr 0 4 0),(1,.str j)] (mkH [J,c]) ?_
 refine oX (λ(a:(S31×Int))=>n32 a.1) (λa=>[⟨[.str l,w39 m,.i a.2,.i n],4,false⟩,c]) (atN 2 (ctl1 i19p1)) 7 [0] [] [] [0] [] [.ptr 0 4 0] (C.i8_ok l m x n) trivial (λ_=>trivial) trivial λa K=>?_
 let q:Blk:=⟨[.str l,w39 m,.i a.2,.i n],4,false⟩
 refine oH 4 i19p2 [(5,.ptr 2 7 0),(7,n32 a.1),(6,.ptr 0 4 0),(4,.ptr 1 7 0),(0,.ptr 0 4 0),(1,.str j)] (mkH [q,c,⟨e32 a.1,7,false⟩]) ?_
 refine qCe (λh=>?_) (λb u=>?_)
 ·let o:Env:=[(11,.ptr 0 4 0),(10,n32 a.1),(9,.str j),(8,.ptr 0 4 0),(5,.ptr 2 7 0),(7,n32 a.1),(6,.ptr 0 4 0),(4,.ptr 1 7 0),(0,.ptr 0 4 0),(1,.str j)]
  exact qAm (eE:=((13,.top)::(12,.top)::o)) (i19d0.th 4 thrown [0] (mkH [q,c,⟨e32 a.1,7,false⟩])) (hs:=[(mkH [q,c,⟨e32 a.1,7,false⟩]),(mkH [q,c,⟨e32 a.1,7,false⟩]),(mkH [q,c,⟨e32 a.1,7,false⟩])]) (LX:=[J]) (L:=[q,c,⟨e32 a.1,7,false⟩]) rfl rfl rfl Kr rfl ⟨.inl rfl,trivial⟩ Kr Kr Kr Kr (qA8 4 (l':=(opsAt i19p2).toList.drop 4) (eE:=o) (H':=(mkH [q,c,⟨e32 a.1,7,false⟩])) (hs:=[]) Kr (qAh (l':=(opsAt i19p2).toList.drop 5) (eE:=((12,.top)::o)) (hs:=[(mkH [q,c,⟨e32 a.1,7,false⟩])]) (fi:=64) (args:=[.ptr 0 4 0]) Kr Kr (frS 0 (M:=[q,c,⟨e32 a.1,7,false⟩]) (rs:=[0]) (ms:=[]) (mv:=[]) (mm:=[]) (D:=[0]) (xs':=[.ptr 0 4 0]) (.refl) ((C.i26_ok l m a.2 n).2 h) trivial trivial Kr) Kr (qA0 (l':=(opsAt i19p2).toList.drop 6) (eE:=((13,.top)::(12,.top)::o)) (hs:=[(mkH [q,c,⟨e32 a.1,7,false⟩])]) Kr Kr (qA0 (l':=(opsAt i19p2).toList.drop 7) (eE:=((13,.top)::(12,.top)::o)) (hs:=[(mkH [q,c,⟨e32 a.1,7,false⟩])]) Kr Kr (.nil))))) Kr Kr
 ·refine qCe (λh=>?_) (λg B=>?_)
  ·let o:Env:=[(11,.ptr 0 4 0),(10,n32 a.1),(9,.str j),(8,.ptr 0 4 0),(5,.ptr 2 7 0),(7,n32 a.1),(6,.ptr 0 4 0),(4,.ptr 1 7 0),(0,.ptr 0 4 0),(1,.str j)]
   let A:Blk:=⟨[.str l,w39 m,.i b.2,.i n],4,false⟩
   exact qAm (eE:=((13,.top)::(12,n32 b.1)::o)) (i19d0.th 5 thrown [0] (mkH [A,c,⟨e32 a.1,7,false⟩])) (hs:=[(mkH [A,c,⟨e32 a.1,7,false⟩]),(mkH [A,c,⟨e32 a.1,7,false⟩]),(mkH [A,c,⟨e32 a.1,7,false⟩])]) (LX:=[J]) (L:=[A,c,⟨e32 a.1,7,false⟩]) rfl rfl rfl Kr rfl ⟨.inl rfl,trivial⟩ Kr Kr Kr Kr (qA8 4 (l':=(opsAt i19p2).toList.drop 4) (eE:=o) (H':=(mkH [q,c,⟨e32 a.1,7,false⟩])) (hs:=[]) Kr (qA5 (l':=(opsAt i19p2).toList.drop 5) (eE:=((12,n32 b.1)::o)) (hs:=[(mkH [A,c,⟨e32 a.1,7,false⟩])]) (H':=(mkH [A,c,⟨e32 a.1,7,false⟩])) (fi:=64) (args:=[.ptr 0 4 0]) (v:=n32 b.1) Kr (frC (rs:=[0]) (ms:=[]) (ms':=[]) ((C.i26_ok l m a.2 n).1 b u) trivial trivial Kr) Kr (qAh (l':=(opsAt i19p2).toList.drop 6) (eE:=((13,.top)::(12,n32 b.1)::o)) (hs:=[(mkH [A,c,⟨e32 a.1,7,false⟩])]) (fi:=63) (args:=[.ptr 0 4 0,.str j,n32 a.1,n32 b.1]) Kr Kr (frS 0 (M:=[A,c,⟨e32 a.1,7,false⟩]) (rs:=[0]) (ms:=[]) (mv:=[]) (mm:=[]) (D:=[0]) (xs':=[.ptr 0 4 0,.str j,n32 a.1,n32 b.1]) (.refl) ((C.i27_ok j a.1 b.1 l m b.2 n).2 h) trivial trivial Kr) Kr (qA0 (l':=(opsAt i19p2).toList.drop 7) (eE:=((13,.top)::(12,n32 b.1)::o)) (hs:=[(mkH [A,c,⟨e32 a.1,7,false⟩])]) Kr Kr (.nil))))) Kr Kr
  ·let o:Env:=[(11,.ptr 0 4 0),(10,n32 a.1),(9,.str j),(8,.ptr 0 4 0),(5,.ptr 2 7 0),(7,n32 a.1),(6,.ptr 0 4 0),(4,.ptr 1 7 0),(0,.ptr 0 4 0),(1,.str j)]
   let G:Blk:=⟨[.str l,w39 m,.i g.2,.i n],4,false⟩
   let N:Blk:=⟨[.str l,w39 m,.i b.2,.i n],4,false⟩
   let E:List Blk:=[G,⟨e32 g.1,7,false⟩,⟨e32 a.1,7,false⟩]
   refine oD (H':=(mkH E)) (nav [0] i19p2) ((13,n32 g.1)::(12,n32 b.1)::o) [(mkH [N,c,⟨e32 a.1,7,false⟩]),(mkH [G,c,⟨e32 a.1,7,false⟩]),(mkH E)] i19d0 (oDr 4 4 o (qA5 (l':=(opsAt i19p2).toList.drop 5) (eE:=((12,n32 b.1)::o)) (hs:=[(mkH [N,c,⟨e32 a.1,7,false⟩])]) (H':=(mkH [N,c,⟨e32 a.1,7,false⟩])) (fi:=64) (args:=[.ptr 0 4 0]) (v:=n32 b.1) Kr (frC (rs:=[0]) (ms:=[]) (ms':=[]) ((C.i26_ok l m a.2 n).1 b u) trivial trivial Kr) Kr (qA5 (l':=(opsAt i19p2).toList.drop 6) (eE:=((13,n32 g.1)::(12,n32 b.1)::o)) (hs:=[(mkH [G,c,⟨e32 a.1,7,false⟩])]) (H':=(mkH [G,c,⟨e32 a.1,7,false⟩])) (fi:=63) (args:=[.ptr 0 4 0,.str j,n32 a.1,n32 b.1]) (v:=n32 g.1) Kr (frC (rs:=[0]) (ms:=[]) (ms':=[]) ((C.i27_ok j a.1 b.1 l m b.2 n).1 g B) trivial trivial Kr) Kr (oDh 1 7 ((13,n32 g.1)::(12,n32 b.1)::o) (mkH E) [(mkH E)] .nil)))) ?_
   exact oQF 1 E 1 [] [n32 g.1] (n32 g.1) .ps trivial
theorem i19B_ok (k:Nat) (F:Fns0) (a:FnsOk0 F):Pi19 (i19B k F):=λb c g j l=>⟨λx h=>qLp k F a b c g j l (some x) h,λh=>⟨_,qLp k F a b c g j l none h⟩⟩
def i23p1:Pt:=nav [0,0,0] (nav [0] (bodyAt Try.f70))
def i23B (k:Nat) (F:Fns0) (b:LN) (c:List S38) (g:Int) (h:Int):Option (Option (S31×Int)) :=
 bT (F.i9 (0:Int) b c g h) λa=>some (some (a.1,a.2))
theorem qLo (k:Nat) (F:Fns0) (n:FnsOk0 F):∀ b c j g r,i23B k F b c j g=some r→CallT Try.prog 70 [.ptr 0 4 0] (mkH [⟨[.str b,w39 c,.i j,.i g],4,false⟩]) ((Xi23 b c j g).thr r) ((Xi23 b c j g).enc r) ((Xi23 b c j g).fin r):=by
 intro b c j g r h
 refine qA1 (Xi23 b c j g) Try.func70 Kr Kr rfl (t:=i23B k F b c j g) ?_ h
 unfold i23B
 refine qA (eE:=[(0,.ptr 0 4 0)]) Kr ?_
 let m:Blk:=⟨[.i 0,.str [],.nils,.bool false,.bool false,.nils,.nils],0,false⟩
 refine oH 7 (atN 1 (ctl1 i23p1)) [(3,.ptr 0 4 0),(2,.ptr 1 7 0),(0,.ptr 0 4 0)] (mkH [⟨[.str b,w39 c,.i j,.i g],4,false⟩,m]) ?_
 refine oX (λ(a:(S31×Int))=>n32 a.1) (λa=>[⟨[.str b,w39 c,.i a.2,.i g],4,false⟩,m]) (atN 2 (ctl1 i23p1)) 4 [0] [] [] [0] [] [.ptr 0 4 0,.i 0] (n.i9_ok (0:Int) b c j g) trivial (λ_=>trivial) trivial λa l=>?_
 exact oQF 3 [⟨[.str b,w39 c,.i a.2,.i g],4,false⟩,⟨e32 a.1,7,false⟩] 1 [] [n32 a.1] (n32 a.1) .ps trivial
theorem i23B_ok (k:Nat) (F:Fns0) (a:FnsOk0 F):Pi23 (i23B k F):=λb c g j=>⟨λx h=>qLo k F a b c g j (some x) h,λh=>⟨_,qLo k F a b c g j none h⟩⟩
def i24p1:Pt:=nav [0,0,0,0] (nav [0] (bodyAt Try.f82))
def i24p2:Pt:=nav [0,0,0] i24p1
def i24p3:Pt:=nav [0,0] i24p2
def i24p4:Pt:=nav [1,0] i24p3
def i24p5:Pt:=nav [2,0,0,0,0] i24p3
def i24p7:Pt:=nav [0,0] i24p5
def i24p9:Pt:=nav [1,0] i24p7
def i24p10:Pt:=nav [2,0] i24p7
def i24p11:Pt:=nav [0,0] i24p10
def i24p12:Pt:=nav [1,0] i24p11
def i24p13:Pt:=nav [2,0] i24p11
def i24p14:Pt:=nav [0,0] i24p13
def i24p15:Pt:=nav [1,0] i24p14
def i24p16:Pt:=nav [2,0] i24p14
def i24p17:Pt:=nav [0,0] i24p16
def i24p18:Pt:=nav [1,0] i24p17
def i24p19:Pt:=nav [2,0] i24p17
def i24p20:Pt:=nav [0,0] i24p19
def i24p21:Pt:=nav [1,0,0] i24p20
def i24p22:Pt:=nav [2,0,0] i24p20
def i24p23:Pt:=nav [0,0] i24p21
def i24p24:Pt:=nav [1,0] i24p23
def i24p25:Pt:=nav [2,0,0] i24p23
def i24p26:Pt:=nav [0,0,0] i24p25
def i24p27:Pt:=nav [0,0,0] i24p26
def i24B (k:Nat) (F:Fns0) (h:LN) (j:List S38) (K:Int) (l:Int):Option (Option Ri24) :=
 (i13 k h j K l).bind λB=>(g87 k B.f0).bind λG=>if G then (bT (i17 k h j K l) λJ=>some (some ((⟨(1:Int),B.f1,⟨0,[]⟩,false,false,([]:LL),([]:LL)⟩:S31),false,J))) else (bT (i11 k ([40]:LN) h j K l) λo=>if o.1 then (bT (F.i29 h j o.2 l) λC=>some (some (C.1,true,C.2))) else (bT (i11 k ([123]:LN) h j o.2 l) λq=>if q.1 then (bT (F.i15 (4:Int) ([]:LN) false false ([]:LL) ([]:LL) ([125]:LN) h j q.2 l ([]:List S31)) λg=>some (some ((⟨g.1,g.2.1,⟨(g.2.2.2.2.2.2.2).length,(g.2.2.2.2.2.2.2).flatMap e32⟩,g.2.2.1,g.2.2.2.1,g.2.2.2.2.1,g.2.2.2.2.2.1⟩:S31),false,g.2.2.2.2.2.2.1))) else (bT (i11 k ([91]:LN) h j q.2 l) λr=>if r.1 then (bT (F.i30 h j r.2 l) λD=>some (some (D.1,false,D.2))) else (bT (i11 k ([60,60]:LN) h j r.2 l) λu=>if u.1 then (bT (F.i31 (6:Int) ([]:LN) false false ([]:LL) ([]:LL) ([62,62]:LN) h j u.2 l ([]:List S31)) λa=>some (some ((⟨a.1,a.2.1,⟨(a.2.2.2.2.2.2.2).length,(a.2.2.2.2.2.2.2).flatMap e32⟩,a.2.2.1,a.2.2.2.1,a.2.2.2.2.1,a.2.2.2.2.2.1⟩:S31),false,a.2.2.2.2.2.2.1))) else (bT (i11 k ([35]:LN) h j u.2 l) λm=>if m.1 then (bT (i11 k ([123]:LN) h j m.2 l) λn=>if n.1 then (bT (F.i32 (8:Int) ([]:LN) false false ([]:LL) ([]:LL) ([125]:LN) h j n.2 l ([]:List S31)) λb=>some (some ((⟨b.1,b.2.1,⟨(b.2.2.2.2.2.2.2).length,(b.2.2.2.2.2.2.2).flatMap e32⟩,b.2.2.1,b.2.2.2.1,b.2.2.2.2.1,b.2.2.2.2.2.1⟩:S31),false,b.2.2.2.2.2.2.1))) else (bT (i33 k h j n.2 l) λx=>bT (i14 k ([123]:LN) h j x.2 l) λE=>bT (F.i15 (10:Int) x.1 false false ([]:LL) ([]:LL) ([125]:LN) h j E l ([]:List S31)) λc=>some (some ((⟨c.1,c.2.1,⟨(c.2.2.2.2.2.2.2).length,(c.2.2.2.2.2.2.2).flatMap e32⟩,c.2.2.1,c.2.2.2.1,c.2.2.2.2.1,c.2.2.2.2.2.1⟩:S31),false,c.2.2.2.2.2.2.1)))) else (bT (F.i34 h j m.2 l) λA=>some (some (A.1,false,A.2))))))))
theorem qLn (k:Nat) (F:Fns0) (T:FnsOk0 F):∀ l m O n r,i24B k F l m O n=some r→CallT Try.prog 82 [.ptr 0 4 0] (mkH [⟨[.str l,w39 m,.i O,.i n],4,false⟩]) ((Xi24 l m O n).thr r) ((Xi24 l m O n).enc r) ((Xi24 l m O n).fin r):=by
 intro l m O n r h
 refine qA1 (Xi24 l m O n) Try.func82 Kr Kr rfl (t:=i24B k F l m O n) ?_ h
 unfold i24B
 refine qA (eE:=[(0,.ptr 0 4 0)]) Kr ?_
 let Q1:Blk:=⟨[.str l,w39 m,.i O,.i n],4,false⟩
 let G:Blk:=⟨[.i 0,.str [],.nils,.bool false,.bool false,.nils,.nils],0,false⟩
 refine oH 9 (atN 1 (ctl1 i24p1)) [(6,.ptr 0 4 0),(3,.bool false),(2,.ptr 1 7 0),(0,.ptr 0 4 0)] (mkH [Q1,G]) ?_
 refine oN (λ(g:S38)=>n39 g) (λg=>[Q1,G]) (atN 2 (ctl1 i24p1)) 7 [0] [] [] [.ptr 0 4 0] (qG2 k l m O n) trivial (λ_=>trivial) λg b3=>?_
 let Y:Env:=[(9,.i g.f0),(8,.ptr 2 3 0),(4,.ptr 2 3 0),(7,n39 g),(6,.ptr 0 4 0),(3,.bool false),(2,.ptr 1 7 0),(0,.ptr 0 4 0)]
 refine oH 7 (atN 2 (ctl1 i24p2)) Y (mkH [Q1,G,⟨e39 g,3,false⟩]) ?_
 refine oA (λ(L:Bool) => .bool L) (atN 3 (ctl1 i24p2)) 10 [.i g.f0] (g87_ok k g.f0) λL b4=>?_
 refine oR 1 i24p3 ((10,.bool L)::Y) ?_
 refine oS 10 (λN=>?_) (λN=>?_)
 ·refine oR 4 (atN 1 (ctl1 i24p4)) ((11,.ptr 0 4 0)::(10,.bool true)::(10,.bool L)::Y) ?_
  refine oX (λ(M:Int) => .tuple []) (λM=>[⟨[.str l,w39 m,.i M,.i n],4,false⟩,G,⟨e39 g,3,false⟩]) (atN 2 (ctl1 i24p4)) 12 [0] [] [] [] [] [.ptr 0 4 0] (qG1 k l m O n) trivial (λ_=>trivial) trivial λM b5=>?_
  refine oL 2 (nav [0,0,0] i24p4) [(2,.ptr 1 7 0),(4,.ptr 2 3 0)] ?_
  exact oQF 8 [⟨[.str l,w39 m,.i M,.i n],4,false⟩,⟨[.i 1,.str g.f1,.nils,.bool false,.bool false,.nils,.nils],7,false⟩,⟨e39 g,3,false⟩] 1 [] [.agg [.i 1,.str g.f1,.nils,.bool false,.bool false,.nils,.nils],.bool false] (.tuple [.agg [.i 1,.str g.f1,.vec 0 7 [],.bool false,.bool false,.vec 0 1 [],.vec 0 1 []],.bool false]) (.tuple (.agg (.cs (.cs (.nil (.cs (.cs (.nil (.nil .ps))))))) .ps) .ps) trivial
 ·refine oR 7 (atN 1 (ctl1 i24p5)) ((17,.ptr 0 4 0)::(10,.bool false)::(10,.bool L)::Y) ?_
  refine oX (λ(J:(Bool×Int)) => .bool J.1) (λJ=>[⟨[.str l,w39 m,.i J.2,.i n],4,false⟩,G,⟨e39 g,3,false⟩]) (atN 2 (ctl1 i24p5)) 18 [0] [] [] [] [] [.ptr 0 4 0,.str [40]] (qAb k ([40]:LN) l m O n) trivial (λ_=>trivial) trivial λJ b6=>?_
  let U:Env:=[(0,.ptr 0 4 0),(2,.ptr 1 7 0),(16,.bool J.1)]
  refine oL 2 i24p7 U ?_
  refine oS 16 (λN=>?_) (λN=>?_)
  ·refine oR 4 (atN 1 (ctl1 i24p9)) ((19,.ptr 0 4 0)::(16,.bool true)::U) ?_
   refine oX (λ(C:(S31×Int))=>n32 C.1) (λC=>[⟨[.str l,w39 m,.i C.2,.i n],4,false⟩,G,⟨e39 g,3,false⟩]) (atN 2 (ctl1 i24p9)) 20 [0] [] [] [0] [] [.ptr 0 4 0] (T.i29_ok l m J.2 n) trivial (λ_=>trivial) trivial λC b7=>?_
   exact oQF 4 [⟨[.str l,w39 m,.i C.2,.i n],4,false⟩,⟨e32 C.1,7,false⟩,⟨e39 g,3,false⟩] 1 [] [n32 C.1,.bool true] (.tuple [n32 C.1,.bool true]) .ps trivial
  ·refine oR 4 (atN 1 (ctl1 i24p10)) ((22,.ptr 0 4 0)::(16,.bool false)::U) ?_
   refine oX (λ(u:(Bool×Int)) => .bool u.1) (λu=>[⟨[.str l,w39 m,.i u.2,.i n],4,false⟩,G,⟨e39 g,3,false⟩]) (atN 2 (ctl1 i24p10)) 23 [0] [] [] [] [] [.ptr 0 4 0,.str [123]] (qAb k ([123]:LN) l m J.2 n) trivial (λ_=>trivial) trivial λu b8=>?_
   refine oR 2 i24p11 ((21,.bool u.1)::(23,.bool u.1)::(22,.ptr 0 4 0)::(16,.bool false)::U) ?_
   refine oS 21 (λN=>?_) (λN=>?_)
   ·refine oR 7 (atN 4 (ctl1 i24p12)) ((27,.func 70 [.ptr 0 4 0] [])::(26,.ptr 0 4 0)::(25,.agg [.i 4,.str [],.nils,.bool false,.bool false,.nils,.nils])::(24,.ptr 0 4 0)::(21,.bool true)::(21,.bool u.1)::(23,.bool u.1)::(22,.ptr 0 4 0)::(16,.bool false)::U) ?_
    refine oXW 1 [⟨[.str l,w39 m,.i u.2,.i n],4,false⟩,G,⟨e39 g,3,false⟩,⟨(([]:List S31)).flatMap e32,0,false⟩] (λ(j:Ri15) => .agg [.i j.1,.str j.2.1,.own 3 (j.2.2.2.2.2.2.2).length 7,.bool j.2.2.1,.bool j.2.2.2.1,w9 j.2.2.2.2.1,w9 j.2.2.2.2.2.1]) (λj=>[⟨[.str l,w39 m,.i j.2.2.2.2.2.2.1,.i n],4,false⟩,G,⟨e39 g,3,false⟩,⟨(j.2.2.2.2.2.2.2).flatMap e32,0,false⟩]) (atN 5 (ctl1 i24p12)) 28 [0,3] [0,1] [0,1] [0,3] [] [0,0,0,1] [.ptr 0 4 0,.agg [.i 4,.str [],.nils,.bool false,.bool false,.nils,.nils],.str [125],.func 70 [.ptr 0 4 0] []] [.ptr 0 4 0,.agg [.i 4,.str [],.own 3 (([]:List S31)).length 7,.bool false,.bool false,w9 ([]:LL),w9 ([]:LL)],.str [125],.func 70 [.ptr 0 4 0] []] (.cons (.agg (.cons (.cons (.none (.cons (.cons (.nil (.nil (.refl)))))))) (.refl))) (T.i15_ok (4:Int) ([]:LN) false false ([]:LL) ([]:LL) ([125]:LN) l m u.2 n ([]:List S31)) ⟨u32 _,trivial⟩ (λ_=>⟨u32 _,trivial⟩) trivial λj b9=>?_
    exact oQF 4 [⟨[.str l,w39 m,.i j.2.2.2.2.2.2.1,.i n],4,false⟩,⟨[.i j.1,.str j.2.1,.own 3 (j.2.2.2.2.2.2.2).length 7,.bool j.2.2.1,.bool j.2.2.2.1,w9 j.2.2.2.2.1,w9 j.2.2.2.2.2.1],7,false⟩,⟨e39 g,3,false⟩,⟨(j.2.2.2.2.2.2.2).flatMap e32,0,false⟩] 1 [] [.agg [.i j.1,.str j.2.1,.own 3 (j.2.2.2.2.2.2.2).length 7,.bool j.2.2.1,.bool j.2.2.2.1,w9 j.2.2.2.2.1,w9 j.2.2.2.2.2.1],.bool false] (.tuple [.agg [.i j.1,.str j.2.1,w32 j.2.2.2.2.2.2.2,.bool j.2.2.1,.bool j.2.2.2.1,w9 j.2.2.2.2.1,w9 j.2.2.2.2.2.1],.bool false]) (.tuple (.agg (.cs (.cs (qAw qA4 qAg rfl rfl rfl .ps))) .ps) .ps) trivial
   ·refine oR 4 (atN 1 (ctl1 i24p13)) ((30,.ptr 0 4 0)::(21,.bool false)::(21,.bool u.1)::(23,.bool u.1)::(22,.ptr 0 4 0)::(16,.bool false)::U) ?_
    refine oX (λ(D:(Bool×Int)) => .bool D.1) (λD=>[⟨[.str l,w39 m,.i D.2,.i n],4,false⟩,G,⟨e39 g,3,false⟩]) (atN 2 (ctl1 i24p13)) 31 [0] [] [] [] [] [.ptr 0 4 0,.str [91]] (qAb k ([91]:LN) l m u.2 n) trivial (λ_=>trivial) trivial λD c0=>?_
    refine oL 2 i24p14 [(0,.ptr 0 4 0),(2,.ptr 1 7 0),(29,.bool D.1)] ?_
    let V:Env:=[(0,.ptr 0 4 0),(2,.ptr 1 7 0),(29,.bool D.1)]
    refine oS 29 (λN=>?_) (λN=>?_)
    ·refine oR 4 (atN 1 (ctl1 i24p15)) ((32,.ptr 0 4 0)::(29,.bool true)::V) ?_
     refine oX (λ(E:(S31×Int))=>n32 E.1) (λE=>[⟨[.str l,w39 m,.i E.2,.i n],4,false⟩,G,⟨e39 g,3,false⟩]) (atN 2 (ctl1 i24p15)) 33 [0] [] [] [0] [] [.ptr 0 4 0] (T.i30_ok l m D.2 n) trivial (λ_=>trivial) trivial λE c1=>?_
     exact oQF 4 [⟨[.str l,w39 m,.i E.2,.i n],4,false⟩,⟨e32 E.1,7,false⟩,⟨e39 g,3,false⟩] 1 [] [n32 E.1,.bool false] (.tuple [n32 E.1,.bool false]) .ps trivial
    ·refine oR 4 (atN 1 (ctl1 i24p16)) ((35,.ptr 0 4 0)::(29,.bool false)::V) ?_
     refine oX (λ(x:(Bool×Int)) => .bool x.1) (λx=>[⟨[.str l,w39 m,.i x.2,.i n],4,false⟩,G,⟨e39 g,3,false⟩]) (atN 2 (ctl1 i24p16)) 36 [0] [] [] [] [] [.ptr 0 4 0,.str [60,60]] (qAb k ([60,60]:LN) l m D.2 n) trivial (λ_=>trivial) trivial λx c2=>?_
     refine oR 2 i24p17 ((34,.bool x.1)::(36,.bool x.1)::(35,.ptr 0 4 0)::(29,.bool false)::V) ?_
     refine oS 34 (λN=>?_) (λN=>?_)
     ·refine oR 7 (atN 4 (ctl1 i24p18)) ((40,.func 90 [.ptr 0 4 0] [])::(39,.ptr 0 4 0)::(38,.agg [.i 6,.str [],.nils,.bool false,.bool false,.nils,.nils])::(37,.ptr 0 4 0)::(34,.bool true)::(34,.bool x.1)::(36,.bool x.1)::(35,.ptr 0 4 0)::(29,.bool false)::V) ?_
      refine oXW 1 [⟨[.str l,w39 m,.i x.2,.i n],4,false⟩,G,⟨e39 g,3,false⟩,⟨(([]:List S31)).flatMap e32,0,false⟩] (λ(a:Ri31) => .agg [.i a.1,.str a.2.1,.own 3 (a.2.2.2.2.2.2.2).length 7,.bool a.2.2.1,.bool a.2.2.2.1,w9 a.2.2.2.2.1,w9 a.2.2.2.2.2.1]) (λa=>[⟨[.str l,w39 m,.i a.2.2.2.2.2.2.1,.i n],4,false⟩,G,⟨e39 g,3,false⟩,⟨(a.2.2.2.2.2.2.2).flatMap e32,0,false⟩]) (atN 5 (ctl1 i24p18)) 41 [0,3] [0,1] [0,1] [0,3] [] [0,0,0,1] [.ptr 0 4 0,.agg [.i 6,.str [],.nils,.bool false,.bool false,.nils,.nils],.str [62,62],.func 90 [.ptr 0 4 0] []] [.ptr 0 4 0,.agg [.i 6,.str [],.own 3 (([]:List S31)).length 7,.bool false,.bool false,w9 ([]:LL),w9 ([]:LL)],.str [62,62],.func 90 [.ptr 0 4 0] []] (.cons (.agg (.cons (.cons (.none (.cons (.cons (.nil (.nil (.refl)))))))) (.refl))) (T.i31_ok (6:Int) ([]:LN) false false ([]:LL) ([]:LL) ([62,62]:LN) l m x.2 n ([]:List S31)) ⟨u32 _,trivial⟩ (λ_=>⟨u32 _,trivial⟩) trivial λa Z=>?_
      exact oQF 4 [⟨[.str l,w39 m,.i a.2.2.2.2.2.2.1,.i n],4,false⟩,⟨[.i a.1,.str a.2.1,.own 3 (a.2.2.2.2.2.2.2).length 7,.bool a.2.2.1,.bool a.2.2.2.1,w9 a.2.2.2.2.1,w9 a.2.2.2.2.2.1],7,false⟩,⟨e39 g,3,false⟩,⟨(a.2.2.2.2.2.2.2).flatMap e32,0,false⟩] 1 [] [.agg [.i a.1,.str a.2.1,.own 3 (a.2.2.2.2.2.2.2).length 7,.bool a.2.2.1,.bool a.2.2.2.1,w9 a.2.2.2.2.1,w9 a.2.2.2.2.2.1],.bool false] (.tuple [.agg [.i a.1,.str a.2.1,w32 a.2.2.2.2.2.2.2,.bool a.2.2.1,.bool a.2.2.2.1,w9 a.2.2.2.2.1,w9 a.2.2.2.2.2.1],.bool false]) (.tuple (.agg (.cs (.cs (qAw qA4 qAg rfl rfl rfl .ps))) .ps) .ps) trivial
     ·refine oR 4 (atN 1 (ctl1 i24p19)) ((43,.ptr 0 4 0)::(34,.bool false)::(34,.bool x.1)::(36,.bool x.1)::(35,.ptr 0 4 0)::(29,.bool false)::V) ?_
      refine oX (λ(A:(Bool×Int)) => .bool A.1) (λA=>[⟨[.str l,w39 m,.i A.2,.i n],4,false⟩,G,⟨e39 g,3,false⟩]) (atN 2 (ctl1 i24p19)) 44 [0] [] [] [] [] [.ptr 0 4 0,.str [35]] (qAb k ([35]:LN) l m x.2 n) trivial (λ_=>trivial) trivial λA a4=>?_
      refine oL 2 i24p20 [(0,.ptr 0 4 0),(2,.ptr 1 7 0),(42,.bool A.1)] ?_
      let S:Env:=[(0,.ptr 0 4 0),(2,.ptr 1 7 0),(42,.bool A.1)]
      refine oS 42 (λN=>?_) (λN=>?_)
      ·refine oR 5 (atN 1 (ctl1 i24p21)) ((45,.ptr 0 4 0)::(42,.bool true)::S) ?_
       refine oX (λ(q:(Bool×Int)) => .bool q.1) (λq=>[⟨[.str l,w39 m,.i q.2,.i n],4,false⟩,G,⟨e39 g,3,false⟩]) (atN 2 (ctl1 i24p21)) 46 [0] [] [] [] [] [.ptr 0 4 0,.str [123]] (qAb k ([123]:LN) l m A.2 n) trivial (λ_=>trivial) trivial λq a5=>?_
       refine oR 1 i24p23 ((46,.bool q.1)::(45,.ptr 0 4 0)::(42,.bool true)::S) ?_
       refine oS 46 (λN=>?_) (λN=>?_)
       ·refine oR 7 (atN 4 (ctl1 i24p24)) ((50,.func 91 [.ptr 0 4 0] [])::(49,.ptr 0 4 0)::(48,.agg [.i 8,.str [],.nils,.bool false,.bool false,.nils,.nils])::(47,.ptr 0 4 0)::(46,.bool true)::(46,.bool q.1)::(45,.ptr 0 4 0)::(42,.bool true)::S) ?_
        refine oXW 1 [⟨[.str l,w39 m,.i q.2,.i n],4,false⟩,G,⟨e39 g,3,false⟩,⟨(([]:List S31)).flatMap e32,0,false⟩] (λ(b:Ri32) => .agg [.i b.1,.str b.2.1,.own 3 (b.2.2.2.2.2.2.2).length 7,.bool b.2.2.1,.bool b.2.2.2.1,w9 b.2.2.2.2.1,w9 b.2.2.2.2.2.1]) (λb=>[⟨[.str l,w39 m,.i b.2.2.2.2.2.2.1,.i n],4,false⟩,G,⟨e39 g,3,false⟩,⟨(b.2.2.2.2.2.2.2).flatMap e32,0,false⟩]) (atN 5 (ctl1 i24p24)) 51 [0,3] [0,1] [0,1] [0,3] [] [0,0,0,1] [.ptr 0 4 0,.agg [.i 8,.str [],.nils,.bool false,.bool false,.nils,.nils],.str [125],.func 91 [.ptr 0 4 0] []] [.ptr 0 4 0,.agg [.i 8,.str [],.own 3 (([]:List S31)).length 7,.bool false,.bool false,w9 ([]:LL),w9 ([]:LL)],.str [125],.func 91 [.ptr 0 4 0] []] (.cons (.agg (.cons (.cons (.none (.cons (.cons (.nil (.nil (.refl)))))))) (.refl))) (T.i32_ok (8:Int) ([]:LN) false false ([]:LL) ([]:LL) ([125]:LN) l m q.2 n ([]:List S31)) ⟨u32 _,trivial⟩ (λ_=>⟨u32 _,trivial⟩) trivial λb a6=>?_
        exact oQF 4 [⟨[.str l,w39 m,.i b.2.2.2.2.2.2.1,.i n],4,false⟩,⟨[.i b.1,.str b.2.1,.own 3 (b.2.2.2.2.2.2.2).length 7,.bool b.2.2.1,.bool b.2.2.2.1,w9 b.2.2.2.2.1,w9 b.2.2.2.2.2.1],7,false⟩,⟨e39 g,3,false⟩,⟨(b.2.2.2.2.2.2.2).flatMap e32,0,false⟩] 1 [] [.agg [.i b.1,.str b.2.1,.own 3 (b.2.2.2.2.2.2.2).length 7,.bool b.2.2.1,.bool b.2.2.2.1,w9 b.2.2.2.2.1,w9 b.2.2.2.2.2.1],.bool false] (.tuple [.agg [.i b.1,.str b.2.1,w32 b.2.2.2.2.2.2.2,.bool b.2.2.1,.bool b.2.2.2.1,w9 b.2.2.2.2.1,w9 b.2.2.2.2.2.1],.bool false]) (.tuple (.agg (.cs (.cs (qAw qA4 qAg rfl rfl rfl .ps))) .ps) .ps) trivial
       ·refine oR 5 (atN 1 (ctl1 i24p25)) ((52,.ptr 0 4 0)::(46,.bool false)::(46,.bool q.1)::(45,.ptr 0 4 0)::(42,.bool true)::S) ?_
        refine oX (λ(o:Ri33) => .str o.1) (λo=>[⟨[.str l,w39 m,.i o.2,.i n],4,false⟩,G,⟨e39 g,3,false⟩]) (atN 2 (ctl1 i24p25)) 53 [0] [] [] [] [] [.ptr 0 4 0] (qI2 k l m q.2 n) trivial (λ_=>trivial) trivial λo a7=>?_
        refine oL 3 i24p26 [(0,.ptr 0 4 0),(2,.ptr 1 7 0),(5,.str o.1)] ?_
        let W:Env:=[(0,.ptr 0 4 0),(2,.ptr 1 7 0),(5,.str o.1)]
        refine oR 2 (atN 1 (ctl1 i24p26)) ((54,.ptr 0 4 0)::W) ?_
        refine oX (λ(K:Int) => .tuple []) (λK=>[⟨[.str l,w39 m,.i K,.i n],4,false⟩,G,⟨e39 g,3,false⟩]) (atN 2 (ctl1 i24p26)) 55 [0] [] [] [0] [] [.ptr 0 4 0,.str [123]] (qB2 k ([123]:LN) l m o.2 n) trivial (λ_=>trivial) trivial λK a8=>?_
        refine oR 8 (atN 5 (ctl1 i24p27)) ((60,.func 70 [.ptr 0 4 0] [])::(59,.ptr 0 4 0)::(58,.agg [.i 10,.str o.1,.nils,.bool false,.bool false,.nils,.nils])::(57,.str o.1)::(56,.ptr 0 4 0)::(55,.tuple [])::(54,.ptr 0 4 0)::W) ?_
        refine oXW 1 [⟨[.str l,w39 m,.i K,.i n],4,false⟩,G,⟨e39 g,3,false⟩,⟨(([]:List S31)).flatMap e32,0,false⟩] (λ(c:Ri15) => .agg [.i c.1,.str c.2.1,.own 3 (c.2.2.2.2.2.2.2).length 7,.bool c.2.2.1,.bool c.2.2.2.1,w9 c.2.2.2.2.1,w9 c.2.2.2.2.2.1]) (λc=>[⟨[.str l,w39 m,.i c.2.2.2.2.2.2.1,.i n],4,false⟩,G,⟨e39 g,3,false⟩,⟨(c.2.2.2.2.2.2.2).flatMap e32,0,false⟩]) (atN 6 (ctl1 i24p27)) 61 [0,3] [0,1] [0,1] [0,3] [] [0,0,0,1] [.ptr 0 4 0,.agg [.i 10,.str o.1,.nils,.bool false,.bool false,.nils,.nils],.str [125],.func 70 [.ptr 0 4 0] []] [.ptr 0 4 0,.agg [.i 10,.str o.1,.own 3 (([]:List S31)).length 7,.bool false,.bool false,w9 ([]:LL),w9 ([]:LL)],.str [125],.func 70 [.ptr 0 4 0] []] (.cons (.agg (.cons (.cons (.none (.cons (.cons (.nil (.nil (.refl)))))))) (.refl))) (T.i15_ok (10:Int) o.1 false false ([]:LL) ([]:LL) ([125]:LN) l m K n ([]:List S31)) ⟨u32 _,trivial⟩ (λ_=>⟨u32 _,trivial⟩) trivial λc a9=>?_
        exact oQF 4 [⟨[.str l,w39 m,.i c.2.2.2.2.2.2.1,.i n],4,false⟩,⟨[.i c.1,.str c.2.1,.own 3 (c.2.2.2.2.2.2.2).length 7,.bool c.2.2.1,.bool c.2.2.2.1,w9 c.2.2.2.2.1,w9 c.2.2.2.2.2.1],7,false⟩,⟨e39 g,3,false⟩,⟨(c.2.2.2.2.2.2.2).flatMap e32,0,false⟩] 1 [] [.agg [.i c.1,.str c.2.1,.own 3 (c.2.2.2.2.2.2.2).length 7,.bool c.2.2.1,.bool c.2.2.2.1,w9 c.2.2.2.2.1,w9 c.2.2.2.2.2.1],.bool false] (.tuple [.agg [.i c.1,.str c.2.1,w32 c.2.2.2.2.2.2.2,.bool c.2.2.1,.bool c.2.2.2.1,w9 c.2.2.2.2.1,w9 c.2.2.2.2.2.1],.bool false]) (.tuple (.agg (.cs (.cs (qAw qA4 qAg rfl rfl rfl .ps))) .ps) .ps) trivial
      ·refine oR 5 (atN 1 (ctl1 i24p22)) ((62,.ptr 0 4 0)::(42,.bool false)::S) ?_
       refine oX (λ(B:(S31×Int))=>n32 B.1) (λB=>[⟨[.str l,w39 m,.i B.2,.i n],4,false⟩,G,⟨e39 g,3,false⟩]) (atN 2 (ctl1 i24p22)) 63 [0] [] [] [0] [] [.ptr 0 4 0] (T.i34_ok l m A.2 n) trivial (λ_=>trivial) trivial λB b1=>?_
       exact oQF 4 [⟨[.str l,w39 m,.i B.2,.i n],4,false⟩,⟨e32 B.1,7,false⟩,⟨e39 g,3,false⟩] 1 [] [n32 B.1,.bool false] (.tuple [n32 B.1,.bool false]) .ps trivial
theorem i24B_ok (k:Nat) (F:Fns0) (a:FnsOk0 F):Pi24 (i24B k F):=λb c g j=>⟨λx h=>qLn k F a b c g j (some x) h,λh=>⟨_,qLn k F a b c g j none h⟩⟩
def i25p1:Pt:=nav [0,0,0,0,0,0,0] (nav [0] (bodyAt Try.f83))
def i25p2:Pt:=nav [0,0] i25p1
def i25p4:Pt:=nav [2,0,0,0,0] i25p2
def i25p6:Pt:=nav [0,0] i25p4
def i25p7:Pt:=nav [1] i25p6
def i25p8:Pt:=nav [2,0] i25p6
def i25p9:Pt:=nav [0,0,0] i25p7
def i25p10:Pt:=nav [0,0] i25p8
def i25p11:Pt:=nav [1] i25p10
def i25p12:Pt:=nav [2,0] i25p10
def i25p13:Pt:=nav [0,0] i25p12
def i25p14:Pt:=nav [1] i25p13
def i25d0:DP:=⟨[45],[(0,0,1),(0,0,0),(2,0,0),(7,0,0),(15,0,0),(31,0,0)],6,thrown,[],H0⟩
def qJe (k:Nat) (F:Fns0)  (u:LN) (x:List S38) (G:Int) (A:Int) (ih:Bool→Int→S31→Option (Option (S31×Int))):Bool→Int→S31→Option (Option (S31×Int)) :=
 λ(j:Bool) (q:Int) (l:S31)=>jn (λ(h:Bool×Bool×Int×S31)=>if h.1 then (some (some (h.2.2.2,h.2.2.1))) else (bT (i11 k ([40]:LN) u x h.2.2.1 A) λc=>jn (λ(D:Int×S31)=>ih false D.1 D.2) (λC=>if c.1 then (bT (F.i15 (2:Int) ([]:LN) false false ([]:LL) ([]:LL) ([41]:LN) u x c.2 A ([h.2.2.2]:List S31)) λa=>C (a.2.2.2.2.2.2.1,(⟨a.1,a.2.1,(⟨(a.2.2.2.2.2.2.2).length,(a.2.2.2.2.2.2.2).flatMap e32⟩:Raw),a.2.2.1,a.2.2.2.1,a.2.2.2.2.1,a.2.2.2.2.2.1⟩:S31))) else (jn (λ(g:Bool×Int×S31)=>if g.1 then (bT (F.i35 u x g.2.1 A) λm=>C (m.2,(⟨3,([]:LN),(⟨(([g.2.2,m.1]:List S31)).length,(([g.2.2,m.1]:List S31)).flatMap e32⟩:Raw),false,false,([]:LL),([]:LL)⟩:S31))) else (bT (i11 k ([35]:LN) u x g.2.1 A) λn=>if n.1 then (bT (F.i36 g.2.2 u x n.2 A) λr=>C (r.2,r.1)) else (some (some (g.2.2,n.2))))) (λo=>if (!decide (h.2.2.2.f0=3)) then (if h.2.1 then (bT (i11 k ([58]:LN) u x c.2 A) λb=>o (b.1,b.2,h.2.2.2)) else (if (decide (h.2.2.2.f0=1)) then (bT (i11 k ([58]:LN) u x c.2 A) λb=>o (b.1,b.2,h.2.2.2)) else (o (false,c.2,h.2.2.2)))) else (o (false,c.2,h.2.2.2))))))) (λE=>if (!j) then ((g94 k l).bind λB=>E (!B,j,q,l)) else (E (false,j,q,l)))
def qP1 (k:Nat) (F:Fns0)  (a:LN) (b:List S38) (c:Int) (g:Int) (n:Nat):Bool→Int→S31→Option (Option (S31×Int)):=lp (λ_ _ _=>none) (qJe k F a b c g) n
theorem qP0 (k:Nat) (F:Fns0) (hF:FnsOk0 F) (a0:S31) (a1:Bool) (r:LN) (u:List S38) (Z:Int) (x:Int)    : ∀ (n:Nat) (q:Bool) (B:Int) (j:S31),Ok (Xi25 a0 a1 r u Z x) i25p1 [(0,.ptr 0 4 0),(2,.bool q),(4,.ptr 1 7 0),(6,.ptr 2 7 0)] (mkH [⟨[.str r,w39 u,.i B,.i x],4,false⟩,⟨[.i j.f0,.str j.f1,q32 j.f2,.bool j.f3,.bool j.f4,w9 j.f5,w9 j.f6],7,false⟩,⟨[.i 0,.str [],.nils,.bool false,.bool false,.nils,.nils],0,false⟩]) (qP1 k F r u Z x n q B j):=by
 intro n
 induction n with
 | zero=>intro q B j; exact ok_none
 | succ n ih =>
  intro q B j
  show Ok _ _ _ _ (qJe k F r u Z x (qP1 k F r u Z x n) q B j)
  unfold qJe
  let E2:Env:=[(9,.bool (!q)),(8,.bool (!q)),(7,.bool q),(0,.ptr 0 4 0),(2,.bool q),(4,.ptr 1 7 0),(6,.ptr 2 7 0)]
  let Q1:Blk:=⟨[.str r,w39 u,.i B,.i x],4,false⟩
  let o:Blk:=⟨[.i 0,.str [],.nils,.bool false,.bool false,.nils,.nils],0,false⟩
  refine oH 4 (atN 3 (ctl1 i25p1)) E2 (mkH [Q1,⟨e32 j,7,false⟩,o]) ?_
  refine oJ i25p2 (λ(l:Bool×Bool×Int×S31)=>[(0,.ptr 0 4 0),(2,.bool l.2.1),(4,.ptr 1 7 0),(6,.ptr 2 7 0),(13,.bool l.1)]) (λ(l:Bool×Bool×Int×S31)=>(mkH [⟨[.str r,w39 u,.i l.2.2.1,.i x],4,false⟩,⟨e32 l.2.2.2,7,false⟩,o])) (λl=>?_) (λj8 a6=>?_)
  ·refine oS 13 (λK=>?_) (λK=>?_)
   ·exact oQF 7 [⟨[.str r,w39 u,.i l.2.2.1,.i x],4,false⟩,⟨e32 l.2.2.2,7,false⟩,⟨e32 l.2.2.2,7,false⟩] 1 [] [n32 l.2.2.2] (n32 l.2.2.2) .ps trivial
   ·let E4:Env:=[(17,.ptr 0 4 0),(13,.bool false),(0,.ptr 0 4 0),(2,.bool l.2.1),(4,.ptr 1 7 0),(6,.ptr 2 7 0),(13,.bool l.1)]
    refine oH 7 (atN 1 (ctl1 i25p4)) E4 (mkH [⟨[.str r,w39 u,.i l.2.2.1,.i x],4,false⟩,⟨e32 l.2.2.2,7,false⟩,o]) ?_
    refine oX (λ(m:(Bool×Int)) => .bool m.1) (λm=>[⟨[.str r,w39 u,.i m.2,.i x],4,false⟩,⟨e32 l.2.2.2,7,false⟩,o]) (atN 2 (ctl1 i25p4)) 18 [0] [] [] [] [] [.ptr 0 4 0,.str [40]] (qAb k ([40]:LN) r u l.2.2.1 x) trivial (λ_=>trivial) trivial λm b4=>?_
    refine oR 2 i25p6 ((16,.bool m.1)::(18,.bool m.1)::E4) ?_
    refine oJ i25p9 (λ(U:Int×S31)=>[(0,.ptr 0 4 0),(4,.ptr 1 7 0),(6,.ptr 2 7 0)]) (λ(U:Int×S31)=>(mkH [⟨[.str r,w39 u,.i U.1,.i x],4,false⟩,⟨e32 U.2,7,false⟩,o])) (λU=>?_) (λj9 V=>?_)
    ·refine oLH 8 i25p1 [(0,.ptr 0 4 0),(2,.bool false),(4,.ptr 1 7 0),(6,.ptr 2 7 0)] (mkH [⟨[.str r,w39 u,.i U.1,.i x],4,false⟩,⟨e32 U.2,7,false⟩,o]) ?_
     exact ih false U.1 U.2
    ·refine oS 16 (λK=>?_) (λK=>?_)
     ·let E6:Env:=((21,.slice 3 7 0 1 7)::(20,n32 l.2.2.2)::(19,.ptr 0 4 0)::(16,.bool true)::(16,.bool m.1)::(18,.bool m.1)::E4)
      let Q3:Blk:=⟨[.str r,w39 u,.i m.2,.i x],4,false⟩
      refine oH 5 (atN 3 (ctl1 i25p7)) E6 (mkH [Q3,⟨e32 l.2.2.2,7,false⟩,o,⟨e32 l.2.2.2,0,false⟩]) ?_
      refine qDa 21 3 7 1 7 Kr rfl ?_
      let Q4:Blk:=⟨(([l.2.2.2]:List S31)).flatMap e32,0,false⟩
      refine oH 3 (atN 6 (ctl1 i25p7)) ((24,.func 70 [.ptr 0 4 0] [])::(23,.ptr 0 4 0)::(22,.agg [.i 2,.str [],.own 3 (([l.2.2.2]:List S31)).length 7,.bool false,.bool false,.nils,.nils])::(21,.own 3 (([l.2.2.2]:List S31)).length 7)::E6) (mkH [Q3,⟨e32 l.2.2.2,7,false⟩,o,Q4]) ?_
      refine oXW 0 [Q3,⟨e32 l.2.2.2,7,false⟩,o,Q4] (λ(a:Ri15) => .agg [.i a.1,.str a.2.1,.own 3 (a.2.2.2.2.2.2.2).length 7,.bool a.2.2.1,.bool a.2.2.2.1,w9 a.2.2.2.2.1,w9 a.2.2.2.2.2.1]) (λa=>[⟨[.str r,w39 u,.i a.2.2.2.2.2.2.1,.i x],4,false⟩,⟨e32 l.2.2.2,7,false⟩,o,⟨(a.2.2.2.2.2.2.2).flatMap e32,0,false⟩]) (atN 7 (ctl1 i25p7)) 25 [0,3] [0,1] [0,1] [0,3] [] [0,0,0,1] [.ptr 0 4 0,.agg [.i 2,.str [],.own 3 (([l.2.2.2]:List S31)).length 7,.bool false,.bool false,.nils,.nils],.str [41],.func 70 [.ptr 0 4 0] []] [.ptr 0 4 0,.agg [.i 2,.str [],.own 3 (([l.2.2.2]:List S31)).length 7,.bool false,.bool false,w9 ([]:LL),w9 ([]:LL)],.str [41],.func 70 [.ptr 0 4 0] []] (.cons (.agg (.cons (.cons (.cons (.cons (.cons (.nil (.nil (.refl)))))))) (.refl))) (hF.i15_ok (2:Int) ([]:LN) false false ([]:LL) ([]:LL) ([41]:LN) r u m.2 x ([l.2.2.2]:List S31)) ⟨u32 _,trivial⟩ (λ_=>⟨u32 _,trivial⟩) trivial λa b7=>?_
      let Q5:Blk:=⟨[.str r,w39 u,.i a.2.2.2.2.2.2.1,.i x],4,false⟩
      let Q6:Blk:=⟨[.i a.1,.str a.2.1,.own 3 (a.2.2.2.2.2.2.2).length 7,.bool a.2.2.1,.bool a.2.2.2.1,w9 a.2.2.2.2.1,w9 a.2.2.2.2.2.1],7,false⟩
      let Q7:Blk:=⟨(a.2.2.2.2.2.2.2).flatMap e32,0,false⟩
      refine oH 3 i25p9 ((25,.agg [.i a.1,.str a.2.1,.own 3 (a.2.2.2.2.2.2.2).length 7,.bool a.2.2.1,.bool a.2.2.2.1,w9 a.2.2.2.2.1,w9 a.2.2.2.2.2.1])::(24,.func 70 [.ptr 0 4 0] [])::(23,.ptr 0 4 0)::(22,.agg [.i 2,.str [],.own 3 (([l.2.2.2]:List S31)).length 7,.bool false,.bool false,.nils,.nils])::(21,.own 3 (([l.2.2.2]:List S31)).length 7)::E6) (mkH [Q5,Q6,o,Q7]) ?_
      let Q8:Blk:=⟨[.i a.1,.str a.2.1,w32 a.2.2.2.2.2.2.2,.bool a.2.2.1,.bool a.2.2.2.1,w9 a.2.2.2.2.1,w9 a.2.2.2.2.2.1],7,false⟩
      refine qIv [Q5,Q6,o,Q7] [Q5,Q8,o,⟨[],0,false⟩] 3 (a.2.2.2.2.2.2.2).length 7 0 ((a.2.2.2.2.2.2.2).flatMap e32) [0,4,6] (env0:=[(0,.ptr 0 4 0),(4,.ptr 1 7 0),(6,.ptr 2 7 0)]) (eE:=[(0,.ptr 0 4 0),(4,.ptr 1 7 0),(6,.ptr 2 7 0)]) Kr rfl rfl (qB qA4 _) (Nat.zero_le _) (u32 _) Kr ⟨⟨rfl,.refl Kr⟩,⟨⟨rfl,.refl Kr⟩,⟨⟨rfl,.refl Kr⟩,trivial⟩⟩⟩ ⟨.inr ⟨rfl,rfl,rfl,.refl Kr⟩,⟨.inr ⟨rfl,rfl,rfl,.cons Kr (.cons Kr (.own (.refl Kr)))⟩,⟨.inr ⟨rfl,rfl,rfl,.refl Kr⟩,⟨.inl ⟨rfl,rfl⟩,trivial⟩⟩⟩⟩ ?_
      refine qA9 [Q5,Q8,o] [⟨[],0,false⟩] Kr rfl Kr ⟨Kr,⟨Kr,⟨Kr,trivial⟩⟩⟩ ?_
      exact V (a.2.2.2.2.2.2.1,(⟨a.1,a.2.1,(⟨(a.2.2.2.2.2.2.2).length,(a.2.2.2.2.2.2.2).flatMap e32⟩:Raw),a.2.2.1,a.2.2.2.1,a.2.2.2.2.1,a.2.2.2.2.2.1⟩:S31))
     ·let E8:Env:=((30,.bool (!decide (l.2.2.2.f0=3)))::(29,.bool (!decide (l.2.2.2.f0=3)))::(28,.i l.2.2.2.f0)::(27,.ptr 1 7 0)::(16,.bool false)::(16,.bool m.1)::(18,.bool m.1)::E4)
      let Q9:Blk:=⟨[.str r,w39 u,.i m.2,.i x],4,false⟩
      refine oH 7 (atN 4 (ctl1 i25p8)) E8 (mkH [Q9,⟨e32 l.2.2.2,7,false⟩,o]) ?_
      refine oJ i25p10 (λ(b:Bool×Int×S31)=>[(0,.ptr 0 4 0),(4,.ptr 1 7 0),(6,.ptr 2 7 0),(26,.bool b.1)]) (λ(b:Bool×Int×S31)=>(mkH [⟨[.str r,w39 u,.i b.2.1,.i x],4,false⟩,⟨e32 b.2.2,7,false⟩,o])) (λb=>?_) (λc9 N=>?_)
      ·refine oS 26 (λK=>?_) (λK=>?_)
       ·let G:Blk:=⟨[.str r,w39 u,.i b.2.1,.i x],4,false⟩
        refine oH 1 i25p11 [(26,.bool true),(0,.ptr 0 4 0),(4,.ptr 1 7 0),(6,.ptr 2 7 0),(26,.bool b.1)] (mkH [G,⟨e32 b.2.2,7,false⟩,o]) ?_
        refine qCe (λh=>?_) (λg W=>?_)
        ·let E:Env:=[(43,.ptr 0 4 0),(42,n32 b.2.2),(26,.bool true),(0,.ptr 0 4 0),(4,.ptr 1 7 0),(6,.ptr 2 7 0),(26,.bool b.1)]
         exact qAm (eE:=((46,.top)::(45,.top)::(44,.top)::E)) (i25d0.th 2 thrown [0] (mkH [G,⟨e32 b.2.2,7,false⟩,o])) (hs:=[(mkH [G,⟨e32 b.2.2,7,false⟩,o]),(mkH [G,⟨e32 b.2.2,7,false⟩,o])]) (LX:=[⟨[.str r,w39 u,.i Z,.i x],4,false⟩]) (L:=[G,⟨e32 b.2.2,7,false⟩,o]) rfl rfl rfl Kr rfl ⟨.inl rfl,trivial⟩ Kr Kr Kr Kr (qA8 2 (l':=(opsAt i25p11).toList.drop 2) (eE:=E) (H':=(mkH [G,⟨e32 b.2.2,7,false⟩,o])) (hs:=[]) Kr (qAh (l':=(opsAt i25p11).toList.drop 3) (eE:=((44,.top)::E)) (hs:=[(mkH [G,⟨e32 b.2.2,7,false⟩,o])]) (fi:=95) (args:=[.ptr 0 4 0]) Kr Kr (frS 0 (M:=[G,⟨e32 b.2.2,7,false⟩,o]) (rs:=[0]) (ms:=[]) (mv:=[]) (mm:=[]) (D:=[0]) (xs':=[.ptr 0 4 0]) (.refl) ((hF.i35_ok r u b.2.1 x).2 h) trivial trivial Kr) Kr (qA0 (l':=(opsAt i25p11).toList.drop 4) (eE:=((45,.top)::(44,.top)::E)) (hs:=[]) Kr Kr (qA0 (l':=(opsAt i25p11).toList.drop 5) (eE:=((46,.top)::(45,.top)::(44,.top)::E)) (hs:=[]) Kr Kr (qA0 (l':=(opsAt i25p11).toList.drop 6) (eE:=((46,.top)::(45,.top)::(44,.top)::E)) (hs:=[(mkH [G,⟨e32 b.2.2,7,false⟩,o])]) Kr Kr (.nil)))))) Kr Kr
        ·let E:Env:=[(43,.ptr 0 4 0),(42,n32 b.2.2),(26,.bool true),(0,.ptr 0 4 0),(4,.ptr 1 7 0),(6,.ptr 2 7 0),(26,.bool b.1)]
         let J:Blk:=⟨[.str r,w39 u,.i g.2,.i x],4,false⟩
         let S:Blk:=⟨[.i 3,.str [],w32 ([b.2.2,g.1]:List S31),.bool false,.bool false,.nils,.nils],7,false⟩
         refine oD (H':=(mkH [J,S,o])) (nav [0] i25p11) ((46,.agg [.i 3,.str [],w32 ([b.2.2,g.1]:List S31),.bool false,.bool false,.nils,.nils])::(45,w32 ([b.2.2,g.1]:List S31))::(44,n32 g.1)::E) [(mkH [J,⟨e32 b.2.2,7,false⟩,o]),(mkH [J,S,o])] i25d0 (oDr 2 2 E (qA5 (l':=(opsAt i25p11).toList.drop 3) (eE:=((44,n32 g.1)::E)) (hs:=[(mkH [J,⟨e32 b.2.2,7,false⟩,o])]) (H':=(mkH [J,⟨e32 b.2.2,7,false⟩,o])) (fi:=95) (args:=[.ptr 0 4 0]) (v:=n32 g.1) Kr (frC (rs:=[0]) (ms:=[]) (ms':=[]) ((hF.i35_ok r u b.2.1 x).1 g W) trivial trivial Kr) Kr (oDh 3 6 ((46,.agg [.i 3,.str [],w32 ([b.2.2,g.1]:List S31),.bool false,.bool false,.nils,.nils])::(45,w32 ([b.2.2,g.1]:List S31))::(44,n32 g.1)::E) (mkH [J,S,o]) [(mkH [J,S,o])] .nil))) ?_
         refine oR 1 i25p9 ((46,.agg [.i 3,.str [],w32 ([b.2.2,g.1]:List S31),.bool false,.bool false,.nils,.nils])::(45,w32 ([b.2.2,g.1]:List S31))::(44,n32 g.1)::E) ?_
         refine qBu [J,S,o] 1 7 [.i 3,.str [],w32 ([b.2.2,g.1]:List S31),.bool false,.bool false,.nils,.nils] [.i 3,.str [],w32 ([b.2.2,g.1]:List S31),.bool false,.bool false,w9 ([]:LL),w9 ([]:LL)] Kr rfl (.cons (.cons (.cons (.cons (.cons (.nil (.nil (.refl)))))))) ?_
         refine oHp (mkH [J,⟨[.i 3,.str [],w32 ([b.2.2,g.1]:List S31),.bool false,.bool false,w9 ([]:LL),w9 ([]:LL)],7,false⟩,o]) ?_
         refine oK [0,4,6] [(0,.ptr 0 4 0),(4,.ptr 1 7 0),(6,.ptr 2 7 0)] ?_
         exact V (g.2,(⟨3,([]:LN),(⟨(([b.2.2,g.1]:List S31)).length,(([b.2.2,g.1]:List S31)).flatMap e32⟩:Raw),false,false,([]:LL),([]:LL)⟩:S31))
       ·let Y:Env:=[(48,.ptr 0 4 0),(26,.bool false),(0,.ptr 0 4 0),(4,.ptr 1 7 0),(6,.ptr 2 7 0),(26,.bool b.1)]
        refine oH 4 (atN 1 (ctl1 i25p12)) Y (mkH [⟨[.str r,w39 u,.i b.2.1,.i x],4,false⟩,⟨e32 b.2.2,7,false⟩,o]) ?_
        refine oX (λ(A:(Bool×Int)) => .bool A.1) (λA=>[⟨[.str r,w39 u,.i A.2,.i x],4,false⟩,⟨e32 b.2.2,7,false⟩,o]) (atN 2 (ctl1 i25p12)) 49 [0] [] [] [] [] [.ptr 0 4 0,.str [35]] (qAb k ([35]:LN) r u b.2.1 x) trivial (λ_=>trivial) trivial λA b9=>?_
        refine oR 2 i25p13 ((47,.bool A.1)::(49,.bool A.1)::Y) ?_
        refine oS 47 (λK=>?_) (λK=>?_)
        ·refine oR 4 (atN 2 (ctl1 i25p14)) ((51,n32 b.2.2)::(50,.ptr 0 4 0)::(47,.bool true)::(47,.bool A.1)::(49,.bool A.1)::Y) ?_
         refine oX (λ(C:(S31×Int))=>n32 C.1) (λC=>[⟨[.str r,w39 u,.i C.2,.i x],4,false⟩,⟨e32 b.2.2,7,false⟩,o]) (atN 3 (ctl1 i25p14)) 52 [0] [] [] [0] [] [.ptr 0 4 0,n32 b.2.2] (hF.i36_ok b.2.2 r u A.2 x) trivial (λ_=>trivial) trivial λC c0=>?_
         refine oLH 3 i25p9 [(0,.ptr 0 4 0),(4,.ptr 1 7 0),(6,.ptr 2 7 0)] (mkH [⟨[.str r,w39 u,.i C.2,.i x],4,false⟩,⟨e32 C.1,7,false⟩,o]) ?_
         exact V (C.2,C.1)
        ·exact oQF 7 [⟨[.str r,w39 u,.i A.2,.i x],4,false⟩,⟨e32 b.2.2,7,false⟩,⟨e32 b.2.2,7,false⟩] 1 [] [n32 b.2.2] (n32 b.2.2) .ps trivial
      ·refine oS 30 (λK=>?_) (λK=>?_)
       ·refine oH 2 (atN 6 (ctl1 i25p8)) ((32,.bool l.2.1)::(31,.bool l.2.1)::(30,.bool true)::E8) (mkH [Q9,⟨e32 l.2.2.2,7,false⟩,o]) ?_
        refine oS 32 (λK=>?_) (λK=>?_)
        ·refine oR 7 (atN 13 (ctl1 i25p8)) ((39,.ptr 0 4 0)::(38,.bool true)::(37,.bool true)::(36,.bool true)::(35,.tuple [])::(34,.tuple [])::(33,.tuple [])::(32,.bool true)::(32,.bool l.2.1)::(31,.bool l.2.1)::(30,.bool true)::E8) ?_
         refine oX (λ(c:(Bool×Int)) => .bool c.1) (λc=>[⟨[.str r,w39 u,.i c.2,.i x],4,false⟩,⟨e32 l.2.2.2,7,false⟩,o]) (atN 14 (ctl1 i25p8)) 40 [0] [] [] [] [] [.ptr 0 4 0,.str [58]] (qAb k ([58]:LN) r u m.2 x) trivial (λ_=>trivial) trivial λc T=>?_
         refine oL 3 i25p10 [(0,.ptr 0 4 0),(4,.ptr 1 7 0),(6,.ptr 2 7 0),(26,.bool c.1)] ?_
         exact N (c.1,c.2,l.2.2.2)
        ·let a7:Env:=((38,.bool (decide (l.2.2.2.f0=1)))::(37,.bool (decide (l.2.2.2.f0=1)))::(36,.bool (decide (l.2.2.2.f0=1)))::(35,.bool (decide (l.2.2.2.f0=1)))::(34,.i l.2.2.2.f0)::(33,.ptr 1 7 0)::(32,.bool false)::(32,.bool l.2.1)::(31,.bool l.2.1)::(30,.bool true)::E8)
         refine oR 6 (atN 12 (ctl1 i25p8)) a7 ?_
         refine oS 38 (λK=>?_) (λK=>?_)
         ·refine oR 1 (atN 13 (ctl1 i25p8)) ((39,.ptr 0 4 0)::(38,.bool true)::a7) ?_
          refine oX (λ(c:(Bool×Int)) => .bool c.1) (λc=>[⟨[.str r,w39 u,.i c.2,.i x],4,false⟩,⟨e32 l.2.2.2,7,false⟩,o]) (atN 14 (ctl1 i25p8)) 40 [0] [] [] [] [] [.ptr 0 4 0,.str [58]] (qAb k ([58]:LN) r u m.2 x) trivial (λ_=>trivial) trivial λc T=>?_
          refine oL 3 i25p10 [(0,.ptr 0 4 0),(4,.ptr 1 7 0),(6,.ptr 2 7 0),(26,.bool c.1)] ?_
          exact N (c.1,c.2,l.2.2.2)
         ·refine oL 5 i25p10 [(0,.ptr 0 4 0),(4,.ptr 1 7 0),(6,.ptr 2 7 0),(26,.bool false)] ?_
          exact N (false,m.2,l.2.2.2)
       ·refine oLH 13 i25p10 [(0,.ptr 0 4 0),(4,.ptr 1 7 0),(6,.ptr 2 7 0),(26,.bool false)] (mkH [Q9,⟨e32 l.2.2.2,7,false⟩,o]) ?_
        exact N (false,m.2,l.2.2.2)
  ·refine oS 9 (λK=>?_) (λK=>?_)
   ·refine oH 1 (atN 4 (ctl1 i25p1)) ((10,n32 j)::(9,.bool true)::E2) (mkH [Q1,⟨e32 j,7,false⟩,o]) ?_
    refine oA (λ(O:Bool) => .bool O) (atN 5 (ctl1 i25p1)) 11 [n32 j] (g94_ok k j) λO c1=>?_
    refine oL 3 i25p2 [(0,.ptr 0 4 0),(2,.bool q),(4,.ptr 1 7 0),(6,.ptr 2 7 0),(13,.bool (!O))] ?_
    exact a6 (!O,q,B,j)
   ·refine oLH 5 i25p2 [(0,.ptr 0 4 0),(2,.bool q),(4,.ptr 1 7 0),(6,.ptr 2 7 0),(13,.bool false)] (mkH [Q1,⟨e32 j,7,false⟩,o]) ?_
    exact a6 (false,q,B,j)
def i25B (k:Nat) (F:Fns0) (b:S31) (c:Bool) (g:LN) (h:List S38) (a:Int) (j:Int):Option (Option (S31×Int)) :=
 qP1 k F g h a j k c a b
theorem qLm (k:Nat) (F:Fns0) (o:FnsOk0 F):∀ a b g j c l r,i25B k F a b g j c l=some r→CallT Try.prog 83 [.ptr 0 4 0,.agg [.i a.f0,.str a.f1,q32 a.f2,.bool a.f3,.bool a.f4,w9 a.f5,w9 a.f6],.bool b] (mkH [⟨[.str g,w39 j,.i c,.i l],4,false⟩]) ((Xi25 a b g j c l).thr r) ((Xi25 a b g j c l).enc r) ((Xi25 a b g j c l).fin r):=by
 intro a b g j c l r h
 refine qA1 (Xi25 a b g j c l) Try.func83 Kr Kr rfl (t:=i25B k F a b g j c l) ?_ h
 unfold i25B
 refine qA (eE:=[(0,.ptr 0 4 0),(1,.agg [.i a.f0,.str a.f1,q32 a.f2,.bool a.f3,.bool a.f4,w9 a.f5,w9 a.f6]),(2,.bool b)]) Kr ?_
 let m:Blk:=⟨[.str g,w39 j,.i c,.i l],4,false⟩
 let n:Blk:=⟨[.i 0,.str [],.nils,.bool false,.bool false,.nils,.nils],0,false⟩
 refine oLH 10 i25p1 [(0,.ptr 0 4 0),(2,.bool b),(4,.ptr 1 7 0),(6,.ptr 2 7 0)] (mkH [m,⟨e32 a,0,false⟩,n]) ?_
 refine qEy [m,⟨e32 a,0,false⟩,n] 1 [.i a.f0,.str a.f1,q32 a.f2,.bool a.f3,.bool a.f4,w9 a.f5,w9 a.f6] 0 7 rfl rfl (by decide) ?_
 refine oHp (mkH [m,⟨e32 a,7,false⟩,n]) ?_
 exact (qP0 k F o a b g j c l k) b c a
theorem i25B_ok (k:Nat) (F:Fns0) (a:FnsOk0 F):Pi25 (i25B k F):=λb c g j l m=>⟨λx h=>qLm k F a b c g j l m (some x) h,λh=>⟨_,qLm k F a b c g j l m none h⟩⟩
def i26p1:Pt:=nav [0,0,0,0] (nav [0] (bodyAt Try.f64))
def i26p2:Pt:=nav [0,0] i26p1
def i26p3:Pt:=nav [1,0] i26p2
def i26B (k:Nat) (F:Fns0) (c:LN) (g:List S38) (j:Int) (h:Int):Option (Option (S31×Int)) :=
 bT (i11 k ([119,104,101,110]:LN) c g j h) λa=>if a.1 then (bT (F.i37 c g a.2 h) λb=>some (some (b.1,b.2))) else (some (some ((⟨(24:Int),([]:LN),⟨0,[]⟩,false,false,([]:LL),([]:LL)⟩:S31),a.2)))
theorem qLl (k:Nat) (F:Fns0) (q:FnsOk0 F):∀ c g l j r,i26B k F c g l j=some r→CallT Try.prog 64 [.ptr 0 4 0] (mkH [⟨[.str c,w39 g,.i l,.i j],4,false⟩]) ((Xi26 c g l j).thr r) ((Xi26 c g l j).enc r) ((Xi26 c g l j).fin r):=by
 intro c g l j r h
 refine qA1 (Xi26 c g l j) Try.func64 Kr Kr rfl (t:=i26B k F c g l j) ?_ h
 unfold i26B
 refine qA (eE:=[(0,.ptr 0 4 0)]) Kr ?_
 let m:Blk:=⟨[.i 0,.str [],.nils,.bool false,.bool false,.nils,.nils],0,false⟩
 refine oH 8 (atN 1 (ctl1 i26p1)) [(3,.ptr 0 4 0),(2,.ptr 1 7 0),(0,.ptr 0 4 0)] (mkH [⟨[.str c,w39 g,.i l,.i j],4,false⟩,m]) ?_
 refine oX (λ(a:(Bool×Int)) => .bool a.1) (λa=>[⟨[.str c,w39 g,.i a.2,.i j],4,false⟩,m]) (atN 2 (ctl1 i26p1)) 4 [0] [] [] [] [] [.ptr 0 4 0,.str [119,104,101,110]] (qAb k ([119,104,101,110]:LN) c g l j) trivial (λ_=>trivial) trivial λa n=>?_
 refine oR 1 i26p2 [(4,.bool a.1),(3,.ptr 0 4 0),(2,.ptr 1 7 0),(0,.ptr 0 4 0)] ?_
 refine oS 4 (λu=>?_) (λu=>?_)
 ·refine oR 4 (atN 1 (ctl1 i26p3)) [(5,.ptr 0 4 0),(4,.bool true),(4,.bool a.1),(3,.ptr 0 4 0),(2,.ptr 1 7 0),(0,.ptr 0 4 0)] ?_
  refine oX (λ(b:(S31×Int))=>n32 b.1) (λb=>[⟨[.str c,w39 g,.i b.2,.i j],4,false⟩,m]) (atN 2 (ctl1 i26p3)) 6 [0] [] [] [0] [] [.ptr 0 4 0] (q.i37_ok c g a.2 j) trivial (λ_=>trivial) trivial λb o=>?_
  exact oQF 3 [⟨[.str c,w39 g,.i b.2,.i j],4,false⟩,⟨e32 b.1,7,false⟩] 1 [] [n32 b.1] (n32 b.1) .ps trivial
 ·exact oQF 8 [⟨[.str c,w39 g,.i a.2,.i j],4,false⟩,⟨[.i 24,.str [],.nils,.bool false,.bool false,.nils,.nils],7,false⟩] 1 [] [.agg [.i 24,.str [],.nils,.bool false,.bool false,.nils,.nils]] (.agg [.i 24,.str [],.vec 0 7 [],.bool false,.bool false,.vec 0 1 [],.vec 0 1 []]) (.agg (.cs (.cs (.nil (.cs (.cs (.nil (.nil .ps))))))) .ps) trivial
theorem i26B_ok (k:Nat) (F:Fns0) (a:FnsOk0 F):Pi26 (i26B k F):=λb c g j=>⟨λx h=>qLl k F a b c g j (some x) h,λh=>⟨_,qLl k F a b c g j none h⟩⟩
def i27p1:Pt:=nav [0,0,0] (nav [0] (bodyAt Try.f63))
def i27p2:Pt:=nav [0,0,0] i27p1
def i27p3:Pt:=nav [0,0,0] i27p2
def i27d0:DP:=⟨[20],[(0,0,1),(0,0,1),(0,0,0),(4,0,0),(15,0,0),(31,0,0),(63,0,0)],7,thrown,[],H0⟩
def i27B (k:Nat) (F:Fns0) (n:LN) (l:S31) (m:S31) (g:LN) (h:List S38) (o:Int) (j:Int):Option (Option (S31×Int)) :=
 bT (i14 k ([45,62]:LN) g h o j) λb=>(i22 k g h b j).bind λc=>bT (F.i38 g h b j) λa=>some (some ((⟨(22:Int),n,⟨(([l,m,a.1]:List S31)).length,(([l,m,a.1]:List S31)).flatMap e32⟩,c,false,([]:LL),([]:LL)⟩:S31),a.2))
theorem qLk (k:Nat) (F:Fns0) (O:FnsOk0 F):∀ o a b l m u n r,i27B k F o a b l m u n=some r→CallT Try.prog 63 [.ptr 0 4 0,.str o,.agg [.i a.f0,.str a.f1,q32 a.f2,.bool a.f3,.bool a.f4,w9 a.f5,w9 a.f6],.agg [.i b.f0,.str b.f1,q32 b.f2,.bool b.f3,.bool b.f4,w9 b.f5,w9 b.f6]] (mkH [⟨[.str l,w39 m,.i u,.i n],4,false⟩]) ((Xi27 o a b l m u n).thr r) ((Xi27 o a b l m u n).enc r) ((Xi27 o a b l m u n).fin r):=by
 intro o a b l m u n r h
 refine qA1 (Xi27 o a b l m u n) Try.func63 Kr Kr rfl (t:=i27B k F o a b l m u n) ?_ h
 unfold i27B
 refine qA (eE:=[(0,.ptr 0 4 0),(1,.str o),(2,.agg [.i a.f0,.str a.f1,q32 a.f2,.bool a.f3,.bool a.f4,w9 a.f5,w9 a.f6]),(3,.agg [.i b.f0,.str b.f1,q32 b.f2,.bool b.f3,.bool b.f4,w9 b.f5,w9 b.f6])]) Kr ?_
 let S:Env:=[(10,.ptr 0 4 0),(8,.ptr 3 7 0),(7,.ptr 2 7 0),(6,.ptr 1 7 0),(0,.ptr 0 4 0),(1,.str o),(2,n32 a),(3,n32 b)]
 let T:Blk:=⟨[.str l,w39 m,.i u,.i n],4,false⟩
 let B:Blk:=⟨[.i 0,.str [],.nils,.bool false,.bool false,.nils,.nils],0,false⟩
 refine oH 9 (atN 1 (ctl1 i27p1)) S (mkH [T,⟨e32 a,0,false⟩,⟨e32 b,0,false⟩,B]) ?_
 refine oX (λ(g:Int) => .tuple []) (λg=>[⟨[.str l,w39 m,.i g,.i n],4,false⟩,⟨e32 a,0,false⟩,⟨e32 b,0,false⟩,B]) (atN 2 (ctl1 i27p1)) 11 [0] [] [] [0] [] [.ptr 0 4 0,.str [45,62]] (qB2 k ([45,62]:LN) l m u n) trivial (λ_=>trivial) trivial λg E=>?_
 refine oR 5 (atN 2 (ctl1 i27p2)) ((13,.ptr 0 4 0)::(12,.str o)::(11,.tuple [])::S) ?_
 let U:Blk:=⟨[.str l,w39 m,.i g,.i n],4,false⟩
 refine oN (λ(j:Bool) => .bool j) (λj=>[U,⟨e32 a,0,false⟩,⟨e32 b,0,false⟩,B]) (atN 3 (ctl1 i27p2)) 14 [0] [] [] [.ptr 0 4 0] (qG0 k l m g n) trivial (λ_=>trivial) λj G=>?_
 let V:Blk:=⟨[.i 22,.str o,.nils,.bool j,.bool false,.nils,.nils],7,false⟩
 let x:List Blk:=[U,⟨e32 a,0,false⟩,⟨e32 b,0,false⟩,B,V]
 refine oLH 5 i27p3 [(0,.ptr 0 4 0),(6,.ptr 1 7 0),(7,.ptr 2 7 0),(8,.ptr 3 7 0),(9,.ptr 4 7 0)] (mkH x) ?_
 refine qCe (λh=>?_) (λc A=>?_)
 ·let q:Env:=[(18,.ptr 0 4 0),(17,n32 b),(16,n32 a),(0,.ptr 0 4 0),(6,.ptr 1 7 0),(7,.ptr 2 7 0),(8,.ptr 3 7 0),(9,.ptr 4 7 0)]
  exact qAm (eE:=((21,.top)::(20,.top)::(19,.top)::q)) (i27d0.th 3 thrown [0] (mkH x)) (hs:=[(mkH x),(mkH x)]) (LX:=[T]) (L:=x) rfl rfl rfl Kr rfl ⟨.inl rfl,trivial⟩ Kr Kr Kr Kr (qA8 3 (l':=(opsAt i27p3).toList.drop 3) (eE:=q) (H':=(mkH x)) (hs:=[]) Kr (qAh (l':=(opsAt i27p3).toList.drop 4) (eE:=((19,.top)::q)) (hs:=[(mkH x)]) (fi:=77) (args:=[.ptr 0 4 0]) Kr Kr (frS 0 (M:=x) (rs:=[0]) (ms:=[]) (mv:=[]) (mm:=[]) (D:=[0]) (xs':=[.ptr 0 4 0]) (.refl) ((O.i38_ok l m g n).2 h) trivial trivial Kr) Kr (qA0 (l':=(opsAt i27p3).toList.drop 5) (eE:=((20,.top)::(19,.top)::q)) (hs:=[]) Kr Kr (qA0 (l':=(opsAt i27p3).toList.drop 6) (eE:=((21,.top)::(20,.top)::(19,.top)::q)) (hs:=[]) Kr Kr (qA0 (l':=(opsAt i27p3).toList.drop 7) (eE:=((21,.top)::(20,.top)::(19,.top)::q)) (hs:=[(mkH x)]) Kr Kr (.nil)))))) Kr Kr
 ·let q:Env:=[(18,.ptr 0 4 0),(17,n32 b),(16,n32 a),(0,.ptr 0 4 0),(6,.ptr 1 7 0),(7,.ptr 2 7 0),(8,.ptr 3 7 0),(9,.ptr 4 7 0)]
  let J:Blk:=⟨[.str l,w39 m,.i c.2,.i n],4,false⟩
  let K:Blk:=⟨[.i 22,.str o,w32 ([a,b,c.1]:List S31),.bool j,.bool false,.nils,.nils],7,false⟩
  let C:List Blk:=[J,⟨e32 a,0,false⟩,⟨e32 b,0,false⟩,B,K]
  let N:List Blk:=[J,⟨e32 a,0,false⟩,⟨e32 b,0,false⟩,B,V]
  refine oD (H':=(mkH C)) (nav [0] i27p3) ((21,.ptr 4 7 2)::(20,w32 ([a,b,c.1]:List S31))::(19,n32 c.1)::q) [(mkH N),(mkH C)] i27d0 (oDr 3 3 q (qA5 (l':=(opsAt i27p3).toList.drop 4) (eE:=((19,n32 c.1)::q)) (hs:=[(mkH N)]) (H':=(mkH N)) (fi:=77) (args:=[.ptr 0 4 0]) (v:=n32 c.1) Kr (frC (rs:=[0]) (ms:=[]) (ms':=[]) ((O.i38_ok l m g n).1 c A) trivial trivial Kr) Kr (oDh 3 7 ((21,.ptr 4 7 2)::(20,w32 ([a,b,c.1]:List S31))::(19,n32 c.1)::q) (mkH C) [(mkH C)] .nil))) ?_
  exact oQF 6 [J,⟨e32 a,0,false⟩,⟨e32 b,0,false⟩,K,K] 1 [] [.agg [.i 22,.str o,w32 ([a,b,c.1]:List S31),.bool j,.bool false,.nils,.nils]] (.agg [.i 22,.str o,w32 ([a,b,c.1]:List S31),.bool j,.bool false,.vec 0 1 [],.vec 0 1 []]) (.agg (.cs (.cs (.cs (.cs (.cs (.nil (.nil .ps))))))) .ps) trivial
theorem i27B_ok (k:Nat) (F:Fns0) (a:FnsOk0 F):Pi27 (i27B k F):=λb c g j l m n=>⟨λx h=>qLk k F a b c g j l m n (some x) h,λh=>⟨_,qLk k F a b c g j l m n none h⟩⟩
def i29p1:Pt:=nav [0,0,0] (nav [0] (bodyAt Try.f88))
def i29p2:Pt:=nav [0,0,0] i29p1
def i29B (k:Nat) (F:Fns0) (c:LN) (g:List S38) (j:Int) (h:Int):Option (Option (S31×Int)) :=
 bT (F.i9 (0:Int) c g j h) λa=>bT (i14 k ([41]:LN) c g a.2 h) λb=>some (some (a.1,b))
theorem qLj (k:Nat) (F:Fns0) (q:FnsOk0 F):∀ b c l g r,i29B k F b c l g=some r→CallT Try.prog 88 [.ptr 0 4 0] (mkH [⟨[.str b,w39 c,.i l,.i g],4,false⟩]) ((Xi29 b c l g).thr r) ((Xi29 b c l g).enc r) ((Xi29 b c l g).fin r):=by
 intro b c l g r h
 refine qA1 (Xi29 b c l g) Try.func88 Kr Kr rfl (t:=i29B k F b c l g) ?_ h
 unfold i29B
 refine qA (eE:=[(0,.ptr 0 4 0)]) Kr ?_
 let m:Blk:=⟨[.i 0,.str [],.nils,.bool false,.bool false,.nils,.nils],0,false⟩
 refine oH 7 (atN 1 (ctl1 i29p1)) [(4,.ptr 0 4 0),(2,.ptr 1 7 0),(0,.ptr 0 4 0)] (mkH [⟨[.str b,w39 c,.i l,.i g],4,false⟩,m]) ?_
 refine oX (λ(a:(S31×Int))=>n32 a.1) (λa=>[⟨[.str b,w39 c,.i a.2,.i g],4,false⟩,m]) (atN 2 (ctl1 i29p1)) 5 [0] [] [] [0] [] [.ptr 0 4 0,.i 0] (q.i9_ok (0:Int) b c l g) trivial (λ_=>trivial) trivial λa n=>?_
 refine oH 6 (atN 1 (ctl1 i29p2)) [(6,.ptr 0 4 0),(3,.ptr 2 7 0),(5,n32 a.1),(4,.ptr 0 4 0),(2,.ptr 1 7 0),(0,.ptr 0 4 0)] (mkH [⟨[.str b,w39 c,.i a.2,.i g],4,false⟩,m,⟨e32 a.1,7,false⟩]) ?_
 refine oX (λ(j:Int) => .tuple []) (λj=>[⟨[.str b,w39 c,.i j,.i g],4,false⟩,m,⟨e32 a.1,7,false⟩]) (atN 2 (ctl1 i29p2)) 7 [0] [] [] [0] [] [.ptr 0 4 0,.str [41]] (qB2 k ([41]:LN) b c a.2 g) trivial (λ_=>trivial) trivial λj o=>?_
 exact oQF 7 [⟨[.str b,w39 c,.i j,.i g],4,false⟩,⟨e32 a.1,7,false⟩,⟨e32 a.1,7,false⟩] 1 [] [n32 a.1] (n32 a.1) .ps trivial
theorem i29B_ok (k:Nat) (F:Fns0) (a:FnsOk0 F):Pi29 (i29B k F):=λb c g j=>⟨λx h=>qLj k F a b c g j (some x) h,λh=>⟨_,qLj k F a b c g j none h⟩⟩
def i30p1:Pt:=nav [0,0,0,0] (nav [0] (bodyAt Try.f89))
def i30p2:Pt:=nav [0,0,0] i30p1
def i30p3:Pt:=nav [0,0,0,0] i30p2
def i30p4:Pt:=nav [0,0] i30p3
def i30p6:Pt:=nav [2,0,0] i30p4
def i30p8:Pt:=nav [0,0,0,0] i30p6
def i30p10:Pt:=nav [0,0] i30p8
def i30p11:Pt:=nav [1,0] i30p10
def i30p12:Pt:=nav [2,0,0,0,0] i30p10
def i30p13:Pt:=nav [0,0,0] i30p12
def i30p14:Pt:=nav [0,0,0,0] i30p13
def i30p15:Pt:=nav [0,0] i30p14
def i30p16:Pt:=nav [1,0] i30p15
def i30p17:Pt:=nav [2,0,0,0] i30p15
def i30p18:Pt:=nav [0,0] i30p16
def i30p19:Pt:=nav [0,0,0] i30p17
def i30p20:Pt:=nav [0,0,0] i30p18
def i30p21:Pt:=nav [0,0] i30p19
def i30p24:Pt:=nav [2,0,0] i30p21
def i30p26:Pt:=nav [0,0,0] i30p24
def i30p27:Pt:=nav [0,0,0] i30p26
def i30p28:Pt:=nav [0,0,0] i30p27
def i30d0:DP:=⟨[46],[(0,0,0),(1,0,1),(0,0,0),(4,0,0),(12,0,0),(31,0,0),(3,0,0),(127,0,0),(255,0,0),(511,0,0)],10,thrown,[],H0⟩
def qH4 (k:Nat) (F:Fns0)  (m:LN) (n:List S38) (J:Int) (o:Int) (q:Bool) (ih:LL→Int→(List S31)→S31→Option (Option (S31×Int))):LL→Int→(List S31)→S31→Option (Option (S31×Int)) :=
 λ(A:LL) (B:Int) (C:List S31) (a:S31)=>(appS 104 C ([(⟨a.f0,a.f1,a.f2,a.f3,a.f4,A,a.f6⟩:S31)]:List S31)).bind λg=>bT (i11 k ([124]:LN) m n B o) λh=>if h.1 then (bT (F.i9 (3:Int) m n h.2 o) λr=>(appS 104 g ([r.1]:List S31)).bind λu=>(i12 k m n r.2 o).bind λx=>bT (i14 k ([93]:LN) m n x.2 o) λD=>some (some ((⟨(5:Int),([124]:LN),⟨(u).length,(u).flatMap e32⟩,q,false,([]:LL),x.1⟩:S31),D))) else ((i12 k m n h.2 o).bind λb=>bT (i11 k ([93]:LN) m n b.2 o) λc=>if c.1 then (some (some ((⟨(5:Int),([]:LN),⟨(g).length,(g).flatMap e32⟩,q,false,([]:LL),b.1⟩:S31),c.2))) else (bT (i21 k (decide ((b.1.length:Int)=0))) λG=>bT (i14 k ([44]:LN) m n c.2 o) λE=>(i12 k m n E o).bind λj=>bT (F.i9 (3:Int) m n j.2 o) λl=>ih j.1 l.2 g l.1))
def qJd (k:Nat) (F:Fns0)  (b:LN) (c:List S38) (g:Int) (h:Int) (a:Bool) (n:Nat):LL→Int→(List S31)→S31→Option (Option (S31×Int)):=lp (λ_ _ _ _=>none) (qH4 k F b c g h a) n
theorem qMn (k:Nat) (F:Fns0) (hF:FnsOk0 F) (G:LN) (J:List S38) (a2:Int) (K:Int)  (g:Bool)  : ∀ (n:Nat) (j:LL) (N:Int) (o:List S31) (a:S31),Ok (Xi30 G J a2 K) i30p12 [(0,.ptr 0 4 0),(2,.ptr 1 7 0),(3,.ptr 2 7 0),(4,w9 j),(5,.ptr 4 7 0)] (mkH [⟨[.str G,w39 J,.i N,.i K],4,false⟩,⟨[.i 0,.str [],.nils,.bool false,.bool false,.nils,.nils],0,false⟩,⟨[.i 5,.str [],.own 3 (o).length 7,.bool g,.bool false,.nils,.nils],7,false⟩,⟨(o).flatMap e32,0,false⟩,⟨[.i a.f0,.str a.f1,q32 a.f2,.bool a.f3,.bool a.f4,w9 a.f5,w9 a.f6],7,false⟩]) (qJd k F G J a2 K g n j N o a):=by
 intro n
 induction n with
 | zero=>intro j N o a; exact ok_none
 | succ n ih =>
  intro j N o a
  show Ok _ _ _ _ (qH4 k F G J a2 K g (qJd k F G J a2 K g n) j N o a)
  unfold qH4
  let Q1:Blk:=⟨[.str G,w39 J,.i N,.i K],4,false⟩
  let q:Blk:=⟨[.i 0,.str [],.nils,.bool false,.bool false,.nils,.nils],0,false⟩
  let Q3:Blk:=⟨[.i 5,.str [],.own 3 (o).length 7,.bool g,.bool false,.nils,.nils],7,false⟩
  let Q4:Blk:=⟨(o).flatMap e32,0,false⟩
  let r:Blk:=⟨[.i a.f0,.str a.f1,q32 a.f2,.bool a.f3,.bool a.f4,w9 j,w9 a.f6],7,false⟩
  let l:Blk:=⟨[.i a.f0,.str a.f1,q32 a.f2,.bool a.f3,.bool a.f4,w9 j,w9 a.f6],0,false⟩
  refine oH 11 (atN 4 (ctl1 i30p13)) [(37,.slice 5 7 0 1 7),(36,.agg [.i a.f0,.str a.f1,q32 a.f2,.bool a.f3,.bool a.f4,w9 j,w9 a.f6]),(35,.own 3 (o).length 7),(34,.ptr 2 7 2),(33,.ptr 4 7 5),(32,w9 j),(0,.ptr 0 4 0),(2,.ptr 1 7 0),(3,.ptr 2 7 0),(4,w9 j),(5,.ptr 4 7 0)] (mkH [Q1,q,Q3,Q4,r,l]) ?_
  refine oC (λ(u:List S31)=>(.own 3 (u).length 7,(mkH [Q1,q,Q3,⟨(u).flatMap e32,0,false⟩,r,l]))) (atN 5 (ctl1 i30p13)) 38 (appH (sz:=7) qA4 rfl qB0 [Q1,q,Q3,Q4,r,l] 3 104 o ([(⟨a.f0,a.f1,a.f2,a.f3,a.f4,j,a.f6⟩:S31)]:List S31) rfl rfl Kr) λu d1=>?_
  let O:Blk:=⟨[.i 5,.str [],.own 3 (u).length 7,.bool g,.bool false,.nils,.nils],7,false⟩
  let S:Blk:=⟨(u).flatMap e32,0,false⟩
  refine oLH 5 i30p14 [(0,.ptr 0 4 0),(2,.ptr 1 7 0),(3,.ptr 2 7 0),(5,.ptr 4 7 0)] (mkH [Q1,q,O,S,r,l]) ?_
  let E8:Env:=[(0,.ptr 0 4 0),(2,.ptr 1 7 0),(3,.ptr 2 7 0),(5,.ptr 4 7 0)]
  refine oR 2 (atN 1 (ctl1 i30p14)) ((40,.ptr 0 4 0)::E8) ?_
  refine oX (λ(m:(Bool×Int)) => .bool m.1) (λm=>[⟨[.str G,w39 J,.i m.2,.i K],4,false⟩,q,O,S,r,l]) (atN 2 (ctl1 i30p14)) 41 [0] [] [] [2] [0,0,0,1] [.ptr 0 4 0,.str [124]] (qAb k ([124]:LN) G J N K) trivial (λ_=>trivial) ⟨u32 _,trivial⟩ λm d2=>?_
  refine oR 1 i30p15 ((41,.bool m.1)::(40,.ptr 0 4 0)::E8) ?_
  refine oS 41 (λhb=>?_) (λhb=>?_)
  ·refine oR 2 i30p16 ((41,.bool true)::(41,.bool m.1)::(40,.ptr 0 4 0)::E8) ?_
   refine qCe (λh=>?_) (λE a7=>?_)
   ·let Y:Env:=[(44,.ptr 0 4 0),(43,.own 3 (u).length 7),(42,.ptr 2 7 2),(41,.bool true),(41,.bool m.1),(40,.ptr 0 4 0),(0,.ptr 0 4 0),(2,.ptr 1 7 0),(3,.ptr 2 7 0),(5,.ptr 4 7 0)]
    let a8:Env:=((49,.top)::(48,.ptr 2 7 1)::(47,.top)::(46,.top)::(45,.top)::Y)
    let Z:Blk:=⟨[.str G,w39 J,.i m.2,.i K],4,false⟩
    exact qAm (eE:=a8) (i30d0.th 3 thrown [0,2] (mkH [Z,q,O,S,r,l])) (hs:=[(mkH [Z,q,O,S,r,l]),(mkH [Z,q,O,S,r,l]),(mkH [Z,q,O,S,r,l]),(mkH [Z,q,O,S,r,l])]) (LX:=[⟨[.str G,w39 J,.i a2,.i K],4,false⟩]) (L:=[Z,q,O,S,r,l]) rfl rfl rfl Kr rfl ⟨.inl rfl,trivial⟩ Kr Kr Kr Kr (qA8 3 (l':=(opsAt i30p16).toList.drop 3) (eE:=Y) (H':=(mkH [Z,q,O,S,r,l])) (hs:=[]) Kr (qAh (l':=(opsAt i30p16).toList.drop 4) (eE:=((45,.top)::Y)) (hs:=[(mkH [Z,q,O,S,r,l])]) (fi:=57) (args:=[.ptr 0 4 0,.i 3]) Kr Kr (frS 0 (M:=[Z,q,O,S,r,l]) (rs:=[0]) (ms:=[]) (mv:=[0,0,0,1]) (mm:=[0,0,0,1]) (D:=[0,2]) (xs':=[.ptr 0 4 0,.i 3]) (.refl) ((hF.i9_ok (3:Int) G J m.2 K).2 h) trivial ⟨u32 _,trivial⟩ Kr) Kr (qA0 (l':=(opsAt i30p16).toList.drop 5) (eE:=((46,.top)::(45,.top)::Y)) (hs:=[]) Kr Kr (qA0 (l':=(opsAt i30p16).toList.drop 6) (eE:=((47,.top)::(46,.top)::(45,.top)::Y)) (hs:=[(mkH [Z,q,O,S,r,l])]) Kr Kr (qA8 1 (l':=(opsAt i30p16).toList.drop 7) (eE:=((48,.ptr 2 7 1)::(47,.top)::(46,.top)::(45,.top)::Y)) (H':=(mkH [Z,q,O,S,r,l])) (hs:=[]) Kr (qA0 (l':=(opsAt i30p16).toList.drop 8) (eE:=((48,.ptr 2 7 1)::(47,.top)::(46,.top)::(45,.top)::Y)) (hs:=[(mkH [Z,q,O,S,r,l])]) Kr Kr (qA0 (l':=(opsAt i30p16).toList.drop 9) (eE:=a8) (hs:=[]) Kr Kr (qA0 (l':=(opsAt i30p16).toList.drop 10) (eE:=a8) (hs:=[(mkH [Z,q,O,S,r,l])]) Kr Kr (.nil))))))))) Kr Kr
   ·refine qA7 (λb a9=>?_)
    let Y:Env:=[(44,.ptr 0 4 0),(43,.own 3 (u).length 7),(42,.ptr 2 7 2),(41,.bool true),(41,.bool m.1),(40,.ptr 0 4 0),(0,.ptr 0 4 0),(2,.ptr 1 7 0),(3,.ptr 2 7 0),(5,.ptr 4 7 0)]
    let b1:Env:=((49,.ptr 2 7 2)::(48,.ptr 2 7 1)::(47,.own 3 (b).length 7)::(46,w32 ([E.1]:List S31))::(45,n32 E.1)::Y)
    let U:Blk:=⟨[.str G,w39 J,.i E.2,.i K],4,false⟩
    let b8:Blk:=⟨[.i 5,.str [124],.own 3 (u).length 7,.bool g,.bool false,.nils,.nils],7,false⟩
    refine oD (H':=(mkH [U,q,⟨[.i 5,.str [124],.own 3 (b).length 7,.bool g,.bool false,.nils,.nils],7,false⟩,⟨(b).flatMap e32,0,false⟩,r,l])) (nav [0] i30p16) b1 [(mkH [U,q,O,S,r,l]),(mkH [U,q,O,⟨(b).flatMap e32,0,false⟩,r,l]),(mkH [U,q,b8,⟨(b).flatMap e32,0,false⟩,r,l]),(mkH [U,q,⟨[.i 5,.str [124],.own 3 (b).length 7,.bool g,.bool false,.nils,.nils],7,false⟩,⟨(b).flatMap e32,0,false⟩,r,l])] i30d0 (oDr 3 3 Y (qA5 (l':=(opsAt i30p16).toList.drop 4) (eE:=((45,n32 E.1)::Y)) (hs:=[(mkH [U,q,O,S,r,l])]) (H':=(mkH [U,q,O,S,r,l])) (fi:=57) (args:=[.ptr 0 4 0,.i 3]) (v:=n32 E.1) Kr (frC (rs:=[0]) (ms:=[]) (ms':=[]) ((hF.i9_ok (3:Int) G J m.2 K).1 E a7) trivial trivial Kr) Kr (oDr 1 5 ((46,w32 ([E.1]:List S31))::(45,n32 E.1)::Y) (qAa (l':=(opsAt i30p16).toList.drop 6) (eE:=((47,.own 3 (b).length 7)::(46,w32 ([E.1]:List S31))::(45,n32 E.1)::Y)) (hs:=[(mkH [U,q,O,⟨(b).flatMap e32,0,false⟩,r,l])]) (x:=b) (λ(b:List S31)=>(.own 3 (b).length 7,(mkH [U,q,O,⟨(b).flatMap e32,0,false⟩,r,l]))) (appHV (sz:=7) qA4 rfl qB0 [U,q,O,S,r,l] 3 104 u ([E.1]:List S31) rfl rfl Kr) a9 Kr (oDh 4 10 b1 (mkH [U,q,⟨[.i 5,.str [124],.own 3 (b).length 7,.bool g,.bool false,.nils,.nils],7,false⟩,⟨(b).flatMap e32,0,false⟩,r,l]) [(mkH [U,q,b8,⟨(b).flatMap e32,0,false⟩,r,l]),(mkH [U,q,⟨[.i 5,.str [124],.own 3 (b).length 7,.bool g,.bool false,.nils,.nils],7,false⟩,⟨(b).flatMap e32,0,false⟩,r,l])] .nil))))) ?_
    refine oR 3 (atN 1 (ctl1 i30p18)) ((50,.ptr 0 4 0)::b1) ?_
    let a5:Blk:=⟨(b).flatMap e32,0,false⟩
    refine oN (λ(T:Ri12)=>w9 T.1) (λT=>[⟨[.str G,w39 J,.i T.2,.i K],4,false⟩,q,⟨[.i 5,.str [124],.own 3 (b).length 7,.bool g,.bool false,.nils,.nils],7,false⟩,a5,r,l]) (atN 2 (ctl1 i30p18)) 51 [0] [] [] [.ptr 0 4 0] (qAp k G J E.2 K) trivial (λ_=>trivial) λT d4=>?_
    let a6:Blk:=⟨[.i 5,.str [124],.own 3 (b).length 7,.bool g,.bool false,.nils,w9 T.1],7,false⟩
    refine oLH 4 i30p20 [(0,.ptr 0 4 0),(2,.ptr 1 7 0),(3,.ptr 2 7 0)] (mkH [⟨[.str G,w39 J,.i T.2,.i K],4,false⟩,q,a6,a5,r,l]) ?_
    refine oR 2 (atN 1 (ctl1 i30p20)) ((53,.ptr 0 4 0)::[(0,.ptr 0 4 0),(2,.ptr 1 7 0),(3,.ptr 2 7 0)]) ?_
    refine oX (λ(V:Int) => .tuple []) (λV=>[⟨[.str G,w39 J,.i V,.i K],4,false⟩,q,a6,a5,r,l]) (atN 2 (ctl1 i30p20)) 54 [0] [] [] [0,2] [0,0,0,1] [.ptr 0 4 0,.str [93]] (qB2 k ([93]:LN) G J T.2 K) trivial (λ_=>trivial) ⟨u32 _,trivial⟩ λV c2=>?_
    exact oQF 7 [⟨[.str G,w39 J,.i V,.i K],4,false⟩,a6,a6,a5,r,l] 1 [] [.agg [.i 5,.str [124],.own 3 (b).length 7,.bool g,.bool false,.nils,w9 T.1]] (.agg [.i 5,.str [124],w32 b,.bool g,.bool false,.vec 0 1 [],w9 T.1]) (.agg (.cs (.cs (qAw qA4 qAg rfl rfl rfl (.cs (.cs (.nil .ps)))))) .ps) trivial
  ·refine oR 6 (atN 1 (ctl1 i30p17)) ((56,.ptr 0 4 0)::(41,.bool false)::(41,.bool m.1)::(40,.ptr 0 4 0)::E8) ?_
   refine oN (λ(c:Ri12)=>w9 c.1) (λc=>[⟨[.str G,w39 J,.i c.2,.i K],4,false⟩,q,O,S,r,l]) (atN 2 (ctl1 i30p17)) 57 [0] [] [] [.ptr 0 4 0] (qAp k G J m.2 K) trivial (λ_=>trivial) λc c3=>?_
   let b2:Env:=((58,.ptr 0 4 0)::(4,w9 c.1)::(57,w9 c.1)::(56,.ptr 0 4 0)::(41,.bool false)::(41,.bool m.1)::(40,.ptr 0 4 0)::E8)
   refine oR 5 (atN 1 (ctl1 i30p19)) b2 ?_
   refine oX (λ(A:(Bool×Int)) => .bool A.1) (λA=>[⟨[.str G,w39 J,.i A.2,.i K],4,false⟩,q,O,S,r,l]) (atN 2 (ctl1 i30p19)) 59 [0] [] [] [2] [0,0,0,1] [.ptr 0 4 0,.str [93]] (qAb k ([93]:LN) G J c.2 K) trivial (λ_=>trivial) ⟨u32 _,trivial⟩ λA c4=>?_
   refine oR 1 i30p21 ((59,.bool A.1)::b2) ?_
   refine oS 59 (λhb=>?_) (λhb=>?_)
   ·let b9:Blk:=⟨[.str G,w39 J,.i A.2,.i K],4,false⟩
    let b3:Blk:=⟨[.i 5,.str [],.own 3 (u).length 7,.bool g,.bool false,.nils,w9 c.1],7,false⟩
    refine oLH 8 (nav [0,0,0] (nav [1,0] i30p21)) [(2,.ptr 1 7 0),(3,.ptr 2 7 0)] (mkH [b9,q,b3,S,r,l]) ?_
    exact oQF 5 [b9,b3,b3,S,r,l] 1 [] [.agg [.i 5,.str [],.own 3 (u).length 7,.bool g,.bool false,.nils,w9 c.1]] (.agg [.i 5,.str [],w32 u,.bool g,.bool false,.vec 0 1 [],w9 c.1]) (.agg (.cs (.cs (qAw qA4 qAg rfl rfl rfl (.cs (.cs (.nil .ps)))))) .ps) trivial
   ·let b4:Env:=((65,.bool (decide ((c.1.length:Int)=0)))::(64,.i (c.1.length:Int))::(63,w9 c.1)::(59,.bool false)::(59,.bool A.1)::b2)
    refine oR 7 (atN 3 (ctl1 i30p24)) b4 ?_
    refine oX (λ(a4:Unit) => .tuple []) (λa4=>[⟨[.str G,w39 J,.i A.2,.i K],4,false⟩,q,O,S,r,l]) (atN 4 (ctl1 i30p24)) 66 [] [] [] [2] [0,0,0,1] [.bool (decide ((c.1.length:Int)=0))] (qD5 k (decide ((c.1.length:Int)=0))) trivial (λ_=>trivial) ⟨u32 _,trivial⟩ λa4 c5=>?_
    refine oR 2 i30p26 ((66,.tuple [])::b4) ?_
    refine oK0 [0,2,3,5] ?_
    let b5:Env:=keepOnly ((66,.tuple [])::b4) [0,2,3,5]
    refine oR 2 (atN 1 (ctl1 i30p26)) ((67,.ptr 0 4 0)::b5) ?_
    refine oX (λ(W:Int) => .tuple []) (λW=>[⟨[.str G,w39 J,.i W,.i K],4,false⟩,q,O,S,r,l]) (atN 2 (ctl1 i30p26)) 68 [0] [] [] [0,2] [0,0,0,1] [.ptr 0 4 0,.str [44]] (qB2 k ([44]:LN) G J A.2 K) trivial (λ_=>trivial) ⟨u32 _,trivial⟩ λW c6=>?_
    refine oR 4 (atN 1 (ctl1 i30p27)) ((69,.ptr 0 4 0)::(68,.tuple [])::(67,.ptr 0 4 0)::b5) ?_
    refine oN (λ(B:Ri12)=>w9 B.1) (λB=>[⟨[.str G,w39 J,.i B.2,.i K],4,false⟩,q,O,S,r,l]) (atN 2 (ctl1 i30p27)) 70 [0] [] [] [.ptr 0 4 0] (qAp k G J W K) trivial (λ_=>trivial) λB c7=>?_
    refine oR 5 (atN 1 (ctl1 i30p28)) ((71,.ptr 0 4 0)::(4,w9 B.1)::(70,w9 B.1)::(69,.ptr 0 4 0)::(68,.tuple [])::(67,.ptr 0 4 0)::b5) ?_
    refine oX (λ(C:(S31×Int))=>n32 C.1) (λC=>[⟨[.str G,w39 J,.i C.2,.i K],4,false⟩,q,O,S,r,l]) (atN 2 (ctl1 i30p28)) 72 [0] [] [] [0,2] [0,0,0,1] [.ptr 0 4 0,.i 3] (hF.i9_ok (3:Int) G J B.2 K) trivial (λ_=>trivial) ⟨u32 _,trivial⟩ λC c8=>?_
    let c0:Blk:=⟨[.str G,w39 J,.i C.2,.i K],4,false⟩
    refine oLH 6 i30p12 [(0,.ptr 0 4 0),(2,.ptr 1 7 0),(3,.ptr 2 7 0),(4,w9 B.1),(5,.ptr 4 7 0)] (mkH [c0,q,O,S,⟨e32 C.1,7,false⟩,l]) ?_
    refine qA9 [c0,q,O,S,⟨e32 C.1,7,false⟩] [l] Kr rfl Kr ⟨Kr,⟨Kr,⟨Kr,⟨(qA3 _ (u32 _)),⟨Kr,trivial⟩⟩⟩⟩⟩ ?_
    exact ih B.1 C.2 u C.1
def i30B (k:Nat) (F:Fns0) (l:LN) (m:List S38) (r:Int) (n:Int):Option (Option (S31×Int)) :=
 (i22 k l m r n).bind λg=>(i12 k l m r n).bind λb=>bT (i11 k ([93]:LN) l m b.2 n) λh=>if h.1 then (some (some ((⟨(5:Int),([]:LN),⟨(([]:List S31)).length,(([]:List S31)).flatMap e32⟩,g,false,([]:LL),b.1⟩:S31),h.2))) else (bT (F.i9 (3:Int) l m h.2 n) λc=>jn (λ(o:Bool×Int)=>if o.1 then (bT (F.i39 (15:Int) ([]:LN) g false ([]:LL) ([]:LL) l m o.2 n ([c.1]:List S31)) λa=>some (some ((⟨a.1,a.2.1,⟨(a.2.2.2.2.2.2.2).length,(a.2.2.2.2.2.2.2).flatMap e32⟩,a.2.2.1,a.2.2.2.1,a.2.2.2.2.1,a.2.2.2.2.2.1⟩:S31),a.2.2.2.2.2.2.1))) else (qJd k F l m r n g k b.1 o.2 ([]:List S31) c.1)) (λq=>if (decide ((b.1.length:Int)=0)) then (bT (i11 k ([124,124]:LN) l m c.2 n) λj=>q (j.1,j.2)) else (q (false,c.2))))
theorem qLi (k:Nat) (F:Fns0) (M:FnsOk0 F):∀ l m B n r,i30B k F l m B n=some r→CallT Try.prog 89 [.ptr 0 4 0] (mkH [⟨[.str l,w39 m,.i B,.i n],4,false⟩]) ((Xi30 l m B n).thr r) ((Xi30 l m B n).enc r) ((Xi30 l m B n).fin r):=by
 intro l m B n r h
 refine qA1 (Xi30 l m B n) Try.func89 Kr Kr rfl (t:=i30B k F l m B n) ?_ h
 unfold i30B
 refine qA (eE:=[(0,.ptr 0 4 0)]) Kr ?_
 let D:Blk:=⟨[.str l,w39 m,.i B,.i n],4,false⟩
 let q:Blk:=⟨[.i 0,.str [],.nils,.bool false,.bool false,.nils,.nils],0,false⟩
 refine oH 8 (atN 1 (ctl1 i30p1)) [(6,.ptr 0 4 0),(2,.ptr 1 7 0),(0,.ptr 0 4 0)] (mkH [D,q]) ?_
 refine oN (λ(g:Bool) => .bool g) (λg=>[D,q]) (atN 2 (ctl1 i30p1)) 7 [0] [] [] [.ptr 0 4 0] (qG0 k l m B n) trivial (λ_=>trivial) λg N=>?_
 let K:Env:=[(3,.ptr 2 7 0),(8,.agg [.i 5,.str [],.nils,.bool g,.bool false,.nils,.nils]),(7,.bool g),(6,.ptr 0 4 0),(2,.ptr 1 7 0),(0,.ptr 0 4 0)]
 let L:Blk:=⟨[.i 5,.str [],.nils,.bool g,.bool false,.nils,.nils],7,false⟩
 refine oH 5 i30p2 K (mkH [D,q,L]) ?_
 refine qGv [D,q,L] Kr ?_
 let u:Blk:=⟨(([]:List S31)).flatMap e32,0,false⟩
 refine oHp (mkH [D,q,L,u]) ?_
 refine qBu [D,q,L,u] 2 7 [.i 5,.str [],.nils,.bool g,.bool false,.nils,.nils] [.i 5,.str [],.own 3 (([]:List S31)).length 7,.bool g,.bool false,.nils,.nils] Kr rfl (.cons (.cons (.none (.refl)))) ?_
 let A:Blk:=⟨[.i 5,.str [],.own 3 (([]:List S31)).length 7,.bool g,.bool false,.nils,.nils],7,false⟩
 refine oH 2 (atN 1 (ctl1 i30p2)) ((9,.ptr 0 4 0)::K) (mkH [D,q,A,u]) ?_
 refine oN (λ(b:Ri12)=>w9 b.1) (λb=>[⟨[.str l,w39 m,.i b.2,.i n],4,false⟩,q,A,u]) (atN 2 (ctl1 i30p2)) 10 [0] [] [] [.ptr 0 4 0] (qAp k l m B n) trivial (λ_=>trivial) λb O=>?_
 refine oR 6 (atN 1 (ctl1 i30p3)) ((11,.ptr 0 4 0)::(4,w9 b.1)::(10,w9 b.1)::(9,.ptr 0 4 0)::K) ?_
 refine oX (λ(o:(Bool×Int)) => .bool o.1) (λo=>[⟨[.str l,w39 m,.i o.2,.i n],4,false⟩,q,A,u]) (atN 2 (ctl1 i30p3)) 12 [0] [] [] [2] [0,0,0,1] [.ptr 0 4 0,.str [93]] (qAb k ([93]:LN) l m b.2 n) trivial (λ_=>trivial) ⟨u32 _,trivial⟩ λo S=>?_
 let E2:Env:=((12,.bool o.1)::(11,.ptr 0 4 0)::(4,w9 b.1)::(10,w9 b.1)::(9,.ptr 0 4 0)::K)
 refine oR 1 i30p4 E2 ?_
 refine oS 12 (λE=>?_) (λE=>?_)
 ·let Q6:Blk:=⟨[.str l,w39 m,.i o.2,.i n],4,false⟩
  let T:Blk:=⟨[.i 5,.str [],.own 3 (([]:List S31)).length 7,.bool g,.bool false,.nils,w9 b.1],7,false⟩
  refine oLH 8 (nav [0,0,0] (nav [1,0] i30p4)) [(2,.ptr 1 7 0),(3,.ptr 2 7 0)] (mkH [Q6,q,T,u]) ?_
  exact oQF 5 [Q6,T,T,u] 1 [] [.agg [.i 5,.str [],.own 3 (([]:List S31)).length 7,.bool g,.bool false,.nils,w9 b.1]] (.agg [.i 5,.str [],w32 ([]:List S31),.bool g,.bool false,.vec 0 1 [],w9 b.1]) (.agg (.cs (.cs (qAw qA4 qAg rfl rfl rfl (.cs (.cs (.nil .ps)))))) .ps) trivial
 ·refine oR 5 (atN 1 (ctl1 i30p6)) ((16,.ptr 0 4 0)::(12,.bool false)::E2) ?_
  refine oX (λ(c:(S31×Int))=>n32 c.1) (λc=>[⟨[.str l,w39 m,.i c.2,.i n],4,false⟩,q,A,u]) (atN 2 (ctl1 i30p6)) 17 [0] [] [] [0,2] [0,0,0,1] [.ptr 0 4 0,.i 3] (M.i9_ok (3:Int) l m o.2 n) trivial (λ_=>trivial) ⟨u32 _,trivial⟩ λc U=>?_
  let V:Blk:=⟨[.str l,w39 m,.i c.2,.i n],4,false⟩
  refine oLH 5 i30p8 [(0,.ptr 0 4 0),(2,.ptr 1 7 0),(3,.ptr 2 7 0),(4,w9 b.1),(5,.ptr 4 7 0)] (mkH [V,q,A,u,⟨e32 c.1,7,false⟩]) ?_
  let E4:Env:=[(0,.ptr 0 4 0),(2,.ptr 1 7 0),(3,.ptr 2 7 0),(4,w9 b.1),(5,.ptr 4 7 0)]
  refine oR 5 (atN 4 (ctl1 i30p8)) ((21,.bool (decide ((b.1.length:Int)=0)))::(20,.bool (decide ((b.1.length:Int)=0)))::(19,.i (b.1.length:Int))::(18,w9 b.1)::E4) ?_
  refine oJ i30p10 (λ(x:Bool×Int)=>[(0,.ptr 0 4 0),(2,.ptr 1 7 0),(3,.ptr 2 7 0),(4,w9 b.1),(5,.ptr 4 7 0),(24,.bool x.1)]) (λ(x:Bool×Int)=>(mkH [⟨[.str l,w39 m,.i x.2,.i n],4,false⟩,q,A,u,⟨e32 c.1,7,false⟩])) (λx=>?_) (λa8 C=>?_)
  ·refine oS 24 (λE=>?_) (λE=>?_)
   ·let E5:Env:=[(29,.slice 5 7 0 1 7),(28,n32 c.1),(27,.bool g),(26,.ptr 2 7 3),(25,.ptr 0 4 0),(24,.bool true),(0,.ptr 0 4 0),(2,.ptr 1 7 0),(3,.ptr 2 7 0),(4,w9 b.1),(5,.ptr 4 7 0),(24,.bool x.1)]
    let W:Blk:=⟨[.str l,w39 m,.i x.2,.i n],4,false⟩
    refine oH 8 (atN 5 (ctl1 i30p11)) E5 (mkH [W,q,A,u,⟨e32 c.1,7,false⟩,⟨e32 c.1,0,false⟩]) ?_
    refine qDa 29 5 7 1 7 Kr rfl ?_
    let G:Blk:=⟨(([c.1]:List S31)).flatMap e32,0,false⟩
    refine oH 1 (atN 6 (ctl1 i30p11)) ((30,.agg [.i 15,.str [],.own 5 (([c.1]:List S31)).length 7,.bool g,.bool false,.nils,.nils])::(29,.own 5 (([c.1]:List S31)).length 7)::E5) (mkH [W,q,A,u,⟨e32 c.1,7,false⟩,G]) ?_
    refine oXW 0 [W,q,A,u,⟨e32 c.1,7,false⟩,G] (λ(a:Ri39) => .agg [.i a.1,.str a.2.1,.own 5 (a.2.2.2.2.2.2.2).length 7,.bool a.2.2.1,.bool a.2.2.2.1,w9 a.2.2.2.2.1,w9 a.2.2.2.2.2.1]) (λa=>[⟨[.str l,w39 m,.i a.2.2.2.2.2.2.1,.i n],4,false⟩,q,A,u,⟨e32 c.1,7,false⟩,⟨(a.2.2.2.2.2.2.2).flatMap e32,0,false⟩]) (atN 7 (ctl1 i30p11)) 31 [0,5] [0,1] [0,1] [0,2,5] [0,0,0,1] [0,0,0,1,0,1] [.ptr 0 4 0,.agg [.i 15,.str [],.own 5 (([c.1]:List S31)).length 7,.bool g,.bool false,.nils,.nils]] [.ptr 0 4 0,.agg [.i 15,.str [],.own 5 (([c.1]:List S31)).length 7,.bool g,.bool false,w9 ([]:LL),w9 ([]:LL)]] (.cons (.agg (.cons (.cons (.cons (.cons (.cons (.nil (.nil (.refl)))))))) (.refl))) (M.i39_ok (15:Int) ([]:LN) g false ([]:LL) ([]:LL) l m x.2 n ([c.1]:List S31)) ⟨u32 _,trivial⟩ (λ_=>⟨u32 _,trivial⟩) ⟨u32 _,trivial⟩ λa Y=>?_
    exact oQF 3 [⟨[.str l,w39 m,.i a.2.2.2.2.2.2.1,.i n],4,false⟩,⟨[.i a.1,.str a.2.1,.own 5 (a.2.2.2.2.2.2.2).length 7,.bool a.2.2.1,.bool a.2.2.2.1,w9 a.2.2.2.2.1,w9 a.2.2.2.2.2.1],7,false⟩,A,u,⟨e32 c.1,7,false⟩,⟨(a.2.2.2.2.2.2.2).flatMap e32,0,false⟩] 1 [] [.agg [.i a.1,.str a.2.1,.own 5 (a.2.2.2.2.2.2.2).length 7,.bool a.2.2.1,.bool a.2.2.2.1,w9 a.2.2.2.2.1,w9 a.2.2.2.2.2.1]] (.agg [.i a.1,.str a.2.1,w32 a.2.2.2.2.2.2.2,.bool a.2.2.1,.bool a.2.2.2.1,w9 a.2.2.2.2.1,w9 a.2.2.2.2.2.1]) (.agg (.cs (.cs (qAw qA4 qAg rfl rfl rfl .ps))) .ps) trivial
   ·refine oLH 5 i30p12 [(0,.ptr 0 4 0),(2,.ptr 1 7 0),(3,.ptr 2 7 0),(4,w9 b.1),(5,.ptr 4 7 0)] (mkH [⟨[.str l,w39 m,.i x.2,.i n],4,false⟩,q,A,u,⟨e32 c.1,7,false⟩]) ?_
    exact (qMn k F M l m B n g k) b.1 x.2 ([]:List S31) c.1
  ·refine oS 21 (λE=>?_) (λE=>?_)
   ·let J:Env:=((22,.ptr 0 4 0)::(21,.bool true)::(21,.bool (decide ((b.1.length:Int)=0)))::(20,.bool (decide ((b.1.length:Int)=0)))::(19,.i (b.1.length:Int))::(18,w9 b.1)::E4)
    refine oH 1 (atN 5 (ctl1 i30p8)) J (mkH [V,q,A,u,⟨e32 c.1,7,false⟩]) ?_
    refine oX (λ(j:(Bool×Int)) => .bool j.1) (λj=>[⟨[.str l,w39 m,.i j.2,.i n],4,false⟩,q,A,u,⟨e32 c.1,7,false⟩]) (atN 6 (ctl1 i30p8)) 23 [0] [] [] [2] [0,0,0,1] [.ptr 0 4 0,.str [124,124]] (qAb k ([124,124]:LN) l m c.2 n) trivial (λ_=>trivial) ⟨u32 _,trivial⟩ λj Z=>?_
    refine oR 2 i30p10 ((24,.bool j.1)::(23,.bool j.1)::J) ?_
    refine oK [0,2,3,4,5,24] [(0,.ptr 0 4 0),(2,.ptr 1 7 0),(3,.ptr 2 7 0),(4,w9 b.1),(5,.ptr 4 7 0),(24,.bool j.1)] ?_
    exact C (j.1,j.2)
   ·refine oLH 4 i30p10 [(0,.ptr 0 4 0),(2,.ptr 1 7 0),(3,.ptr 2 7 0),(4,w9 b.1),(5,.ptr 4 7 0),(24,.bool false)] (mkH [V,q,A,u,⟨e32 c.1,7,false⟩]) ?_
    exact C (false,c.2)
theorem i30B_ok (k:Nat) (F:Fns0) (a:FnsOk0 F):Pi30 (i30B k F):=λb c g j=>⟨λx h=>qLi k F a b c g j (some x) h,λh=>⟨_,qLi k F a b c g j none h⟩⟩
def i31p1:Pt:=nav [0,0,0,0] (nav [0] (bodyAt Try.f69))
def i31p2:Pt:=nav [0,0,0] i31p1
def i31p3:Pt:=nav [0,0,0,0] i31p2
def i31p4:Pt:=nav [0,0] i31p3
def i31p6:Pt:=nav [2,0,0,0,0] i31p4
def i31p10:Pt:=nav [0,0,0] (nav [0,0,0] i31p6)
def i31p11:Pt:=nav [0,0,0,0] i31p10
def i31p12:Pt:=nav [0,0,0] i31p11
def i31p13:Pt:=nav [0,0] i31p12
def i31p15:Pt:=nav [2,0,0] i31p13
def i31p17:Pt:=nav [0,0,0] i31p15
def i31p18:Pt:=nav [0,0,0] i31p17
def qH3 (k:Nat) (F:Fns0)  (A:Int) (B:LN) (C:Bool) (D:LL) (G:LL) (E:LN) (o:LN) (q:List S38) (b:Int) (r:Bool) (ih:LL→Int→(List S31)→Option (Option Ri31)):LL→Int→(List S31)→Option (Option Ri31) :=
 λ(l:LL) (m:Int) (n:List S31)=>bT (F.i40 o q m b) λa=>(appS 104 n ([(⟨a.1.f0,a.1.f1,a.1.f2,a.1.f3,a.1.f4,l,a.1.f6⟩:S31)]:List S31)).bind λh=>(i12 k o q a.2 b).bind λc=>bT (i11 k E o q c.2 b) λg=>if g.1 then (some (some (A,B,r,C,D,c.1,g.2,h))) else (bT (i21 k (decide ((c.1.length:Int)=0))) λx=>bT (i14 k ([44]:LN) o q g.2 b) λu=>(i12 k o q u b).bind λj=>ih j.1 j.2 h)
def qJc (k:Nat) (F:Fns0)  (c:Int) (g:LN) (h:Bool) (j:LL) (l:LL) (m:LN) (o:LN) (q:List S38) (b:Int) (a:Bool) (n:Nat):LL→Int→(List S31)→Option (Option Ri31):=lp (λ_ _ _=>none) (qH3 k F c g h j l m o q b a) n
theorem qMm (k:Nat) (F:Fns0) (hF:FnsOk0 F) (E:Int) (G:LN) (a2:Bool) (J:Bool) (K:LL) (S:LL) (L:LN) (u:LN) (x:List S38) (a9:Int) (h:Int) (b1:List S31)  (j:Bool)  : ∀ (n:Nat) (c:LL) (o:Int) (g:List S31),Ok (Xi31 E G a2 J K S L u x a9 h b1) i31p6 [(0,.ptr 0 4 0),(2,.str L),(3,.func 90 [.ptr 0 4 0] []),(5,.ptr 2 7 0),(8,.ptr 3 7 0),(9,w9 c)] (mkH [⟨[.str u,w39 x,.i o,.i h],4,false⟩,⟨(g).flatMap e32,0,false⟩,⟨[.i E,.str G,.own 1 (g).length 7,.bool j,.bool J,w9 K,w9 S],7,false⟩,⟨[.i 0,.str [],.nils,.bool false,.bool false,.nils,.nils],0,false⟩]) (qJc k F E G J K S L u x h j n c o g):=by
 intro n
 induction n with
 | zero=>intro c o g; exact ok_none
 | succ n ih =>
  intro c o g
  show Ok _ _ _ _ (qH3 k F E G J K S L u x h j (qJc k F E G J K S L u x h j n) c o g)
  unfold qH3
  let E5:Env:=[(22,.func 90 [.ptr 0 4 0] []),(0,.ptr 0 4 0),(2,.str L),(3,.func 90 [.ptr 0 4 0] []),(5,.ptr 2 7 0),(8,.ptr 3 7 0),(9,w9 c)]
  let Y:Blk:=⟨(g).flatMap e32,0,false⟩
  let V:Blk:=⟨[.i E,.str G,.own 1 (g).length 7,.bool j,.bool J,w9 K,w9 S],7,false⟩
  let B:Blk:=⟨[.i 0,.str [],.nils,.bool false,.bool false,.nils,.nils],0,false⟩
  refine oH 2 (atN 1 (ctl1 i31p6)) E5 (mkH [⟨[.str u,w39 x,.i o,.i h],4,false⟩,Y,V,B]) ?_
  refine oX (λ(a:(S31×Int))=>n32 a.1) (λa=>[⟨[.str u,w39 x,.i a.2,.i h],4,false⟩,Y,V,B]) (atN 2 (ctl1 i31p6)) 23 [0] [] [] [0,2] [0,1] [.ptr 0 4 0] (hF.i40_ok u x o h) trivial (λ_=>trivial) ⟨u32 _,trivial⟩ λa b2=>?_
  let Z:Blk:=⟨[.str u,w39 x,.i a.2,.i h],4,false⟩
  let C:Blk:=⟨[.i a.1.f0,.str a.1.f1,q32 a.1.f2,.bool a.1.f3,.bool a.1.f4,w9 c,w9 a.1.f6],7,false⟩
  let D:Blk:=⟨[.i a.1.f0,.str a.1.f1,q32 a.1.f2,.bool a.1.f3,.bool a.1.f4,w9 c,w9 a.1.f6],0,false⟩
  refine oH 15 (atN 4 (ctl1 i31p10)) ((29,.slice 5 7 0 1 7)::(28,.agg [.i a.1.f0,.str a.1.f1,q32 a.1.f2,.bool a.1.f3,.bool a.1.f4,w9 c,w9 a.1.f6])::(27,.own 1 (g).length 7)::(26,.ptr 2 7 2)::(25,.ptr 4 7 5)::(24,w9 c)::(10,.ptr 4 7 0)::(23,n32 a.1)::E5) (mkH [Z,Y,V,B,C,D]) ?_
  refine oC (λ(l:List S31)=>(.own 1 (l).length 7,(mkH [Z,⟨(l).flatMap e32,0,false⟩,V,B,C,D]))) (atN 5 (ctl1 i31p10)) 30 (appH (sz:=7) qA4 rfl qB0 [Z,Y,V,B,C,D] 1 104 g ([(⟨a.1.f0,a.1.f1,a.1.f2,a.1.f3,a.1.f4,c,a.1.f6⟩:S31)]:List S31) rfl rfl Kr) λl b3=>?_
  let E7:Env:=[(0,.ptr 0 4 0),(2,.str L),(3,.func 90 [.ptr 0 4 0] []),(5,.ptr 2 7 0),(8,.ptr 3 7 0)]
  let N:Blk:=⟨(l).flatMap e32,0,false⟩
  let T:Blk:=⟨[.i E,.str G,.own 1 (l).length 7,.bool j,.bool J,w9 K,w9 S],7,false⟩
  refine oLH 5 i31p11 E7 (mkH [Z,N,T,B,C,D]) ?_
  refine oR 2 (atN 1 (ctl1 i31p11)) ((32,.ptr 0 4 0)::E7) ?_
  refine oN (λ(b:Ri12)=>w9 b.1) (λb=>[⟨[.str u,w39 x,.i b.2,.i h],4,false⟩,N,T,B,C,D]) (atN 2 (ctl1 i31p11)) 33 [0] [] [] [.ptr 0 4 0] (qAp k u x a.2 h) trivial (λ_=>trivial) λb b5=>?_
  let E8:Env:=((35,.str L)::(34,.ptr 0 4 0)::(9,w9 b.1)::(33,w9 b.1)::(32,.ptr 0 4 0)::E7)
  refine oR 6 (atN 2 (ctl1 i31p12)) E8 ?_
  refine oX (λ(m:(Bool×Int)) => .bool m.1) (λm=>[⟨[.str u,w39 x,.i m.2,.i h],4,false⟩,N,T,B,C,D]) (atN 3 (ctl1 i31p12)) 36 [0] [] [] [2] [0,1] [.ptr 0 4 0,.str L] (qAb k L u x b.2 h) trivial (λ_=>trivial) ⟨u32 _,trivial⟩ λm b7=>?_
  refine oR 1 i31p13 ((36,.bool m.1)::E8) ?_
  refine oS 36 (λhb=>?_) (λhb=>?_)
  ·let Q9:Blk:=⟨[.str u,w39 x,.i m.2,.i h],4,false⟩
   let M:Blk:=⟨[.i E,.str G,.own 1 (l).length 7,.bool j,.bool J,w9 K,w9 b.1],7,false⟩
   refine oLH 8 (nav [0,0,0] (nav [1,0] i31p13)) [(5,.ptr 2 7 0),(8,.ptr 3 7 0)] (mkH [Q9,N,M,B,C,D]) ?_
   refine oH 5 .fin ((39,.agg [.i E,.str G,.own 1 (l).length 7,.bool j,.bool J,w9 K,w9 b.1])::[(5,.ptr 2 7 0),(8,.ptr 3 7 0)]) (mkH [Q9,N,M,M,C,D]) ?_
   exact qC1 (r:=some (E,G,j,J,K,b.1,m.2,l)) (xs:=[.agg [.i E,.str G,.own 1 (l).length 7,.bool j,.bool J,w9 K,w9 b.1]]) [Q9,N] [M,M,C,D] Kr Kr Kr Kr Kr ⟨Kr,⟨(qA3 _ (u32 _)),trivial⟩⟩ Kr Kr
  ·let U:Env:=((42,.bool (decide ((b.1.length:Int)=0)))::(41,.i (b.1.length:Int))::(40,w9 b.1)::(36,.bool false)::(36,.bool m.1)::E8)
   refine oR 7 (atN 3 (ctl1 i31p15)) U ?_
   refine oX (λ(O:Unit) => .tuple []) (λO=>[⟨[.str u,w39 x,.i m.2,.i h],4,false⟩,N,T,B,C,D]) (atN 4 (ctl1 i31p15)) 43 [] [] [] [2] [0,1] [.bool (decide ((b.1.length:Int)=0))] (qD5 k (decide ((b.1.length:Int)=0))) trivial (λ_=>trivial) ⟨u32 _,trivial⟩ λO b9=>?_
   refine oR 2 i31p17 ((43,.tuple [])::U) ?_
   refine oK0 [0,2,3,5,8] ?_
   let W:Env:=keepOnly ((43,.tuple [])::U) [0,2,3,5,8]
   refine oR 2 (atN 1 (ctl1 i31p17)) ((44,.ptr 0 4 0)::W) ?_
   refine oX (λ(A:Int) => .tuple []) (λA=>[⟨[.str u,w39 x,.i A,.i h],4,false⟩,N,T,B,C,D]) (atN 2 (ctl1 i31p17)) 45 [0] [] [] [0,2] [0,1] [.ptr 0 4 0,.str [44]] (qB2 k ([44]:LN) u x m.2 h) trivial (λ_=>trivial) ⟨u32 _,trivial⟩ λA c0=>?_
   refine oR 4 (atN 1 (ctl1 i31p18)) ((46,.ptr 0 4 0)::(45,.tuple [])::(44,.ptr 0 4 0)::W) ?_
   refine oN (λ(q:Ri12)=>w9 q.1) (λq=>[⟨[.str u,w39 x,.i q.2,.i h],4,false⟩,N,T,B,C,D]) (atN 2 (ctl1 i31p18)) 47 [0] [] [] [.ptr 0 4 0] (qAp k u x A h) trivial (λ_=>trivial) λq c1=>?_
   refine oL 6 i31p6 [(0,.ptr 0 4 0),(2,.str L),(3,.func 90 [.ptr 0 4 0] []),(5,.ptr 2 7 0),(8,.ptr 3 7 0),(9,w9 q.1)] ?_
   refine qA9 [⟨[.str u,w39 x,.i q.2,.i h],4,false⟩,N,T,B] [C,D] Kr rfl Kr ⟨Kr,⟨(qA3 _ (u32 _)),⟨Kr,⟨Kr,trivial⟩⟩⟩⟩ ?_
   exact ih q.1 q.2 l
def i31B (k:Nat) (F:Fns0) (l:Int) (m:LN) (A:Bool) (n:Bool) (o:LL) (x:LL) (q:LN) (h:LN) (j:List S38) (r:Int) (c:Int) (u:List S31):Option (Option Ri31) :=
 (i22 k h j r c).bind λg=>(i12 k h j r c).bind λa=>bT (i11 k q h j a.2 c) λb=>if b.1 then (some (some (l,m,g,n,o,a.1,b.2,u))) else (qJc k F l m n o x q h j c g k a.1 b.2 u)
theorem qLh (k:Nat) (F:Fns0) (V:FnsOk0 F):∀ l m B n o A q u x C c j r,i31B k F l m B n o A q u x C c j=some r→CallT Try.prog 69 [.ptr 0 4 0,.agg [.i l,.str m,.own 1 (j).length 7,.bool B,.bool n,w9 o,w9 A],.str q,.func 90 [.ptr 0 4 0] []] (mkH [⟨[.str u,w39 x,.i C,.i c],4,false⟩,⟨(j).flatMap e32,0,false⟩]) ((Xi31 l m B n o A q u x C c j).thr r) ((Xi31 l m B n o A q u x C c j).enc r) ((Xi31 l m B n o A q u x C c j).fin r):=by
 intro l m B n o A q u x C c j r h
 refine qA1 (Xi31 l m B n o A q u x C c j) Try.func69 Kr Kr rfl (t:=i31B k F l m B n o A q u x C c j) ?_ h
 unfold i31B
 refine qA (eE:=[(0,.ptr 0 4 0),(1,.agg [.i l,.str m,.own 1 (j).length 7,.bool B,.bool n,w9 o,w9 A]),(2,.str q),(3,.func 90 [.ptr 0 4 0] [])]) Kr ?_
 let J:Env:=[(11,.ptr 0 4 0),(8,.ptr 3 7 0),(5,.ptr 2 7 0),(0,.ptr 0 4 0),(1,.agg [.i l,.str m,.own 1 (j).length 7,.bool B,.bool n,w9 o,w9 A]),(2,.str q),(3,.func 90 [.ptr 0 4 0] [])]
 let K:Blk:=⟨[.str u,w39 x,.i C,.i c],4,false⟩
 let D:Blk:=⟨(j).flatMap e32,0,false⟩
 let U:Blk:=⟨[.i l,.str m,.own 1 (j).length 7,.bool B,.bool n,w9 o,w9 A],0,false⟩
 let E:Blk:=⟨[.i 0,.str [],.nils,.bool false,.bool false,.nils,.nils],0,false⟩
 refine oH 9 (atN 1 (ctl1 i31p1)) J (mkH [K,D,U,E]) ?_
 refine oN (λ(b:Bool) => .bool b) (λb=>[K,D,U,E]) (atN 2 (ctl1 i31p1)) 12 [0] [] [] [.ptr 0 4 0] (qG0 k u x C c) trivial (λ_=>trivial) λb L=>?_
 let M:Blk:=⟨[.i l,.str m,.own 1 (j).length 7,.bool b,.bool n,w9 o,w9 A],7,false⟩
 refine oH 6 (atN 1 (ctl1 i31p2)) ((14,.ptr 0 4 0)::(13,.ptr 2 7 3)::(12,.bool b)::J) (mkH [K,D,M,E]) ?_
 refine oN (λ(a:Ri12)=>w9 a.1) (λa=>[⟨[.str u,w39 x,.i a.2,.i c],4,false⟩,D,M,E]) (atN 2 (ctl1 i31p2)) 15 [0] [] [] [.ptr 0 4 0] (qAp k u x C c) trivial (λ_=>trivial) λa N=>?_
 let O:Env:=((17,.str q)::(16,.ptr 0 4 0)::(9,w9 a.1)::(15,w9 a.1)::(14,.ptr 0 4 0)::(13,.ptr 2 7 3)::(12,.bool b)::J)
 refine oR 7 (atN 2 (ctl1 i31p3)) O ?_
 refine oX (λ(g:(Bool×Int)) => .bool g.1) (λg=>[⟨[.str u,w39 x,.i g.2,.i c],4,false⟩,D,M,E]) (atN 3 (ctl1 i31p3)) 18 [0] [] [] [2] [0,1] [.ptr 0 4 0,.str q] (qAb k q u x a.2 c) trivial (λ_=>trivial) ⟨u32 _,trivial⟩ λg S=>?_
 refine oR 1 i31p4 ((18,.bool g.1)::O) ?_
 refine oK [0,2,3,5,8,9,18] [(0,.ptr 0 4 0),(2,.str q),(3,.func 90 [.ptr 0 4 0] []),(5,.ptr 2 7 0),(8,.ptr 3 7 0),(9,w9 a.1),(18,.bool g.1)] ?_
 refine oS 18 (λW=>?_) (λW=>?_)
 ·let T:Blk:=⟨[.str u,w39 x,.i g.2,.i c],4,false⟩
  let G:Blk:=⟨[.i l,.str m,.own 1 (j).length 7,.bool b,.bool n,w9 o,w9 a.1],7,false⟩
  refine oLH 8 (nav [0,0,0] (nav [1,0] i31p4)) [(5,.ptr 2 7 0),(8,.ptr 3 7 0)] (mkH [T,D,G,E]) ?_
  refine oH 5 .fin ((21,.agg [.i l,.str m,.own 1 (j).length 7,.bool b,.bool n,w9 o,w9 a.1])::[(5,.ptr 2 7 0),(8,.ptr 3 7 0)]) (mkH [T,D,G,G]) ?_
  exact qC1 (r:=some (l,m,b,n,o,a.1,g.2,j)) (xs:=[.agg [.i l,.str m,.own 1 (j).length 7,.bool b,.bool n,w9 o,w9 a.1]]) [T,D] [G,G] Kr Kr Kr Kr Kr ⟨Kr,⟨(qA3 _ (u32 _)),trivial⟩⟩ Kr Kr
 ·refine oR 5 i31p6 ((18,.bool false)::(keepOnly ((18,.bool g.1)::O) [0,2,3,5,8,9,18])) ?_
  refine oK [0,2,3,5,8,9] [(0,.ptr 0 4 0),(2,.str q),(3,.func 90 [.ptr 0 4 0] []),(5,.ptr 2 7 0),(8,.ptr 3 7 0),(9,w9 a.1)] ?_
  exact (qMm k F V l m B n o A q u x C c j b k) a.1 g.2 j
theorem i31B_ok (k:Nat) (F:Fns0) (b:FnsOk0 F):Pi31 (i31B k F):=λc g j l m n o q r u a A=>⟨λx h=>qLh k F b c g j l m n o q r u a A (some x) h,λh=>⟨_,qLh k F b c g j l m n o q r u a A none h⟩⟩
def i32p1:Pt:=nav [0,0,0,0] (nav [0] (bodyAt Try.f69))
def i32p2:Pt:=nav [0,0,0] i32p1
def i32p3:Pt:=nav [0,0,0,0] i32p2
def i32p4:Pt:=nav [0,0] i32p3
def i32p6:Pt:=nav [2,0,0,0,0] i32p4
def i32p10:Pt:=nav [0,0,0] (nav [0,0,0] i32p6)
def i32p11:Pt:=nav [0,0,0,0] i32p10
def i32p12:Pt:=nav [0,0,0] i32p11
def i32p13:Pt:=nav [0,0] i32p12
def i32p15:Pt:=nav [2,0,0] i32p13
def i32p17:Pt:=nav [0,0,0] i32p15
def i32p18:Pt:=nav [0,0,0] i32p17
def qH2 (k:Nat) (F:Fns0)  (A:Int) (B:LN) (C:Bool) (D:LL) (G:LL) (E:LN) (o:LN) (q:List S38) (b:Int) (r:Bool) (ih:LL→Int→(List S31)→Option (Option Ri32)):LL→Int→(List S31)→Option (Option Ri32) :=
 λ(l:LL) (m:Int) (n:List S31)=>bT (F.i41 o q m b) λa=>(appS 104 n ([(⟨a.1.f0,a.1.f1,a.1.f2,a.1.f3,a.1.f4,l,a.1.f6⟩:S31)]:List S31)).bind λh=>(i12 k o q a.2 b).bind λc=>bT (i11 k E o q c.2 b) λg=>if g.1 then (some (some (A,B,r,C,D,c.1,g.2,h))) else (bT (i21 k (decide ((c.1.length:Int)=0))) λx=>bT (i14 k ([44]:LN) o q g.2 b) λu=>(i12 k o q u b).bind λj=>ih j.1 j.2 h)
def qJb (k:Nat) (F:Fns0)  (c:Int) (g:LN) (h:Bool) (j:LL) (l:LL) (m:LN) (o:LN) (q:List S38) (b:Int) (a:Bool) (n:Nat):LL→Int→(List S31)→Option (Option Ri32):=lp (λ_ _ _=>none) (qH2 k F c g h j l m o q b a) n
theorem qMl (k:Nat) (F:Fns0) (hF:FnsOk0 F) (E:Int) (G:LN) (a2:Bool) (J:Bool) (K:LL) (S:LL) (L:LN) (u:LN) (x:List S38) (a9:Int) (h:Int) (b1:List S31)  (j:Bool)  : ∀ (n:Nat) (c:LL) (o:Int) (g:List S31),Ok (Xi32 E G a2 J K S L u x a9 h b1) i32p6 [(0,.ptr 0 4 0),(2,.str L),(3,.func 91 [.ptr 0 4 0] []),(5,.ptr 2 7 0),(8,.ptr 3 7 0),(9,w9 c)] (mkH [⟨[.str u,w39 x,.i o,.i h],4,false⟩,⟨(g).flatMap e32,0,false⟩,⟨[.i E,.str G,.own 1 (g).length 7,.bool j,.bool J,w9 K,w9 S],7,false⟩,⟨[.i 0,.str [],.nils,.bool false,.bool false,.nils,.nils],0,false⟩]) (qJb k F E G J K S L u x h j n c o g):=by
 intro n
 induction n with
 | zero=>intro c o g; exact ok_none
 | succ n ih =>
  intro c o g
  show Ok _ _ _ _ (qH2 k F E G J K S L u x h j (qJb k F E G J K S L u x h j n) c o g)
  unfold qH2
  let E5:Env:=[(22,.func 91 [.ptr 0 4 0] []),(0,.ptr 0 4 0),(2,.str L),(3,.func 91 [.ptr 0 4 0] []),(5,.ptr 2 7 0),(8,.ptr 3 7 0),(9,w9 c)]
  let Y:Blk:=⟨(g).flatMap e32,0,false⟩
  let V:Blk:=⟨[.i E,.str G,.own 1 (g).length 7,.bool j,.bool J,w9 K,w9 S],7,false⟩
  let B:Blk:=⟨[.i 0,.str [],.nils,.bool false,.bool false,.nils,.nils],0,false⟩
  refine oH 2 (atN 1 (ctl1 i32p6)) E5 (mkH [⟨[.str u,w39 x,.i o,.i h],4,false⟩,Y,V,B]) ?_
  refine oX (λ(a:(S31×Int))=>n32 a.1) (λa=>[⟨[.str u,w39 x,.i a.2,.i h],4,false⟩,Y,V,B]) (atN 2 (ctl1 i32p6)) 23 [0] [] [] [0,2] [0,1] [.ptr 0 4 0] (hF.i41_ok u x o h) trivial (λ_=>trivial) ⟨u32 _,trivial⟩ λa b2=>?_
  let Z:Blk:=⟨[.str u,w39 x,.i a.2,.i h],4,false⟩
  let C:Blk:=⟨[.i a.1.f0,.str a.1.f1,q32 a.1.f2,.bool a.1.f3,.bool a.1.f4,w9 c,w9 a.1.f6],7,false⟩
  let D:Blk:=⟨[.i a.1.f0,.str a.1.f1,q32 a.1.f2,.bool a.1.f3,.bool a.1.f4,w9 c,w9 a.1.f6],0,false⟩
  refine oH 15 (atN 4 (ctl1 i32p10)) ((29,.slice 5 7 0 1 7)::(28,.agg [.i a.1.f0,.str a.1.f1,q32 a.1.f2,.bool a.1.f3,.bool a.1.f4,w9 c,w9 a.1.f6])::(27,.own 1 (g).length 7)::(26,.ptr 2 7 2)::(25,.ptr 4 7 5)::(24,w9 c)::(10,.ptr 4 7 0)::(23,n32 a.1)::E5) (mkH [Z,Y,V,B,C,D]) ?_
  refine oC (λ(l:List S31)=>(.own 1 (l).length 7,(mkH [Z,⟨(l).flatMap e32,0,false⟩,V,B,C,D]))) (atN 5 (ctl1 i32p10)) 30 (appH (sz:=7) qA4 rfl qB0 [Z,Y,V,B,C,D] 1 104 g ([(⟨a.1.f0,a.1.f1,a.1.f2,a.1.f3,a.1.f4,c,a.1.f6⟩:S31)]:List S31) rfl rfl Kr) λl b3=>?_
  let E7:Env:=[(0,.ptr 0 4 0),(2,.str L),(3,.func 91 [.ptr 0 4 0] []),(5,.ptr 2 7 0),(8,.ptr 3 7 0)]
  let N:Blk:=⟨(l).flatMap e32,0,false⟩
  let T:Blk:=⟨[.i E,.str G,.own 1 (l).length 7,.bool j,.bool J,w9 K,w9 S],7,false⟩
  refine oLH 5 i32p11 E7 (mkH [Z,N,T,B,C,D]) ?_
  refine oR 2 (atN 1 (ctl1 i32p11)) ((32,.ptr 0 4 0)::E7) ?_
  refine oN (λ(b:Ri12)=>w9 b.1) (λb=>[⟨[.str u,w39 x,.i b.2,.i h],4,false⟩,N,T,B,C,D]) (atN 2 (ctl1 i32p11)) 33 [0] [] [] [.ptr 0 4 0] (qAp k u x a.2 h) trivial (λ_=>trivial) λb b5=>?_
  let E8:Env:=((35,.str L)::(34,.ptr 0 4 0)::(9,w9 b.1)::(33,w9 b.1)::(32,.ptr 0 4 0)::E7)
  refine oR 6 (atN 2 (ctl1 i32p12)) E8 ?_
  refine oX (λ(m:(Bool×Int)) => .bool m.1) (λm=>[⟨[.str u,w39 x,.i m.2,.i h],4,false⟩,N,T,B,C,D]) (atN 3 (ctl1 i32p12)) 36 [0] [] [] [2] [0,1] [.ptr 0 4 0,.str L] (qAb k L u x b.2 h) trivial (λ_=>trivial) ⟨u32 _,trivial⟩ λm b7=>?_
  refine oR 1 i32p13 ((36,.bool m.1)::E8) ?_
  refine oS 36 (λhb=>?_) (λhb=>?_)
  ·let Q9:Blk:=⟨[.str u,w39 x,.i m.2,.i h],4,false⟩
   let M:Blk:=⟨[.i E,.str G,.own 1 (l).length 7,.bool j,.bool J,w9 K,w9 b.1],7,false⟩
   refine oLH 8 (nav [0,0,0] (nav [1,0] i32p13)) [(5,.ptr 2 7 0),(8,.ptr 3 7 0)] (mkH [Q9,N,M,B,C,D]) ?_
   refine oH 5 .fin ((39,.agg [.i E,.str G,.own 1 (l).length 7,.bool j,.bool J,w9 K,w9 b.1])::[(5,.ptr 2 7 0),(8,.ptr 3 7 0)]) (mkH [Q9,N,M,M,C,D]) ?_
   exact qC1 (r:=some (E,G,j,J,K,b.1,m.2,l)) (xs:=[.agg [.i E,.str G,.own 1 (l).length 7,.bool j,.bool J,w9 K,w9 b.1]]) [Q9,N] [M,M,C,D] Kr Kr Kr Kr Kr ⟨Kr,⟨(qA3 _ (u32 _)),trivial⟩⟩ Kr Kr
  ·let U:Env:=((42,.bool (decide ((b.1.length:Int)=0)))::(41,.i (b.1.length:Int))::(40,w9 b.1)::(36,.bool false)::(36,.bool m.1)::E8)
   refine oR 7 (atN 3 (ctl1 i32p15)) U ?_
   refine oX (λ(O:Unit) => .tuple []) (λO=>[⟨[.str u,w39 x,.i m.2,.i h],4,false⟩,N,T,B,C,D]) (atN 4 (ctl1 i32p15)) 43 [] [] [] [2] [0,1] [.bool (decide ((b.1.length:Int)=0))] (qD5 k (decide ((b.1.length:Int)=0))) trivial (λ_=>trivial) ⟨u32 _,trivial⟩ λO b9=>?_
   refine oR 2 i32p17 ((43,.tuple [])::U) ?_
   refine oK0 [0,2,3,5,8] ?_
   let W:Env:=keepOnly ((43,.tuple [])::U) [0,2,3,5,8]
   refine oR 2 (atN 1 (ctl1 i32p17)) ((44,.ptr 0 4 0)::W) ?_
   refine oX (λ(A:Int) => .tuple []) (λA=>[⟨[.str u,w39 x,.i A,.i h],4,false⟩,N,T,B,C,D]) (atN 2 (ctl1 i32p17)) 45 [0] [] [] [0,2] [0,1] [.ptr 0 4 0,.str [44]] (qB2 k ([44]:LN) u x m.2 h) trivial (λ_=>trivial) ⟨u32 _,trivial⟩ λA c0=>?_
   refine oR 4 (atN 1 (ctl1 i32p18)) ((46,.ptr 0 4 0)::(45,.tuple [])::(44,.ptr 0 4 0)::W) ?_
   refine oN (λ(q:Ri12)=>w9 q.1) (λq=>[⟨[.str u,w39 x,.i q.2,.i h],4,false⟩,N,T,B,C,D]) (atN 2 (ctl1 i32p18)) 47 [0] [] [] [.ptr 0 4 0] (qAp k u x A h) trivial (λ_=>trivial) λq c1=>?_
   refine oL 6 i32p6 [(0,.ptr 0 4 0),(2,.str L),(3,.func 91 [.ptr 0 4 0] []),(5,.ptr 2 7 0),(8,.ptr 3 7 0),(9,w9 q.1)] ?_
   refine qA9 [⟨[.str u,w39 x,.i q.2,.i h],4,false⟩,N,T,B] [C,D] Kr rfl Kr ⟨Kr,⟨(qA3 _ (u32 _)),⟨Kr,⟨Kr,trivial⟩⟩⟩⟩ ?_
   exact ih q.1 q.2 l
def i32B (k:Nat) (F:Fns0) (l:Int) (m:LN) (A:Bool) (n:Bool) (o:LL) (x:LL) (q:LN) (h:LN) (j:List S38) (r:Int) (c:Int) (u:List S31):Option (Option Ri32) :=
 (i22 k h j r c).bind λg=>(i12 k h j r c).bind λa=>bT (i11 k q h j a.2 c) λb=>if b.1 then (some (some (l,m,g,n,o,a.1,b.2,u))) else (qJb k F l m n o x q h j c g k a.1 b.2 u)
theorem qLg (k:Nat) (F:Fns0) (V:FnsOk0 F):∀ l m B n o A q u x C c j r,i32B k F l m B n o A q u x C c j=some r→CallT Try.prog 69 [.ptr 0 4 0,.agg [.i l,.str m,.own 1 (j).length 7,.bool B,.bool n,w9 o,w9 A],.str q,.func 91 [.ptr 0 4 0] []] (mkH [⟨[.str u,w39 x,.i C,.i c],4,false⟩,⟨(j).flatMap e32,0,false⟩]) ((Xi32 l m B n o A q u x C c j).thr r) ((Xi32 l m B n o A q u x C c j).enc r) ((Xi32 l m B n o A q u x C c j).fin r):=by
 intro l m B n o A q u x C c j r h
 refine qA1 (Xi32 l m B n o A q u x C c j) Try.func69 Kr Kr rfl (t:=i32B k F l m B n o A q u x C c j) ?_ h
 unfold i32B
 refine qA (eE:=[(0,.ptr 0 4 0),(1,.agg [.i l,.str m,.own 1 (j).length 7,.bool B,.bool n,w9 o,w9 A]),(2,.str q),(3,.func 91 [.ptr 0 4 0] [])]) Kr ?_
 let J:Env:=[(11,.ptr 0 4 0),(8,.ptr 3 7 0),(5,.ptr 2 7 0),(0,.ptr 0 4 0),(1,.agg [.i l,.str m,.own 1 (j).length 7,.bool B,.bool n,w9 o,w9 A]),(2,.str q),(3,.func 91 [.ptr 0 4 0] [])]
 let K:Blk:=⟨[.str u,w39 x,.i C,.i c],4,false⟩
 let D:Blk:=⟨(j).flatMap e32,0,false⟩
 let U:Blk:=⟨[.i l,.str m,.own 1 (j).length 7,.bool B,.bool n,w9 o,w9 A],0,false⟩
 let E:Blk:=⟨[.i 0,.str [],.nils,.bool false,.bool false,.nils,.nils],0,false⟩
 refine oH 9 (atN 1 (ctl1 i32p1)) J (mkH [K,D,U,E]) ?_
 refine oN (λ(b:Bool) => .bool b) (λb=>[K,D,U,E]) (atN 2 (ctl1 i32p1)) 12 [0] [] [] [.ptr 0 4 0] (qG0 k u x C c) trivial (λ_=>trivial) λb L=>?_
 let M:Blk:=⟨[.i l,.str m,.own 1 (j).length 7,.bool b,.bool n,w9 o,w9 A],7,false⟩
 refine oH 6 (atN 1 (ctl1 i32p2)) ((14,.ptr 0 4 0)::(13,.ptr 2 7 3)::(12,.bool b)::J) (mkH [K,D,M,E]) ?_
 refine oN (λ(a:Ri12)=>w9 a.1) (λa=>[⟨[.str u,w39 x,.i a.2,.i c],4,false⟩,D,M,E]) (atN 2 (ctl1 i32p2)) 15 [0] [] [] [.ptr 0 4 0] (qAp k u x C c) trivial (λ_=>trivial) λa N=>?_
 let O:Env:=((17,.str q)::(16,.ptr 0 4 0)::(9,w9 a.1)::(15,w9 a.1)::(14,.ptr 0 4 0)::(13,.ptr 2 7 3)::(12,.bool b)::J)
 refine oR 7 (atN 2 (ctl1 i32p3)) O ?_
 refine oX (λ(g:(Bool×Int)) => .bool g.1) (λg=>[⟨[.str u,w39 x,.i g.2,.i c],4,false⟩,D,M,E]) (atN 3 (ctl1 i32p3)) 18 [0] [] [] [2] [0,1] [.ptr 0 4 0,.str q] (qAb k q u x a.2 c) trivial (λ_=>trivial) ⟨u32 _,trivial⟩ λg S=>?_
 refine oR 1 i32p4 ((18,.bool g.1)::O) ?_
 refine oK [0,2,3,5,8,9,18] [(0,.ptr 0 4 0),(2,.str q),(3,.func 91 [.ptr 0 4 0] []),(5,.ptr 2 7 0),(8,.ptr 3 7 0),(9,w9 a.1),(18,.bool g.1)] ?_
 refine oS 18 (λW=>?_) (λW=>?_)
 ·let T:Blk:=⟨[.str u,w39 x,.i g.2,.i c],4,false⟩
  let G:Blk:=⟨[.i l,.str m,.own 1 (j).length 7,.bool b,.bool n,w9 o,w9 a.1],7,false⟩
  refine oLH 8 (nav [0,0,0] (nav [1,0] i32p4)) [(5,.ptr 2 7 0),(8,.ptr 3 7 0)] (mkH [T,D,G,E]) ?_
  refine oH 5 .fin ((21,.agg [.i l,.str m,.own 1 (j).length 7,.bool b,.bool n,w9 o,w9 a.1])::[(5,.ptr 2 7 0),(8,.ptr 3 7 0)]) (mkH [T,D,G,G]) ?_
  exact qC1 (r:=some (l,m,b,n,o,a.1,g.2,j)) (xs:=[.agg [.i l,.str m,.own 1 (j).length 7,.bool b,.bool n,w9 o,w9 a.1]]) [T,D] [G,G] Kr Kr Kr Kr Kr ⟨Kr,⟨(qA3 _ (u32 _)),trivial⟩⟩ Kr Kr
 ·refine oR 5 i32p6 ((18,.bool false)::(keepOnly ((18,.bool g.1)::O) [0,2,3,5,8,9,18])) ?_
  refine oK [0,2,3,5,8,9] [(0,.ptr 0 4 0),(2,.str q),(3,.func 91 [.ptr 0 4 0] []),(5,.ptr 2 7 0),(8,.ptr 3 7 0),(9,w9 a.1)] ?_
  exact (qMl k F V l m B n o A q u x C c j b k) a.1 g.2 j
theorem i32B_ok (k:Nat) (F:Fns0) (b:FnsOk0 F):Pi32 (i32B k F):=λc g j l m n o q r u a A=>⟨λx h=>qLg k F b c g j l m n o q r u a A (some x) h,λh=>⟨_,qLg k F b c g j l m n o q r u a A none h⟩⟩
def i34c0:LN:=[114,101,99,101,105,118,101]
def i34c1:LN:=[98,101,103,105,110]
def i34p1:Pt:=nav [0,0,0,0,0] (nav [0] (bodyAt Try.f93))
def i34p2:Pt:=nav [0,0] i34p1
def i34p3:Pt:=nav [1,0,0] i34p2
def i34p4:Pt:=nav [2,0] i34p2
def i34p5:Pt:=nav [0,0] i34p3
def i34p6:Pt:=nav [0,0] i34p4
def i34p7:Pt:=nav [1,0] i34p5
def i34p8:Pt:=nav [2,0,0] i34p5
def i34p9:Pt:=nav [1,0] i34p6
def i34p10:Pt:=nav [2,0] i34p6
def i34p12:Pt:=nav [0,0,0] i34p9
def i34p13:Pt:=nav [0,0] i34p10
def i34p14:Pt:=nav [0,0,0] i34p12
def i34p15:Pt:=nav [1,0] i34p13
def i34p16:Pt:=nav [2,0] i34p13
def i34p17:Pt:=nav [0,0] i34p16
def i34p18:Pt:=nav [1,0] i34p17
def i34p19:Pt:=nav [2,0,0] i34p17
def i34p20:Pt:=nav [0,0,0] i34p19
def i34p21:Pt:=nav [0,0,0] i34p20
def i34p22:Pt:=nav [0,0,0] i34p21
def i34B (k:Nat) (F:Fns0) (g:LN) (h:List S38) (G:Int) (j:Int):Option (Option (S31×Int)) :=
 bT (i11 k ([102,117,110]:LN) g h G j) λc=>if c.1 then ((i7 k ([40]:LN) g h c.2 j).bind λD=>if D then (bT (F.i42 g h c.2 j) λu=>some (some (u.1,u.2))) else (bT (i43 k g h c.2 j) λx=>some (some (x.1,x.2)))) else (bT (i11 k ([99,97,115,101]:LN) g h c.2 j) λn=>if n.1 then (bT (F.i9 (0:Int) g h n.2 j) λA=>bT (i14 k ([111,102]:LN) g h A.2 j) λE=>bT (F.i44 (18:Int) ([]:LN) false false ([]:LL) ([]:LL) g h E j ([A.1]:List S31)) λa=>some (some ((⟨a.1,a.2.1,⟨(a.2.2.2.2.2.2.2).length,(a.2.2.2.2.2.2.2).flatMap e32⟩,a.2.2.1,a.2.2.2.1,a.2.2.2.2.1,a.2.2.2.2.2.1⟩:S31),a.2.2.2.2.2.2.1))) else (bT (i11 k ([105,102]:LN) g h n.2 j) λo=>if o.1 then (bT (F.i45 (19:Int) ([]:LN) false false ([]:LL) ([]:LL) g h o.2 j ([]:List S31)) λb=>some (some ((⟨b.1,b.2.1,⟨(b.2.2.2.2.2.2.2).length,(b.2.2.2.2.2.2.2).flatMap e32⟩,b.2.2.1,b.2.2.2.1,b.2.2.2.2.1,b.2.2.2.2.2.1⟩:S31),b.2.2.2.2.2.2.1))) else (bT (i11 k i34c0 g h o.2 j) λl=>if l.1 then (bT (F.i46 g h l.2 j) λq=>some (some (q.1,q.2))) else (bT (i14 k i34c1 g h l.2 j) λB=>bT (F.i38 g h B j) λm=>(i12 k g h m.2 j).bind λr=>bT (i14 k ([101,110,100]:LN) g h r.2 j) λC=>some (some ((⟨(21:Int),([]:LN),⟨(([m.1]:List S31)).length,(([m.1]:List S31)).flatMap e32⟩,false,false,([]:LL),r.1⟩:S31),C))))))
theorem qLf (k:Nat) (F:Fns0) (O:FnsOk0 F):∀ g j L l r,i34B k F g j L l=some r→CallT Try.prog 93 [.ptr 0 4 0] (mkH [⟨[.str g,w39 j,.i L,.i l],4,false⟩]) ((Xi34 g j L l).thr r) ((Xi34 g j L l).enc r) ((Xi34 g j L l).fin r):=by
 intro g j L l r h
 refine qA1 (Xi34 g j L l) Try.func93 Kr Kr rfl (t:=i34B k F g j L l) ?_ h
 unfold i34B
 refine qA (eE:=[(0,.ptr 0 4 0)]) Kr ?_
 let D:Blk:=⟨[.i 0,.str [],.nils,.bool false,.bool false,.nils,.nils],0,false⟩
 refine oH 9 (atN 1 (ctl1 i34p1)) [(6,.ptr 0 4 0),(2,.ptr 1 7 0),(0,.ptr 0 4 0)] (mkH [⟨[.str g,w39 j,.i L,.i l],4,false⟩,D]) ?_
 refine oX (λ(u:(Bool×Int)) => .bool u.1) (λu=>[⟨[.str g,w39 j,.i u.2,.i l],4,false⟩,D]) (atN 2 (ctl1 i34p1)) 7 [0] [] [] [] [] [.ptr 0 4 0,.str [102,117,110]] (qAb k ([102,117,110]:LN) g j L l) trivial (λ_=>trivial) trivial λu a7=>?_
 let M:Env:=[(5,.bool u.1),(7,.bool u.1),(6,.ptr 0 4 0),(2,.ptr 1 7 0),(0,.ptr 0 4 0)]
 refine oR 2 i34p2 M ?_
 refine oS 5 (λN=>?_) (λN=>?_)
 ·refine oR 5 (atN 1 (ctl1 i34p3)) ((8,.ptr 0 4 0)::(5,.bool true)::M) ?_
  refine oN (λ(E:Bool) => .bool E) (λE=>[⟨[.str g,w39 j,.i u.2,.i l],4,false⟩,D]) (atN 2 (ctl1 i34p3)) 9 [0] [] [] [.ptr 0 4 0,.str [40]] (qMj k ([40]:LN) g j u.2 l) trivial (λ_=>trivial) λE a8=>?_
  refine oR 1 i34p5 ((9,.bool E)::(8,.ptr 0 4 0)::(5,.bool true)::M) ?_
  refine oS 9 (λN=>?_) (λN=>?_)
  ·refine oR 4 (atN 1 (ctl1 i34p7)) ((10,.ptr 0 4 0)::(9,.bool true)::(9,.bool E)::(8,.ptr 0 4 0)::(5,.bool true)::M) ?_
   refine oX (λ(B:(S31×Int))=>n32 B.1) (λB=>[⟨[.str g,w39 j,.i B.2,.i l],4,false⟩,D]) (atN 2 (ctl1 i34p7)) 11 [0] [] [] [0] [] [.ptr 0 4 0] (O.i42_ok g j u.2 l) trivial (λ_=>trivial) trivial λB a9=>?_
   exact oQF 3 [⟨[.str g,w39 j,.i B.2,.i l],4,false⟩,⟨e32 B.1,7,false⟩] 1 [] [n32 B.1] (n32 B.1) .ps trivial
  ·refine oR 5 (atN 1 (ctl1 i34p8)) ((12,.ptr 0 4 0)::(9,.bool false)::(9,.bool E)::(8,.ptr 0 4 0)::(5,.bool true)::M) ?_
   refine oX (λ(C:(S31×Int))=>n32 C.1) (λC=>[⟨[.str g,w39 j,.i C.2,.i l],4,false⟩,D]) (atN 2 (ctl1 i34p8)) 13 [0] [] [] [0] [] [.ptr 0 4 0] (i43_ok k g j u.2 l) trivial (λ_=>trivial) trivial λC b1=>?_
   exact oQF 3 [⟨[.str g,w39 j,.i C.2,.i l],4,false⟩,⟨e32 C.1,7,false⟩] 1 [] [n32 C.1] (n32 C.1) .ps trivial
 ·refine oR 4 (atN 1 (ctl1 i34p4)) ((15,.ptr 0 4 0)::(5,.bool false)::M) ?_
  refine oX (λ(q:(Bool×Int)) => .bool q.1) (λq=>[⟨[.str g,w39 j,.i q.2,.i l],4,false⟩,D]) (atN 2 (ctl1 i34p4)) 16 [0] [] [] [] [] [.ptr 0 4 0,.str [99,97,115,101]] (qAb k ([99,97,115,101]:LN) g j u.2 l) trivial (λ_=>trivial) trivial λq b2=>?_
  refine oR 2 i34p6 ((14,.bool q.1)::(16,.bool q.1)::(15,.ptr 0 4 0)::(5,.bool false)::M) ?_
  refine oS 14 (λN=>?_) (λN=>?_)
  ·let E4:Env:=((17,.ptr 0 4 0)::(14,.bool true)::(14,.bool q.1)::(16,.bool q.1)::(15,.ptr 0 4 0)::(5,.bool false)::M)
   refine oR 4 (atN 1 (ctl1 i34p9)) E4 ?_
   refine oX (λ(n:(S31×Int))=>n32 n.1) (λn=>[⟨[.str g,w39 j,.i n.2,.i l],4,false⟩,D]) (atN 2 (ctl1 i34p9)) 18 [0] [] [] [0] [] [.ptr 0 4 0,.i 0] (O.i9_ok (0:Int) g j q.2 l) trivial (λ_=>trivial) trivial λn b3=>?_
   let Q2:Blk:=⟨[.str g,w39 j,.i n.2,.i l],4,false⟩
   refine oH 1 (atN 3 (ctl1 i34p9)) ((19,.slice 2 7 0 1 7)::(18,n32 n.1)::E4) (mkH [Q2,D,⟨e32 n.1,0,false⟩]) ?_
   refine qDa 19 2 7 1 7 Kr rfl ?_
   let E6:Env:=[(0,.ptr 0 4 0),(2,.ptr 1 7 0),(3,.ptr 3 7 0)]
   let Q3:Blk:=⟨(([n.1]:List S31)).flatMap e32,0,false⟩
   let S:Blk:=⟨[.i 18,.str [],.own 2 (([n.1]:List S31)).length 7,.bool false,.bool false,.nils,.nils],7,false⟩
   refine oLH 5 i34p12 E6 (mkH [Q2,D,Q3,S]) ?_
   refine oR 2 (atN 1 (ctl1 i34p12)) ((21,.ptr 0 4 0)::E6) ?_
   refine oX (λ(K:Int) => .tuple []) (λK=>[⟨[.str g,w39 j,.i K,.i l],4,false⟩,D,Q3,S]) (atN 2 (ctl1 i34p12)) 22 [0] [] [] [0,3] [0,0,1] [.ptr 0 4 0,.str [111,102]] (qB2 k ([111,102]:LN) g j n.2 l) trivial (λ_=>trivial) ⟨u32 _,trivial⟩ λK b6=>?_
   refine oR 7 (atN 4 (ctl1 i34p14)) ((26,.func 102 [.ptr 0 4 0] [])::(25,.ptr 0 4 0)::(24,.agg [.i 18,.str [],.own 2 (([n.1]:List S31)).length 7,.bool false,.bool false,.nils,.nils])::(23,.ptr 0 4 0)::(22,.tuple [])::(21,.ptr 0 4 0)::E6) ?_
   refine oXW 0 [⟨[.str g,w39 j,.i K,.i l],4,false⟩,D,Q3,S] (λ(a:Ri44) => .agg [.i a.1,.str a.2.1,.own 2 (a.2.2.2.2.2.2.2).length 7,.bool a.2.2.1,.bool a.2.2.2.1,w9 a.2.2.2.2.1,w9 a.2.2.2.2.2.1]) (λa=>[⟨[.str g,w39 j,.i a.2.2.2.2.2.2.1,.i l],4,false⟩,D,⟨(a.2.2.2.2.2.2.2).flatMap e32,0,false⟩,S]) (atN 5 (ctl1 i34p14)) 27 [0,2] [0,1] [0,1] [0,2,3] [] [0,0,1] [.ptr 0 4 0,.agg [.i 18,.str [],.own 2 (([n.1]:List S31)).length 7,.bool false,.bool false,.nils,.nils],.func 102 [.ptr 0 4 0] []] [.ptr 0 4 0,.agg [.i 18,.str [],.own 2 (([n.1]:List S31)).length 7,.bool false,.bool false,w9 ([]:LL),w9 ([]:LL)],.func 102 [.ptr 0 4 0] []] (.cons (.agg (.cons (.cons (.cons (.cons (.cons (.nil (.nil (.refl)))))))) (.refl))) (O.i44_ok (18:Int) ([]:LN) false false ([]:LL) ([]:LL) g j K l ([n.1]:List S31)) ⟨u32 _,trivial⟩ (λ_=>⟨u32 _,trivial⟩) trivial λa b7=>?_
   exact oQF 3 [⟨[.str g,w39 j,.i a.2.2.2.2.2.2.1,.i l],4,false⟩,⟨[.i a.1,.str a.2.1,.own 2 (a.2.2.2.2.2.2.2).length 7,.bool a.2.2.1,.bool a.2.2.2.1,w9 a.2.2.2.2.1,w9 a.2.2.2.2.2.1],7,false⟩,⟨(a.2.2.2.2.2.2.2).flatMap e32,0,false⟩,S] 1 [] [.agg [.i a.1,.str a.2.1,.own 2 (a.2.2.2.2.2.2.2).length 7,.bool a.2.2.1,.bool a.2.2.2.1,w9 a.2.2.2.2.1,w9 a.2.2.2.2.2.1]] (.agg [.i a.1,.str a.2.1,w32 a.2.2.2.2.2.2.2,.bool a.2.2.1,.bool a.2.2.2.1,w9 a.2.2.2.2.1,w9 a.2.2.2.2.2.1]) (.agg (.cs (.cs (qAw qA4 qAg rfl rfl rfl .ps))) .ps) trivial
  ·refine oR 4 (atN 1 (ctl1 i34p10)) ((29,.ptr 0 4 0)::(14,.bool false)::(14,.bool q.1)::(16,.bool q.1)::(15,.ptr 0 4 0)::(5,.bool false)::M) ?_
   refine oX (λ(A:(Bool×Int)) => .bool A.1) (λA=>[⟨[.str g,w39 j,.i A.2,.i l],4,false⟩,D]) (atN 2 (ctl1 i34p10)) 30 [0] [] [] [] [] [.ptr 0 4 0,.str [105,102]] (qAb k ([105,102]:LN) g j q.2 l) trivial (λ_=>trivial) trivial λA b8=>?_
   refine oL 2 i34p13 [(0,.ptr 0 4 0),(2,.ptr 1 7 0),(28,.bool A.1)] ?_
   let T:Env:=[(0,.ptr 0 4 0),(2,.ptr 1 7 0),(28,.bool A.1)]
   refine oS 28 (λN=>?_) (λN=>?_)
   ·refine oR 7 (atN 4 (ctl1 i34p15)) ((34,.func 103 [.ptr 0 4 0] [])::(33,.ptr 0 4 0)::(32,.agg [.i 19,.str [],.nils,.bool false,.bool false,.nils,.nils])::(31,.ptr 0 4 0)::(28,.bool true)::T) ?_
    refine oXW 1 [⟨[.str g,w39 j,.i A.2,.i l],4,false⟩,D,⟨(([]:List S31)).flatMap e32,0,false⟩] (λ(b:Ri45) => .agg [.i b.1,.str b.2.1,.own 2 (b.2.2.2.2.2.2.2).length 7,.bool b.2.2.1,.bool b.2.2.2.1,w9 b.2.2.2.2.1,w9 b.2.2.2.2.2.1]) (λb=>[⟨[.str g,w39 j,.i b.2.2.2.2.2.2.1,.i l],4,false⟩,D,⟨(b.2.2.2.2.2.2.2).flatMap e32,0,false⟩]) (atN 5 (ctl1 i34p15)) 35 [0,2] [0,1] [0,1] [0,2] [] [0,0,1] [.ptr 0 4 0,.agg [.i 19,.str [],.nils,.bool false,.bool false,.nils,.nils],.func 103 [.ptr 0 4 0] []] [.ptr 0 4 0,.agg [.i 19,.str [],.own 2 (([]:List S31)).length 7,.bool false,.bool false,w9 ([]:LL),w9 ([]:LL)],.func 103 [.ptr 0 4 0] []] (.cons (.agg (.cons (.cons (.none (.cons (.cons (.nil (.nil (.refl)))))))) (.refl))) (O.i45_ok (19:Int) ([]:LN) false false ([]:LL) ([]:LL) g j A.2 l ([]:List S31)) ⟨u32 _,trivial⟩ (λ_=>⟨u32 _,trivial⟩) trivial λb b9=>?_
    exact oQF 3 [⟨[.str g,w39 j,.i b.2.2.2.2.2.2.1,.i l],4,false⟩,⟨[.i b.1,.str b.2.1,.own 2 (b.2.2.2.2.2.2.2).length 7,.bool b.2.2.1,.bool b.2.2.2.1,w9 b.2.2.2.2.1,w9 b.2.2.2.2.2.1],7,false⟩,⟨(b.2.2.2.2.2.2.2).flatMap e32,0,false⟩] 1 [] [.agg [.i b.1,.str b.2.1,.own 2 (b.2.2.2.2.2.2.2).length 7,.bool b.2.2.1,.bool b.2.2.2.1,w9 b.2.2.2.2.1,w9 b.2.2.2.2.2.1]] (.agg [.i b.1,.str b.2.1,w32 b.2.2.2.2.2.2.2,.bool b.2.2.1,.bool b.2.2.2.1,w9 b.2.2.2.2.1,w9 b.2.2.2.2.2.1]) (.agg (.cs (.cs (qAw qA4 qAg rfl rfl rfl .ps))) .ps) trivial
   ·refine oR 4 (atN 1 (ctl1 i34p16)) ((37,.ptr 0 4 0)::(28,.bool false)::T) ?_
    refine oX (λ(m:(Bool×Int)) => .bool m.1) (λm=>[⟨[.str g,w39 j,.i m.2,.i l],4,false⟩,D]) (atN 2 (ctl1 i34p16)) 38 [0] [] [] [] [] [.ptr 0 4 0,.str i34c0] (qAb k i34c0 g j A.2 l) trivial (λ_=>trivial) trivial λm V=>?_
    refine oR 2 i34p17 ((36,.bool m.1)::(38,.bool m.1)::(37,.ptr 0 4 0)::(28,.bool false)::T) ?_
    refine oS 36 (λN=>?_) (λN=>?_)
    ·refine oR 4 (atN 1 (ctl1 i34p18)) ((39,.ptr 0 4 0)::(36,.bool true)::(36,.bool m.1)::(38,.bool m.1)::(37,.ptr 0 4 0)::(28,.bool false)::T) ?_
     refine oX (λ(x:(S31×Int))=>n32 x.1) (λx=>[⟨[.str g,w39 j,.i x.2,.i l],4,false⟩,D]) (atN 2 (ctl1 i34p18)) 40 [0] [] [] [0] [] [.ptr 0 4 0] (O.i46_ok g j m.2 l) trivial (λ_=>trivial) trivial λx W=>?_
     exact oQF 3 [⟨[.str g,w39 j,.i x.2,.i l],4,false⟩,⟨e32 x.1,7,false⟩] 1 [] [n32 x.1] (n32 x.1) .ps trivial
    ·refine oR 5 (atN 1 (ctl1 i34p19)) ((41,.ptr 0 4 0)::(36,.bool false)::(36,.bool m.1)::(38,.bool m.1)::(37,.ptr 0 4 0)::(28,.bool false)::T) ?_
     refine oX (λ(G:Int) => .tuple []) (λG=>[⟨[.str g,w39 j,.i G,.i l],4,false⟩,D]) (atN 2 (ctl1 i34p19)) 42 [0] [] [] [0] [] [.ptr 0 4 0,.str i34c1] (qB2 k i34c1 g j m.2 l) trivial (λ_=>trivial) trivial λG Y=>?_
     refine oL 2 i34p20 [(0,.ptr 0 4 0),(2,.ptr 1 7 0)] ?_
     let U:Env:=[(0,.ptr 0 4 0),(2,.ptr 1 7 0)]
     refine oR 2 (atN 1 (ctl1 i34p20)) ((43,.ptr 0 4 0)::U) ?_
     refine oX (λ(c:(S31×Int))=>n32 c.1) (λc=>[⟨[.str g,w39 j,.i c.2,.i l],4,false⟩,D]) (atN 2 (ctl1 i34p20)) 44 [0] [] [] [0] [] [.ptr 0 4 0] (O.i38_ok g j G l) trivial (λ_=>trivial) trivial λc Z=>?_
     let Q5:Blk:=⟨[.str g,w39 j,.i c.2,.i l],4,false⟩
     refine oH 1 (atN 3 (ctl1 i34p20)) ((45,.slice 2 7 0 1 7)::(44,n32 c.1)::(43,.ptr 0 4 0)::U) (mkH [Q5,D,⟨e32 c.1,0,false⟩]) ?_
     refine oZ 45 2 1 7 [.i c.1.f0,.str c.1.f1,q32 c.1.f2,.bool c.1.f3,.bool c.1.f4,w9 c.1.f5,w9 c.1.f6] [0,2,43,44] [] trivial ?_
     let Q6:Blk:=⟨[.i 21,.str [],w32 ([c.1]:List S31),.bool false,.bool false,.nils,.nils],7,false⟩
     refine oH 7 (atN 1 (ctl1 i34p21)) [(47,.ptr 0 4 0),(4,.ptr 3 7 0),(46,.agg [.i 21,.str [],w32 ([c.1]:List S31),.bool false,.bool false,.nils,.nils]),(45,w32 ([c.1]:List S31)),(0,.ptr 0 4 0),(2,.ptr 1 7 0),(43,.ptr 0 4 0),(44,n32 c.1)] (mkH [Q5,D,⟨[],0,false⟩,Q6]) ?_
     refine oN (λ(o:Ri12)=>w9 o.1) (λo=>[⟨[.str g,w39 j,.i o.2,.i l],4,false⟩,D,⟨[],0,false⟩,Q6]) (atN 2 (ctl1 i34p21)) 48 [0] [] [] [.ptr 0 4 0] (qAp k g j c.2 l) trivial (λ_=>trivial) λo a4=>?_
     let Q7:Blk:=⟨[.i 21,.str [],w32 ([c.1]:List S31),.bool false,.bool false,.nils,w9 o.1],7,false⟩
     refine oLH 4 i34p22 [(0,.ptr 0 4 0),(2,.ptr 1 7 0),(4,.ptr 3 7 0)] (mkH [⟨[.str g,w39 j,.i o.2,.i l],4,false⟩,D,⟨[],0,false⟩,Q7]) ?_
     refine oR 2 (atN 1 (ctl1 i34p22)) ((50,.ptr 0 4 0)::[(0,.ptr 0 4 0),(2,.ptr 1 7 0),(4,.ptr 3 7 0)]) ?_
     refine oX (λ(J:Int) => .tuple []) (λJ=>[⟨[.str g,w39 j,.i J,.i l],4,false⟩,D,⟨[],0,false⟩,Q7]) (atN 2 (ctl1 i34p22)) 51 [0] [] [] [0] [] [.ptr 0 4 0,.str [101,110,100]] (qB2 k ([101,110,100]:LN) g j o.2 l) trivial (λ_=>trivial) trivial λJ a6=>?_
     exact oQF 7 [⟨[.str g,w39 j,.i J,.i l],4,false⟩,Q7,⟨[],0,false⟩,Q7] 1 [] [.agg [.i 21,.str [],w32 ([c.1]:List S31),.bool false,.bool false,.nils,w9 o.1]] (.agg [.i 21,.str [],w32 ([c.1]:List S31),.bool false,.bool false,.vec 0 1 [],w9 o.1]) (.agg (.cs (.cs (.cs (.cs (.cs (.nil .ps)))))) .ps) trivial
theorem i34B_ok (k:Nat) (F:Fns0) (a:FnsOk0 F):Pi34 (i34B k F):=λb c g j=>⟨λx h=>qLf k F a b c g j (some x) h,λh=>⟨_,qLf k F a b c g j none h⟩⟩
def i35p1:Pt:=nav [0,0,0,0] (nav [0] (bodyAt Try.f95))
def i35p2:Pt:=nav [0,0] i35p1
def i35p3:Pt:=nav [1,0] i35p2
def i35p4:Pt:=nav [2,0,0] i35p2
def i35B (k:Nat) (F:Fns0) (g:LN) (h:List S38) (l:Int) (j:Int):Option (Option (S31×Int)) :=
 bT (i11 k ([40]:LN) g h l j) λa=>if a.1 then (bT (F.i29 g h a.2 j) λb=>some (some (b.1,b.2))) else (bT (i33 k g h a.2 j) λc=>some (some ((⟨(1:Int),c.1,⟨0,[]⟩,false,false,([]:LL),([]:LL)⟩:S31),c.2)))
theorem qLe (k:Nat) (F:Fns0) (x:FnsOk0 F):∀ g j m l r,i35B k F g j m l=some r→CallT Try.prog 95 [.ptr 0 4 0] (mkH [⟨[.str g,w39 j,.i m,.i l],4,false⟩]) ((Xi35 g j m l).thr r) ((Xi35 g j m l).enc r) ((Xi35 g j m l).fin r):=by
 intro g j m l r h
 refine qA1 (Xi35 g j m l) Try.func95 Kr Kr rfl (t:=i35B k F g j m l) ?_ h
 unfold i35B
 refine qA (eE:=[(0,.ptr 0 4 0)]) Kr ?_
 let n:Blk:=⟨[.i 0,.str [],.nils,.bool false,.bool false,.nils,.nils],0,false⟩
 refine oH 8 (atN 1 (ctl1 i35p1)) [(3,.ptr 0 4 0),(2,.ptr 1 7 0),(0,.ptr 0 4 0)] (mkH [⟨[.str g,w39 j,.i m,.i l],4,false⟩,n]) ?_
 refine oX (λ(a:(Bool×Int)) => .bool a.1) (λa=>[⟨[.str g,w39 j,.i a.2,.i l],4,false⟩,n]) (atN 2 (ctl1 i35p1)) 4 [0] [] [] [] [] [.ptr 0 4 0,.str [40]] (qAb k ([40]:LN) g j m l) trivial (λ_=>trivial) trivial λa o=>?_
 refine oR 1 i35p2 [(4,.bool a.1),(3,.ptr 0 4 0),(2,.ptr 1 7 0),(0,.ptr 0 4 0)] ?_
 refine oS 4 (λA=>?_) (λA=>?_)
 ·refine oR 4 (atN 1 (ctl1 i35p3)) [(5,.ptr 0 4 0),(4,.bool true),(4,.bool a.1),(3,.ptr 0 4 0),(2,.ptr 1 7 0),(0,.ptr 0 4 0)] ?_
  refine oX (λ(b:(S31×Int))=>n32 b.1) (λb=>[⟨[.str g,w39 j,.i b.2,.i l],4,false⟩,n]) (atN 2 (ctl1 i35p3)) 6 [0] [] [] [0] [] [.ptr 0 4 0] (x.i29_ok g j a.2 l) trivial (λ_=>trivial) trivial λb q=>?_
  exact oQF 3 [⟨[.str g,w39 j,.i b.2,.i l],4,false⟩,⟨e32 b.1,7,false⟩] 1 [] [n32 b.1] (n32 b.1) .ps trivial
 ·refine oR 5 (atN 1 (ctl1 i35p4)) [(7,.ptr 0 4 0),(4,.bool false),(4,.bool a.1),(3,.ptr 0 4 0),(2,.ptr 1 7 0),(0,.ptr 0 4 0)] ?_
  refine oX (λ(c:Ri33) => .str c.1) (λc=>[⟨[.str g,w39 j,.i c.2,.i l],4,false⟩,n]) (atN 2 (ctl1 i35p4)) 8 [0] [] [] [] [] [.ptr 0 4 0] (qI2 k g j a.2 l) trivial (λ_=>trivial) trivial λc u=>?_
  exact oQF 4 [⟨[.str g,w39 j,.i c.2,.i l],4,false⟩,⟨[.i 1,.str c.1,.nils,.bool false,.bool false,.nils,.nils],7,false⟩] 1 [] [.agg [.i 1,.str c.1,.nils,.bool false,.bool false,.nils,.nils]] (.agg [.i 1,.str c.1,.vec 0 7 [],.bool false,.bool false,.vec 0 1 [],.vec 0 1 []]) (.agg (.cs (.cs (.nil (.cs (.cs (.nil (.nil .ps))))))) .ps) trivial
theorem i35B_ok (k:Nat) (F:Fns0) (a:FnsOk0 F):Pi35 (i35B k F):=λb c g j=>⟨λx h=>qLe k F a b c g j (some x) h,λh=>⟨_,qLe k F a b c g j none h⟩⟩
def i36p1:Pt:=nav [0,0,0,0] (nav [0] (bodyAt Try.f96))
def i36p2:Pt:=nav [0,0] i36p1
def i36p3:Pt:=nav [1,0] i36p2
def i36p4:Pt:=nav [2,0,0] i36p2
def i36p6:Pt:=nav [0,0,0,0] i36p4
def i36p7:Pt:=nav [0,0] i36p6
def i36p8:Pt:=nav [1,0] i36p7
def i36p9:Pt:=nav [2,0,0] i36p7
def i36p10:Pt:=nav [0,0,0] i36p9
def i36d0:DP:=⟨[22,26],[(0,0,0),(1,0,0),(0,0,0),(0,0,0),(12,0,0),(31,0,0),(0,0,1),(64,0,0),(255,0,0),(511,0,0)],10,thrown,[],H0⟩
def i36B (k:Nat) (F:Fns0) (u:S31) (l:LN) (m:List S38) (x:Int) (n:Int):Option (Option (S31×Int)) :=
 bT (i11 k ([123]:LN) l m x n) λc=>if c.1 then (bT (F.i32 (9:Int) ([]:LN) false false ([]:LL) ([]:LL) ([125]:LN) l m c.2 n ([u]:List S31)) λa=>some (some ((⟨a.1,a.2.1,⟨(a.2.2.2.2.2.2.2).length,(a.2.2.2.2.2.2.2).flatMap e32⟩,a.2.2.1,a.2.2.2.1,a.2.2.2.2.1,a.2.2.2.2.2.1⟩:S31),a.2.2.2.2.2.2.1))) else (bT (i33 k l m c.2 n) λg=>bT (i11 k ([46]:LN) l m g.2 n) λh=>if h.1 then ((catS g.1 ([46]:LN)).bind λo=>bT (i18 k ([(1:Int)]:List Int) l m h.2 n) λj=>(catS o j.1).bind λq=>some (some ((⟨(12:Int),q,⟨(([u]:List S31)).length,(([u]:List S31)).flatMap e32⟩,false,false,([]:LL),([]:LL)⟩:S31),j.2))) else (bT (i14 k ([123]:LN) l m h.2 n) λr=>bT (F.i15 (11:Int) g.1 false false ([]:LL) ([]:LL) ([125]:LN) l m r n ([u]:List S31)) λb=>some (some ((⟨b.1,b.2.1,⟨(b.2.2.2.2.2.2.2).length,(b.2.2.2.2.2.2.2).flatMap e32⟩,b.2.2.1,b.2.2.2.1,b.2.2.2.2.1,b.2.2.2.2.2.1⟩:S31),b.2.2.2.2.2.2.1))))
theorem qLd (k:Nat) (F:Fns0) (hF:FnsOk0 F):∀ c o q K u r,i36B k F c o q K u=some r→CallT Try.prog 96 [.ptr 0 4 0,.agg [.i c.f0,.str c.f1,q32 c.f2,.bool c.f3,.bool c.f4,w9 c.f5,w9 c.f6]] (mkH [⟨[.str o,w39 q,.i K,.i u],4,false⟩]) ((Xi36 c o q K u).thr r) ((Xi36 c o q K u).enc r) ((Xi36 c o q K u).fin r):=by
 intro c o q K u r h
 refine qA1 (Xi36 c o q K u) Try.func96 Kr Kr rfl (t:=i36B k F c o q K u) ?_ h
 unfold i36B
 refine qA (eE:=[(0,.ptr 0 4 0),(1,.agg [.i c.f0,.str c.f1,q32 c.f2,.bool c.f3,.bool c.f4,w9 c.f5,w9 c.f6])]) Kr ?_
 let T:Env:=[(6,.ptr 0 4 0),(4,.ptr 2 7 0),(3,.ptr 1 7 0),(0,.ptr 0 4 0),(1,n32 c)]
 let Q1:Blk:=⟨[.str o,w39 q,.i K,.i u],4,false⟩
 let A:Blk:=⟨[.i 0,.str [],.nils,.bool false,.bool false,.nils,.nils],0,false⟩
 refine oH 9 (atN 1 (ctl1 i36p1)) T (mkH [Q1,⟨e32 c,0,false⟩,A]) ?_
 refine oX (λ(n:(Bool×Int)) => .bool n.1) (λn=>[⟨[.str o,w39 q,.i n.2,.i u],4,false⟩,⟨e32 c,0,false⟩,A]) (atN 2 (ctl1 i36p1)) 7 [0] [] [] [] [] [.ptr 0 4 0,.str [123]] (qAb k ([123]:LN) o q K u) trivial (λ_=>trivial) trivial λn V=>?_
 refine oR 1 i36p2 ((7,.bool n.1)::T) ?_
 refine oS 7 (λW=>?_) (λW=>?_)
 ·let E2:Env:=((10,.slice 3 7 0 1 7)::(9,n32 c)::(8,.ptr 0 4 0)::(7,.bool true)::(7,.bool n.1)::T)
  let Y:Blk:=⟨[.str o,w39 q,.i n.2,.i u],4,false⟩
  refine oH 6 (atN 3 (ctl1 i36p3)) E2 (mkH [Y,⟨e32 c,0,false⟩,A,⟨e32 c,0,false⟩]) ?_
  refine qDa 10 3 7 1 7 Kr rfl ?_
  let Q4:Blk:=⟨(([c]:List S31)).flatMap e32,0,false⟩
  refine oH 3 (atN 6 (ctl1 i36p3)) ((13,.func 91 [.ptr 0 4 0] [])::(12,.ptr 0 4 0)::(11,.agg [.i 9,.str [],.own 3 (([c]:List S31)).length 7,.bool false,.bool false,.nils,.nils])::(10,.own 3 (([c]:List S31)).length 7)::E2) (mkH [Y,⟨e32 c,0,false⟩,A,Q4]) ?_
  refine oXW 0 [Y,⟨e32 c,0,false⟩,A,Q4] (λ(a:Ri32) => .agg [.i a.1,.str a.2.1,.own 3 (a.2.2.2.2.2.2.2).length 7,.bool a.2.2.1,.bool a.2.2.2.1,w9 a.2.2.2.2.1,w9 a.2.2.2.2.2.1]) (λa=>[⟨[.str o,w39 q,.i a.2.2.2.2.2.2.1,.i u],4,false⟩,⟨e32 c,0,false⟩,A,⟨(a.2.2.2.2.2.2.2).flatMap e32,0,false⟩]) (atN 7 (ctl1 i36p3)) 14 [0,3] [0,1] [0,1] [0,3] [] [0,0,0,1] [.ptr 0 4 0,.agg [.i 9,.str [],.own 3 (([c]:List S31)).length 7,.bool false,.bool false,.nils,.nils],.str [125],.func 91 [.ptr 0 4 0] []] [.ptr 0 4 0,.agg [.i 9,.str [],.own 3 (([c]:List S31)).length 7,.bool false,.bool false,w9 ([]:LL),w9 ([]:LL)],.str [125],.func 91 [.ptr 0 4 0] []] (.cons (.agg (.cons (.cons (.cons (.cons (.cons (.nil (.nil (.refl)))))))) (.refl))) (hF.i32_ok (9:Int) ([]:LN) false false ([]:LL) ([]:LL) ([125]:LN) o q n.2 u ([c]:List S31)) ⟨u32 _,trivial⟩ (λ_=>⟨u32 _,trivial⟩) trivial λa Z=>?_
  exact oQF 3 [⟨[.str o,w39 q,.i a.2.2.2.2.2.2.1,.i u],4,false⟩,⟨e32 c,0,false⟩,⟨[.i a.1,.str a.2.1,.own 3 (a.2.2.2.2.2.2.2).length 7,.bool a.2.2.1,.bool a.2.2.2.1,w9 a.2.2.2.2.1,w9 a.2.2.2.2.2.1],7,false⟩,⟨(a.2.2.2.2.2.2.2).flatMap e32,0,false⟩] 1 [] [.agg [.i a.1,.str a.2.1,.own 3 (a.2.2.2.2.2.2.2).length 7,.bool a.2.2.1,.bool a.2.2.2.1,w9 a.2.2.2.2.1,w9 a.2.2.2.2.2.1]] (.agg [.i a.1,.str a.2.1,w32 a.2.2.2.2.2.2.2,.bool a.2.2.1,.bool a.2.2.2.1,w9 a.2.2.2.2.1,w9 a.2.2.2.2.2.1]) (.agg (.cs (.cs (qAw qA4 qAg rfl rfl rfl .ps))) .ps) trivial
 ·refine oR 5 (atN 1 (ctl1 i36p4)) ((15,.ptr 0 4 0)::(7,.bool false)::(7,.bool n.1)::T) ?_
  refine oX (λ(g:Ri33) => .str g.1) (λg=>[⟨[.str o,w39 q,.i g.2,.i u],4,false⟩,⟨e32 c,0,false⟩,A]) (atN 2 (ctl1 i36p4)) 16 [0] [] [] [] [] [.ptr 0 4 0] (qI2 k o q n.2 u) trivial (λ_=>trivial) trivial λg a5=>?_
  let E4:Env:=((17,.ptr 0 4 0)::(5,.str g.1)::(16,.str g.1)::(15,.ptr 0 4 0)::(7,.bool false)::(7,.bool n.1)::T)
  refine oR 6 (atN 1 (ctl1 i36p6)) E4 ?_
  refine oX (λ(j:(Bool×Int)) => .bool j.1) (λj=>[⟨[.str o,w39 q,.i j.2,.i u],4,false⟩,⟨e32 c,0,false⟩,A]) (atN 2 (ctl1 i36p6)) 18 [0] [] [] [] [] [.ptr 0 4 0,.str [46]] (qAb k ([46]:LN) o q g.2 u) trivial (λ_=>trivial) trivial λj a7=>?_
  refine oR 1 i36p7 ((18,.bool j.1)::E4) ?_
  refine oK [0,3,4,5,18] [(0,.ptr 0 4 0),(3,.ptr 1 7 0),(4,.ptr 2 7 0),(5,.str g.1),(18,.bool j.1)] ?_
  let E5:Env:=keepOnly ((18,.bool j.1)::E4) [0,3,4,5,18]
  refine oS 18 (λW=>?_) (λW=>?_)
  ·refine oR 2 i36p8 ((18,.bool true)::E5) ?_
   refine qA7 (λl E=>?_)
   refine qCe (λh=>?_) (λB O=>?_)
   ·let G:Env:=[(19,.str g.1),(18,.bool true),(0,.ptr 0 4 0),(3,.ptr 1 7 0),(4,.ptr 2 7 0),(5,.str g.1),(18,.bool j.1)]
    let U:Env:=((24,.top)::(23,.top)::(22,w3 ([(1:Int)]:List Int))::(21,.ptr 0 4 0)::(20,.str l)::G)
    let J:Blk:=⟨[.str o,w39 q,.i j.2,.i u],4,false⟩
    exact qAm (eE:=((27,.top)::(26,w32 ([c]:List S31))::(25,n32 c)::U)) (i36d0.th 4 thrown [] (mkH [J,⟨e32 c,0,false⟩,A])) (hs:=[(mkH [J,⟨e32 c,0,false⟩,A]),(mkH [J,⟨e32 c,0,false⟩,A])]) (LX:=[Q1]) (L:=[J,⟨e32 c,0,false⟩,A]) rfl rfl rfl Kr rfl ⟨.inl rfl,trivial⟩ Kr Kr Kr Kr (qA8 1 (l':=(opsAt i36p8).toList.drop 1) (eE:=G) (H':=(mkH [J,⟨e32 c,0,false⟩,A])) (hs:=[]) Kr (qAa (l':=(opsAt i36p8).toList.drop 2) (eE:=((20,.str l)::G)) (hs:=[]) (x:=l) (λ(l:LN)=>(.str l,(mkH [J,⟨e32 c,0,false⟩,A]))) (catH Kr) E Kr (qA8 2 (l':=(opsAt i36p8).toList.drop 4) (eE:=((22,w3 ([(1:Int)]:List Int))::(21,.ptr 0 4 0)::(20,.str l)::G)) (H':=(mkH [J,⟨e32 c,0,false⟩,A])) (hs:=[]) Kr (qAh (l':=(opsAt i36p8).toList.drop 5) (eE:=((23,.top)::(22,w3 ([(1:Int)]:List Int))::(21,.ptr 0 4 0)::(20,.str l)::G)) (hs:=[(mkH [J,⟨e32 c,0,false⟩,A])]) (fi:=51) (args:=[.ptr 0 4 0,w3 ([(1:Int)]:List Int)]) Kr Kr (frS 0 (M:=[J,⟨e32 c,0,false⟩,A]) (rs:=[0]) (ms:=[]) (mv:=[]) (mm:=[]) (D:=[]) (xs':=[.ptr 0 4 0,w3 ([(1:Int)]:List Int)]) (.refl) ((qD6 k ([(1:Int)]:List Int) o q j.2 u).2 h) trivial trivial Kr) Kr (qA0 (l':=(opsAt i36p8).toList.drop 6) (eE:=U) (hs:=[]) Kr Kr (qA8 2 (l':=(opsAt i36p8).toList.drop 8) (eE:=((26,w32 ([c]:List S31))::(25,n32 c)::U)) (H':=(mkH [J,⟨e32 c,0,false⟩,A])) (hs:=[]) Kr (qA0 (l':=(opsAt i36p8).toList.drop 9) (eE:=((27,.top)::(26,w32 ([c]:List S31))::(25,n32 c)::U)) (hs:=[]) Kr Kr (qA0 (l':=(opsAt i36p8).toList.drop 10) (eE:=((27,.top)::(26,w32 ([c]:List S31))::(25,n32 c)::U)) (hs:=[(mkH [J,⟨e32 c,0,false⟩,A])]) Kr Kr (.nil))))))))) Kr Kr
   ·refine qA7 (λm S=>?_)
    let G:Env:=[(19,.str g.1),(18,.bool true),(0,.ptr 0 4 0),(3,.ptr 1 7 0),(4,.ptr 2 7 0),(5,.str g.1),(18,.bool j.1)]
    let E8:Env:=((24,.str m)::(23,.str B.1)::(22,w3 ([(1:Int)]:List Int))::(21,.ptr 0 4 0)::(20,.str l)::G)
    let N:Blk:=⟨[.str o,w39 q,.i B.2,.i u],4,false⟩
    refine oD (H':=(mkH [N,⟨e32 c,0,false⟩,⟨[.i 12,.str m,w32 ([c]:List S31),.bool false,.bool false,.nils,.nils],7,false⟩])) (nav [0] i36p8) ((27,.agg [.i 12,.str m,w32 ([c]:List S31),.bool false,.bool false,.nils,.nils])::(26,w32 ([c]:List S31))::(25,n32 c)::E8) [(mkH [N,⟨e32 c,0,false⟩,A]),(mkH [N,⟨e32 c,0,false⟩,⟨[.i 12,.str m,w32 ([c]:List S31),.bool false,.bool false,.nils,.nils],7,false⟩])] i36d0 (oDr 1 1 G (qAa (l':=(opsAt i36p8).toList.drop 2) (eE:=((20,.str l)::G)) (hs:=[]) (x:=l) (λ(l:LN)=>(.str l,(mkH [⟨[.str o,w39 q,.i j.2,.i u],4,false⟩,⟨e32 c,0,false⟩,A]))) (catH Kr) E Kr (oDr 2 4 ((22,w3 ([(1:Int)]:List Int))::(21,.ptr 0 4 0)::(20,.str l)::G) (qA5 (l':=(opsAt i36p8).toList.drop 5) (eE:=((23,.str B.1)::(22,w3 ([(1:Int)]:List Int))::(21,.ptr 0 4 0)::(20,.str l)::G)) (hs:=[(mkH [N,⟨e32 c,0,false⟩,A])]) (H':=(mkH [N,⟨e32 c,0,false⟩,A])) (fi:=51) (args:=[.ptr 0 4 0,w3 ([(1:Int)]:List Int)]) (v := .str B.1) Kr (frC (rs:=[0]) (ms:=[]) (ms':=[]) ((qD6 k ([(1:Int)]:List Int) o q j.2 u).1 B O) trivial trivial Kr) Kr (qAa (l':=(opsAt i36p8).toList.drop 6) (eE:=E8) (hs:=[]) (x:=m) (λ(m:LN)=>(.str m,(mkH [N,⟨e32 c,0,false⟩,A]))) (catH Kr) S Kr (oDh 4 10 ((27,.agg [.i 12,.str m,w32 ([c]:List S31),.bool false,.bool false,.nils,.nils])::(26,w32 ([c]:List S31))::(25,n32 c)::E8) (mkH [N,⟨e32 c,0,false⟩,⟨[.i 12,.str m,w32 ([c]:List S31),.bool false,.bool false,.nils,.nils],7,false⟩]) [(mkH [N,⟨e32 c,0,false⟩,⟨[.i 12,.str m,w32 ([c]:List S31),.bool false,.bool false,.nils,.nils],7,false⟩])] .nil)))))) ?_
    exact oQF 1 [N,⟨e32 c,0,false⟩,⟨[.i 12,.str m,w32 ([c]:List S31),.bool false,.bool false,.nils,.nils],7,false⟩] 1 [] [.agg [.i 12,.str m,w32 ([c]:List S31),.bool false,.bool false,.nils,.nils]] (.agg [.i 12,.str m,w32 ([c]:List S31),.bool false,.bool false,.vec 0 1 [],.vec 0 1 []]) (.agg (.cs (.cs (.cs (.cs (.cs (.nil (.nil .ps))))))) .ps) trivial
  ·refine oR 5 (atN 1 (ctl1 i36p9)) ((28,.ptr 0 4 0)::(18,.bool false)::E5) ?_
   refine oX (λ(C:Int) => .tuple []) (λC=>[⟨[.str o,w39 q,.i C,.i u],4,false⟩,⟨e32 c,0,false⟩,A]) (atN 2 (ctl1 i36p9)) 29 [0] [] [] [0] [] [.ptr 0 4 0,.str [123]] (qB2 k ([123]:LN) o q j.2 u) trivial (λ_=>trivial) trivial λC b1=>?_
   let E9:Env:=((33,.slice 3 7 0 1 7)::(32,n32 c)::(31,.str g.1)::(30,.ptr 0 4 0)::(29,.tuple [])::(28,.ptr 0 4 0)::(18,.bool false)::E5)
   let Q7:Blk:=⟨[.str o,w39 q,.i C,.i u],4,false⟩
   refine oH 7 (atN 4 (ctl1 i36p10)) E9 (mkH [Q7,⟨e32 c,0,false⟩,A,⟨e32 c,0,false⟩]) ?_
   refine qDa 33 3 7 1 7 Kr rfl ?_
   let Q8:Blk:=⟨(([c]:List S31)).flatMap e32,0,false⟩
   refine oH 3 (atN 7 (ctl1 i36p10)) ((36,.func 70 [.ptr 0 4 0] [])::(35,.ptr 0 4 0)::(34,.agg [.i 11,.str g.1,.own 3 (([c]:List S31)).length 7,.bool false,.bool false,.nils,.nils])::(33,.own 3 (([c]:List S31)).length 7)::E9) (mkH [Q7,⟨e32 c,0,false⟩,A,Q8]) ?_
   refine oXW 0 [Q7,⟨e32 c,0,false⟩,A,Q8] (λ(b:Ri15) => .agg [.i b.1,.str b.2.1,.own 3 (b.2.2.2.2.2.2.2).length 7,.bool b.2.2.1,.bool b.2.2.2.1,w9 b.2.2.2.2.1,w9 b.2.2.2.2.2.1]) (λb=>[⟨[.str o,w39 q,.i b.2.2.2.2.2.2.1,.i u],4,false⟩,⟨e32 c,0,false⟩,A,⟨(b.2.2.2.2.2.2.2).flatMap e32,0,false⟩]) (atN 8 (ctl1 i36p10)) 37 [0,3] [0,1] [0,1] [0,3] [] [0,0,0,1] [.ptr 0 4 0,.agg [.i 11,.str g.1,.own 3 (([c]:List S31)).length 7,.bool false,.bool false,.nils,.nils],.str [125],.func 70 [.ptr 0 4 0] []] [.ptr 0 4 0,.agg [.i 11,.str g.1,.own 3 (([c]:List S31)).length 7,.bool false,.bool false,w9 ([]:LL),w9 ([]:LL)],.str [125],.func 70 [.ptr 0 4 0] []] (.cons (.agg (.cons (.cons (.cons (.cons (.cons (.nil (.nil (.refl)))))))) (.refl))) (hF.i15_ok (11:Int) g.1 false false ([]:LL) ([]:LL) ([125]:LN) o q C u ([c]:List S31)) ⟨u32 _,trivial⟩ (λ_=>⟨u32 _,trivial⟩) trivial λb b3=>?_
   exact oQF 3 [⟨[.str o,w39 q,.i b.2.2.2.2.2.2.1,.i u],4,false⟩,⟨e32 c,0,false⟩,⟨[.i b.1,.str b.2.1,.own 3 (b.2.2.2.2.2.2.2).length 7,.bool b.2.2.1,.bool b.2.2.2.1,w9 b.2.2.2.2.1,w9 b.2.2.2.2.2.1],7,false⟩,⟨(b.2.2.2.2.2.2.2).flatMap e32,0,false⟩] 1 [] [.agg [.i b.1,.str b.2.1,.own 3 (b.2.2.2.2.2.2.2).length 7,.bool b.2.2.1,.bool b.2.2.2.1,w9 b.2.2.2.2.1,w9 b.2.2.2.2.2.1]] (.agg [.i b.1,.str b.2.1,w32 b.2.2.2.2.2.2.2,.bool b.2.2.1,.bool b.2.2.2.1,w9 b.2.2.2.2.1,w9 b.2.2.2.2.2.1]) (.agg (.cs (.cs (qAw qA4 qAg rfl rfl rfl .ps))) .ps) trivial
theorem i36B_ok (k:Nat) (F:Fns0) (a:FnsOk0 F):Pi36 (i36B k F):=λb c g j l=>⟨λx h=>qLd k F a b c g j l (some x) h,λh=>⟨_,qLd k F a b c g j l none h⟩⟩
def i37p1:Pt:=nav [0,0,0] (nav [0] (bodyAt Try.f78))
def i37p2:Pt:=nav [0,0,0,0,0] i37p1
def i37p3:Pt:=nav [0,0,0] i37p2
def i37p4:Pt:=nav [0,0] i37p3
def i37p5:Pt:=nav [1,0,0] i37p4
def i37d0:DP:=⟨[14],[(0,0,0),(1,0,1),(0,0,0),(4,0,0),(12,0,0),(31,0,0),(63,0,0),(127,0,0)],8,thrown,[],H0⟩
def qJa (k:Nat) (F:Fns0)  (j:LN) (l:List S38) (n:Int) (m:Int) (ih:Int→(List S31)→Option (Option (S31×Int))):Int→(List S31)→Option (Option (S31×Int)) :=
 λ(g:Int) (a:List S31)=>bT (i11 k ([59]:LN) j l g m) λb=>if b.1 then (bT (F.i47 j l b.2 m) λc=>(appS 104 a ([c.1]:List S31)).bind λh=>ih c.2 h) else (some (some ((⟨(24:Int),([]:LN),⟨(a).length,(a).flatMap e32⟩,false,false,([]:LL),([]:LL)⟩:S31),b.2)))
def qOy (k:Nat) (F:Fns0)  (a:LN) (b:List S38) (c:Int) (g:Int) (n:Nat):Int→(List S31)→Option (Option (S31×Int)):=lp (λ_ _=>none) (qJa k F a b c g) n
theorem qOx (k:Nat) (F:Fns0) (N:FnsOk0 F) (q:LN) (r:List S38) (J:Int) (u:Int)    : ∀ (n:Nat) (j:Int) (c:List S31),Ok (Xi37 q r J u) i37p2 [(0,.ptr 0 4 0),(2,.ptr 1 7 0),(3,.ptr 3 7 0)] (mkH [⟨[.str q,w39 r,.i j,.i u],4,false⟩,⟨[.i 0,.str [],.nils,.bool false,.bool false,.nils,.nils],0,false⟩,⟨(c).flatMap e32,0,false⟩,⟨[.i 24,.str [],.own 2 (c).length 7,.bool false,.bool false,.nils,.nils],7,false⟩]) (qOy k F q r J u n j c):=by
 intro n
 induction n with
 | zero=>intro j c; exact ok_none
 | succ n ih =>
  intro j c
  show Ok _ _ _ _ (qJa k F q r J u (qOy k F q r J u n) j c)
  unfold qJa
  refine qAk (p':=nav [0] i37p2) Kr ?_
  let l:Blk:=⟨[.i 0,.str [],.nils,.bool false,.bool false,.nils,.nils],0,false⟩
  let o:Blk:=⟨(c).flatMap e32,0,false⟩
  let m:Blk:=⟨[.i 24,.str [],.own 2 (c).length 7,.bool false,.bool false,.nils,.nils],7,false⟩
  refine oH 4 (atN 1 (ctl1 i37p3)) [(8,.ptr 0 4 0),(0,.ptr 0 4 0),(2,.ptr 1 7 0),(3,.ptr 3 7 0)] (mkH [⟨[.str q,w39 r,.i j,.i u],4,false⟩,l,o,m]) ?_
  refine oX (λ(g:(Bool×Int)) => .bool g.1) (λg=>[⟨[.str q,w39 r,.i g.2,.i u],4,false⟩,l,o,m]) (atN 2 (ctl1 i37p3)) 9 [0] [] [] [3] [0,0,1] [.ptr 0 4 0,.str [59]] (qAb k ([59]:LN) q r j u) trivial (λ_=>trivial) ⟨u32 _,trivial⟩ λg K=>?_
  let O:Env:=[(9,.bool g.1),(8,.ptr 0 4 0),(0,.ptr 0 4 0),(2,.ptr 1 7 0),(3,.ptr 3 7 0)]
  refine oR 1 i37p4 O ?_
  refine oS 9 (λS=>?_) (λS=>?_)
  ·refine oR 3 i37p5 ((9,.bool true)::O) ?_
   refine qCe (λh=>?_) (λb E=>?_)
   ·let A:Env:=[(12,.ptr 0 4 0),(11,.own 2 (c).length 7),(10,.ptr 3 7 2),(9,.bool true),(9,.bool g.1),(8,.ptr 0 4 0),(0,.ptr 0 4 0),(2,.ptr 1 7 0),(3,.ptr 3 7 0)]
    let C:Blk:=⟨[.str q,w39 r,.i g.2,.i u],4,false⟩
    exact qAm (eE:=((16,.top)::(15,.top)::(14,.top)::(13,.top)::A)) (i37d0.th 3 thrown [0,3] (mkH [C,l,o,m])) (hs:=[(mkH [C,l,o,m]),(mkH [C,l,o,m]),(mkH [C,l,o,m])]) (LX:=[⟨[.str q,w39 r,.i J,.i u],4,false⟩]) (L:=[C,l,o,m]) rfl rfl rfl Kr rfl ⟨.inl rfl,trivial⟩ Kr Kr Kr Kr (qA8 3 (l':=(opsAt i37p5).toList.drop 3) (eE:=A) (H':=(mkH [C,l,o,m])) (hs:=[]) Kr (qAh (l':=(opsAt i37p5).toList.drop 4) (eE:=((13,.top)::A)) (hs:=[(mkH [C,l,o,m])]) (fi:=86) (args:=[.ptr 0 4 0]) Kr Kr (frS 0 (M:=[C,l,o,m]) (rs:=[0]) (ms:=[]) (mv:=[0,0,1]) (mm:=[0,0,1]) (D:=[0,3]) (xs':=[.ptr 0 4 0]) (.refl) ((N.i47_ok q r g.2 u).2 h) trivial ⟨u32 _,trivial⟩ Kr) Kr (qA0 (l':=(opsAt i37p5).toList.drop 5) (eE:=((14,.top)::(13,.top)::A)) (hs:=[]) Kr Kr (qA0 (l':=(opsAt i37p5).toList.drop 6) (eE:=((15,.top)::(14,.top)::(13,.top)::A)) (hs:=[(mkH [C,l,o,m])]) Kr Kr (qA0 (l':=(opsAt i37p5).toList.drop 7) (eE:=((16,.top)::(15,.top)::(14,.top)::(13,.top)::A)) (hs:=[]) Kr Kr (qA0 (l':=(opsAt i37p5).toList.drop 8) (eE:=((16,.top)::(15,.top)::(14,.top)::(13,.top)::A)) (hs:=[(mkH [C,l,o,m])]) Kr Kr (.nil))))))) Kr Kr
   ·refine qA7 (λa G=>?_)
    let A:Env:=[(12,.ptr 0 4 0),(11,.own 2 (c).length 7),(10,.ptr 3 7 2),(9,.bool true),(9,.bool g.1),(8,.ptr 0 4 0),(0,.ptr 0 4 0),(2,.ptr 1 7 0),(3,.ptr 3 7 0)]
    let B:Blk:=⟨[.str q,w39 r,.i b.2,.i u],4,false⟩
    refine oD (H':=(mkH [B,l,⟨(a).flatMap e32,0,false⟩,⟨[.i 24,.str [],.own 2 (a).length 7,.bool false,.bool false,.nils,.nils],7,false⟩])) (nav [0] i37p5) ((16,.ptr 3 7 2)::(15,.own 2 (a).length 7)::(14,w32 ([b.1]:List S31))::(13,n32 b.1)::A) [(mkH [B,l,o,m]),(mkH [B,l,⟨(a).flatMap e32,0,false⟩,m]),(mkH [B,l,⟨(a).flatMap e32,0,false⟩,⟨[.i 24,.str [],.own 2 (a).length 7,.bool false,.bool false,.nils,.nils],7,false⟩])] i37d0 (oDr 3 3 A (qA5 (l':=(opsAt i37p5).toList.drop 4) (eE:=((13,n32 b.1)::A)) (hs:=[(mkH [B,l,o,m])]) (H':=(mkH [B,l,o,m])) (fi:=86) (args:=[.ptr 0 4 0]) (v:=n32 b.1) Kr (frC (rs:=[0]) (ms:=[]) (ms':=[]) ((N.i47_ok q r g.2 u).1 b E) trivial trivial Kr) Kr (oDr 1 5 ((14,w32 ([b.1]:List S31))::(13,n32 b.1)::A) (qAa (l':=(opsAt i37p5).toList.drop 6) (eE:=((15,.own 2 (a).length 7)::(14,w32 ([b.1]:List S31))::(13,n32 b.1)::A)) (hs:=[(mkH [B,l,⟨(a).flatMap e32,0,false⟩,m])]) (x:=a) (λ(a:List S31)=>(.own 2 (a).length 7,(mkH [B,l,⟨(a).flatMap e32,0,false⟩,m]))) (appHV (sz:=7) qA4 rfl qB0 [B,l,o,m] 2 104 c ([b.1]:List S31) rfl rfl Kr) G Kr (oDh 2 8 ((16,.ptr 3 7 2)::(15,.own 2 (a).length 7)::(14,w32 ([b.1]:List S31))::(13,n32 b.1)::A) (mkH [B,l,⟨(a).flatMap e32,0,false⟩,⟨[.i 24,.str [],.own 2 (a).length 7,.bool false,.bool false,.nils,.nils],7,false⟩]) [(mkH [B,l,⟨(a).flatMap e32,0,false⟩,⟨[.i 24,.str [],.own 2 (a).length 7,.bool false,.bool false,.nils,.nils],7,false⟩])] .nil))))) ?_
    refine oK [0,2,3] [(0,.ptr 0 4 0),(2,.ptr 1 7 0),(3,.ptr 3 7 0)] ?_
    exact ih b.2 a
  ·exact oQF 8 [⟨[.str q,w39 r,.i g.2,.i u],4,false⟩,m,o,m] 1 [] [.agg [.i 24,.str [],.own 2 (c).length 7,.bool false,.bool false,.nils,.nils]] (.agg [.i 24,.str [],w32 c,.bool false,.bool false,.vec 0 1 [],.vec 0 1 []]) (.agg (.cs (.cs (qAw qA4 qAg rfl rfl rfl (.cs (.cs (.nil (.nil .ps))))))) .ps) trivial
def i37B (k:Nat) (F:Fns0) (b:LN) (c:List S38) (g:Int) (h:Int):Option (Option (S31×Int)) :=
 bT (F.i47 b c g h) λa=>qOy k F b c g h k a.2 ([a.1]:List S31)
theorem qLc (k:Nat) (F:Fns0) (n:FnsOk0 F):∀ b c j g r,i37B k F b c j g=some r→CallT Try.prog 78 [.ptr 0 4 0] (mkH [⟨[.str b,w39 c,.i j,.i g],4,false⟩]) ((Xi37 b c j g).thr r) ((Xi37 b c j g).enc r) ((Xi37 b c j g).fin r):=by
 intro b c j g r h
 refine qA1 (Xi37 b c j g) Try.func78 Kr Kr rfl (t:=i37B k F b c j g) ?_ h
 unfold i37B
 refine qA (eE:=[(0,.ptr 0 4 0)]) Kr ?_
 let l:Blk:=⟨[.i 0,.str [],.nils,.bool false,.bool false,.nils,.nils],0,false⟩
 refine oH 7 (atN 1 (ctl1 i37p1)) [(4,.ptr 0 4 0),(2,.ptr 1 7 0),(0,.ptr 0 4 0)] (mkH [⟨[.str b,w39 c,.i j,.i g],4,false⟩,l]) ?_
 refine oX (λ(a:(S31×Int))=>n32 a.1) (λa=>[⟨[.str b,w39 c,.i a.2,.i g],4,false⟩,l]) (atN 2 (ctl1 i37p1)) 5 [0] [] [] [0] [] [.ptr 0 4 0] (n.i47_ok b c j g) trivial (λ_=>trivial) trivial λa m=>?_
 let o:Blk:=⟨[.str b,w39 c,.i a.2,.i g],4,false⟩
 refine oH 1 (atN 3 (ctl1 i37p1)) [(6,.slice 2 7 0 1 7),(5,n32 a.1),(4,.ptr 0 4 0),(2,.ptr 1 7 0),(0,.ptr 0 4 0)] (mkH [o,l,⟨e32 a.1,0,false⟩]) ?_
 refine qDa 6 2 7 1 7 Kr rfl ?_
 refine oLH 7 i37p2 [(0,.ptr 0 4 0),(2,.ptr 1 7 0),(3,.ptr 3 7 0)] (mkH [o,l,⟨(([a.1]:List S31)).flatMap e32,0,false⟩,⟨[.i 24,.str [],.own 2 (([a.1]:List S31)).length 7,.bool false,.bool false,.nils,.nils],7,false⟩]) ?_
 exact (qOx k F n b c j g k) a.2 ([a.1]:List S31)
theorem i37B_ok (k:Nat) (F:Fns0) (a:FnsOk0 F):Pi37 (i37B k F):=λb c g j=>⟨λx h=>qLc k F a b c g j (some x) h,λh=>⟨_,qLc k F a b c g j none h⟩⟩
def i38p2:Pt:=nav [0,0,0,0,0] (nav [0,0,0,0] (nav [0] (bodyAt Try.f77)))
def i38p3:Pt:=nav [0,0] i38p2
def i38p4:Pt:=nav [0,0,0] i38p3
def i38p6:Pt:=nav [0,0,0] (nav [0,0,0] i38p4)
def i38p7:Pt:=nav [0,0,0,0] i38p6
def i38d0:DP:=⟨[],[(0,0,0),(1,0,0),(3,0,0),(7,0,0),(15,0,0),(31,0,0),(63,0,0),(127,0,0),(255,0,0),(31,0,0),(543,0,0),(1567,0,0),(3615,0,0),(31,0,0),(8223,0,0),(24607,0,0),(57375,0,0),(131071,0,0),(262143,0,0),(524287,0,0)],20,thrown,[],H0⟩
def qJ9 (k:Nat) (F:Fns0)  (m:LN) (n:List S38) (o:Int) (ih:Int→(List S31)→Option (Option (S31×Int))):Int→(List S31)→Option (Option (S31×Int)) :=
 λ(b:Int) (c:List S31)=>jn (λ(q:Bool×Int×(List S31))=>(i12 k m n q.2.1 o).bind λj=>bT (F.i9 (0:Int) m n j.2 o) λa=>(appS 104 q.2.2 ([(⟨a.1.f0,a.1.f1,a.1.f2,a.1.f3,q.1,j.1,a.1.f6⟩:S31)]:List S31)).bind λg=>bT (i11 k ([44]:LN) m n a.2 o) λh=>if h.1 then (ih h.2 g) else (some (some ((⟨(25:Int),([]:LN),⟨(g).length,(g).flatMap e32⟩,false,false,([]:LL),([]:LL)⟩:S31),h.2)))) (λr=>if (decide (0 < (c.length:Int))) then ((g26 k m n b).bind λl=>r (l,b,c)) else (r (false,b,c)))
def qOw (k:Nat) (F:Fns0)  (a:LN) (b:List S38) (c:Int) (n:Nat):Int→(List S31)→Option (Option (S31×Int)):=lp (λ_ _=>none) (qJ9 k F a b c) n
theorem qOv (k:Nat) (F:Fns0) (hF:FnsOk0 F) (m:LN) (o:List S38) (a2:Int) (q:Int)    : ∀ (n:Nat) (g:Int) (a:List S31),Ok (Xi38 m o a2 q) i38p2 [(0,.ptr 0 4 0),(2,.ptr 1 7 0),(3,.ptr 2 7 0)] (mkH [⟨[.str m,w39 o,.i g,.i q],4,false⟩,⟨[.i 0,.str [],.nils,.bool false,.bool false,.nils,.nils],0,false⟩,⟨[.i 25,.str [],.own 3 (a).length 7,.bool false,.bool false,.nils,.nils],7,false⟩,⟨(a).flatMap e32,0,false⟩]) (qOw k F m o q n g a):=by
 intro n
 induction n with
 | zero=>intro g a; exact ok_none
 | succ n ih =>
  intro g a
  show Ok _ _ _ _ (qJ9 k F m o q (qOw k F m o q n) g a)
  unfold qJ9
  let r:Blk:=⟨[.i 0,.str [],.nils,.bool false,.bool false,.nils,.nils],0,false⟩
  refine oJ i38p3 (λ(u:Bool×Int×(List S31))=>[(0,.ptr 0 4 0),(2,.ptr 1 7 0),(3,.ptr 2 7 0),(4,.bool u.1)]) (λ(u:Bool×Int×(List S31))=>(mkH [⟨[.str m,w39 o,.i u.2.1,.i q],4,false⟩,r,⟨[.i 25,.str [],.own 3 (u.2.2).length 7,.bool false,.bool false,.nils,.nils],7,false⟩,⟨(u.2.2).flatMap e32,0,false⟩])) (λu=>?_) (λj6 N=>?_)
  ·let E1:Env:=[(27,.ptr 0 4 0),(0,.ptr 0 4 0),(2,.ptr 1 7 0),(3,.ptr 2 7 0),(4,.bool u.1)]
   let E:Blk:=⟨[.i 25,.str [],.own 3 (u.2.2).length 7,.bool false,.bool false,.nils,.nils],7,false⟩
   let M:Blk:=⟨(u.2.2).flatMap e32,0,false⟩
   refine oH 2 (atN 1 (ctl1 i38p3)) E1 (mkH [⟨[.str m,w39 o,.i u.2.1,.i q],4,false⟩,r,E,M]) ?_
   refine oN (λ(h:Ri12)=>w9 h.1) (λh=>[⟨[.str m,w39 o,.i h.2,.i q],4,false⟩,r,E,M]) (atN 2 (ctl1 i38p3)) 28 [0] [] [] [.ptr 0 4 0] (qAp k m o u.2.1 q) trivial (λ_=>trivial) λh W=>?_
   refine oR 5 (atN 1 (ctl1 i38p4)) ((29,.ptr 0 4 0)::(5,w9 h.1)::(28,w9 h.1)::E1) ?_
   refine oX (λ(b:(S31×Int))=>n32 b.1) (λb=>[⟨[.str m,w39 o,.i b.2,.i q],4,false⟩,r,E,M]) (atN 2 (ctl1 i38p4)) 30 [0] [] [] [0,2] [0,0,0,1] [.ptr 0 4 0,.i 0] (hF.i9_ok (0:Int) m o h.2 q) trivial (λ_=>trivial) ⟨u32 _,trivial⟩ λb Y=>?_
   let E3:Env:=[(0,.ptr 0 4 0),(2,.ptr 1 7 0),(3,.ptr 2 7 0),(6,.ptr 4 7 0)]
   let O:Blk:=⟨[.str m,w39 o,.i b.2,.i q],4,false⟩
   let D:Blk:=⟨[.i b.1.f0,.str b.1.f1,q32 b.1.f2,.bool b.1.f3,.bool u.1,w9 h.1,w9 b.1.f6],7,false⟩
   refine oLH 13 i38p6 E3 (mkH [O,r,E,M,D]) ?_
   let G:Blk:=⟨[.i b.1.f0,.str b.1.f1,q32 b.1.f2,.bool b.1.f3,.bool u.1,w9 h.1,w9 b.1.f6],0,false⟩
   refine oH 5 (atN 4 (ctl1 i38p6)) ((38,.slice 5 7 0 1 7)::(37,.agg [.i b.1.f0,.str b.1.f1,q32 b.1.f2,.bool b.1.f3,.bool u.1,w9 h.1,w9 b.1.f6])::(36,.own 3 (u.2.2).length 7)::(35,.ptr 2 7 2)::E3) (mkH [O,r,E,M,D,G]) ?_
   refine oC (λ(j:List S31)=>(.own 3 (j).length 7,(mkH [O,r,E,⟨(j).flatMap e32,0,false⟩,D,G]))) (atN 5 (ctl1 i38p6)) 39 (appH (sz:=7) qA4 rfl qB0 [O,r,E,M,D,G] 3 104 u.2.2 ([(⟨b.1.f0,b.1.f1,b.1.f2,b.1.f3,u.1,h.1,b.1.f6⟩:S31)]:List S31) rfl rfl Kr) λj Z=>?_
   let E5:Env:=[(0,.ptr 0 4 0),(2,.ptr 1 7 0),(3,.ptr 2 7 0)]
   let S:Blk:=⟨[.i 25,.str [],.own 3 (j).length 7,.bool false,.bool false,.nils,.nils],7,false⟩
   let U:Blk:=⟨(j).flatMap e32,0,false⟩
   refine oLH 5 i38p7 E5 (mkH [O,r,S,U,D,G]) ?_
   refine oR 2 (atN 1 (ctl1 i38p7)) ((41,.ptr 0 4 0)::E5) ?_
   refine oX (λ(l:(Bool×Int)) => .bool l.1) (λl=>[⟨[.str m,w39 o,.i l.2,.i q],4,false⟩,r,S,U,D,G]) (atN 2 (ctl1 i38p7)) 42 [0] [] [] [2] [0,0,0,1] [.ptr 0 4 0,.str [44]] (qAb k ([44]:LN) m o b.2 q) trivial (λ_=>trivial) ⟨u32 _,trivial⟩ λl a5=>?_
   refine oR 1 (nav [0,0] i38p7) ((42,.bool l.1)::(41,.ptr 0 4 0)::E5) ?_
   refine oS 42 (λhb=>?_) (λhb=>?_)
   ·refine oL 5 i38p2 [(0,.ptr 0 4 0),(2,.ptr 1 7 0),(3,.ptr 2 7 0)] ?_
    refine qA9 [⟨[.str m,w39 o,.i l.2,.i q],4,false⟩,r,S,U] [D,G] Kr rfl Kr ⟨Kr,⟨Kr,⟨Kr,⟨(qA3 _ (u32 _)),trivial⟩⟩⟩⟩ ?_
    exact ih l.2 j
   ·exact oQF 8 [⟨[.str m,w39 o,.i l.2,.i q],4,false⟩,S,S,U,D,G] 1 [] [.agg [.i 25,.str [],.own 3 (j).length 7,.bool false,.bool false,.nils,.nils]] (.agg [.i 25,.str [],w32 j,.bool false,.bool false,.vec 0 1 [],.vec 0 1 []]) (.agg (.cs (.cs (qAw qA4 qAg rfl rfl rfl (.cs (.cs (.nil (.nil .ps))))))) .ps) trivial
  ·refine qCo (λJ=>?_) (λJ=>?_)
   ·refine qA7 (λc x=>?_)
    let E7:Env:=[(12,.bool (decide (0 < (a.length:Int)))),(11,.bool (decide (0 < (a.length:Int)))),(10,.i (a.length:Int)),(9,.own 3 (a).length 7),(8,.ptr 2 7 2),(0,.ptr 0 4 0),(2,.ptr 1 7 0),(3,.ptr 2 7 0)]
    let V:Env:=[(24,.i g),(23,.ptr 0 4 2),(22,.ptr 0 4 0),(21,.ptr 0 4 0),(20,w39 o),(19,.ptr 0 4 1),(18,.ptr 0 4 0),(17,.ptr 0 4 0),(16,.str m),(15,.ptr 0 4 0),(14,.ptr 0 4 0),(13,.ptr 0 4 0),(12,.bool true),(11,.bool true),(10,.i (a.length:Int)),(9,.own 3 (a).length 7),(8,.ptr 2 7 2),(0,.ptr 0 4 0),(2,.ptr 1 7 0),(3,.ptr 2 7 0)]
    let Q9:Blk:=⟨[.str m,w39 o,.i g,.i q],4,false⟩
    let K:Blk:=⟨[.i 25,.str [],.own 3 (a).length 7,.bool false,.bool false,.nils,.nils],7,false⟩
    let L:Blk:=⟨(a).flatMap e32,0,false⟩
    refine oD (H':=(mkH [Q9,r,K,L])) (nav [0] i38p2) ((4,.bool c)::(26,.bool c)::(25,.bool c)::V) [(mkH [Q9,r,K,L])] i38d0 (oDr 5 5 E7 (oDe (λz=>[(12,.bool z),(11,.bool z),(10,.i (a.length:Int)),(9,.own 3 (a).length 7),(8,.ptr 2 7 2),(0,.ptr 0 4 0),(2,.ptr 1 7 0),(3,.ptr 2 7 0)]) J (oDr 12 17 V (qAs (l':=(opsAt i38p2).toList.drop 18) (eE:=((25,.bool c)::V)) (hs:=[(mkH [Q9,r,K,L])]) (fi:=26) (args:=[.str m,w39 o,.i g]) (v := .bool c) Kr Kr Kr (g26_ok k m o g c x) Kr (oDr 2 20 ((4,.bool c)::(26,.bool c)::(25,.bool c)::V) .nil))))) ?_
    refine oL 1 i38p3 [(0,.ptr 0 4 0),(2,.ptr 1 7 0),(3,.ptr 2 7 0),(4,.bool c)] ?_
    exact N (c,g,a)
   ·let E7:Env:=[(12,.bool (decide (0 < (a.length:Int)))),(11,.bool (decide (0 < (a.length:Int)))),(10,.i (a.length:Int)),(9,.own 3 (a).length 7),(8,.ptr 2 7 2),(0,.ptr 0 4 0),(2,.ptr 1 7 0),(3,.ptr 2 7 0)]
    let T:Env:=[(4,.bool false),(26,.bool false),(25,.tuple []),(24,.tuple []),(23,.tuple []),(22,.tuple []),(21,.tuple []),(20,.tuple []),(19,.tuple []),(18,.tuple []),(17,.tuple []),(16,.tuple []),(15,.tuple []),(14,.tuple []),(13,.tuple []),(12,.bool false),(11,.bool false),(10,.i (a.length:Int)),(9,.own 3 (a).length 7),(8,.ptr 2 7 2),(0,.ptr 0 4 0),(2,.ptr 1 7 0),(3,.ptr 2 7 0)]
    let A:Blk:=⟨[.str m,w39 o,.i g,.i q],4,false⟩
    let B:Blk:=⟨[.i 25,.str [],.own 3 (a).length 7,.bool false,.bool false,.nils,.nils],7,false⟩
    let C:Blk:=⟨(a).flatMap e32,0,false⟩
    refine oD (H':=(mkH [A,r,B,C])) (nav [0] i38p2) T [(mkH [A,r,B,C])] i38d0 (oDr 5 5 E7 (oDe (λz=>[(12,.bool z),(11,.bool z),(10,.i (a.length:Int)),(9,.own 3 (a).length 7),(8,.ptr 2 7 2),(0,.ptr 0 4 0),(2,.ptr 1 7 0),(3,.ptr 2 7 0)]) J (oDh 15 20 T (mkH [A,r,B,C]) [(mkH [A,r,B,C])] .nil))) ?_
    refine oL 1 i38p3 [(0,.ptr 0 4 0),(2,.ptr 1 7 0),(3,.ptr 2 7 0),(4,.bool false)] ?_
    exact N (false,g,a)
def i38B (k:Nat) (F:Fns0) (a:LN) (b:List S38) (c:Int) (g:Int):Option (Option (S31×Int)) :=
 qOw k F a b g k c ([]:List S31)
theorem qLb (k:Nat) (F:Fns0) (o:FnsOk0 F):∀ b c a g r,i38B k F b c a g=some r→CallT Try.prog 77 [.ptr 0 4 0] (mkH [⟨[.str b,w39 c,.i a,.i g],4,false⟩]) ((Xi38 b c a g).thr r) ((Xi38 b c a g).enc r) ((Xi38 b c a g).fin r):=by
 intro b c a g r h
 refine qA1 (Xi38 b c a g) Try.func77 Kr Kr rfl (t:=i38B k F b c a g) ?_ h
 unfold i38B
 refine qA (eE:=[(0,.ptr 0 4 0)]) Kr ?_
 let j:Blk:=⟨[.str b,w39 c,.i a,.i g],4,false⟩
 let l:Blk:=⟨[.i 0,.str [],.nils,.bool false,.bool false,.nils,.nils],0,false⟩
 let m:Blk:=⟨[.i 25,.str [],.nils,.bool false,.bool false,.nils,.nils],7,false⟩
 refine oH 14 i38p2 [(3,.ptr 2 7 0),(7,.agg [.i 25,.str [],.nils,.bool false,.bool false,.nils,.nils]),(2,.ptr 1 7 0),(0,.ptr 0 4 0)] (mkH [j,l,m]) ?_
 refine qGv [j,l,m] Kr ?_
 let n:Blk:=⟨(([]:List S31)).flatMap e32,0,false⟩
 refine oHp (mkH [j,l,m,n]) ?_
 refine qBu [j,l,m,n] 2 7 [.i 25,.str [],.nils,.bool false,.bool false,.nils,.nils] [.i 25,.str [],.own 3 (([]:List S31)).length 7,.bool false,.bool false,.nils,.nils] Kr rfl (.cons (.cons (.none (.refl)))) ?_
 refine oHp (mkH [j,l,⟨[.i 25,.str [],.own 3 (([]:List S31)).length 7,.bool false,.bool false,.nils,.nils],7,false⟩,n]) ?_
 refine oK [0,2,3] [(0,.ptr 0 4 0),(2,.ptr 1 7 0),(3,.ptr 2 7 0)] ?_
 exact (qOv k F o b c a g k) a ([]:List S31)
theorem i38B_ok (k:Nat) (F:Fns0) (a:FnsOk0 F):Pi38 (i38B k F):=λb c g j=>⟨λx h=>qLb k F a b c g j (some x) h,λh=>⟨_,qLb k F a b c g j none h⟩⟩
def i39c0:LL:=[([60,45]:LN),([60,61]:LN)]
def i39p1:Pt:=nav [0,0,0,0] (nav [0] (bodyAt Try.f97))
def i39p2:Pt:=nav [0,0,0] i39p1
def i39p3:Pt:=nav [0,0,0,0] i39p2
def i39p4:Pt:=nav [0,0,0,0] i39p3
def i39p6:Pt:=nav [0,0,0] (nav [0,0] i39p4)
def i39p7:Pt:=nav [1,0,0,0,0] i39p6
def i39p8:Pt:=nav [2,0,0] i39p6
def i39p9:Pt:=nav [0,0,0] i39p7
def i39p10:Pt:=nav [0,0,0,0] i39p8
def i39p11:Pt:=nav [0,0] i39p9
def i39p12:Pt:=nav [0,0] i39p10
def i39p13:Pt:=nav [1,0] i39p11
def i39p16:Pt:=nav [2,0] i39p12
def i39d0:DP:=⟨[23],[(0,0,0),(0,0,1),(0,0,0),(4,0,0),(14,0,0),(31,0,0),(63,0,0)],7,thrown,[],H0⟩
def qJ7 (k:Nat) (F:Fns0) (B:Int→(List S31)→Option (Option Ri39)) (C:Int) (D:LN) (E:Bool) (G:Bool) (J:LL) (K:LL) (u:LN) (x:List S38) (N:Int) (A:Int) (O:List S31) (a:(S31×Int)) (ih:Int→Int→(List S31)→Option (Option Ri39)):Int→Int→(List S31)→Option (Option Ri39) :=
 λ(b:Int) (l:Int) (c:List S31)=>jn (λ(o:Int×S31×(List S31))=>(appS 104 o.2.2 ([o.2.1]:List S31)).bind λm=>bT (i11 k ([93]:LN) u x o.1 A) λg=>if g.1 then (some (some (C,D,E,G,J,K,g.2,m))) else (bT (i14 k ([44]:LN) u x g.2 A) λq=>B q m)) (λr=>if (decide (b < (i39c0.length:Int))) then ((nthL i39c0 b).bind λn=>bT (i11 k n u x l A) λh=>jn (λ(L:List S31)=>bT (F.i9 (3:Int) u x h.2 A) λj=>r (j.2,(⟨14,n,(⟨(([a.1,j.1]:List S31)).length,(([a.1,j.1]:List S31)).flatMap e32⟩:Raw),false,false,([]:LL),([]:LL)⟩:S31),L)) (λM=>if h.1 then (M c) else (ih (fW .i64 (b+1)) h.2 c))) else (r (l,a.1,c)))
def qOt (k:Nat) (F:Fns0) (b:Int→(List S31)→Option (Option Ri39)) (c:Int) (g:LN) (h:Bool) (j:Bool) (l:LL) (m:LL) (o:LN) (q:List S38) (r:Int) (u:Int) (x:List S31) (a:(S31×Int)) (n:Nat):Int→Int→(List S31)→Option (Option Ri39):=lp (λ_ _ _=>none) (qJ7 k F b c g h j l m o q r u x a) n
theorem qOs (k:Nat) (F:Fns0) (hF:FnsOk0 F) (N:Int) (O:LN) (S:Bool) (T:Bool) (U:LL) (V:LL) (A:LN) (B:List S38) (a8:Int) (C:Int) (b1:List S31) (c7:Int→(List S31)→Option (Option Ri39)) (a:(S31×Int)) (d2:∀ (b6:Int) (b3:List S31),Ok (Xi39 N O S T U V A B a8 C b1) i39p1 [(0,.ptr 0 4 0),(3,.ptr 2 7 0),(4,.ptr 3 7 0)] (mkH [⟨[.str A,w39 B,.i b6,.i C],4,false⟩,⟨(b3).flatMap e32,0,false⟩,⟨[.i N,.str O,.own 1 (b3).length 7,.bool S,.bool T,w9 U,w9 V],7,false⟩,⟨[.i 0,.str [],.nils,.bool false,.bool false,.nils,.nils],0,false⟩]) (c7 b6 b3)):∀ (n:Nat) (o:Int) (x:Int) (j:List S31),Ok (Xi39 N O S T U V A B a8 C b1) i39p4 [(0,.ptr 0 4 0),(3,.ptr 2 7 0),(4,.ptr 3 7 0),(5,.ptr 4 7 0),(10,w9 i39c0),(11,.i (i39c0.length:Int)),(12,.i o)] (mkH [⟨[.str A,w39 B,.i x,.i C],4,false⟩,⟨(j).flatMap e32,0,false⟩,⟨[.i N,.str O,.own 1 (j).length 7,.bool S,.bool T,w9 U,w9 V],7,false⟩,⟨[.i 0,.str [],.nils,.bool false,.bool false,.nils,.nils],0,false⟩,⟨[.i a.1.f0,.str a.1.f1,q32 a.1.f2,.bool a.1.f3,.bool a.1.f4,w9 a.1.f5,w9 a.1.f6],7,false⟩]) (qOt k F c7 N O S T U V A B a8 C b1 a n o x j):=by
 intro n
 induction n with
 | zero=>intro o x j; exact ok_none
 | succ n ih =>
  intro o x j
  show Ok _ _ _ _ (qJ7 k F c7 N O S T U V A B a8 C b1 a (qOt k F c7 N O S T U V A B a8 C b1 a n) o x j)
  unfold qJ7
  refine qAk (p':=nav [0] i39p4) Kr ?_
  let E3:Env:=[(13,.bool (decide (o < (i39c0.length:Int)))),(0,.ptr 0 4 0),(3,.ptr 2 7 0),(4,.ptr 3 7 0),(5,.ptr 4 7 0),(10,w9 i39c0),(11,.i (i39c0.length:Int)),(12,.i o)]
  let Q1:Blk:=⟨[.str A,w39 B,.i x,.i C],4,false⟩
  let Q2:Blk:=⟨(j).flatMap e32,0,false⟩
  let Q3:Blk:=⟨[.i N,.str O,.own 1 (j).length 7,.bool S,.bool T,w9 U,w9 V],7,false⟩
  let l:Blk:=⟨[.i 0,.str [],.nils,.bool false,.bool false,.nils,.nils],0,false⟩
  refine oH 5 i39p6 E3 (mkH [Q1,Q2,Q3,l,⟨e32 a.1,7,false⟩]) ?_
  refine oJ i39p8 (λ(g:Int×S31×(List S31))=>[(0,.ptr 0 4 0),(3,.ptr 2 7 0),(4,.ptr 3 7 0),(5,.ptr 4 7 0)]) (λ(g:Int×S31×(List S31))=>(mkH [⟨[.str A,w39 B,.i g.1,.i C],4,false⟩,⟨(g.2.2).flatMap e32,0,false⟩,⟨[.i N,.str O,.own 1 (g.2.2).length 7,.bool S,.bool T,w9 U,w9 V],7,false⟩,l,⟨e32 g.2.1,7,false⟩])) (λg=>?_) (λg1 b9=>?_)
  ·let Q5:Blk:=⟨[.str A,w39 B,.i g.1,.i C],4,false⟩
   let Q7:Blk:=⟨[.i N,.str O,.own 1 (g.2.2).length 7,.bool S,.bool T,w9 U,w9 V],7,false⟩
   let K1:List Blk:=[Q5,⟨(g.2.2).flatMap e32,0,false⟩,Q7,l,⟨e32 g.2.1,7,false⟩,⟨e32 g.2.1,0,false⟩]
   refine oH 5 (atN 4 (ctl1 i39p8)) [(29,.slice 5 7 0 1 7),(28,n32 g.2.1),(27,.own 1 (g.2.2).length 7),(26,.ptr 2 7 2),(0,.ptr 0 4 0),(3,.ptr 2 7 0),(4,.ptr 3 7 0),(5,.ptr 4 7 0)] (mkH K1) ?_
   refine oC (λ(q:List S31)=>(.own 1 (q).length 7,(mkH [Q5,⟨(q).flatMap e32,0,false⟩,Q7,l,⟨e32 g.2.1,7,false⟩,⟨e32 g.2.1,0,false⟩]))) (atN 5 (ctl1 i39p8)) 30 (appH (sz:=7) qA4 rfl qB0 K1 1 104 g.2.2 ([g.2.1]:List S31) rfl rfl Kr) λq d4=>?_
   let Q8:Blk:=⟨(q).flatMap e32,0,false⟩
   let Q9:Blk:=⟨[.i N,.str O,.own 1 (q).length 7,.bool S,.bool T,w9 U,w9 V],7,false⟩
   refine oLH 5 i39p10 [(0,.ptr 0 4 0),(3,.ptr 2 7 0),(4,.ptr 3 7 0)] (mkH [Q5,Q8,Q9,l,⟨e32 g.2.1,7,false⟩,⟨e32 g.2.1,0,false⟩]) ?_
   let E5:Env:=[(0,.ptr 0 4 0),(3,.ptr 2 7 0),(4,.ptr 3 7 0)]
   refine oR 2 (atN 1 (ctl1 i39p10)) ((32,.ptr 0 4 0)::E5) ?_
   refine oX (λ(m:(Bool×Int)) => .bool m.1) (λm=>[⟨[.str A,w39 B,.i m.2,.i C],4,false⟩,Q8,Q9,l,⟨e32 g.2.1,7,false⟩,⟨e32 g.2.1,0,false⟩]) (atN 2 (ctl1 i39p10)) 33 [0] [] [] [2] [0,1] [.ptr 0 4 0,.str [93]] (qAb k ([93]:LN) A B g.1 C) trivial (λ_=>trivial) ⟨u32 _,trivial⟩ λm d5=>?_
   refine oR 1 i39p12 ((33,.bool m.1)::(32,.ptr 0 4 0)::E5) ?_
   refine oS 33 (λhb=>?_) (λhb=>?_)
   ·let c8:Blk:=⟨[.str A,w39 B,.i m.2,.i C],4,false⟩
    refine oH 7 .fin ((34,.agg [.i N,.str O,.own 1 (q).length 7,.bool S,.bool T,w9 U,w9 V])::(33,.bool true)::(33,.bool m.1)::(32,.ptr 0 4 0)::E5) (mkH [c8,Q8,Q9,Q9,⟨e32 g.2.1,7,false⟩,⟨e32 g.2.1,0,false⟩]) ?_
    exact qC1 (r:=some (N,O,S,T,U,V,m.2,q)) (xs:=[.agg [.i N,.str O,.own 1 (q).length 7,.bool S,.bool T,w9 U,w9 V]]) [c8,Q8] [Q9,Q9,⟨e32 g.2.1,7,false⟩,⟨e32 g.2.1,0,false⟩] Kr Kr Kr Kr Kr ⟨Kr,⟨(qA3 _ (u32 _)),trivial⟩⟩ Kr Kr
   ·refine oR 4 (atN 1 (ctl1 i39p16)) ((35,.ptr 0 4 0)::(33,.bool false)::(33,.bool m.1)::(32,.ptr 0 4 0)::E5) ?_
    refine oX (λ(W:Int) => .tuple []) (λW=>[⟨[.str A,w39 B,.i W,.i C],4,false⟩,Q8,Q9,l,⟨e32 g.2.1,7,false⟩,⟨e32 g.2.1,0,false⟩]) (atN 2 (ctl1 i39p16)) 36 [0] [] [] [0,2] [0,1] [.ptr 0 4 0,.str [44]] (qB2 k ([44]:LN) A B m.2 C) trivial (λ_=>trivial) ⟨u32 _,trivial⟩ λW d6=>?_
    refine oL 1 i39p1 [(0,.ptr 0 4 0),(3,.ptr 2 7 0),(4,.ptr 3 7 0)] ?_
    refine qA9 [⟨[.str A,w39 B,.i W,.i C],4,false⟩,Q8,Q9,l] [⟨e32 g.2.1,7,false⟩,⟨e32 g.2.1,0,false⟩] Kr rfl Kr ⟨Kr,⟨(qA3 _ (u32 _)),⟨Kr,⟨Kr,trivial⟩⟩⟩⟩ ?_
    exact d2 W q
  ·refine oS 13 (λhb=>?_) (λhb=>?_)
   ·refine oH 6 (atN 0 (ctl1 i39p7)) ((13,.bool true)::E3) (mkH [Q1,Q2,Q3,l,⟨e32 a.1,7,false⟩]) ?_
    refine oC (λ(b:LN)=>(.vptr [.str b],(mkH [Q1,Q2,Q3,l,⟨e32 a.1,7,false⟩]))) (atN 1 (ctl1 i39p7)) 14 (vidxH (sz:=1) qE7 Kr) λb d9=>?_
    let E8:Env:=((17,.str b)::(16,.ptr 0 4 0)::(7,.str b)::(15,.str b)::(14,.vptr [.str b])::(13,.bool true)::E3)
    refine oH 7 (atN 2 (ctl1 i39p9)) E8 (mkH [Q1,Q2,Q3,l,⟨e32 a.1,7,false⟩]) ?_
    refine oX (λ(u:(Bool×Int)) => .bool u.1) (λu=>[⟨[.str A,w39 B,.i u.2,.i C],4,false⟩,Q2,Q3,l,⟨e32 a.1,7,false⟩]) (atN 3 (ctl1 i39p9)) 18 [0] [] [] [2] [0,1] [.ptr 0 4 0,.str b] (qAb k b A B x C) trivial (λ_=>trivial) ⟨u32 _,trivial⟩ λu e0=>?_
    refine oR 1 i39p11 ((18,.bool u.1)::E8) ?_
    let E:Blk:=⟨[.str A,w39 B,.i u.2,.i C],4,false⟩
    refine oJ i39p13 (λ(z9:List S31)=>[(0,.ptr 0 4 0),(3,.ptr 2 7 0),(4,.ptr 3 7 0),(5,.ptr 4 7 0),(7,.str b)]) (λ(z9:List S31)=>(mkH [E,⟨(z9).flatMap e32,0,false⟩,⟨[.i N,.str O,.own 1 (z9).length 7,.bool S,.bool T,w9 U,w9 V],7,false⟩,l,⟨e32 a.1,7,false⟩])) (λz9=>?_) (λj9 e1=>?_)
    ·refine qCe (λh=>?_) (λc c1=>?_)
     ·let E9:Env:=[(21,.ptr 0 4 0),(20,n32 a.1),(19,.str b),(0,.ptr 0 4 0),(3,.ptr 2 7 0),(4,.ptr 3 7 0),(5,.ptr 4 7 0),(7,.str b)]
      let Y:Blk:=⟨(z9).flatMap e32,0,false⟩
      let Z:Blk:=⟨[.i N,.str O,.own 1 (z9).length 7,.bool S,.bool T,w9 U,w9 V],7,false⟩
      exact qAm (eE:=((24,.top)::(23,.top)::(22,.top)::E9)) (i39d0.th 3 thrown [0,2] (mkH [E,Y,Z,l,⟨e32 a.1,7,false⟩])) (hs:=[(mkH [E,Y,Z,l,⟨e32 a.1,7,false⟩]),(mkH [E,Y,Z,l,⟨e32 a.1,7,false⟩])]) (LX:=[⟨[.str A,w39 B,.i a8,.i C],4,false⟩,⟨(b1).flatMap e32,0,false⟩]) (L:=[E,Y,Z,l,⟨e32 a.1,7,false⟩]) rfl rfl rfl Kr rfl ⟨.inl rfl,⟨.inl rfl,trivial⟩⟩ Kr Kr Kr Kr (qA8 3 (l':=(opsAt i39p13).toList.drop 3) (eE:=E9) (H':=(mkH [E,Y,Z,l,⟨e32 a.1,7,false⟩])) (hs:=[]) Kr (qAh (l':=(opsAt i39p13).toList.drop 4) (eE:=((22,.top)::E9)) (hs:=[(mkH [E,Y,Z,l,⟨e32 a.1,7,false⟩])]) (fi:=57) (args:=[.ptr 0 4 0,.i 3]) Kr Kr (frS 0 (M:=[E,Y,Z,l,⟨e32 a.1,7,false⟩]) (rs:=[0]) (ms:=[]) (mv:=[0,1]) (mm:=[0,1]) (D:=[0,2]) (xs':=[.ptr 0 4 0,.i 3]) (.refl) ((hF.i9_ok (3:Int) A B u.2 C).2 h) trivial ⟨u32 _,trivial⟩ Kr) Kr (qA0 (l':=(opsAt i39p13).toList.drop 5) (eE:=((23,.top)::(22,.top)::E9)) (hs:=[]) Kr Kr (qA0 (l':=(opsAt i39p13).toList.drop 6) (eE:=((24,.top)::(23,.top)::(22,.top)::E9)) (hs:=[]) Kr Kr (qA0 (l':=(opsAt i39p13).toList.drop 7) (eE:=((24,.top)::(23,.top)::(22,.top)::E9)) (hs:=[(mkH [E,Y,Z,l,⟨e32 a.1,7,false⟩])]) Kr Kr (.nil)))))) Kr Kr
     ·let E9:Env:=[(21,.ptr 0 4 0),(20,n32 a.1),(19,.str b),(0,.ptr 0 4 0),(3,.ptr 2 7 0),(4,.ptr 3 7 0),(5,.ptr 4 7 0),(7,.str b)]
      let G:Blk:=⟨[.str A,w39 B,.i c.2,.i C],4,false⟩
      let J:Blk:=⟨(z9).flatMap e32,0,false⟩
      let K:Blk:=⟨[.i N,.str O,.own 1 (z9).length 7,.bool S,.bool T,w9 U,w9 V],7,false⟩
      let b4:Blk:=⟨[.i 14,.str b,w32 ([a.1,c.1]:List S31),.bool false,.bool false,.nils,.nils],7,false⟩
      refine oD (H':=(mkH [G,J,K,l,b4])) (nav [0] i39p13) ((24,.agg [.i 14,.str b,w32 ([a.1,c.1]:List S31),.bool false,.bool false,.nils,.nils])::(23,w32 ([a.1,c.1]:List S31))::(22,n32 c.1)::E9) [(mkH [G,J,K,l,⟨e32 a.1,7,false⟩]),(mkH [G,J,K,l,b4])] i39d0 (oDr 3 3 E9 (qA5 (l':=(opsAt i39p13).toList.drop 4) (eE:=((22,n32 c.1)::E9)) (hs:=[(mkH [G,J,K,l,⟨e32 a.1,7,false⟩])]) (H':=(mkH [G,J,K,l,⟨e32 a.1,7,false⟩])) (fi:=57) (args:=[.ptr 0 4 0,.i 3]) (v:=n32 c.1) Kr (frC (rs:=[0]) (ms:=[]) (ms':=[]) ((hF.i9_ok (3:Int) A B u.2 C).1 c c1) trivial trivial Kr) Kr (oDh 3 7 ((24,.agg [.i 14,.str b,w32 ([a.1,c.1]:List S31),.bool false,.bool false,.nils,.nils])::(23,w32 ([a.1,c.1]:List S31))::(22,n32 c.1)::E9) (mkH [G,J,K,l,b4]) [(mkH [G,J,K,l,b4])] .nil))) ?_
      refine oR 2 i39p8 ((24,.agg [.i 14,.str b,w32 ([a.1,c.1]:List S31),.bool false,.bool false,.nils,.nils])::(23,w32 ([a.1,c.1]:List S31))::(22,n32 c.1)::E9) ?_
      refine qBu [G,J,K,l,b4] 4 7 [.i 14,.str b,w32 ([a.1,c.1]:List S31),.bool false,.bool false,.nils,.nils] [.i 14,.str b,w32 ([a.1,c.1]:List S31),.bool false,.bool false,w9 ([]:LL),w9 ([]:LL)] Kr rfl (.cons (.cons (.cons (.cons (.cons (.nil (.nil (.refl)))))))) ?_
      refine oHp (mkH [G,J,K,l,⟨[.i 14,.str b,w32 ([a.1,c.1]:List S31),.bool false,.bool false,w9 ([]:LL),w9 ([]:LL)],7,false⟩]) ?_
      refine oK [0,3,4,5] [(0,.ptr 0 4 0),(3,.ptr 2 7 0),(4,.ptr 3 7 0),(5,.ptr 4 7 0)] ?_
      exact b9 (c.2,(⟨14,b,(⟨(([a.1,c.1]:List S31)).length,(([a.1,c.1]:List S31)).flatMap e32⟩:Raw),false,false,([]:LL),([]:LL)⟩:S31),z9)
    ·refine oS 18 (λhb=>?_) (λhb=>?_)
     ·refine oLH 2 i39p13 [(0,.ptr 0 4 0),(3,.ptr 2 7 0),(4,.ptr 3 7 0),(5,.ptr 4 7 0),(7,.str b)] (mkH [E,Q2,Q3,l,⟨e32 a.1,7,false⟩]) ?_
      exact e1 j
     ·refine oLH 6 i39p4 [(0,.ptr 0 4 0),(3,.ptr 2 7 0),(4,.ptr 3 7 0),(5,.ptr 4 7 0),(10,w9 i39c0),(11,.i (i39c0.length:Int)),(12,.i (fW .i64 (o+1)))] (mkH [E,Q2,Q3,l,⟨e32 a.1,7,false⟩]) ?_
      exact ih (fW .i64 (o+1)) u.2 j
   ·refine oH 3 i39p8 ((13,.bool false)::E3) (mkH [Q1,Q2,Q3,l,⟨e32 a.1,7,false⟩]) ?_
    refine oK [0,3,4,5] [(0,.ptr 0 4 0),(3,.ptr 2 7 0),(4,.ptr 3 7 0),(5,.ptr 4 7 0)] ?_
    exact b9 (x,a.1,j)
def qJ8 (k:Nat) (F:Fns0)  (l:Int) (m:LN) (n:Bool) (o:Bool) (q:LL) (r:LL) (g:LN) (h:List S38) (u:Int) (j:Int) (x:List S31) (ih:Int→(List S31)→Option (Option Ri39)):Int→(List S31)→Option (Option Ri39) :=
 λ(b:Int) (c:List S31)=>bT (F.i9 (3:Int) g h b j) λa=>qOt k F ih l m n o q r g h u j x a k 0 a.2 c
def qL9 (k:Nat) (F:Fns0)  (a:Int) (b:LN) (c:Bool) (g:Bool) (h:LL) (j:LL) (l:LN) (m:List S38) (o:Int) (q:Int) (r:List S31) (n:Nat):Int→(List S31)→Option (Option Ri39):=lp (λ_ _=>none) (qJ8 k F a b c g h j l m o q r) n
theorem qOu (k:Nat) (F:Fns0) (J:FnsOk0 F) (l:Int) (m:LN) (o:Bool) (q:Bool) (r:LL) (u:LL) (g:LN) (h:List S38) (x:Int) (j:Int) (A:List S31)    : ∀ (n:Nat) (c:Int) (b:List S31),Ok (Xi39 l m o q r u g h x j A) i39p1 [(0,.ptr 0 4 0),(3,.ptr 2 7 0),(4,.ptr 3 7 0)] (mkH [⟨[.str g,w39 h,.i c,.i j],4,false⟩,⟨(b).flatMap e32,0,false⟩,⟨[.i l,.str m,.own 1 (b).length 7,.bool o,.bool q,w9 r,w9 u],7,false⟩,⟨[.i 0,.str [],.nils,.bool false,.bool false,.nils,.nils],0,false⟩]) (qL9 k F l m o q r u g h x j A n c b):=by
 intro n
 induction n with
 | zero=>intro c b; exact ok_none
 | succ n ih =>
  intro c b
  show Ok _ _ _ _ (qJ8 k F l m o q r u g h x j A (qL9 k F l m o q r u g h x j A n) c b)
  unfold qJ8
  refine qAk (p':=nav [0] i39p1) Kr ?_
  let B:Blk:=⟨(b).flatMap e32,0,false⟩
  let C:Blk:=⟨[.i l,.str m,.own 1 (b).length 7,.bool o,.bool q,w9 r,w9 u],7,false⟩
  let D:Blk:=⟨[.i 0,.str [],.nils,.bool false,.bool false,.nils,.nils],0,false⟩
  refine oH 4 (atN 1 (ctl1 i39p2)) [(8,.ptr 0 4 0),(0,.ptr 0 4 0),(3,.ptr 2 7 0),(4,.ptr 3 7 0)] (mkH [⟨[.str g,w39 h,.i c,.i j],4,false⟩,B,C,D]) ?_
  refine oX (λ(a:(S31×Int))=>n32 a.1) (λa=>[⟨[.str g,w39 h,.i a.2,.i j],4,false⟩,B,C,D]) (atN 2 (ctl1 i39p2)) 9 [0] [] [] [0,2] [0,1] [.ptr 0 4 0,.i 3] (J.i9_ok (3:Int) g h c j) trivial (λ_=>trivial) ⟨u32 _,trivial⟩ λa E=>?_
  let G:Blk:=⟨[.str g,w39 h,.i a.2,.i j],4,false⟩
  refine oH 7 (atN 1 (ctl1 i39p3)) [(10,.slice 5 2 0 2 1),(5,.ptr 4 7 0),(9,n32 a.1),(8,.ptr 0 4 0),(0,.ptr 0 4 0),(3,.ptr 2 7 0),(4,.ptr 3 7 0)] (mkH [G,B,C,D,⟨e32 a.1,7,false⟩,⟨[.str [60,45],.str [60,61]],0,false⟩]) ?_
  refine oZ 10 5 2 1 [.str [60,45],.str [60,61]] [0,3,4,5,8,9] [0,1] ⟨u32 _,trivial⟩ ?_
  refine oLH 5 i39p4 [(0,.ptr 0 4 0),(3,.ptr 2 7 0),(4,.ptr 3 7 0),(5,.ptr 4 7 0),(10,w9 i39c0),(11,.i (i39c0.length:Int)),(12,.i 0)] (mkH [G,B,C,D,⟨e32 a.1,7,false⟩,⟨[],0,false⟩]) ?_
  refine qA9 [G,B,C,D,⟨e32 a.1,7,false⟩] [⟨[],0,false⟩] Kr rfl Kr ⟨Kr,⟨(qA3 _ (u32 _)),⟨Kr,⟨Kr,⟨Kr,trivial⟩⟩⟩⟩⟩ ?_
  exact (qOs k F J l m o q r u g h x j A (qL9 k F l m o q r u g h x j A n) a ih k) 0 a.2 b
def i39B (k:Nat) (F:Fns0) (c:Int) (g:LN) (h:Bool) (j:Bool) (l:LL) (m:LL) (n:LN) (o:List S38) (a:Int) (q:Int) (b:List S31):Option (Option Ri39) :=
 qL9 k F c g h j l m n o a q b k a b
theorem qLa (k:Nat) (F:Fns0) (D:FnsOk0 F):∀ b c g j l m o q n u a r,i39B k F b c g j l m o q n u a=some r→CallT Try.prog 97 [.ptr 0 4 0,.agg [.i b,.str c,.own 1 (a).length 7,.bool g,.bool j,w9 l,w9 m]] (mkH [⟨[.str o,w39 q,.i n,.i u],4,false⟩,⟨(a).flatMap e32,0,false⟩]) ((Xi39 b c g j l m o q n u a).thr r) ((Xi39 b c g j l m o q n u a).enc r) ((Xi39 b c g j l m o q n u a).fin r):=by
 intro b c g j l m o q n u a r h
 refine qA1 (Xi39 b c g j l m o q n u a) Try.func97 Kr Kr rfl (t:=i39B k F b c g j l m o q n u a) ?_ h
 unfold i39B
 refine qA (eE:=[(0,.ptr 0 4 0),(1,.agg [.i b,.str c,.own 1 (a).length 7,.bool g,.bool j,w9 l,w9 m])]) Kr ?_
 let x:Blk:=⟨[.str o,w39 q,.i n,.i u],4,false⟩
 let A:Blk:=⟨(a).flatMap e32,0,false⟩
 let C:Blk:=⟨[.i b,.str c,.own 1 (a).length 7,.bool g,.bool j,w9 l,w9 m],0,false⟩
 let B:Blk:=⟨[.i 0,.str [],.nils,.bool false,.bool false,.nils,.nils],0,false⟩
 refine oLH 7 i39p1 [(0,.ptr 0 4 0),(3,.ptr 2 7 0),(4,.ptr 3 7 0)] (mkH [x,A,C,B]) ?_
 refine qEy [x,A,C,B] 2 [.i b,.str c,.own 1 (a).length 7,.bool g,.bool j,w9 l,w9 m] 0 7 rfl rfl (by decide) ?_
 refine oHp (mkH [x,A,⟨[.i b,.str c,.own 1 (a).length 7,.bool g,.bool j,w9 l,w9 m],7,false⟩,B]) ?_
 exact (qOu k F D b c g j l m o q n u a k) n a
theorem i39B_ok (k:Nat) (F:Fns0) (a:FnsOk0 F):Pi39 (i39B k F):=λb c g j l m n o q r u=>⟨λx h=>qLa k F a b c g j l m n o q r u (some x) h,λh=>⟨_,qLa k F a b c g j l m n o q r u none h⟩⟩
def i40p2:Pt:=nav [0,0,0,0] (nav [0,0,0] (nav [0] (bodyAt Try.f90)))
def i40p3:Pt:=nav [0,0,0,0] i40p2
def i40p4:Pt:=nav [0,0] i40p3
def i40p5:Pt:=nav [1,0] i40p4
def i40p6:Pt:=nav [2,0] i40p4
def i40p7:Pt:=nav [0,0] i40p5
def i40p8:Pt:=nav [0,0] i40p6
def i40p9:Pt:=nav [0,0,0] i40p7
def i40p10:Pt:=nav [1] i40p8
def i40p11:Pt:=nav [2,0] i40p8
def i40p12:Pt:=nav [0,0,0,0] i40p9
def i40p13:Pt:=nav [0,0] i40p11
def i40p14:Pt:=nav [0,0] i40p12
def i40p15:Pt:=nav [1] i40p14
def i40p16:Pt:=nav [2,0,0,0] i40p14
def i40p17:Pt:=nav [0,0] i40p16
def i40p18:Pt:=nav [1,0] i40p17
def i40p19:Pt:=nav [2,0,0,0] i40p17
def i40p20:Pt:=nav [0,0,0,0] i40p18
def i40p21:Pt:=nav [0,0] i40p19
def i40p22:Pt:=nav [0,0,0] i40p20
def i40p25:Pt:=nav [0,0] i40p22
def i40p27:Pt:=nav [1,0,0] i40p25
def qH1 (k:Nat) (F:Fns0) (l:LN×Int→Option (Option (S31×Int))) (m:LN) (n:List S38) (o:Int) (q:Int×S31) (ih:LN→Int→Option (Option (S31×Int))):LN→Int→Option (Option (S31×Int)) :=
 λ(b:LN) (g:Int)=>bT (i11 k ([45]:LN) m n g o) λa=>if a.1 then ((catS b ([45]:LN)).bind λh=>bT (i18 k ([(1:Int)]:List Int) m n a.2 o) λc=>(catS h c.1).bind λj=>ih j c.2) else (l (b,a.2))
def qJ6 (k:Nat) (F:Fns0) (a:LN×Int→Option (Option (S31×Int))) (c:LN) (g:List S38) (h:Int) (b:Int×S31) (n:Nat):LN→Int→Option (Option (S31×Int)):=lp (λ_ _=>none) (qH1 k F a c g h b) n
theorem qMk (k:Nat) (F:Fns0) (N:FnsOk0 F) (o:LN) (q:List S38) (L:Int) (r:Int) (u:LN×Int→Option (Option (S31×Int))) (a:Int×S31) (A:∀ m:LN×Int,Ok (Xi40 o q L r) i40p19 ((λ(m:LN×Int)=>[(2,.ptr 1 7 0),(3,.ptr 2 7 0),(5,.str m.1)]) m) ((λ(m:LN×Int)=>(mkH [⟨[.str o,w39 q,.i m.2,.i r],4,false⟩,⟨[.i 0,.str [],.nils,.bool false,.bool false,.nils,.nils],0,false⟩,⟨[.i a.2.f0,.str a.2.f1,q32 a.2.f2,.bool a.2.f3,.bool a.2.f4,w9 a.2.f5,w9 a.2.f6],7,false⟩])) m) (u m)):∀ (n:Nat) (b:LN) (g:Int),Ok (Xi40 o q L r) i40p20 [(0,.ptr 0 4 0),(2,.ptr 1 7 0),(3,.ptr 2 7 0),(5,.str b)] (mkH [⟨[.str o,w39 q,.i g,.i r],4,false⟩,⟨[.i 0,.str [],.nils,.bool false,.bool false,.nils,.nils],0,false⟩,⟨[.i a.2.f0,.str a.2.f1,q32 a.2.f2,.bool a.2.f3,.bool a.2.f4,w9 a.2.f5,w9 a.2.f6],7,false⟩]) (qJ6 k F u o q r a n b g):=by
 intro n
 induction n with
 | zero=>intro b g; exact ok_none
 | succ n ih =>
  intro b g
  show Ok _ _ _ _ (qH1 k F u o q r a (qJ6 k F u o q r a n) b g)
  unfold qH1
  refine qAk (p':=nav [0] i40p20) Kr ?_
  let B:Env:=[(42,.ptr 0 4 0),(0,.ptr 0 4 0),(2,.ptr 1 7 0),(3,.ptr 2 7 0),(5,.str b)]
  let x:Blk:=⟨[.i 0,.str [],.nils,.bool false,.bool false,.nils,.nils],0,false⟩
  refine oH 4 (atN 1 (ctl1 i40p22)) B (mkH [⟨[.str o,w39 q,.i g,.i r],4,false⟩,x,⟨e32 a.2,7,false⟩]) ?_
  refine oX (λ(c:(Bool×Int)) => .bool c.1) (λc=>[⟨[.str o,w39 q,.i c.2,.i r],4,false⟩,x,⟨e32 a.2,7,false⟩]) (atN 2 (ctl1 i40p22)) 43 [0] [] [] [] [] [.ptr 0 4 0,.str [45]] (qAb k ([45]:LN) o q g r) trivial (λ_=>trivial) trivial λc C=>?_
  refine oR 1 i40p25 ((43,.bool c.1)::B) ?_
  refine oS 43 (λM=>?_) (λM=>?_)
  ·refine oR 5 (atN 1 (ctl1 i40p27)) ((44,.str b)::(43,.bool true)::(43,.bool c.1)::B) ?_
   let J:Blk:=⟨[.str o,w39 q,.i c.2,.i r],4,false⟩
   refine oC (λ(j:LN)=>(.str j,(mkH [J,x,⟨e32 a.2,7,false⟩]))) (atN 2 (ctl1 i40p27)) 45 (catH Kr) λj D=>?_
   refine oH 2 (atN 4 (ctl1 i40p27)) ((47,.slice 3 1 0 1 1)::(46,.ptr 0 4 0)::(45,.str j)::(44,.str b)::(43,.bool true)::(43,.bool c.1)::B) (mkH [J,x,⟨e32 a.2,7,false⟩,⟨[.i 1],0,false⟩]) ?_
   refine oZ 47 3 1 1 [.i 1] [0,2,3,5,42,43,44,45,46] [] trivial ?_
   refine oE [(47,w3 ([(1:Int)]:List Int)),(0,.ptr 0 4 0),(2,.ptr 1 7 0),(3,.ptr 2 7 0),(5,.str b),(42,.ptr 0 4 0),(43,.bool true),(44,.str b),(45,.str j),(46,.ptr 0 4 0)] ?_
   refine oHp (mkH [J,x,⟨e32 a.2,7,false⟩,⟨[],0,false⟩]) ?_
   refine oX (λ(h:Ri18) => .str h.1) (λh=>[⟨[.str o,w39 q,.i h.2,.i r],4,false⟩,x,⟨e32 a.2,7,false⟩,⟨[],0,false⟩]) (atN 5 (ctl1 i40p27)) 48 [0] [] [] [] [] [.ptr 0 4 0,w3 ([(1:Int)]:List Int)] (qD6 k ([(1:Int)]:List Int) o q c.2 r) trivial (λ_=>trivial) trivial λh E=>?_
   let K:Blk:=⟨[.str o,w39 q,.i h.2,.i r],4,false⟩
   refine oC (λ(l:LN)=>(.str l,(mkH [K,x,⟨e32 a.2,7,false⟩,⟨[],0,false⟩]))) (atN 6 (ctl1 i40p27)) 49 (catH Kr) λl G=>?_
   refine oLH 2 i40p20 [(0,.ptr 0 4 0),(2,.ptr 1 7 0),(3,.ptr 2 7 0),(5,.str l)] (mkH [K,x,⟨e32 a.2,7,false⟩,⟨[],0,false⟩]) ?_
   refine qA9 [K,x,⟨e32 a.2,7,false⟩] [⟨[],0,false⟩] Kr rfl Kr ⟨Kr,⟨Kr,⟨Kr,trivial⟩⟩⟩ ?_
   exact ih l h.2
  ·refine oL 4 i40p19 [(2,.ptr 1 7 0),(3,.ptr 2 7 0),(5,.str b)] ?_
   exact A (b,c.2)
def i40B (k:Nat) (F:Fns0) (b:LN) (c:List S38) (M:Int) (g:Int):Option (Option (S31×Int)) :=
 (i13 k b c M g).bind λq=>(g87 k q.f0).bind λD=>jn (λ(h:Int×S31)=>bT (i11 k ([58]:LN) b c h.1 g) λj=>jn (λ(x:LN×Int)=>bT (i11 k ([47]:LN) b c x.2 g) λl=>jn (λ(o:LN×Int)=>if (eqL o.1 []) then (some (some (h.2,o.2))) else (some (some ((⟨(7:Int),o.1,⟨(([h.2]:List S31)).length,(([h.2]:List S31)).flatMap e32⟩,false,false,([]:LL),([]:LL)⟩:S31),o.2)))) (λE=>if l.1 then ((catS x.1 ([47]:LN)).bind λA=>bT (i18 k ([(1:Int)]:List Int) b c l.2 g) λm=>(catS A m.1).bind λB=>qJ6 k F E b c g h k B m.2) else (E (x.1,l.2)))) (λG=>if j.1 then (bT (i48 k b c j.2 g) λr=>(catS ([58]:LN) r.1).bind λJ=>G (J,r.2)) else (G (([]:LN),j.2)))) (λC=>if D then (bT (i17 k b c M g) λK=>C (K,(⟨1,q.f1,(⟨(([]:List S31)).length,(([]:List S31)).flatMap e32⟩:Raw),false,false,([]:LL),([]:LL)⟩:S31))) else (bT (i11 k ([40]:LN) b c M g) λn=>if n.1 then (bT (F.i29 b c n.2 g) λu=>C (u.2,u.1)) else (bT (i14 k ([60,60]:LN) b c n.2 g) λL=>bT (F.i31 (6:Int) ([]:LN) false false ([]:LL) ([]:LL) ([62,62]:LN) b c L g ([]:List S31)) λa=>C (a.2.2.2.2.2.2.1,(⟨a.1,a.2.1,(⟨(a.2.2.2.2.2.2.2).length,(a.2.2.2.2.2.2.2).flatMap e32⟩:Raw),a.2.2.1,a.2.2.2.1,a.2.2.2.2.1,a.2.2.2.2.2.1⟩:S31)))))
theorem qL8 (k:Nat) (F:Fns0) (hF:FnsOk0 F):∀ j l M m r,i40B k F j l M m=some r→CallT Try.prog 90 [.ptr 0 4 0] (mkH [⟨[.str j,w39 l,.i M,.i m],4,false⟩]) ((Xi40 j l M m).thr r) ((Xi40 j l M m).enc r) ((Xi40 j l M m).fin r):=by
 intro j l M m r h
 refine qA1 (Xi40 j l M m) Try.func90 Kr Kr rfl (t:=i40B k F j l M m) ?_ h
 unfold i40B
 refine qA (eE:=[(0,.ptr 0 4 0)]) Kr ?_
 let W:Blk:=⟨[.str j,w39 l,.i M,.i m],4,false⟩
 let g:Blk:=⟨[.i 0,.str [],.nils,.bool false,.bool false,.nils,.nils],0,false⟩
 refine oH 12 (atN 1 (ctl1 i40p2)) [(6,.ptr 0 4 0),(3,.ptr 2 7 0),(2,.ptr 1 7 0),(0,.ptr 0 4 0)] (mkH [W,g,g]) ?_
 refine oN (λ(b:S38)=>n39 b) (λb=>[W,g,g]) (atN 2 (ctl1 i40p2)) 7 [0] [] [] [.ptr 0 4 0] (qG2 k j l M m) trivial (λ_=>trivial) λb b8=>?_
 let E1:Env:=[(17,.i b.f0),(16,.ptr 3 3 0),(4,.ptr 3 3 0),(7,n39 b),(6,.ptr 0 4 0),(3,.ptr 2 7 0),(2,.ptr 1 7 0),(0,.ptr 0 4 0)]
 refine oH 8 (atN 2 (ctl1 i40p3)) E1 (mkH [W,g,g,⟨e39 b,3,false⟩]) ?_
 refine oA (λ(A:Bool) => .bool A) (atN 3 (ctl1 i40p3)) 18 [.i b.f0] (g87_ok k b.f0) λA b9=>?_
 refine oR 2 i40p4 ((15,.bool A)::(18,.bool A)::E1) ?_
 refine oJ i40p9 (λ(c:Int×S31)=>[(0,.ptr 0 4 0),(2,.ptr 1 7 0),(3,.ptr 2 7 0)]) (λ(c:Int×S31)=>(mkH [⟨[.str j,w39 l,.i c.1,.i m],4,false⟩,g,⟨e32 c.2,7,false⟩])) (λc=>?_) (λd6 N=>?_)
 ·let E2:Env:=[(29,.ptr 0 4 0),(5,.str []),(0,.ptr 0 4 0),(2,.ptr 1 7 0),(3,.ptr 2 7 0)]
  refine oH 7 (atN 1 (ctl1 i40p12)) E2 (mkH [⟨[.str j,w39 l,.i c.1,.i m],4,false⟩,g,⟨e32 c.2,7,false⟩]) ?_
  refine oX (λ(o:(Bool×Int)) => .bool o.1) (λo=>[⟨[.str j,w39 l,.i o.2,.i m],4,false⟩,g,⟨e32 c.2,7,false⟩]) (atN 2 (ctl1 i40p12)) 30 [0] [] [] [] [] [.ptr 0 4 0,.str [58]] (qAb k ([58]:LN) j l c.1 m) trivial (λ_=>trivial) trivial λo c1=>?_
  refine oR 1 i40p14 ((30,.bool o.1)::E2) ?_
  refine oJ i40p16 (λ(u:LN×Int)=>[(0,.ptr 0 4 0),(2,.ptr 1 7 0),(3,.ptr 2 7 0),(5,.str u.1)]) (λ(u:LN×Int)=>(mkH [⟨[.str j,w39 l,.i u.2,.i m],4,false⟩,g,⟨e32 c.2,7,false⟩])) (λu=>?_) (λd9 U=>?_)
  ·let E3:Env:=[(34,.ptr 0 4 0),(0,.ptr 0 4 0),(2,.ptr 1 7 0),(3,.ptr 2 7 0),(5,.str u.1)]
   refine oH 2 (atN 1 (ctl1 i40p16)) E3 (mkH [⟨[.str j,w39 l,.i u.2,.i m],4,false⟩,g,⟨e32 c.2,7,false⟩]) ?_
   refine oX (λ(n:(Bool×Int)) => .bool n.1) (λn=>[⟨[.str j,w39 l,.i n.2,.i m],4,false⟩,g,⟨e32 c.2,7,false⟩]) (atN 2 (ctl1 i40p16)) 35 [0] [] [] [] [] [.ptr 0 4 0,.str [47]] (qAb k ([47]:LN) j l u.2 m) trivial (λ_=>trivial) trivial λn c2=>?_
   refine oR 1 i40p17 ((35,.bool n.1)::E3) ?_
   refine oJ i40p19 (λ(B:LN×Int)=>[(2,.ptr 1 7 0),(3,.ptr 2 7 0),(5,.str B.1)]) (λ(B:LN×Int)=>(mkH [⟨[.str j,w39 l,.i B.2,.i m],4,false⟩,g,⟨e32 c.2,7,false⟩])) (λB=>?_) (λc3 V=>?_)
   ·let E4:Env:=[(51,.bool (eqL B.1 [])),(50,.str B.1),(2,.ptr 1 7 0),(3,.ptr 2 7 0),(5,.str B.1)]
    let Q3:Blk:=⟨[.str j,w39 l,.i B.2,.i m],4,false⟩
    refine oH 4 i40p21 E4 (mkH [Q3,g,⟨e32 c.2,7,false⟩]) ?_
    refine oS 51 (λO=>?_) (λO=>?_)
    ·exact oQF 7 [Q3,⟨e32 c.2,7,false⟩,⟨e32 c.2,7,false⟩] 1 [] [n32 c.2] (n32 c.2) .ps trivial
    ·refine oH 7 (atN 3 (ctl1 (nav [2,0,0] i40p21))) ((55,.slice 3 7 0 1 7)::(54,n32 c.2)::(53,.str B.1)::(51,.bool false)::E4) (mkH [Q3,g,⟨e32 c.2,7,false⟩,⟨e32 c.2,0,false⟩]) ?_
     refine oZ 55 3 1 7 [.i c.2.f0,.str c.2.f1,q32 c.2.f2,.bool c.2.f3,.bool c.2.f4,w9 c.2.f5,w9 c.2.f6] [2,3,5,50,51,53,54] [] trivial ?_
     exact oQF 4 [Q3,⟨[.i 7,.str B.1,w32 ([c.2]:List S31),.bool false,.bool false,.nils,.nils],7,false⟩,⟨e32 c.2,7,false⟩,⟨[],0,false⟩] 1 [] [.agg [.i 7,.str B.1,w32 ([c.2]:List S31),.bool false,.bool false,.nils,.nils]] (.agg [.i 7,.str B.1,w32 ([c.2]:List S31),.bool false,.bool false,.vec 0 1 [],.vec 0 1 []]) (.agg (.cs (.cs (.cs (.cs (.cs (.nil (.nil .ps))))))) .ps) trivial
   ·refine oS 35 (λO=>?_) (λO=>?_)
    ·let Q4:Blk:=⟨[.str j,w39 l,.i n.2,.i m],4,false⟩
     refine oH 4 (atN 1 (ctl1 i40p18)) ((36,.str u.1)::(35,.bool true)::(35,.bool n.1)::E3) (mkH [Q4,g,⟨e32 c.2,7,false⟩]) ?_
     refine oC (λ(E:LN)=>(.str E,(mkH [Q4,g,⟨e32 c.2,7,false⟩]))) (atN 2 (ctl1 i40p18)) 37 (catH Kr) λE b3=>?_
     refine oH 2 (atN 4 (ctl1 i40p18)) ((39,.slice 3 1 0 1 1)::(38,.ptr 0 4 0)::(37,.str E)::(36,.str u.1)::(35,.bool true)::(35,.bool n.1)::E3) (mkH [Q4,g,⟨e32 c.2,7,false⟩,⟨[.i 1],0,false⟩]) ?_
     refine oZ 39 3 1 1 [.i 1] [0,2,3,5,34,35,36,37,38] [] trivial ?_
     refine oE [(39,w3 ([(1:Int)]:List Int)),(0,.ptr 0 4 0),(2,.ptr 1 7 0),(3,.ptr 2 7 0),(5,.str u.1),(34,.ptr 0 4 0),(35,.bool true),(36,.str u.1),(37,.str E),(38,.ptr 0 4 0)] ?_
     refine oHp (mkH [Q4,g,⟨e32 c.2,7,false⟩,⟨[],0,false⟩]) ?_
     refine oX (λ(x:Ri18) => .str x.1) (λx=>[⟨[.str j,w39 l,.i x.2,.i m],4,false⟩,g,⟨e32 c.2,7,false⟩,⟨[],0,false⟩]) (atN 5 (ctl1 i40p18)) 40 [0] [] [] [] [] [.ptr 0 4 0,w3 ([(1:Int)]:List Int)] (qD6 k ([(1:Int)]:List Int) j l n.2 m) trivial (λ_=>trivial) trivial λx b4=>?_
     let Q5:Blk:=⟨[.str j,w39 l,.i x.2,.i m],4,false⟩
     refine oC (λ(G:LN)=>(.str G,(mkH [Q5,g,⟨e32 c.2,7,false⟩,⟨[],0,false⟩]))) (atN 6 (ctl1 i40p18)) 41 (catH Kr) λG b5=>?_
     refine oLH 4 i40p20 [(0,.ptr 0 4 0),(2,.ptr 1 7 0),(3,.ptr 2 7 0),(5,.str G)] (mkH [Q5,g,⟨e32 c.2,7,false⟩,⟨[],0,false⟩]) ?_
     refine qA9 [Q5,g,⟨e32 c.2,7,false⟩] [⟨[],0,false⟩] Kr rfl Kr ⟨Kr,⟨Kr,⟨Kr,trivial⟩⟩⟩ ?_
     exact (qMk k F hF j l M m c3 c V k) G x.2
    ·refine oLH 4 i40p19 [(2,.ptr 1 7 0),(3,.ptr 2 7 0),(5,.str u.1)] (mkH [⟨[.str j,w39 l,.i n.2,.i m],4,false⟩,g,⟨e32 c.2,7,false⟩]) ?_
     exact V (u.1,n.2)
  ·refine oS 30 (λO=>?_) (λO=>?_)
   ·refine oH 3 (atN 1 (ctl1 i40p15)) ((31,.ptr 0 4 0)::(30,.bool true)::(30,.bool o.1)::E2) (mkH [⟨[.str j,w39 l,.i o.2,.i m],4,false⟩,g,⟨e32 c.2,7,false⟩]) ?_
    refine oX (λ(D:Ri48) => .str D.1) (λD=>[⟨[.str j,w39 l,.i D.2,.i m],4,false⟩,g,⟨e32 c.2,7,false⟩]) (atN 2 (ctl1 i40p15)) 32 [0] [] [] [] [] [.ptr 0 4 0] (i48_ok k j l o.2 m) trivial (λ_=>trivial) trivial λD c5=>?_
    let Q6:Blk:=⟨[.str j,w39 l,.i D.2,.i m],4,false⟩
    refine oC (λ(L:LN)=>(.str L,(mkH [Q6,g,⟨e32 c.2,7,false⟩]))) (atN 3 (ctl1 i40p15)) 33 (catH Kr) λL c6=>?_
    refine oLH 4 i40p16 [(0,.ptr 0 4 0),(2,.ptr 1 7 0),(3,.ptr 2 7 0),(5,.str L)] (mkH [Q6,g,⟨e32 c.2,7,false⟩]) ?_
    exact U (L,D.2)
   ·refine oLH 4 i40p16 [(0,.ptr 0 4 0),(2,.ptr 1 7 0),(3,.ptr 2 7 0),(5,.str [])] (mkH [⟨[.str j,w39 l,.i o.2,.i m],4,false⟩,g,⟨e32 c.2,7,false⟩]) ?_
    exact U (([]:LN),o.2)
 ·refine oS 15 (λO=>?_) (λO=>?_)
  ·refine oH 4 (atN 1 (ctl1 i40p5)) ((19,.ptr 0 4 0)::(15,.bool true)::(15,.bool A)::(18,.bool A)::E1) (mkH [W,g,g,⟨e39 b,3,false⟩]) ?_
   refine oX (λ(J:Int) => .tuple []) (λJ=>[⟨[.str j,w39 l,.i J,.i m],4,false⟩,g,g,⟨e39 b,3,false⟩]) (atN 2 (ctl1 i40p5)) 20 [0] [] [] [] [] [.ptr 0 4 0] (qG1 k j l M m) trivial (λ_=>trivial) trivial λJ c7=>?_
   let Y:Env:=[(0,.ptr 0 4 0),(2,.ptr 1 7 0),(3,.ptr 2 7 0),(4,.ptr 3 3 0)]
   refine oL 1 i40p7 Y ?_
   let Q7:Blk:=⟨[.str j,w39 l,.i J,.i m],4,false⟩
   let Q8:Blk:=⟨[.i 1,.str b.f1,.nils,.bool false,.bool false,.nils,.nils],7,false⟩
   refine oH 7 i40p9 ((23,.agg [.i 1,.str b.f1,.nils,.bool false,.bool false,.nils,.nils])::(22,.str b.f1)::(21,.ptr 3 3 1)::Y) (mkH [Q7,g,Q8,⟨e39 b,3,false⟩]) ?_
   refine qBu [Q7,g,Q8,⟨e39 b,3,false⟩] 2 7 [.i 1,.str b.f1,.nils,.bool false,.bool false,.nils,.nils] [.i 1,.str b.f1,w32 ([]:List S31),.bool false,.bool false,w9 ([]:LL),w9 ([]:LL)] Kr rfl (.cons (.cons (.nil (.cons (.cons (.nil (.nil (.refl)))))))) ?_
   let Q9:Blk:=⟨[.i 1,.str b.f1,w32 ([]:List S31),.bool false,.bool false,w9 ([]:LL),w9 ([]:LL)],7,false⟩
   refine oHp (mkH [Q7,g,Q9,⟨e39 b,3,false⟩]) ?_
   refine oK [0,2,3] [(0,.ptr 0 4 0),(2,.ptr 1 7 0),(3,.ptr 2 7 0)] ?_
   refine qA9 [Q7,g,Q9] [⟨e39 b,3,false⟩] Kr rfl Kr ⟨Kr,⟨Kr,⟨Kr,trivial⟩⟩⟩ ?_
   exact N (J,(⟨1,b.f1,(⟨(([]:List S31)).length,(([]:List S31)).flatMap e32⟩:Raw),false,false,([]:LL),([]:LL)⟩:S31))
  ·refine oH 4 (atN 1 (ctl1 i40p6)) ((25,.ptr 0 4 0)::(15,.bool false)::(15,.bool A)::(18,.bool A)::E1) (mkH [W,g,g,⟨e39 b,3,false⟩]) ?_
   refine oX (λ(C:(Bool×Int)) => .bool C.1) (λC=>[⟨[.str j,w39 l,.i C.2,.i m],4,false⟩,g,g,⟨e39 b,3,false⟩]) (atN 2 (ctl1 i40p6)) 26 [0] [] [] [] [] [.ptr 0 4 0,.str [40]] (qAb k ([40]:LN) j l M m) trivial (λ_=>trivial) trivial λC c8=>?_
   let S:Env:=[(0,.ptr 0 4 0),(2,.ptr 1 7 0),(3,.ptr 2 7 0),(24,.bool C.1)]
   refine oL 2 i40p8 S ?_
   refine oS 24 (λO=>?_) (λO=>?_)
   ·refine oR 3 (atN 1 (ctl1 i40p10)) ((27,.ptr 0 4 0)::(24,.bool true)::S) ?_
    refine oX (λ(q:(S31×Int))=>n32 q.1) (λq=>[⟨[.str j,w39 l,.i q.2,.i m],4,false⟩,g,g,⟨e39 b,3,false⟩]) (atN 2 (ctl1 i40p10)) 28 [0] [] [] [0] [] [.ptr 0 4 0] (hF.i29_ok j l C.2 m) trivial (λ_=>trivial) trivial λq c9=>?_
    let Z:Blk:=⟨[.str j,w39 l,.i q.2,.i m],4,false⟩
    refine oLH 3 i40p9 [(0,.ptr 0 4 0),(2,.ptr 1 7 0),(3,.ptr 2 7 0)] (mkH [Z,g,⟨e32 q.1,7,false⟩,⟨e39 b,3,false⟩]) ?_
    refine qA9 [Z,g,⟨e32 q.1,7,false⟩] [⟨e39 b,3,false⟩] Kr rfl Kr ⟨Kr,⟨Kr,⟨Kr,trivial⟩⟩⟩ ?_
    exact N (q.2,q.1)
   ·refine oR 4 (atN 1 (ctl1 i40p11)) ((8,.ptr 0 4 0)::(24,.bool false)::S) ?_
    refine oX (λ(K:Int) => .tuple []) (λK=>[⟨[.str j,w39 l,.i K,.i m],4,false⟩,g,g,⟨e39 b,3,false⟩]) (atN 2 (ctl1 i40p11)) 9 [0] [] [] [0] [] [.ptr 0 4 0,.str [60,60]] (qB2 k ([60,60]:LN) j l C.2 m) trivial (λ_=>trivial) trivial λK d0=>?_
    let a4:Env:=((13,.func 90 [.ptr 0 4 0] [])::(12,.ptr 0 4 0)::(11,.agg [.i 6,.str [],.nils,.bool false,.bool false,.nils,.nils])::(10,.ptr 0 4 0)::(9,.tuple [])::(8,.ptr 0 4 0)::(24,.bool false)::S)
    refine oR 6 (atN 4 (ctl1 i40p13)) a4 ?_
    refine oXW 1 [⟨[.str j,w39 l,.i K,.i m],4,false⟩,g,g,⟨e39 b,3,false⟩,⟨(([]:List S31)).flatMap e32,0,false⟩] (λ(a:Ri31) => .agg [.i a.1,.str a.2.1,.own 4 (a.2.2.2.2.2.2.2).length 7,.bool a.2.2.1,.bool a.2.2.2.1,w9 a.2.2.2.2.1,w9 a.2.2.2.2.2.1]) (λa=>[⟨[.str j,w39 l,.i a.2.2.2.2.2.2.1,.i m],4,false⟩,g,g,⟨e39 b,3,false⟩,⟨(a.2.2.2.2.2.2.2).flatMap e32,0,false⟩]) (atN 5 (ctl1 i40p13)) 14 [0,4] [0,1] [0,1] [0,4] [] [0,0,0,0,1] [.ptr 0 4 0,.agg [.i 6,.str [],.nils,.bool false,.bool false,.nils,.nils],.str [62,62],.func 90 [.ptr 0 4 0] []] [.ptr 0 4 0,.agg [.i 6,.str [],.own 4 (([]:List S31)).length 7,.bool false,.bool false,w9 ([]:LL),w9 ([]:LL)],.str [62,62],.func 90 [.ptr 0 4 0] []] (.cons (.agg (.cons (.cons (.none (.cons (.cons (.nil (.nil (.refl)))))))) (.refl))) (hF.i31_ok (6:Int) ([]:LN) false false ([]:LL) ([]:LL) ([62,62]:LN) j l K m ([]:List S31)) ⟨u32 _,trivial⟩ (λ_=>⟨u32 _,trivial⟩) trivial λa d1=>?_
    let T:Blk:=⟨[.str j,w39 l,.i a.2.2.2.2.2.2.1,.i m],4,false⟩
    let a5:Blk:=⟨[.i a.1,.str a.2.1,.own 4 (a.2.2.2.2.2.2.2).length 7,.bool a.2.2.1,.bool a.2.2.2.1,w9 a.2.2.2.2.1,w9 a.2.2.2.2.2.1],7,false⟩
    let a6:Blk:=⟨(a.2.2.2.2.2.2.2).flatMap e32,0,false⟩
    refine oH 3 i40p9 ((14,.agg [.i a.1,.str a.2.1,.own 4 (a.2.2.2.2.2.2.2).length 7,.bool a.2.2.1,.bool a.2.2.2.1,w9 a.2.2.2.2.1,w9 a.2.2.2.2.2.1])::a4) (mkH [T,g,a5,⟨e39 b,3,false⟩,a6]) ?_
    let a7:Blk:=⟨[.i a.1,.str a.2.1,w32 a.2.2.2.2.2.2.2,.bool a.2.2.1,.bool a.2.2.2.1,w9 a.2.2.2.2.1,w9 a.2.2.2.2.2.1],7,false⟩
    refine qIv [T,g,a5,⟨e39 b,3,false⟩,a6] [T,g,a7,⟨e39 b,3,false⟩,⟨[],0,false⟩] 4 (a.2.2.2.2.2.2.2).length 7 0 ((a.2.2.2.2.2.2.2).flatMap e32) [0,2,3] (env0:=[(0,.ptr 0 4 0),(2,.ptr 1 7 0),(3,.ptr 2 7 0)]) (eE:=[(0,.ptr 0 4 0),(2,.ptr 1 7 0),(3,.ptr 2 7 0)]) Kr rfl rfl (qB qA4 _) (Nat.zero_le _) (u32 _) Kr ⟨⟨rfl,.refl Kr⟩,⟨⟨rfl,.refl Kr⟩,⟨⟨rfl,.refl Kr⟩,trivial⟩⟩⟩ ⟨.inr ⟨rfl,rfl,rfl,.refl Kr⟩,⟨.inr ⟨rfl,rfl,rfl,.refl Kr⟩,⟨.inr ⟨rfl,rfl,rfl,.cons Kr (.cons Kr (.own (.refl Kr)))⟩,⟨.inr ⟨rfl,rfl,rfl,.refl Kr⟩,⟨.inl ⟨rfl,rfl⟩,trivial⟩⟩⟩⟩⟩ ?_
    refine qA9 [T,g,a7] [⟨e39 b,3,false⟩,⟨[],0,false⟩] Kr rfl Kr ⟨Kr,⟨Kr,⟨Kr,trivial⟩⟩⟩ ?_
    exact N (a.2.2.2.2.2.2.1,(⟨a.1,a.2.1,(⟨(a.2.2.2.2.2.2.2).length,(a.2.2.2.2.2.2.2).flatMap e32⟩:Raw),a.2.2.1,a.2.2.2.1,a.2.2.2.2.1,a.2.2.2.2.2.1⟩:S31))
theorem i40B_ok (k:Nat) (F:Fns0) (a:FnsOk0 F):Pi40 (i40B k F):=λb c g j=>⟨λx h=>qL8 k F a b c g j (some x) h,λh=>⟨_,qL8 k F a b c g j none h⟩⟩
def i41c0:LL:=[([61,62]:LN),([58,61]:LN)]
def i41p1:Pt:=nav [0,0,0] (nav [0] (bodyAt Try.f91))
def i41p2:Pt:=nav [0,0,0,0] i41p1
def i41p3:Pt:=nav [0,0,0,0] i41p2
def i41p5:Pt:=nav [0,0,0] (nav [0,0] i41p3)
def i41p6:Pt:=nav [1,0,0,0,0] i41p5
def i41p8:Pt:=nav [0,0,0] i41p6
def i41p10:Pt:=nav [0,0] i41p8
def i41p11:Pt:=nav [1,0] i41p10
def i41d0:DP:=⟨[21],[(0,0,0),(0,0,1),(0,0,0),(4,0,0),(14,0,0),(31,0,0),(63,0,0)],7,thrown,[],H0⟩
def qJ5 (k:Nat) (F:Fns0)  (l:LN) (m:List S38) (o:Int) (n:Int) (a:(S31×Int)) (ih:Int→Int→Option (Option (S31×Int))):Int→Int→Option (Option (S31×Int)) :=
 λ(b:Int) (h:Int)=>if (decide (b < (i41c0.length:Int))) then ((nthL i41c0 b).bind λj=>bT (i11 k j l m h n) λc=>if c.1 then (bT (F.i9 (1:Int) l m c.2 n) λg=>some (some ((⟨(14:Int),j,⟨(([a.1,g.1]:List S31)).length,(([a.1,g.1]:List S31)).flatMap e32⟩,false,false,([]:LL),([]:LL)⟩:S31),g.2))) else (ih (fW .i64 (b+1)) c.2)) else (some (some (a.1,h)))
def qOr (k:Nat) (F:Fns0)  (b:LN) (c:List S38) (g:Int) (h:Int) (a:(S31×Int)) (n:Nat):Int→Int→Option (Option (S31×Int)):=lp (λ_ _=>none) (qJ5 k F b c g h a) n
theorem qOq (k:Nat) (F:Fns0) (T:FnsOk0 F) (o:LN) (q:List S38) (C:Int) (r:Int)  (a:(S31×Int))  : ∀ (n:Nat) (c:Int) (l:Int),Ok (Xi41 o q C r) i41p3 [(0,.ptr 0 4 0),(2,.ptr 1 7 0),(3,.ptr 2 7 0),(8,w9 i41c0),(9,.i (i41c0.length:Int)),(10,.i c)] (mkH [⟨[.str o,w39 q,.i l,.i r],4,false⟩,⟨[.i 0,.str [],.nils,.bool false,.bool false,.nils,.nils],0,false⟩,⟨[.i a.1.f0,.str a.1.f1,q32 a.1.f2,.bool a.1.f3,.bool a.1.f4,w9 a.1.f5,w9 a.1.f6],7,false⟩]) (qOr k F o q C r a n c l):=by
 intro n
 induction n with
 | zero=>intro c l; exact ok_none
 | succ n ih =>
  intro c l
  show Ok _ _ _ _ (qJ5 k F o q C r a (qOr k F o q C r a n) c l)
  unfold qJ5
  refine qAk (p':=nav [0] i41p3) Kr ?_
  let J:Env:=[(11,.bool (decide (c < (i41c0.length:Int)))),(0,.ptr 0 4 0),(2,.ptr 1 7 0),(3,.ptr 2 7 0),(8,w9 i41c0),(9,.i (i41c0.length:Int)),(10,.i c)]
  let G:Blk:=⟨[.str o,w39 q,.i l,.i r],4,false⟩
  let m:Blk:=⟨[.i 0,.str [],.nils,.bool false,.bool false,.nils,.nils],0,false⟩
  refine oH 5 i41p5 J (mkH [G,m,⟨e32 a.1,7,false⟩]) ?_
  refine oS 11 (λK=>?_) (λK=>?_)
  ·refine oR 6 (atN 0 (ctl1 i41p6)) ((11,.bool true)::J) ?_
   refine oC (λ(b:LN)=>(.vptr [.str b],(mkH [G,m,⟨e32 a.1,7,false⟩]))) (atN 1 (ctl1 i41p6)) 12 (vidxH (sz:=1) qE7 Kr) λb N=>?_
   let O:Env:=((15,.str b)::(14,.ptr 0 4 0)::(5,.str b)::(13,.str b)::(12,.vptr [.str b])::(11,.bool true)::J)
   refine oH 7 (atN 2 (ctl1 i41p8)) O (mkH [G,m,⟨e32 a.1,7,false⟩]) ?_
   refine oX (λ(j:(Bool×Int)) => .bool j.1) (λj=>[⟨[.str o,w39 q,.i j.2,.i r],4,false⟩,m,⟨e32 a.1,7,false⟩]) (atN 3 (ctl1 i41p8)) 16 [0] [] [] [] [] [.ptr 0 4 0,.str b] (qAb k b o q l r) trivial (λ_=>trivial) trivial λj S=>?_
   refine oR 1 i41p10 ((16,.bool j.1)::O) ?_
   refine oS 16 (λK=>?_) (λK=>?_)
   ·refine oR 2 i41p11 ((16,.bool true)::(16,.bool j.1)::O) ?_
    refine qCe (λh=>?_) (λg B=>?_)
    ·let u:Env:=[(19,.ptr 0 4 0),(18,n32 a.1),(17,.str b),(16,.bool true),(16,.bool j.1),(15,.str b),(14,.ptr 0 4 0),(5,.str b),(13,.str b),(12,.vptr [.str b]),(11,.bool true),(11,.bool (decide (c < (i41c0.length:Int)))),(0,.ptr 0 4 0),(2,.ptr 1 7 0),(3,.ptr 2 7 0),(8,w9 i41c0),(9,.i (i41c0.length:Int)),(10,.i c)]
     let x:Blk:=⟨[.str o,w39 q,.i j.2,.i r],4,false⟩
     exact qAm (eE:=((22,.top)::(21,.top)::(20,.top)::u)) (i41d0.th 3 thrown [0] (mkH [x,m,⟨e32 a.1,7,false⟩])) (hs:=[(mkH [x,m,⟨e32 a.1,7,false⟩]),(mkH [x,m,⟨e32 a.1,7,false⟩])]) (LX:=[⟨[.str o,w39 q,.i C,.i r],4,false⟩]) (L:=[x,m,⟨e32 a.1,7,false⟩]) rfl rfl rfl Kr rfl ⟨.inl rfl,trivial⟩ Kr Kr Kr Kr (qA8 3 (l':=(opsAt i41p11).toList.drop 3) (eE:=u) (H':=(mkH [x,m,⟨e32 a.1,7,false⟩])) (hs:=[]) Kr (qAh (l':=(opsAt i41p11).toList.drop 4) (eE:=((20,.top)::u)) (hs:=[(mkH [x,m,⟨e32 a.1,7,false⟩])]) (fi:=57) (args:=[.ptr 0 4 0,.i 1]) Kr Kr (frS 0 (M:=[x,m,⟨e32 a.1,7,false⟩]) (rs:=[0]) (ms:=[]) (mv:=[]) (mm:=[]) (D:=[0]) (xs':=[.ptr 0 4 0,.i 1]) (.refl) ((T.i9_ok (1:Int) o q j.2 r).2 h) trivial trivial Kr) Kr (qA0 (l':=(opsAt i41p11).toList.drop 5) (eE:=((21,.top)::(20,.top)::u)) (hs:=[]) Kr Kr (qA0 (l':=(opsAt i41p11).toList.drop 6) (eE:=((22,.top)::(21,.top)::(20,.top)::u)) (hs:=[]) Kr Kr (qA0 (l':=(opsAt i41p11).toList.drop 7) (eE:=((22,.top)::(21,.top)::(20,.top)::u)) (hs:=[(mkH [x,m,⟨e32 a.1,7,false⟩])]) Kr Kr (.nil)))))) Kr Kr
    ·let u:Env:=[(19,.ptr 0 4 0),(18,n32 a.1),(17,.str b),(16,.bool true),(16,.bool j.1),(15,.str b),(14,.ptr 0 4 0),(5,.str b),(13,.str b),(12,.vptr [.str b]),(11,.bool true),(11,.bool (decide (c < (i41c0.length:Int)))),(0,.ptr 0 4 0),(2,.ptr 1 7 0),(3,.ptr 2 7 0),(8,w9 i41c0),(9,.i (i41c0.length:Int)),(10,.i c)]
     let A:Blk:=⟨[.str o,w39 q,.i g.2,.i r],4,false⟩
     let E:Blk:=⟨[.i 14,.str b,w32 ([a.1,g.1]:List S31),.bool false,.bool false,.nils,.nils],7,false⟩
     refine oD (H':=(mkH [A,E,⟨e32 a.1,7,false⟩])) (nav [0] i41p11) ((22,.agg [.i 14,.str b,w32 ([a.1,g.1]:List S31),.bool false,.bool false,.nils,.nils])::(21,w32 ([a.1,g.1]:List S31))::(20,n32 g.1)::u) [(mkH [A,m,⟨e32 a.1,7,false⟩]),(mkH [A,E,⟨e32 a.1,7,false⟩])] i41d0 (oDr 3 3 u (qA5 (l':=(opsAt i41p11).toList.drop 4) (eE:=((20,n32 g.1)::u)) (hs:=[(mkH [A,m,⟨e32 a.1,7,false⟩])]) (H':=(mkH [A,m,⟨e32 a.1,7,false⟩])) (fi:=57) (args:=[.ptr 0 4 0,.i 1]) (v:=n32 g.1) Kr (frC (rs:=[0]) (ms:=[]) (ms':=[]) ((T.i9_ok (1:Int) o q j.2 r).1 g B) trivial trivial Kr) Kr (oDh 3 7 ((22,.agg [.i 14,.str b,w32 ([a.1,g.1]:List S31),.bool false,.bool false,.nils,.nils])::(21,w32 ([a.1,g.1]:List S31))::(20,n32 g.1)::u) (mkH [A,E,⟨e32 a.1,7,false⟩]) [(mkH [A,E,⟨e32 a.1,7,false⟩])] .nil))) ?_
     exact oQF 1 [A,E,⟨e32 a.1,7,false⟩] 1 [] [.agg [.i 14,.str b,w32 ([a.1,g.1]:List S31),.bool false,.bool false,.nils,.nils]] (.agg [.i 14,.str b,w32 ([a.1,g.1]:List S31),.bool false,.bool false,.vec 0 1 [],.vec 0 1 []]) (.agg (.cs (.cs (.cs (.cs (.cs (.nil (.nil .ps))))))) .ps) trivial
   ·refine oL 6 i41p3 [(0,.ptr 0 4 0),(2,.ptr 1 7 0),(3,.ptr 2 7 0),(8,w9 i41c0),(9,.i (i41c0.length:Int)),(10,.i (fW .i64 (c+1)))] ?_
    exact ih (fW .i64 (c+1)) j.2
  ·exact oQF 8 [G,⟨e32 a.1,7,false⟩,⟨e32 a.1,7,false⟩] 1 [] [n32 a.1] (n32 a.1) .ps trivial
def i41B (k:Nat) (F:Fns0) (b:LN) (c:List S38) (g:Int) (h:Int):Option (Option (S31×Int)) :=
 bT (F.i9 (1:Int) b c g h) λa=>qOr k F b c g h a k 0 a.2
theorem qL7 (k:Nat) (F:Fns0) (o:FnsOk0 F):∀ b c j g r,i41B k F b c j g=some r→CallT Try.prog 91 [.ptr 0 4 0] (mkH [⟨[.str b,w39 c,.i j,.i g],4,false⟩]) ((Xi41 b c j g).thr r) ((Xi41 b c j g).enc r) ((Xi41 b c j g).fin r):=by
 intro b c j g r h
 refine qA1 (Xi41 b c j g) Try.func91 Kr Kr rfl (t:=i41B k F b c j g) ?_ h
 unfold i41B
 refine qA (eE:=[(0,.ptr 0 4 0)]) Kr ?_
 let l:Blk:=⟨[.i 0,.str [],.nils,.bool false,.bool false,.nils,.nils],0,false⟩
 refine oH 7 (atN 1 (ctl1 i41p1)) [(6,.ptr 0 4 0),(2,.ptr 1 7 0),(0,.ptr 0 4 0)] (mkH [⟨[.str b,w39 c,.i j,.i g],4,false⟩,l]) ?_
 refine oX (λ(a:(S31×Int))=>n32 a.1) (λa=>[⟨[.str b,w39 c,.i a.2,.i g],4,false⟩,l]) (atN 2 (ctl1 i41p1)) 7 [0] [] [] [0] [] [.ptr 0 4 0,.i 1] (o.i9_ok (1:Int) b c j g) trivial (λ_=>trivial) trivial λa m=>?_
 let n:Blk:=⟨[.str b,w39 c,.i a.2,.i g],4,false⟩
 refine oH 7 (atN 1 (ctl1 i41p2)) [(8,.slice 3 2 0 2 1),(3,.ptr 2 7 0),(7,n32 a.1),(6,.ptr 0 4 0),(2,.ptr 1 7 0),(0,.ptr 0 4 0)] (mkH [n,l,⟨e32 a.1,7,false⟩,⟨[.str [61,62],.str [58,61]],0,false⟩]) ?_
 refine oZ 8 3 2 1 [.str [61,62],.str [58,61]] [0,2,3,6,7] [] trivial ?_
 refine oLH 5 i41p3 [(0,.ptr 0 4 0),(2,.ptr 1 7 0),(3,.ptr 2 7 0),(8,w9 i41c0),(9,.i (i41c0.length:Int)),(10,.i 0)] (mkH [n,l,⟨e32 a.1,7,false⟩,⟨[],0,false⟩]) ?_
 refine qA9 [n,l,⟨e32 a.1,7,false⟩] [⟨[],0,false⟩] Kr rfl Kr ⟨Kr,⟨Kr,⟨Kr,trivial⟩⟩⟩ ?_
 exact (qOq k F o b c j g a k) 0 a.2
theorem i41B_ok (k:Nat) (F:Fns0) (a:FnsOk0 F):Pi41 (i41B k F):=λb c g j=>⟨λx h=>qL7 k F a b c g j (some x) h,λh=>⟨_,qL7 k F a b c g j none h⟩⟩
def i42p1:Pt:=nav [0,0,0] (nav [0] (bodyAt Try.f99))
def i42p2:Pt:=nav [0,0,0] i42p1
def i42p3:Pt:=nav [0,0,0] i42p2
def i42B (k:Nat) (F:Fns0) (g:LN) (h:List S38) (l:Int) (j:Int):Option (Option (S31×Int)) :=
 bT (F.i49 ([]:LL) g h l j) λa=>(i12 k g h a.2 j).bind λb=>bT (i14 k ([101,110,100]:LN) g h b.2 j) λc=>some (some ((⟨(17:Int),([]:LN),⟨(a.1).length,(a.1).flatMap e32⟩,false,false,([]:LL),b.1⟩:S31),c))
theorem qL6 (k:Nat) (F:Fns0) (E:FnsOk0 F):∀ c g m j r,i42B k F c g m j=some r→CallT Try.prog 99 [.ptr 0 4 0] (mkH [⟨[.str c,w39 g,.i m,.i j],4,false⟩]) ((Xi42 c g m j).thr r) ((Xi42 c g m j).enc r) ((Xi42 c g m j).fin r):=by
 intro c g m j r h
 refine qA1 (Xi42 c g m j) Try.func99 Kr Kr rfl (t:=i42B k F c g m j) ?_ h
 unfold i42B
 refine qA (eE:=[(0,.ptr 0 4 0)]) Kr ?_
 let A:Env:=[(5,.func 105 [] [.ptr 1 1 0]),(4,.ptr 0 4 0),(2,.ptr 2 7 0),(1,.ptr 1 1 0),(0,.ptr 0 4 0)]
 let B:Blk:=⟨[.str c,w39 g,.i m,.i j],4,false⟩
 let n:Blk:=⟨[.i 0,.str [],.nils,.bool false,.bool false,.nils,.nils],0,false⟩
 refine oH 9 (atN 2 (ctl1 i42p1)) A (mkH [B,⟨[.ptr 0 4 0],0,false⟩,n]) ?_
 refine oXW 0 [B,⟨[.ptr 0 4 0],1,false⟩,n] (λ(a:Ri49)=>w32 a.1) (λa=>[⟨[.str c,w39 g,.i a.2,.i j],4,false⟩,⟨[.ptr 0 4 0],1,false⟩,n]) (atN 3 (ctl1 i42p1)) 6 [0,1] [] [] [0,1] [] [] [.ptr 0 4 0,.nils,.func 105 [] [.ptr 1 1 0]] [.ptr 0 4 0,w9 ([]:LL),.func 105 [] [.ptr 1 1 0]] (.cons (.nil (.refl))) (E.i49_ok ([]:LL) c g m j) trivial (λ_=>trivial) trivial λa q=>?_
 let C:Blk:=⟨[.i 17,.str [],w32 a.1,.bool false,.bool false,.nils,.nils],7,false⟩
 refine oH 7 (atN 1 (ctl1 i42p2)) ((8,.ptr 0 4 0)::(3,.ptr 3 7 0)::(7,.agg [.i 17,.str [],w32 a.1,.bool false,.bool false,.nils,.nils])::(6,w32 a.1)::A) (mkH [⟨[.str c,w39 g,.i a.2,.i j],4,false⟩,⟨[.ptr 0 4 0],1,false⟩,n,C]) ?_
 refine oN (λ(b:Ri12)=>w9 b.1) (λb=>[⟨[.str c,w39 g,.i b.2,.i j],4,false⟩,⟨[.ptr 0 4 0],1,false⟩,n,C]) (atN 2 (ctl1 i42p2)) 9 [0] [] [] [.ptr 0 4 0] (qAp k c g a.2 j) trivial (λ_=>trivial) λb u=>?_
 let D:Env:=[(1,.ptr 1 1 0),(2,.ptr 2 7 0),(3,.ptr 3 7 0)]
 let o:Blk:=⟨[.i 17,.str [],w32 a.1,.bool false,.bool false,.nils,w9 b.1],7,false⟩
 refine oLH 4 i42p3 D (mkH [⟨[.str c,w39 g,.i b.2,.i j],4,false⟩,⟨[.ptr 0 4 0],1,false⟩,n,o]) ?_
 refine oR 2 (atN 1 (ctl1 i42p3)) ((11,.ptr 0 4 0)::D) ?_
 refine oX (λ(l:Int) => .tuple []) (λl=>[⟨[.str c,w39 g,.i l,.i j],4,false⟩,⟨[.ptr 0 4 0],1,false⟩,n,o]) (atN 2 (ctl1 i42p3)) 12 [0] [] [] [0,1] [] [.ptr 0 4 0,.str [101,110,100]] (qB2 k ([101,110,100]:LN) c g b.2 j) trivial (λ_=>trivial) trivial λl x=>?_
 exact oQF 7 [⟨[.str c,w39 g,.i l,.i j],4,false⟩,⟨[.ptr 0 4 0],1,false⟩,o,o] 1 [] [.agg [.i 17,.str [],w32 a.1,.bool false,.bool false,.nils,w9 b.1]] (.agg [.i 17,.str [],w32 a.1,.bool false,.bool false,.vec 0 1 [],w9 b.1]) (.agg (.cs (.cs (.cs (.cs (.cs (.nil .ps)))))) .ps) trivial
theorem i42B_ok (k:Nat) (F:Fns0) (a:FnsOk0 F):Pi42 (i42B k F):=λb c g j=>⟨λx h=>qL6 k F a b c g j (some x) h,λh=>⟨_,qL6 k F a b c g j none h⟩⟩
def i44p1:Pt:=nav [0,0,0] (nav [0] (bodyAt Try.f101))
def i44p2:Pt:=nav [0,0] i44p1
def i44p3:Pt:=nav [0,0,0] i44p2
def i44d0:DP:=⟨[],[(0,0,0),(1,0,2),(0,0,0),(0,0,0),(8,0,0),(0,0,0),(60,0,0),(127,0,0),(255,0,0),(511,0,0)],10,thrown,[],H0⟩
end
end Go.Proofs.Ytjmmjhojbodbdaa.Am
