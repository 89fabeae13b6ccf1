/- LawParseNotes, part 6: whatever the input, the law comes out true: our texts, joined by a tool, without what the claim does not name. -/
import Derived.Test.YthpplbkobokghaaPkParseNotes5
import Derived.Below
import Derived.Test.YthpplbkobokghaaRows
import Derived.WalkKit
import Derived.ProofKit
import Derived.OpenShut
import Derived.ShutString
import Derived.ChangeOld
import Derived.SizedLaws
set_option maxRecDepth 100000
set_option linter.unusedVariables false
set_option linter.unusedSimpArgs false
set_option maxRecDepth 100000
set_option linter.unusedVariables false
namespace Go.Proofs.Ythpplbkobokghaa.Am
noncomputable section
open Go
theorem qNg (k:Nat)  (r:Bool) (h:g16 k  = some r):PureOk Try.prog 16 [] (.bool r):=by
 refine qA4 Xg16 (λ_=>⟨rfl,rfl⟩) Try.func16 (by decide +kernel) Kr (t:=g16 k ) ?_ h
 unfold g16
 refine qA (eE:=[]) Kr ?_
 refine oH 11 (atN 1 (ctl1 g16p2)) [(14,.str g16c0),(1,.str g16c0),(0,.bool false)] (mkH []) ?_
 refine oA (λ(c:((List S33)×Int)) => .tuple [w34 c.1,.i c.2]) (atN 2 (ctl1 g16p2)) 15 [.str g16c0] (g13_ok k g16c0) λc O=>?_
 refine oR 12 (atN 4 (ctl1 g16p3)) [(22,.i (c.1.length:Int)),(21,w34 c.1),(20,w34 c.1),(19,.str g16c0),(3,.i c.2),(2,w34 c.1),(17,.i c.2),(16,w34 c.1),(13,.tuple [w34 c.1,.i c.2]),(15,.tuple [w34 c.1,.i c.2]),(14,.str g16c0),(1,.str g16c0),(0,.bool false)] ?_
 refine oA (λ(b:(S28×Int×Int)) => .tuple [n29 b.1,.i b.2.1,.i b.2.2]) (atN 5 (ctl1 g16p3)) 23 [.str g16c0,w34 c.1,.i 0,.i (c.1.length:Int),.i 0] (qS2 k g16c0 c.1 (0:Int) (c.1.length:Int) (0:Int)) λb Q=>?_
 let Z:Env:=[(1,.str g16c0),(2,w34 c.1),(3,.i c.2),(4,.ptr 0 7 0),(5,.i b.2.1),(6,.i b.2.2)]
 refine oLH 10 g16p4 Z (mkH [⟨e29 b.1,7,false⟩]) ?_
 refine oR 3 (atN 2 (ctl1 g16p4)) ((29,w34 c.1)::(28,.str g16c0)::Z) ?_
 refine oA (λ(o:(S28×Int×Int)) => .tuple [n29 o.1,.i o.2.1,.i o.2.2]) (atN 3 (ctl1 g16p4)) 30 [.str g16c0,w34 c.1,.i 0,.i 2,.i 0] (qS2 k g16c0 c.1 (0:Int) (2:Int) (0:Int)) λo S=>?_
 let E5:Env:=[(3,.i c.2),(4,.ptr 0 7 0),(5,.i b.2.1),(6,.i b.2.2),(9,.i o.2.2)]
 refine oLH 10 g16p5 E5 (mkH [⟨e29 b.1,7,false⟩,⟨e29 o.1,7,false⟩]) ?_
 refine oH 5 (atN 4 (ctl1 g16p5)) ((38,.slice 2 9 0 3 3)::(37,.agg [.i 1,.str [121],.i 4])::(36,.agg [.i 9,.str [44],.i 1])::(35,.agg [.i 1,.str [120],.i 0])::E5) (mkH [⟨e29 b.1,7,false⟩,⟨e29 o.1,7,false⟩,⟨[.i 1,.str [120],.i 0,.i 9,.str [44],.i 1,.i 1,.str [121],.i 4],0,false⟩]) ?_
 refine oZ 38 2 3 3 [.i 1,.str [120],.i 0,.i 9,.str [44],.i 1,.i 1,.str [121],.i 4] [3,4,5,6,9,35,36,37] [] trivial ?_
 refine oE [(38,w34 g16c1),(3,.i c.2),(4,.ptr 0 7 0),(5,.i b.2.1),(6,.i b.2.2),(9,.i o.2.2),(35,.agg [.i 1,.str [120],.i 0]),(36,.agg [.i 9,.str [44],.i 1]),(37,.agg [.i 1,.str [121],.i 4])] ?_
 refine oHp (mkH [⟨e29 b.1,7,false⟩,⟨e29 o.1,7,false⟩,⟨[],0,false⟩]) ?_
 refine oA (λ(j:(S28×Int×Int)) => .tuple [n29 j.1,.i j.2.1,.i j.2.2]) (atN 5 (ctl1 g16p5)) 39 [.str [120,44,10,10,121],w34 g16c1,.i 0,.i 3] (g23_ok k ([120,44,10,10,121]:LN) g16c1 (0:Int) (3:Int)) λj T=>?_
 let U:Env:=[(3,.i c.2),(4,.ptr 0 7 0),(5,.i b.2.1),(6,.i b.2.2),(9,.i o.2.2),(10,.ptr 3 7 0),(12,.i j.2.2)]
 let K:List Blk:=[⟨e29 b.1,7,false⟩,⟨e29 o.1,7,false⟩,⟨[],0,false⟩,⟨e29 j.1,7,false⟩]
 refine oLH 10 g16p6 U (mkH K) ?_
 refine oR 4 (atN 3 (ctl1 g16p6)) ((45,.bool (decide (c.2=0)))::(44,.bool (decide (c.2=0)))::(43,.i c.2)::U) ?_
 refine oS 45 (λq=>?_) (λq=>?_)
 ·let E8:Env:=((49,.bool (decide (b.2.2=0)))::(48,.bool (decide (b.2.2=0)))::(47,.bool (decide (b.2.2=0)))::(46,.i b.2.2)::(45,.bool true)::(45,.bool (decide (c.2=0)))::(44,.bool (decide (c.2=0)))::(43,.i c.2)::U)
  refine oR 4 (atN 7 (ctl1 g16p6)) E8 ?_
  refine oS 49 (λq=>?_) (λq=>?_)
  ·let E9:Env:=((53,.bool (decide (b.2.1=5)))::(52,.bool (decide (b.2.1=5)))::(51,.bool (decide (b.2.1=5)))::(50,.i b.2.1)::(49,.bool true)::E8)
   refine oR 4 (atN 11 (ctl1 g16p6)) E9 ?_
   refine oS 53 (λq=>?_) (λq=>?_)
   ·let z:Env:=((58,.bool (decide (b.1.f0=14)))::(57,.bool (decide (b.1.f0=14)))::(56,.bool (decide (b.1.f0=14)))::(55,.i b.1.f0)::(54,.ptr 0 7 0)::(53,.bool true)::E9)
    refine oR 5 (atN 16 (ctl1 g16p6)) z ?_
    refine oS 58 (λq=>?_) (λq=>?_)
    ·let D:Env:=((63,.bool (eqL b.1.f1 [43]))::(62,.bool (eqL b.1.f1 [43]))::(61,.bool (eqL b.1.f1 [43]))::(60,.str b.1.f1)::(59,.ptr 0 7 1)::(58,.bool true)::z)
     refine oR 5 (atN 21 (ctl1 g16p6)) D ?_
     refine oS 63 (λq=>?_) (λq=>?_)
     ·let u:Env:=((69,.bool (decide ((b.1.f2.n:Int)=2)))::(68,.bool (decide ((b.1.f2.n:Int)=2)))::(67,.bool (decide ((b.1.f2.n:Int)=2)))::(66,.i (b.1.f2.n:Int))::(65,q29 b.1.f2)::(64,.ptr 0 7 2)::(63,.bool true)::D)
      refine oR 6 (atN 27 (ctl1 g16p6)) u ?_
      refine oS 69 (λq=>?_) (λq=>?_)
      ·refine oR 2 (atN 29 (ctl1 g16p6)) ((71,q29 b.1.f2)::(70,.ptr 0 7 2)::(69,.bool true)::u) ?_
       refine qKh (λ(a:S28)=>(.vptr [.i a.f0,.str a.f1,q29 a.f2,.bool a.f3,.bool a.f4,w9 a.f5,w9 a.f6],(mkH K))) (atN 30 (ctl1 g16p6)) (λa=>((72,.vptr [.i a.f0,.str a.f1,q29 a.f2,.bool a.f3,.bool a.f4,w9 a.f5,w9 a.f6])::(71,q29 b.1.f2)::(70,.ptr 0 7 2)::(69,.bool true)::u)) (λ_ Y=>vidxR (sz:=7) qSf Y Kr) (λ_=>by kernel_rfl) (λa M=>?_)
       let E:Env:=((77,.bool (eqL a.f1 [42]))::(76,.bool (eqL a.f1 [42]))::(75,.bool (eqL a.f1 [42]))::(74,.str a.f1)::(73,.vptr [.str a.f1,q29 a.f2,.bool a.f3,.bool a.f4,w9 a.f5,w9 a.f6])::(72,.vptr [.i a.f0,.str a.f1,q29 a.f2,.bool a.f3,.bool a.f4,w9 a.f5,w9 a.f6])::(71,q29 b.1.f2)::(70,.ptr 0 7 2)::(69,.bool true)::u)
       refine oH 5 (atN 35 (ctl1 g16p6)) E (mkH K) ?_
       refine oS 77 (λq=>?_) (λq=>?_)
       ·let I:Env:=((81,.bool (decide (o.2.2=8)))::(80,.bool (decide (o.2.2=8)))::(79,.bool (decide (o.2.2=8)))::(78,.i o.2.2)::(77,.bool true)::E)
        refine oR 4 (atN 39 (ctl1 g16p6)) I ?_
        refine oS 81 (λq=>?_) (λq=>?_)
        ·let J:Env:=((85,.bool (decide (j.2.2=0)))::(84,.bool (decide (j.2.2=0)))::(83,.bool (decide (j.2.2=0)))::(82,.i j.2.2)::(81,.bool true)::I)
         refine oR 4 (atN 43 (ctl1 g16p6)) J ?_
         refine oS 85 (λq=>?_) (λq=>?_)
         ·let x:Env:=((91,.bool (decide ((j.1.f2.n:Int)=2)))::(90,.bool (decide ((j.1.f2.n:Int)=2)))::(89,.bool (decide ((j.1.f2.n:Int)=2)))::(88,.i (j.1.f2.n:Int))::(87,q29 j.1.f2)::(86,.ptr 3 7 2)::(85,.bool true)::J)
          refine oR 6 (atN 49 (ctl1 g16p6)) x ?_
          refine oS 91 (λq=>?_) (λq=>?_)
          ·refine oR 2 (atN 51 (ctl1 g16p6)) ((93,q29 j.1.f2)::(92,.ptr 3 7 2)::(91,.bool true)::x) ?_
           refine qKh (λ(g:S28)=>(.vptr [.i g.f0,.str g.f1,q29 g.f2,.bool g.f3,.bool g.f4,w9 g.f5,w9 g.f6],(mkH K))) (atN 52 (ctl1 g16p6)) (λg=>((94,.vptr [.i g.f0,.str g.f1,q29 g.f2,.bool g.f3,.bool g.f4,w9 g.f5,w9 g.f6])::(93,q29 j.1.f2)::(92,.ptr 3 7 2)::(91,.bool true)::x)) (λ_ Y=>vidxR (sz:=7) qSf Y Kr) (λ_=>by kernel_rfl) (λg N=>?_)
           exact oQ 6
          ·exact oQ 9
         ·exact oQ 15
        ·exact oQ 19
       ·exact oQ 23
      ·exact oQ 31
     ·exact oQ 37
    ·exact oQ 42
   ·exact oQ 47
  ·exact oQ 51
 ·exact oQ 55
def Xg56:Fx Bool:=⟨Try.prog,cx,Try.f56,λr => .bool r,0,λ_=>H0,cxTi,cxOrd,λ_=>none,false⟩
def g56p2:Pt:=nav [0,0,0,0] (nav [0,0,0,0] (nav [0] (bodyAt Try.f56)))
def g56p4:Pt:=nav [0,0] (nav [0,0,0] g56p2)
def g56p5:Pt:=nav [1,0,0,0,0] g56p4
def qKq (k:Nat)  (a0:LL) (c:LN) (ih:Int→Option Bool):Int→Option Bool :=
 λ(a:Int)=>if (decide (a < (a0.length:Int))) then ((nthL a0 a).bind λb=>if (eqL b c) then (some true) else (ih (fW .i64 (a+1)))) else (some false)
def qG6 (k:Nat)  (a0:LL) (a:LN) (n:Nat):Int→Option Bool:=lp (λ_=>none) (qKq k a0 a) n
theorem g56_l1_s (k:Nat)  (a0:LL) (c:LN) (n:Nat) (a:Int):qG6 k a0 c (n+1) a=(if (decide (a < (a0.length:Int))) then ((nthL a0 a).bind λb=>if (eqL b c) then (some true) else ((qG6 k a0 c n) (fW .i64 (a+1)))) else (some false)):=rfl
theorem qRl (k:Nat)   (a0:LL) (c:LN)  : ∀ (n:Nat) (a:Int),Ok Xg56 g56p2 [(0,w9 a0),(1,.str c),(5,.i a)] (mkH []) (qG6 k a0 c n a):=by
 intro n
 induction n with
 | zero=>intro a; exact ok_none
 | succ n ih =>
  intro a
  show Ok _ _ _ _ (qKq k a0 c (qG6 k a0 c n) a)
  unfold qKq
  refine qAi (p':=nav [0] g56p2) Kr ?_
  let j:Env:=[(9,.bool (decide (a < (a0.length:Int)))),(8,.i (a0.length:Int)),(7,w9 a0),(6,.i a),(0,w9 a0),(1,.str c),(5,.i a)]
  refine oH 8 g56p4 j (mkH []) ?_
  refine oS 9 (λg=>?_) (λg=>?_)
  ·refine oR 8 (atN 2 (ctl1 g56p5)) ((13,.i a)::(12,w9 a0)::(9,.bool true)::j) ?_
   refine oC (λ(b:LN)=>(.vptr [.str b],(mkH []))) (atN 3 (ctl1 g56p5)) 14 (vidxH (sz:=1) qBx Kr) λb h=>?_
   refine oLH 4 (nav [0,0] g56p5) [(0,w9 a0),(1,.str c),(5,.i a),(17,.bool (eqL b c))] (mkH []) ?_
   refine oS 17 (λg=>?_) (λg=>?_)
   ·exact oQ 6
   ·refine oL 7 g56p2 [(0,w9 a0),(1,.str c),(5,.i (fW .i64 (a+1)))] ?_
    exact ih (fW .i64 (a+1))
  ·exact oQ 7
def g56 (k:Nat) (a0:LL) (a:LN):Option Bool :=
 qG6 k a0 a k 0
theorem qN7 (k:Nat) (a0:LL) (a:LN) (r:Bool) (h:g56 k a0 a=some r):PureOk Try.prog 56 [w9 a0,.str a] (.bool r):=by
 refine qA4 Xg56 (λ_=>⟨rfl,rfl⟩) Try.func56 (by decide +kernel) Kr (t:=g56 k a0 a) ?_ h
 unfold g56
 refine qA (eE:=[(0,w9 a0),(1,.str a)]) Kr ?_
 refine oLH 11 g56p2 [(0,w9 a0),(1,.str a),(5,.i 0)] (mkH []) ?_
 exact (qRl k a0 a k) 0
def Xg32:Fx Bool:=⟨Try.prog,cx,Try.f32,λr => .bool r,0,λ_=>H0,cxTi,cxOrd,λ_=>none,false⟩
def g32c0:LL:=[([40]:LN),([123]:LN),([91]:LN),([60,60]:LN)]
def g32c1:LN:=[98,101,103,105,110]
def g32c2:LN:=[114,101,99,101,105,118,101]
def g32c3:LL:=[g32c1,([99,97,115,101]:LN),([105,102]:LN),g32c2]
def g32p1:Pt:=nav [0,0,0] (nav [0] (bodyAt Try.f32))
def g32 (k:Nat) (a0:S33):Option Bool :=
 if (decide (a0.f0=9)) then ((g56 k g32c0 a0.f1).bind λb=>if b then (some true) else (if (decide (a0.f0=8)) then ((g56 k g32c3 a0.f1).bind λa=>some a) else (some false))) else (if (decide (a0.f0=8)) then ((g56 k g32c3 a0.f1).bind λa=>some a) else (some false))
theorem g32_ok (k:Nat) (a0:S33) (r:Bool) (h:g32 k a0=some r):PureOk Try.prog 32 [.agg [.i a0.f0,.str a0.f1,.i a0.f2]] (.bool r):=by
 refine qA4 Xg32 (λ_=>⟨rfl,rfl⟩) Try.func32 (by decide +kernel) Kr (t:=g32 k a0) ?_ h
 unfold g32
 refine qA (eE:=[(0,.agg [.i a0.f0,.str a0.f1,.i a0.f2])]) Kr ?_
 let j:Env:=[(6,.bool (decide (a0.f0=9))),(5,.bool (decide (a0.f0=9))),(4,.i a0.f0),(3,.ptr 0 3 0),(2,.bool false),(1,.ptr 0 3 0),(0,n34 a0)]
 refine oH 11 (atN 4 (ctl1 g32p1)) j (mkH [⟨e34 a0,0,false⟩]) ?_
 refine oS 6 (λg=>?_) (λg=>?_)
 ·refine oH 1 (atN 5 (ctl1 g32p1)) ((7,.slice 1 4 0 4 1)::(6,.bool true)::j) (mkH [⟨e34 a0,0,false⟩,⟨[.str [40],.str [123],.str [91],.str [60,60]],0,false⟩]) ?_
  refine oZ 7 1 4 1 [.str [40],.str [123],.str [91],.str [60,60]] [0,1,2,3,4,5,6] [] trivial ?_
  let n:Env:=[(9,.str a0.f1),(8,.ptr 0 3 1),(7,w9 g32c0),(0,n34 a0),(1,.ptr 0 3 0),(2,.bool false),(3,.ptr 0 3 0),(4,.i a0.f0),(5,.bool (decide (a0.f0=9))),(6,.bool true)]
  refine oH 2 (atN 7 (ctl1 g32p1)) n (mkH [⟨e34 a0,0,false⟩,⟨[],0,false⟩]) ?_
  refine oA (λ(a:Bool) => .bool a) (atN 8 (ctl1 g32p1)) 10 [w9 g32c0,.str a0.f1] (qN7 k g32c0 a0.f1) λa o=>?_
  refine oR 2 (atN 10 (ctl1 g32p1)) ((12,.bool a)::(11,.bool a)::(10,.bool a)::n) ?_
  refine oS 12 (λg=>?_) (λg=>?_)
  ·exact oQ 13
  ·let q:Env:=((16,.bool (decide (a0.f0=8)))::(15,.bool (decide (a0.f0=8)))::(14,.i a0.f0)::(13,.ptr 0 3 0)::(12,.bool false)::(12,.bool a)::(11,.bool a)::(10,.bool a)::n)
   refine oR 4 (atN 14 (ctl1 g32p1)) q ?_
   refine oS 16 (λg=>?_) (λg=>?_)
   ·refine oH 1 (atN 15 (ctl1 g32p1)) ((17,.slice 2 4 0 4 1)::(16,.bool true)::q) (mkH [⟨e34 a0,0,false⟩,⟨[],0,false⟩,⟨[.str g32c1,.str [99,97,115,101],.str [105,102],.str g32c2],0,false⟩]) ?_
    refine oZ 17 2 4 1 [.str g32c1,.str [99,97,115,101],.str [105,102],.str g32c2] [0,1,2,3,4,5,6,7,8,9,10,11,12,13,14,15,16] [] trivial ?_
    refine oH 2 (atN 17 (ctl1 g32p1)) [(19,.str a0.f1),(18,.ptr 0 3 1),(17,w9 g32c3),(0,n34 a0),(1,.ptr 0 3 0),(2,.bool false),(3,.ptr 0 3 0),(4,.i a0.f0),(5,.bool (decide (a0.f0=9))),(6,.bool true),(7,w9 g32c0),(8,.ptr 0 3 1),(9,.str a0.f1),(10,.bool a),(11,.bool a),(12,.bool false),(13,.ptr 0 3 0),(14,.i a0.f0),(15,.bool (decide (a0.f0=8))),(16,.bool true)] (mkH [⟨e34 a0,0,false⟩,⟨[],0,false⟩,⟨[],0,false⟩]) ?_
    refine oA (λ(b:Bool) => .bool b) (atN 18 (ctl1 g32p1)) 20 [w9 g32c3,.str a0.f1] (qN7 k g32c3 a0.f1) λb c=>?_
    exact oQ 5
   ·exact oQ 9
 ·let u:Env:=((16,.bool (decide (a0.f0=8)))::(15,.bool (decide (a0.f0=8)))::(14,.i a0.f0)::(13,.ptr 0 3 0)::(12,.bool false)::(11,.bool false)::(10,.tuple [])::(9,.tuple [])::(8,.tuple [])::(7,.tuple [])::(6,.bool false)::j)
  refine oR 10 (atN 14 (ctl1 g32p1)) u ?_
  refine oS 16 (λg=>?_) (λg=>?_)
  ·refine oH 1 (atN 15 (ctl1 g32p1)) ((17,.slice 1 4 0 4 1)::(16,.bool true)::u) (mkH [⟨e34 a0,0,false⟩,⟨[.str g32c1,.str [99,97,115,101],.str [105,102],.str g32c2],0,false⟩]) ?_
   refine oZ 17 1 4 1 [.str g32c1,.str [99,97,115,101],.str [105,102],.str g32c2] [0,1,2,3,4,5,6,7,8,9,10,11,12,13,14,15,16] [] trivial ?_
   refine oH 2 (atN 17 (ctl1 g32p1)) [(19,.str a0.f1),(18,.ptr 0 3 1),(17,w9 g32c3),(0,n34 a0),(1,.ptr 0 3 0),(2,.bool false),(3,.ptr 0 3 0),(4,.i a0.f0),(5,.bool (decide (a0.f0=9))),(6,.bool false),(7,.tuple []),(8,.tuple []),(9,.tuple []),(10,.tuple []),(11,.bool false),(12,.bool false),(13,.ptr 0 3 0),(14,.i a0.f0),(15,.bool (decide (a0.f0=8))),(16,.bool true)] (mkH [⟨e34 a0,0,false⟩,⟨[],0,false⟩]) ?_
   refine oA (λ(b:Bool) => .bool b) (atN 18 (ctl1 g32p1)) 20 [w9 g32c3,.str a0.f1] (qN7 k g32c3 a0.f1) λb c=>?_
   exact oQ 5
  ·exact oQ 9
def Xg33:Fx Bool:=⟨Try.prog,cx,Try.f33,λr => .bool r,0,λ_=>H0,cxTi,cxOrd,λ_=>none,false⟩
def g33c0:LL:=[([41]:LN),([125]:LN),([93]:LN),([62,62]:LN)]
def g33p1:Pt:=nav [0,0,0] (nav [0] (bodyAt Try.f33))
def g33 (k:Nat) (a0:S33):Option Bool :=
 if (decide (a0.f0=9)) then ((g56 k g33c0 a0.f1).bind λa=>if a then (some true) else (if (decide (a0.f0=8)) then (some (eqL a0.f1 [101,110,100])) else (some false))) else (if (decide (a0.f0=8)) then (some (eqL a0.f1 [101,110,100])) else (some false))
theorem g33_ok (k:Nat) (a0:S33) (r:Bool) (h:g33 k a0=some r):PureOk Try.prog 33 [.agg [.i a0.f0,.str a0.f1,.i a0.f2]] (.bool r):=by
 refine qA4 Xg33 (λ_=>⟨rfl,rfl⟩) Try.func33 (by decide +kernel) Kr (t:=g33 k a0) ?_ h
 unfold g33
 refine qA (eE:=[(0,.agg [.i a0.f0,.str a0.f1,.i a0.f2])]) Kr ?_
 let c:Env:=[(6,.bool (decide (a0.f0=9))),(5,.bool (decide (a0.f0=9))),(4,.i a0.f0),(3,.ptr 0 3 0),(2,.bool false),(1,.ptr 0 3 0),(0,n34 a0)]
 refine oH 11 (atN 4 (ctl1 g33p1)) c (mkH [⟨e34 a0,0,false⟩]) ?_
 refine oS 6 (λb=>?_) (λb=>?_)
 ·refine oH 1 (atN 5 (ctl1 g33p1)) ((7,.slice 1 4 0 4 1)::(6,.bool true)::c) (mkH [⟨e34 a0,0,false⟩,⟨[.str [41],.str [125],.str [93],.str [62,62]],0,false⟩]) ?_
  refine oZ 7 1 4 1 [.str [41],.str [125],.str [93],.str [62,62]] [0,1,2,3,4,5,6] [] trivial ?_
  let g:Env:=[(9,.str a0.f1),(8,.ptr 0 3 1),(7,w9 g33c0),(0,n34 a0),(1,.ptr 0 3 0),(2,.bool false),(3,.ptr 0 3 0),(4,.i a0.f0),(5,.bool (decide (a0.f0=9))),(6,.bool true)]
  refine oH 2 (atN 7 (ctl1 g33p1)) g (mkH [⟨e34 a0,0,false⟩,⟨[],0,false⟩]) ?_
  refine oA (λ(a:Bool) => .bool a) (atN 8 (ctl1 g33p1)) 10 [w9 g33c0,.str a0.f1] (qN7 k g33c0 a0.f1) λa j=>?_
  refine oR 2 (atN 10 (ctl1 g33p1)) ((12,.bool a)::(11,.bool a)::(10,.bool a)::g) ?_
  refine oS 12 (λb=>?_) (λb=>?_)
  ·exact oQ 12
  ·refine oR 4 (atN 14 (ctl1 g33p1)) ((16,.bool (decide (a0.f0=8)))::(15,.bool (decide (a0.f0=8)))::(14,.i a0.f0)::(13,.ptr 0 3 0)::(12,.bool false)::(12,.bool a)::(11,.bool a)::(10,.bool a)::g) ?_
   refine oS 16 (λb=>?_) (λb=>?_)
   ·exact oQ 8
   ·exact oQ 8
 ·refine oR 10 (atN 14 (ctl1 g33p1)) ((16,.bool (decide (a0.f0=8)))::(15,.bool (decide (a0.f0=8)))::(14,.i a0.f0)::(13,.ptr 0 3 0)::(12,.bool false)::(11,.bool false)::(10,.tuple [])::(9,.tuple [])::(8,.tuple [])::(7,.tuple [])::(6,.bool false)::c) ?_
  refine oS 16 (λb=>?_) (λb=>?_)
  ·exact oQ 8
  ·exact oQ 8
def Xg20:Fx Int:=⟨Try.prog,cx,Try.f20,λr => .i r,0,λ_=>H0,cxTi,cxOrd,λ_=>none,false⟩
def g20p3:Pt:=nav [0,0,0,0] (nav [0,0,0,0] (nav [0,0,0] (nav [0] (bodyAt Try.f20))))
def g20p5:Pt:=nav [0,0] (nav [0,0,0] g20p3)
def g20p6:Pt:=nav [1,0,0,0,0,0,0] g20p5
def g20p8:Pt:=nav [0,0] g20p6
def g20p11:Pt:=nav [2,0] g20p8
def g20p12:Pt:=nav [0,0] (nav [1] g20p8)
def g20p13:Pt:=nav [0,0] g20p11
def qL0 (k:Nat)  (a0:List S33) (ih:Int→Int→Int→Option Int):Int→Int→Int→Option Int :=
 λ(c:Int) (b:Int) (a:Int)=>if (decide (a < (a0.length:Int))) then ((nthL a0 a).bind λu=>(g32 k u).bind λx=>jn (λ(g:Bool×Int×Int×Int)=>jn (λ(I:Int×Int×Int)=>ih I.1 (maxI I.2.1 I.1) (fW .i64 (I.2.2+1))) (λJ=>if g.1 then (J (fW .i64 (g.2.1+1),g.2.2.1,g.2.2.2)) else ((nthL a0 g.2.2.2).bind λz=>(g33 k z).bind λD=>jn (λ(h:Int×Int×Int×Bool)=>if h.2.2.2 then (J (fW .i64 (h.1 - 1),h.2.1,h.2.2.1)) else (J (h.1,h.2.1,h.2.2.1))) (λK=>if D then (K (g.2.1,g.2.2.1,g.2.2.2,decide (0 < g.2.1))) else (K (g.2.1,g.2.2.1,g.2.2.2,false)))))) (λq=>if x then (q (true,c,b,a)) else ((nthL a0 a).bind λE=>if (decide (E.f0=8)) then ((nthL a0 a).bind λj=>if (eqL j.f1 [102,117,110]) then (if (decide (fW .i64 (a+1) < (a0.length:Int))) then ((nthL a0 (fW .i64 (a+1))).bind λn=>if (decide (n.f0=9)) then ((nthL a0 (fW .i64 (a+1))).bind λo=>q (eqL o.f1 [40],c,b,a)) else (q (false,c,b,a))) else (q (false,c,b,a))) else (q (false,c,b,a))) else (q (false,c,b,a))))) else (some b)
def qGa (k:Nat)  (a0:List S33) (n:Nat):Int→Int→Int→Option Int:=lp (λ_ _ _=>none) (qL0 k a0) n
theorem g20_l2_s (k:Nat)  (a0:List S33) (n:Nat) (c:Int) (b:Int) (a:Int):qGa k a0 (n+1) c b a=(if (decide (a < (a0.length:Int))) then ((nthL a0 a).bind λx=>(g32 k x).bind λz=>jn (λ(g:Bool×Int×Int×Int)=>jn (λ(J:Int×Int×Int)=>(qGa k a0 n) J.1 (maxI J.2.1 J.1) (fW .i64 (J.2.2+1))) (λK=>if g.1 then (K (fW .i64 (g.2.1+1),g.2.2.1,g.2.2.2)) else ((nthL a0 g.2.2.2).bind λD=>(g33 k D).bind λE=>jn (λ(h:Int×Int×Int×Bool)=>if h.2.2.2 then (K (fW .i64 (h.1 - 1),h.2.1,h.2.2.1)) else (K (h.1,h.2.1,h.2.2.1))) (λM=>if E then (M (g.2.1,g.2.2.1,g.2.2.2,decide (0 < g.2.1))) else (M (g.2.1,g.2.2.1,g.2.2.2,false)))))) (λu=>if z then (u (true,c,b,a)) else ((nthL a0 a).bind λI=>if (decide (I.f0=8)) then ((nthL a0 a).bind λj=>if (eqL j.f1 [102,117,110]) then (if (decide (fW .i64 (a+1) < (a0.length:Int))) then ((nthL a0 (fW .i64 (a+1))).bind λo=>if (decide (o.f0=9)) then ((nthL a0 (fW .i64 (a+1))).bind λq=>u (eqL q.f1 [40],c,b,a)) else (u (false,c,b,a))) else (u (false,c,b,a))) else (u (false,c,b,a))) else (u (false,c,b,a))))) else (some b)):=rfl
theorem qS1 (k:Nat)   (a0:List S33)  : ∀ (n:Nat) (c:Int) (g:Int) (a:Int),Ok Xg20 g20p3 [(0,w34 a0),(3,.i c),(4,.i g),(5,.i a)] (mkH []) (qGa k a0 n c g a):=by
 intro n
 induction n with
 | zero=>intro c g a; exact ok_none
 | succ n ih =>
  intro c g a
  show Ok _ _ _ _ (qL0 k a0 (qGa k a0 n) c g a)
  unfold qL0
  refine qAi (p':=nav [0] g20p3) Kr ?_
  let E2:Env:=[(9,.bool (decide (a < (a0.length:Int)))),(8,.i (a0.length:Int)),(7,w34 a0),(6,.i a),(0,w34 a0),(3,.i c),(4,.i g),(5,.i a)]
  refine oH 8 g20p5 E2 (mkH []) ?_
  refine oS 9 (λE=>?_) (λE=>?_)
  ·refine oR 10 (atN 2 (ctl1 g20p6)) ((14,.i a)::(13,w34 a0)::(9,.bool true)::E2) ?_
   refine oC (λ(q:S33)=>(.vptr [.i q.f0,.str q.f1,.i q.f2],(mkH []))) (atN 3 (ctl1 g20p6)) 15 (vidxH (sz:=3) qAk Kr) λq a3=>?_
   let E3:Env:=((16,n34 q)::(15,.vptr [.i q.f0,.str q.f1,.i q.f2])::(14,.i a)::(13,w34 a0)::(9,.bool true)::E2)
   refine oH 1 (atN 4 (ctl1 g20p6)) E3 (mkH []) ?_
   refine oA (λ(z:Bool) => .bool z) (atN 5 (ctl1 g20p6)) 17 [n34 q] (g32_ok k q) λz a5=>?_
   refine oR 1 (atN 6 (ctl1 g20p6)) ((18,.bool z)::(17,.bool z)::E3) ?_
   refine oJ g20p8 (λ(u:Bool×Int×Int×Int)=>[(0,w34 a0),(3,.i u.2.1),(4,.i u.2.2.1),(5,.i u.2.2.2),(12,.bool u.1)]) (λ(u:Bool×Int×Int×Int)=>(mkH [])) (λu=>?_) (λj3 J=>?_)
   ·refine oJ g20p12 (λ(K:Int×Int×Int)=>[(0,w34 a0),(3,.i K.1),(4,.i K.2.1),(5,.i K.2.2)]) (λ(K:Int×Int×Int)=>(mkH [])) (λK=>?_) (λj4 M=>?_)
    ·refine oLH 11 g20p3 [(0,w34 a0),(3,.i K.1),(4,.i (maxI K.2.1 K.1)),(5,.i (fW .i64 (K.2.2+1)))] (mkH []) ?_
     exact ih K.1 (maxI K.2.1 K.1) (fW .i64 (K.2.2+1))
    ·refine oS 12 (λE=>?_) (λE=>?_)
     ·refine oLH 6 g20p12 [(0,w34 a0),(3,.i (fW .i64 (u.2.1+1))),(4,.i u.2.2.1),(5,.i u.2.2.2)] (mkH []) ?_
      exact M (fW .i64 (u.2.1+1),u.2.2.1,u.2.2.2)
     ·let E8:Env:=[(63,.i u.2.2.2),(62,w34 a0),(12,.bool false),(0,w34 a0),(3,.i u.2.1),(4,.i u.2.2.1),(5,.i u.2.2.2),(12,.bool u.1)]
      refine oH 5 (atN 2 (ctl1 g20p11)) E8 (mkH []) ?_
      refine oC (λ(j:S33)=>(.vptr [.i j.f0,.str j.f1,.i j.f2],(mkH []))) (atN 3 (ctl1 g20p11)) 64 (vidxH (sz:=3) qAk Kr) λj a7=>?_
      refine oH 1 (atN 4 (ctl1 g20p11)) ((65,n34 j)::(64,.vptr [.i j.f0,.str j.f1,.i j.f2])::E8) (mkH []) ?_
      refine oA (λ(I:Bool) => .bool I) (atN 5 (ctl1 g20p11)) 66 [n34 j] (g33_ok k j) λI a8=>?_
      refine oR 1 (atN 6 (ctl1 g20p11)) ((67,.bool I)::(66,.bool I)::(65,n34 j)::(64,.vptr [.i j.f0,.str j.f1,.i j.f2])::E8) ?_
      refine oJ g20p13 (λ(D:Int×Int×Int×Bool)=>[(0,w34 a0),(3,.i D.1),(4,.i D.2.1),(5,.i D.2.2.1),(61,.bool D.2.2.2)]) (λ(D:Int×Int×Int×Bool)=>(mkH [])) (λD=>?_) (λj5 Q=>?_)
      ·refine oS 61 (λE=>?_) (λE=>?_)
       ·refine oLH 6 g20p12 [(0,w34 a0),(3,.i (fW .i64 (D.1 - 1))),(4,.i D.2.1),(5,.i D.2.2.1)] (mkH []) ?_
        exact M (fW .i64 (D.1 - 1),D.2.1,D.2.2.1)
       ·refine oLH 2 g20p12 [(0,w34 a0),(3,.i D.1),(4,.i D.2.1),(5,.i D.2.2.1)] (mkH []) ?_
        exact M (D.1,D.2.1,D.2.2.1)
      ·refine oS 67 (λE=>?_) (λE=>?_)
       ·refine oLH 5 g20p13 [(0,w34 a0),(3,.i u.2.1),(4,.i u.2.2.1),(5,.i u.2.2.2),(61,.bool (decide (0 < u.2.1)))] (mkH []) ?_
        exact Q (u.2.1,u.2.2.1,u.2.2.2,decide (0 < u.2.1))
       ·refine oLH 5 g20p13 [(0,w34 a0),(3,.i u.2.1),(4,.i u.2.2.1),(5,.i u.2.2.2),(61,.bool false)] (mkH []) ?_
        exact Q (u.2.1,u.2.2.1,u.2.2.2,false)
   ·refine oS 18 (λE=>?_) (λE=>?_)
    ·refine oLH 42 g20p8 [(0,w34 a0),(3,.i c),(4,.i g),(5,.i a),(12,.bool true)] (mkH []) ?_
     exact J (true,c,g,a)
    ·let S:Env:=((20,.i a)::(19,w34 a0)::(18,.bool false)::(18,.bool z)::(17,.bool z)::E3)
     refine oH 2 (atN 8 (ctl1 g20p6)) S (mkH []) ?_
     refine oC (λ(o:S33)=>(.vptr [.i o.f0,.str o.f1,.i o.f2],(mkH []))) (atN 9 (ctl1 g20p6)) 21 (vidxH (sz:=3) qAk Kr) λo a9=>?_
     let N:Env:=((25,.bool (decide (o.f0=8)))::(24,.bool (decide (o.f0=8)))::(23,.i o.f0)::(22,.vptr [.i o.f0,.str o.f1,.i o.f2])::(21,.vptr [.i o.f0,.str o.f1,.i o.f2])::S)
     refine oH 4 (atN 13 (ctl1 g20p6)) N (mkH []) ?_
     refine oS 25 (λE=>?_) (λE=>?_)
     ·refine oR 2 (atN 15 (ctl1 g20p6)) ((27,.i a)::(26,w34 a0)::(25,.bool true)::N) ?_
      refine oC (λ(h:S33)=>(.vptr [.i h.f0,.str h.f1,.i h.f2],(mkH []))) (atN 16 (ctl1 g20p6)) 28 (vidxH (sz:=3) qAk Kr) λh Y=>?_
      let T:Env:=((33,.bool (eqL h.f1 [102,117,110]))::(32,.bool (eqL h.f1 [102,117,110]))::(31,.bool (eqL h.f1 [102,117,110]))::(30,.str h.f1)::(29,.vptr [.str h.f1,.i h.f2])::(28,.vptr [.i h.f0,.str h.f1,.i h.f2])::(27,.i a)::(26,w34 a0)::(25,.bool true)::N)
      refine oH 5 (atN 21 (ctl1 g20p6)) T (mkH []) ?_
      refine oS 33 (λE=>?_) (λE=>?_)
      ·let O:Env:=((40,.bool (decide (fW .i64 (a+1) < (a0.length:Int))))::(39,.bool (decide (fW .i64 (a+1) < (a0.length:Int))))::(38,.bool (decide (fW .i64 (a+1) < (a0.length:Int))))::(37,.i (a0.length:Int))::(36,w34 a0)::(35,.i (fW .i64 (a+1)))::(34,.i a)::(33,.bool true)::T)
       refine oR 7 (atN 28 (ctl1 g20p6)) O ?_
       refine oS 40 (λE=>?_) (λE=>?_)
       ·refine oR 3 (atN 31 (ctl1 g20p6)) ((43,.i (fW .i64 (a+1)))::(42,.i a)::(41,w34 a0)::(40,.bool true)::O) ?_
        refine oC (λ(b:S33)=>(.vptr [.i b.f0,.str b.f1,.i b.f2],(mkH []))) (atN 32 (ctl1 g20p6)) 44 (vidxH (sz:=3) qAk Kr) λb Z=>?_
        let U:Env:=((49,.bool (decide (b.f0=9)))::(48,.bool (decide (b.f0=9)))::(47,.bool (decide (b.f0=9)))::(46,.i b.f0)::(45,.vptr [.i b.f0,.str b.f1,.i b.f2])::(44,.vptr [.i b.f0,.str b.f1,.i b.f2])::(43,.i (fW .i64 (a+1)))::(42,.i a)::(41,w34 a0)::(40,.bool true)::O)
        refine oH 5 (atN 37 (ctl1 g20p6)) U (mkH []) ?_
        refine oS 49 (λE=>?_) (λE=>?_)
        ·refine oR 3 (atN 40 (ctl1 g20p6)) ((52,.i (fW .i64 (a+1)))::(51,.i a)::(50,w34 a0)::(49,.bool true)::U) ?_
         refine oC (λ(x:S33)=>(.vptr [.i x.f0,.str x.f1,.i x.f2],(mkH []))) (atN 41 (ctl1 g20p6)) 53 (vidxH (sz:=3) qAk Kr) λx a1=>?_
         refine oLH 7 g20p8 [(0,w34 a0),(3,.i c),(4,.i g),(5,.i a),(12,.bool (eqL x.f1 [40]))] (mkH []) ?_
         exact J (eqL x.f1 [40],c,g,a)
        ·refine oL 11 g20p8 [(0,w34 a0),(3,.i c),(4,.i g),(5,.i a),(12,.bool false)] ?_
         exact J (false,c,g,a)
       ·refine oL 20 g20p8 [(0,w34 a0),(3,.i c),(4,.i g),(5,.i a),(12,.bool false)] ?_
        exact J (false,c,g,a)
      ·refine oL 27 g20p8 [(0,w34 a0),(3,.i c),(4,.i g),(5,.i a),(12,.bool false)] ?_
       exact J (false,c,g,a)
     ·refine oL 35 g20p8 [(0,w34 a0),(3,.i c),(4,.i g),(5,.i a),(12,.bool false)] ?_
      exact J (false,c,g,a)
  ·exact oQ 8
def g20 (k:Nat) (a0:List S33):Option Int :=
 qGa k a0 k 0 0 0
theorem g20_ok (k:Nat) (a0:List S33) (r:Int) (h:g20 k a0=some r):PureOk Try.prog 20 [w34 a0] (.i r):=by
 refine qA4 Xg20 (λ_=>⟨rfl,rfl⟩) Try.func20 (by decide +kernel) Kr (t:=g20 k a0) ?_ h
 unfold g20
 refine qA (eE:=[(0,w34 a0)]) Kr ?_
 refine oLH 16 g20p3 [(0,w34 a0),(3,.i 0),(4,.i 0),(5,.i 0)] (mkH []) ?_
 exact (qS1 k a0 k) 0 0 0
end
theorem told_k (k:Nat):g16 (k+400)=some true:=by kernel_rfl
theorem qIr {k:Nat} (hk:400≤k):g16 k=some true:=by
 obtain ⟨j,rfl⟩:∃ j,k=j+400:=⟨k - 400,by omega⟩
 exact told_k j
def vwl (s:LN) (l:List (Nat×Nat×Nat)):List Tkn:=l.zipIdx.map λp=>(mkTok s p.1,((gapI s l (p.2:Int):Nat):Int))
theorem qEb (s:LN) (l:List (Nat×Nat×Nat)):(vwl s l).length=l.length:=by simp [vwl]
theorem qK3 {s:LN} {l:List (Nat×Nat×Nat)} {i:Nat} {t:Tkn} (h:(vwl s l)[i]? = some t):∃ x,l[i]? = some x∧t=(mkTok s x,((gapI s l (i:Int):Nat):Int)):=by
 unfold vwl at h
 rw [List.getElem?_map,List.getElem?_zipIdx] at h
 cases e:l[i]? with
 | none=>rw [e] at h; cases h
 | some x =>
  rw [e] at h
  refine ⟨x,rfl,?_⟩
  simp at h
  exact h.symm
theorem tk_at {s:LN} {l:List (Nat×Nat×Nat)} {i:Nat} {t:Tkn} (h:(vwl s l)[i]? = some t):nthL (l.map (mkTok s)) (i:Int)=some t.1:=by
 obtain ⟨x,e,rfl⟩:=qK3 h
 unfold nthL
 rw [if_pos (by omega),Int.toNat_natCast,List.getElem?_map,e]
 rfl
theorem l_len {s:LN} {l:List (Nat×Nat×Nat)} (ht:Toks s 0 l):l.length≤s.length:=qHu s (s.length+1) 0 l ((qF1 s (s.length+1) 0 l (by omega)).2 ht) (Nat.zero_le _)
theorem qP1 {s:LN} {l:List (Nat×Nat×Nat)} (ht:Toks s 0 l) (hl:s.length≤400) {k:Nat} (hk:1000≤k):Vw k s (l.map (mkTok s)) ((l.map (mkTok s)).length:Int) (vwl s l):=by
 have:=l_len ht
 refine ⟨by rw [qEb,List.length_map],λi t h=>⟨tk_at h,?_⟩,?_,by rw [qEb]; omega,by rw [qEb]; omega⟩
 ·obtain ⟨x,e,rfl⟩:=qK3 h
  exact qSc (by omega) (by omega) ht (i:Int)
 ·rw [qSc (by omega) (by omega) ht]
  have:gapI s l ((l.map (mkTok s)).length:Int)=0:=by
   unfold gapI
   rw [if_neg (by rw [List.length_map]; omega)]
  rw [this]; rfl
theorem vwl_good {s:LN} {l:List (Nat×Nat×Nat)} (ht:Toks s 0 l) (hl:s.length≤400):Gud (vwl s l):=by
 intro t h
 obtain ⟨i,hi,e⟩:=List.getElem_of_mem h
 obtain ⟨x,e1,rfl⟩:=qK3 (by rw [List.getElem?_eq_getElem hi,e])
 have hb:=qC9 ht (Nat.zero_le _) x (List.mem_of_getElem? e1)
 have:((s.drop x.2.1).take x.2.2).length=x.2.2:=by rw [List.length_take,List.length_drop]; omega
 show (s.drop x.2.1).take x.2.2 ≠ []∧((s.drop x.2.1).take x.2.2).length < 1000
 refine ⟨λe=>?_,by omega⟩
 rw [e] at this
 have:=hb.2.2
 simp at *
 omega
theorem expr_uni (G:Lg) {W:List Tkn} (hW:W.length≤400) (g:Gud W) (lv:Int):∃ r,(∀ K,1000≤K→(cpar K 4010).c5 lv W=some r)∧∀ x,r=some x→Uk false G [] W x:=by
 obtain ⟨r,e,h⟩:=(al G (K:=1000) (Nat.le_refl _) 4010).c5 lv W hW g (by omega)
 exact ⟨r,λK hK=>(cpar_m 4010 4010 hK (Nat.le_refl _)).c5 lv W r e,h⟩
theorem qS8 {k n:Nat} {s:LN} {L:List S33} {W:List Tkn} {lv:Int} (hv:∀ j,Vw (k+j) s L (L.length:Int) W) (h:(cpar k n).c5 lv W=some none):g14 (k+n) s L 0 (L.length:Int) lv=some (⟨0,[],⟨0,[]⟩,false,false,[],[]⟩,0,8):=by
 obtain ⟨h1,-⟩:=(qA8 hv n).c5 lv W (List.suffix_refl W) _ h
 rw [qPr (hv 0)] at h1
 have h2:i3 (k+n) lv 0 [] ⟨0,[]⟩ false false [] [] s L 0 (L.length:Int)=some none:=by
  unfold i3
  refine (congrArg (λm=>bT m _) h1).trans rfl
 unfold g14
 refine bS (a:=(0,8,[],[],0,[],⟨0,[]⟩,false,false)) ?_ (bS rfl rfl)
 unfold i0
 exact (jS (v:=false) (λj=>iF (by decide) (iF (dF (by omega)) (by rw [dF (by omega)])))).trans (iF rfl (cT_none h2 rfl))
theorem qSs {k : Nat} {L : LL} {s : LN} (hl : L.length < 100) : ∀ n j : Nat, L.length - j < n → j ≤ L.length → ∃ b, qG6 k L s n (j : Int) = some b
 | 0,j,h,hj=>by omega
 | n+1,j,h,hj=>by
  rw [g56_l1_s]
  have:Val (if (decide ((j:Int) < (L.length:Int))) then ((nthL L (j:Int)).bind λx0_2=>if (eqL x0_2 s) then (some true) else ((qG6 k L s n) (fW .i64 ((j:Int)+1)))) else (some false)) λ_=>True:=by
   refine vI (λe=>?_) (λ_=>vS trivial)
   have hj':j < L.length:=by have:=of_decide_eq_true e; omega
   refine vE (nthLi hj') (vI (λ_=>vS trivial) λ_=>?_)
   rw [fw_s (by omega)]
   obtain ⟨b,e⟩:=qSs hl n (j+1) (by omega) (by omega)
   exact ⟨b,e,trivial⟩
  obtain ⟨b,e,-⟩:=this
  exact ⟨b,e⟩
theorem mem_V {k:Nat} {L:LL} (s:LN) (hl:L.length < 50) (hk:60≤k):Val (g56 k L s) λ_=>True:=by
 obtain ⟨b,e⟩:=qSs (k:=k) (s:=s) (by omega:L.length < 100) k 0 (by omega) (by omega)
 exact ⟨b,e,trivial⟩
theorem opens_V {k:Nat} (hk:60≤k) (t:S33):Val (g32 k t) λ_=>True:=by
 unfold g32
 have w:Val ((g56 k g32c3 t.f1).bind λx0_17=>some x0_17) λ_=>True:=vB (mem_V t.f1 (by decide) hk) λb _=>vS trivial
 exact vI (λ_=>vB (mem_V t.f1 (by decide) hk) λb _=>vI (λ_=>vS trivial) λ_=>vI (λ_=>w) λ_=>vS trivial) λ_=>vI (λ_=>w) λ_=>vS trivial
theorem closes_V {k:Nat} (hk:60≤k) (t:S33):Val (g33 k t) λ_=>True:=by
 unfold g33
 exact vI (λ_=>vB (mem_V t.f1 (by decide) hk) λb _=>vI (λ_=>vS trivial) λ_=>vI (λ_=>vS trivial) λ_=>vS trivial) λ_=>vI (λ_=>vS trivial) λ_=>vS trivial
theorem deep_l {k : Nat} (hk : 60 ≤ k) {L : List S33} (hl : L.length < 100000) : ∀ (f i : Nat) (n m : Int), L.length - i < f → i ≤ L.length → Val (qGa k L f n m (i : Int)) λ_ => True
 | 0,i,n,m,h,hi=>by omega
 | f+1,i,n,m,h,hi=>by
  rw [g20_l2_s]
  refine vI (λe=>?_) (λ_=>vS trivial)
  have hi':i < L.length:=by have:=of_decide_eq_true e; omega
  have tl:=nthLi hi'
  refine vE tl (vB (opens_V hk _) λb _=>vJ (J:=λz=>z.2.2.2=(i:Int)) (λz hz=>vJ (J:=λy=>y.2.2=(i:Int)) (λy hy=>?_) λj4 h4=>?_) λj3 h3=>?_)
  ·obtain ⟨y1,y2,y3⟩:=y
   have hy:y3=(i:Int):=hy
   subst hy
   show Val (qGa k L f _ _ (fW .i64 ((i:Int)+1))) _
   rw [fw_s (by omega)]
   exact deep_l hk hl f (i+1) _ _ (by omega) (by omega)
  ·obtain ⟨z1,z2,z3,z4⟩:=z
   have hz:z4=(i:Int):=hz
   subst hz
   refine vI (λ_=>h4 _ rfl) λ_=>vE tl (vB (closes_V hk _) λb _=>vJ (J:=λy=>y.2.2.1=(i:Int)) (λy hy=>vI (λ_=>h4 _ hy) λ_=>h4 _ hy) λj5 h5=>vI (λ_=>h5 _ rfl) λ_=>h5 _ rfl)
  ·refine vI (λ_=>h3 _ rfl) λ_=>vE tl (vI (λ_=>vE tl (vI (λ_=>vI (λe2=>?_) λ_=>h3 _ rfl) λ_=>h3 _ rfl)) λ_=>h3 _ rfl)
   rw [fw_s (by omega)] at e2
   have h1:i+1 < L.length:=by have:=of_decide_eq_true e2; omega
   have t2:=nthLi h1
   rw [fw_s (by omega)]
   exact vE t2 (vI (λ_=>vE t2 (h3 _ rfl)) λ_=>h3 _ rfl)
theorem deep_V {k:Nat} {L:List S33} (hk:1000≤k) (hl:L.length < 900):∃ v,g20 k L=some v:=by
 obtain ⟨v,e,-⟩:=deep_l (k:=k) (by omega) (L:=L) (by omega) k 0 0 0 (by omega) (by omega)
 exact ⟨v,e⟩
end Go.Proofs.Ythpplbkobokghaa.Am
set_option maxRecDepth 100000
set_option linter.unusedVariables false
namespace Go.Proofs.Ythpplbkobokghaa.Am
noncomputable section
open Go
def Xg8:Fx Bool:=⟨Try.prog,cx,Try.f8,λr => .bool r,0,λ_=>H0,cxTi,cxOrd,λ_=>none,false⟩
def g8p2:Pt:=nav [0,0] (nav [0,0,0,0] (nav [0] (bodyAt Try.f8)))
def g8p3:Pt:=nav [1,0] g8p2
def g8p4:Pt:=nav [2,0,0] g8p2
def g8p6:Pt:=nav [0,0,0,0] g8p4
def g8p7:Pt:=nav [0,0] g8p6
def g8p8:Pt:=nav [1,0] g8p7
def g8p9:Pt:=nav [2,0,0] g8p7
def g8p10:Pt:=nav [0,0,0,0] g8p9
def g8p11:Pt:=nav [0,0] g8p10
def g8p12:Pt:=nav [1,0] g8p11
def g8p13:Pt:=nav [2,0,0] g8p11
def g8p14:Pt:=nav [0,0,0] g8p13
def g8p16:Pt:=nav [0,0,0,0] (nav [0,0,0,0] g8p14)
def g8p17:Pt:=nav [0,0,0] g8p16
def g8p18:Pt:=nav [0,0] g8p17
def g8p19:Pt:=nav [1,0,0,0,0] g8p18
def g8p20:Pt:=nav [2,0,0] g8p18
def g8p21:Pt:=nav [0,0] g8p19
def g8p22:Pt:=nav [1,0,0] g8p21
def g8p23:Pt:=nav [2,0] g8p21
def g8d0:DP:=⟨[],[(0,0,0),(0,0,0),(2,0,0),(7,0,0),(15,0,0),(31,0,0),(31,0,0),(127,0,0),(255,0,0),(31,0,0),(31,0,0),(1567,0,0),(3615,0,0),(7711,0,0),(16383,0,0),(32767,0,0)],16,thrown,[],H0⟩
def qKl (k:Nat)  (c:((List S33)×Int)) (o:(S28×Int×Int)) (g:LL) (ih:Int→Int→Option Bool):Int→Int→Option Bool :=
 λ(b:Int) (h:Int)=>jn (λ(a:Bool×Int×Int)=>if a.1 then ((nthL c.1 a.2.1).bind λq=>jn (λ(u:Int×Int)=>ih (fW .i64 (u.2+1)) u.1) (λx=>if (decide (q.f0=11)) then (jn (λ(j:Bool×Int×Int)=>if j.1 then (some false) else (x (fW .i64 (j.2.2+1),j.2.1))) (λz=>if (decide ((g.length:Int)≤a.2.2)) then (z (true,a.2.1,a.2.2)) else ((nthL g a.2.2).bind λD=>(nthL c.1 a.2.1).bind λn=>z (!(eqL D n.f1),a.2.1,a.2.2)))) else (x (a.2.2,a.2.1)))) else ((g16 k).bind λE=>if E then (some (decide (a.2.2=(g.length:Int)))) else (some false))) (λI=>if (decide (b < o.2.1)) then (I (decide (b < (c.1.length:Int)),b,h)) else (I (false,b,h)))
def qEs (k:Nat)  (a:((List S33)×Int)) (b:(S28×Int×Int)) (c:LL) (n:Nat):Int→Int→Option Bool:=lp (λ_ _=>none) (qKl k a b c) n
theorem qN2 (k:Nat)  (c:((List S33)×Int)) (j:(S28×Int×Int)) (g:LL) (n:Nat) (b:Int) (h:Int):qEs k c j g (n+1) b h=(jn (λ(a:Bool×Int×Int)=>if a.1 then ((nthL c.1 a.2.1).bind λu=>jn (λ(x:Int×Int)=>(qEs k c j g n) (fW .i64 (x.2+1)) x.1) (λz=>if (decide (u.f0=11)) then (jn (λ(o:Bool×Int×Int)=>if o.1 then (some false) else (z (fW .i64 (o.2.2+1),o.2.1))) (λD=>if (decide ((g.length:Int)≤a.2.2)) then (D (true,a.2.1,a.2.2)) else ((nthL g a.2.2).bind λE=>(nthL c.1 a.2.1).bind λq=>D (!(eqL E q.f1),a.2.1,a.2.2)))) else (z (a.2.2,a.2.1)))) else ((g16 k).bind λI=>if I then (some (decide (a.2.2=(g.length:Int)))) else (some false))) (λJ=>if (decide (b < j.2.1)) then (J (decide (b < (c.1.length:Int)),b,h)) else (J (false,b,h)))):=rfl
theorem qRe (k:Nat)   (c:((List S33)×Int)) (g:(S28×Int×Int)) (a:LL)  : ∀ (n:Nat) (j:Int) (q:Int),Ok Xg8 g8p16 [(3,w34 c.1),(6,.i g.2.1),(8,w9 a),(9,.i q),(10,.i j)] (mkH []) (qEs k c g a n j q):=by
 intro n
 induction n with
 | zero=>intro j q; exact ok_none
 | succ n ih =>
  intro j q
  show Ok _ _ _ _ (qKl k c g a (qEs k c g a n) j q)
  unfold qKl
  refine qAi (p':=nav [0] g8p16) Kr ?_
  refine oH 7 (atN 4 (ctl1 g8p17)) [(45,.bool (decide (j < g.2.1))),(44,.bool (decide (j < g.2.1))),(43,.i g.2.1),(42,.i j),(3,w34 c.1),(6,.i g.2.1),(8,w9 a),(9,.i q),(10,.i j)] (mkH []) ?_
  refine oJ g8p18 (λ(b:Bool×Int×Int)=>[(3,w34 c.1),(6,.i g.2.1),(8,w9 a),(9,.i b.2.2),(10,.i b.2.1),(50,.bool b.1)]) (λ(b:Bool×Int×Int)=>(mkH [])) (λb=>?_) (λa4 O=>?_)
  ·refine oS 50 (λK=>?_) (λK=>?_)
   ·refine oH 8 (atN 2 (ctl1 g8p19)) [(54,.i b.2.1),(53,w34 c.1),(50,.bool true),(3,w34 c.1),(6,.i g.2.1),(8,w9 a),(9,.i b.2.2),(10,.i b.2.1),(50,.bool b.1)] (mkH []) ?_
    refine oC (λ(u:S33)=>(.vptr [.i u.f0,.str u.f1,.i u.f2],(mkH []))) (atN 3 (ctl1 g8p19)) 55 (vidxH (sz:=3) qAk Kr) λu a2=>?_
    refine oLH 4 g8p21 [(3,w34 c.1),(6,.i g.2.1),(8,w9 a),(9,.i b.2.2),(10,.i b.2.1),(58,.bool (decide (u.f0=11)))] (mkH []) ?_
    let Z:Env:=[(3,w34 c.1),(6,.i g.2.1),(8,w9 a),(9,.i b.2.2),(10,.i b.2.1),(58,.bool (decide (u.f0=11)))]
    refine oJ g8p23 (λ(E:Int×Int)=>[(3,w34 c.1),(6,.i g.2.1),(8,w9 a),(9,.i E.1),(10,.i E.2)]) (λ(E:Int×Int)=>(mkH [])) (λE=>?_) (λa5 Q=>?_)
    ·refine oLH 5 g8p16 [(3,w34 c.1),(6,.i g.2.1),(8,w9 a),(9,.i E.1),(10,.i (fW .i64 (E.2+1)))] (mkH []) ?_
     exact ih (fW .i64 (E.2+1)) E.1
    ·refine oS 58 (λK=>?_) (λK=>?_)
     ·refine oH 3 g8p22 ((58,.bool true)::Z) (mkH []) ?_
      refine oJ (nav [0] g8p22) (λ(D:Bool×Int×Int)=>[(3,w34 c.1),(6,.i g.2.1),(8,w9 a),(9,.i D.2.2),(10,.i D.2.1),(74,.bool D.1)]) (λ(D:Bool×Int×Int)=>(mkH [])) (λD=>?_) (λa6 S=>?_)
      ·refine oS 74 (λK=>?_) (λK=>?_)
       ·exact oQ 6
       ·refine oLH 7 g8p23 [(3,w34 c.1),(6,.i g.2.1),(8,w9 a),(9,.i (fW .i64 (D.2.2+1))),(10,.i D.2.1)] (mkH []) ?_
        exact Q (fW .i64 (D.2.2+1),D.2.1)
      ·refine qGn (λJ=>?_) (λJ=>?_)
       ·let T:Env:=[(63,.bool (decide ((a.length:Int)≤b.2.2))),(62,.bool (decide ((a.length:Int)≤b.2.2))),(61,.i (a.length:Int)),(60,w9 a),(59,.i b.2.2),(58,.bool true),(3,w34 c.1),(6,.i g.2.1),(8,w9 a),(9,.i b.2.2),(10,.i b.2.1),(58,.bool (decide (u.f0=11)))]
        let a0:Env:=[(74,.bool true),(73,.tuple []),(72,.tuple []),(71,.tuple []),(70,.tuple []),(69,.tuple []),(68,.tuple []),(67,.tuple []),(66,.tuple []),(65,.tuple []),(64,.tuple []),(63,.bool true),(62,.bool true),(61,.i (a.length:Int)),(60,w9 a),(59,.i b.2.2),(58,.bool true),(3,w34 c.1),(6,.i g.2.1),(8,w9 a),(9,.i b.2.2),(10,.i b.2.1),(58,.bool (decide (u.f0=11)))]
        refine oD (H':=(mkH [])) (nav [0] g8p22) a0 [] g8d0 (oDr 5 5 T (oDe (λz=>[(63,.bool z),(62,.bool z),(61,.i (a.length:Int)),(60,w9 a),(59,.i b.2.2),(58,.bool true),(3,w34 c.1),(6,.i g.2.1),(8,w9 a),(9,.i b.2.2),(10,.i b.2.1),(58,.bool (decide (u.f0=11)))]) J (oDr 11 16 a0 .nil))) ?_
        refine oK [3,6,8,9,10,74] [(3,w34 c.1),(6,.i g.2.1),(8,w9 a),(9,.i b.2.2),(10,.i b.2.1),(74,.bool true)] ?_
        exact S (true,b.2.1,b.2.2)
       ·refine qA9 (λo U=>?_)
        refine qA9 (λh M=>?_)
        let T:Env:=[(63,.bool (decide ((a.length:Int)≤b.2.2))),(62,.bool (decide ((a.length:Int)≤b.2.2))),(61,.i (a.length:Int)),(60,w9 a),(59,.i b.2.2),(58,.bool true),(3,w34 c.1),(6,.i g.2.1),(8,w9 a),(9,.i b.2.2),(10,.i b.2.1),(58,.bool (decide (u.f0=11)))]
        let N:Env:=[(65,.i b.2.2),(64,w9 a),(63,.bool false),(62,.bool false),(61,.i (a.length:Int)),(60,w9 a),(59,.i b.2.2),(58,.bool true),(3,w34 c.1),(6,.i g.2.1),(8,w9 a),(9,.i b.2.2),(10,.i b.2.1),(58,.bool (decide (u.f0=11)))]
        let Y:Env:=((70,.vptr [.i h.f0,.str h.f1,.i h.f2])::(69,.i b.2.1)::(68,w34 c.1)::(67,.str o)::(66,.vptr [.str o])::N)
        refine oD (H':=(mkH [])) (nav [0] g8p22) ((74,.bool (!(eqL o h.f1)))::(73,.bool (!(eqL o h.f1)))::(72,.str h.f1)::(71,.vptr [.str h.f1,.i h.f2])::Y) [] g8d0 (oDr 5 5 T (oDe (λz=>[(63,.bool z),(62,.bool z),(61,.i (a.length:Int)),(60,w9 a),(59,.i b.2.2),(58,.bool true),(3,w34 c.1),(6,.i g.2.1),(8,w9 a),(9,.i b.2.2),(10,.i b.2.1),(58,.bool (decide (u.f0=11)))]) J (oDr 2 7 N (qAb (l':=(opsAt g8p22).toList.drop 8) (eE:=((66,.vptr [.str o])::N)) (hs:=[]) (x:=o) (λ(o:LN)=>(.vptr [.str o],(mkH []))) (vidxH (sz:=1) qBx Kr) U Kr (oDr 3 11 ((69,.i b.2.1)::(68,w34 c.1)::(67,.str o)::(66,.vptr [.str o])::N) (qAb (l':=(opsAt g8p22).toList.drop 12) (eE:=Y) (hs:=[]) (x:=h) (λ(h:S33)=>(.vptr [.i h.f0,.str h.f1,.i h.f2],(mkH []))) (vidxH (sz:=3) qAk Kr) M Kr (oDr 4 16 ((74,.bool (!(eqL o h.f1)))::(73,.bool (!(eqL o h.f1)))::(72,.str h.f1)::(71,.vptr [.str h.f1,.i h.f2])::Y) .nil))))))) ?_
        refine oK [3,6,8,9,10,74] [(3,w34 c.1),(6,.i g.2.1),(8,w9 a),(9,.i b.2.2),(10,.i b.2.1),(74,.bool (!(eqL o h.f1)))] ?_
        exact S (!(eqL o h.f1),b.2.1,b.2.2)
     ·refine oH 2 g8p23 ((58,.bool false)::Z) (mkH []) ?_
      refine oK [3,6,8,9,10] [(3,w34 c.1),(6,.i g.2.1),(8,w9 a),(9,.i b.2.2),(10,.i b.2.1)] ?_
      exact Q (b.2.2,b.2.1)
   ·let a1:Env:=[(50,.bool false),(3,w34 c.1),(6,.i g.2.1),(8,w9 a),(9,.i b.2.2),(10,.i b.2.1),(50,.bool b.1)]
    refine oH 4 (atN 0 (ctl1 g8p20)) a1 (mkH []) ?_
    refine oA (λ(I:Bool) => .bool I) (atN 1 (ctl1 g8p20)) 77 [] (qNg k ) λI a3=>?_
    refine oR 1 (atN 2 (ctl1 g8p20)) ((78,.bool I)::(77,.bool I)::a1) ?_
    refine oS 78 (λK=>?_) (λK=>?_)
    ·exact oQ 8
    ·exact oQ 8
  ·refine oS 45 (λK=>?_) (λK=>?_)
   ·refine oLH 6 g8p18 [(3,w34 c.1),(6,.i g.2.1),(8,w9 a),(9,.i q),(10,.i j),(50,.bool (decide (j < (c.1.length:Int))))] (mkH []) ?_
    exact O (decide (j < (c.1.length:Int)),j,q)
   ·refine oLH 6 g8p18 [(3,w34 c.1),(6,.i g.2.1),(8,w9 a),(9,.i q),(10,.i j),(50,.bool false)] (mkH []) ?_
    exact O (false,j,q)
def g8 (k:Nat) (a0:LN):Option Bool :=
 if (decide (400 < (a0.length:Int))) then ((g16 k).bind λc=>some c) else ((g13 k a0).bind λa=>jn (λ(q:Bool)=>if q then ((g16 k).bind λg=>some g) else ((g14 k a0 a.1 (0:Int) (a.1.length:Int) (0:Int)).bind λb=>if (!decide (b.2.2=0)) then ((g16 k).bind λh=>some h) else ((g22 k b.1).bind λj=>qEs k a b j k 0 0))) (λn=>if (!decide (a.2=0)) then (n true) else ((g20 k a.1).bind λo=>n (decide (100 < o)))))
theorem g8_ok (k:Nat) (a0:LN) (r:Bool) (h:g8 k a0=some r):PureOk Try.prog 8 [.str a0] (.bool r):=by
 refine qA4 Xg8 (λ_=>⟨rfl,rfl⟩) Try.func8 (by decide +kernel) Kr (t:=g8 k a0) ?_ h
 unfold g8
 refine qA (eE:=[(0,.str a0)]) Kr ?_
 let E:Env:=[(13,.bool (decide (400 < (a0.length:Int)))),(12,.i (a0.length:Int)),(11,.str a0),(2,.bool false),(0,.str a0)]
 refine oH 11 g8p2 E (mkH []) ?_
 refine oS 13 (λx=>?_) (λx=>?_)
 ·refine oR 3 (atN 0 (ctl1 g8p3)) ((13,.bool true)::E) ?_
  refine oA (λ(n:Bool) => .bool n) (atN 1 (ctl1 g8p3)) 14 [] (qNg k ) λn I=>?_
  exact oQ 3
 ·refine oR 5 (atN 1 (ctl1 g8p4)) ((16,.str a0)::(13,.bool false)::E) ?_
  refine oA (λ(a:((List S33)×Int)) => .tuple [w34 a.1,.i a.2]) (atN 2 (ctl1 g8p4)) 17 [.str a0] (g13_ok k a0) λa J=>?_
  let K:Env:=[(0,.str a0),(3,w34 a.1),(4,.i a.2)]
  refine oL 8 g8p6 K ?_
  refine oR 4 (atN 3 (ctl1 g8p6)) ((22,.bool (!decide (a.2=0)))::(21,.bool (!decide (a.2=0)))::(20,.i a.2)::K) ?_
  refine oJ g8p7 (λ(j:Bool)=>[(0,.str a0),(3,w34 a.1),(26,.bool j)]) (λ(j:Bool)=>(mkH [])) (λj=>?_) (λT o=>?_)
  ·refine oS 26 (λx=>?_) (λx=>?_)
   ·refine oH 3 (atN 0 (ctl1 g8p8)) [(26,.bool true),(0,.str a0),(3,w34 a.1),(26,.bool j)] (mkH []) ?_
    refine oA (λ(q:Bool) => .bool q) (atN 1 (ctl1 g8p8)) 27 [] (qNg k ) λq M=>?_
    exact oQ 3
   ·refine oH 8 (atN 4 (ctl1 g8p9)) [(32,.i (a.1.length:Int)),(31,w34 a.1),(30,w34 a.1),(29,.str a0),(26,.bool false),(0,.str a0),(3,w34 a.1),(26,.bool j)] (mkH []) ?_
    refine oA (λ(b:(S28×Int×Int)) => .tuple [n29 b.1,.i b.2.1,.i b.2.2]) (atN 5 (ctl1 g8p9)) 33 [.str a0,w34 a.1,.i 0,.i (a.1.length:Int),.i 0] (qS2 k a0 a.1 (0:Int) (a.1.length:Int) (0:Int)) λb N=>?_
    let D:Env:=[(3,w34 a.1),(5,.ptr 0 7 0),(6,.i b.2.1),(7,.i b.2.2)]
    refine oLH 11 g8p10 D (mkH [⟨e29 b.1,7,false⟩]) ?_
    refine oR 4 g8p11 ((38,.bool (!decide (b.2.2=0)))::(37,.i b.2.2)::D) ?_
    refine oS 38 (λx=>?_) (λx=>?_)
    ·refine oR 3 (atN 0 (ctl1 g8p12)) ((38,.bool true)::(38,.bool (!decide (b.2.2=0)))::(37,.i b.2.2)::D) ?_
     refine oA (λ(u:Bool) => .bool u) (atN 1 (ctl1 g8p12)) 39 [] (qNg k ) λu O=>?_
     exact oQ 3
    ·refine oR 5 (atN 1 (ctl1 g8p13)) ((40,n29 b.1)::(38,.bool false)::(38,.bool (!decide (b.2.2=0)))::(37,.i b.2.2)::D) ?_
     refine oA (λ(c:LL)=>w9 c) (atN 2 (ctl1 g8p13)) 41 [n29 b.1] (g22_ok k b.1) λc Q=>?_
     let z:Env:=[(3,w34 a.1),(6,.i b.2.1),(8,w9 c)]
     refine oL 3 g8p14 z ?_
     refine oR 10 g8p16 ((10,.i 0)::(9,.i 0)::z) ?_
     refine oK [3,6,8,9,10] [(3,w34 a.1),(6,.i b.2.1),(8,w9 c),(9,.i 0),(10,.i 0)] ?_
     refine qAf [] [⟨e29 b.1,7,false⟩] Kr rfl Kr trivial ?_
     exact (qRe k a b c k) 0 0
  ·refine oS 22 (λx=>?_) (λx=>?_)
   ·refine oLH 5 g8p7 [(0,.str a0),(3,w34 a.1),(26,.bool true)] (mkH []) ?_
    exact o true
   ·refine oH 1 (atN 4 (ctl1 g8p6)) ((23,w34 a.1)::(22,.bool false)::(22,.bool (!decide (a.2=0)))::(21,.bool (!decide (a.2=0)))::(20,.i a.2)::K) (mkH []) ?_
    refine oA (λ(g:Int) => .i g) (atN 5 (ctl1 g8p6)) 24 [w34 a.1] (g20_ok k a.1) λg S=>?_
    refine oL 3 g8p7 [(0,.str a0),(3,w34 a.1),(26,.bool (decide (100 < g)))] ?_
    exact o (decide (100 < g))
end
theorem qFm (s:List Tkn):(notesOf s).length≤s.length:=by
 unfold notesOf
 rw [List.length_map]
 exact List.length_filter_le _ _
theorem seg_at {α:Type} {W seg W' done rest:List α} {t:α} (hW:W=seg++W') (hs:seg=done++t::rest):W[done.length]? = some t:=by
 subst hs; subst hW
 simp
theorem qJ9 {k : Nat} {s : LN} {l : List (Nat × Nat × Nat)} {seg W' : List Tkn} {nd : S28} {e0 f0 : Int} (hk : 400 ≤ k) (hW : vwl s l = seg ++ W') (hl : seg.length < 1000) (hk2 : seg.length < k) :
 ∀ (rest done:List Tkn) (n:Nat),seg=done++rest→rest.length < n→Val (qEs k (l.map (mkTok s),e0) (nd,(seg.length:Int),f0) (notesOf seg) n (done.length:Int) ((notesOf done).length:Int)) λb=>b=true
 | rest,done,0,hs,hn=>by omega
 | [],done,n+1,hs,hn=>by
  rw [List.append_nil] at hs
  subst hs
  rw [qN2]
  refine vJ (J:=λz=>z=(false,(seg.length:Int),((notesOf seg).length:Int))) (λz hz=>?_) (λj hj=>vI (λe=>absurd (of_decide_eq_true e) (by show ¬ (seg.length:Int) < (seg.length:Int); omega)) λ_=>hj _ rfl)
  subst hz
  refine vI (λe=>by cases e) λ_=>vE (qIr hk) (vI (λ_=>⟨_,rfl,dT rfl⟩) λe=>by cases e)
 | t::rest,done,n+1,hs,hn=>by
  have hat:=seg_at hW hs
  have tl:=tk_at hat
  have hd:done.length < seg.length:=by rw [hs]; simp
  have hlen:done.length < l.length:=by have:=(List.getElem?_eq_some_iff.1 hat).1; rw [qEb] at this; exact this
  have hld:=qFm done
  rw [qN2]
  refine vJ (J:=λz=>z=(true,(done.length:Int),((notesOf done).length:Int))) (λz hz=>?_) (λj hj=>vI (λe=>hj _ ?_) λe=>absurd (of_decide_eq_false e) (by show ¬ ¬ (done.length:Int) < (seg.length:Int); omega))
  ·subst hz
   refine vI (λ_=>vE tl (vJ (J:=λz=>z=(((notesOf (done++[t])).length:Int),(done.length:Int))) (λz hz=>?_) (λj hj=>vI (λe=>?_) (λe=>?_)))) λe=>by cases e
   ·subst hz
    show Val (qEs k (l.map (mkTok s),e0) (nd,(seg.length:Int),f0) (notesOf seg) n (fW .i64 ((done.length:Int)+1)) ((notesOf (done++[t])).length:Int)) _
    rw [fw_s (by omega),show done.length+1=(done++[t]).length by simp]
    exact qJ9 hk hW hl hk2 rest (done++[t]) n (by rw [hs]; simp) (by simp at hn; omega)
   ·have e:isNote t=true:=e
    have en:notesOf seg=notesOf done++t.1.f1::notesOf rest:=by
     rw [hs,qBb]
     simp [notesOf,e]
    have eg:nthL (notesOf seg) ((notesOf done).length:Int)=some t.1.f1:=by
     unfold nthL
     rw [if_pos (by omega),Int.toNat_natCast,en]
     simp
    refine vJ (J:=λz=>z=(false,(done.length:Int),((notesOf done).length:Int))) (λz hz=>?_) (λj13 hj13=>vI (λe2=>?_) λ_=>vE eg (vE tl (hj13 _ ?_)))
    ·subst hz
     refine vI (λe=>by cases e) λ_=>hj _ ?_
     rw [qBb]
     have:(notesOf [t]).length=1:=by simp [notesOf,e]
     rw [List.length_append,this]
     show (fW .i64 (((notesOf done).length:Int)+1),(done.length:Int))=_
     rw [fw_s (by omega)]
    ·have:=of_decide_eq_true e2
     have h2:(notesOf seg).length=(notesOf done).length+((notesOf rest).length+1):=by rw [en]; simp
     exact absurd this (by show ¬ ((notesOf seg).length:Int)≤((notesOf done).length:Int); omega)
    ·rw [(qCv _ _).2 rfl]; rfl
   ·have e:isNote t=false:=e
    refine hj _ ?_
    rw [qBb]
    simp [notesOf,e]
  ·have:decide ((done.length:Int) < ((l.map (mkTok s)).length:Int))=true:=dT (by rw [List.length_map]; omega)
   rw [this]
theorem qFg (s:LN) (hb:∀ b ∈ s,b < 256) (hs:s.length≤140737488351232):∃ k,g8 k s=some true:=by
 suffices h:∃ k,Val (g8 k s) λb=>b=true by
  obtain ⟨k,b,e,hb⟩:=h
  exact ⟨k,by rw [e,hb]⟩
 by_cases h4:400 < s.length
 ·refine ⟨400,?_⟩
  unfold g8
  exact vI (λ_=>vE (qIr (Nat.le_refl _)) (vS rfl)) λe=>absurd (of_decide_eq_false e) (by omega)
 ·have scan:∀ k,1000≤k→g13 k s=some (scanN s):=λk hk=>rscan_at (by omega) hb (by unfold Sz; omega)
  by_cases h0:(scanN s).2=0
  ·obtain ⟨l,ht,es,-,-⟩:=scan_ok h0
   have hl:=l_len ht
   have hlw:(vwl s l).length≤400:=by rw [qEb]; omega
   obtain ⟨r,hr,hU⟩:=expr_uni LgN hlw (vwl_good ht (by omega)) 0
   have common : ∀ (K : Nat), 1000 ≤ K → ∀ {R : S28 × Int × Int}, g14 (K + 4010) s (l.map (mkTok s)) 0 ((l.map (mkTok s)).length : Int) 0 = some R →
    Val (if (!decide (R.2.2=0)) then ((g16 (K+4010)).bind λx5_0=>some x5_0) else ((g22 (K+4010) R.1).bind λx6_1=>qEs (K+4010) (l.map (mkTok s),0) R x6_1 (K+4010) 0 0)) (λb=>b=true)→Val (g8 (K+4010) s) λb=>b=true:=by
    intro K hK R h14 h
    unfold g8
    refine vI (λe=>absurd (of_decide_eq_true e) (by omega)) λ_=>vE (scan _ (by omega)) ?_
    rw [es]
    refine vJ (J:=λ_=>True) (λz _=>vI (λ_=>vE (qIr (by omega)) (vS rfl)) λ_=>vE h14 h) (λj hj=>vI (λe=>hj _ trivial) λ_=>?_)
    obtain ⟨v,e⟩:=deep_V (k:=K+4010) (L:=l.map (mkTok s)) (by omega) (by rw [List.length_map]; omega)
    exact vE e (hj _ trivial)
   cases r with
   | none =>
    refine ⟨1000+4010,common 1000 (Nat.le_refl _) (qS8 (λj=>qP1 ht (by omega) (by omega)) (hr 1000 (Nat.le_refl _))) ?_⟩
    exact vI (λ_=>vE (qIr (by omega)) ⟨true,rfl,rfl⟩) λe=>by cases e
   | some x =>
    obtain ⟨nd,W'⟩:=x
    obtain ⟨-,hb',l',hn,seg,hW,hrel⟩:=hU _ rfl
    have hsl:seg.length≤400:=by have:=congrArg List.length hW; simp at this; omega
    have hw':(l.map (mkTok s)).length=seg.length+W'.length:=by have:=congrArg List.length hW; rw [qEb,List.length_append] at this; rw [List.length_map]; exact this
    have e1:notesOf seg=l':=hrel
    obtain ⟨k0,hk0⟩:∃ k0,∀ k,k0≤k→g22 k nd=some (notesOf seg):=by
     have hn2:evN nd l':=ndN_ev hn
     obtain ⟨k0,h⟩:=hn2 (by have:=qFm seg; rw [← e1]; omega)
     exact ⟨k0,λk hk=>by rw [e1]; exact h k hk⟩
    refine ⟨(1000+k0)+4010,common (1000+k0) (by omega) (expr_top (λj=>qP1 ht (by omega) (by omega)) (hr (1000+k0) (by omega))) ?_⟩
    refine vI (λe=>by cases e) λ_=>vE (hk0 _ (by omega)) ?_
    have ep:pos ((l.map (mkTok s)).length:Int) W'=(seg.length:Int):=by unfold pos; omega
    rw [ep]
    exact qJ9 (done:=[]) (by omega) hW (by omega) (by omega) seg _ rfl (by omega)
  ·refine ⟨1000,?_⟩
   unfold g8
   refine vI (λe=>absurd (of_decide_eq_true e) (by omega)) λ_=>vE (scan _ (Nat.le_refl _)) ?_
   refine vJ (J:=λz=>z=true) (λz hz=>?_) (λj hj=>vI (λe=>hj _ rfl) λe=>?_)
   ·subst hz
    exact vI (λ_=>vE (qIr (by omega)) (vS rfl)) λe=>by cases e
   ·rw [dF h0] at e; cases e
theorem parseNotes_walk (a0:ByteArray) (W:World) (a:a0.size≤140737488351232):Calls Try.prog 8 #[.string a0] W λe W'=>e = .returned (.bool true)∧RowKit.Below W.heap.size W W':=by
 obtain ⟨k,h⟩:=qFg (a0.data.toList.map (·.toNat)) (bytes_lt a0) (by simpa using a)
 exact law_walk (g8_ok k _ true h) (by simp only [VRs,VR,AV.i,AV.y]; exact ⟨_,_,rfl,⟨a0,rfl,rfl⟩,rfl⟩) W
end Go.Proofs.Ythpplbkobokghaa.Am
namespace Go.Proofs.Ythpplbkobokghaa.parseNotes
open Go.ChangeShapes Go.WideShapes Go.ChangeAt Go.RowKit
open Go.ChangeMaps (open_string shut_string)
set_option linter.unusedVariables false
theorem own:ownKnob Try.prog.godebug=none:=by kernel_rfl
set_option maxRecDepth 100000 in
theorem lifted (os : Os) (started : os.Started) (H : Type) (enc : TypeId × Value → H) :
 ReturnsInHanded {} Try.checked os 8 .any (Rows.parseNotesSpec.pre6 enc Try.prog Try.f8 Rows.parseNotesRow.domain false) (Rows.parseNotesSpec.post enc Try.prog Try.f8 false true false false):=by
 refine returnsInHanded_of_change_sized (C := Try.checked) own started (by kernel_rfl) Try.func8
  (ChangeSpec.witness6 (enc:=enc) (C:=Try.checked) false ⟨#[],#[.string ByteArray.empty],[]⟩ 8 (by kernel_rfl) (by kernel_rfl) (by kernel_rfl) (by kernel_rfl)) ?_
 intro W base args ds gs before hval0 hW hcnd hsz0 _
 have hsz:(DataW.weightsEach Try.prog (Try.f8.params.toList++Rows.parseNotesSpec.plain.varTypes Try.prog) (ds++gs)).all (· ≤ reachBytes)=true:=hsz0
 have hval:∀ (j:Nat) t v,Try.f8.params[j]? = some t→args[j]? = some v→Value.okWide Try.prog W .any base t v:=hval0
 have hW':=hW
 obtain ⟨p,q,hA0,hV,rfl,hfz,hnd⟩:=hW
 have hA:DataW.TrodAll enc Try.prog W 0 (fun _=>true) true Try.f8.params.toList args.toList ds p:=hA0
 rw [Try.params8] at hA hval hsz
 obtain ⟨v0,vs0,d0,ds0,p0,q0,hargs,rfl,rfl,h0,r0⟩:=trodAll_cons hA
 obtain ⟨rfl,rfl,rfl⟩:=trodAll_nil r0
 obtain rfl:args = #[v0]:=by cases args; simp_all
 obtain ⟨rfl,rfl⟩:=trodVars_none hV
 obtain ⟨a0,rfl,rfl,rfl,y0⟩:=open_string Try.underlying9 (hval 0 9 v0 rfl rfl) h0
 have w0:a0.size≤140737488351232:=by
  have z:=sized_string hsz (j:=0) (t:=9) rfl rfl
  rw [Array.length_toList] at z
  exact z
 clear hA0 hval0 hsz0 hsz
 refine (Am.parseNotes_walk a0 W w0).mono fun e W' ⟨he,bel⟩=>?_
 subst he
 exact ⟨_,rfl,_,_,_,[],_,[],hW',trodAll_mk1 (shut_bool Try.underlying4 _),(trodAll_cons_mk (shut_string Try.underlying9 y0) trodAll_mk0),rfl,bel.frame _,fun h=>by cases h⟩
theorem over:Rows.parseNotesRow.holds Try.pinned (OpenSpec.ofChange Rows.parseNotesSpec) :=
 OpenClaim.holds_of_wide 8 Try.f8 rfl rfl rfl rfl rfl rfl rfl ⟨rfl, rfl, rfl, rfl, rfl⟩ rfl rfl rfl rfl rfl (by kernel_rfl) Try.func8 (by kernel_rfl)
  (of_decide_eq_true (by kernel_rfl)) (by unfold Func.isWrapper; first | (rw [if_pos (by decide +kernel)]; kernel_rfl) | (rw [if_neg (by decide +kernel)]; exact ⟨rfl,rfl⟩))
  (fun os started H enc _=>lifted os started H enc)
theorem proved:Rows.ParseNotesSaid:=over
#print axioms proved
end Go.Proofs.Ythpplbkobokghaa.parseNotes
namespace Go.Proofs.Ythpplbkobokghaa
theorem parseNotes_holds:Rows.ParseNotesSaid:=parseNotes.proved
end Go.Proofs.Ythpplbkobokghaa
