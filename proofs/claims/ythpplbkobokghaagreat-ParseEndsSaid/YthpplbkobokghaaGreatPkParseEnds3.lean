/- LawParseEnds, part 3: whatever the input, the law comes out true: our texts, joined by a tool, without what the claim does not name. -/
import Derived.Test.YthpplbkobokghaaGreatPkParseEnds2
set_option maxRecDepth 100000
set_option linter.unusedVariables false
set_option linter.unusedSimpArgs false
set_option maxRecDepth 100000
set_option linter.unusedVariables false
namespace Go.Proofs.YthpplbkobokghaaGreat.Am
noncomputable section
open Go
theorem g41_ok (k:Nat) (a:LN) (r:Bool) (h:g41 k a=some r):PureOk Tryz.prog 41 [.str a] (.bool r):=by
 refine qA5 Xg41 (λ_=>⟨rfl,rfl⟩) Tryz.func41 (by decide +kernel) Kr (t:=g41 k a) ?_ h
 unfold g41
 refine qA1 (eE:=[(0,.str a)]) Kr ?_
 refine oH 7 (atN 1 (ctl1 g41p1)) [(5,.slice 0 24 0 24 1),(2,.bool false),(0,.str a)] (mkH [⟨[.str g41c0,.str [97,110,100],.str g41c1,.str [98,97,110,100],.str g41c2,.str [98,110,111,116],.str [98,111,114],.str [98,115,108],.str [98,115,114],.str [98,120,111,114],.str [99,97,115,101],.str [99,97,116,99,104],.str [100,105,118],.str [101,110,100],.str [102,117,110],.str [105,102],.str [110,111,116],.str [111,102],.str [111,114],.str g41c3,.str g41c4,.str [114,101,109],.str [119,104,101,110],.str [120,111,114]],0,false⟩]) ?_
 refine oZ 5 0 24 1 [.str g41c0,.str [97,110,100],.str g41c1,.str [98,97,110,100],.str g41c2,.str [98,110,111,116],.str [98,111,114],.str [98,115,108],.str [98,115,114],.str [98,120,111,114],.str [99,97,115,101],.str [99,97,116,99,104],.str [100,105,118],.str [101,110,100],.str [102,117,110],.str [105,102],.str [110,111,116],.str [111,102],.str [111,114],.str g41c3,.str g41c4,.str [114,101,109],.str [119,104,101,110],.str [120,111,114]] [0,2] [] trivial ?_
 refine oLH 9 g41p3 [(0,.str a),(3,w9 g41c5),(4,.i 0)] (mkH [⟨[],0,false⟩]) ?_
 refine qA8 [] [⟨[],0,false⟩] Kr rfl Kr trivial ?_
 exact (qO3 k a k) 0
def Xg42:Fx Int:=⟨Tryz.prog,cx,Tryz.f42,λr => .i r,0,λ_=>H0,cxTi,cxOrd,λ_=>none,false⟩
def g42p2:Pt:=nav [0,0,0,0,0] (nav [0,0,0] (nav [0] (bodyAt Tryz.f42)))
def g42p3:Pt:=nav [0,0,0] g42p2
def g42p4:Pt:=nav [0] g42p3
def g42p5:Pt:=nav [1,0,0,0,0] g42p4
def g42p7:Pt:=nav [0,0] g42p5
def g42p10:Pt:=nav [2,0,0] g42p7
def g42p13:Pt:=nav [0,0,0,0] g42p10
def g42p15:Pt:=nav [0,0] g42p13
def g42d0:DP:=⟨[],[(0,0,0),(0,0,0),(2,0,0),(7,0,0),(15,0,0),(31,0,0),(31,0,0),(127,0,0),(31,0,0),(31,0,0),(799,0,0),(2047,0,0),(4095,0,0)],13,thrown,[],H0⟩
def qI6 (k:Nat)  (g:LN) (m:Int) (ih:Int→Option Int):Int→Option Int :=
 λ(a:Int)=>jn (λ(h:Bool×Int)=>if h.1 then ((nthS g h.2).bind λj=>jn (λ(n:Int)=>(g36 k g n).bind λb=>jn (λ(u:Bool)=>if u then (some (0:Int)) else (ih (fW .i64 (n+b.2)))) (λo=>if (decide (b.1 < 32)) then (o true) else (o (decide (b.1=127))))) (λq=>if (decide (j=92)) then (q (fW .i64 (h.2+1))) else (q h.2))) else (if (decide ((g.length:Int)≤h.2)) then (some (0:Int)) else (some (fW .i64 (fW .i64 (h.2+1) - m))))) (λr=>if (decide (a < (g.length:Int))) then ((nthS g a).bind λl=>(nthS g m).bind λc=>r (!decide (l=c),a)) else (r (false,a)))
def qO2 (k:Nat)  (a:LN) (b:Int) (n:Nat):Int→Option Int:=lp (λ_=>none) (qI6 k a b) n
theorem qO1 (k:Nat)   (c:LN) (j:Int)  : ∀ (n:Nat) (a:Int),Ok Xg42 g42p2 [(0,.str c),(1,.i j),(5,.i a)] (mkH []) (qO2 k c j n a):=by
 intro n
 induction n with
 | zero=>intro a; exact ok_none
 | succ n ih =>
  intro a
  show Ok _ _ _ _ (qI6 k c j (qO2 k c j n) a)
  unfold qI6
  refine qAd (p':=nav [0] g42p2) Kr ?_
  refine oH 2 g42p3 [(0,.str c),(1,.i j),(5,.i a)] (mkH []) ?_
  refine oJ g42p4 (λ(l:Bool×Int)=>[(0,.str c),(1,.i j),(5,.i l.2),(22,.bool l.1)]) (λ(l:Bool×Int)=>(mkH [])) (λl=>?_) (λO D=>?_)
  ·refine oS 22 (λr=>?_) (λr=>?_)
   ·let M:Env:=[(24,.i l.2),(23,.str c),(22,.bool true),(0,.str c),(1,.i j),(5,.i l.2),(22,.bool l.1)]
    refine oH 8 (atN 2 (ctl1 g42p5)) M (mkH []) ?_
    refine oC (λ(m:Int)=>(.y m,(mkH []))) (atN 3 (ctl1 g42p5)) 25 (idxH Kr) λm J=>?_
    refine oH 2 g42p7 ((26,.bool (decide (m=92)))::(25,.y m)::M) (mkH []) ?_
    refine oJ g42p10 (λ(o:Int)=>[(0,.str c),(1,.i j),(5,.i o)]) (λ(o:Int)=>(mkH [])) (λo=>?_) (λQ E=>?_)
    ·let N:Env:=[(31,.i o),(30,.str c),(0,.str c),(1,.i j),(5,.i o)]
     refine oH 3 (atN 2 (ctl1 g42p10)) N (mkH []) ?_
     refine oA (λ(b:(Int×Int)) => .tuple [.i b.1,.i b.2]) (atN 3 (ctl1 g42p10)) 32 [.str c,.i o] (qK7 k c o) λb K=>?_
     refine oR 12 (atN 3 (ctl1 g42p13)) ((37,.bool (decide (b.1 < 32)))::(36,.bool (decide (b.1 < 32)))::(35,.i b.1)::(7,.i b.2)::(6,.i b.1)::(34,.i b.2)::(33,.i b.1)::(29,.tuple [.i b.1,.i b.2])::(32,.tuple [.i b.1,.i b.2])::N) ?_
     refine oJ g42p15 (λ(L:Bool)=>[(0,.str c),(1,.i j),(5,.i o),(7,.i b.2),(40,.bool L)]) (λ(L:Bool)=>(mkH [])) (λL=>?_) (λS F=>?_)
     ·refine oS 40 (λr=>?_) (λr=>?_)
      ·exact oQ 6
      ·refine oLH 8 g42p2 [(0,.str c),(1,.i j),(5,.i (fW .i64 (o+b.2)))] (mkH []) ?_
       exact ih (fW .i64 (o+b.2))
     ·refine oS 37 (λr=>?_) (λr=>?_)
      ·refine oLH 4 g42p15 [(0,.str c),(1,.i j),(5,.i o),(7,.i b.2),(40,.bool true)] (mkH []) ?_
       exact F true
      ·refine oLH 4 g42p15 [(0,.str c),(1,.i j),(5,.i o),(7,.i b.2),(40,.bool (decide (b.1=127)))] (mkH []) ?_
       exact F (decide (b.1=127))
    ·refine oS 26 (λr=>?_) (λr=>?_)
     ·refine oLH 7 g42p10 [(0,.str c),(1,.i j),(5,.i (fW .i64 (l.2+1)))] (mkH []) ?_
      exact E (fW .i64 (l.2+1))
     ·refine oLH 3 g42p10 [(0,.str c),(1,.i j),(5,.i l.2)] (mkH []) ?_
      exact E l.2
   ·refine oH 10 (nav [0,0] (nav [2,0,0,0] g42p4)) [(47,.bool (decide ((c.length:Int)≤l.2))),(46,.i (c.length:Int)),(45,.str c),(44,.i l.2),(22,.bool false),(0,.str c),(1,.i j),(5,.i l.2),(22,.bool l.1)] (mkH []) ?_
    refine oS 47 (λr=>?_) (λr=>?_)
    ·exact oQ 6
    ·exact oQ 11
  ·refine qDf (λA=>?_) (λA=>?_)
   ·refine qA7 (λh B=>?_)
    refine qA7 (λg u=>?_)
    let C:Env:=[(14,.bool (decide (a < (c.length:Int)))),(13,.bool (decide (a < (c.length:Int)))),(12,.i (c.length:Int)),(11,.str c),(10,.i a),(0,.str c),(1,.i j),(5,.i a)]
    let q:Env:=[(16,.i a),(15,.str c),(14,.bool true),(13,.bool true),(12,.i (c.length:Int)),(11,.str c),(10,.i a),(0,.str c),(1,.i j),(5,.i a)]
    let G:Env:=((22,.bool (!decide (h=g)))::(21,.bool (!decide (h=g)))::(20,.y g)::(19,.i j)::(18,.str c)::(17,.y h)::q)
    refine oD (H':=(mkH [])) (nav [0] g42p3) G [] g42d0 (oDr 5 5 C (oDe (λz=>[(14,.bool z),(13,.bool z),(12,.i (c.length:Int)),(11,.str c),(10,.i a),(0,.str c),(1,.i j),(5,.i a)]) A (oDr 2 7 q (qAb (l':=(opsAt g42p3).toList.drop 8) (eE:=((17,.y h)::q)) (hs:=[]) (x:=h) (λ(h:Int)=>(.y h,(mkH []))) (idxH Kr) B Kr (oDr 2 10 ((19,.i j)::(18,.str c)::(17,.y h)::q) (qAb (l':=(opsAt g42p3).toList.drop 11) (eE:=((20,.y g)::(19,.i j)::(18,.str c)::(17,.y h)::q)) (hs:=[]) (x:=g) (λ(g:Int)=>(.y g,(mkH []))) (idxH Kr) u Kr (oDr 2 13 G .nil))))))) ?_
    refine oK [0,1,5,22] [(0,.str c),(1,.i j),(5,.i a),(22,.bool (!decide (h=g)))] ?_
    exact D (!decide (h=g),a)
   ·let C:Env:=[(14,.bool (decide (a < (c.length:Int)))),(13,.bool (decide (a < (c.length:Int)))),(12,.i (c.length:Int)),(11,.str c),(10,.i a),(0,.str c),(1,.i j),(5,.i a)]
    let I:Env:=[(22,.bool false),(21,.tuple []),(20,.tuple []),(19,.tuple []),(18,.tuple []),(17,.tuple []),(16,.tuple []),(15,.tuple []),(14,.bool false),(13,.bool false),(12,.i (c.length:Int)),(11,.str c),(10,.i a),(0,.str c),(1,.i j),(5,.i a)]
    refine oD (H':=(mkH [])) (nav [0] g42p3) I [] g42d0 (oDr 5 5 C (oDe (λz=>[(14,.bool z),(13,.bool z),(12,.i (c.length:Int)),(11,.str c),(10,.i a),(0,.str c),(1,.i j),(5,.i a)]) A (oDr 8 13 I .nil))) ?_
    refine oK [0,1,5,22] [(0,.str c),(1,.i j),(5,.i a),(22,.bool false)] ?_
    exact D (false,a)
def g42 (k:Nat) (b:LN) (a:Int):Option Int :=
 qO2 k b a k (fW .i64 (a+1))
theorem g42_ok (k:Nat) (b:LN) (a:Int) (r:Int) (h:g42 k b a=some r):PureOk Tryz.prog 42 [.str b,.i a] (.i r):=by
 refine qA5 Xg42 (λ_=>⟨rfl,rfl⟩) Tryz.func42 (by decide +kernel) Kr (t:=g42 k b a) ?_ h
 unfold g42
 refine qA1 (eE:=[(0,.str b),(1,.i a)]) Kr ?_
 refine oLH 13 g42p2 [(0,.str b),(1,.i a),(5,.i (fW .i64 (a+1)))] (mkH []) ?_
 exact (qO1 k b a k) (fW .i64 (a+1))
def Xg98:Fx (Int×Int):=⟨Tryz.prog,cx,Tryz.f98,λr => .tuple [.i r.1,.i r.2],0,λ_=>H0,cxTi,cxOrd,λ_=>none,false⟩
def g98p2:Pt:=nav [0,0,0,0,0] (nav [0,0,0] (nav [0] (bodyAt Tryz.f98)))
def g98p3:Pt:=nav [0,0,0] g98p2
def g98p4:Pt:=nav [0,0] g98p3
def g98p5:Pt:=nav [1,0,0,0] g98p4
def qHv (k:Nat)  (m:LN) (n:Int) (o:Int) (r:Int) (ih:Int→Int→Option (Int×Int)):Int→Int→Option (Int×Int) :=
 λ(b:Int) (a:Int)=>jn (λ(h:Bool×Int×Int)=>if h.1 then ((nthS m (fW .i64 (n+h.2.2))).bind λj=>(g131 k j o).bind λl=>ih (fW .i64 (fW .i64 (h.2.1 * o)+l)) (fW .i64 (h.2.2+1))) else (some (h.2.1,h.2.2))) (λq=>if (decide (a < r)) then (if (decide (fW .i64 (n+a) < (m.length:Int))) then ((nthS m (fW .i64 (n+a))).bind λc=>(g131 k c o).bind λg=>q (decide (0≤g),b,a)) else (q (false,b,a))) else (q (false,b,a)))
def qNh (k:Nat)  (a:LN) (b:Int) (c:Int) (g:Int) (n:Nat):Int→Int→Option (Int×Int):=lp (λ_ _=>none) (qHv k a b c g) n
theorem qNg (k:Nat)   (l:LN) (h:Int) (c:Int) (r:Int)  : ∀ (n:Nat) (b:Int) (a:Int),Ok Xg98 g98p2 [(0,.str l),(1,.i h),(2,.i c),(3,.i r),(10,.i b),(11,.i a)] (mkH []) (qNh k l h c r n b a):=by
 intro n
 induction n with
 | zero=>intro b a; exact ok_none
 | succ n ih =>
  intro b a
  show Ok _ _ _ _ (qHv k l h c r (qNh k l h c r n) b a)
  unfold qHv
  refine qAd (p':=nav [0] g98p2) Kr ?_
  let D:Env:=[(15,.bool (decide (a < r))),(14,.bool (decide (a < r))),(13,.i r),(12,.i a),(0,.str l),(1,.i h),(2,.i c),(3,.i r),(10,.i b),(11,.i a)]
  refine oH 7 (atN 4 (ctl1 g98p3)) D (mkH []) ?_
  refine oJ g98p4 (λ(j:Bool×Int×Int)=>[(0,.str l),(1,.i h),(2,.i c),(3,.i r),(10,.i j.2.1),(11,.i j.2.2),(32,.bool j.1)]) (λ(j:Bool×Int×Int)=>(mkH [])) (λj=>?_) (λJ u=>?_)
  ·refine oS 32 (λx=>?_) (λx=>?_)
   ·let E:Env:=[(39,.i (fW .i64 (h+j.2.2))),(38,.i j.2.2),(37,.i h),(36,.str l),(35,.i (fW .i64 (j.2.1 * c))),(34,.i c),(33,.i j.2.1),(32,.bool true),(0,.str l),(1,.i h),(2,.i c),(3,.i r),(10,.i j.2.1),(11,.i j.2.2),(32,.bool j.1)]
    refine oH 12 (atN 7 (ctl1 g98p5)) E (mkH []) ?_
    refine oC (λ(o:Int)=>(.y o,(mkH []))) (atN 8 (ctl1 g98p5)) 40 (idxH Kr) λo B=>?_
    refine oH 1 (atN 9 (ctl1 g98p5)) ((41,.i c)::(40,.y o)::E) (mkH []) ?_
    refine oA (λ(q:Int) => .i q) (atN 10 (ctl1 g98p5)) 42 [.y o,.i c] (qFk k o c) λq C=>?_
    let F:Env:=[(0,.str l),(1,.i h),(2,.i c),(3,.i r),(10,.i (fW .i64 (fW .i64 (j.2.1 * c)+q))),(11,.i j.2.2)]
    refine oL 3 (nav [0,0] g98p5) F ?_
    refine oR 5 g98p2 ((11,.i (fW .i64 (j.2.2+1)))::(45,.i (fW .i64 (j.2.2+1)))::(44,.i j.2.2)::F) ?_
    refine oK [0,1,2,3,10,11] [(0,.str l),(1,.i h),(2,.i c),(3,.i r),(10,.i (fW .i64 (fW .i64 (j.2.1 * c)+q))),(11,.i (fW .i64 (j.2.2+1)))] ?_
    exact ih (fW .i64 (fW .i64 (j.2.1 * c)+q)) (fW .i64 (j.2.2+1))
   ·exact oQ 10
  ·refine oS 15 (λx=>?_) (λx=>?_)
   ·let G:Env:=((23,.bool (decide (fW .i64 (h+a) < (l.length:Int))))::(22,.bool (decide (fW .i64 (h+a) < (l.length:Int))))::(21,.bool (decide (fW .i64 (h+a) < (l.length:Int))))::(20,.i (l.length:Int))::(19,.str l)::(18,.i (fW .i64 (h+a)))::(17,.i a)::(16,.i h)::(15,.bool true)::D)
    refine oH 8 (atN 12 (ctl1 g98p3)) G (mkH []) ?_
    refine oS 23 (λx=>?_) (λx=>?_)
    ·let I:Env:=((27,.i (fW .i64 (h+a)))::(26,.i a)::(25,.i h)::(24,.str l)::(23,.bool true)::G)
     refine oR 4 (atN 16 (ctl1 g98p3)) I ?_
     refine oC (λ(g:Int)=>(.y g,(mkH []))) (atN 17 (ctl1 g98p3)) 28 (idxH Kr) λg z=>?_
     refine oH 1 (atN 18 (ctl1 g98p3)) ((29,.i c)::(28,.y g)::I) (mkH []) ?_
     refine oA (λ(m:Int) => .i m) (atN 19 (ctl1 g98p3)) 30 [.y g,.i c] (qFk k g c) λm A=>?_
     refine oL 3 g98p4 [(0,.str l),(1,.i h),(2,.i c),(3,.i r),(10,.i b),(11,.i a),(32,.bool (decide (0≤m)))] ?_
     exact u (decide (0≤m),b,a)
    ·refine oL 10 g98p4 [(0,.str l),(1,.i h),(2,.i c),(3,.i r),(10,.i b),(11,.i a),(32,.bool false)] ?_
     exact u (false,b,a)
   ·refine oLH 18 g98p4 [(0,.str l),(1,.i h),(2,.i c),(3,.i r),(10,.i b),(11,.i a),(32,.bool false)] (mkH []) ?_
    exact u (false,b,a)
def g98 (k:Nat) (a:LN) (b:Int) (c:Int) (g:Int):Option (Int×Int) :=
 qNh k a b c g k 0 0
theorem qNf (k:Nat) (a:LN) (b:Int) (c:Int) (g:Int) (r:(Int×Int)) (h:g98 k a b c g=some r):PureOk Tryz.prog 98 [.str a,.i b,.i c,.i g] (.tuple [.i r.1,.i r.2]):=by
 refine qA5 Xg98 (λ_=>⟨rfl,rfl⟩) Tryz.func98 (by decide +kernel) Kr (t:=g98 k a b c g) ?_ h
 unfold g98
 refine qA1 (eE:=[(0,.str a),(1,.i b),(2,.i c),(3,.i g)]) Kr ?_
 refine oLH 13 g98p2 [(0,.str a),(1,.i b),(2,.i c),(3,.i g),(10,.i 0),(11,.i 0)] (mkH []) ?_
 exact (qNg k a b c g k) 0 0
def Xg77:Fx (Int×Int):=⟨Tryz.prog,cx,Tryz.f77,λr => .tuple [.i r.1,.i r.2],0,λ_=>H0,cxTi,cxOrd,λ_=>none,false⟩
def g77c0:List Int:=[(8:Int),(127:Int),(27:Int),(12:Int),(10:Int),(13:Int),(32:Int),(9:Int),(11:Int)]
def g77c1:LN:=[98,100,101,102,110,114,115,116,118]
def g77p1:Pt:=nav [0,0,0,0] (nav [0] (bodyAt Tryz.f77))
def g77p2:Pt:=nav [0,0] g77p1
def g77p4:Pt:=nav [2,0,0] g77p2
def g77p6:Pt:=nav [0,0,0] g77p4
def g77p8:Pt:=nav [0,0,0,0] (nav [0,0,0,0] g77p6)
def g77p10:Pt:=nav [0,0] (nav [0,0,0] g77p8)
def g77p11:Pt:=nav [1,0,0,0,0] g77p10
def g77p12:Pt:=nav [2,0,0,0,0] g77p10
def g77p13:Pt:=nav [0,0] g77p11
def g77p14:Pt:=nav [0,0] g77p12
def g77p15:Pt:=nav [1,0] g77p13
def g77p17:Pt:=nav [1,0] g77p14
def g77p18:Pt:=nav [2,0] g77p14
def g77p20:Pt:=nav [0,0] g77p18
def g77p21:Pt:=nav [1,0] g77p20
def g77p23:Pt:=nav [0,0,0,0] g77p21
def g77p24:Pt:=nav [0,0] (nav [2,0] g77p20)
def g77p25:Pt:=nav [0,0] g77p23
def g77p26:Pt:=nav [1,0] g77p24
def g77p30:Pt:=nav [0,0,0,0] g77p26
def g77p31:Pt:=nav [0,0] (nav [2,0] g77p24)
def g77p33:Pt:=nav [1,0,0] g77p31
def g77p34:Pt:=nav [2,0,0] g77p31
def g77p37:Pt:=nav [0,0] g77p33
def g77p38:Pt:=nav [0,0,0,0] g77p34
def g77p40:Pt:=nav [2,0,0] g77p37
def qFh (k:Nat)  (g:LN) (h:Int) (a:Int) (ih:Int→Option (Int×Int)):Int→Option (Int×Int) :=
 λ(c:Int)=>if (decide (c < 9)) then ((nthS g77c1 c).bind λD=>if (decide (D=a)) then ((nthL g77c0 c).bind λE=>some (E,(2:Int))) else (ih (fW .i64 (c+1)))) else (jn (λ(I:Bool)=>if I then ((g98 k g (fW .i64 (h+1)) (8:Int) (3:Int)).bind λq=>some (q.1,fW .i64 (1+q.2))) else (jn (λ(J:Bool)=>if J then ((g98 k g (fW .i64 (h+3)) (16:Int) (6:Int)).bind λb=>jn (λ(K:Bool)=>if K then (some (((-1):Int),(0:Int))) else (some (b.1,fW .i64 (4+b.2)))) (λo=>if (decide (b.2=0)) then (o true) else (if (decide ((g.length:Int)≤fW .i64 (fW .i64 (h+3)+b.2))) then (o true) else ((nthS g (fW .i64 (fW .i64 (h+3)+b.2))).bind λu=>if (!decide (u=125)) then (o true) else ((g72 k b.1).bind λx=>o (!x)))))) else (if (decide (a=120)) then ((g98 k g (fW .i64 (h+2)) (16:Int) (2:Int)).bind λr=>if (decide (r.2 < 2)) then (some (((-1):Int),(0:Int))) else (some (r.1,(4:Int)))) else (if (decide (a=94)) then (jn (λ(L:Bool)=>if L then (some (((-1):Int),(0:Int))) else ((nthS g (fW .i64 (h+2))).bind λz=>some (andI .i64 (fW .i64 z) 31,(3:Int)))) (λn=>if (decide ((g.length:Int)≤fW .i64 (h+2))) then (n true) else ((nthS g (fW .i64 (h+2))).bind λF=>if (decide (64≤F)) then ((nthS g (fW .i64 (h+2))).bind λA=>if (decide (A≤95)) then (n false) else ((nthS g (fW .i64 (h+2))).bind λj=>if (decide (97≤j)) then ((nthS g (fW .i64 (h+2))).bind λl=>n (!(decide (l≤122)))) else (n true))) else ((nthS g (fW .i64 (h+2))).bind λj=>if (decide (97≤j)) then ((nthS g (fW .i64 (h+2))).bind λl=>n (!(decide (l≤122)))) else (n true))))) else ((g36 k g (fW .i64 (h+1))).bind λm=>if (decide (m.1 < 32)) then (some (((-1):Int),(0:Int))) else (some (m.1,fW .i64 (1+m.2))))))) (λB=>if (decide (a=120)) then (if (decide (fW .i64 (h+2) < (g.length:Int))) then ((nthS g (fW .i64 (h+2))).bind λC=>B (decide (C=123))) else (B false)) else (B false)))) (λG=>if (decide (48≤a)) then (G (decide (a≤55))) else (G false)))
def qHy (k:Nat)  (b:LN) (c:Int) (a:Int) (n:Nat):Int→Option (Int×Int):=lp (λ_=>none) (qFh k b c a) n
theorem qKy (k:Nat)   (g:LN) (c:Int) (a:Int)  : ∀ (n:Nat) (j:Int),Ok Xg77 g77p8 [(0,.str g),(1,.i c),(6,.y a),(7,.str g77c1),(8,w3 g77c0),(9,.i j)] (mkH []) (qHy k g c a n j):=by
 intro n
 induction n with
 | zero=>intro j; exact ok_none
 | succ n ih =>
  intro j
  show Ok _ _ _ _ (qFh k g c a (qHy k g c a n) j)
  unfold qFh
  refine qAd (p':=nav [0] g77p8) Kr ?_
  let E5:Env:=[(41,.bool (decide (j < 9))),(40,.i 9),(39,.str g77c1),(38,.i j),(0,.str g),(1,.i c),(6,.y a),(7,.str g77c1),(8,w3 g77c0),(9,.i j)]
  refine oH 8 g77p10 E5 (mkH []) ?_
  refine oS 41 (λm=>?_) (λm=>?_)
  ·refine oR 8 (atN 2 (ctl1 g77p11)) ((45,.i j)::(44,.str g77c1)::(41,.bool true)::E5) ?_
   refine oC (λ(E:Int)=>(.y E,(mkH []))) (atN 3 (ctl1 g77p11)) 46 (idxH Kr) λE b6=>?_
   let E7:Env:=[(0,.str g),(1,.i c),(6,.y a),(7,.str g77c1),(8,w3 g77c0),(9,.i j),(48,.bool (decide (E=a)))]
   refine oLH 3 g77p13 E7 (mkH []) ?_
   refine oS 48 (λm=>?_) (λm=>?_)
   ·refine oR 5 (atN 2 (ctl1 g77p15)) ((50,.i j)::(49,w3 g77c0)::(48,.bool true)::E7) ?_
    refine oC (λ(O:Int)=>(.vptr [.i O],(mkH []))) (atN 3 (ctl1 g77p15)) 51 (vidxH (sz:=1) qOt Kr) λO b7=>?_
    exact oQ 5
   ·refine oL 7 g77p8 [(0,.str g),(1,.i c),(6,.y a),(7,.str g77c1),(8,w3 g77c0),(9,.i (fW .i64 (j+1)))] ?_
    exact ih (fW .i64 (j+1))
  ·refine oR 9 (atN 3 (ctl1 g77p12)) ((56,.bool (decide (48≤a)))::(55,.bool (decide (48≤a)))::(54,.y a)::(41,.bool false)::E5) ?_
   refine oJ g77p14 (λ(F:Bool)=>[(0,.str g),(1,.i c),(6,.y a),(53,.bool F)]) (λ(F:Bool)=>(mkH [])) (λF=>?_) (λc3 Q=>?_)
   ·refine oS 53 (λm=>?_) (λm=>?_)
    ·refine oH 6 (atN 3 (ctl1 g77p17)) [(63,.i (fW .i64 (c+1))),(62,.i c),(61,.str g),(53,.bool true),(0,.str g),(1,.i c),(6,.y a),(53,.bool F)] (mkH []) ?_
     refine oA (λ(B:(Int×Int)) => .tuple [.i B.1,.i B.2]) (atN 4 (ctl1 g77p17)) 64 [.str g,.i (fW .i64 (c+1)),.i 8,.i 3] (qNf k g (fW .i64 (c+1)) (8:Int) (3:Int)) λB b8=>?_
     refine oL 7 (nav [0,0,0] g77p17) [(10,.i B.1),(11,.i B.2)] ?_
     exact oQ 8
    ·let Z:Env:=[(73,.bool (decide (a=120))),(72,.bool (decide (a=120))),(71,.y a),(53,.bool false),(0,.str g),(1,.i c),(6,.y a),(53,.bool F)]
     refine oH 6 (atN 3 (ctl1 g77p18)) Z (mkH []) ?_
     refine oJ g77p20 (λ(G:Bool)=>[(0,.str g),(1,.i c),(6,.y a),(70,.bool G)]) (λ(G:Bool)=>(mkH [])) (λG=>?_) (λc4 I=>?_)
     ·refine oS 70 (λm=>?_) (λm=>?_)
      ·refine oH 6 (atN 3 (ctl1 g77p21)) [(90,.i (fW .i64 (c+3))),(89,.i c),(88,.str g),(70,.bool true),(0,.str g),(1,.i c),(6,.y a),(70,.bool G)] (mkH []) ?_
       refine oA (λ(b:(Int×Int)) => .tuple [.i b.1,.i b.2]) (atN 4 (ctl1 g77p21)) 91 [.str g,.i (fW .i64 (c+3)),.i 16,.i 6] (qNf k g (fW .i64 (c+3)) (16:Int) (6:Int)) λb b9=>?_
       let S:Env:=[(0,.str g),(1,.i c),(12,.i b.1),(13,.i b.2)]
       refine oL 8 g77p23 S ?_
       refine oR 4 (atN 3 (ctl1 g77p23)) ((96,.bool (decide (b.2=0)))::(95,.bool (decide (b.2=0)))::(94,.i b.2)::S) ?_
       refine oJ g77p25 (λ(T:Bool)=>[(12,.i b.1),(13,.i b.2),(118,.bool T)]) (λ(T:Bool)=>(mkH [])) (λT=>?_) (λc5 D=>?_)
       ·refine oS 118 (λm=>?_) (λm=>?_)
        ·exact oQ 7
        ·exact oQ 11
       ·refine oS 96 (λm=>?_) (λm=>?_)
        ·refine oLH 23 g77p25 [(12,.i b.1),(13,.i b.2),(118,.bool true)] (mkH []) ?_
         exact D true
        ·let a2:Env:=((105,.bool (decide ((g.length:Int)≤fW .i64 (fW .i64 (c+3)+b.2))))::(104,.bool (decide ((g.length:Int)≤fW .i64 (fW .i64 (c+3)+b.2))))::(103,.bool (decide ((g.length:Int)≤fW .i64 (fW .i64 (c+3)+b.2))))::(102,.i (g.length:Int))::(101,.str g)::(100,.i (fW .i64 (fW .i64 (c+3)+b.2)))::(99,.i b.2)::(98,.i (fW .i64 (c+3)))::(97,.i c)::(96,.bool false)::(96,.bool (decide (b.2=0)))::(95,.bool (decide (b.2=0)))::(94,.i b.2)::S)
         refine oH 9 (atN 12 (ctl1 g77p23)) a2 (mkH []) ?_
         refine oS 105 (λm=>?_) (λm=>?_)
         ·refine oL 14 g77p25 [(12,.i b.1),(13,.i b.2),(118,.bool true)] ?_
          exact D true
         ·let U:Env:=((110,.i (fW .i64 (fW .i64 (c+3)+b.2)))::(109,.i b.2)::(108,.i (fW .i64 (c+3)))::(107,.i c)::(106,.str g)::(105,.bool false)::a2)
          refine oR 5 (atN 17 (ctl1 g77p23)) U ?_
          refine oC (λ(l:Int)=>(.y l,(mkH []))) (atN 18 (ctl1 g77p23)) 111 (idxH Kr) λl a9=>?_
          refine oH 3 (atN 21 (ctl1 g77p23)) ((114,.bool (!decide (l=125)))::(113,.bool (!decide (l=125)))::(112,.bool (!decide (l=125)))::(111,.y l)::U) (mkH []) ?_
          refine oS 114 (λm=>?_) (λm=>?_)
          ·refine oL 5 g77p25 [(12,.i b.1),(13,.i b.2),(118,.bool true)] ?_
           exact D true
          ·refine oR 1 (atN 22 (ctl1 g77p23)) ((115,.i b.1)::(114,.bool false)::(114,.bool (!decide (l=125)))::(113,.bool (!decide (l=125)))::(112,.bool (!decide (l=125)))::(111,.y l)::U) ?_
           refine oA (λ(z:Bool) => .bool z) (atN 23 (ctl1 g77p23)) 116 [.i b.1] (g72_ok k b.1) λz b0=>?_
           refine oL 3 g77p25 [(12,.i b.1),(13,.i b.2),(118,.bool (!z))] ?_
           exact D (!z)
      ·let a3:Env:=[(122,.bool (decide (a=120))),(124,.bool (decide (a=120))),(123,.y a),(70,.bool false),(0,.str g),(1,.i c),(6,.y a),(70,.bool G)]
       refine oH 7 g77p24 a3 (mkH []) ?_
       refine oS 122 (λm=>?_) (λm=>?_)
       ·refine oR 6 (atN 3 (ctl1 g77p26)) ((128,.i (fW .i64 (c+2)))::(127,.i c)::(126,.str g)::(122,.bool true)::a3) ?_
        refine oA (λ(u:(Int×Int)) => .tuple [.i u.1,.i u.2]) (atN 4 (ctl1 g77p26)) 129 [.str g,.i (fW .i64 (c+2)),.i 16,.i 2] (qNf k g (fW .i64 (c+2)) (16:Int) (2:Int)) λu c0=>?_
        let a4:Env:=[(14,.i u.1),(15,.i u.2)]
        refine oL 8 g77p30 a4 ?_
        refine oR 4 (nav [0,0] g77p30) ((133,.bool (decide (u.2 < 2)))::(132,.i u.2)::a4) ?_
        refine oS 133 (λm=>?_) (λm=>?_)
        ·exact oQ 7
        ·exact oQ 9
       ·refine oL 7 g77p31 [(0,.str g),(1,.i c),(135,.bool (decide (a=94)))] ?_
        let a5:Env:=[(0,.str g),(1,.i c),(135,.bool (decide (a=94)))]
        refine oS 135 (λm=>?_) (λm=>?_)
        ·let V:Env:=((143,.bool (decide ((g.length:Int)≤fW .i64 (c+2))))::(142,.bool (decide ((g.length:Int)≤fW .i64 (c+2))))::(141,.i (g.length:Int))::(140,.str g)::(139,.i (fW .i64 (c+2)))::(138,.i c)::(135,.bool true)::a5)
         refine oR 10 (atN 6 (ctl1 g77p33)) V ?_
         refine oJ g77p37 (λ(K:Bool)=>[(0,.str g),(1,.i c),(171,.bool K)]) (λ(K:Bool)=>(mkH [])) (λK=>?_) (λc6 x=>?_)
         ·refine oS 171 (λm=>?_) (λm=>?_)
          ·exact oQ 7
          ·refine oH 7 (atN 3 (ctl1 g77p40)) [(174,.i (fW .i64 (c+2))),(173,.i c),(172,.str g),(171,.bool false),(0,.str g),(1,.i c),(171,.bool K)] (mkH []) ?_
           refine oC (λ(J:Int)=>(.y J,(mkH []))) (atN 4 (ctl1 g77p40)) 175 (idxH Kr) λJ b1=>?_
           exact oQ 6
         ·refine oS 143 (λm=>?_) (λm=>?_)
          ·refine oLH 29 g77p37 [(0,.str g),(1,.i c),(171,.bool true)] (mkH []) ?_
           exact x true
          ·refine oH 3 (atN 9 (ctl1 g77p33)) ((146,.i (fW .i64 (c+2)))::(145,.i c)::(144,.str g)::(143,.bool false)::V) (mkH []) ?_
           refine oC (λ(C:Int)=>(.y C,(mkH []))) (atN 10 (ctl1 g77p33)) 147 (idxH Kr) λC c1=>?_
           let L:Env:=((149,.bool (decide (64≤C)))::(148,.bool (decide (64≤C)))::(147,.y C)::(146,.i (fW .i64 (c+2)))::(145,.i c)::(144,.str g)::(143,.bool false)::V)
           refine oH 2 (atN 12 (ctl1 g77p33)) L (mkH []) ?_
           refine oS 149 (λm=>?_) (λm=>?_)
           ·refine oR 3 (atN 15 (ctl1 g77p33)) ((152,.i (fW .i64 (c+2)))::(151,.i c)::(150,.str g)::(149,.bool true)::L) ?_
            refine oC (λ(r:Int)=>(.y r,(mkH []))) (atN 16 (ctl1 g77p33)) 153 (idxH Kr) λr b2=>?_
            let W:Env:=((156,.bool (decide (r≤95)))::(155,.bool (decide (r≤95)))::(154,.bool (decide (r≤95)))::(153,.y r)::(152,.i (fW .i64 (c+2)))::(151,.i c)::(150,.str g)::(149,.bool true)::L)
            refine oH 3 (atN 19 (ctl1 g77p33)) W (mkH []) ?_
            refine oS 156 (λm=>?_) (λm=>?_)
            ·refine oL 16 g77p37 [(0,.str g),(1,.i c),(171,.bool false)] ?_
             exact x false
            ·refine oR 3 (atN 22 (ctl1 g77p33)) ((159,.i (fW .i64 (c+2)))::(158,.i c)::(157,.str g)::(156,.bool false)::W) ?_
             refine oC (λ(h:Int)=>(.y h,(mkH []))) (atN 23 (ctl1 g77p33)) 160 (idxH Kr) λh M=>?_
             let a6:Env:=((162,.bool (decide (97≤h)))::(161,.bool (decide (97≤h)))::(160,.y h)::(159,.i (fW .i64 (c+2)))::(158,.i c)::(157,.str g)::(156,.bool false)::W)
             refine oH 2 (atN 25 (ctl1 g77p33)) a6 (mkH []) ?_
             refine oS 162 (λm=>?_) (λm=>?_)
             ·refine oR 3 (atN 28 (ctl1 g77p33)) ((165,.i (fW .i64 (c+2)))::(164,.i c)::(163,.str g)::(162,.bool true)::a6) ?_
              refine oC (λ(o:Int)=>(.y o,(mkH []))) (atN 29 (ctl1 g77p33)) 166 (idxH Kr) λo N=>?_
              refine oLH 6 g77p37 [(0,.str g),(1,.i c),(171,.bool (!(decide (o≤122))))] (mkH []) ?_
              exact x (!(decide (o≤122)))
             ·refine oL 10 g77p37 [(0,.str g),(1,.i c),(171,.bool true)] ?_
              exact x true
           ·let Y:Env:=((159,.i (fW .i64 (c+2)))::(158,.i c)::(157,.str g)::(156,.bool false)::(155,.bool false)::(154,.tuple [])::(153,.tuple [])::(152,.tuple [])::(151,.tuple [])::(150,.tuple [])::(149,.bool false)::L)
            refine oR 10 (atN 22 (ctl1 g77p33)) Y ?_
            refine oC (λ(h:Int)=>(.y h,(mkH []))) (atN 23 (ctl1 g77p33)) 160 (idxH Kr) λh M=>?_
            refine oH 2 (atN 25 (ctl1 g77p33)) ((162,.bool (decide (97≤h)))::(161,.bool (decide (97≤h)))::(160,.y h)::Y) (mkH []) ?_
            refine oS 162 (λm=>?_) (λm=>?_)
            ·refine oR 3 (atN 28 (ctl1 g77p33)) ((165,.i (fW .i64 (c+2)))::(164,.i c)::(163,.str g)::(162,.bool true)::(162,.bool (decide (97≤h)))::(161,.bool (decide (97≤h)))::(160,.y h)::Y) ?_
             refine oC (λ(o:Int)=>(.y o,(mkH []))) (atN 29 (ctl1 g77p33)) 166 (idxH Kr) λo N=>?_
             refine oLH 6 g77p37 [(0,.str g),(1,.i c),(171,.bool (!(decide (o≤122))))] (mkH []) ?_
             exact x (!(decide (o≤122)))
            ·refine oL 10 g77p37 [(0,.str g),(1,.i c),(171,.bool true)] ?_
             exact x true
        ·refine oR 7 (atN 3 (ctl1 g77p34)) ((181,.i (fW .i64 (c+1)))::(180,.i c)::(179,.str g)::(135,.bool false)::a5) ?_
         refine oA (λ(q:(Int×Int)) => .tuple [.i q.1,.i q.2]) (atN 4 (ctl1 g77p34)) 182 [.str g,.i (fW .i64 (c+1))] (qK7 k g (fW .i64 (c+1))) λq b3=>?_
         let a7:Env:=[(16,.i q.1),(17,.i q.2)]
         refine oL 8 g77p38 a7 ?_
         refine oR 4 (nav [0,0] g77p38) ((186,.bool (decide (q.1 < 32)))::(185,.i q.1)::a7) ?_
         refine oS 186 (λm=>?_) (λm=>?_)
         ·exact oQ 7
         ·exact oQ 11
     ·refine oS 73 (λm=>?_) (λm=>?_)
      ·let a8:Env:=((80,.bool (decide (fW .i64 (c+2) < (g.length:Int))))::(79,.bool (decide (fW .i64 (c+2) < (g.length:Int))))::(78,.bool (decide (fW .i64 (c+2) < (g.length:Int))))::(77,.i (g.length:Int))::(76,.str g)::(75,.i (fW .i64 (c+2)))::(74,.i c)::(73,.bool true)::Z)
       refine oH 7 (atN 10 (ctl1 g77p18)) a8 (mkH []) ?_
       refine oS 80 (λm=>?_) (λm=>?_)
       ·refine oR 3 (atN 13 (ctl1 g77p18)) ((83,.i (fW .i64 (c+2)))::(82,.i c)::(81,.str g)::(80,.bool true)::a8) ?_
        refine oC (λ(A:Int)=>(.y A,(mkH []))) (atN 14 (ctl1 g77p18)) 84 (idxH Kr) λA b4=>?_
        refine oLH 4 g77p20 [(0,.str g),(1,.i c),(6,.y a),(70,.bool (decide (A=123)))] (mkH []) ?_
        exact I (decide (A=123))
       ·refine oL 8 g77p20 [(0,.str g),(1,.i c),(6,.y a),(70,.bool false)] ?_
        exact I false
      ·refine oLH 15 g77p20 [(0,.str g),(1,.i c),(6,.y a),(70,.bool false)] (mkH []) ?_
       exact I false
   ·refine oS 56 (λm=>?_) (λm=>?_)
    ·refine oLH 5 g77p14 [(0,.str g),(1,.i c),(6,.y a),(53,.bool (decide (a≤55)))] (mkH []) ?_
     exact Q (decide (a≤55))
    ·refine oLH 5 g77p14 [(0,.str g),(1,.i c),(6,.y a),(53,.bool false)] (mkH []) ?_
     exact Q false
def g77 (k:Nat) (h:LN) (c:Int):Option (Int×Int) :=
 jn (λ(j:Bool)=>if j then (some (((-1):Int),(0:Int))) else ((nthS h (fW .i64 (c+1))).bind λg=>qHy k h c g k 0)) (λa=>if (decide (c < 0)) then (a true) else (if (decide (fW .i64 ((h.length:Int) - 1)≤c)) then (a true) else ((nthS h c).bind λb=>a (!decide (b=92)))))
theorem g77_ok (k:Nat) (b:LN) (a:Int) (r:(Int×Int)) (h:g77 k b a=some r):PureOk Tryz.prog 77 [.str b,.i a] (.tuple [.i r.1,.i r.2]):=by
 refine qA5 Xg77 (λ_=>⟨rfl,rfl⟩) Tryz.func77 (by decide +kernel) Kr (t:=g77 k b a) ?_ h
 unfold g77
 refine qA1 (eE:=[(0,.str b),(1,.i a)]) Kr ?_
 let u:Env:=[(20,.bool (decide (a < 0))),(19,.bool (decide (a < 0))),(18,.i a),(5,.i 0),(4,.i 0),(0,.str b),(1,.i a)]
 refine oH 11 (atN 3 (ctl1 g77p1)) u (mkH []) ?_
 refine oJ g77p2 (λ(l:Bool)=>[(0,.str b),(1,.i a),(32,.bool l)]) (λ(l:Bool)=>(mkH [])) (λl=>?_) (λz j=>?_)
 ·refine oS 32 (λm=>?_) (λm=>?_)
  ·exact oQ 7
  ·let x:Env:=[(35,.i (fW .i64 (a+1))),(34,.i a),(33,.str b),(32,.bool false),(0,.str b),(1,.i a),(32,.bool l)]
   refine oH 7 (atN 3 (ctl1 g77p4)) x (mkH []) ?_
   refine oC (λ(c:Int)=>(.y c,(mkH []))) (atN 4 (ctl1 g77p4)) 36 (idxH Kr) λc q=>?_
   refine oH 5 (atN 1 (ctl1 g77p6)) ((37,.slice 0 9 0 9 1)::(6,.y c)::(36,.y c)::x) (mkH [⟨[.i 8,.i 127,.i 27,.i 12,.i 10,.i 13,.i 32,.i 9,.i 11],0,false⟩]) ?_
   refine oZ 37 0 9 1 [.i 8,.i 127,.i 27,.i 12,.i 10,.i 13,.i 32,.i 9,.i 11] [0,1,6,32,33,34,35,36] [] trivial ?_
   refine oLH 10 g77p8 [(0,.str b),(1,.i a),(6,.y c),(7,.str g77c1),(8,w3 g77c0),(9,.i 0)] (mkH [⟨[],0,false⟩]) ?_
   refine qA8 [] [⟨[],0,false⟩] Kr rfl Kr trivial ?_
   exact (qKy k b a c k) 0
 ·refine oS 20 (λm=>?_) (λm=>?_)
  ·refine oLH 13 g77p2 [(0,.str b),(1,.i a),(32,.bool true)] (mkH []) ?_
   exact j true
  ·let n:Env:=((27,.bool (decide (fW .i64 ((b.length:Int) - 1)≤a)))::(26,.bool (decide (fW .i64 ((b.length:Int) - 1)≤a)))::(25,.bool (decide (fW .i64 ((b.length:Int) - 1)≤a)))::(24,.i (fW .i64 ((b.length:Int) - 1)))::(23,.i (b.length:Int))::(22,.str b)::(21,.i a)::(20,.bool false)::u)
   refine oH 7 (atN 10 (ctl1 g77p1)) n (mkH []) ?_
   refine oS 27 (λm=>?_) (λm=>?_)
   ·refine oL 6 g77p2 [(0,.str b),(1,.i a),(32,.bool true)] ?_
    exact j true
   ·refine oR 2 (atN 12 (ctl1 g77p1)) ((29,.i a)::(28,.str b)::(27,.bool false)::n) ?_
    refine oC (λ(g:Int)=>(.y g,(mkH []))) (atN 13 (ctl1 g77p1)) 30 (idxH Kr) λg o=>?_
    refine oLH 3 g77p2 [(0,.str b),(1,.i a),(32,.bool (!decide (g=92)))] (mkH []) ?_
    exact j (!decide (g=92))
def Xg43:Fx Int:=⟨Tryz.prog,cx,Tryz.f43,λr => .i r,0,λ_=>H0,cxTi,cxOrd,λ_=>none,false⟩
def g43p1:Pt:=nav [0,0,0,0] (nav [0] (bodyAt Tryz.f43))
def g43p2:Pt:=nav [0,0] g43p1
def g43p3:Pt:=nav [1,0,0] g43p2
def g43p4:Pt:=nav [2,0,0] g43p2
def g43p5:Pt:=nav [0,0,0] g43p3
def g43p6:Pt:=nav [0,0,0,0] g43p4
def g43p8:Pt:=nav [0,0] g43p6
def g43 (k:Nat) (g:LN) (h:Int):Option Int :=
 jn (λ(m:Bool)=>if m then ((g77 k g (fW .i64 (h+1))).bind λb=>if (decide (0≤b.1)) then (some (fW .i64 (b.2+1))) else (some (0:Int))) else ((g36 k g (fW .i64 (h+1))).bind λa=>jn (λ(n:Bool)=>if n then (some (0:Int)) else (some (fW .i64 (a.2+1)))) (λj=>if (decide (a.1≤32)) then (j true) else (j (decide (a.1=127)))))) (λl=>if (decide (fW .i64 (h+1) < (g.length:Int))) then ((nthS g (fW .i64 (h+1))).bind λc=>l (decide (c=92))) else (l false))
theorem g43_ok (k:Nat) (g:LN) (b:Int) (r:Int) (h:g43 k g b=some r):PureOk Tryz.prog 43 [.str g,.i b] (.i r):=by
 refine qA5 Xg43 (λ_=>⟨rfl,rfl⟩) Tryz.func43 (by decide +kernel) Kr (t:=g43 k g b) ?_ h
 unfold g43
 refine qA1 (eE:=[(0,.str g),(1,.i b)]) Kr ?_
 let A:Env:=[(14,.bool (decide (fW .i64 (b+1) < (g.length:Int)))),(13,.bool (decide (fW .i64 (b+1) < (g.length:Int)))),(12,.i (g.length:Int)),(11,.str g),(10,.i (fW .i64 (b+1))),(9,.i b),(4,.i 0),(0,.str g),(1,.i b)]
 refine oH 13 (atN 6 (ctl1 g43p1)) A (mkH []) ?_
 refine oJ g43p2 (λ(m:Bool)=>[(0,.str g),(1,.i b),(20,.bool m)]) (λ(m:Bool)=>(mkH [])) (λm=>?_) (λD n=>?_)
 ·refine oS 20 (λl=>?_) (λl=>?_)
  ·refine oH 7 (atN 3 (ctl1 g43p3)) [(24,.i (fW .i64 (b+1))),(23,.i b),(22,.str g),(20,.bool true),(0,.str g),(1,.i b),(20,.bool m)] (mkH []) ?_
   refine oA (λ(c:(Int×Int)) => .tuple [.i c.1,.i c.2]) (atN 4 (ctl1 g43p3)) 25 [.str g,.i (fW .i64 (b+1))] (g77_ok k g (fW .i64 (b+1))) λc q=>?_
   let B:Env:=[(5,.i c.1),(6,.i c.2)]
   refine oL 7 g43p5 B ?_
   refine oR 4 (nav [0,0] g43p5) ((29,.bool (decide (0≤c.1)))::(28,.i c.1)::B) ?_
   refine oS 29 (λl=>?_) (λl=>?_)
   ·exact oQ 8
   ·exact oQ 7
  ·refine oH 7 (atN 3 (ctl1 g43p4)) [(35,.i (fW .i64 (b+1))),(34,.i b),(33,.str g),(20,.bool false),(0,.str g),(1,.i b),(20,.bool m)] (mkH []) ?_
   refine oA (λ(a:(Int×Int)) => .tuple [.i a.1,.i a.2]) (atN 4 (ctl1 g43p4)) 36 [.str g,.i (fW .i64 (b+1))] (qK7 k g (fW .i64 (b+1))) λa u=>?_
   let C:Env:=[(7,.i a.1),(8,.i a.2)]
   refine oL 8 g43p6 C ?_
   refine oR 4 (atN 3 (ctl1 g43p6)) ((41,.bool (decide (a.1≤32)))::(40,.bool (decide (a.1≤32)))::(39,.i a.1)::C) ?_
   refine oJ g43p8 (λ(x:Bool)=>[(8,.i a.2),(44,.bool x)]) (λ(x:Bool)=>(mkH [])) (λx=>?_) (λE o=>?_)
   ·refine oS 44 (λl=>?_) (λl=>?_)
    ·exact oQ 6
    ·exact oQ 9
   ·refine oS 41 (λl=>?_) (λl=>?_)
    ·refine oLH 4 g43p8 [(8,.i a.2),(44,.bool true)] (mkH []) ?_
     exact o true
    ·refine oLH 4 g43p8 [(8,.i a.2),(44,.bool (decide (a.1=127)))] (mkH []) ?_
     exact o (decide (a.1=127))
 ·refine oS 14 (λl=>?_) (λl=>?_)
  ·refine oH 3 (atN 9 (ctl1 g43p1)) ((17,.i (fW .i64 (b+1)))::(16,.i b)::(15,.str g)::(14,.bool true)::A) (mkH []) ?_
   refine oC (λ(j:Int)=>(.y j,(mkH []))) (atN 10 (ctl1 g43p1)) 18 (idxH Kr) λj z=>?_
   refine oLH 3 g43p2 [(0,.str g),(1,.i b),(20,.bool (decide (j=92)))] (mkH []) ?_
   exact n (decide (j=92))
  ·refine oLH 7 g43p2 [(0,.str g),(1,.i b),(20,.bool false)] (mkH []) ?_
   exact n false
def Xg45:Fx Int:=⟨Tryz.prog,cx,Tryz.f45,λr => .i r,0,λ_=>H0,cxTi,cxOrd,λ_=>none,false⟩
def g45c0:LL:=[([61,58,61]:LN),([61,47,61]:LN),([60,60]:LN),([62,62]:LN),([45,62]:LN),([60,45]:LN),([60,61]:LN),([61,62]:LN),([58,61]:LN),([58,58]:LN),([61,61]:LN),([47,61]:LN),([61,60]:LN),([62,61]:LN),([124,124]:LN),([43,43]:LN),([45,45]:LN),([40]:LN),([41]:LN),([123]:LN),([125]:LN),([91]:LN),([93]:LN),([44]:LN),([59]:LN),([58]:LN),([61]:LN),([124]:LN),([33]:LN),([35]:LN),([43]:LN),([45]:LN),([42]:LN),([47]:LN),([60]:LN),([62]:LN),([46]:LN)]
def g45p1:Pt:=nav [0,0,0] (nav [0] (bodyAt Tryz.f45))
def g45p2:Pt:=nav [0,0,0,0] g45p1
def g45p3:Pt:=nav [0,0] g45p2
def g45p7:Pt:=nav [0,0,0,0] (nav [2,0,0,0] g45p3)
def g45p9:Pt:=nav [0,0] (nav [0,0,0] g45p7)
def g45p10:Pt:=nav [1,0,0,0,0] g45p9
def g45p12:Pt:=nav [0,0,0] g45p10
def g45d0:DP:=⟨[],[(0,0,0),(1,0,0),(0,0,0),(7,0,0),(0,0,0),(31,0,0),(63,0,0),(127,0,0),(127,0,0),(127,0,0),(127,0,0),(1663,0,0),(4095,0,0),(127,0,0),(127,0,0),(24703,0,0),(57471,0,0),(131071,0,0),(262143,0,0)],19,thrown,[],H0⟩
def qI5 (k:Nat)  (j:LN) (h:Int) (ih:Int→Option Int):Int→Option Int :=
 λ(a:Int)=>if (decide (a < (g45c0.length:Int))) then ((nthL g45c0 a).bind λb=>jn (λ(l:Bool×Int)=>if l.1 then (some (b.length:Int)) else (ih (fW .i64 (l.2+1)))) (λm=>if (decide ((b.length:Int)≤fW .i64 ((j.length:Int) - h))) then ((subL j (some h) (some (fW .i64 (h+(b.length:Int))))).bind λc=>(nthL g45c0 a).bind λg=>m (eqL c g,a)) else (m (false,a)))) else (some (0:Int))
def qO0 (k:Nat)  (a:LN) (b:Int) (n:Nat):Int→Option Int:=lp (λ_=>none) (qI5 k a b) n
theorem qO (k:Nat)   (h:LN) (j:Int)  : ∀ (n:Nat) (b:Int),Ok Xg45 g45p7 [(0,.str h),(1,.i j),(5,w9 g45c0),(6,.i b)] (mkH []) (qO0 k h j n b):=by
 intro n
 induction n with
 | zero=>intro b; exact ok_none
 | succ n ih =>
  intro b
  show Ok _ _ _ _ (qI5 k h j (qO0 k h j n) b)
  unfold qI5
  refine qAd (p':=nav [0] g45p7) Kr ?_
  let F:Env:=[(20,.bool (decide (b < (g45c0.length:Int)))),(19,.i (g45c0.length:Int)),(18,w9 g45c0),(17,.i b),(0,.str h),(1,.i j),(5,w9 g45c0),(6,.i b)]
  refine oH 8 g45p9 F (mkH []) ?_
  refine oS 20 (λD=>?_) (λD=>?_)
  ·refine oR 8 (atN 2 (ctl1 g45p10)) ((24,.i b)::(23,w9 g45c0)::(20,.bool true)::F) ?_
   refine oC (λ(a:LN)=>(.vptr [.str a],(mkH []))) (atN 3 (ctl1 g45p10)) 25 (vidxH (sz:=1) qBq Kr) λa E=>?_
   refine oLH 5 g45p12 [(0,.str h),(1,.i j),(5,w9 g45c0),(6,.i b),(7,.i (a.length:Int))] (mkH []) ?_
   refine oJ (nav [0] g45p12) (λ(u:Bool×Int)=>[(0,.str h),(1,.i j),(5,w9 g45c0),(6,.i u.2),(7,.i (a.length:Int)),(46,.bool u.1)]) (λ(u:Bool×Int)=>(mkH [])) (λu=>?_) (λG A=>?_)
   ·refine oS 46 (λD=>?_) (λD=>?_)
    ·exact oQ 7
    ·refine oLH 7 g45p7 [(0,.str h),(1,.i j),(5,w9 g45c0),(6,.i (fW .i64 (u.2+1)))] (mkH []) ?_
     exact ih (fW .i64 (u.2+1))
   ·refine qDf (λq=>?_) (λq=>?_)
    ·refine qA7 (λc m=>?_)
     refine qA7 (λg o=>?_)
     let r:Env:=[(34,.bool (decide ((a.length:Int)≤fW .i64 ((h.length:Int) - j)))),(33,.bool (decide ((a.length:Int)≤fW .i64 ((h.length:Int) - j)))),(32,.i (a.length:Int)),(31,.i (fW .i64 ((h.length:Int) - j))),(30,.i j),(29,.i (h.length:Int)),(28,.str h),(0,.str h),(1,.i j),(5,w9 g45c0),(6,.i b),(7,.i (a.length:Int))]
     let l:Env:=[(39,.i (fW .i64 (j+(a.length:Int)))),(38,.i (a.length:Int)),(37,.i j),(36,.i j),(35,.str h),(34,.bool true),(33,.bool true),(32,.i (a.length:Int)),(31,.i (fW .i64 ((h.length:Int) - j))),(30,.i j),(29,.i (h.length:Int)),(28,.str h),(0,.str h),(1,.i j),(5,w9 g45c0),(6,.i b),(7,.i (a.length:Int))]
     let B:Env:=((46,.bool (eqL c g))::(45,.bool (eqL c g))::(44,.str g)::(43,.vptr [.str g])::(42,.i b)::(41,w9 g45c0)::(40,.str c)::l)
     refine oD (H':=(mkH [])) (nav [0] g45p12) B [] g45d0 (oDr 7 7 r (oDe (λz=>[(34,.bool z),(33,.bool z),(32,.i (a.length:Int)),(31,.i (fW .i64 ((h.length:Int) - j))),(30,.i j),(29,.i (h.length:Int)),(28,.str h),(0,.str h),(1,.i j),(5,w9 g45c0),(6,.i b),(7,.i (a.length:Int))]) q (oDr 5 12 l (qAb (l':=(opsAt g45p12).toList.drop 13) (eE:=((40,.str c)::l)) (hs:=[]) (x:=c) (λ(c:LN)=>(.str c,(mkH []))) (subH (some j) (some (fW .i64 (j+(a.length:Int)))) Kr) m Kr (oDr 2 15 ((42,.i b)::(41,w9 g45c0)::(40,.str c)::l) (qAb (l':=(opsAt g45p12).toList.drop 16) (eE:=((43,.vptr [.str g])::(42,.i b)::(41,w9 g45c0)::(40,.str c)::l)) (hs:=[]) (x:=g) (λ(g:LN)=>(.vptr [.str g],(mkH []))) (vidxH (sz:=1) qBq Kr) o Kr (oDr 3 19 B .nil))))))) ?_
     refine oK [0,1,5,6,7,46] [(0,.str h),(1,.i j),(5,w9 g45c0),(6,.i b),(7,.i (a.length:Int)),(46,.bool (eqL c g))] ?_
     exact A (eqL c g,b)
    ·let r:Env:=[(34,.bool (decide ((a.length:Int)≤fW .i64 ((h.length:Int) - j)))),(33,.bool (decide ((a.length:Int)≤fW .i64 ((h.length:Int) - j)))),(32,.i (a.length:Int)),(31,.i (fW .i64 ((h.length:Int) - j))),(30,.i j),(29,.i (h.length:Int)),(28,.str h),(0,.str h),(1,.i j),(5,w9 g45c0),(6,.i b),(7,.i (a.length:Int))]
     let C:Env:=[(46,.bool false),(45,.tuple []),(44,.tuple []),(43,.tuple []),(42,.tuple []),(41,.tuple []),(40,.tuple []),(39,.tuple []),(38,.tuple []),(37,.tuple []),(36,.tuple []),(35,.tuple []),(34,.bool false),(33,.bool false),(32,.i (a.length:Int)),(31,.i (fW .i64 ((h.length:Int) - j))),(30,.i j),(29,.i (h.length:Int)),(28,.str h),(0,.str h),(1,.i j),(5,w9 g45c0),(6,.i b),(7,.i (a.length:Int))]
     refine oD (H':=(mkH [])) (nav [0] g45p12) C [] g45d0 (oDr 7 7 r (oDe (λz=>[(34,.bool z),(33,.bool z),(32,.i (a.length:Int)),(31,.i (fW .i64 ((h.length:Int) - j))),(30,.i j),(29,.i (h.length:Int)),(28,.str h),(0,.str h),(1,.i j),(5,w9 g45c0),(6,.i b),(7,.i (a.length:Int))]) q (oDr 12 19 C .nil))) ?_
     refine oK [0,1,5,6,7,46] [(0,.str h),(1,.i j),(5,w9 g45c0),(6,.i b),(7,.i (a.length:Int)),(46,.bool false)] ?_
     exact A (false,b)
  ·exact oQ 7
def g45 (k:Nat) (b:LN) (a:Int):Option Int :=
 jn (λ(g:Bool)=>if g then (some (0:Int)) else (qO0 k b a k 0)) (λc=>if (decide (a < 0)) then (c true) else (c (decide ((b.length:Int) < a))))
theorem g45_ok (k:Nat) (b:LN) (a:Int) (r:Int) (h:g45 k b a=some r):PureOk Tryz.prog 45 [.str b,.i a] (.i r):=by
 refine qA5 Xg45 (λ_=>⟨rfl,rfl⟩) Tryz.func45 (by decide +kernel) Kr (t:=g45 k b a) ?_ h
 unfold g45
 refine qA1 (eE:=[(0,.str b),(1,.i a)]) Kr ?_
 refine oH 7 (atN 1 (ctl1 g45p1)) [(8,.slice 0 37 0 37 1),(4,.i 0),(0,.str b),(1,.i a)] (mkH [⟨[.str [61,58,61],.str [61,47,61],.str [60,60],.str [62,62],.str [45,62],.str [60,45],.str [60,61],.str [61,62],.str [58,61],.str [58,58],.str [61,61],.str [47,61],.str [61,60],.str [62,61],.str [124,124],.str [43,43],.str [45,45],.str [40],.str [41],.str [123],.str [125],.str [91],.str [93],.str [44],.str [59],.str [58],.str [61],.str [124],.str [33],.str [35],.str [43],.str [45],.str [42],.str [47],.str [60],.str [62],.str [46]],0,false⟩]) ?_
 refine oZ 8 0 37 1 [.str [61,58,61],.str [61,47,61],.str [60,60],.str [62,62],.str [45,62],.str [60,45],.str [60,61],.str [61,62],.str [58,61],.str [58,58],.str [61,61],.str [47,61],.str [61,60],.str [62,61],.str [124,124],.str [43,43],.str [45,45],.str [40],.str [41],.str [123],.str [125],.str [91],.str [93],.str [44],.str [59],.str [58],.str [61],.str [124],.str [33],.str [35],.str [43],.str [45],.str [42],.str [47],.str [60],.str [62],.str [46]] [0,1,4] [] trivial ?_
 refine oH 8 (atN 3 (ctl1 g45p2)) [(11,.bool (decide (a < 0))),(10,.bool (decide (a < 0))),(9,.i a),(5,w9 g45c0),(8,w9 g45c0),(0,.str b),(1,.i a),(4,.i 0)] (mkH [⟨[],0,false⟩]) ?_
 refine oJ g45p3 (λ(g:Bool)=>[(0,.str b),(1,.i a),(5,w9 g45c0),(16,.bool g)]) (λ(g:Bool)=>(mkH [])) (λg=>?_) (λl c=>?_)
 ·refine oS 16 (λj=>?_) (λj=>?_)
  ·exact oQ 6
  ·refine oLH 9 g45p7 [(0,.str b),(1,.i a),(5,w9 g45c0),(6,.i 0)] (mkH []) ?_
   exact (qO k b a k) 0
 ·refine oS 11 (λj=>?_) (λj=>?_)
  ·refine oLH 6 g45p3 [(0,.str b),(1,.i a),(5,w9 g45c0),(16,.bool true)] (mkH [⟨[],0,false⟩]) ?_
   refine qA8 [] [⟨[],0,false⟩] Kr rfl Kr trivial ?_
   exact c true
  ·refine oLH 6 g45p3 [(0,.str b),(1,.i a),(5,w9 g45c0),(16,.bool (decide ((b.length:Int) < a)))] (mkH [⟨[],0,false⟩]) ?_
   refine qA8 [] [⟨[],0,false⟩] Kr rfl Kr trivial ?_
   exact c (decide ((b.length:Int) < a))
def Xg18:Fx (S43×Int):=⟨Tryz.prog,cx,Tryz.f18,λr => .tuple [.agg [.i r.1.f0,.str r.1.f1,.i r.1.f2],.i r.2],0,λ_=>H0,cxTi,cxOrd,λ_=>none,false⟩
def g18p1:Pt:=nav [0,0,0,0] (nav [0] (bodyAt Tryz.f18))
def g18p2:Pt:=nav [0,0] g18p1
def g18p4:Pt:=nav [2,0,0] g18p2
def g18p8:Pt:=nav [0,0] (nav [0,0,0,0,0] (nav [0,0,0] g18p4))
def g18p10:Pt:=nav [2,0] g18p8
def g18p11:Pt:=nav [0,0,0,0,0] (nav [1,0] g18p8)
def g18p12:Pt:=nav [0,0] g18p10
def g18p13:Pt:=nav [0,0,0] g18p11
def g18p15:Pt:=nav [2,0] g18p12
def g18p16:Pt:=nav [0,0] g18p13
def g18p17:Pt:=nav [0,0,0,0] (nav [1] g18p12)
def g18p18:Pt:=nav [0,0] g18p15
def g18p20:Pt:=nav [2,0,0] g18p16
def g18p21:Pt:=nav [0,0] g18p17
def g18p22:Pt:=nav [1,0] g18p18
def g18p23:Pt:=nav [2,0] g18p18
def g18p25:Pt:=nav [2,0,0] g18p21
def g18p26:Pt:=nav [0,0] g18p23
def g18p27:Pt:=nav [1,0] g18p26
def g18p29:Pt:=nav [0,0,0] g18p27
def g18p30:Pt:=nav [0,0] (nav [2,0] g18p26)
def g18p32:Pt:=nav [1] g18p30
def g18p35:Pt:=nav [0,0] (nav [2,0] g18p30)
def g18p36:Pt:=nav [1] g18p35
def g18p38:Pt:=nav [0,0] (nav [2,0] g18p35)
def g18p39:Pt:=nav [1] g18p38
def g18p41:Pt:=nav [0,0] (nav [2,0] g18p38)
def g18p43:Pt:=nav [2] g18p41
def g18p44:Pt:=nav [0,0,0,0] (nav [1,0] g18p41)
def g18p45:Pt:=nav [0,0] g18p44
def g18p47:Pt:=nav [2,0,0] g18p45
def g18p48:Pt:=nav [0,0] g18p47
def g18p49:Pt:=nav [1] g18p48
def qFi (k:Nat)  (l:LN) (m:Int) (ih:Int→Option (S43×Int)):Int→Option (S43×Int) :=
 λ(a:Int)=>jn (λ(b:Bool×Int)=>if b.1 then (ih (fW .i64 (b.2+1))) else ((subL l (some m) (some b.2)).bind λc=>(g37 k c).bind λg=>some ((⟨(11:Int),g,m⟩:S43),(0:Int)))) (λj=>if (decide (a < (l.length:Int))) then ((nthS l a).bind λh=>j (!decide (h=10),a)) else (j (false,a)))
def qId (k:Nat)  (a:LN) (b:Int) (n:Nat):Int→Option (S43×Int):=lp (λ_=>none) (qFi k a b) n
theorem qKz (k:Nat)   (h:LN) (j:Int)  : ∀ (n:Nat) (a:Int),Ok Xg18 g18p11 [(0,.str h),(1,.i j),(4,.ptr 0 3 0),(9,.i a)] (mkH [⟨[.i 0,.str [],.i 0],0,false⟩]) (qId k h j n a):=by
 intro n
 induction n with
 | zero=>intro a; exact ok_none
 | succ n ih =>
  intro a
  show Ok _ _ _ _ (qFi k h j (qId k h j n) a)
  unfold qFi
  refine qAd (p':=nav [0] g18p11) Kr ?_
  let z:Env:=[(34,.bool (decide (a < (h.length:Int)))),(33,.bool (decide (a < (h.length:Int)))),(32,.i (h.length:Int)),(31,.str h),(30,.i a),(0,.str h),(1,.i j),(4,.ptr 0 3 0),(9,.i a)]
  let m:Blk:=⟨[.i 0,.str [],.i 0],0,false⟩
  refine oH 8 (atN 5 (ctl1 g18p13)) z (mkH [m]) ?_
  refine oJ g18p16 (λ(b:Bool×Int)=>[(0,.str h),(1,.i j),(4,.ptr 0 3 0),(9,.i b.2),(39,.bool b.1)]) (λ(b:Bool×Int)=>(mkH [m])) (λb=>?_) (λA o=>?_)
  ·refine oS 39 (λx=>?_) (λx=>?_)
   ·refine oLH 8 g18p11 [(0,.str h),(1,.i j),(4,.ptr 0 3 0),(9,.i (fW .i64 (b.2+1)))] (mkH [m]) ?_
    exact ih (fW .i64 (b.2+1))
   ·refine oH 7 (atN 3 (ctl1 g18p20)) [(44,.i b.2),(43,.i j),(42,.str h),(39,.bool false),(0,.str h),(1,.i j),(4,.ptr 0 3 0),(9,.i b.2),(39,.bool b.1)] (mkH [m]) ?_
    refine oC (λ(c:LN)=>(.str c,(mkH [m]))) (atN 4 (ctl1 g18p20)) 45 (subH (some j) (some b.2) Kr) λc q=>?_
    refine oA (λ(l:LN) => .str l) (atN 5 (ctl1 g18p20)) 46 [.str c] (g37_ok k c) λl r=>?_
    exact oQ 6
  ·refine oS 34 (λx=>?_) (λx=>?_)
   ·refine oH 2 (atN 7 (ctl1 g18p13)) ((36,.i a)::(35,.str h)::(34,.bool true)::z) (mkH [m]) ?_
    refine oC (λ(g:Int)=>(.y g,(mkH [m]))) (atN 8 (ctl1 g18p13)) 37 (idxH Kr) λg u=>?_
    refine oLH 3 g18p16 [(0,.str h),(1,.i j),(4,.ptr 0 3 0),(9,.i a),(39,.bool (!decide (g=10)))] (mkH [m]) ?_
    exact o (!decide (g=10),a)
   ·refine oLH 6 g18p16 [(0,.str h),(1,.i j),(4,.ptr 0 3 0),(9,.i a),(39,.bool false)] (mkH [m]) ?_
    exact o (false,a)
def g18 (k:Nat) (c:LN) (b:Int):Option (S43×Int) :=
 jn (λ(S:Bool)=>if S then (some ((⟨(0:Int),([]:LN),(0:Int)⟩:S43),(4:Int))) else ((nthS c b).bind λa=>if (decide (a=37)) then (qId k c b k b) else (jn (λ(T:Bool)=>jn (λ(o:Int×Int)=>if (decide (o.2=0)) then (some ((⟨(0:Int),([]:LN),(0:Int)⟩:S43),(4:Int))) else ((subL c (some b) (some (fW .i64 (b+o.2)))).bind λq=>some ((⟨o.1,q,b⟩:S43),(0:Int)))) (λg=>if T then (g (10,1)) else ((g38 k a).bind λE=>if (decide (E=3)) then ((g39 k c b).bind λn=>some (n.1,n.2)) else ((g38 k a).bind λF=>if (decide (0 < F)) then ((g38 k a).bind λG=>(g40 k c b).bind λh=>(subL c (some b) (some (fW .i64 (b+fW .i64 (h - b))))).bind λI=>(g41 k I).bind λJ=>if J then (g (8,fW .i64 (h - b))) else (g (G,fW .i64 (h - b)))) else (if (decide (a=39)) then ((g42 k c b).bind λK=>g (1,K)) else (if (decide (a=34)) then ((g42 k c b).bind λL=>g (6,L)) else (if (decide (a=36)) then ((g43 k c b).bind λM=>g (5,M)) else (if (decide (a=63)) then (jn (λ(U:Bool)=>jn (λ(j:Int)=>jn (λ(V:Bool)=>if V then ((g40 k c j).bind λr=>g (7,fW .i64 (r - b))) else (g (0,0))) (λu=>if (decide (j < (c.length:Int))) then ((nthS c j).bind λx=>(g44 k x).bind λz=>if z then (u true) else ((nthS c j).bind λl=>u (decide (l=95)))) else (u false))) (λN=>if U then (N (fW .i64 (fW .i64 (b+1)+1))) else (N (fW .i64 (b+1))))) (λO=>if (decide (fW .i64 (b+1) < (c.length:Int))) then ((nthS c (fW .i64 (b+1))).bind λA=>O (decide (A=63))) else (O false))) else ((g45 k c b).bind λB=>g (9,B)))))))))) (λm=>if (decide (a=46)) then (if (decide (fW .i64 (b+1)=(c.length:Int))) then (m true) else ((nthS c (fW .i64 (b+1))).bind λC=>if (decide (C=37)) then (m true) else ((g17 k c (fW .i64 (b+1))).bind λD=>m (decide (fW .i64 (b+1) < D))))) else (m false))))) (λQ=>if (decide (b < 0)) then (Q true) else (Q (decide ((c.length:Int)≤b))))
theorem g18_ok (k:Nat) (c:LN) (b:Int) (r:(S43×Int)) (h:g18 k c b=some r):PureOk Tryz.prog 18 [.str c,.i b] (.tuple [.agg [.i r.1.f0,.str r.1.f1,.i r.1.f2],.i r.2]):=by
 refine qA5 Xg18 (λ_=>⟨rfl,rfl⟩) Tryz.func18 (by decide +kernel) Kr (t:=g18 k c b) ?_ h
 unfold g18
 refine qA1 (eE:=[(0,.str c),(1,.i b)]) Kr ?_
 let j:Blk:=⟨[.i 0,.str [],.i 0],0,false⟩
 refine oH 11 (atN 3 (ctl1 g18p1)) [(13,.bool (decide (b < 0))),(12,.bool (decide (b < 0))),(11,.i b),(5,.i 0),(4,.ptr 0 3 0),(0,.str c),(1,.i b)] (mkH [j]) ?_
 refine oJ g18p2 (λ(U:Bool)=>[(0,.str c),(1,.i b),(4,.ptr 0 3 0),(18,.bool U)]) (λ(U:Bool)=>(mkH [j])) (λU=>?_) (λd6 a2=>?_)
 ·refine oS 18 (λg=>?_) (λg=>?_)
  ·exact oQ 8
  ·refine oH 6 (atN 2 (ctl1 g18p4)) [(21,.i b),(20,.str c),(18,.bool false),(0,.str c),(1,.i b),(4,.ptr 0 3 0),(18,.bool U)] (mkH [j]) ?_
   refine oC (λ(a:Int)=>(.y a,(mkH [j]))) (atN 3 (ctl1 g18p4)) 22 (idxH Kr) λa c4=>?_
   let E5:Env:=[(0,.str c),(1,.i b),(4,.ptr 0 3 0),(6,.y a),(7,.i 0),(8,.i 0),(26,.bool (decide (a=37)))]
   refine oLH 15 g18p8 E5 (mkH [j]) ?_
   refine oS 26 (λg=>?_) (λg=>?_)
   ·refine oL 9 g18p11 [(0,.str c),(1,.i b),(4,.ptr 0 3 0),(9,.i b)] ?_
    exact (qKz k c b k) b
   ·refine oR 6 (atN 3 (ctl1 g18p10)) ((52,.bool (decide (a=46)))::(51,.bool (decide (a=46)))::(50,.y a)::(26,.bool false)::E5) ?_
    refine oJ g18p12 (λ(V:Bool)=>[(0,.str c),(1,.i b),(4,.ptr 0 3 0),(6,.y a),(7,.i 0),(8,.i 0),(49,.bool V)]) (λ(V:Bool)=>(mkH [j])) (λV=>?_) (λd9 I=>?_)
    ·refine oJ g18p17 (λ(u:Int×Int)=>[(0,.str c),(1,.i b),(4,.ptr 0 3 0),(7,.i u.1),(8,.i u.2)]) (λ(u:Int×Int)=>(mkH [j])) (λu=>?_) (λe0 o=>?_)
     ·let b0:Env:=[(159,.bool (decide (u.2=0))),(158,.i u.2),(0,.str c),(1,.i b),(4,.ptr 0 3 0),(7,.i u.1),(8,.i u.2)]
      refine oH 4 g18p21 b0 (mkH [j]) ?_
      refine oS 159 (λg=>?_) (λg=>?_)
      ·exact oQ 8
      ·refine oR 10 (atN 6 (ctl1 g18p25)) ((166,.i (fW .i64 (b+u.2)))::(165,.i u.2)::(164,.i b)::(163,.i b)::(162,.str c)::(161,.i u.1)::(159,.bool false)::b0) ?_
       refine oC (λ(N:LN)=>(.str N,(mkH [j]))) (atN 7 (ctl1 g18p25)) 167 (subH (some b) (some (fW .i64 (b+u.2))) Kr) λN b6=>?_
       exact oQ 6
     ·refine oS 49 (λg=>?_) (λg=>?_)
      ·refine oLH 7 g18p17 [(0,.str c),(1,.i b),(4,.ptr 0 3 0),(7,.i 10),(8,.i 1)] (mkH [j]) ?_
       exact o (10,1)
      ·let W:Env:=[(76,.y a),(49,.bool false),(0,.str c),(1,.i b),(4,.ptr 0 3 0),(6,.y a),(7,.i 0),(8,.i 0),(49,.bool V)]
       refine oH 4 (atN 1 (ctl1 g18p15)) W (mkH [j]) ?_
       refine oA (λ(m:Int) => .i m) (atN 2 (ctl1 g18p15)) 77 [.y a] (qO9 k a) λm c6=>?_
       refine oR 3 g18p18 ((75,.bool (decide (m=3)))::(78,.bool (decide (m=3)))::(77,.i m)::W) ?_
       refine oS 75 (λg=>?_) (λg=>?_)
       ·refine oR 5 (atN 2 (ctl1 g18p22)) ((80,.i b)::(79,.str c)::(75,.bool true)::(75,.bool (decide (m=3)))::(78,.bool (decide (m=3)))::(77,.i m)::W) ?_
        refine oA (λ(O:(S43×Int)) => .tuple [n44 O.1,.i O.2]) (atN 3 (ctl1 g18p22)) 81 [.str c,.i b] (g39_ok k c b) λO c7=>?_
        exact oQ 6
       ·refine oR 4 (atN 1 (ctl1 g18p23)) ((85,.y a)::(75,.bool false)::(75,.bool (decide (m=3)))::(78,.bool (decide (m=3)))::(77,.i m)::W) ?_
        refine oA (λ(Q:Int) => .i Q) (atN 2 (ctl1 g18p23)) 86 [.y a] (qO9 k a) λQ c8=>?_
        let S:Env:=[(0,.str c),(1,.i b),(4,.ptr 0 3 0),(6,.y a),(7,.i 0),(8,.i 0),(84,.bool (decide (0 < Q)))]
        refine oL 3 g18p26 S ?_
        refine oS 84 (λg=>?_) (λg=>?_)
        ·refine oR 4 (atN 1 (ctl1 g18p27)) ((88,.y a)::(84,.bool true)::S) ?_
         refine oA (λ(A:Int) => .i A) (atN 2 (ctl1 g18p27)) 89 [.y a] (qO9 k a) λA c9=>?_
         refine oR 2 (atN 4 (ctl1 g18p27)) ((91,.i b)::(90,.str c)::(89,.i A)::(88,.y a)::(84,.bool true)::S) ?_
         refine oA (λ(n:Int) => .i n) (atN 5 (ctl1 g18p27)) 92 [.str c,.i b] (g40_ok k c b) λn d0=>?_
         let b1:Env:=[(0,.str c),(1,.i b),(4,.ptr 0 3 0),(7,.i A),(8,.i (fW .i64 (n - b)))]
         refine oL 6 g18p29 b1 ?_
         let a5:Env:=((99,.i (fW .i64 (b+fW .i64 (n - b))))::(98,.i (fW .i64 (n - b)))::(97,.i b)::(96,.i b)::(95,.str c)::b1)
         refine oR 6 (atN 5 (ctl1 g18p29)) a5 ?_
         refine oC (λ(B:LN)=>(.str B,(mkH [j]))) (atN 6 (ctl1 g18p29)) 100 (subH (some b) (some (fW .i64 (b+fW .i64 (n - b)))) Kr) λB d1=>?_
         refine oA (λ(J:Bool) => .bool J) (atN 7 (ctl1 g18p29)) 101 [.str B] (g41_ok k B) λJ d2=>?_
         refine oH 1 (nav [0,0] g18p29) ((101,.bool J)::(100,.str B)::a5) (mkH [j]) ?_
         refine oS 101 (λg=>?_) (λg=>?_)
         ·refine oL 6 g18p17 [(0,.str c),(1,.i b),(4,.ptr 0 3 0),(7,.i 8),(8,.i (fW .i64 (n - b)))] ?_
          exact o (8,fW .i64 (n - b))
         ·refine oR 4 g18p17 ((101,.bool false)::(101,.bool J)::(100,.str B)::a5) ?_
          refine oK [0,1,4,7,8] [(0,.str c),(1,.i b),(4,.ptr 0 3 0),(7,.i A),(8,.i (fW .i64 (n - b)))] ?_
          exact o (A,fW .i64 (n - b))
        ·refine oR 7 g18p30 ((102,.bool (decide (a=39)))::(104,.bool (decide (a=39)))::(103,.y a)::(84,.bool false)::S) ?_
         refine oS 102 (λg=>?_) (λg=>?_)
         ·refine oR 4 (atN 2 (ctl1 g18p32)) ((106,.i b)::(105,.str c)::(102,.bool true)::(102,.bool (decide (a=39)))::(104,.bool (decide (a=39)))::(103,.y a)::(84,.bool false)::S) ?_
          refine oA (λ(K:Int) => .i K) (atN 3 (ctl1 g18p32)) 107 [.str c,.i b] (g42_ok k c b) λK d3=>?_
          refine oL 5 g18p17 [(0,.str c),(1,.i b),(4,.ptr 0 3 0),(7,.i 1),(8,.i K)] ?_
          exact o (1,K)
         ·let Y:Env:=[(0,.str c),(1,.i b),(4,.ptr 0 3 0),(6,.y a),(7,.i 0),(8,.i 0),(108,.bool (decide (a=34)))]
          refine oL 7 g18p35 Y ?_
          refine oS 108 (λg=>?_) (λg=>?_)
          ·refine oR 4 (atN 2 (ctl1 g18p36)) ((112,.i b)::(111,.str c)::(108,.bool true)::Y) ?_
           refine oA (λ(L:Int) => .i L) (atN 3 (ctl1 g18p36)) 113 [.str c,.i b] (g42_ok k c b) λL d4=>?_
           refine oL 5 g18p17 [(0,.str c),(1,.i b),(4,.ptr 0 3 0),(7,.i 6),(8,.i L)] ?_
           exact o (6,L)
          ·refine oR 7 g18p38 ((114,.bool (decide (a=36)))::(116,.bool (decide (a=36)))::(115,.y a)::(108,.bool false)::Y) ?_
           refine oS 114 (λg=>?_) (λg=>?_)
           ·refine oR 4 (atN 2 (ctl1 g18p39)) ((118,.i b)::(117,.str c)::(114,.bool true)::(114,.bool (decide (a=36)))::(116,.bool (decide (a=36)))::(115,.y a)::(108,.bool false)::Y) ?_
            refine oA (λ(M:Int) => .i M) (atN 3 (ctl1 g18p39)) 119 [.str c,.i b] (g43_ok k c b) λM d5=>?_
            refine oL 5 g18p17 [(0,.str c),(1,.i b),(4,.ptr 0 3 0),(7,.i 5),(8,.i M)] ?_
            exact o (5,M)
           ·let a6:Env:=[(0,.str c),(1,.i b),(4,.ptr 0 3 0),(7,.i 0),(8,.i 0),(120,.bool (decide (a=63)))]
            refine oL 7 g18p41 a6 ?_
            refine oS 120 (λg=>?_) (λg=>?_)
            ·let b2:Env:=((129,.bool (decide (fW .i64 (b+1) < (c.length:Int))))::(128,.bool (decide (fW .i64 (b+1) < (c.length:Int))))::(127,.i (c.length:Int))::(126,.str c)::(125,.i (fW .i64 (b+1)))::(10,.i (fW .i64 (b+1)))::(124,.i (fW .i64 (b+1)))::(123,.i b)::(120,.bool true)::a6)
             refine oR 15 (atN 5 (ctl1 g18p44)) b2 ?_
             refine oJ g18p45 (λ(a7:Bool)=>[(0,.str c),(1,.i b),(4,.ptr 0 3 0),(7,.i 0),(8,.i 0),(10,.i (fW .i64 (b+1))),(134,.bool a7)]) (λ(a7:Bool)=>(mkH [j])) (λa7=>?_) (λe1 a3=>?_)
             ·refine oJ g18p47 (λ(l:Int)=>[(0,.str c),(1,.i b),(4,.ptr 0 3 0),(7,.i 0),(8,.i 0),(10,.i l)]) (λ(l:Int)=>(mkH [j])) (λl=>?_) (λf3 a4=>?_)
              ·let a8:Env:=[(141,.bool (decide (l < (c.length:Int)))),(140,.bool (decide (l < (c.length:Int)))),(139,.i (c.length:Int)),(138,.str c),(137,.i l),(0,.str c),(1,.i b),(4,.ptr 0 3 0),(7,.i 0),(8,.i 0),(10,.i l)]
               refine oH 6 (atN 5 (ctl1 g18p47)) a8 (mkH [j]) ?_
               refine oJ g18p48 (λ(Z:Bool)=>[(0,.str c),(1,.i b),(4,.ptr 0 3 0),(7,.i 0),(8,.i 0),(10,.i l),(152,.bool Z)]) (λ(Z:Bool)=>(mkH [j])) (λZ=>?_) (λf4 T=>?_)
               ·refine oS 152 (λg=>?_) (λg=>?_)
                ·refine oH 4 (atN 2 (ctl1 g18p49)) [(154,.i l),(153,.str c),(152,.bool true),(0,.str c),(1,.i b),(4,.ptr 0 3 0),(7,.i 0),(8,.i 0),(10,.i l),(152,.bool Z)] (mkH [j]) ?_
                 refine oA (λ(C:Int) => .i C) (atN 3 (ctl1 g18p49)) 155 [.str c,.i l] (g40_ok k c l) λC b7=>?_
                 refine oL 7 g18p17 [(0,.str c),(1,.i b),(4,.ptr 0 3 0),(7,.i 7),(8,.i (fW .i64 (C - b)))] ?_
                 exact o (7,fW .i64 (C - b))
                ·refine oLH 4 g18p17 [(0,.str c),(1,.i b),(4,.ptr 0 3 0),(7,.i 0),(8,.i 0)] (mkH [j]) ?_
                 exact o (0,0)
               ·refine oS 141 (λg=>?_) (λg=>?_)
                ·refine oH 2 (atN 7 (ctl1 g18p47)) ((143,.i l)::(142,.str c)::(141,.bool true)::a8) (mkH [j]) ?_
                 refine oC (λ(z:Int)=>(.y z,(mkH [j]))) (atN 8 (ctl1 g18p47)) 144 (idxH Kr) λz b8=>?_
                 refine oA (λ(D:Bool) => .bool D) (atN 9 (ctl1 g18p47)) 145 [.y z] (g44_ok k z) λD b9=>?_
                 let b3:Env:=((146,.bool D)::(145,.bool D)::(144,.y z)::(143,.i l)::(142,.str c)::(141,.bool true)::a8)
                 refine oH 1 (atN 10 (ctl1 g18p47)) b3 (mkH [j]) ?_
                 refine oS 146 (λg=>?_) (λg=>?_)
                 ·refine oL 7 g18p48 [(0,.str c),(1,.i b),(4,.ptr 0 3 0),(7,.i 0),(8,.i 0),(10,.i l),(152,.bool true)] ?_
                  exact T true
                 ·refine oR 2 (atN 12 (ctl1 g18p47)) ((148,.i l)::(147,.str c)::(146,.bool false)::b3) ?_
                  refine oC (λ(x:Int)=>(.y x,(mkH [j]))) (atN 13 (ctl1 g18p47)) 149 (idxH Kr) λx b4=>?_
                  refine oLH 4 g18p48 [(0,.str c),(1,.i b),(4,.ptr 0 3 0),(7,.i 0),(8,.i 0),(10,.i l),(152,.bool (decide (x=95)))] (mkH [j]) ?_
                  exact T (decide (x=95))
                ·refine oLH 12 g18p48 [(0,.str c),(1,.i b),(4,.ptr 0 3 0),(7,.i 0),(8,.i 0),(10,.i l),(152,.bool false)] (mkH [j]) ?_
                 exact T false
              ·refine oS 134 (λg=>?_) (λg=>?_)
               ·refine oLH 7 g18p47 [(0,.str c),(1,.i b),(4,.ptr 0 3 0),(7,.i 0),(8,.i 0),(10,.i (fW .i64 (fW .i64 (b+1)+1)))] (mkH [j]) ?_
                exact a4 (fW .i64 (fW .i64 (b+1)+1))
               ·refine oLH 3 g18p47 [(0,.str c),(1,.i b),(4,.ptr 0 3 0),(7,.i 0),(8,.i 0),(10,.i (fW .i64 (b+1)))] (mkH [j]) ?_
                exact a4 (fW .i64 (b+1))
             ·refine oS 129 (λg=>?_) (λg=>?_)
              ·refine oH 2 (atN 7 (ctl1 g18p44)) ((131,.i (fW .i64 (b+1)))::(130,.str c)::(129,.bool true)::b2) (mkH [j]) ?_
               refine oC (λ(E:Int)=>(.y E,(mkH [j]))) (atN 8 (ctl1 g18p44)) 132 (idxH Kr) λE c0=>?_
               refine oLH 3 g18p45 [(0,.str c),(1,.i b),(4,.ptr 0 3 0),(7,.i 0),(8,.i 0),(10,.i (fW .i64 (b+1))),(134,.bool (decide (E=63)))] (mkH [j]) ?_
               exact a3 (decide (E=63))
              ·refine oLH 6 g18p45 [(0,.str c),(1,.i b),(4,.ptr 0 3 0),(7,.i 0),(8,.i 0),(10,.i (fW .i64 (b+1))),(134,.bool false)] (mkH [j]) ?_
               exact a3 false
            ·refine oR 4 (atN 2 (ctl1 g18p43)) ((24,.i b)::(23,.str c)::(120,.bool false)::a6) ?_
             refine oA (λ(F:Int) => .i F) (atN 3 (ctl1 g18p43)) 25 [.str c,.i b] (g45_ok k c b) λF c1=>?_
             refine oL 5 g18p17 [(0,.str c),(1,.i b),(4,.ptr 0 3 0),(7,.i 9),(8,.i F)] ?_
             exact o (9,F)
    ·refine oS 52 (λg=>?_) (λg=>?_)
     ·let a9:Env:=((58,.bool (decide (fW .i64 (b+1)=(c.length:Int))))::(57,.bool (decide (fW .i64 (b+1)=(c.length:Int))))::(56,.i (c.length:Int))::(55,.str c)::(54,.i (fW .i64 (b+1)))::(53,.i b)::(52,.bool true)::(52,.bool (decide (a=46)))::(51,.bool (decide (a=46)))::(50,.y a)::(26,.bool false)::E5)
      refine oH 6 (atN 9 (ctl1 g18p10)) a9 (mkH [j]) ?_
      refine oS 58 (λg=>?_) (λg=>?_)
      ·refine oL 18 g18p12 [(0,.str c),(1,.i b),(4,.ptr 0 3 0),(6,.y a),(7,.i 0),(8,.i 0),(49,.bool true)] ?_
       exact I true
      ·refine oR 3 (atN 12 (ctl1 g18p10)) ((61,.i (fW .i64 (b+1)))::(60,.i b)::(59,.str c)::(58,.bool false)::a9) ?_
       refine oC (λ(q:Int)=>(.y q,(mkH [j]))) (atN 13 (ctl1 g18p10)) 62 (idxH Kr) λq c2=>?_
       let b5:Env:=((65,.bool (decide (q=37)))::(64,.bool (decide (q=37)))::(63,.bool (decide (q=37)))::(62,.y q)::(61,.i (fW .i64 (b+1)))::(60,.i b)::(59,.str c)::(58,.bool false)::a9)
       refine oH 3 (atN 16 (ctl1 g18p10)) b5 (mkH [j]) ?_
       refine oS 65 (λg=>?_) (λg=>?_)
       ·refine oL 11 g18p12 [(0,.str c),(1,.i b),(4,.ptr 0 3 0),(6,.y a),(7,.i 0),(8,.i 0),(49,.bool true)] ?_
        exact I true
       ·refine oR 3 (atN 19 (ctl1 g18p10)) ((68,.i (fW .i64 (b+1)))::(67,.i b)::(66,.str c)::(65,.bool false)::b5) ?_
        refine oA (λ(G:Int) => .i G) (atN 20 (ctl1 g18p10)) 69 [.str c,.i (fW .i64 (b+1))] (qOg k c (fW .i64 (b+1))) λG c3=>?_
        refine oL 7 g18p12 [(0,.str c),(1,.i b),(4,.ptr 0 3 0),(6,.y a),(7,.i 0),(8,.i 0),(49,.bool (decide (fW .i64 (b+1) < G)))] ?_
        exact I (decide (fW .i64 (b+1) < G))
     ·refine oLH 24 g18p12 [(0,.str c),(1,.i b),(4,.ptr 0 3 0),(6,.y a),(7,.i 0),(8,.i 0),(49,.bool false)] (mkH [j]) ?_
      exact I false
 ·refine oS 13 (λg=>?_) (λg=>?_)
  ·refine oLH 6 g18p2 [(0,.str c),(1,.i b),(4,.ptr 0 3 0),(18,.bool true)] (mkH [j]) ?_
   exact a2 true
  ·refine oLH 6 g18p2 [(0,.str c),(1,.i b),(4,.ptr 0 3 0),(18,.bool (decide ((c.length:Int)≤b)))] (mkH [j]) ?_
   exact a2 (decide ((c.length:Int)≤b))
def Xg5:Fx ((List S43)×Int):=⟨Tryz.prog,cx,Tryz.f5,λr => .tuple [w44 r.1,.i r.2],0,λ_=>H0,cxTi,cxOrd,λ_=>none,false⟩
def g5p2:Pt:=nav [0,0] (nav [0,0,0,0] (nav [0] (bodyAt Tryz.f5)))
def g5p4:Pt:=nav [2,0,0,0] g5p2
def g5p6:Pt:=nav [0,0] g5p4
def g5p8:Pt:=nav [2,0,0] g5p6
def g5p9:Pt:=nav [0,0,0,0] g5p8
def g5p10:Pt:=nav [0,0,0,0] g5p9
def g5p12:Pt:=nav [0,0] (nav [0,0,0] g5p10)
def g5p13:Pt:=nav [1,0,0,0] g5p12
def g5p15:Pt:=nav [0,0,0,0] g5p13
def g5p16:Pt:=nav [0,0] g5p15
def g5p18:Pt:=nav [2,0,0] g5p16
def g5p19:Pt:=nav [0,0] g5p18
def qNt (k:Nat)  (j:LN) (ih:Int→(List S43)→Option ((List S43)×Int)):Int→(List S43)→Option ((List S43)×Int) :=
 λ(b:Int) (c:List S43)=>if (decide (b < (j.length:Int))) then ((g18 k j b).bind λa=>if (!decide (a.2=0)) then (some (([]:List S43),a.2)) else ((appS 32 c ([a.1]:List S43)).bind λg=>(g17 k j (fW .i64 (b+(a.1.f1.length:Int)))).bind λh=>ih h g)) else (some (c,(0:Int)))
def g5_l5 (k:Nat)  (a:LN) (n:Nat):Int→(List S43)→Option ((List S43)×Int):=lp (λ_ _=>none) (qNt k a) n
theorem g5_l5_ok (k:Nat)   (h:LN)  : ∀ (n:Nat) (b:Int) (c:List S43),Ok Xg5 g5p10 [(0,.str h),(4,.own 0 (c).length 3),(5,.i b)] (mkH [⟨(c).flatMap e44,0,false⟩]) (g5_l5 k h n b c):=by
 intro n
 induction n with
 | zero=>intro b c; exact ok_none
 | succ n ih =>
  intro b c
  show Ok _ _ _ _ (qNt k h (g5_l5 k h n) b c)
  unfold qNt
  refine qAd (p':=nav [0] g5p10) Kr ?_
  let m:Env:=[(19,.bool (decide (b < (h.length:Int)))),(18,.i (h.length:Int)),(17,.str h),(16,.i b),(0,.str h),(4,.own 0 (c).length 3),(5,.i b)]
  let o:Blk:=⟨(c).flatMap e44,0,false⟩
  refine oH 8 g5p12 m (mkH [o]) ?_
  refine oS 19 (λq=>?_) (λq=>?_)
  ·refine oR 7 (atN 2 (ctl1 g5p13)) ((22,.i b)::(21,.str h)::(19,.bool true)::m) ?_
   refine oA (λ(a:(S43×Int)) => .tuple [n44 a.1,.i a.2]) (atN 3 (ctl1 g5p13)) 23 [.str h,.i b] (g18_ok k h b) λa r=>?_
   let l:Env:=[(0,.str h),(4,.own 0 (c).length 3),(5,.i b),(6,.ptr 1 3 0),(7,.i a.2)]
   refine oLH 9 g5p15 l (mkH [o,⟨e44 a.1,3,false⟩]) ?_
   refine oR 4 g5p16 ((27,.bool (!decide (a.2=0)))::(26,.i a.2)::l) ?_
   refine oS 27 (λq=>?_) (λq=>?_)
   ·refine oR 8 .fin ((3,.i a.2)::(2,.nils)::(28,.i a.2)::(27,.bool true)::(27,.bool (!decide (a.2=0)))::(26,.i a.2)::l) ?_
    exact oT [.nils,.i a.2] (.tuple [.vec 0 3 [],.i a.2]) (.tuple (.nil .ps) .ps)
   ·let z:List Blk:=[o,⟨e44 a.1,3,false⟩,⟨e44 a.1,0,false⟩]
    refine oH 7 (atN 3 (ctl1 g5p18)) ((31,.slice 2 3 0 1 3)::(30,n44 a.1)::(29,.own 0 (c).length 3)::(27,.bool false)::(27,.bool (!decide (a.2=0)))::(26,.i a.2)::l) (mkH z) ?_
    refine oC (λ(g:List S43)=>(.own 0 (g).length 3,(mkH [⟨(g).flatMap e44,0,false⟩,⟨e44 a.1,3,false⟩,⟨e44 a.1,0,false⟩]))) (atN 4 (ctl1 g5p18)) 32 (appH (sz:=3) qAs rfl e44_one z 0 32 c ([a.1]:List S43) rfl rfl Kr) λg u=>?_
    let A:Blk:=⟨(g).flatMap e44,0,false⟩
    refine oLH 2 g5p19 [(0,.str h),(4,.own 0 (g).length 3),(5,.i b),(6,.ptr 1 3 0)] (mkH [A,⟨e44 a.1,3,false⟩,⟨e44 a.1,0,false⟩]) ?_
    refine oR 7 (atN 6 (ctl1 g5p19)) ((38,.i (fW .i64 (b+(a.1.f1.length:Int))))::(37,.i (a.1.f1.length:Int))::(36,.str a.1.f1)::(35,.ptr 1 3 1)::(34,.i b)::(33,.str h)::[(0,.str h),(4,.own 0 (g).length 3),(5,.i b),(6,.ptr 1 3 0)]) ?_
    refine oA (λ(j:Int) => .i j) (atN 7 (ctl1 g5p19)) 39 [.str h,.i (fW .i64 (b+(a.1.f1.length:Int)))] (qOg k h (fW .i64 (b+(a.1.f1.length:Int)))) λj x=>?_
    refine oL 2 g5p10 [(0,.str h),(4,.own 0 (g).length 3),(5,.i j)] ?_
    refine qA8 [A] [⟨e44 a.1,3,false⟩,⟨e44 a.1,0,false⟩] Kr rfl Kr ⟨(qA _ (u44 _)),trivial⟩ ?_
    exact ih j g
  ·refine oR 9 .fin ((3,.i 0)::(2,.own 0 (c).length 3)::(40,.own 0 (c).length 3)::(19,.bool false)::m) ?_
   exact oT [.own 0 (c).length 3,.i 0] (.tuple [w44 c,.i 0]) (.tuple (qAl qAs qOs rfl rfl rfl .ps) .ps)
def g5 (k:Nat) (c:LN):Option ((List S43)×Int) :=
 if (decide (65536 < (c.length:Int))) then (some (([]:List S43),(3:Int))) else ((g16 k c).bind λa=>if (!a) then (some (([]:List S43),(2:Int))) else ((g17 k c (0:Int)).bind λb=>g5_l5 k c k b ([]:List S43)))
theorem g5_ok (k:Nat) (a:LN) (r:((List S43)×Int)) (h:g5 k a=some r):PureOk Tryz.prog 5 [.str a] (.tuple [w44 r.1,.i r.2]):=by
 refine qA5 Xg5 (λ_=>⟨rfl,rfl⟩) Tryz.func5 (by decide +kernel) Kr (t:=g5 k a) ?_ h
 unfold g5
 refine qA1 (eE:=[(0,.str a)]) Kr ?_
 let g:Env:=[(10,.bool (decide (65536 < (a.length:Int)))),(9,.i (a.length:Int)),(8,.str a),(3,.i 0),(2,.nils),(0,.str a)]
 refine oH 12 g5p2 g (mkH []) ?_
 refine oS 10 (λj=>?_) (λj=>?_)
 ·refine oR 7 .fin ((3,.i 3)::(2,.nils)::(10,.bool true)::g) ?_
  exact oT [.nils,.i 3] (.tuple [.vec 0 3 [],.i 3]) (.tuple (.nil .ps) .ps)
 ·refine oR 6 (atN 1 (ctl1 g5p4)) ((11,.str a)::(10,.bool false)::g) ?_
  refine oA (λ(b:Bool) => .bool b) (atN 2 (ctl1 g5p4)) 12 [.str a] (g16_ok k a) λb l=>?_
  refine oL 2 g5p6 [(0,.str a),(13,.bool (!b))] ?_
  let m:Env:=[(0,.str a),(13,.bool (!b))]
  refine oS 13 (λj=>?_) (λj=>?_)
  ·refine oR 7 .fin ((3,.i 2)::(2,.nils)::(13,.bool true)::m) ?_
   exact oT [.nils,.i 2] (.tuple [.vec 0 3 [],.i 2]) (.tuple (.nil .ps) .ps)
  ·refine oR 5 (atN 1 (ctl1 g5p8)) ((4,.nils)::(13,.bool false)::m) ?_
   refine qCn [] 4 3 rfl Kr ?_
   refine oH 5 (atN 1 (ctl1 g5p9)) ((14,.str a)::(4,.own 0 (([]:List S43)).length 3)::(4,.nils)::(13,.bool false)::m) (mkH [⟨(([]:List S43)).flatMap e44,0,false⟩]) ?_
   refine oA (λ(c:Int) => .i c) (atN 2 (ctl1 g5p9)) 15 [.str a,.i 0] (qOg k a (0:Int)) λc n=>?_
   refine oL 4 g5p10 [(0,.str a),(4,.own 0 (([]:List S43)).length 3),(5,.i c)] ?_
   exact (g5_l5_ok k a k) c ([]:List S43)
def Xg22:Fx S28:=⟨Tryz.prog,cx,Tryz.f22,λr => .agg [.i r.f0,.str r.f1,q29 r.f2,.bool r.f3,.bool r.f4,w9 r.f5,w9 r.f6],0,λ_=>H0,cxTi,cxOrd,λ_=>none,false⟩
def g22 (k:Nat) (a:S28) (b:Int):Option S28 :=
 if (!decide (b=0)) then (some (⟨(0:Int),([]:LN),⟨0,[]⟩,false,false,([]:LL),([]:LL)⟩:S28)) else (some a)
theorem g22_ok (k:Nat) (a:S28) (b:Int) (r:S28) (h:g22 k a b=some r):PureOk Tryz.prog 22 [.agg [.i a.f0,.str a.f1,q29 a.f2,.bool a.f3,.bool a.f4,w9 a.f5,w9 a.f6],.i b] (.agg [.i r.f0,.str r.f1,q29 r.f2,.bool r.f3,.bool r.f4,w9 r.f5,w9 r.f6]):=by
 refine qA5 Xg22 (λ_=>⟨rfl,rfl⟩) Tryz.func22 (by decide +kernel) Kr (t:=g22 k a b) ?_ h
 unfold g22
 refine qA1 (eE:=[(0,.agg [.i a.f0,.str a.f1,q29 a.f2,.bool a.f3,.bool a.f4,w9 a.f5,w9 a.f6]),(1,.i b)]) Kr ?_
 let c:Env:=[(6,.bool (!decide (b=0))),(5,.i b),(4,.ptr 1 7 0),(2,.ptr 0 7 0),(0,n29 a),(1,.i b)]
 refine oH 11 (nav [0,0] (nav [0,0,0,0] (nav [0] (bodyAt Tryz.f22)))) c (mkH [⟨e29 a,0,false⟩,⟨[.i 0,.str [],.nils,.bool false,.bool false,.nils,.nils],0,false⟩]) ?_
 refine oS 6 (λg=>?_) (λg=>?_)
 ·refine oH 7 .fin ((7,.agg [.i 0,.str [],.nils,.bool false,.bool false,.nils,.nils])::(6,.bool true)::c) (mkH [⟨e29 a,0,false⟩,⟨[.i 0,.str [],.nils,.bool false,.bool false,.nils,.nils],7,false⟩]) ?_
  exact oT [.agg [.i 0,.str [],.nils,.bool false,.bool false,.nils,.nils]] (.agg [.i 0,.str [],.vec 0 7 [],.bool false,.bool false,.vec 0 1 [],.vec 0 1 []]) (.agg (.cs (.cs (.nil (.cs (.cs (.nil (.nil .ps))))))) .ps)
 ·exact oQ 8
def Xg108:Fx Bool:=⟨Tryz.prog,cx,Tryz.f108,λr => .bool r,0,λ_=>H0,cxTi,cxOrd,λ_=>none,false⟩
def g108p3:Pt:=nav [0,0] (nav [0,0,0,0] (nav [0,0,0,0] (nav [0] (bodyAt Tryz.f108))))
def g108p4:Pt:=nav [1,0] g108p3
def g108p6:Pt:=nav [0,0,0] g108p4
def g108p7:Pt:=nav [0,0] (nav [2,0,0] g108p3)
def g108p9:Pt:=nav [1,0] g108p7
def g108p13:Pt:=nav [0,0] (nav [2,0] g108p7)
def g108p15:Pt:=nav [0,0] (nav [2,0] g108p13)
def g108p17:Pt:=nav [0,0] (nav [2,0] g108p15)
def g108p19:Pt:=nav [0,0] (nav [2,0] g108p17)
def g108 (k:Nat) (b:S28):Option Bool :=
 if (decide (b.f0=1)) then ((nthS b.f1 0).bind λa=>if (!decide (a=36)) then (if (!decide (a=34)) then (if (decide (a < 48)) then (some true) else (some (decide (57 < a)))) else (some false)) else (some false)) else (jn (λ(g:Bool)=>if g then (some true) else (some false)) (λc=>if (decide (b.f0=2)) then (c true) else (if (decide (b.f0=3)) then (c true) else (if (decide (b.f0=8)) then (c true) else (if (decide (b.f0=9)) then (c true) else (if (decide (b.f0=10)) then (c true) else (if (decide (b.f0=11)) then (c true) else (c (decide (b.f0=12))))))))))
theorem g108_ok (k:Nat) (b:S28) (r:Bool) (h:g108 k b=some r):PureOk Tryz.prog 108 [.agg [.i b.f0,.str b.f1,q29 b.f2,.bool b.f3,.bool b.f4,w9 b.f5,w9 b.f6]] (.bool r):=by
 refine qA5 Xg108 (λ_=>⟨rfl,rfl⟩) Tryz.func108 (by decide +kernel) Kr (t:=g108 k b) ?_ h
 unfold g108
 refine qA1 (eE:=[(0,.agg [.i b.f0,.str b.f1,q29 b.f2,.bool b.f3,.bool b.f4,w9 b.f5,w9 b.f6])]) Kr ?_
 let n:Env:=[(6,.bool (decide (b.f0=1))),(7,.bool (decide (b.f0=1))),(5,.i b.f0),(4,.ptr 0 7 0),(2,.bool false),(1,.ptr 0 7 0),(0,n29 b)]
 refine oH 17 g108p3 n (mkH [⟨e29 b,0,false⟩]) ?_
 refine oS 6 (λc=>?_) (λc=>?_)
 ·refine oR 5 (atN 2 (ctl1 g108p4)) ((9,.str b.f1)::(8,.ptr 0 7 1)::(6,.bool true)::n) ?_
  refine oC (λ(a:Int)=>(.y a,(mkH [⟨e29 b,0,false⟩]))) (atN 3 (ctl1 g108p4)) 10 (idxH Kr) λa l=>?_
  refine oLH 3 g108p6 [(3,.y a)] (mkH [⟨e29 b,0,false⟩]) ?_
  refine oR 4 (atN 3 (ctl1 g108p6)) [(13,.bool (!decide (a=36))),(12,.bool (!decide (a=36))),(11,.y a),(3,.y a)] ?_
  refine oS 13 (λc=>?_) (λc=>?_)
  ·let o:Env:=[(17,.bool (!decide (a=34))),(16,.bool (!decide (a=34))),(15,.bool (!decide (a=34))),(14,.y a),(13,.bool true),(13,.bool (!decide (a=36))),(12,.bool (!decide (a=36))),(11,.y a),(3,.y a)]
   refine oR 4 (atN 7 (ctl1 g108p6)) o ?_
   refine oS 17 (λc=>?_) (λc=>?_)
   ·refine oR 3 (atN 10 (ctl1 g108p6)) ((20,.bool (decide (a < 48)))::(19,.bool (decide (a < 48)))::(18,.y a)::(17,.bool true)::o) ?_
    refine oS 20 (λc=>?_) (λc=>?_)
    ·exact oQ 7
    ·exact oQ 7
   ·exact oQ 10
  ·exact oQ 14
 ·refine oL 7 g108p7 [(5,.i b.f0),(25,.bool (decide (b.f0=2)))] ?_
  let q:Env:=[(5,.i b.f0),(25,.bool (decide (b.f0=2)))]
  refine oJ g108p9 (λ(m:Bool)=>[(25,.bool m)]) (λ(m:Bool)=>(mkH [])) (λm=>?_) (λu g=>?_)
  ·refine oS 25 (λc=>?_) (λc=>?_)
   ·exact oQ 6
   ·exact oQ 7
  ·refine oS 25 (λc=>?_) (λc=>?_)
   ·refine oLH 2 g108p9 [(25,.bool true)] (mkH [⟨e29 b,0,false⟩]) ?_
    refine qA8 [] [⟨e29 b,0,false⟩] Kr rfl Kr trivial ?_
    exact g true
   ·refine oH 6 g108p13 ((25,.bool (decide (b.f0=3)))::(27,.bool (decide (b.f0=3)))::(25,.bool false)::q) (mkH [⟨e29 b,0,false⟩]) ?_
    refine oS 25 (λc=>?_) (λc=>?_)
    ·refine oL 2 g108p9 [(25,.bool true)] ?_
     refine qA8 [] [⟨e29 b,0,false⟩] Kr rfl Kr trivial ?_
     exact g true
    ·refine oR 6 g108p15 ((25,.bool (decide (b.f0=8)))::(28,.bool (decide (b.f0=8)))::(25,.bool false)::(25,.bool (decide (b.f0=3)))::(27,.bool (decide (b.f0=3)))::(25,.bool false)::q) ?_
     refine oS 25 (λc=>?_) (λc=>?_)
     ·refine oL 2 g108p9 [(25,.bool true)] ?_
      refine qA8 [] [⟨e29 b,0,false⟩] Kr rfl Kr trivial ?_
      exact g true
     ·refine oL 6 g108p17 [(5,.i b.f0),(25,.bool (decide (b.f0=9)))] ?_
      let j:Env:=[(5,.i b.f0),(25,.bool (decide (b.f0=9)))]
      refine oS 25 (λc=>?_) (λc=>?_)
      ·refine oL 2 g108p9 [(25,.bool true)] ?_
       refine qA8 [] [⟨e29 b,0,false⟩] Kr rfl Kr trivial ?_
       exact g true
      ·refine oR 6 g108p19 ((25,.bool (decide (b.f0=10)))::(30,.bool (decide (b.f0=10)))::(25,.bool false)::j) ?_
       refine oS 25 (λc=>?_) (λc=>?_)
       ·refine oL 2 g108p9 [(25,.bool true)] ?_
        refine qA8 [] [⟨e29 b,0,false⟩] Kr rfl Kr trivial ?_
        exact g true
       ·refine oR 6 (nav [0,0] (nav [2,0] g108p19)) ((25,.bool (decide (b.f0=11)))::(31,.bool (decide (b.f0=11)))::(25,.bool false)::(25,.bool (decide (b.f0=10)))::(30,.bool (decide (b.f0=10)))::(25,.bool false)::j) ?_
        refine oS 25 (λc=>?_) (λc=>?_)
        ·refine oL 2 g108p9 [(25,.bool true)] ?_
         refine qA8 [] [⟨e29 b,0,false⟩] Kr rfl Kr trivial ?_
         exact g true
        ·refine oL 5 g108p9 [(25,.bool (decide (b.f0=12)))] ?_
         refine qA8 [] [⟨e29 b,0,false⟩] Kr rfl Kr trivial ?_
         exact g (decide (b.f0=12))
def Xg81:Fx (List LL):=⟨Tryz.prog,cx,Tryz.f81,λr => .agg ((r).map v22),0,λ_=>H0,cxTi,cxOrd,λ_=>none,false⟩
def g81c0:LL:=[([61]:LN),([33]:LN)]
def g81c1:LN:=[111,114,101,108,115,101]
def g81c2:LN:=[97,110,100,97,108,115,111]
def g81c3:LL:=[([61,61]:LN),([47,61]:LN),([61,60]:LN),([60]:LN),([62,61]:LN),([62]:LN),([61,58,61]:LN),([61,47,61]:LN)]
def g81c4:LL:=[([43,43]:LN),([45,45]:LN)]
def g81c5:LL:=[([43]:LN),([45]:LN),([98,111,114]:LN),([98,120,111,114]:LN),([98,115,108]:LN),([98,115,114]:LN),([111,114]:LN),([120,111,114]:LN)]
def g81c6:LL:=[([42]:LN),([47]:LN),([100,105,118]:LN),([114,101,109]:LN),([98,97,110,100]:LN),([97,110,100]:LN)]
def g81c7:List LL:=[([([58,58]:LN)]:LL),([([124]:LN)]:LL),g81c0,([g81c1]:LL),([g81c2]:LL),g81c3,g81c4,g81c5,g81c6]
def g81p1:Pt:=nav [0,0,0] (nav [0] (bodyAt Tryz.f81))
def g81 (k:Nat)  : Option (List LL) :=
 some g81c7
theorem g81_ok (k:Nat)  (r:List LL) (h:g81 k  = some r):PureOk Tryz.prog 81 [] (.agg ((r).map v22)):=by
 refine qA5 Xg81 (λ_=>⟨rfl,rfl⟩) Tryz.func81 (by decide +kernel) Kr (t:=g81 k ) ?_ h
 unfold g81
 refine qA1 (eE:=[]) Kr ?_
 let a:Blk:=⟨[.nils,.nils,.nils,.nils,.nils,.nils,.nils,.nils,.nils],0,false⟩
 refine oH 7 (atN 1 (ctl1 g81p1)) [(1,.slice 1 1 0 1 1),(0,.ptr 0 9 0)] (mkH [a,⟨[.str [58,58]],0,false⟩]) ?_
 refine oZ 1 1 1 1 [.str [58,58]] [0] [] trivial ?_
 refine oH 1 (atN 2 (ctl1 g81p1)) [(2,.slice 2 1 0 1 1),(1,w9 ([([58,58]:LN)]:LL)),(0,.ptr 0 9 0)] (mkH [a,⟨[],0,false⟩,⟨[.str [124]],0,false⟩]) ?_
 refine oZ 2 2 1 1 [.str [124]] [0,1] [] trivial ?_
 refine oH 1 (atN 3 (ctl1 g81p1)) [(3,.slice 3 2 0 2 1),(2,w9 ([([124]:LN)]:LL)),(0,.ptr 0 9 0),(1,w9 ([([58,58]:LN)]:LL))] (mkH [a,⟨[],0,false⟩,⟨[],0,false⟩,⟨[.str [61],.str [33]],0,false⟩]) ?_
 refine oZ 3 3 2 1 [.str [61],.str [33]] [0,1,2] [] trivial ?_
 refine oH 1 (atN 4 (ctl1 g81p1)) [(4,.slice 4 1 0 1 1),(3,w9 g81c0),(0,.ptr 0 9 0),(1,w9 ([([58,58]:LN)]:LL)),(2,w9 ([([124]:LN)]:LL))] (mkH [a,⟨[],0,false⟩,⟨[],0,false⟩,⟨[],0,false⟩,⟨[.str g81c1],0,false⟩]) ?_
 refine oZ 4 4 1 1 [.str g81c1] [0,1,2,3] [] trivial ?_
 refine oH 1 (atN 5 (ctl1 g81p1)) [(5,.slice 5 1 0 1 1),(4,w9 ([g81c1]:LL)),(0,.ptr 0 9 0),(1,w9 ([([58,58]:LN)]:LL)),(2,w9 ([([124]:LN)]:LL)),(3,w9 g81c0)] (mkH [a,⟨[],0,false⟩,⟨[],0,false⟩,⟨[],0,false⟩,⟨[],0,false⟩,⟨[.str g81c2],0,false⟩]) ?_
 refine oZ 5 5 1 1 [.str g81c2] [0,1,2,3,4] [] trivial ?_
 refine oH 1 (atN 6 (ctl1 g81p1)) [(6,.slice 6 8 0 8 1),(5,w9 ([g81c2]:LL)),(0,.ptr 0 9 0),(1,w9 ([([58,58]:LN)]:LL)),(2,w9 ([([124]:LN)]:LL)),(3,w9 g81c0),(4,w9 ([g81c1]:LL))] (mkH [a,⟨[],0,false⟩,⟨[],0,false⟩,⟨[],0,false⟩,⟨[],0,false⟩,⟨[],0,false⟩,⟨[.str [61,61],.str [47,61],.str [61,60],.str [60],.str [62,61],.str [62],.str [61,58,61],.str [61,47,61]],0,false⟩]) ?_
 refine oZ 6 6 8 1 [.str [61,61],.str [47,61],.str [61,60],.str [60],.str [62,61],.str [62],.str [61,58,61],.str [61,47,61]] [0,1,2,3,4,5] [] trivial ?_
 refine oH 1 (atN 7 (ctl1 g81p1)) [(7,.slice 7 2 0 2 1),(6,w9 g81c3),(0,.ptr 0 9 0),(1,w9 ([([58,58]:LN)]:LL)),(2,w9 ([([124]:LN)]:LL)),(3,w9 g81c0),(4,w9 ([g81c1]:LL)),(5,w9 ([g81c2]:LL))] (mkH [a,⟨[],0,false⟩,⟨[],0,false⟩,⟨[],0,false⟩,⟨[],0,false⟩,⟨[],0,false⟩,⟨[],0,false⟩,⟨[.str [43,43],.str [45,45]],0,false⟩]) ?_
 refine oZ 7 7 2 1 [.str [43,43],.str [45,45]] [0,1,2,3,4,5,6] [] trivial ?_
 refine oH 1 (atN 8 (ctl1 g81p1)) [(8,.slice 8 8 0 8 1),(7,w9 g81c4),(0,.ptr 0 9 0),(1,w9 ([([58,58]:LN)]:LL)),(2,w9 ([([124]:LN)]:LL)),(3,w9 g81c0),(4,w9 ([g81c1]:LL)),(5,w9 ([g81c2]:LL)),(6,w9 g81c3)] (mkH [a,⟨[],0,false⟩,⟨[],0,false⟩,⟨[],0,false⟩,⟨[],0,false⟩,⟨[],0,false⟩,⟨[],0,false⟩,⟨[],0,false⟩,⟨[.str [43],.str [45],.str [98,111,114],.str [98,120,111,114],.str [98,115,108],.str [98,115,114],.str [111,114],.str [120,111,114]],0,false⟩]) ?_
 refine oZ 8 8 8 1 [.str [43],.str [45],.str [98,111,114],.str [98,120,111,114],.str [98,115,108],.str [98,115,114],.str [111,114],.str [120,111,114]] [0,1,2,3,4,5,6,7] [] trivial ?_
 refine oH 1 (atN 9 (ctl1 g81p1)) [(9,.slice 9 6 0 6 1),(8,w9 g81c5),(0,.ptr 0 9 0),(1,w9 ([([58,58]:LN)]:LL)),(2,w9 ([([124]:LN)]:LL)),(3,w9 g81c0),(4,w9 ([g81c1]:LL)),(5,w9 ([g81c2]:LL)),(6,w9 g81c3),(7,w9 g81c4)] (mkH [a,⟨[],0,false⟩,⟨[],0,false⟩,⟨[],0,false⟩,⟨[],0,false⟩,⟨[],0,false⟩,⟨[],0,false⟩,⟨[],0,false⟩,⟨[],0,false⟩,⟨[.str [42],.str [47],.str [100,105,118],.str [114,101,109],.str [98,97,110,100],.str [97,110,100]],0,false⟩]) ?_
 refine oZ 9 9 6 1 [.str [42],.str [47],.str [100,105,118],.str [114,101,109],.str [98,97,110,100],.str [97,110,100]] [0,1,2,3,4,5,6,7,8] [] trivial ?_
 exact oQ 4
def Xg50:Fx Int:=⟨Tryz.prog,cx,Tryz.f50,λr => .i r,0,λ_=>H0,cxTi,cxOrd,λ_=>none,false⟩
def g50p1:Pt:=nav [0,0,0,0] (nav [0] (bodyAt Tryz.f50))
def g50p2:Pt:=nav [0,0,0,0] g50p1
def g50p4:Pt:=nav [0,0,0] (nav [0,0] g50p2)
def g50p5:Pt:=nav [1,0,0,0,0] g50p4
def g50p9:Pt:=nav [0,0,0,0] (nav [0,0,0] g50p5)
def g50p11:Pt:=nav [0,0,0] (nav [0,0] g50p9)
def g50p12:Pt:=nav [1,0,0,0,0] g50p11
def g50p13:Pt:=nav [2,0] g50p11
def qI3 (k:Nat) (m:Int→Option Int) (n:LN) (j:List LL) (l:Int) (b:LL) (ih:Int→Int→Int→Option Int):Int→Int→Int→Option Int :=
 λ(a:Int) (c:Int) (g:Int)=>jn (λ(o:Int)=>m (fW .i64 (o+1))) (λq=>if (decide (a < (b.length:Int))) then ((nthL b a).bind λh=>if (eqL h n) then (some (fW .i64 (c+1))) else (ih (fW .i64 (a+1)) c g)) else (q g))
def qNy (k:Nat) (g:Int→Option Int) (h:LN) (a:List LL) (b:Int) (c:LL) (n:Nat):Int→Int→Int→Option Int:=lp (λ_ _ _=>none) (qI3 k g h a b c) n
theorem qNx (k:Nat)  (q:Int→Option Int) (l:LN) (c:List LL) (j:Int) (a:LL) (r:∀ (j:Int),Ok Xg50 g50p2 [(0,.str l),(7,.agg ((c).map v22)),(8,.i j)] (mkH []) (q j)):∀ (n:Nat) (b:Int) (h:Int) (g:Int),Ok Xg50 g50p9 [(0,.str l),(3,.i h),(7,.agg ((c).map v22)),(8,.i g),(12,w9 a),(13,.i (a.length:Int)),(14,.i b)] (mkH []) (qNy k q l c j a n b h g):=by
 intro n
 induction n with
 | zero=>intro b h g; exact ok_none
 | succ n ih =>
  intro b h g
  show Ok _ _ _ _ (qI3 k q l c j a (qNy k q l c j a n) b h g)
  unfold qI3
  refine qAd (p':=nav [0] g50p9) Kr ?_
  let A:Env:=[(15,.bool (decide (b < (a.length:Int)))),(0,.str l),(3,.i h),(7,.agg ((c).map v22)),(8,.i g),(12,w9 a),(13,.i (a.length:Int)),(14,.i b)]
  refine oH 5 g50p11 A (mkH []) ?_
  refine oJ g50p13 (λ(o:Int)=>[(0,.str l),(7,.agg ((c).map v22)),(8,.i o)]) (λ(o:Int)=>(mkH [])) (λo=>?_) (λC u=>?_)
  ·refine oLH 4 g50p2 [(0,.str l),(7,.agg ((c).map v22)),(8,.i (fW .i64 (o+1)))] (mkH []) ?_
   exact r (fW .i64 (o+1))
  ·refine oS 15 (λx=>?_) (λx=>?_)
   ·refine oH 6 (atN 0 (ctl1 g50p12)) ((15,.bool true)::A) (mkH []) ?_
    refine oC (λ(m:LN)=>(.vptr [.str m],(mkH []))) (atN 1 (ctl1 g50p12)) 16 (vidxH (sz:=1) qBq Kr) λm z=>?_
    let B:Env:=[(0,.str l),(3,.i h),(7,.agg ((c).map v22)),(8,.i g),(12,w9 a),(13,.i (a.length:Int)),(14,.i b),(20,.bool (eqL m l))]
    refine oLH 9 (nav [0,0] (nav [0,0,0] g50p12)) B (mkH []) ?_
    refine oS 20 (λx=>?_) (λx=>?_)
    ·exact oQ 8
    ·refine oR 6 g50p9 ((14,.i (fW .i64 (b+1)))::(23,.i (fW .i64 (b+1)))::(20,.bool false)::B) ?_
     refine oK [0,3,7,8,12,13,14] [(0,.str l),(3,.i h),(7,.agg ((c).map v22)),(8,.i g),(12,w9 a),(13,.i (a.length:Int)),(14,.i (fW .i64 (b+1)))] ?_
     exact ih (fW .i64 (b+1)) h g
   ·refine oLH 2 g50p13 [(0,.str l),(7,.agg ((c).map v22)),(8,.i g)] (mkH []) ?_
    exact u g
def qI4 (k:Nat)  (g:LN) (b:List LL) (ih:Int→Option Int):Int→Option Int :=
 λ(a:Int)=>if (decide (a < 9)) then ((nthA b 9 a).bind λc=>qNy k ih g b a c k 0 a a) else (some (0:Int))
def qK6 (k:Nat)  (b:LN) (a:List LL) (n:Nat):Int→Option Int:=lp (λ_=>none) (qI4 k b a) n
theorem qNz (k:Nat)   (g:LN) (b:List LL)  : ∀ (n:Nat) (a:Int),Ok Xg50 g50p2 [(0,.str g),(7,.agg ((b).map v22)),(8,.i a)] (mkH []) (qK6 k g b n a):=by
 intro n
 induction n with
 | zero=>intro a; exact ok_none
 | succ n ih =>
  intro a
  show Ok _ _ _ _ (qI4 k g b (qK6 k g b n) a)
  unfold qI4
  refine qAd (p':=nav [0] g50p2) Kr ?_
  refine oH 5 g50p4 [(9,.bool (decide (a < 9))),(0,.str g),(7,.agg ((b).map v22)),(8,.i a)] (mkH []) ?_
  refine oS 9 (λj=>?_) (λj=>?_)
  ·refine oR 7 (atN 1 (ctl1 g50p5)) [(10,.i a),(9,.bool true),(9,.bool (decide (a < 9))),(0,.str g),(7,.agg ((b).map v22)),(8,.i a)] ?_
   refine oC (λ(c:LL)=>(w9 c,(mkH []))) (atN 2 (ctl1 g50p5)) 11 (aidxH v22 b Kr) λc h=>?_
   refine oLH 11 g50p9 [(0,.str g),(3,.i a),(7,.agg ((b).map v22)),(8,.i a),(12,w9 c),(13,.i (c.length:Int)),(14,.i 0)] (mkH []) ?_
   exact (qNx k (qK6 k g b n) g b a c ih k) 0 a a
  ·exact oQ 7
def g50 (k:Nat) (b:LN):Option Int :=
 (g81 k).bind λa=>qK6 k b a k 0
theorem qEl (k:Nat) (b:LN) (r:Int) (h:g50 k b=some r):PureOk Tryz.prog 50 [.str b] (.i r):=by
 refine qA5 Xg50 (λ_=>⟨rfl,rfl⟩) Tryz.func50 (by decide +kernel) Kr (t:=g50 k b) ?_ h
 unfold g50
 refine qA1 (eE:=[(0,.str b)]) Kr ?_
 refine oH 7 (atN 0 (ctl1 g50p1)) [(2,.i 0),(0,.str b)] (mkH []) ?_
 refine oAp (λ(a:List LL) => .agg ((a).map v22)) (atN 1 (ctl1 g50p1)) 7 [] (λ_=>arr_pur (λ_=>rfl) _) (g81_ok k ) λa c=>?_
 refine oL 4 g50p2 [(0,.str b),(7,.agg ((a).map v22)),(8,.i 0)] ?_
 exact (qNz k b a k) 0
def Xg82:Fx Int:=⟨Tryz.prog,cx,Tryz.f82,λr => .i r,0,λ_=>H0,cxTi,cxOrd,λ_=>none,false⟩
def g82c0:List Int:=[(0:Int),(2:Int),(1:Int),(2:Int),(2:Int),(2:Int),(3:Int),(2:Int),(1:Int),(1:Int)]
def g82p1:Pt:=nav [0,0,0] (nav [0] (bodyAt Tryz.f82))
def g82 (k:Nat) (c:LN):Option Int :=
 (g50 k c).bind λa=>(nthA g82c0 10 a).bind λb=>some b
theorem g82_ok (k:Nat) (a:LN) (r:Int) (h:g82 k a=some r):PureOk Tryz.prog 82 [.str a] (.i r):=by
 refine qA5 Xg82 (λ_=>⟨rfl,rfl⟩) Tryz.func82 (by decide +kernel) Kr (t:=g82 k a) ?_ h
 unfold g82
 refine qA1 (eE:=[(0,.str a)]) Kr ?_
 refine oH 8 (atN 2 (ctl1 g82p1)) [(4,.str a),(3,.agg [.i 0,.i 2,.i 1,.i 2,.i 2,.i 2,.i 3,.i 2,.i 1,.i 1]),(2,.i 0),(0,.str a)] (mkH []) ?_
 refine oA (λ(b:Int) => .i b) (atN 3 (ctl1 g82p1)) 5 [.str a] (qEl k a) λb g=>?_
 refine oC (λ(c:Int)=>(.i c,(mkH []))) (atN 4 (ctl1 g82p1)) 6 (aidxH v3 g82c0 Kr) λc j=>?_
 exact oQ 3
def Xg52:Fx Int:=⟨Tryz.prog,cx,Tryz.f52,λr => .i r,0,λ_=>H0,cxTi,cxOrd,λ_=>none,false⟩
def g52p1:Pt:=nav [0,0,0,0] (nav [0] (bodyAt Tryz.f52))
def g52p2:Pt:=nav [0,0] g52p1
def g52p3:Pt:=nav [1,0] g52p2
def g52p4:Pt:=nav [2,0,0] g52p2
def g52 (k:Nat) (g:LN):Option Int :=
 (g82 k g).bind λa=>if (decide (1 < a)) then ((g50 k g).bind λb=>some (fW .i64 (b+1))) else ((g50 k g).bind λc=>some c)
theorem g52_ok (k:Nat) (a:LN) (r:Int) (h:g52 k a=some r):PureOk Tryz.prog 52 [.str a] (.i r):=by
 refine qA5 Xg52 (λ_=>⟨rfl,rfl⟩) Tryz.func52 (by decide +kernel) Kr (t:=g52 k a) ?_ h
 unfold g52
 refine qA1 (eE:=[(0,.str a)]) Kr ?_
 refine oH 8 (atN 1 (ctl1 g52p1)) [(3,.str a),(2,.i 0),(0,.str a)] (mkH []) ?_
 refine oA (λ(b:Int) => .i b) (atN 2 (ctl1 g52p1)) 4 [.str a] (g82_ok k a) λb j=>?_
 let l:Env:=[(5,.bool (decide (1 < b))),(4,.i b),(3,.str a),(2,.i 0),(0,.str a)]
 refine oR 2 g52p2 l ?_
 refine oS 5 (λo=>?_) (λo=>?_)
 ·refine oR 4 (atN 1 (ctl1 g52p3)) ((6,.str a)::(5,.bool true)::l) ?_
  refine oA (λ(c:Int) => .i c) (atN 2 (ctl1 g52p3)) 7 [.str a] (qEl k a) λc m=>?_
  exact oQ 4
 ·refine oR 5 (atN 1 (ctl1 g52p4)) ((9,.str a)::(5,.bool false)::l) ?_
  refine oA (λ(g:Int) => .i g) (atN 2 (ctl1 g52p4)) 10 [.str a] (qEl k a) λg n=>?_
  exact oQ 3
def Xg54:Fx Int:=⟨Tryz.prog,cx,Tryz.f54,λr => .i r,0,λ_=>H0,cxTi,cxOrd,λ_=>none,false⟩
def g54p1:Pt:=nav [0,0,0,0] (nav [0] (bodyAt Tryz.f54))
def g54p2:Pt:=nav [0,0] g54p1
def g54p3:Pt:=nav [1,0] g54p2
def g54p4:Pt:=nav [2,0,0] g54p2
def g54 (k:Nat) (g:LN):Option Int :=
 (g82 k g).bind λa=>if (decide (andI .i64 a 1=1)) then ((g50 k g).bind λb=>some (fW .i64 (b+1))) else ((g50 k g).bind λc=>some c)
theorem g54_ok (k:Nat) (b:LN) (r:Int) (h:g54 k b=some r):PureOk Tryz.prog 54 [.str b] (.i r):=by
 refine qA5 Xg54 (λ_=>⟨rfl,rfl⟩) Tryz.func54 (by decide +kernel) Kr (t:=g54 k b) ?_ h
 unfold g54
 refine qA1 (eE:=[(0,.str b)]) Kr ?_
 refine oH 8 (atN 1 (ctl1 g54p1)) [(3,.str b),(2,.i 0),(0,.str b)] (mkH []) ?_
 refine oA (λ(a:Int) => .i a) (atN 2 (ctl1 g54p1)) 4 [.str b] (g82_ok k b) λa j=>?_
 let l:Env:=[(6,.bool (decide (andI .i64 a 1=1))),(5,.i (andI .i64 a 1)),(4,.i a),(3,.str b),(2,.i 0),(0,.str b)]
 refine oR 3 g54p2 l ?_
 refine oS 6 (λo=>?_) (λo=>?_)
 ·refine oR 4 (atN 1 (ctl1 g54p3)) ((7,.str b)::(6,.bool true)::l) ?_
  refine oA (λ(c:Int) => .i c) (atN 2 (ctl1 g54p3)) 8 [.str b] (qEl k b) λc m=>?_
  exact oQ 4
 ·refine oR 5 (atN 1 (ctl1 g54p4)) ((10,.str b)::(6,.bool false)::l) ?_
  refine oA (λ(g:Int) => .i g) (atN 2 (ctl1 g54p4)) 11 [.str b] (qEl k b) λg n=>?_
  exact oQ 3
def Xg125:Fx Bool:=⟨Tryz.prog,cx,Tryz.f125,λr => .bool r,0,λ_=>H0,cxTi,cxOrd,λ_=>none,false⟩
def g125p1:Pt:=nav [0,0,0] (nav [0] (bodyAt Tryz.f125))
def g125 (k:Nat) (b:LN) (a:S43):Option Bool :=
 if (decide (0≤a.f2)) then (if (decide (a.f2≤(b.length:Int))) then (some (decide ((a.f1.length:Int)≤fW .i64 ((b.length:Int) - a.f2)))) else (some false)) else (some false)
theorem qDx (k:Nat) (b:LN) (a:S43) (r:Bool) (h:g125 k b a=some r):PureOk Tryz.prog 125 [.str b,.agg [.i a.f0,.str a.f1,.i a.f2]] (.bool r):=by
 refine qA5 Xg125 (λ_=>⟨rfl,rfl⟩) Tryz.func125 (by decide +kernel) Kr (t:=g125 k b a) ?_ h
 unfold g125
 refine qA1 (eE:=[(0,.str b),(1,.agg [.i a.f0,.str a.f1,.i a.f2])]) Kr ?_
 let g:Env:=[(8,.bool (decide (0≤a.f2))),(7,.bool (decide (0≤a.f2))),(6,.i a.f2),(5,.ptr 0 3 2),(4,.bool false),(3,.ptr 0 3 0),(0,.str b),(1,n44 a)]
 refine oH 11 (atN 4 (ctl1 g125p1)) g (mkH [⟨e44 a,0,false⟩]) ?_
 refine oS 8 (λc=>?_) (λc=>?_)
 ·refine oR 7 (atN 11 (ctl1 g125p1)) ((15,.bool (decide (a.f2≤(b.length:Int))))::(14,.bool (decide (a.f2≤(b.length:Int))))::(13,.bool (decide (a.f2≤(b.length:Int))))::(12,.i (b.length:Int))::(11,.str b)::(10,.i a.f2)::(9,.ptr 0 3 2)::(8,.bool true)::g) ?_
  refine oS 15 (λc=>?_) (λc=>?_)
  ·exact oQ 13
  ·exact oQ 13
 ·exact oQ 20
def Xg126:Fx Int:=⟨Tryz.prog,cx,Tryz.f126,λr => .i r,0,λ_=>H0,cxTi,cxOrd,λ_=>none,false⟩
def g126 (k:Nat) (a:S43):Option Int :=
 some (fW .i64 (a.f2+(a.f1.length:Int)))
theorem qOm (k:Nat) (a:S43) (r:Int) (h:g126 k a=some r):PureOk Tryz.prog 126 [.agg [.i a.f0,.str a.f1,.i a.f2]] (.i r):=by
 refine qA5 Xg126 (λ_=>⟨rfl,rfl⟩) Tryz.func126 (by decide +kernel) Kr (t:=g126 k a) ?_ h
 unfold g126
 refine qA1 (eE:=[(0,.agg [.i a.f0,.str a.f1,.i a.f2])]) Kr ?_
 exact oQ 16
abbrev Ti4:Type:=Int→Int→Option Int
def Xi4 (a:Int) (b:Int):Fx Int:=⟨Tryz.prog,cx,Tryz.f127,λr => .tuple [],1,λr=>(mkH [⟨[.i r],1,false⟩]),cxTi,cxOrd,λ_=>none,false⟩
def Pi4 (f:Ti4):Prop := ∀ a b,PNh (Xi4 a b) 127 [.y a,.ptr 0 1 0] (mkH [⟨[.i b],1,false⟩]) (f a b)
def i4 (k:Nat) (b:Int) (a:Int):Option Int :=
 if (decide (b=10)) then (some (fW .i64 (a+1))) else (some a)
theorem i4_all (k:Nat):∀ a b r,i4 k a b=some r→CallT Tryz.prog 127 [.y a,.ptr 0 1 0] (mkH [⟨[.i b],1,false⟩]) ((Xi4 a b).thr r) ((Xi4 a b).enc r) ((Xi4 a b).fin r):=by
 intro a b r h
 refine qA0 (Xi4 a b) Tryz.func127 Kr Kr rfl (t:=i4 k a b) ?_ h
 unfold i4
 refine qA1 (eE:=[(0,.y a),(1,.ptr 0 1 0)]) Kr ?_
 refine oH 5 (nav [0,0] (nav [0] (bodyAt Tryz.f127))) [(4,.bool (decide (a=10))),(3,.y a),(0,.y a),(1,.ptr 0 1 0)] (mkH [⟨[.i b],1,false⟩]) ?_
 refine oS 4 (λc=>?_) (λc=>?_)
 ·exact oQF 6 [⟨[.i (fW .i64 (b+1))],1,false⟩] 1 [] [] (.tuple []) .ps trivial
 ·exact oQF 2 [⟨[.i b],1,false⟩] 1 [] [] (.tuple []) .ps trivial
theorem i4_ok (k:Nat):Pi4 (i4 k):=λa b=>λx h=>i4_all k a b x h
def Xg90:Fx Int:=⟨Tryz.prog,cx,Tryz.f90,λr => .i r,0,λ_=>H0,cxTi,cxOrd,λ_=>none,false⟩
def g90p1:Pt:=nav [0,0,0,0] (nav [0] (bodyAt Tryz.f90))
def g90p2:Pt:=nav [0] g90p1
def g90p7:Pt:=nav [0,0,0,0] (nav [0,0,0] (nav [2,0,0] g90p2))
def g90p8:Pt:=nav [0,0,0,0] g90p7
def g90p9:Pt:=nav [0,0,0] g90p8
def g90p10:Pt:=nav [0,0] g90p9
def g90p11:Pt:=nav [1,0,0,0] g90p10
def g90d0:DP:=⟨[],[(0,0,0),(1,0,0),(3,0,0),(7,0,0),(7,0,0),(23,0,0),(63,0,0),(127,0,0),(255,0,0),(511,0,0),(511,0,0),(511,0,0),(2559,0,0),(7679,0,0),(15871,0,0),(32767,0,0),(65535,0,0),(131071,0,0),(262143,0,0),(524287,0,0),(524287,0,0),(524287,0,0),(3670015,0,0),(7864319,1,1),(16777215,0,0),(33554431,0,0),(67108863,0,0),(134217727,0,0),(268435455,0,0),(268435455,0,0),(805306367,0,0),(2147483647,0,0),(4294967295,2,2),(8589934591,0,0),(268435455,0,0),(268435455,0,0),(51808043007,0,0),(120527519743,0,0),(257966473215,2,3),(549755813887,0,0),(1099511627775,0,0)],41,thrown,[],H0⟩
def qHx (k:Nat)  (j:LN) (l:List S43) (m:Int) (ih:Int→Int→Option Int):Int→Int→Option Int :=
 λ(a:Int) (b:Int)=>(nthL l m).bind λc=>if (decide (a < c.f2)) then ((nthS j a).bind λg=>(i4 k g b).bind λh=>ih (fW .i64 (a+1)) h) else (some b)
def qNl (k:Nat)  (a:LN) (b:List S43) (c:Int) (n:Nat):Int→Int→Option Int:=lp (λ_ _=>none) (qHx k a b c) n
theorem qNk (k:Nat)   (j:LN) (l:List S43) (m:Int)  : ∀ (n:Nat) (b:Int) (c:Int),Ok Xg90 g90p8 [(0,.str j),(1,w44 l),(2,.i m),(7,.ptr 0 1 0),(8,.func 127 [] [.ptr 0 1 0]),(9,.i b)] (mkH [⟨[.i c],1,false⟩]) (qNl k j l m n b c):=by
 intro n
 induction n with
 | zero=>intro b c; exact ok_none
 | succ n ih =>
  intro b c
  show Ok _ _ _ _ (qHx k j l m (qNl k j l m n) b c)
  unfold qHx
  refine qAd (p':=nav [0] g90p8) Kr ?_
  let q:Env:=[(60,.i m),(59,w44 l),(58,.i b),(0,.str j),(1,w44 l),(2,.i m),(7,.ptr 0 1 0),(8,.func 127 [] [.ptr 0 1 0]),(9,.i b)]
  let o:Blk:=⟨[.i c],1,false⟩
  refine oH 6 (atN 3 (ctl1 g90p9)) q (mkH [o]) ?_
  refine oC (λ(a:S43)=>(.vptr [.i a.f0,.str a.f1,.i a.f2],(mkH [o]))) (atN 4 (ctl1 g90p9)) 61 (vidxH (sz:=3) qAs Kr) λa r=>?_
  refine oH 4 g90p10 ((64,.bool (decide (b < a.f2)))::(63,.i a.f2)::(62,.vptr [.i a.f2])::(61,.vptr [.i a.f0,.str a.f1,.i a.f2])::q) (mkH [o]) ?_
  refine oS 64 (λA=>?_) (λA=>?_)
  ·let z:Env:=((69,.i b)::(68,.str j)::(67,.func 127 [] [.ptr 0 1 0])::(64,.bool true)::(64,.bool (decide (b < a.f2)))::(63,.i a.f2)::(62,.vptr [.i a.f2])::(61,.vptr [.i a.f0,.str a.f1,.i a.f2])::q)
   refine oR 8 (atN 3 (ctl1 g90p11)) z ?_
   refine oC (λ(g:Int)=>(.y g,(mkH [o]))) (atN 4 (ctl1 g90p11)) 70 (idxH Kr) λg u=>?_
   refine oN (λ(h:Int) => .tuple []) (λh=>[⟨[.i h],1,false⟩]) (atN 5 (ctl1 g90p11)) 71 [0] [] [] [.y g,.ptr 0 1 0] (i4_ok k g c) trivial (λ_=>trivial) λh x=>?_
   refine oR 1 (nav [0,0] g90p11) ((71,.tuple [])::(70,.y g)::z) ?_
   refine oK0 [0,1,2,7,8,9] ?_
   refine oL 5 g90p8 [(0,.str j),(1,w44 l),(2,.i m),(7,.ptr 0 1 0),(8,.func 127 [] [.ptr 0 1 0]),(9,.i (fW .i64 (b+1)))] ?_
   exact ih (fW .i64 (b+1)) h
  ·exact oQ 8
def g90 (k:Nat) (u:LN) (b:List S43) (a:Int):Option Int :=
 jn (λ(x:Bool)=>if x then (some (0:Int)) else ((nthL b (fW .i64 (a - 1))).bind λo=>(g126 k o).bind λq=>qNl k u b a k q 0)) (λr=>if (decide (a < 1)) then (r true) else (if (decide ((b.length:Int)≤a)) then (r true) else ((nthL b (fW .i64 (a - 1))).bind λc=>(g125 k u c).bind λg=>if (!g) then (r true) else ((nthL b a).bind λh=>(g125 k u h).bind λj=>if (!j) then (r true) else ((nthL b (fW .i64 (a - 1))).bind λl=>(g126 k l).bind λm=>(nthL b a).bind λn=>r (decide (n.f2 < m)))))))
theorem g90_ok (k:Nat) (m:LN) (j:List S43) (c:Int) (r:Int) (h:g90 k m j c=some r):PureOk Tryz.prog 90 [.str m,w44 j,.i c] (.i r):=by
 refine qA5 Xg90 (λ_=>⟨rfl,rfl⟩) Tryz.func90 (by decide +kernel) Kr (t:=g90 k m j c) ?_ h
 unfold g90
 refine qA1 (eE:=[(0,.str m),(1,w44 j),(2,.i c)]) Kr ?_
 refine oH 6 g90p1 [(6,.i 0),(0,.str m),(1,w44 j),(2,.i c)] (mkH []) ?_
 refine oJ g90p2 (λ(z4:Bool)=>[(0,.str m),(1,w44 j),(2,.i c),(50,.bool z4)]) (λ(z4:Bool)=>(mkH [])) (λz4=>?_) (λj4 K=>?_)
 ·refine oS 50 (λhb=>?_) (λhb=>?_)
  ·exact oQ 6
  ·let E2:Env:=[(54,.i (fW .i64 (c - 1))),(53,.i c),(52,w44 j),(8,.func 127 [] [.ptr 0 1 0]),(51,.func 127 [] [.ptr 0 1 0]),(7,.ptr 0 1 0),(50,.bool false),(0,.str m),(1,w44 j),(2,.i c),(50,.bool z4)]
   refine oH 18 (atN 3 (ctl1 g90p7)) E2 (mkH [⟨[.i 0],1,false⟩]) ?_
   refine oC (λ(A:S43)=>(.vptr [.i A.f0,.str A.f1,.i A.f2],(mkH [⟨[.i 0],1,false⟩]))) (atN 4 (ctl1 g90p7)) 55 (vidxH (sz:=3) qAs Kr) λA a8=>?_
   refine oH 1 (atN 5 (ctl1 g90p7)) ((56,n44 A)::(55,.vptr [.i A.f0,.str A.f1,.i A.f2])::E2) (mkH [⟨[.i 0],1,false⟩]) ?_
   refine oA (λ(F:Int) => .i F) (atN 6 (ctl1 g90p7)) 57 [n44 A] (qOm k A) λF a9=>?_
   refine oL 4 g90p8 [(0,.str m),(1,w44 j),(2,.i c),(7,.ptr 0 1 0),(8,.func 127 [] [.ptr 0 1 0]),(9,.i F)] ?_
   exact (qNk k m j c k) F 0
 ·refine qDf (λJ=>?_) (λJ=>?_)
  ·let O:Env:=[(12,.bool (decide (c < 1))),(11,.bool (decide (c < 1))),(10,.i c),(6,.i 0),(0,.str m),(1,w44 j),(2,.i c)]
   let Z:Env:=[(50,.bool true),(49,.tuple []),(48,.tuple []),(47,.tuple []),(46,.tuple []),(45,.tuple []),(44,.tuple []),(43,.tuple []),(42,.tuple []),(41,.tuple []),(40,.tuple []),(39,.tuple []),(38,.tuple []),(37,.bool true),(36,.bool true),(35,.tuple []),(34,.tuple []),(33,.tuple []),(32,.tuple []),(31,.tuple []),(30,.tuple []),(29,.tuple []),(28,.bool true),(27,.bool true),(26,.tuple []),(25,.tuple []),(24,.tuple []),(23,.tuple []),(22,.tuple []),(21,.tuple []),(20,.tuple []),(19,.tuple []),(18,.bool true),(17,.bool true),(16,.tuple []),(15,.tuple []),(14,.tuple []),(13,.tuple []),(12,.bool true),(11,.bool true),(10,.i c),(6,.i 0),(0,.str m),(1,w44 j),(2,.i c)]
   refine oD (H':=(mkH [])) (nav [0] g90p1) Z [(mkH []),(mkH []),(mkH [])] g90d0 (oDr 3 3 O (oDe (λz=>[(12,.bool z),(11,.bool z),(10,.i c),(6,.i 0),(0,.str m),(1,w44 j),(2,.i c)]) J (oDh 38 41 Z (mkH []) [(mkH []),(mkH []),(mkH [])] .nil))) ?_
   refine oK [0,1,2,50] [(0,.str m),(1,w44 j),(2,.i c),(50,.bool true)] ?_
   exact K true
  ·refine qDf (λL=>?_) (λL=>?_)
   ·let O:Env:=[(12,.bool (decide (c < 1))),(11,.bool (decide (c < 1))),(10,.i c),(6,.i 0),(0,.str m),(1,w44 j),(2,.i c)]
    let E:Env:=[(18,.bool (decide ((j.length:Int)≤c))),(17,.bool (decide ((j.length:Int)≤c))),(16,.bool (decide ((j.length:Int)≤c))),(15,.i (j.length:Int)),(14,w44 j),(13,.i c),(12,.bool false),(11,.bool false),(10,.i c),(6,.i 0),(0,.str m),(1,w44 j),(2,.i c)]
    let a3:Env:=[(50,.bool true),(49,.tuple []),(48,.tuple []),(47,.tuple []),(46,.tuple []),(45,.tuple []),(44,.tuple []),(43,.tuple []),(42,.tuple []),(41,.tuple []),(40,.tuple []),(39,.tuple []),(38,.tuple []),(37,.bool true),(36,.bool true),(35,.tuple []),(34,.tuple []),(33,.tuple []),(32,.tuple []),(31,.tuple []),(30,.tuple []),(29,.tuple []),(28,.bool true),(27,.bool true),(26,.tuple []),(25,.tuple []),(24,.tuple []),(23,.tuple []),(22,.tuple []),(21,.tuple []),(20,.tuple []),(19,.tuple []),(18,.bool true),(17,.bool true),(16,.bool true),(15,.i (j.length:Int)),(14,w44 j),(13,.i c),(12,.bool false),(11,.bool false),(10,.i c),(6,.i 0),(0,.str m),(1,w44 j),(2,.i c)]
    refine oD (H':=(mkH [])) (nav [0] g90p1) a3 [(mkH []),(mkH []),(mkH [])] g90d0 (oDr 3 3 O (oDe (λz=>[(12,.bool z),(11,.bool z),(10,.i c),(6,.i 0),(0,.str m),(1,w44 j),(2,.i c)]) J (oDr 6 9 E (oDe (λz=>[(18,.bool z),(17,.bool z),(16,.bool z),(15,.i (j.length:Int)),(14,w44 j),(13,.i c),(12,.bool false),(11,.bool false),(10,.i c),(6,.i 0),(0,.str m),(1,w44 j),(2,.i c)]) L (oDh 32 41 a3 (mkH []) [(mkH []),(mkH []),(mkH [])] .nil))))) ?_
    refine oK [0,1,2,50] [(0,.str m),(1,w44 j),(2,.i c),(50,.bool true)] ?_
    exact K true
   ·refine qA7 (λa C=>?_)
    refine qA7 (λg D=>?_)
    refine qDf (λQ=>?_) (λQ=>?_)
    ·let O:Env:=[(12,.bool (decide (c < 1))),(11,.bool (decide (c < 1))),(10,.i c),(6,.i 0),(0,.str m),(1,w44 j),(2,.i c)]
     let E:Env:=[(18,.bool (decide ((j.length:Int)≤c))),(17,.bool (decide ((j.length:Int)≤c))),(16,.bool (decide ((j.length:Int)≤c))),(15,.i (j.length:Int)),(14,w44 j),(13,.i c),(12,.bool false),(11,.bool false),(10,.i c),(6,.i 0),(0,.str m),(1,w44 j),(2,.i c)]
     let q:Env:=[(22,.i (fW .i64 (c - 1))),(21,.i c),(20,w44 j),(19,.str m),(18,.bool false),(17,.bool false),(16,.bool false),(15,.i (j.length:Int)),(14,w44 j),(13,.i c),(12,.bool false),(11,.bool false),(10,.i c),(6,.i 0),(0,.str m),(1,w44 j),(2,.i c)]
     let M:Env:=((28,.bool (!g))::(27,.bool (!g))::(26,.bool (!g))::(25,.bool g)::(24,n44 a)::(23,.vptr [.i a.f0,.str a.f1,.i a.f2])::q)
     let a4:Env:=[(50,.bool true),(49,.tuple []),(48,.tuple []),(47,.tuple []),(46,.tuple []),(45,.tuple []),(44,.tuple []),(43,.tuple []),(42,.tuple []),(41,.tuple []),(40,.tuple []),(39,.tuple []),(38,.tuple []),(37,.bool true),(36,.bool true),(35,.tuple []),(34,.tuple []),(33,.tuple []),(32,.tuple []),(31,.tuple []),(30,.tuple []),(29,.tuple []),(28,.bool true),(27,.bool true),(26,.bool true),(25,.bool g),(24,n44 a),(23,.vptr [.i a.f0,.str a.f1,.i a.f2]),(22,.i (fW .i64 (c - 1))),(21,.i c),(20,w44 j),(19,.str m),(18,.bool false),(17,.bool false),(16,.bool false),(15,.i (j.length:Int)),(14,w44 j),(13,.i c),(12,.bool false),(11,.bool false),(10,.i c),(6,.i 0),(0,.str m),(1,w44 j),(2,.i c)]
     refine oD (H':=(mkH [])) (nav [0] g90p1) a4 [(mkH []),(mkH []),(mkH [])] g90d0 (oDr 3 3 O (oDe (λz=>[(12,.bool z),(11,.bool z),(10,.i c),(6,.i 0),(0,.str m),(1,w44 j),(2,.i c)]) J (oDr 6 9 E (oDe (λz=>[(18,.bool z),(17,.bool z),(16,.bool z),(15,.i (j.length:Int)),(14,w44 j),(13,.i c),(12,.bool false),(11,.bool false),(10,.i c),(6,.i 0),(0,.str m),(1,w44 j),(2,.i c)]) L (oDr 4 13 q (qAb (l':=(opsAt g90p1).toList.drop 14) (eE:=((23,.vptr [.i a.f0,.str a.f1,.i a.f2])::q)) (hs:=[]) (x:=a) (λ(a:S43)=>(.vptr [.i a.f0,.str a.f1,.i a.f2],(mkH []))) (vidxH (sz:=3) qAs Kr) C Kr (oDr 1 15 ((24,n44 a)::(23,.vptr [.i a.f0,.str a.f1,.i a.f2])::q) (qAq (l':=(opsAt g90p1).toList.drop 16) (eE:=((25,.bool g)::(24,n44 a)::(23,.vptr [.i a.f0,.str a.f1,.i a.f2])::q)) (hs:=[(mkH [])]) (fi:=125) (args:=[.str m,n44 a]) (v := .bool g) Kr Kr Kr (qDx k m a g D) Kr (oDr 3 19 M (oDe (λz=>[(28,.bool z),(27,.bool z),(26,.bool z),(25,.bool g),(24,n44 a),(23,.vptr [.i a.f0,.str a.f1,.i a.f2]),(22,.i (fW .i64 (c - 1))),(21,.i c),(20,w44 j),(19,.str m),(18,.bool false),(17,.bool false),(16,.bool false),(15,.i (j.length:Int)),(14,w44 j),(13,.i c),(12,.bool false),(11,.bool false),(10,.i c),(6,.i 0),(0,.str m),(1,w44 j),(2,.i c)]) Q (oDh 22 41 a4 (mkH []) [(mkH []),(mkH [])] .nil))))))))))) ?_
     refine oK [0,1,2,50] [(0,.str m),(1,w44 j),(2,.i c),(50,.bool true)] ?_
     exact K true
    ·refine qA7 (λb G=>?_)
     refine qA7 (λn I=>?_)
     refine qDf (λV=>?_) (λV=>?_)
     ·let O:Env:=[(12,.bool (decide (c < 1))),(11,.bool (decide (c < 1))),(10,.i c),(6,.i 0),(0,.str m),(1,w44 j),(2,.i c)]
      let E:Env:=[(18,.bool (decide ((j.length:Int)≤c))),(17,.bool (decide ((j.length:Int)≤c))),(16,.bool (decide ((j.length:Int)≤c))),(15,.i (j.length:Int)),(14,w44 j),(13,.i c),(12,.bool false),(11,.bool false),(10,.i c),(6,.i 0),(0,.str m),(1,w44 j),(2,.i c)]
      let q:Env:=[(22,.i (fW .i64 (c - 1))),(21,.i c),(20,w44 j),(19,.str m),(18,.bool false),(17,.bool false),(16,.bool false),(15,.i (j.length:Int)),(14,w44 j),(13,.i c),(12,.bool false),(11,.bool false),(10,.i c),(6,.i 0),(0,.str m),(1,w44 j),(2,.i c)]
      let M:Env:=((28,.bool (!g))::(27,.bool (!g))::(26,.bool (!g))::(25,.bool g)::(24,n44 a)::(23,.vptr [.i a.f0,.str a.f1,.i a.f2])::q)
      let B:Env:=[(31,.i c),(30,w44 j),(29,.str m),(28,.bool false),(27,.bool false),(26,.bool false),(25,.bool g),(24,n44 a),(23,.vptr [.i a.f0,.str a.f1,.i a.f2]),(22,.i (fW .i64 (c - 1))),(21,.i c),(20,w44 j),(19,.str m),(18,.bool false),(17,.bool false),(16,.bool false),(15,.i (j.length:Int)),(14,w44 j),(13,.i c),(12,.bool false),(11,.bool false),(10,.i c),(6,.i 0),(0,.str m),(1,w44 j),(2,.i c)]
      let W:Env:=((37,.bool (!n))::(36,.bool (!n))::(35,.bool (!n))::(34,.bool n)::(33,n44 b)::(32,.vptr [.i b.f0,.str b.f1,.i b.f2])::B)
      let a5:Env:=[(50,.bool true),(49,.tuple []),(48,.tuple []),(47,.tuple []),(46,.tuple []),(45,.tuple []),(44,.tuple []),(43,.tuple []),(42,.tuple []),(41,.tuple []),(40,.tuple []),(39,.tuple []),(38,.tuple []),(37,.bool true),(36,.bool true),(35,.bool true),(34,.bool n),(33,n44 b),(32,.vptr [.i b.f0,.str b.f1,.i b.f2]),(31,.i c),(30,w44 j),(29,.str m),(28,.bool false),(27,.bool false),(26,.bool false),(25,.bool g),(24,n44 a),(23,.vptr [.i a.f0,.str a.f1,.i a.f2]),(22,.i (fW .i64 (c - 1))),(21,.i c),(20,w44 j),(19,.str m),(18,.bool false),(17,.bool false),(16,.bool false),(15,.i (j.length:Int)),(14,w44 j),(13,.i c),(12,.bool false),(11,.bool false),(10,.i c),(6,.i 0),(0,.str m),(1,w44 j),(2,.i c)]
      refine oD (H':=(mkH [])) (nav [0] g90p1) a5 [(mkH []),(mkH []),(mkH [])] g90d0 (oDr 3 3 O (oDe (λz=>[(12,.bool z),(11,.bool z),(10,.i c),(6,.i 0),(0,.str m),(1,w44 j),(2,.i c)]) J (oDr 6 9 E (oDe (λz=>[(18,.bool z),(17,.bool z),(16,.bool z),(15,.i (j.length:Int)),(14,w44 j),(13,.i c),(12,.bool false),(11,.bool false),(10,.i c),(6,.i 0),(0,.str m),(1,w44 j),(2,.i c)]) L (oDr 4 13 q (qAb (l':=(opsAt g90p1).toList.drop 14) (eE:=((23,.vptr [.i a.f0,.str a.f1,.i a.f2])::q)) (hs:=[]) (x:=a) (λ(a:S43)=>(.vptr [.i a.f0,.str a.f1,.i a.f2],(mkH []))) (vidxH (sz:=3) qAs Kr) C Kr (oDr 1 15 ((24,n44 a)::(23,.vptr [.i a.f0,.str a.f1,.i a.f2])::q) (qAq (l':=(opsAt g90p1).toList.drop 16) (eE:=((25,.bool g)::(24,n44 a)::(23,.vptr [.i a.f0,.str a.f1,.i a.f2])::q)) (hs:=[(mkH [])]) (fi:=125) (args:=[.str m,n44 a]) (v := .bool g) Kr Kr Kr (qDx k m a g D) Kr (oDr 3 19 M (oDe (λz=>[(28,.bool z),(27,.bool z),(26,.bool z),(25,.bool g),(24,n44 a),(23,.vptr [.i a.f0,.str a.f1,.i a.f2]),(22,.i (fW .i64 (c - 1))),(21,.i c),(20,w44 j),(19,.str m),(18,.bool false),(17,.bool false),(16,.bool false),(15,.i (j.length:Int)),(14,w44 j),(13,.i c),(12,.bool false),(11,.bool false),(10,.i c),(6,.i 0),(0,.str m),(1,w44 j),(2,.i c)]) Q (oDr 3 22 B (qAb (l':=(opsAt g90p1).toList.drop 23) (eE:=((32,.vptr [.i b.f0,.str b.f1,.i b.f2])::B)) (hs:=[]) (x:=b) (λ(b:S43)=>(.vptr [.i b.f0,.str b.f1,.i b.f2],(mkH []))) (vidxH (sz:=3) qAs Kr) G Kr (oDr 1 24 ((33,n44 b)::(32,.vptr [.i b.f0,.str b.f1,.i b.f2])::B) (qAq (l':=(opsAt g90p1).toList.drop 25) (eE:=((34,.bool n)::(33,n44 b)::(32,.vptr [.i b.f0,.str b.f1,.i b.f2])::B)) (hs:=[(mkH [])]) (fi:=125) (args:=[.str m,n44 b]) (v := .bool n) Kr Kr Kr (qDx k m b n I) Kr (oDr 3 28 W (oDe (λz=>[(37,.bool z),(36,.bool z),(35,.bool z),(34,.bool n),(33,n44 b),(32,.vptr [.i b.f0,.str b.f1,.i b.f2]),(31,.i c),(30,w44 j),(29,.str m),(28,.bool false),(27,.bool false),(26,.bool false),(25,.bool g),(24,n44 a),(23,.vptr [.i a.f0,.str a.f1,.i a.f2]),(22,.i (fW .i64 (c - 1))),(21,.i c),(20,w44 j),(19,.str m),(18,.bool false),(17,.bool false),(16,.bool false),(15,.i (j.length:Int)),(14,w44 j),(13,.i c),(12,.bool false),(11,.bool false),(10,.i c),(6,.i 0),(0,.str m),(1,w44 j),(2,.i c)]) V (oDh 13 41 a5 (mkH []) [(mkH [])] .nil))))))))))))))))) ?_
      refine oK [0,1,2,50] [(0,.str m),(1,w44 j),(2,.i c),(50,.bool true)] ?_
      exact K true
     ·refine qA7 (λl S=>?_)
      refine qA7 (λu T=>?_)
      refine qA7 (λo U=>?_)
      let O:Env:=[(12,.bool (decide (c < 1))),(11,.bool (decide (c < 1))),(10,.i c),(6,.i 0),(0,.str m),(1,w44 j),(2,.i c)]
      let E:Env:=[(18,.bool (decide ((j.length:Int)≤c))),(17,.bool (decide ((j.length:Int)≤c))),(16,.bool (decide ((j.length:Int)≤c))),(15,.i (j.length:Int)),(14,w44 j),(13,.i c),(12,.bool false),(11,.bool false),(10,.i c),(6,.i 0),(0,.str m),(1,w44 j),(2,.i c)]
      let q:Env:=[(22,.i (fW .i64 (c - 1))),(21,.i c),(20,w44 j),(19,.str m),(18,.bool false),(17,.bool false),(16,.bool false),(15,.i (j.length:Int)),(14,w44 j),(13,.i c),(12,.bool false),(11,.bool false),(10,.i c),(6,.i 0),(0,.str m),(1,w44 j),(2,.i c)]
      let M:Env:=((28,.bool (!g))::(27,.bool (!g))::(26,.bool (!g))::(25,.bool g)::(24,n44 a)::(23,.vptr [.i a.f0,.str a.f1,.i a.f2])::q)
      let B:Env:=[(31,.i c),(30,w44 j),(29,.str m),(28,.bool false),(27,.bool false),(26,.bool false),(25,.bool g),(24,n44 a),(23,.vptr [.i a.f0,.str a.f1,.i a.f2]),(22,.i (fW .i64 (c - 1))),(21,.i c),(20,w44 j),(19,.str m),(18,.bool false),(17,.bool false),(16,.bool false),(15,.i (j.length:Int)),(14,w44 j),(13,.i c),(12,.bool false),(11,.bool false),(10,.i c),(6,.i 0),(0,.str m),(1,w44 j),(2,.i c)]
      let W:Env:=((37,.bool (!n))::(36,.bool (!n))::(35,.bool (!n))::(34,.bool n)::(33,n44 b)::(32,.vptr [.i b.f0,.str b.f1,.i b.f2])::B)
      let N:Env:=[(40,.i (fW .i64 (c - 1))),(39,.i c),(38,w44 j),(37,.bool false),(36,.bool false),(35,.bool false),(34,.bool n),(33,n44 b),(32,.vptr [.i b.f0,.str b.f1,.i b.f2]),(31,.i c),(30,w44 j),(29,.str m),(28,.bool false),(27,.bool false),(26,.bool false),(25,.bool g),(24,n44 a),(23,.vptr [.i a.f0,.str a.f1,.i a.f2]),(22,.i (fW .i64 (c - 1))),(21,.i c),(20,w44 j),(19,.str m),(18,.bool false),(17,.bool false),(16,.bool false),(15,.i (j.length:Int)),(14,w44 j),(13,.i c),(12,.bool false),(11,.bool false),(10,.i c),(6,.i 0),(0,.str m),(1,w44 j),(2,.i c)]
      let Y:Env:=((45,.i c)::(44,w44 j)::(43,.i u)::(42,n44 l)::(41,.vptr [.i l.f0,.str l.f1,.i l.f2])::N)
      let a6:Env:=((50,.bool (decide (o.f2 < u)))::(49,.bool (decide (o.f2 < u)))::(48,.i o.f2)::(47,.vptr [.i o.f2])::(46,.vptr [.i o.f0,.str o.f1,.i o.f2])::Y)
      refine oD (H':=(mkH [])) (nav [0] g90p1) a6 [(mkH []),(mkH []),(mkH [])] g90d0 (oDr 3 3 O (oDe (λz=>[(12,.bool z),(11,.bool z),(10,.i c),(6,.i 0),(0,.str m),(1,w44 j),(2,.i c)]) J (oDr 6 9 E (oDe (λz=>[(18,.bool z),(17,.bool z),(16,.bool z),(15,.i (j.length:Int)),(14,w44 j),(13,.i c),(12,.bool false),(11,.bool false),(10,.i c),(6,.i 0),(0,.str m),(1,w44 j),(2,.i c)]) L (oDr 4 13 q (qAb (l':=(opsAt g90p1).toList.drop 14) (eE:=((23,.vptr [.i a.f0,.str a.f1,.i a.f2])::q)) (hs:=[]) (x:=a) (λ(a:S43)=>(.vptr [.i a.f0,.str a.f1,.i a.f2],(mkH []))) (vidxH (sz:=3) qAs Kr) C Kr (oDr 1 15 ((24,n44 a)::(23,.vptr [.i a.f0,.str a.f1,.i a.f2])::q) (qAq (l':=(opsAt g90p1).toList.drop 16) (eE:=((25,.bool g)::(24,n44 a)::(23,.vptr [.i a.f0,.str a.f1,.i a.f2])::q)) (hs:=[(mkH [])]) (fi:=125) (args:=[.str m,n44 a]) (v := .bool g) Kr Kr Kr (qDx k m a g D) Kr (oDr 3 19 M (oDe (λz=>[(28,.bool z),(27,.bool z),(26,.bool z),(25,.bool g),(24,n44 a),(23,.vptr [.i a.f0,.str a.f1,.i a.f2]),(22,.i (fW .i64 (c - 1))),(21,.i c),(20,w44 j),(19,.str m),(18,.bool false),(17,.bool false),(16,.bool false),(15,.i (j.length:Int)),(14,w44 j),(13,.i c),(12,.bool false),(11,.bool false),(10,.i c),(6,.i 0),(0,.str m),(1,w44 j),(2,.i c)]) Q (oDr 3 22 B (qAb (l':=(opsAt g90p1).toList.drop 23) (eE:=((32,.vptr [.i b.f0,.str b.f1,.i b.f2])::B)) (hs:=[]) (x:=b) (λ(b:S43)=>(.vptr [.i b.f0,.str b.f1,.i b.f2],(mkH []))) (vidxH (sz:=3) qAs Kr) G Kr (oDr 1 24 ((33,n44 b)::(32,.vptr [.i b.f0,.str b.f1,.i b.f2])::B) (qAq (l':=(opsAt g90p1).toList.drop 25) (eE:=((34,.bool n)::(33,n44 b)::(32,.vptr [.i b.f0,.str b.f1,.i b.f2])::B)) (hs:=[(mkH [])]) (fi:=125) (args:=[.str m,n44 b]) (v := .bool n) Kr Kr Kr (qDx k m b n I) Kr (oDr 3 28 W (oDe (λz=>[(37,.bool z),(36,.bool z),(35,.bool z),(34,.bool n),(33,n44 b),(32,.vptr [.i b.f0,.str b.f1,.i b.f2]),(31,.i c),(30,w44 j),(29,.str m),(28,.bool false),(27,.bool false),(26,.bool false),(25,.bool g),(24,n44 a),(23,.vptr [.i a.f0,.str a.f1,.i a.f2]),(22,.i (fW .i64 (c - 1))),(21,.i c),(20,w44 j),(19,.str m),(18,.bool false),(17,.bool false),(16,.bool false),(15,.i (j.length:Int)),(14,w44 j),(13,.i c),(12,.bool false),(11,.bool false),(10,.i c),(6,.i 0),(0,.str m),(1,w44 j),(2,.i c)]) V (oDr 3 31 N (qAb (l':=(opsAt g90p1).toList.drop 32) (eE:=((41,.vptr [.i l.f0,.str l.f1,.i l.f2])::N)) (hs:=[]) (x:=l) (λ(l:S43)=>(.vptr [.i l.f0,.str l.f1,.i l.f2],(mkH []))) (vidxH (sz:=3) qAs Kr) S Kr (oDr 1 33 ((42,n44 l)::(41,.vptr [.i l.f0,.str l.f1,.i l.f2])::N) (qAq (l':=(opsAt g90p1).toList.drop 34) (eE:=((43,.i u)::(42,n44 l)::(41,.vptr [.i l.f0,.str l.f1,.i l.f2])::N)) (hs:=[(mkH [])]) (fi:=126) (args:=[n44 l]) (v := .i u) Kr Kr Kr (qOm k l u T) Kr (oDr 2 36 Y (qAb (l':=(opsAt g90p1).toList.drop 37) (eE:=((46,.vptr [.i o.f0,.str o.f1,.i o.f2])::Y)) (hs:=[]) (x:=o) (λ(o:S43)=>(.vptr [.i o.f0,.str o.f1,.i o.f2],(mkH []))) (vidxH (sz:=3) qAs Kr) U Kr (oDr 4 41 a6 .nil))))))))))))))))))))))) ?_
      refine oK [0,1,2,50] [(0,.str m),(1,w44 j),(2,.i c),(50,.bool (decide (o.f2 < u)))] ?_
      exact K (decide (o.f2 < u))
def Xg64:Fx Bool:=⟨Tryz.prog,cx,Tryz.f64,λr => .bool r,0,λ_=>H0,cxTi,cxOrd,λ_=>none,false⟩
def g64p1:Pt:=nav [0,0,0] (nav [0] (bodyAt Tryz.f64))
def g64 (k:Nat) (b:LN) (c:List S43) (g:Int):Option Bool :=
 (g90 k b c g).bind λa=>some (decide (1 < a))
theorem g64_ok (k:Nat) (a:LN) (b:List S43) (c:Int) (r:Bool) (h:g64 k a b c=some r):PureOk Tryz.prog 64 [.str a,w44 b,.i c] (.bool r):=by
 refine qA5 Xg64 (λ_=>⟨rfl,rfl⟩) Tryz.func64 (by decide +kernel) Kr (t:=g64 k a b c) ?_ h
 unfold g64
 refine qA1 (eE:=[(0,.str a),(1,w44 b),(2,.i c)]) Kr ?_
 refine oH 9 (atN 3 (ctl1 g64p1)) [(9,.i c),(8,w44 b),(7,.str a),(6,.bool false),(0,.str a),(1,w44 b),(2,.i c)] (mkH []) ?_
 refine oA (λ(g:Int) => .i g) (atN 4 (ctl1 g64p1)) 10 [.str a,w44 b,.i c] (g90_ok k a b c) λg j=>?_
 exact oQ 4
def Xg78:Fx Int:=⟨Tryz.prog,cx,Tryz.f78,λr => .i r,0,λ_=>H0,cxTi,cxOrd,λ_=>none,false⟩
def g78p3:Pt:=nav [0,0] (nav [0,0,0,0,0] (nav [0,0,0,0] (nav [0] (bodyAt Tryz.f78))))
def g78p4:Pt:=nav [1,0] g78p3
def g78p8:Pt:=nav [0,0] (nav [2,0] g78p3)
def g78 (k:Nat) (a:LN):Option Int :=
 jn (λ(c:Bool)=>if c then (some (10:Int)) else (some (0:Int))) (λb=>if (eqL a [43]) then (b true) else (if (eqL a [45]) then (b true) else (if (eqL a [110,111,116]) then (b true) else (b (eqL a [98,110,111,116])))))
theorem g78_ok (k:Nat) (a:LN) (r:Int) (h:g78 k a=some r):PureOk Tryz.prog 78 [.str a] (.i r):=by
 refine qA5 Xg78 (λ_=>⟨rfl,rfl⟩) Tryz.func78 (by decide +kernel) Kr (t:=g78 k a) ?_ h
 unfold g78
 refine qA1 (eE:=[(0,.str a)]) Kr ?_
 let j:Env:=[(4,.bool (eqL a [43])),(5,.bool (eqL a [43])),(3,.str a),(2,.i 0),(0,.str a)]
 refine oH 16 g78p3 j (mkH []) ?_
 refine oJ g78p4 (λ(g:Bool)=>[(4,.bool g)]) (λ(g:Bool)=>(mkH [])) (λg=>?_) (λl b=>?_)
 ·refine oS 4 (λc=>?_) (λc=>?_)
  ·exact oQ 6
  ·exact oQ 7
 ·refine oS 4 (λc=>?_) (λc=>?_)
  ·refine oLH 2 g78p4 [(4,.bool true)] (mkH []) ?_
   exact b true
  ·refine oH 6 g78p8 ((4,.bool (eqL a [45]))::(6,.bool (eqL a [45]))::(4,.bool false)::j) (mkH []) ?_
   refine oS 4 (λc=>?_) (λc=>?_)
   ·refine oL 2 g78p4 [(4,.bool true)] ?_
    exact b true
   ·refine oL 6 (nav [0,0] (nav [2,0] g78p8)) [(3,.str a),(4,.bool (eqL a [110,111,116]))] ?_
    refine oS 4 (λc=>?_) (λc=>?_)
    ·refine oL 2 g78p4 [(4,.bool true)] ?_
     exact b true
    ·refine oL 5 g78p4 [(4,.bool (eqL a [98,110,111,116]))] ?_
     exact b (eqL a [98,110,111,116])
def Xg99:Fx Bool:=⟨Tryz.prog,cx,Tryz.f99,λr => .bool r,0,λ_=>H0,cxTi,cxOrd,λ_=>none,false⟩
def g99 (k:Nat) (a:Int):Option Bool :=
 if (decide (1≤a)) then (some (decide (a≤7))) else (some false)
theorem g99_ok (k:Nat) (a:Int) (r:Bool) (h:g99 k a=some r):PureOk Tryz.prog 99 [.i a] (.bool r):=by
 refine qA5 Xg99 (λ_=>⟨rfl,rfl⟩) Tryz.func99 (by decide +kernel) Kr (t:=g99 k a) ?_ h
 unfold g99
 refine qA1 (eE:=[(0,.i a)]) Kr ?_
 refine oH 9 (atN 3 (ctl1 (nav [0,0,0] (nav [0] (bodyAt Tryz.f99))))) [(5,.bool (decide (1≤a))),(4,.bool (decide (1≤a))),(3,.i a),(2,.bool false),(0,.i a)] (mkH []) ?_
 refine oS 5 (λb=>?_) (λb=>?_)
 ·exact oQ 6
 ·exact oQ 6
abbrev Ti18:Type:=LN→(List S43)→Int→Int→Option Bool
def Xi18 (a:LN) (b:List S43) (c:Int) (g:Int):Fx Bool:=⟨Tryz.prog,cx,Tryz.f68,λr => .bool r,1,λr=>(mkH [⟨[.str a,w44 b,.i c,.i g],4,false⟩]),cxTi,cxOrd,λ_=>none,false⟩
def Pi18 (f:Ti18):Prop := ∀ a b c g,PNh (Xi18 a b c g) 68 [.ptr 0 4 0] (mkH [⟨[.str a,w44 b,.i c,.i g],4,false⟩]) (f a b c g)
def i18p1:Pt:=nav [0,0,0] (nav [0] (bodyAt Tryz.f68))
def i18d0:DP:=⟨[],[(0,0,0),(1,0,0),(3,0,0),(7,0,0),(0,0,0),(16,0,0),(48,0,0),(112,0,0),(255,0,0),(511,0,0),(1023,0,0),(2047,0,0),(4095,0,0),(8191,0,0),(1023,0,0),(17407,0,0),(50175,0,0),(115711,0,0),(262143,0,0),(524287,0,0),(1048575,0,0),(2097151,0,0),(4194303,0,0),(8388607,0,0)],24,thrown,[],H0⟩
def i18 (k:Nat) (h:LN) (c:List S43) (b:Int) (g:Int):Option Bool :=
 if (decide (b < g)) then ((nthL c b).bind λa=>some (decide (a.f0=11))) else (some false)
theorem i18_all (k:Nat):∀ j g b c r,i18 k j g b c=some r→CallT Tryz.prog 68 [.ptr 0 4 0] (mkH [⟨[.str j,w44 g,.i b,.i c],4,false⟩]) ((Xi18 j g b c).thr r) ((Xi18 j g b c).enc r) ((Xi18 j g b c).fin r):=by
 intro j g b c r h
 refine qA0 (Xi18 j g b c) Tryz.func68 Kr Kr rfl (t:=i18 k j g b c) ?_ h
 unfold i18
 refine qA1 (eE:=[(0,.ptr 0 4 0)]) Kr ?_
 let n:Blk:=⟨[.str j,w44 g,.i b,.i c],4,false⟩
 refine oH 5 i18p1 [(2,.bool false),(0,.ptr 0 4 0)] (mkH [n]) ?_
 refine qDf (λm=>?_) (λm=>?_)
 ·refine qA7 (λa l=>?_)
  let o:Env:=[(12,.bool (decide (b < c))),(11,.bool (decide (b < c))),(10,.i c),(9,.ptr 0 4 3),(8,.ptr 0 4 0),(7,.ptr 0 4 0),(6,.i b),(5,.ptr 0 4 2),(4,.ptr 0 4 0),(3,.ptr 0 4 0),(2,.bool false),(0,.ptr 0 4 0)]
  let q:Env:=[(20,.i b),(19,.ptr 0 4 2),(18,.ptr 0 4 0),(17,.ptr 0 4 0),(16,w44 g),(15,.ptr 0 4 1),(14,.ptr 0 4 0),(13,.ptr 0 4 0),(12,.bool true),(11,.bool true),(10,.i c),(9,.ptr 0 4 3),(8,.ptr 0 4 0),(7,.ptr 0 4 0),(6,.i b),(5,.ptr 0 4 2),(4,.ptr 0 4 0),(3,.ptr 0 4 0),(2,.bool false),(0,.ptr 0 4 0)]
  let u:Env:=((2,.bool (decide (a.f0=11)))::(25,.bool (decide (a.f0=11)))::(24,.bool (decide (a.f0=11)))::(23,.i a.f0)::(22,.vptr [.i a.f0,.str a.f1,.i a.f2])::(21,.vptr [.i a.f0,.str a.f1,.i a.f2])::q)
  refine oD (H':=(mkH [n])) (nav [0] i18p1) u [] i18d0 (oDr 10 10 o (oDe (λz=>[(12,.bool z),(11,.bool z),(10,.i c),(9,.ptr 0 4 3),(8,.ptr 0 4 0),(7,.ptr 0 4 0),(6,.i b),(5,.ptr 0 4 2),(4,.ptr 0 4 0),(3,.ptr 0 4 0),(2,.bool false),(0,.ptr 0 4 0)]) m (oDr 8 18 q (qAb (l':=(opsAt i18p1).toList.drop 19) (eE:=((21,.vptr [.i a.f0,.str a.f1,.i a.f2])::q)) (hs:=[]) (x:=a) (λ(a:S43)=>(.vptr [.i a.f0,.str a.f1,.i a.f2],(mkH [n]))) (vidxH (sz:=3) qAs Kr) l Kr (oDr 5 24 u .nil))))) ?_
  exact oQF 1 [n] 1 [] [.bool (decide (a.f0=11))] (.bool (decide (a.f0=11))) .ps trivial
 ·let o:Env:=[(12,.bool (decide (b < c))),(11,.bool (decide (b < c))),(10,.i c),(9,.ptr 0 4 3),(8,.ptr 0 4 0),(7,.ptr 0 4 0),(6,.i b),(5,.ptr 0 4 2),(4,.ptr 0 4 0),(3,.ptr 0 4 0),(2,.bool false),(0,.ptr 0 4 0)]
  let A:Env:=[(2,.bool false),(25,.bool false),(24,.tuple []),(23,.tuple []),(22,.tuple []),(21,.tuple []),(20,.tuple []),(19,.tuple []),(18,.tuple []),(17,.tuple []),(16,.tuple []),(15,.tuple []),(14,.tuple []),(13,.tuple []),(12,.bool false),(11,.bool false),(10,.i c),(9,.ptr 0 4 3),(8,.ptr 0 4 0),(7,.ptr 0 4 0),(6,.i b),(5,.ptr 0 4 2),(4,.ptr 0 4 0),(3,.ptr 0 4 0),(2,.bool false),(0,.ptr 0 4 0)]
  refine oD (H':=(mkH [n])) (nav [0] i18p1) A [] i18d0 (oDr 10 10 o (oDe (λz=>[(12,.bool z),(11,.bool z),(10,.i c),(9,.ptr 0 4 3),(8,.ptr 0 4 0),(7,.ptr 0 4 0),(6,.i b),(5,.ptr 0 4 2),(4,.ptr 0 4 0),(3,.ptr 0 4 0),(2,.bool false),(0,.ptr 0 4 0)]) m (oDr 14 24 A .nil))) ?_
  exact oQF 1 [n] 1 [] [.bool false] (.bool false) .ps trivial
theorem qN4 (k:Nat):Pi18 (i18 k):=λa b c g=>λx h=>i18_all k a b c g x h
abbrev Ri11:Type:=(LL×Int)
abbrev Ti11:Type:=LN→(List S43)→Int→Int→Option Ri11
def Xi11 (a:LN) (b:List S43) (g:Int) (c:Int):Fx Ri11:=⟨Tryz.prog,cx,Tryz.f33,λr=>w9 r.1,1,λr=>(mkH [⟨[.str a,w44 b,.i r.2,.i c],4,false⟩]),cxTi,cxOrd,λ_=>none,false⟩
def Pi11 (f:Ti11):Prop := ∀ a b c g,PNh (Xi11 a b c g) 33 [.ptr 0 4 0] (mkH [⟨[.str a,w44 b,.i c,.i g],4,false⟩]) (f a b c g)
def i11p1:Pt:=nav [0,0,0] (nav [0] (bodyAt Tryz.f33))
def i11p2:Pt:=nav [0,0,0,0,0] i11p1
def i11p3:Pt:=nav [0,0,0] i11p2
def i11p4:Pt:=nav [0,0] i11p3
def i11p5:Pt:=nav [1,0,0,0] i11p4
def i11d0:DP:=⟨[18],[(0,0,0),(0,0,0),(2,0,0),(6,0,0),(14,0,0),(0,0,0),(32,0,0),(96,0,0),(224,0,0),(510,0,0),(1022,0,0),(2046,0,0),(4094,0,0),(8191,0,0),(16383,0,0)],15,thrown,[],H0⟩
def qHt (k:Nat)  (l:LN) (j:List S43) (m:Int) (ih:Int→LL→Option Ri11):Int→LL→Option Ri11 :=
 λ(a:Int) (b:LL)=>(i18 k l j a m).bind λg=>if g then ((nthL j a).bind λh=>(appS 16 b ([h.f1]:LL)).bind λc=>ih (fW .i64 (a+1)) c) else (some (b,a))
def qNc (k:Nat)  (a:LN) (b:List S43) (c:Int) (n:Nat):Int→LL→Option Ri11:=lp (λ_ _=>none) (qHt k a b c) n
theorem qNb (k:Nat) (o:LN) (j:List S43) (C:Int) (q:Int)    : ∀ (n:Nat) (g:Int) (c:LL),Ok (Xi11 o j C q) i11p2 [(0,.ptr 0 4 0),(3,.own 1 (c).length 1)] (mkH [⟨[.str o,w44 j,.i g,.i q],4,false⟩,⟨(c).flatMap e9,0,false⟩]) (qNc k o j q n g c):=by
 intro n
 induction n with
 | zero=>intro g c; exact ok_none
 | succ n ih =>
  intro g c
  show Ok _ _ _ _ (qHt k o j q (qNc k o j q n) g c)
  unfold qHt
  refine qAd (p':=nav [0] i11p2) Kr ?_
  let l:Blk:=⟨[.str o,w44 j,.i g,.i q],4,false⟩
  let u:Blk:=⟨(c).flatMap e9,0,false⟩
  refine oH 4 (atN 1 (ctl1 i11p3)) [(4,.ptr 0 4 0),(0,.ptr 0 4 0),(3,.own 1 (c).length 1)] (mkH [l,u]) ?_
  refine oN (λ(h:Bool) => .bool h) (λh=>[l,u]) (atN 2 (ctl1 i11p3)) 5 [0] [] [] [.ptr 0 4 0] (qN4 k o j g q) trivial (λ_=>trivial) λh A=>?_
  refine oR 1 i11p4 [(5,.bool h),(4,.ptr 0 4 0),(0,.ptr 0 4 0),(3,.own 1 (c).length 1)] ?_
  refine oS 5 (λD=>?_) (λD=>?_)
  ·refine oR 4 i11p5 [(5,.bool true),(5,.bool h),(4,.ptr 0 4 0),(0,.ptr 0 4 0),(3,.own 1 (c).length 1)] ?_
   refine qA7 (λa r=>?_)
   refine qA7 (λb m=>?_)
   let z:Env:=[(14,.i g),(13,.ptr 0 4 2),(12,.ptr 0 4 0),(11,.ptr 0 4 0),(10,w44 j),(9,.ptr 0 4 1),(8,.ptr 0 4 0),(7,.ptr 0 4 0),(6,.own 1 (c).length 1),(5,.bool true),(5,.bool h),(4,.ptr 0 4 0),(0,.ptr 0 4 0),(3,.own 1 (c).length 1)]
   let B:Env:=((19,.own 1 (b).length 1)::(18,w9 ([a.f1]:LL))::(17,.str a.f1)::(16,.vptr [.str a.f1,.i a.f2])::(15,.vptr [.i a.f0,.str a.f1,.i a.f2])::z)
   refine oD (H':=(mkH [l,⟨(b).flatMap e9,0,false⟩])) (nav [0] i11p5) ((3,.own 1 (b).length 1)::B) [(mkH [l,⟨(b).flatMap e9,0,false⟩])] i11d0 (oDr 9 9 z (qAb (l':=(opsAt i11p5).toList.drop 10) (eE:=((15,.vptr [.i a.f0,.str a.f1,.i a.f2])::z)) (hs:=[]) (x:=a) (λ(a:S43)=>(.vptr [.i a.f0,.str a.f1,.i a.f2],(mkH [l,u]))) (vidxH (sz:=3) qAs Kr) r Kr (oDr 3 13 ((18,w9 ([a.f1]:LL))::(17,.str a.f1)::(16,.vptr [.str a.f1,.i a.f2])::(15,.vptr [.i a.f0,.str a.f1,.i a.f2])::z) (qAb (l':=(opsAt i11p5).toList.drop 14) (eE:=B) (hs:=[(mkH [l,⟨(b).flatMap e9,0,false⟩])]) (x:=b) (λ(b:LL)=>(.own 1 (b).length 1,(mkH [l,⟨(b).flatMap e9,0,false⟩]))) (appHV (sz:=1) qBq rfl e9_one [l,u] 1 16 c ([a.f1]:LL) rfl rfl Kr) m Kr (oDr 1 15 ((3,.own 1 (b).length 1)::B) .nil))))) ?_
   refine oLH 10 i11p2 [(0,.ptr 0 4 0),(3,.own 1 (b).length 1)] (mkH [⟨[.str o,w44 j,.i (fW .i64 (g+1)),.i q],4,false⟩,⟨(b).flatMap e9,0,false⟩]) ?_
   exact ih (fW .i64 (g+1)) b
  ·exact oQF 8 [l,u] 1 [] [.own 1 (c).length 1] (w9 c) (qAl qBq e9_pur rfl rfl rfl .ps) trivial
def i11 (k:Nat) (a:LN) (b:List S43) (c:Int) (g:Int):Option Ri11 :=
 qNc k a b g k c ([]:LL)
theorem i11_all (k:Nat):∀ b c a g r,i11 k b c a g=some r→CallT Tryz.prog 33 [.ptr 0 4 0] (mkH [⟨[.str b,w44 c,.i a,.i g],4,false⟩]) ((Xi11 b c a g).thr r) ((Xi11 b c a g).enc r) ((Xi11 b c a g).fin r):=by
 intro b c a g r h
 refine qA0 (Xi11 b c a g) Tryz.func33 Kr Kr rfl (t:=i11 k b c a g) ?_ h
 unfold i11
 refine qA1 (eE:=[(0,.ptr 0 4 0)]) Kr ?_
 let j:Blk:=⟨[.str b,w44 c,.i a,.i g],4,false⟩
 refine oH 7 (atN 1 (ctl1 i11p1)) [(3,.nils),(2,.nils),(0,.ptr 0 4 0)] (mkH [j]) ?_
 refine qCn [j] 3 1 rfl Kr ?_
 refine oLH 4 i11p2 [(0,.ptr 0 4 0),(3,.own 1 (([]:LL)).length 1)] (mkH [j,⟨(([]:LL)).flatMap e9,0,false⟩]) ?_
 exact (qNb k b c a g k) a ([]:LL)
theorem qAr (k:Nat):Pi11 (i11 k):=λa b c g=>λx h=>i11_all k a b c g x h
abbrev Ti15:Type:=LN→(List S43)→Int→Int→Option S43
def Xi15 (a:LN) (b:List S43) (c:Int) (g:Int):Fx S43:=⟨Tryz.prog,cx,Tryz.f49,λr=>n44 r,1,λr=>(mkH [⟨[.str a,w44 b,.i c,.i g],4,false⟩]),cxTi,cxOrd,λ_=>none,false⟩
def Pi15 (f:Ti15):Prop := ∀ a b c g,PNh (Xi15 a b c g) 49 [.ptr 0 4 0] (mkH [⟨[.str a,w44 b,.i c,.i g],4,false⟩]) (f a b c g)
def i15p2:Pt:=nav [0,0,0,0] (nav [0,0,0,0] (nav [0] (bodyAt Tryz.f49)))
def i15p4:Pt:=nav [0,0] (nav [0,0,0] i15p2)
def i15p5:Pt:=nav [1,0,0,0,0] i15p4
def i15p7:Pt:=nav [0,0] i15p5
def i15p9:Pt:=nav [1,0] i15p7
def qHr (k:Nat)  (j:LN) (g:List S43) (l:Int) (h:Int) (ih:Int→Option S43):Int→Option S43 :=
 λ(a:Int)=>if (decide (a < h)) then ((nthL g a).bind λb=>if (!decide (b.f0=11)) then ((nthL g a).bind λc=>some c) else (ih (fW .i64 (a+1)))) else (some (⟨(0:Int),([]:LN),(0:Int)⟩:S43))
def qN7 (k:Nat)  (a:LN) (b:List S43) (c:Int) (g:Int) (n:Nat):Int→Option S43:=lp (λ_=>none) (qHr k a b c g) n
theorem qN6 (k:Nat) (j:LN) (g:List S43) (l:Int) (h:Int)    : ∀ (n:Nat) (a:Int),Ok (Xi15 j g l h) i15p2 [(0,.ptr 0 4 0),(2,.ptr 1 3 0),(3,.i a)] (mkH [⟨[.str j,w44 g,.i l,.i h],4,false⟩,⟨[.i 0,.str [],.i 0],0,false⟩]) (qN7 k j g l h n a):=by
 intro n
 induction n with
 | zero=>intro a; exact ok_none
 | succ n ih =>
  intro a
  show Ok _ _ _ _ (qHr k j g l h (qN7 k j g l h n) a)
  unfold qHr
  refine qAd (p':=nav [0] i15p2) Kr ?_
  let x:Env:=[(13,.bool (decide (a < h))),(12,.i h),(11,.ptr 0 4 3),(10,.ptr 0 4 0),(9,.ptr 0 4 0),(8,.i a),(0,.ptr 0 4 0),(2,.ptr 1 3 0),(3,.i a)]
  let m:Blk:=⟨[.str j,w44 g,.i l,.i h],4,false⟩
  let o:Blk:=⟨[.i 0,.str [],.i 0],0,false⟩
  refine oH 10 i15p4 x (mkH [m,o]) ?_
  refine oS 13 (λq=>?_) (λq=>?_)
  ·refine oR 11 (atN 5 (ctl1 i15p5)) ((20,.i a)::(19,w44 g)::(18,.ptr 0 4 1)::(17,.ptr 0 4 0)::(16,.ptr 0 4 0)::(13,.bool true)::x) ?_
   refine oC (λ(c:S43)=>(.vptr [.i c.f0,.str c.f1,.i c.f2],(mkH [m,o]))) (atN 6 (ctl1 i15p5)) 21 (vidxH (sz:=3) qAs Kr) λc r=>?_
   refine oLH 4 i15p7 [(0,.ptr 0 4 0),(2,.ptr 1 3 0),(3,.i a),(24,.bool (!decide (c.f0=11)))] (mkH [m,o]) ?_
   refine oS 24 (λq=>?_) (λq=>?_)
   ·refine oR 8 (atN 5 (ctl1 i15p9)) ((29,.i a)::(28,w44 g)::(27,.ptr 0 4 1)::(26,.ptr 0 4 0)::(25,.ptr 0 4 0)::(24,.bool true)::[(0,.ptr 0 4 0),(2,.ptr 1 3 0),(3,.i a),(24,.bool (!decide (c.f0=11)))]) ?_
    refine oC (λ(b:S43)=>(.vptr [.i b.f0,.str b.f1,.i b.f2],(mkH [m,o]))) (atN 6 (ctl1 i15p9)) 30 (vidxH (sz:=3) qAs Kr) λb u=>?_
    exact oQF 4 [m,⟨e44 b,3,false⟩] 1 [] [n44 b] (n44 b) .ps trivial
   ·refine oL 7 i15p2 [(0,.ptr 0 4 0),(2,.ptr 1 3 0),(3,.i (fW .i64 (a+1)))] ?_
    exact ih (fW .i64 (a+1))
  ·exact oQF 8 [m,⟨[.i 0,.str [],.i 0],3,false⟩] 1 [] [.agg [.i 0,.str [],.i 0]] (.agg [.i 0,.str [],.i 0]) .ps trivial
def i15 (k:Nat) (b:LN) (c:List S43) (a:Int) (g:Int):Option S43 :=
 qN7 k b c a g k a
theorem i15_all (k:Nat):∀ b c a g r,i15 k b c a g=some r→CallT Tryz.prog 49 [.ptr 0 4 0] (mkH [⟨[.str b,w44 c,.i a,.i g],4,false⟩]) ((Xi15 b c a g).thr r) ((Xi15 b c a g).enc r) ((Xi15 b c a g).fin r):=by
 intro b c a g r h
 refine qA0 (Xi15 b c a g) Tryz.func49 Kr Kr rfl (t:=i15 k b c a g) ?_ h
 unfold i15
 refine qA1 (eE:=[(0,.ptr 0 4 0)]) Kr ?_
 refine oLH 15 i15p2 [(0,.ptr 0 4 0),(2,.ptr 1 3 0),(3,.i a)] (mkH [⟨[.str b,w44 c,.i a,.i g],4,false⟩,⟨[.i 0,.str [],.i 0],0,false⟩]) ?_
 exact (qN6 k b c a g k) a
theorem qEi (k:Nat):Pi15 (i15 k):=λa b c g=>λx h=>i15_all k a b c g x h
abbrev Ti16:Type:=LN→LN→(List S43)→Int→Int→Option Bool
def Xi16 (h:LN) (a:LN) (b:List S43) (c:Int) (g:Int):Fx Bool:=⟨Tryz.prog,cx,Tryz.f51,λr => .bool r,1,λr=>(mkH [⟨[.str a,w44 b,.i c,.i g],4,false⟩]),cxTi,cxOrd,λ_=>none,false⟩
def Pi16 (f:Ti16):Prop := ∀ a b c g h,PNh (Xi16 a b c g h) 51 [.ptr 0 4 0,.str a] (mkH [⟨[.str b,w44 c,.i g,.i h],4,false⟩]) (f a b c g h)
def i16p1:Pt:=nav [0,0,0] (nav [0] (bodyAt Tryz.f51))
def i16p2:Pt:=nav [0,0,0] i16p1
def i16 (k:Nat) (b:LN) (c:LN) (g:List S43) (h:Int) (j:Int):Option Bool :=
 (i15 k c g h j).bind λa=>if (decide (a.f0=9)) then (some (eqL a.f1 b)) else (if (decide (a.f0=8)) then (some (eqL a.f1 b)) else (some false))
theorem i16_all (k:Nat):∀ b c g j l r,i16 k b c g j l=some r→CallT Tryz.prog 51 [.ptr 0 4 0,.str b] (mkH [⟨[.str c,w44 g,.i j,.i l],4,false⟩]) ((Xi16 b c g j l).thr r) ((Xi16 b c g j l).enc r) ((Xi16 b c g j l).fin r):=by
 intro b c g j l r h
 refine qA0 (Xi16 b c g j l) Tryz.func51 Kr Kr rfl (t:=i16 k b c g j l) ?_ h
 unfold i16
 refine qA1 (eE:=[(0,.ptr 0 4 0),(1,.str b)]) Kr ?_
 let m:Blk:=⟨[.str c,w44 g,.i j,.i l],4,false⟩
 refine oH 7 (atN 1 (ctl1 i16p1)) [(6,.ptr 0 4 0),(4,.bool false),(0,.ptr 0 4 0),(1,.str b)] (mkH [m]) ?_
 refine oN (λ(a:S43)=>n44 a) (λa=>[m]) (atN 2 (ctl1 i16p1)) 7 [0] [] [] [.ptr 0 4 0] (qEi k c g j l) trivial (λ_=>trivial) λa n=>?_
 let q:Env:=[(11,.bool (decide (a.f0=9))),(10,.bool (decide (a.f0=9))),(9,.i a.f0),(8,.ptr 1 3 0),(5,.ptr 1 3 0),(7,n44 a),(6,.ptr 0 4 0),(4,.bool false),(0,.ptr 0 4 0),(1,.str b)]
 refine oH 9 (atN 4 (ctl1 i16p2)) q (mkH [m,⟨e44 a,3,false⟩]) ?_
 refine oS 11 (λo=>?_) (λo=>?_)
 ·exact oQF 13 [m,⟨e44 a,3,false⟩] 1 [] [.bool (eqL a.f1 b)] (.bool (eqL a.f1 b)) .ps trivial
 ·refine oR 5 (atN 9 (ctl1 i16p2)) ((16,.bool (decide (a.f0=8)))::(15,.bool (decide (a.f0=8)))::(14,.bool (decide (a.f0=8)))::(13,.i a.f0)::(12,.ptr 1 3 0)::(11,.bool false)::q) ?_
  refine oS 16 (λo=>?_) (λo=>?_)
  ·exact oQF 8 [m,⟨e44 a,3,false⟩] 1 [] [.bool (eqL a.f1 b)] (.bool (eqL a.f1 b)) .ps trivial
  ·exact oQF 8 [m,⟨e44 a,3,false⟩] 1 [] [.bool false] (.bool false) .ps trivial
theorem qGa (k:Nat):Pi16 (i16 k):=λa b c g j=>λx h=>i16_all k a b c g j x h
abbrev Ti45:Type:=Option (Option Unit)
def Xi45  : Fx (Option Unit):=⟨Tryz.prog,cx,Tryz.f111,λr=>match r with | some r => .tuple [] | none => .top,0,λr=>match r with | some r=>(mkH []) | none=>(mkH []),cxTi,cxOrd,λr=>match r with | some _=>none | none=>some (thrown,[]),false⟩
def Pi45 (f:Ti45):Prop:=PQh Xi45 111 [] (f )
def i45 (k:Nat)  : Option (Option Unit) :=
 some none
theorem qMt (k:Nat):∀  r,i45 k  = some r→CallT Tryz.prog 111 [] (mkH []) (Xi45.thr r) (Xi45.enc r) (Xi45.fin r):=by
 intro  r h
 refine qA0 Xi45 Tryz.func111 Kr Kr rfl (t:=i45 k ) ?_ h
 unfold i45
 refine qA1 (eE:=[]) Kr ?_
 refine oH 3 (atN 2 (ctl1 (nav [] (bodyAt Tryz.f111)))) [(1,.iface 70 (.agg [])),(0,.agg [])] (mkH []) ?_
 exact ok_panic (LX:=[]) (L:=[]) rfl rfl rfl Kr rfl trivial Kr
theorem i45_ok (k:Nat):Pi45 (i45 k):=⟨λx h=>qMt k  (some x) h,λh=>⟨_,qMt k  none h⟩⟩
abbrev Ti25:Type:=Bool→Option (Option Unit)
def Xi25 (a:Bool):Fx (Option Unit):=⟨Tryz.prog,cx,Tryz.f83,λr=>match r with | some r => .tuple [] | none => .top,0,λr=>match r with | some r=>(mkH []) | none=>(mkH []),cxTi,cxOrd,λr=>match r with | some _=>none | none=>some (thrown,[]),false⟩
def Pi25 (f:Ti25):Prop := ∀ a,PQh (Xi25 a) 83 [.bool a] (f a)
def i25p1:Pt:=nav [0,0] (nav [0] (bodyAt Tryz.f83))
def i25p2:Pt:=nav [1] i25p1
def i25 (k:Nat) (b:Bool):Option (Option Unit) :=
 if (!b) then (bT (i45 k) λa=>some (some ())) else (some (some ()))
theorem qMy (k:Nat):∀ a r,i25 k a=some r→CallT Tryz.prog 83 [.bool a] (mkH []) ((Xi25 a).thr r) ((Xi25 a).enc r) ((Xi25 a).fin r):=by
 intro a r h
 refine qA0 (Xi25 a) Tryz.func83 Kr Kr rfl (t:=i25 k a) ?_ h
 unfold i25
 refine qA1 (eE:=[(0,.bool a)]) Kr ?_
 refine oH 5 i25p1 [(3,.bool (!a)),(2,.bool a),(0,.bool a)] (mkH []) ?_
 refine oS 3 (λg=>?_) (λg=>?_)
 ·refine oR 2 (atN 0 (ctl1 i25p2)) [(3,.bool true),(3,.bool (!a)),(2,.bool a),(0,.bool a)] ?_
  refine oX (λ(b:Unit) => .tuple []) (λb=>[]) (atN 1 (ctl1 i25p2)) 4 [] [] [] [] [] [] (i45_ok k) trivial (λ_=>trivial) trivial λb c=>?_
  exact oQF 1 [] 0 [] [] (.tuple []) .ps trivial
 ·exact oQF 2 [] 0 [] [] (.tuple []) .ps trivial
theorem qCp (k:Nat):Pi25 (i25 k):=λa=>⟨λx h=>qMy k a (some x) h,λh=>⟨_,qMy k a none h⟩⟩
abbrev Ti17:Type:=LN→(List S43)→Int→Int→Option (Option Int)
def Xi17 (a:LN) (b:List S43) (g:Int) (c:Int):Fx (Option Int):=⟨Tryz.prog,cx,Tryz.f53,λr=>match r with | some r => .tuple [] | none => .top,1,λr=>match r with | some r=>(mkH [⟨[.str a,w44 b,.i r,.i c],4,false⟩]) | none=>(mkH [⟨[.str a,w44 b,.i g,.i c],4,false⟩]),cxTi,cxOrd,λr=>match r with | some _=>none | none=>some (thrown,[]),false⟩
def Pi17 (f:Ti17):Prop := ∀ a b c g,PQh (Xi17 a b c g) 53 [.ptr 0 4 0] (f a b c g)
def i17p0:Pt:=nav [0] (bodyAt Tryz.f53)
def i17d0:DP:=⟨[],[(0,0,0),(1,0,0),(3,0,0),(7,0,0),(0,0,0),(16,0,0),(48,0,0),(112,0,0),(255,0,0),(511,0,0),(1023,0,0),(2047,0,0),(4095,0,0),(8191,0,0),(16383,0,0)],15,thrown,[],H0⟩
def i17 (k:Nat) (j:LN) (l:List S43) (c:Int) (g:Int):Option (Option Int) :=
 jn (λ(m:Unit)=>some (some (fW .i64 (c+1)))) (λh=>if (decide (c < g)) then ((i18 k j l c g).bind λa=>bT (i25 k (!a)) λb=>h ()) else (bT (i25 k false) λb=>h ()))
theorem qN5 (k:Nat):∀ n o c g r,i17 k n o c g=some r→CallT Tryz.prog 53 [.ptr 0 4 0] (mkH [⟨[.str n,w44 o,.i c,.i g],4,false⟩]) ((Xi17 n o c g).thr r) ((Xi17 n o c g).enc r) ((Xi17 n o c g).fin r):=by
 intro n o c g r h
 refine qA0 (Xi17 n o c g) Tryz.func53 Kr Kr rfl (t:=i17 k n o c g) ?_ h
 unfold i17
 refine qA1 (eE:=[(0,.ptr 0 4 0)]) Kr ?_
 let b:Blk:=⟨[.str n,w44 o,.i c,.i g],4,false⟩
 refine oH 1 i17p0 [(0,.ptr 0 4 0)] (mkH [b]) ?_
 refine oJ (nav [0] i17p0) (λ(C:Unit)=>[(0,.ptr 0 4 0)]) (λ(C:Unit)=>(mkH [b])) (λC=>?_) (λE B=>?_)
 ·exact oQF 10 [⟨[.str n,w44 o,.i (fW .i64 (c+1)),.i g],4,false⟩] 1 [] [] (.tuple []) .ps trivial
 ·refine qDf (λq=>?_) (λq=>?_)
  ·refine qA7 (λa m=>?_)
   refine qC9 (λh=>?_) (λl j=>?_)
   ·let x:Env:=[(11,.bool (decide (c < g))),(10,.bool (decide (c < g))),(9,.i g),(8,.ptr 0 4 3),(7,.ptr 0 4 0),(6,.ptr 0 4 0),(5,.i c),(4,.ptr 0 4 2),(3,.ptr 0 4 0),(2,.ptr 0 4 0),(0,.ptr 0 4 0)]
    let u:Env:=[(12,.ptr 0 4 0),(11,.bool true),(10,.bool true),(9,.i g),(8,.ptr 0 4 3),(7,.ptr 0 4 0),(6,.ptr 0 4 0),(5,.i c),(4,.ptr 0 4 2),(3,.ptr 0 4 0),(2,.ptr 0 4 0),(0,.ptr 0 4 0)]
    exact qAu (eE:=((16,.top)::(15,.bool (!a))::(14,.bool (!a))::(13,.bool a)::u)) (i17d0.th 14 thrown [] (mkH [b])) (hs:=[(mkH [b]),(mkH [b])]) (LX:=[b]) (L:=[b]) rfl rfl rfl Kr rfl ⟨.inr ⟨rfl,rfl,by kernel_rfl⟩,trivial⟩ Kr Kr Kr Kr (qAc 10 (l':=(opsAt i17p0).toList.drop 10) (eE:=x) (H':=(mkH [b])) (hs:=[]) Kr (oDe (λz=>[(11,.bool z),(10,.bool z),(9,.i g),(8,.ptr 0 4 3),(7,.ptr 0 4 0),(6,.ptr 0 4 0),(5,.i c),(4,.ptr 0 4 2),(3,.ptr 0 4 0),(2,.ptr 0 4 0),(0,.ptr 0 4 0)]) q (qAc 1 (l':=(opsAt i17p0).toList.drop 11) (eE:=u) (H':=(mkH [b])) (hs:=[]) Kr (qA6 (l':=(opsAt i17p0).toList.drop 12) (eE:=((13,.bool a)::u)) (hs:=[(mkH [b])]) (H':=(mkH [b])) (fi:=68) (args:=[.ptr 0 4 0]) (v := .bool a) Kr (frC (rs:=[0]) (ms:=[]) (ms':=[]) (qN4 k n o c g a m) trivial trivial Kr) Kr (qAc 2 (l':=(opsAt i17p0).toList.drop 14) (eE:=((15,.bool (!a))::(14,.bool (!a))::(13,.bool a)::u)) (H':=(mkH [b])) (hs:=[]) Kr (qAt (l':=(opsAt i17p0).toList.drop 15) (eE:=((16,.top)::(15,.bool (!a))::(14,.bool (!a))::(13,.bool a)::u)) (hs:=[(mkH [b])]) (fi:=83) (args:=[.bool (!a)]) Kr Kr (frS 0 (M:=[b]) (rs:=[]) (ms:=[]) (mv:=[]) (mm:=[]) (D:=[]) (xs':=[.bool (!a)]) (.refl) ((qCp k (!a)).2 h) trivial trivial Kr) Kr (.nil))))))) Kr Kr
   ·let x:Env:=[(11,.bool (decide (c < g))),(10,.bool (decide (c < g))),(9,.i g),(8,.ptr 0 4 3),(7,.ptr 0 4 0),(6,.ptr 0 4 0),(5,.i c),(4,.ptr 0 4 2),(3,.ptr 0 4 0),(2,.ptr 0 4 0),(0,.ptr 0 4 0)]
    let u:Env:=[(12,.ptr 0 4 0),(11,.bool true),(10,.bool true),(9,.i g),(8,.ptr 0 4 3),(7,.ptr 0 4 0),(6,.ptr 0 4 0),(5,.i c),(4,.ptr 0 4 2),(3,.ptr 0 4 0),(2,.ptr 0 4 0),(0,.ptr 0 4 0)]
    refine oD (H':=(mkH [b])) (nav [0] i17p0) ((16,.tuple [])::(15,.bool (!a))::(14,.bool (!a))::(13,.bool a)::u) [(mkH [b]),(mkH [b])] i17d0 (oDr 10 10 x (oDe (λz=>[(11,.bool z),(10,.bool z),(9,.i g),(8,.ptr 0 4 3),(7,.ptr 0 4 0),(6,.ptr 0 4 0),(5,.i c),(4,.ptr 0 4 2),(3,.ptr 0 4 0),(2,.ptr 0 4 0),(0,.ptr 0 4 0)]) q (oDr 1 11 u (qA6 (l':=(opsAt i17p0).toList.drop 12) (eE:=((13,.bool a)::u)) (hs:=[(mkH [b])]) (H':=(mkH [b])) (fi:=68) (args:=[.ptr 0 4 0]) (v := .bool a) Kr (frC (rs:=[0]) (ms:=[]) (ms':=[]) (qN4 k n o c g a m) trivial trivial Kr) Kr (oDr 2 14 ((15,.bool (!a))::(14,.bool (!a))::(13,.bool a)::u) (qA6 (l':=(opsAt i17p0).toList.drop 15) (eE:=((16,.tuple [])::(15,.bool (!a))::(14,.bool (!a))::(13,.bool a)::u)) (hs:=[(mkH [b])]) (H':=(mkH [b])) (fi:=83) (args:=[.bool (!a)]) (v := .tuple []) Kr (frC (rs:=[]) (ms:=[]) (ms':=[]) ((qCp k (!a)).1 l j) trivial trivial Kr) Kr .nil)))))) ?_
    refine oK [0] [(0,.ptr 0 4 0)] ?_
    exact B ()
  ·refine qC9 (λh=>?_) (λl j=>?_)
   ·let x:Env:=[(11,.bool (decide (c < g))),(10,.bool (decide (c < g))),(9,.i g),(8,.ptr 0 4 3),(7,.ptr 0 4 0),(6,.ptr 0 4 0),(5,.i c),(4,.ptr 0 4 2),(3,.ptr 0 4 0),(2,.ptr 0 4 0),(0,.ptr 0 4 0)]
    let A:Env:=[(15,.bool false),(14,.tuple []),(13,.tuple []),(12,.tuple []),(11,.bool false),(10,.bool false),(9,.i g),(8,.ptr 0 4 3),(7,.ptr 0 4 0),(6,.ptr 0 4 0),(5,.i c),(4,.ptr 0 4 2),(3,.ptr 0 4 0),(2,.ptr 0 4 0),(0,.ptr 0 4 0)]
    exact qAu (eE:=((16,.top)::A)) (i17d0.th 14 thrown [] (mkH [b])) (hs:=[(mkH [b]),(mkH [b])]) (LX:=[b]) (L:=[b]) rfl rfl rfl Kr rfl ⟨.inr ⟨rfl,rfl,by kernel_rfl⟩,trivial⟩ Kr Kr Kr Kr (qAc 10 (l':=(opsAt i17p0).toList.drop 10) (eE:=x) (H':=(mkH [b])) (hs:=[]) Kr (oDe (λz=>[(11,.bool z),(10,.bool z),(9,.i g),(8,.ptr 0 4 3),(7,.ptr 0 4 0),(6,.ptr 0 4 0),(5,.i c),(4,.ptr 0 4 2),(3,.ptr 0 4 0),(2,.ptr 0 4 0),(0,.ptr 0 4 0)]) q (qAc 4 (l':=(opsAt i17p0).toList.drop 14) (eE:=A) (H':=(mkH [b])) (hs:=[(mkH [b])]) Kr (qAt (l':=(opsAt i17p0).toList.drop 15) (eE:=((16,.top)::A)) (hs:=[(mkH [b])]) (fi:=83) (args:=[.bool false]) Kr Kr (frS 0 (M:=[b]) (rs:=[]) (ms:=[]) (mv:=[]) (mm:=[]) (D:=[]) (xs':=[.bool false]) (.refl) ((qCp k false).2 h) trivial trivial Kr) Kr (.nil))))) Kr Kr
   ·let x:Env:=[(11,.bool (decide (c < g))),(10,.bool (decide (c < g))),(9,.i g),(8,.ptr 0 4 3),(7,.ptr 0 4 0),(6,.ptr 0 4 0),(5,.i c),(4,.ptr 0 4 2),(3,.ptr 0 4 0),(2,.ptr 0 4 0),(0,.ptr 0 4 0)]
    let A:Env:=[(15,.bool false),(14,.tuple []),(13,.tuple []),(12,.tuple []),(11,.bool false),(10,.bool false),(9,.i g),(8,.ptr 0 4 3),(7,.ptr 0 4 0),(6,.ptr 0 4 0),(5,.i c),(4,.ptr 0 4 2),(3,.ptr 0 4 0),(2,.ptr 0 4 0),(0,.ptr 0 4 0)]
    refine oD (H':=(mkH [b])) (nav [0] i17p0) ((16,.tuple [])::A) [(mkH [b]),(mkH [b])] i17d0 (oDr 10 10 x (oDe (λz=>[(11,.bool z),(10,.bool z),(9,.i g),(8,.ptr 0 4 3),(7,.ptr 0 4 0),(6,.ptr 0 4 0),(5,.i c),(4,.ptr 0 4 2),(3,.ptr 0 4 0),(2,.ptr 0 4 0),(0,.ptr 0 4 0)]) q (oDh 4 14 A (mkH [b]) [(mkH [b])] (qA6 (l':=(opsAt i17p0).toList.drop 15) (eE:=((16,.tuple [])::A)) (hs:=[(mkH [b])]) (H':=(mkH [b])) (fi:=83) (args:=[.bool false]) (v := .tuple []) Kr (frC (rs:=[]) (ms:=[]) (ms':=[]) ((qCp k false).1 l j) trivial trivial Kr) Kr .nil)))) ?_
    refine oK [0] [(0,.ptr 0 4 0)] ?_
    exact B ()
theorem qEh (k:Nat):Pi17 (i17 k):=λa b c g=>⟨λx h=>qN5 k a b c g (some x) h,λh=>⟨_,qN5 k a b c g none h⟩⟩
abbrev Ti13:Type:=LN→LN→(List S43)→Int→Int→Option (Option (Bool×Int))
def Xi13 (h:LN) (a:LN) (b:List S43) (g:Int) (c:Int):Fx (Option (Bool×Int)):=⟨Tryz.prog,cx,Tryz.f47,λr=>match r with | some r => .bool r.1 | none => .top,1,λr=>match r with | some r=>(mkH [⟨[.str a,w44 b,.i r.2,.i c],4,false⟩]) | none=>(mkH [⟨[.str a,w44 b,.i g,.i c],4,false⟩]),cxTi,cxOrd,λr=>match r with | some _=>none | none=>some (thrown,[]),false⟩
def Pi13 (f:Ti13):Prop := ∀ a b c g h,PQh (Xi13 a b c g h) 47 [.ptr 0 4 0,.str a] (f a b c g h)
def i13p1:Pt:=nav [0,0,0,0] (nav [0] (bodyAt Tryz.f47))
def i13p2:Pt:=nav [0,0] i13p1
def i13p4:Pt:=nav [2,0,0] i13p2
def i13 (k:Nat) (l:LN) (g:LN) (h:List S43) (c:Int) (j:Int):Option (Option (Bool×Int)) :=
 (i16 k l g h c j).bind λa=>if (!a) then (some (some (false,c))) else (bT (i17 k g h c j) λb=>some (some (true,b)))
theorem qN8 (k:Nat):∀ c g j m l r,i13 k c g j m l=some r→CallT Tryz.prog 47 [.ptr 0 4 0,.str c] (mkH [⟨[.str g,w44 j,.i m,.i l],4,false⟩]) ((Xi13 c g j m l).thr r) ((Xi13 c g j m l).enc r) ((Xi13 c g j m l).fin r):=by
 intro c g j m l r h
 refine qA0 (Xi13 c g j m l) Tryz.func47 Kr Kr rfl (t:=i13 k c g j m l) ?_ h
 unfold i13
 refine qA1 (eE:=[(0,.ptr 0 4 0),(1,.str c)]) Kr ?_
 let n:Env:=[(6,.str c),(5,.ptr 0 4 0),(4,.bool false),(0,.ptr 0 4 0),(1,.str c)]
 let o:Blk:=⟨[.str g,w44 j,.i m,.i l],4,false⟩
 refine oH 9 (atN 2 (ctl1 i13p1)) n (mkH [o]) ?_
 refine oN (λ(a:Bool) => .bool a) (λa=>[o]) (atN 3 (ctl1 i13p1)) 7 [0] [] [] [.ptr 0 4 0,.str c] (qGa k c g j m l) trivial (λ_=>trivial) λa q=>?_
 refine oR 2 i13p2 ((8,.bool (!a))::(7,.bool a)::n) ?_
 refine oS 8 (λx=>?_) (λx=>?_)
 ·exact oQF 6 [o] 1 [] [.bool false] (.bool false) .ps trivial
 ·refine oR 5 (atN 1 (ctl1 i13p4)) ((9,.ptr 0 4 0)::(8,.bool false)::(8,.bool (!a))::(7,.bool a)::n) ?_
  refine oX (λ(b:Int) => .tuple []) (λb=>[⟨[.str g,w44 j,.i b,.i l],4,false⟩]) (atN 2 (ctl1 i13p4)) 10 [0] [] [] [] [] [.ptr 0 4 0] (qEh k g j m l) trivial (λ_=>trivial) trivial λb u=>?_
  refine oL 2 (nav [0,0,0] i13p4) [] ?_
  exact oQF 4 [⟨[.str g,w44 j,.i b,.i l],4,false⟩] 1 [] [.bool true] (.bool true) .ps trivial
theorem qAe (k:Nat):Pi13 (i13 k):=λa b c g j=>⟨λx h=>qN8 k a b c g j (some x) h,λh=>⟨_,qN8 k a b c g j none h⟩⟩
def Xg148:Fx Int:=⟨Tryz.prog,cx,Tryz.f148,λr => .i r,0,λ_=>H0,cxTi,cxOrd,λ_=>none,false⟩
def g148p2:Pt:=nav [0,0,0,0] (nav [0,0,0,0] (nav [0] (bodyAt Tryz.f148)))
def g148p4:Pt:=nav [0,0,0] (nav [0,0] g148p2)
def g148p7:Pt:=nav [0,0,0] (nav [1,0,0,0,0] g148p4)
def qFj (k:Nat)  (c:List Int) (g:Int) (ih:Int→Option Int):Int→Option Int :=
 λ(a:Int)=>if (decide (a < (c.length:Int))) then ((nthL c a).bind λb=>if (decide (g=b)) then (some a) else (ih (fW .i64 (a+1)))) else (some ((-1):Int))
def qIg (k:Nat)  (a:List Int) (b:Int) (n:Nat):Int→Option Int:=lp (λ_=>none) (qFj k a b) n
theorem qL (k:Nat)   (c:List Int) (g:Int)  : ∀ (n:Nat) (a:Int),Ok Xg148 g148p2 [(0,w3 c),(1,.i g),(7,.i (c.length:Int)),(8,.i a)] (mkH []) (qIg k c g n a):=by
 intro n
 induction n with
 | zero=>intro a; exact ok_none
 | succ n ih =>
  intro a
  show Ok _ _ _ _ (qFj k c g (qIg k c g n) a)
  unfold qFj
  refine qAd (p':=nav [0] g148p2) Kr ?_
  let l:Env:=[(9,.bool (decide (a < (c.length:Int)))),(0,w3 c),(1,.i g),(7,.i (c.length:Int)),(8,.i a)]
  refine oH 5 g148p4 l (mkH []) ?_
  refine oS 9 (λh=>?_) (λh=>?_)
  ·let m:Env:=((13,.i a)::(12,w3 c)::(11,.i g)::(5,.i a)::(10,.i a)::(9,.bool true)::l)
   refine oR 14 (atN 3 (ctl1 g148p7)) m ?_
   refine oC (λ(b:Int)=>(.vptr [.i b],(mkH []))) (atN 4 (ctl1 g148p7)) 14 (vidxH (sz:=1) qOt Kr) λb j=>?_
   refine oH 3 (nav [0,0] g148p7) ((16,.bool (decide (g=b)))::(15,.i b)::(14,.vptr [.i b])::m) (mkH []) ?_
   refine oK [0,1,5,7,8,16] [(0,w3 c),(1,.i g),(5,.i a),(7,.i (c.length:Int)),(8,.i a),(16,.bool (decide (g=b)))] ?_
   refine oS 16 (λh=>?_) (λh=>?_)
   ·exact oQ 7
   ·refine oL 6 g148p2 [(0,w3 c),(1,.i g),(7,.i (c.length:Int)),(8,.i (fW .i64 (a+1)))] ?_
    exact ih (fW .i64 (a+1))
  ·exact oQ 7
def g148 (k:Nat) (a:List Int) (b:Int):Option Int :=
 qIg k a b k 0
theorem g148_ok (k:Nat) (a:List Int) (b:Int) (r:Int) (h:g148 k a b=some r):PureOk Tryz.prog 148 [w3 a,.i b] (.i r):=by
 refine qA5 Xg148 (λ_=>⟨rfl,rfl⟩) Tryz.func148 (by decide +kernel) Kr (t:=g148 k a b) ?_ h
 unfold g148
 refine qA1 (eE:=[(0,w3 a),(1,.i b)]) Kr ?_
 refine oLH 13 g148p2 [(0,w3 a),(1,.i b),(7,.i (a.length:Int)),(8,.i 0)] (mkH []) ?_
 exact (qL k a b k) 0
def Xg144:Fx Bool:=⟨Tryz.prog,cx,Tryz.f144,λr => .bool r,0,λ_=>H0,cxTi,cxOrd,λ_=>none,false⟩
def g144p1:Pt:=nav [0,0,0] (nav [0] (bodyAt Tryz.f144))
def g144 (k:Nat) (b:List Int) (c:Int):Option Bool :=
 (g148 k b c).bind λa=>some (decide (0≤a))
theorem g144_ok (k:Nat) (a:List Int) (b:Int) (r:Bool) (h:g144 k a b=some r):PureOk Tryz.prog 144 [w3 a,.i b] (.bool r):=by
 refine qA5 Xg144 (λ_=>⟨rfl,rfl⟩) Tryz.func144 (by decide +kernel) Kr (t:=g144 k a b) ?_ h
 unfold g144
 refine qA1 (eE:=[(0,w3 a),(1,.i b)]) Kr ?_
 refine oH 8 (atN 2 (ctl1 g144p1)) [(6,.i b),(5,w3 a),(4,.bool false),(0,w3 a),(1,.i b)] (mkH []) ?_
 refine oA (λ(c:Int) => .i c) (atN 3 (ctl1 g144p1)) 7 [w3 a,.i b] (g148_ok k a b) λc g=>?_
 exact oQ 4
abbrev Ri58:Type:=(LN×Int)
abbrev Ti58:Type:=(List Int)→LN→(List S43)→Int→Int→Option (Option Ri58)
def Xi58 (h:List Int) (a:LN) (b:List S43) (g:Int) (c:Int):Fx (Option Ri58):=⟨Tryz.prog,cx,Tryz.f134,λr=>match r with | some r => .str r.1 | none => .top,1,λr=>match r with | some r=>(mkH [⟨[.str a,w44 b,.i r.2,.i c],4,false⟩]) | none=>(mkH [⟨[.str a,w44 b,.i g,.i c],4,false⟩]),cxTi,cxOrd,λr=>match r with | some _=>none | none=>some (thrown,[]),false⟩
def Pi58 (f:Ti58):Prop := ∀ a b c g h,PQh (Xi58 a b c g h) 134 [.ptr 0 4 0,w3 a] (f a b c g h)
def i58p1:Pt:=nav [0,0,0] (nav [0] (bodyAt Tryz.f134))
def i58p2:Pt:=nav [0,0,0] i58p1
def i58p3:Pt:=nav [0,0,0] i58p2
def i58 (k:Nat) (n:List Int) (g:LN) (h:List S43) (j:Int) (l:Int):Option (Option Ri58) :=
 (i15 k g h j l).bind λa=>(g144 k n a.f0).bind λb=>bT (i25 k b) λm=>bT (i17 k g h j l) λc=>some (some (a.f1,c))
theorem qMf (k:Nat):∀ b j l n m r,i58 k b j l n m=some r→CallT Tryz.prog 134 [.ptr 0 4 0,w3 b] (mkH [⟨[.str j,w44 l,.i n,.i m],4,false⟩]) ((Xi58 b j l n m).thr r) ((Xi58 b j l n m).enc r) ((Xi58 b j l n m).fin r):=by
 intro b j l n m r h
 refine qA0 (Xi58 b j l n m) Tryz.func134 Kr Kr rfl (t:=i58 k b j l n m) ?_ h
 unfold i58
 refine qA1 (eE:=[(0,.ptr 0 4 0),(1,w3 b)]) Kr ?_
 let q:Blk:=⟨[.str j,w44 l,.i n,.i m],4,false⟩
 refine oH 7 (atN 1 (ctl1 i58p1)) [(6,.ptr 0 4 0),(4,.str []),(0,.ptr 0 4 0),(1,w3 b)] (mkH [q]) ?_
 refine oN (λ(a:S43)=>n44 a) (λa=>[q]) (atN 2 (ctl1 i58p1)) 7 [0] [] [] [.ptr 0 4 0] (qEi k j l n m) trivial (λ_=>trivial) λa u=>?_
 refine oH 8 (atN 3 (ctl1 i58p2)) [(10,.i a.f0),(9,.ptr 1 3 0),(8,w3 b),(5,.ptr 1 3 0),(7,n44 a),(6,.ptr 0 4 0),(4,.str []),(0,.ptr 0 4 0),(1,w3 b)] (mkH [q,⟨e44 a,3,false⟩]) ?_
 refine oA (λ(c:Bool) => .bool c) (atN 4 (ctl1 i58p2)) 11 [w3 b,.i a.f0] (g144_ok k b a.f0) λc x=>?_
 refine oX (λ(o:Unit) => .tuple []) (λo=>[q,⟨e44 a,3,false⟩]) (atN 5 (ctl1 i58p2)) 12 [] [] [] [] [] [.bool c] (qCp k c) trivial (λ_=>trivial) trivial λo z=>?_
 refine oL 2 i58p3 [(0,.ptr 0 4 0),(5,.ptr 1 3 0)] ?_
 refine oR 2 (atN 1 (ctl1 i58p3)) ((13,.ptr 0 4 0)::[(0,.ptr 0 4 0),(5,.ptr 1 3 0)]) ?_
 refine oX (λ(g:Int) => .tuple []) (λg=>[⟨[.str j,w44 l,.i g,.i m],4,false⟩,⟨e44 a,3,false⟩]) (atN 2 (ctl1 i58p3)) 14 [0] [] [] [] [] [.ptr 0 4 0] (qEh k j l n m) trivial (λ_=>trivial) trivial λg A=>?_
 exact oQF 8 [⟨[.str j,w44 l,.i g,.i m],4,false⟩,⟨e44 a,3,false⟩] 1 [] [.str a.f1] (.str a.f1) .ps trivial
theorem qEg (k:Nat):Pi58 (i58 k):=λa b c g j=>⟨λx h=>qMf k a b c g j (some x) h,λh=>⟨_,qMf k a b c g j none h⟩⟩
abbrev Ri40:Type:=(LN×Int)
abbrev Ti40:Type:=LN→(List S43)→Int→Int→Option (Option Ri40)
def Xi40 (a:LN) (b:List S43) (g:Int) (c:Int):Fx (Option Ri40):=⟨Tryz.prog,cx,Tryz.f106,λr=>match r with | some r => .str r.1 | none => .top,1,λr=>match r with | some r=>(mkH [⟨[.str a,w44 b,.i r.2,.i c],4,false⟩]) | none=>(mkH [⟨[.str a,w44 b,.i g,.i c],4,false⟩]),cxTi,cxOrd,λr=>match r with | some _=>none | none=>some (thrown,[]),false⟩
def Pi40 (f:Ti40):Prop := ∀ a b c g,PQh (Xi40 a b c g) 106 [.ptr 0 4 0] (f a b c g)
def i40c0:List Int:=[(1:Int),(2:Int),(7:Int)]
def i40p1:Pt:=nav [0,0,0] (nav [0] (bodyAt Tryz.f106))
def i40 (k:Nat) (b:LN) (c:List S43) (g:Int) (h:Int):Option (Option Ri40) :=
 bT (i58 k i40c0 b c g h) λa=>some (some (a.1,a.2))
theorem qMv (k:Nat):∀ b c j g r,i40 k b c j g=some r→CallT Tryz.prog 106 [.ptr 0 4 0] (mkH [⟨[.str b,w44 c,.i j,.i g],4,false⟩]) ((Xi40 b c j g).thr r) ((Xi40 b c j g).enc r) ((Xi40 b c j g).fin r):=by
 intro b c j g r h
 refine qA0 (Xi40 b c j g) Tryz.func106 Kr Kr rfl (t:=i40 k b c j g) ?_ h
 unfold i40
 refine qA1 (eE:=[(0,.ptr 0 4 0)]) Kr ?_
 let m:Blk:=⟨[.str b,w44 c,.i j,.i g],4,false⟩
 refine oH 8 (atN 2 (ctl1 i40p1)) [(4,.slice 1 3 0 3 1),(3,.ptr 0 4 0),(2,.str []),(0,.ptr 0 4 0)] (mkH [m,⟨[.i 1,.i 2,.i 7],0,false⟩]) ?_
 refine oZ 4 1 3 1 [.i 1,.i 2,.i 7] [0,2,3] [] trivial ?_
 refine oE [(4,w3 i40c0),(0,.ptr 0 4 0),(2,.str []),(3,.ptr 0 4 0)] ?_
 refine oHp (mkH [m,⟨[],0,false⟩]) ?_
 refine oX (λ(a:Ri58) => .str a.1) (λa=>[⟨[.str b,w44 c,.i a.2,.i g],4,false⟩,⟨[],0,false⟩]) (atN 3 (ctl1 i40p1)) 5 [0] [] [] [] [] [.ptr 0 4 0,w3 i40c0] (qEg k i40c0 b c j g) trivial (λ_=>trivial) trivial λa l=>?_
 exact oQF 3 [⟨[.str b,w44 c,.i a.2,.i g],4,false⟩,⟨[],0,false⟩] 1 [] [.str a.1] (.str a.1) .ps trivial
theorem qG9 (k:Nat):Pi40 (i40 k):=λa b c g=>⟨λx h=>qMv k a b c g (some x) h,λh=>⟨_,qMv k a b c g none h⟩⟩
abbrev Ti41:Type:=LN→LN→(List S43)→Int→Int→Option (Option Int)
def Xi41 (h:LN) (a:LN) (b:List S43) (g:Int) (c:Int):Fx (Option Int):=⟨Tryz.prog,cx,Tryz.f92,λr=>match r with | some r => .tuple [] | none => .top,1,λr=>match r with | some r=>(mkH [⟨[.str a,w44 b,.i r,.i c],4,false⟩]) | none=>(mkH [⟨[.str a,w44 b,.i g,.i c],4,false⟩]),cxTi,cxOrd,λr=>match r with | some _=>none | none=>some (thrown,[0]),false⟩
def Pi41 (f:Ti41):Prop := ∀ a b c g h,PQh (Xi41 a b c g h) 92 [.ptr 0 4 0,.str a] (f a b c g h)
def i41p0:Pt:=nav [] (bodyAt Tryz.f92)
def i41 (k:Nat) (c:LN) (g:LN) (h:List S43) (j:Int) (l:Int):Option (Option Int) :=
 bT (i13 k c g h j l) λa=>bT (i25 k a.1) λb=>some (some a.2)
theorem qMu (k:Nat):∀ b c g l j r,i41 k b c g l j=some r→CallT Tryz.prog 92 [.ptr 0 4 0,.str b] (mkH [⟨[.str c,w44 g,.i l,.i j],4,false⟩]) ((Xi41 b c g l j).thr r) ((Xi41 b c g l j).enc r) ((Xi41 b c g l j).fin r):=by
 intro b c g l j r h
 refine qA0 (Xi41 b c g l j) Tryz.func92 Kr Kr rfl (t:=i41 k b c g l j) ?_ h
 unfold i41
 refine qA1 (eE:=[(0,.ptr 0 4 0),(1,.str b)]) Kr ?_
 refine oH 3 (atN 2 (ctl1 i41p0)) [(5,.str b),(4,.ptr 0 4 0),(0,.ptr 0 4 0),(1,.str b)] (mkH [⟨[.str c,w44 g,.i l,.i j],4,false⟩]) ?_
 refine oX (λ(a:(Bool×Int)) => .bool a.1) (λa=>[⟨[.str c,w44 g,.i a.2,.i j],4,false⟩]) (atN 3 (ctl1 i41p0)) 6 [0] [] [] [] [] [.ptr 0 4 0,.str b] (qAe k b c g l j) trivial (λ_=>trivial) trivial λa n=>?_
 let q:Blk:=⟨[.str c,w44 g,.i a.2,.i j],4,false⟩
 refine oX (λ(m:Unit) => .tuple []) (λm=>[q]) (atN 4 (ctl1 i41p0)) 7 [] [] [] [] [] [.bool a.1] (qCp k a.1) trivial (λ_=>trivial) trivial λm o=>?_
 exact oQF 1 [q] 1 [] [] (.tuple []) .ps trivial
theorem qB2 (k:Nat):Pi41 (i41 k):=λa b c g j=>⟨λx h=>qMu k a b c g j (some x) h,λh=>⟨_,qMu k a b c g j none h⟩⟩
def Xg128:Fx Bool:=⟨Tryz.prog,cx,Tryz.f128,λr => .bool r,0,λ_=>H0,cxTi,cxOrd,λ_=>none,false⟩
def g128p1:Pt:=nav [0,0,0] (nav [0] (bodyAt Tryz.f128))
def g128 (k:Nat) (b:LN) (c:List S43) (g:Int):Option Bool :=
 (g90 k b c g).bind λa=>some (decide (0 < a))
theorem g128_ok (k:Nat) (a:LN) (b:List S43) (c:Int) (r:Bool) (h:g128 k a b c=some r):PureOk Tryz.prog 128 [.str a,w44 b,.i c] (.bool r):=by
 refine qA5 Xg128 (λ_=>⟨rfl,rfl⟩) Tryz.func128 (by decide +kernel) Kr (t:=g128 k a b c) ?_ h
 unfold g128
 refine qA1 (eE:=[(0,.str a),(1,w44 b),(2,.i c)]) Kr ?_
 refine oH 9 (atN 3 (ctl1 g128p1)) [(9,.i c),(8,w44 b),(7,.str a),(6,.bool false),(0,.str a),(1,w44 b),(2,.i c)] (mkH []) ?_
 refine oA (λ(g:Int) => .i g) (atN 4 (ctl1 g128p1)) 10 [.str a,w44 b,.i c] (g90_ok k a b c) λg j=>?_
 exact oQ 4
abbrev Ti47:Type:=LN→(List S43)→Int→Int→Option Bool
def Xi47 (a:LN) (b:List S43) (c:Int) (g:Int):Fx Bool:=⟨Tryz.prog,cx,Tryz.f93,λr => .bool r,1,λr=>(mkH [⟨[.str a,w44 b,.i c,.i g],4,false⟩]),cxTi,cxOrd,λ_=>none,false⟩
def Pi47 (f:Ti47):Prop := ∀ a b c g,PNh (Xi47 a b c g) 93 [.ptr 0 4 0] (mkH [⟨[.str a,w44 b,.i c,.i g],4,false⟩]) (f a b c g)
def i47p1:Pt:=nav [0,0,0] (nav [0] (bodyAt Tryz.f93))
def i47d0:DP:=⟨[],[(0,0,0),(1,0,0),(3,0,0),(7,0,0),(0,0,0),(16,0,0),(48,0,0),(112,0,0),(0,0,0),(256,0,0),(768,0,0),(1792,0,0),(4095,0,0),(8191,0,0)],14,thrown,[],H0⟩
def i47 (k:Nat) (b:LN) (c:List S43) (g:Int) (h:Int):Option Bool :=
 (g128 k b c g).bind λa=>some a
theorem i47_all (k:Nat):∀ b c g j r,i47 k b c g j=some r→CallT Tryz.prog 93 [.ptr 0 4 0] (mkH [⟨[.str b,w44 c,.i g,.i j],4,false⟩]) ((Xi47 b c g j).thr r) ((Xi47 b c g j).enc r) ((Xi47 b c g j).fin r):=by
 intro b c g j r h
 refine qA0 (Xi47 b c g j) Tryz.func93 Kr Kr rfl (t:=i47 k b c g j) ?_ h
 unfold i47
 refine qA1 (eE:=[(0,.ptr 0 4 0)]) Kr ?_
 let m:Blk:=⟨[.str b,w44 c,.i g,.i j],4,false⟩
 refine oH 5 i47p1 [(2,.bool false),(0,.ptr 0 4 0)] (mkH [m]) ?_
 refine qA7 (λa l=>?_)
 let n:Env:=[(14,.i g),(13,.ptr 0 4 2),(12,.ptr 0 4 0),(11,.ptr 0 4 0),(10,w44 c),(9,.ptr 0 4 1),(8,.ptr 0 4 0),(7,.ptr 0 4 0),(6,.str b),(5,.ptr 0 4 0),(4,.ptr 0 4 0),(3,.ptr 0 4 0),(2,.bool false),(0,.ptr 0 4 0)]
 refine oD (H':=(mkH [m])) (nav [0] i47p1) ((2,.bool a)::(15,.bool a)::n) [(mkH [m])] i47d0 (oDr 12 12 n (qAq (l':=(opsAt i47p1).toList.drop 13) (eE:=((15,.bool a)::n)) (hs:=[(mkH [m])]) (fi:=128) (args:=[.str b,w44 c,.i g]) (v := .bool a) Kr Kr Kr (g128_ok k b c g a l) Kr (oDr 1 14 ((2,.bool a)::(15,.bool a)::n) .nil))) ?_
 exact oQF 1 [m] 1 [] [.bool a] (.bool a) .ps trivial
theorem qG8 (k:Nat):Pi47 (i47 k):=λa b c g=>λx h=>i47_all k a b c g x h
abbrev Ri77:Type:=(LN×Int)
abbrev Ti77:Type:=LN→(List S43)→Int→Int→Option (Option Ri77)
def Xi77 (a:LN) (b:List S43) (g:Int) (c:Int):Fx (Option Ri77):=⟨Tryz.prog,cx,Tryz.f133,λr=>match r with | some r => .str r.1 | none => .top,1,λr=>match r with | some r=>(mkH [⟨[.str a,w44 b,.i r.2,.i c],4,false⟩]) | none=>(mkH [⟨[.str a,w44 b,.i g,.i c],4,false⟩]),cxTi,cxOrd,λr=>match r with | some _=>none | none=>some (thrown,[]),false⟩
def Pi77 (f:Ti77):Prop := ∀ a b c g,PQh (Xi77 a b c g) 133 [.ptr 0 4 0] (f a b c g)
def i77c0:List Int:=[(3:Int),(2:Int),(7:Int)]
def i77p1:Pt:=nav [0,0,0] (nav [0] (bodyAt Tryz.f133))
def i77 (k:Nat) (b:LN) (c:List S43) (g:Int) (h:Int):Option (Option Ri77) :=
 bT (i58 k i77c0 b c g h) λa=>some (some (a.1,a.2))
theorem qM8 (k:Nat):∀ b c j g r,i77 k b c j g=some r→CallT Tryz.prog 133 [.ptr 0 4 0] (mkH [⟨[.str b,w44 c,.i j,.i g],4,false⟩]) ((Xi77 b c j g).thr r) ((Xi77 b c j g).enc r) ((Xi77 b c j g).fin r):=by
 intro b c j g r h
 refine qA0 (Xi77 b c j g) Tryz.func133 Kr Kr rfl (t:=i77 k b c j g) ?_ h
 unfold i77
 refine qA1 (eE:=[(0,.ptr 0 4 0)]) Kr ?_
 let m:Blk:=⟨[.str b,w44 c,.i j,.i g],4,false⟩
 refine oH 8 (atN 2 (ctl1 i77p1)) [(4,.slice 1 3 0 3 1),(3,.ptr 0 4 0),(2,.str []),(0,.ptr 0 4 0)] (mkH [m,⟨[.i 3,.i 2,.i 7],0,false⟩]) ?_
 refine oZ 4 1 3 1 [.i 3,.i 2,.i 7] [0,2,3] [] trivial ?_
 refine oE [(4,w3 i77c0),(0,.ptr 0 4 0),(2,.str []),(3,.ptr 0 4 0)] ?_
 refine oHp (mkH [m,⟨[],0,false⟩]) ?_
 refine oX (λ(a:Ri58) => .str a.1) (λa=>[⟨[.str b,w44 c,.i a.2,.i g],4,false⟩,⟨[],0,false⟩]) (atN 3 (ctl1 i77p1)) 5 [0] [] [] [] [] [.ptr 0 4 0,w3 i77c0] (qEg k i77c0 b c j g) trivial (λ_=>trivial) trivial λa l=>?_
 exact oQF 3 [⟨[.str b,w44 c,.i a.2,.i g],4,false⟩,⟨[],0,false⟩] 1 [] [.str a.1] (.str a.1) .ps trivial
theorem i77_ok (k:Nat):Pi77 (i77 k):=λa b c g=>⟨λx h=>qM8 k a b c g (some x) h,λh=>⟨_,qM8 k a b c g none h⟩⟩
abbrev Ti60:Type:=LN→(List S43)→Int→Int→Option (Option (S28×Int))
def Xi60 (a:LN) (b:List S43) (g:Int) (c:Int):Fx (Option (S28×Int)):=⟨Tryz.prog,cx,Tryz.f136,λr=>match r with | some r=>n29 r.1 | none => .top,1,λr=>match r with | some r=>(mkH [⟨[.str a,w44 b,.i r.2,.i c],4,false⟩]) | none=>(mkH [⟨[.str a,w44 b,.i g,.i c],4,false⟩]),cxTi,cxOrd,λr=>match r with | some _=>none | none=>some (thrown,[0]),false⟩
def Pi60 (f:Ti60):Prop := ∀ a b c g,PQh (Xi60 a b c g) 136 [.ptr 0 4 0] (f a b c g)
def i60p1:Pt:=nav [0,0,0] (nav [0] (bodyAt Tryz.f136))
def i60p2:Pt:=nav [0,0,0,0] i60p1
def i60p3:Pt:=nav [0,0] i60p2
def i60p4:Pt:=nav [1] i60p3
def i60p5:Pt:=nav [2,0,0] i60p3
def i60p6:Pt:=nav [0,0,0] i60p5
def i60 (k:Nat) (h:LN) (j:List S43) (z:Int) (l:Int):Option (Option (S28×Int)) :=
 bT (i40 k h j z l) λa=>bT (i13 k ([58]:LN) h j a.2 l) λb=>jn (λ(u:LN×Int)=>bT (i41 k ([47]:LN) h j u.2 l) λm=>(catS u.1 ([47]:LN)).bind λn=>bT (i77 k h j m l) λc=>(catS n c.1).bind λo=>some (some ((⟨(16:Int),o,⟨0,[]⟩,false,false,([]:LL),([]:LL)⟩:S28),c.2))) (λx=>if b.1 then ((catS a.1 ([58]:LN)).bind λq=>bT (i40 k h j b.2 l) λg=>(catS q g.1).bind λr=>x (r,g.2)) else (x (a.1,b.2)))
theorem qMe (k:Nat):∀ c g A j r,i60 k c g A j=some r→CallT Tryz.prog 136 [.ptr 0 4 0] (mkH [⟨[.str c,w44 g,.i A,.i j],4,false⟩]) ((Xi60 c g A j).thr r) ((Xi60 c g A j).enc r) ((Xi60 c g A j).fin r):=by
 intro c g A j r h
 refine qA0 (Xi60 c g A j) Tryz.func136 Kr Kr rfl (t:=i60 k c g A j) ?_ h
 unfold i60
 refine qA1 (eE:=[(0,.ptr 0 4 0)]) Kr ?_
 let m:Blk:=⟨[.i 0,.str [],.nils,.bool false,.bool false,.nils,.nils],0,false⟩
 refine oH 7 (atN 1 (ctl1 i60p1)) [(4,.ptr 0 4 0),(2,.ptr 1 7 0),(0,.ptr 0 4 0)] (mkH [⟨[.str c,w44 g,.i A,.i j],4,false⟩,m]) ?_
 refine oX (λ(a:Ri40) => .str a.1) (λa=>[⟨[.str c,w44 g,.i a.2,.i j],4,false⟩,m]) (atN 2 (ctl1 i60p1)) 5 [0] [] [] [] [] [.ptr 0 4 0] (qG9 k c g A j) trivial (λ_=>trivial) trivial λa E=>?_
 let D:Env:=[(6,.ptr 0 4 0),(3,.str a.1),(5,.str a.1),(4,.ptr 0 4 0),(2,.ptr 1 7 0),(0,.ptr 0 4 0)]
 refine oR 6 (atN 1 (ctl1 i60p2)) D ?_
 refine oX (λ(b:(Bool×Int)) => .bool b.1) (λb=>[⟨[.str c,w44 g,.i b.2,.i j],4,false⟩,m]) (atN 2 (ctl1 i60p2)) 7 [0] [] [] [] [] [.ptr 0 4 0,.str [58]] (qAe k ([58]:LN) c g a.2 j) trivial (λ_=>trivial) trivial λb F=>?_
 refine oR 1 i60p3 ((7,.bool b.1)::D) ?_
 refine oJ i60p5 (λ(B:LN×Int)=>[(0,.ptr 0 4 0),(2,.ptr 1 7 0),(3,.str B.1)]) (λ(B:LN×Int)=>(mkH [⟨[.str c,w44 g,.i B.2,.i j],4,false⟩,m])) (λB=>?_) (λW C=>?_)
 ·refine oH 2 (atN 1 (ctl1 i60p5)) [(13,.ptr 0 4 0),(0,.ptr 0 4 0),(2,.ptr 1 7 0),(3,.str B.1)] (mkH [⟨[.str c,w44 g,.i B.2,.i j],4,false⟩,m]) ?_
  refine oX (λ(n:Int) => .tuple []) (λn=>[⟨[.str c,w44 g,.i n,.i j],4,false⟩,m]) (atN 2 (ctl1 i60p5)) 14 [0] [] [] [0] [] [.ptr 0 4 0,.str [47]] (qB2 k ([47]:LN) c g B.2 j) trivial (λ_=>trivial) trivial λn G=>?_
  let Q:Env:=[(15,.str B.1),(14,.tuple []),(13,.ptr 0 4 0),(0,.ptr 0 4 0),(2,.ptr 1 7 0),(3,.str B.1)]
  refine oR 4 (atN 1 (ctl1 i60p6)) Q ?_
  let S:Blk:=⟨[.str c,w44 g,.i n,.i j],4,false⟩
  refine oC (λ(x:LN)=>(.str x,(mkH [S,m]))) (atN 2 (ctl1 i60p6)) 16 (catH Kr) λx I=>?_
  refine oH 1 (atN 3 (ctl1 i60p6)) ((17,.ptr 0 4 0)::(16,.str x)::Q) (mkH [S,m]) ?_
  refine oX (λ(o:Ri77) => .str o.1) (λo=>[⟨[.str c,w44 g,.i o.2,.i j],4,false⟩,m]) (atN 4 (ctl1 i60p6)) 18 [0] [] [] [] [] [.ptr 0 4 0] (i77_ok k c g n j) trivial (λ_=>trivial) trivial λo J=>?_
  let T:Blk:=⟨[.str c,w44 g,.i o.2,.i j],4,false⟩
  refine oC (λ(q:LN)=>(.str q,(mkH [T,m]))) (atN 5 (ctl1 i60p6)) 19 (catH Kr) λq K=>?_
  exact oQF 4 [T,⟨[.i 16,.str q,.nils,.bool false,.bool false,.nils,.nils],7,false⟩] 1 [] [.agg [.i 16,.str q,.nils,.bool false,.bool false,.nils,.nils]] (.agg [.i 16,.str q,.vec 0 7 [],.bool false,.bool false,.vec 0 1 [],.vec 0 1 []]) (.agg (.cs (.cs (.nil (.cs (.cs (.nil (.nil .ps))))))) .ps) trivial
 ·refine oS 7 (λV=>?_) (λV=>?_)
  ·let L:Blk:=⟨[.str c,w44 g,.i b.2,.i j],4,false⟩
   refine oH 3 (atN 1 (ctl1 i60p4)) ((8,.str a.1)::(7,.bool true)::(7,.bool b.1)::D) (mkH [L,m]) ?_
   refine oC (λ(z:LN)=>(.str z,(mkH [L,m]))) (atN 2 (ctl1 i60p4)) 9 (catH Kr) λz M=>?_
   refine oH 1 (atN 3 (ctl1 i60p4)) ((10,.ptr 0 4 0)::(9,.str z)::(8,.str a.1)::(7,.bool true)::(7,.bool b.1)::D) (mkH [L,m]) ?_
   refine oX (λ(l:Ri40) => .str l.1) (λl=>[⟨[.str c,w44 g,.i l.2,.i j],4,false⟩,m]) (atN 4 (ctl1 i60p4)) 11 [0] [] [] [] [] [.ptr 0 4 0] (qG9 k c g b.2 j) trivial (λ_=>trivial) trivial λl N=>?_
   let U:Blk:=⟨[.str c,w44 g,.i l.2,.i j],4,false⟩
   refine oC (λ(u:LN)=>(.str u,(mkH [U,m]))) (atN 5 (ctl1 i60p4)) 12 (catH Kr) λu O=>?_
   refine oLH 3 i60p5 [(0,.ptr 0 4 0),(2,.ptr 1 7 0),(3,.str u)] (mkH [U,m]) ?_
   exact C (u,l.2)
  ·refine oLH 3 i60p5 [(0,.ptr 0 4 0),(2,.ptr 1 7 0),(3,.str a.1)] (mkH [⟨[.str c,w44 g,.i b.2,.i j],4,false⟩,m]) ?_
   exact C (a.1,b.2)
theorem i60_ok (k:Nat):Pi60 (i60 k):=λa b c g=>⟨λx h=>qMe k a b c g (some x) h,λh=>⟨_,qMe k a b c g none h⟩⟩
abbrev Ti9:Type:=Int→LN→(List S43)→Int→Int→Option (Option (S28×Int))
def Xi9 (h:Int) (a:LN) (b:List S43) (g:Int) (c:Int):Fx (Option (S28×Int)):=⟨Tryz.prog,cx,Tryz.f21,λr=>match r with | some r=>n29 r.1 | none => .top,1,λr=>match r with | some r=>(mkH [⟨[.str a,w44 b,.i r.2,.i c],4,false⟩]) | none=>(mkH [⟨[.str a,w44 b,.i g,.i c],4,false⟩]),cxTi,cxOrd,λr=>match r with | some _=>none | none=>some (thrown,[0]),false⟩
def Pi9 (f:Ti9):Prop := ∀ a b c g h,PQh (Xi9 a b c g h) 21 [.ptr 0 4 0,.i a] (f a b c g h)
abbrev Ti10:Type:=LN→(List S43)→Int→Int→Option (Option (S28×Int))
def Xi10 (a:LN) (b:List S43) (g:Int) (c:Int):Fx (Option (S28×Int)):=⟨Tryz.prog,cx,Tryz.f29,λr=>match r with | some r=>n29 r.1 | none => .top,1,λr=>match r with | some r=>(mkH [⟨[.str a,w44 b,.i r.2,.i c],4,false⟩]) | none=>(mkH [⟨[.str a,w44 b,.i g,.i c],4,false⟩]),cxTi,cxOrd,λr=>match r with | some _=>none | none=>some (thrown,[0]),false⟩
def Pi10 (f:Ti10):Prop := ∀ a b c g,PQh (Xi10 a b c g) 29 [.ptr 0 4 0] (f a b c g)
abbrev Ri12:Type:=((List S28)×Int)
abbrev Ti12:Type:=LL→LN→(List S43)→Int→Int→Option (Option Ri12)
def Xi12 (h:LL) (a:LN) (b:List S43) (g:Int) (c:Int):Fx (Option Ri12):=⟨Tryz.prog,cx,Tryz.f32,λr=>match r with | some r=>w29 r.1 | none => .top,1,λr=>match r with | some r=>(mkH [⟨[.str a,w44 b,.i r.2,.i c],4,false⟩]) | none=>(mkH [⟨[.str a,w44 b,.i g,.i c],4,false⟩]),cxTi,cxOrd,λr=>match r with | some _=>none | none=>some (thrown,[0]),false⟩
def Pi12 (f:Ti12):Prop := ∀ a b c g h,PQh (Xi12 a b c g h) 32 [.ptr 0 4 0,w9 a,.func 34 [.ptr 0 4 0] []] (f a b c g h)
abbrev Ri14:Type:=(S28×Int×Int)
abbrev Ti14:Type:=LN→(List S43)→Int→Int→Option (Option Ri14)
def Xi14 (a:LN) (b:List S43) (g:Int) (c:Int):Fx (Option Ri14):=⟨Tryz.prog,cx,Tryz.f48,λr=>match r with | some r => .tuple [n29 r.1,.i r.2.1] | none => .top,1,λr=>match r with | some r=>(mkH [⟨[.str a,w44 b,.i r.2.2,.i c],4,false⟩]) | none=>(mkH [⟨[.str a,w44 b,.i g,.i c],4,false⟩]),cxTi,cxOrd,λr=>match r with | some _=>none | none=>some (thrown,[0]),false⟩
def Pi14 (f:Ti14):Prop := ∀ a b c g,PQh (Xi14 a b c g) 48 [.ptr 0 4 0] (f a b c g)
abbrev Ti19:Type:=LN→(List S43)→Int→Int→Option (Option (S28×Int))
def Xi19 (a:LN) (b:List S43) (g:Int) (c:Int):Fx (Option (S28×Int)):=⟨Tryz.prog,cx,Tryz.f34,λr=>match r with | some r=>n29 r.1 | none => .top,1,λr=>match r with | some r=>(mkH [⟨[.str a,w44 b,.i r.2,.i c],4,false⟩]) | none=>(mkH [⟨[.str a,w44 b,.i g,.i c],4,false⟩]),cxTi,cxOrd,λr=>match r with | some _=>none | none=>some (thrown,[0]),false⟩
def Pi19 (f:Ti19):Prop := ∀ a b c g,PQh (Xi19 a b c g) 34 [.ptr 0 4 0] (f a b c g)
abbrev Ri23:Type:=(S28×Bool×Int)
abbrev Ti23:Type:=LN→(List S43)→Int→Int→Option (Option Ri23)
def Xi23 (a:LN) (b:List S43) (g:Int) (c:Int):Fx (Option Ri23):=⟨Tryz.prog,cx,Tryz.f79,λr=>match r with | some r => .tuple [n29 r.1,.bool r.2.1] | none => .top,1,λr=>match r with | some r=>(mkH [⟨[.str a,w44 b,.i r.2.2,.i c],4,false⟩]) | none=>(mkH [⟨[.str a,w44 b,.i g,.i c],4,false⟩]),cxTi,cxOrd,λr=>match r with | some _=>none | none=>some (thrown,[0]),false⟩
def Pi23 (f:Ti23):Prop := ∀ a b c g,PQh (Xi23 a b c g) 79 [.ptr 0 4 0] (f a b c g)
abbrev Ti24:Type:=S28→Bool→LN→(List S43)→Int→Int→Option (Option (S28×Int))
def Xi24 (h:S28) (j:Bool) (a:LN) (b:List S43) (g:Int) (c:Int):Fx (Option (S28×Int)):=⟨Tryz.prog,cx,Tryz.f80,λr=>match r with | some r=>n29 r.1 | none => .top,1,λr=>match r with | some r=>(mkH [⟨[.str a,w44 b,.i r.2,.i c],4,false⟩]) | none=>(mkH [⟨[.str a,w44 b,.i g,.i c],4,false⟩]),cxTi,cxOrd,λr=>match r with | some _=>none | none=>some (thrown,[0]),false⟩
def Pi24 (f:Ti24):Prop := ∀ a b c g h j,PQh (Xi24 a b c g h j) 80 [.ptr 0 4 0,n29 a,.bool b] (f a b c g h j)
abbrev Ti26:Type:=LN→(List S43)→Int→Int→Option (Option (S28×Int))
def Xi26 (a:LN) (b:List S43) (g:Int) (c:Int):Fx (Option (S28×Int)):=⟨Tryz.prog,cx,Tryz.f70,λr=>match r with | some r=>n29 r.1 | none => .top,1,λr=>match r with | some r=>(mkH [⟨[.str a,w44 b,.i r.2,.i c],4,false⟩]) | none=>(mkH [⟨[.str a,w44 b,.i g,.i c],4,false⟩]),cxTi,cxOrd,λr=>match r with | some _=>none | none=>some (thrown,[0]),false⟩
def Pi26 (f:Ti26):Prop := ∀ a b c g,PQh (Xi26 a b c g) 70 [.ptr 0 4 0] (f a b c g)
abbrev Ti27:Type:=LN→S28→S28→LN→(List S43)→Int→Int→Option (Option (S28×Int))
def Xi27 (h:LN) (j:S28) (k:S28) (a:LN) (b:List S43) (g:Int) (c:Int):Fx (Option (S28×Int)):=⟨Tryz.prog,cx,Tryz.f69,λr=>match r with | some r=>n29 r.1 | none => .top,1,λr=>match r with | some r=>(mkH [⟨[.str a,w44 b,.i r.2,.i c],4,false⟩]) | none=>(mkH [⟨[.str a,w44 b,.i g,.i c],4,false⟩]),cxTi,cxOrd,λr=>match r with | some _=>none | none=>some (thrown,[0]),false⟩
def Pi27 (f:Ti27):Prop := ∀ a b c g h j k,PQh (Xi27 a b c g h j k) 69 [.ptr 0 4 0,.str a,n29 b,n29 c] (f a b c g h j k)
abbrev Ti35:Type:=LN→(List S43)→Int→Int→Option (Option (S28×Int))
def Xi35 (a:LN) (b:List S43) (g:Int) (c:Int):Fx (Option (S28×Int)):=⟨Tryz.prog,cx,Tryz.f100,λr=>match r with | some r=>n29 r.1 | none => .top,1,λr=>match r with | some r=>(mkH [⟨[.str a,w44 b,.i r.2,.i c],4,false⟩]) | none=>(mkH [⟨[.str a,w44 b,.i g,.i c],4,false⟩]),cxTi,cxOrd,λr=>match r with | some _=>none | none=>some (thrown,[0]),false⟩
def Pi35 (f:Ti35):Prop := ∀ a b c g,PQh (Xi35 a b c g) 100 [.ptr 0 4 0] (f a b c g)
abbrev Ri36:Type:=(Int×LN×Bool×Bool×LL×LL×Int×(List S28))
abbrev Ti36:Type:=Int→LN→Bool→Bool→LL→LL→LN→LN→(List S43)→Int→Int→(List S28)→Option (Option Ri36)
def Xi36 (j:Int) (k:LN) (l:Bool) (m:Bool) (n:LL) (o:LL) (q:LN) (b:LN) (c:List S43) (g:Int) (a:Int) (h:List S28):Fx (Option Ri36):=⟨Tryz.prog,cx,Tryz.f101,λr=>match r with | some r => .agg [.i r.1,.str r.2.1,.own 1 (r.2.2.2.2.2.2.2).length 7,.bool r.2.2.1,.bool r.2.2.2.1,w9 r.2.2.2.2.1,w9 r.2.2.2.2.2.1] | none => .top,2,λr=>match r with | some r=>(mkH [⟨[.str b,w44 c,.i r.2.2.2.2.2.2.1,.i a],4,false⟩,⟨(r.2.2.2.2.2.2.2).flatMap e29,0,false⟩]) | none=>(mkH [⟨[.str b,w44 c,.i g,.i a],4,false⟩,⟨(h).flatMap e29,0,false⟩]),cxTi,cxOrd,λr=>match r with | some _=>none | none=>some (thrown,[0,1]),false⟩
def Pi36 (f:Ti36):Prop := ∀ b c g h j k l n o q a m,PQh (Xi36 b c g h j k l n o q a m) 101 [.ptr 0 4 0,.agg [.i b,.str c,.own 1 (m).length 7,.bool g,.bool h,w9 j,w9 k],.str l,.func 102 [.ptr 0 4 0] []] (f b c g h j k l n o q a m)
abbrev Ti37:Type:=LN→(List S43)→Int→Int→Option (Option (S28×Int))
def Xi37 (a:LN) (b:List S43) (g:Int) (c:Int):Fx (Option (S28×Int)):=⟨Tryz.prog,cx,Tryz.f103,λr=>match r with | some r=>n29 r.1 | none => .top,1,λr=>match r with | some r=>(mkH [⟨[.str a,w44 b,.i r.2,.i c],4,false⟩]) | none=>(mkH [⟨[.str a,w44 b,.i g,.i c],4,false⟩]),cxTi,cxOrd,λr=>match r with | some _=>none | none=>some (thrown,[0]),false⟩
def Pi37 (f:Ti37):Prop := ∀ a b c g,PQh (Xi37 a b c g) 103 [.ptr 0 4 0] (f a b c g)
abbrev Ri38:Type:=(Int×LN×Bool×Bool×LL×LL×Int×(List S28))
abbrev Ti38:Type:=Int→LN→Bool→Bool→LL→LL→LN→LN→(List S43)→Int→Int→(List S28)→Option (Option Ri38)
def Xi38 (j:Int) (k:LN) (l:Bool) (m:Bool) (n:LL) (o:LL) (q:LN) (b:LN) (c:List S43) (g:Int) (a:Int) (h:List S28):Fx (Option Ri38):=⟨Tryz.prog,cx,Tryz.f101,λr=>match r with | some r => .agg [.i r.1,.str r.2.1,.own 1 (r.2.2.2.2.2.2.2).length 7,.bool r.2.2.1,.bool r.2.2.2.1,w9 r.2.2.2.2.1,w9 r.2.2.2.2.2.1] | none => .top,2,λr=>match r with | some r=>(mkH [⟨[.str b,w44 c,.i r.2.2.2.2.2.2.1,.i a],4,false⟩,⟨(r.2.2.2.2.2.2.2).flatMap e29,0,false⟩]) | none=>(mkH [⟨[.str b,w44 c,.i g,.i a],4,false⟩,⟨(h).flatMap e29,0,false⟩]),cxTi,cxOrd,λr=>match r with | some _=>none | none=>some (thrown,[0,1]),false⟩
def Pi38 (f:Ti38):Prop := ∀ b c g h j k l n o q a m,PQh (Xi38 b c g h j k l n o q a m) 101 [.ptr 0 4 0,.agg [.i b,.str c,.own 1 (m).length 7,.bool g,.bool h,w9 j,w9 k],.str l,.func 104 [.ptr 0 4 0] []] (f b c g h j k l n o q a m)
abbrev Ri39:Type:=(Int×LN×Bool×Bool×LL×LL×Int×(List S28))
abbrev Ti39:Type:=Int→LN→Bool→Bool→LL→LL→LN→LN→(List S43)→Int→Int→(List S28)→Option (Option Ri39)
def Xi39 (j:Int) (k:LN) (l:Bool) (m:Bool) (n:LL) (o:LL) (q:LN) (b:LN) (c:List S43) (g:Int) (a:Int) (h:List S28):Fx (Option Ri39):=⟨Tryz.prog,cx,Tryz.f101,λr=>match r with | some r => .agg [.i r.1,.str r.2.1,.own 1 (r.2.2.2.2.2.2.2).length 7,.bool r.2.2.1,.bool r.2.2.2.1,w9 r.2.2.2.2.1,w9 r.2.2.2.2.2.1] | none => .top,2,λr=>match r with | some r=>(mkH [⟨[.str b,w44 c,.i r.2.2.2.2.2.2.1,.i a],4,false⟩,⟨(r.2.2.2.2.2.2.2).flatMap e29,0,false⟩]) | none=>(mkH [⟨[.str b,w44 c,.i g,.i a],4,false⟩,⟨(h).flatMap e29,0,false⟩]),cxTi,cxOrd,λr=>match r with | some _=>none | none=>some (thrown,[0,1]),false⟩
def Pi39 (f:Ti39):Prop := ∀ b c g h j k l n o q a m,PQh (Xi39 b c g h j k l n o q a m) 101 [.ptr 0 4 0,.agg [.i b,.str c,.own 1 (m).length 7,.bool g,.bool h,w9 j,w9 k],.str l,.func 105 [.ptr 0 4 0] []] (f b c g h j k l n o q a m)
abbrev Ti42:Type:=LN→(List S43)→Int→Int→Option (Option (S28×Int))
def Xi42 (a:LN) (b:List S43) (g:Int) (c:Int):Fx (Option (S28×Int)):=⟨Tryz.prog,cx,Tryz.f107,λr=>match r with | some r=>n29 r.1 | none => .top,1,λr=>match r with | some r=>(mkH [⟨[.str a,w44 b,.i r.2,.i c],4,false⟩]) | none=>(mkH [⟨[.str a,w44 b,.i g,.i c],4,false⟩]),cxTi,cxOrd,λr=>match r with | some _=>none | none=>some (thrown,[0]),false⟩
def Pi42 (f:Ti42):Prop := ∀ a b c g,PQh (Xi42 a b c g) 107 [.ptr 0 4 0] (f a b c g)
abbrev Ti43:Type:=LN→(List S43)→Int→Int→Option (Option (S28×Int))
def Xi43 (a:LN) (b:List S43) (g:Int) (c:Int):Fx (Option (S28×Int)):=⟨Tryz.prog,cx,Tryz.f109,λr=>match r with | some r=>n29 r.1 | none => .top,1,λr=>match r with | some r=>(mkH [⟨[.str a,w44 b,.i r.2,.i c],4,false⟩]) | none=>(mkH [⟨[.str a,w44 b,.i g,.i c],4,false⟩]),cxTi,cxOrd,λr=>match r with | some _=>none | none=>some (thrown,[0]),false⟩
def Pi43 (f:Ti43):Prop := ∀ a b c g,PQh (Xi43 a b c g) 109 [.ptr 0 4 0] (f a b c g)
abbrev Ti44:Type:=S28→LN→(List S43)→Int→Int→Option (Option (S28×Int))
def Xi44 (h:S28) (a:LN) (b:List S43) (g:Int) (c:Int):Fx (Option (S28×Int)):=⟨Tryz.prog,cx,Tryz.f110,λr=>match r with | some r=>n29 r.1 | none => .top,1,λr=>match r with | some r=>(mkH [⟨[.str a,w44 b,.i r.2,.i c],4,false⟩]) | none=>(mkH [⟨[.str a,w44 b,.i g,.i c],4,false⟩]),cxTi,cxOrd,λr=>match r with | some _=>none | none=>some (thrown,[0]),false⟩
def Pi44 (f:Ti44):Prop := ∀ a b c g h,PQh (Xi44 a b c g h) 110 [.ptr 0 4 0,n29 a] (f a b c g h)
abbrev Ti46:Type:=LN→(List S43)→Int→Int→Option (Option (S28×Int))
def Xi46 (a:LN) (b:List S43) (g:Int) (c:Int):Fx (Option (S28×Int)):=⟨Tryz.prog,cx,Tryz.f94,λr=>match r with | some r=>n29 r.1 | none => .top,1,λr=>match r with | some r=>(mkH [⟨[.str a,w44 b,.i r.2,.i c],4,false⟩]) | none=>(mkH [⟨[.str a,w44 b,.i g,.i c],4,false⟩]),cxTi,cxOrd,λr=>match r with | some _=>none | none=>some (thrown,[0]),false⟩
def Pi46 (f:Ti46):Prop := ∀ a b c g,PQh (Xi46 a b c g) 94 [.ptr 0 4 0] (f a b c g)
abbrev Ti54:Type:=LN→(List S43)→Int→Int→Option (Option (S28×Int))
def Xi54 (a:LN) (b:List S43) (g:Int) (c:Int):Fx (Option (S28×Int)):=⟨Tryz.prog,cx,Tryz.f102,λr=>match r with | some r=>n29 r.1 | none => .top,1,λr=>match r with | some r=>(mkH [⟨[.str a,w44 b,.i r.2,.i c],4,false⟩]) | none=>(mkH [⟨[.str a,w44 b,.i g,.i c],4,false⟩]),cxTi,cxOrd,λr=>match r with | some _=>none | none=>some (thrown,[0]),false⟩
def Pi54 (f:Ti54):Prop := ∀ a b c g,PQh (Xi54 a b c g) 102 [.ptr 0 4 0] (f a b c g)
abbrev Ri55:Type:=(Int×LN×Bool×Bool×LL×LL×Int×(List S28))
abbrev Ti55:Type:=Int→LN→Bool→Bool→LL→LL→LN→(List S43)→Int→Int→(List S28)→Option (Option Ri55)
def Xi55 (j:Int) (k:LN) (l:Bool) (m:Bool) (n:LL) (o:LL) (a:LN) (b:List S43) (g:Int) (c:Int) (h:List S28):Fx (Option Ri55):=⟨Tryz.prog,cx,Tryz.f132,λr=>match r with | some r => .agg [.i r.1,.str r.2.1,.own 1 (r.2.2.2.2.2.2.2).length 7,.bool r.2.2.1,.bool r.2.2.2.1,w9 r.2.2.2.2.1,w9 r.2.2.2.2.2.1] | none => .top,2,λr=>match r with | some r=>(mkH [⟨[.str a,w44 b,.i r.2.2.2.2.2.2.1,.i c],4,false⟩,⟨(r.2.2.2.2.2.2.2).flatMap e29,0,false⟩]) | none=>(mkH [⟨[.str a,w44 b,.i g,.i c],4,false⟩,⟨(h).flatMap e29,0,false⟩]),cxTi,cxOrd,λr=>match r with | some _=>none | none=>some (thrown,[0,1]),false⟩
def Pi55 (f:Ti55):Prop := ∀ a b c g h j l m n o k,PQh (Xi55 a b c g h j l m n o k) 132 [.ptr 0 4 0,.agg [.i a,.str b,.own 1 (k).length 7,.bool c,.bool g,w9 h,w9 j]] (f a b c g h j l m n o k)
abbrev Ti56:Type:=LN→(List S43)→Int→Int→Option (Option (S28×Int))
def Xi56 (a:LN) (b:List S43) (g:Int) (c:Int):Fx (Option (S28×Int)):=⟨Tryz.prog,cx,Tryz.f104,λr=>match r with | some r=>n29 r.1 | none => .top,1,λr=>match r with | some r=>(mkH [⟨[.str a,w44 b,.i r.2,.i c],4,false⟩]) | none=>(mkH [⟨[.str a,w44 b,.i g,.i c],4,false⟩]),cxTi,cxOrd,λr=>match r with | some _=>none | none=>some (thrown,[0]),false⟩
def Pi56 (f:Ti56):Prop := ∀ a b c g,PQh (Xi56 a b c g) 104 [.ptr 0 4 0] (f a b c g)
abbrev Ti57:Type:=LN→(List S43)→Int→Int→Option (Option (S28×Int))
def Xi57 (a:LN) (b:List S43) (g:Int) (c:Int):Fx (Option (S28×Int)):=⟨Tryz.prog,cx,Tryz.f105,λr=>match r with | some r=>n29 r.1 | none => .top,1,λr=>match r with | some r=>(mkH [⟨[.str a,w44 b,.i r.2,.i c],4,false⟩]) | none=>(mkH [⟨[.str a,w44 b,.i g,.i c],4,false⟩]),cxTi,cxOrd,λr=>match r with | some _=>none | none=>some (thrown,[0]),false⟩
def Pi57 (f:Ti57):Prop := ∀ a b c g,PQh (Xi57 a b c g) 105 [.ptr 0 4 0] (f a b c g)
abbrev Ti59:Type:=LN→(List S43)→Int→Int→Option (Option (S28×Int))
def Xi59 (a:LN) (b:List S43) (g:Int) (c:Int):Fx (Option (S28×Int)):=⟨Tryz.prog,cx,Tryz.f135,λr=>match r with | some r=>n29 r.1 | none => .top,1,λr=>match r with | some r=>(mkH [⟨[.str a,w44 b,.i r.2,.i c],4,false⟩]) | none=>(mkH [⟨[.str a,w44 b,.i g,.i c],4,false⟩]),cxTi,cxOrd,λr=>match r with | some _=>none | none=>some (thrown,[0]),false⟩
def Pi59 (f:Ti59):Prop := ∀ a b c g,PQh (Xi59 a b c g) 135 [.ptr 0 4 0] (f a b c g)
abbrev Ri61:Type:=(Int×LN×Bool×Bool×LL×LL×Int×(List S28))
abbrev Ti61:Type:=Int→LN→Bool→Bool→LL→LL→LN→(List S43)→Int→Int→(List S28)→Option (Option Ri61)
def Xi61 (j:Int) (k:LN) (l:Bool) (m:Bool) (n:LL) (o:LL) (a:LN) (b:List S43) (g:Int) (c:Int) (h:List S28):Fx (Option Ri61):=⟨Tryz.prog,cx,Tryz.f137,λr=>match r with | some r => .agg [.i r.1,.str r.2.1,.own 1 (r.2.2.2.2.2.2.2).length 7,.bool r.2.2.1,.bool r.2.2.2.1,w9 r.2.2.2.2.1,w9 r.2.2.2.2.2.1] | none => .top,2,λr=>match r with | some r=>(mkH [⟨[.str a,w44 b,.i r.2.2.2.2.2.2.1,.i c],4,false⟩,⟨(r.2.2.2.2.2.2.2).flatMap e29,0,false⟩]) | none=>(mkH [⟨[.str a,w44 b,.i g,.i c],4,false⟩,⟨(h).flatMap e29,0,false⟩]),cxTi,cxOrd,λr=>match r with | some _=>none | none=>some (thrown,[0,1]),false⟩
def Pi61 (f:Ti61):Prop := ∀ a b c g h j l m n o k,PQh (Xi61 a b c g h j l m n o k) 137 [.ptr 0 4 0,.agg [.i a,.str b,.own 1 (k).length 7,.bool c,.bool g,w9 h,w9 j],.func 34 [.ptr 0 4 0] []] (f a b c g h j l m n o k)
abbrev Ri62:Type:=(Int×LN×Bool×Bool×LL×LL×Int×(List S28))
abbrev Ti62:Type:=Int→LN→Bool→Bool→LL→LL→LN→(List S43)→Int→Int→(List S28)→Option (Option Ri62)
def Xi62 (j:Int) (k:LN) (l:Bool) (m:Bool) (n:LL) (o:LL) (a:LN) (b:List S43) (g:Int) (c:Int) (h:List S28):Fx (Option Ri62):=⟨Tryz.prog,cx,Tryz.f137,λr=>match r with | some r => .agg [.i r.1,.str r.2.1,.own 1 (r.2.2.2.2.2.2.2).length 7,.bool r.2.2.1,.bool r.2.2.2.1,w9 r.2.2.2.2.1,w9 r.2.2.2.2.2.1] | none => .top,2,λr=>match r with | some r=>(mkH [⟨[.str a,w44 b,.i r.2.2.2.2.2.2.1,.i c],4,false⟩,⟨(r.2.2.2.2.2.2.2).flatMap e29,0,false⟩]) | none=>(mkH [⟨[.str a,w44 b,.i g,.i c],4,false⟩,⟨(h).flatMap e29,0,false⟩]),cxTi,cxOrd,λr=>match r with | some _=>none | none=>some (thrown,[0,1]),false⟩
def Pi62 (f:Ti62):Prop := ∀ a b c g h j l m n o k,PQh (Xi62 a b c g h j l m n o k) 137 [.ptr 0 4 0,.agg [.i a,.str b,.own 1 (k).length 7,.bool c,.bool g,w9 h,w9 j],.func 138 [.ptr 0 4 0] []] (f a b c g h j l m n o k)
abbrev Ti63:Type:=LN→(List S43)→Int→Int→Option (Option (S28×Int))
def Xi63 (a:LN) (b:List S43) (g:Int) (c:Int):Fx (Option (S28×Int)):=⟨Tryz.prog,cx,Tryz.f139,λr=>match r with | some r=>n29 r.1 | none => .top,1,λr=>match r with | some r=>(mkH [⟨[.str a,w44 b,.i r.2,.i c],4,false⟩]) | none=>(mkH [⟨[.str a,w44 b,.i g,.i c],4,false⟩]),cxTi,cxOrd,λr=>match r with | some _=>none | none=>some (thrown,[0]),false⟩
def Pi63 (f:Ti63):Prop := ∀ a b c g,PQh (Xi63 a b c g) 139 [.ptr 0 4 0] (f a b c g)
abbrev Ti64:Type:=LN→(List S43)→Int→Int→Option (Option (S28×Int))
def Xi64 (a:LN) (b:List S43) (g:Int) (c:Int):Fx (Option (S28×Int)):=⟨Tryz.prog,cx,Tryz.f129,λr=>match r with | some r=>n29 r.1 | none => .top,1,λr=>match r with | some r=>(mkH [⟨[.str a,w44 b,.i r.2,.i c],4,false⟩]) | none=>(mkH [⟨[.str a,w44 b,.i g,.i c],4,false⟩]),cxTi,cxOrd,λr=>match r with | some _=>none | none=>some (thrown,[0]),false⟩
def Pi64 (f:Ti64):Prop := ∀ a b c g,PQh (Xi64 a b c g) 129 [.ptr 0 4 0] (f a b c g)
abbrev Ri78:Type:=((List S28)×Int)
abbrev Ti78:Type:=LL→LN→(List S43)→Int→Int→Option (Option Ri78)
def Xi78 (h:LL) (a:LN) (b:List S43) (g:Int) (c:Int):Fx (Option Ri78):=⟨Tryz.prog,cx,Tryz.f32,λr=>match r with | some r=>w29 r.1 | none => .top,2,λr=>match r with | some r=>(mkH [⟨[.str a,w44 b,.i r.2,.i c],4,false⟩,⟨[.ptr 0 4 0],1,false⟩]) | none=>(mkH [⟨[.str a,w44 b,.i g,.i c],4,false⟩,⟨[.ptr 0 4 0],1,false⟩]),cxTi,cxOrd,λr=>match r with | some _=>none | none=>some (thrown,[0,1]),false⟩
def Pi78 (f:Ti78):Prop := ∀ a b c g h,PQh (Xi78 a b c g h) 32 [.ptr 0 4 0,w9 a,.func 145 [] [.ptr 1 1 0]] (f a b c g h)
abbrev Ri79:Type:=((List S28)×Int)
abbrev Ti79:Type:=LL→LN→(List S43)→Int→Int→Option (Option Ri79)
def Xi79 (h:LL) (a:LN) (b:List S43) (g:Int) (c:Int):Fx (Option Ri79):=⟨Tryz.prog,cx,Tryz.f32,λr=>match r with | some r=>w29 r.1 | none => .top,1,λr=>match r with | some r=>(mkH [⟨[.str a,w44 b,.i r.2,.i c],4,false⟩]) | none=>(mkH [⟨[.str a,w44 b,.i g,.i c],4,false⟩]),cxTi,cxOrd,λr=>match r with | some _=>none | none=>some (thrown,[0]),false⟩
def Pi79 (f:Ti79):Prop := ∀ a b c g h,PQh (Xi79 a b c g h) 32 [.ptr 0 4 0,w9 a,.func 138 [.ptr 0 4 0] []] (f a b c g h)
abbrev Ri80:Type:=(Int×(List S28))
abbrev Ti80:Type:=LL→LN→(List S43)→Int→Int→Option (Option Ri80)
def Xi80 (h:LL) (a:LN) (b:List S43) (g:Int) (c:Int):Fx (Option Ri80):=⟨Tryz.prog,cx,Tryz.f32,λr=>match r with | some r => .own 1 (r.2).length 7 | none => .top,1,λr=>match r with | some r=>(mkH [⟨[.str a,w44 b,.i r.1,.i c],4,false⟩,⟨(r.2).flatMap e29,0,false⟩]) | none=>(mkH [⟨[.str a,w44 b,.i g,.i c],4,false⟩]),cxTi,cxOrd,λr=>match r with | some _=>none | none=>some (thrown,[0]),false⟩
def Pi80 (f:Ti80):Prop := ∀ a b c g h,PQh (Xi80 a b c g h) 32 [.ptr 0 4 0,w9 a,.func 34 [.ptr 0 4 0] []] (f a b c g h)
abbrev Ti85:Type:=LN→(List S43)→Int→Int→Option (Option (S28×Int))
def Xi85 (a:LN) (b:List S43) (g:Int) (c:Int):Fx (Option (S28×Int)):=⟨Tryz.prog,cx,Tryz.f145,λr=>match r with | some r=>n29 r.1 | none => .top,2,λr=>match r with | some r=>(mkH [⟨[.str a,w44 b,.i r.2,.i c],4,false⟩,⟨[.ptr 0 4 0],1,false⟩]) | none=>(mkH [⟨[.str a,w44 b,.i g,.i c],4,false⟩,⟨[.ptr 0 4 0],1,false⟩]),cxTi,cxOrd,λr=>match r with | some _=>none | none=>some (thrown,[0,1]),false⟩
def Pi85 (f:Ti85):Prop := ∀ a b c g,PQh (Xi85 a b c g) 145 [.ptr 1 1 0] (f a b c g)
abbrev Ti86:Type:=LN→(List S43)→Int→Int→Option (Option (S28×Int))
def Xi86 (a:LN) (b:List S43) (g:Int) (c:Int):Fx (Option (S28×Int)):=⟨Tryz.prog,cx,Tryz.f138,λr=>match r with | some r=>n29 r.1 | none => .top,1,λr=>match r with | some r=>(mkH [⟨[.str a,w44 b,.i r.2,.i c],4,false⟩]) | none=>(mkH [⟨[.str a,w44 b,.i g,.i c],4,false⟩]),cxTi,cxOrd,λr=>match r with | some _=>none | none=>some (thrown,[0]),false⟩
def Pi86 (f:Ti86):Prop := ∀ a b c g,PQh (Xi86 a b c g) 138 [.ptr 0 4 0] (f a b c g)
abbrev Ti88:Type:=LN→LN→(List S43)→Int→Int→Option (Option (S28×Int))
def Xi88 (h:LN) (a:LN) (b:List S43) (g:Int) (c:Int):Fx (Option (S28×Int)):=⟨Tryz.prog,cx,Tryz.f146,λr=>match r with | some r=>n29 r.1 | none => .top,1,λr=>match r with | some r=>(mkH [⟨[.str a,w44 b,.i r.2,.i c],4,false⟩]) | none=>(mkH [⟨[.str a,w44 b,.i g,.i c],4,false⟩]),cxTi,cxOrd,λr=>match r with | some _=>none | none=>some (thrown,[0]),false⟩
def Pi88 (f:Ti88):Prop := ∀ a b c g h,PQh (Xi88 a b c g h) 146 [.ptr 0 4 0,.str a] (f a b c g h)
abbrev Ti89:Type:=LN→(List S43)→Int→Int→Option (Option (S28×Int))
def Xi89 (a:LN) (b:List S43) (g:Int) (c:Int):Fx (Option (S28×Int)):=⟨Tryz.prog,cx,Tryz.f149,λr=>match r with | some r=>n29 r.1 | none => .top,1,λr=>match r with | some r=>(mkH [⟨[.str a,w44 b,.i r.2,.i c],4,false⟩]) | none=>(mkH [⟨[.str a,w44 b,.i g,.i c],4,false⟩]),cxTi,cxOrd,λr=>match r with | some _=>none | none=>some (thrown,[0]),false⟩
def Pi89 (f:Ti89):Prop := ∀ a b c g,PQh (Xi89 a b c g) 149 [.ptr 0 4 0] (f a b c g)
structure Fns0 where
 i9:Ti9
 i10:Ti10
 i12:Ti12
 i14:Ti14
 i19:Ti19
 i23:Ti23
 i24:Ti24
 i26:Ti26
 i27:Ti27
 i35:Ti35
 i36:Ti36
 i37:Ti37
 i38:Ti38
 i39:Ti39
 i42:Ti42
 i43:Ti43
 i44:Ti44
 i46:Ti46
 i54:Ti54
 i55:Ti55
 i56:Ti56
 i57:Ti57
 i59:Ti59
 i61:Ti61
 i62:Ti62
 i63:Ti63
 i64:Ti64
 i78:Ti78
 i79:Ti79
 i80:Ti80
 i85:Ti85
 i86:Ti86
 i88:Ti88
 i89:Ti89
structure FnsOk0 (F:Fns0):Prop where
 i9_ok:Pi9 (F.i9)
 i10_ok:Pi10 (F.i10)
 i12_ok:Pi12 (F.i12)
 i14_ok:Pi14 (F.i14)
 i19_ok:Pi19 (F.i19)
 i23_ok:Pi23 (F.i23)
 i24_ok:Pi24 (F.i24)
 i26_ok:Pi26 (F.i26)
 i27_ok:Pi27 (F.i27)
 i35_ok:Pi35 (F.i35)
 i36_ok:Pi36 (F.i36)
 i37_ok:Pi37 (F.i37)
 i38_ok:Pi38 (F.i38)
 i39_ok:Pi39 (F.i39)
 i42_ok:Pi42 (F.i42)
 i43_ok:Pi43 (F.i43)
 i44_ok:Pi44 (F.i44)
 i46_ok:Pi46 (F.i46)
 i54_ok:Pi54 (F.i54)
 i55_ok:Pi55 (F.i55)
 i56_ok:Pi56 (F.i56)
 i57_ok:Pi57 (F.i57)
 i59_ok:Pi59 (F.i59)
 i61_ok:Pi61 (F.i61)
 i62_ok:Pi62 (F.i62)
 i63_ok:Pi63 (F.i63)
 i64_ok:Pi64 (F.i64)
 i78_ok:Pi78 (F.i78)
 i79_ok:Pi79 (F.i79)
 i80_ok:Pi80 (F.i80)
 i85_ok:Pi85 (F.i85)
 i86_ok:Pi86 (F.i86)
 i88_ok:Pi88 (F.i88)
 i89_ok:Pi89 (F.i89)
def i10p2:Pt:=nav [0,0,0,0,0] (nav [0,0,0,0] (nav [0] (bodyAt Tryz.f29)))
def i10p3:Pt:=nav [0,0] i10p2
def i10p4:Pt:=nav [0,0,0] i10p3
def i10p6:Pt:=nav [0,0,0] (nav [0,0,0] i10p4)
def i10p7:Pt:=nav [0,0,0,0] i10p6
def i10d0:DP:=⟨[],[(0,0,0),(1,0,0),(3,0,0),(7,0,0),(15,0,0),(31,0,0),(63,0,0),(127,0,0),(255,0,0),(31,0,0),(543,0,0),(1567,0,0),(3615,0,0),(31,0,0),(8223,0,0),(24607,0,0),(57375,0,0),(131071,0,0),(262143,0,0),(524287,0,0)],20,thrown,[],H0⟩
def qHu (k:Nat) (F:Fns0)  (m:LN) (n:List S43) (o:Int) (ih:Int→(List S28)→Option (Option (S28×Int))):Int→(List S28)→Option (Option (S28×Int)) :=
 λ(b:Int) (c:List S28)=>jn (λ(q:Bool×Int×(List S28))=>(i11 k m n q.2.1 o).bind λj=>bT (F.i9 (0:Int) m n j.2 o) λa=>(appS 104 q.2.2 ([(⟨a.1.f0,a.1.f1,a.1.f2,a.1.f3,q.1,j.1,a.1.f6⟩:S28)]:List S28)).bind λg=>bT (i13 k ([44]:LN) m n a.2 o) λh=>if h.1 then (ih h.2 g) else (some (some ((⟨(25:Int),([]:LN),⟨(g).length,(g).flatMap e29⟩,false,false,([]:LL),([]:LL)⟩:S28),h.2)))) (λr=>if (decide (0 < (c.length:Int))) then ((g64 k m n b).bind λl=>r (l,b,c)) else (r (false,b,c)))
def qNe (k:Nat) (F:Fns0)  (a:LN) (b:List S43) (c:Int) (n:Nat):Int→(List S28)→Option (Option (S28×Int)):=lp (λ_ _=>none) (qHu k F a b c) n
theorem qNd (k:Nat) (F:Fns0) (hF:FnsOk0 F) (m:LN) (o:List S43) (a2:Int) (q:Int)    : ∀ (n:Nat) (g:Int) (a:List S28),Ok (Xi10 m o a2 q) i10p2 [(0,.ptr 0 4 0),(2,.ptr 1 7 0),(3,.ptr 2 7 0)] (mkH [⟨[.str m,w44 o,.i g,.i q],4,false⟩,⟨[.i 0,.str [],.nils,.bool false,.bool false,.nils,.nils],0,false⟩,⟨[.i 25,.str [],.own 3 (a).length 7,.bool false,.bool false,.nils,.nils],7,false⟩,⟨(a).flatMap e29,0,false⟩]) (qNe k F m o q n g a):=by
 intro n
 induction n with
 | zero=>intro g a; exact ok_none
 | succ n ih =>
  intro g a
  show Ok _ _ _ _ (qHu k F m o q (qNe k F m o q n) g a)
  unfold qHu
  let r:Blk:=⟨[.i 0,.str [],.nils,.bool false,.bool false,.nils,.nils],0,false⟩
  refine oJ i10p3 (λ(u:Bool×Int×(List S28))=>[(0,.ptr 0 4 0),(2,.ptr 1 7 0),(3,.ptr 2 7 0),(4,.bool u.1)]) (λ(u:Bool×Int×(List S28))=>(mkH [⟨[.str m,w44 o,.i u.2.1,.i q],4,false⟩,r,⟨[.i 25,.str [],.own 3 (u.2.2).length 7,.bool false,.bool false,.nils,.nils],7,false⟩,⟨(u.2.2).flatMap e29,0,false⟩])) (λu=>?_) (λj6 M=>?_)
  ·let E1:Env:=[(27,.ptr 0 4 0),(0,.ptr 0 4 0),(2,.ptr 1 7 0),(3,.ptr 2 7 0),(4,.bool u.1)]
   let E:Blk:=⟨[.i 25,.str [],.own 3 (u.2.2).length 7,.bool false,.bool false,.nils,.nils],7,false⟩
   let L:Blk:=⟨(u.2.2).flatMap e29,0,false⟩
   refine oH 2 (atN 1 (ctl1 i10p3)) E1 (mkH [⟨[.str m,w44 o,.i u.2.1,.i q],4,false⟩,r,E,L]) ?_
   refine oN (λ(h:Ri11)=>w9 h.1) (λh=>[⟨[.str m,w44 o,.i h.2,.i q],4,false⟩,r,E,L]) (atN 2 (ctl1 i10p3)) 28 [0] [] [] [.ptr 0 4 0] (qAr k m o u.2.1 q) trivial (λ_=>trivial) λh U=>?_
   refine oR 5 (atN 1 (ctl1 i10p4)) ((29,.ptr 0 4 0)::(5,w9 h.1)::(28,w9 h.1)::E1) ?_
   refine oX (λ(b:(S28×Int))=>n29 b.1) (λb=>[⟨[.str m,w44 o,.i b.2,.i q],4,false⟩,r,E,L]) (atN 2 (ctl1 i10p4)) 30 [0] [] [] [0,2] [0,0,0,1] [.ptr 0 4 0,.i 0] (hF.i9_ok (0:Int) m o h.2 q) trivial (λ_=>trivial) ⟨u29 _,trivial⟩ λb V=>?_
   let E3:Env:=[(0,.ptr 0 4 0),(2,.ptr 1 7 0),(3,.ptr 2 7 0),(6,.ptr 4 7 0)]
   let N:Blk:=⟨[.str m,w44 o,.i b.2,.i q],4,false⟩
   let D:Blk:=⟨[.i b.1.f0,.str b.1.f1,q29 b.1.f2,.bool b.1.f3,.bool u.1,w9 h.1,w9 b.1.f6],7,false⟩
   refine oLH 13 i10p6 E3 (mkH [N,r,E,L,D]) ?_
   let G:Blk:=⟨[.i b.1.f0,.str b.1.f1,q29 b.1.f2,.bool b.1.f3,.bool u.1,w9 h.1,w9 b.1.f6],0,false⟩
   refine oH 5 (atN 4 (ctl1 i10p6)) ((38,.slice 5 7 0 1 7)::(37,.agg [.i b.1.f0,.str b.1.f1,q29 b.1.f2,.bool b.1.f3,.bool u.1,w9 h.1,w9 b.1.f6])::(36,.own 3 (u.2.2).length 7)::(35,.ptr 2 7 2)::E3) (mkH [N,r,E,L,D,G]) ?_
   refine oC (λ(j:List S28)=>(.own 3 (j).length 7,(mkH [N,r,E,⟨(j).flatMap e29,0,false⟩,D,G]))) (atN 5 (ctl1 i10p6)) 39 (appH (sz:=7) qA2 rfl qAh [N,r,E,L,D,G] 3 104 u.2.2 ([(⟨b.1.f0,b.1.f1,b.1.f2,b.1.f3,u.1,h.1,b.1.f6⟩:S28)]:List S28) rfl rfl Kr) λj W=>?_
   let Y:Env:=[(0,.ptr 0 4 0),(2,.ptr 1 7 0),(3,.ptr 2 7 0)]
   let O:Blk:=⟨[.i 25,.str [],.own 3 (j).length 7,.bool false,.bool false,.nils,.nils],7,false⟩
   let S:Blk:=⟨(j).flatMap e29,0,false⟩
   refine oLH 5 i10p7 Y (mkH [N,r,O,S,D,G]) ?_
   refine oR 2 (atN 1 (ctl1 i10p7)) ((41,.ptr 0 4 0)::Y) ?_
   refine oX (λ(l:(Bool×Int)) => .bool l.1) (λl=>[⟨[.str m,w44 o,.i l.2,.i q],4,false⟩,r,O,S,D,G]) (atN 2 (ctl1 i10p7)) 42 [0] [] [] [2] [0,0,0,1] [.ptr 0 4 0,.str [44]] (qAe k ([44]:LN) m o b.2 q) trivial (λ_=>trivial) ⟨u29 _,trivial⟩ λl Z=>?_
   refine oR 1 (nav [0,0] i10p7) ((42,.bool l.1)::(41,.ptr 0 4 0)::Y) ?_
   refine oS 42 (λhb=>?_) (λhb=>?_)
   ·refine oL 5 i10p2 [(0,.ptr 0 4 0),(2,.ptr 1 7 0),(3,.ptr 2 7 0)] ?_
    refine qA8 [⟨[.str m,w44 o,.i l.2,.i q],4,false⟩,r,O,S] [D,G] Kr rfl Kr ⟨Kr,⟨Kr,⟨Kr,⟨(qA _ (u29 _)),trivial⟩⟩⟩⟩ ?_
    exact ih l.2 j
   ·exact oQF 8 [⟨[.str m,w44 o,.i l.2,.i q],4,false⟩,O,O,S,D,G] 1 [] [.agg [.i 25,.str [],.own 3 (j).length 7,.bool false,.bool false,.nils,.nils]] (.agg [.i 25,.str [],w29 j,.bool false,.bool false,.vec 0 1 [],.vec 0 1 []]) (.agg (.cs (.cs (qAl qA2 qAf rfl rfl rfl (.cs (.cs (.nil (.nil .ps))))))) .ps) trivial
  ·refine qDf (λI=>?_) (λI=>?_)
   ·refine qA7 (λc x=>?_)
    let E7:Env:=[(12,.bool (decide (0 < (a.length:Int)))),(11,.bool (decide (0 < (a.length:Int)))),(10,.i (a.length:Int)),(9,.own 3 (a).length 7),(8,.ptr 2 7 2),(0,.ptr 0 4 0),(2,.ptr 1 7 0),(3,.ptr 2 7 0)]
    let T:Env:=[(24,.i g),(23,.ptr 0 4 2),(22,.ptr 0 4 0),(21,.ptr 0 4 0),(20,w44 o),(19,.ptr 0 4 1),(18,.ptr 0 4 0),(17,.ptr 0 4 0),(16,.str m),(15,.ptr 0 4 0),(14,.ptr 0 4 0),(13,.ptr 0 4 0),(12,.bool true),(11,.bool true),(10,.i (a.length:Int)),(9,.own 3 (a).length 7),(8,.ptr 2 7 2),(0,.ptr 0 4 0),(2,.ptr 1 7 0),(3,.ptr 2 7 0)]
    let Q9:Blk:=⟨[.str m,w44 o,.i g,.i q],4,false⟩
    let J:Blk:=⟨[.i 25,.str [],.own 3 (a).length 7,.bool false,.bool false,.nils,.nils],7,false⟩
    let K:Blk:=⟨(a).flatMap e29,0,false⟩
    refine oD (H':=(mkH [Q9,r,J,K])) (nav [0] i10p2) ((4,.bool c)::(26,.bool c)::(25,.bool c)::T) [(mkH [Q9,r,J,K])] i10d0 (oDr 5 5 E7 (oDe (λz=>[(12,.bool z),(11,.bool z),(10,.i (a.length:Int)),(9,.own 3 (a).length 7),(8,.ptr 2 7 2),(0,.ptr 0 4 0),(2,.ptr 1 7 0),(3,.ptr 2 7 0)]) I (oDr 12 17 T (qAq (l':=(opsAt i10p2).toList.drop 18) (eE:=((25,.bool c)::T)) (hs:=[(mkH [Q9,r,J,K])]) (fi:=64) (args:=[.str m,w44 o,.i g]) (v := .bool c) Kr Kr Kr (g64_ok k m o g c x) Kr (oDr 2 20 ((4,.bool c)::(26,.bool c)::(25,.bool c)::T) .nil))))) ?_
    refine oL 1 i10p3 [(0,.ptr 0 4 0),(2,.ptr 1 7 0),(3,.ptr 2 7 0),(4,.bool c)] ?_
    exact M (c,g,a)
   ·let E7:Env:=[(12,.bool (decide (0 < (a.length:Int)))),(11,.bool (decide (0 < (a.length:Int)))),(10,.i (a.length:Int)),(9,.own 3 (a).length 7),(8,.ptr 2 7 2),(0,.ptr 0 4 0),(2,.ptr 1 7 0),(3,.ptr 2 7 0)]
    let Q:Env:=[(4,.bool false),(26,.bool false),(25,.tuple []),(24,.tuple []),(23,.tuple []),(22,.tuple []),(21,.tuple []),(20,.tuple []),(19,.tuple []),(18,.tuple []),(17,.tuple []),(16,.tuple []),(15,.tuple []),(14,.tuple []),(13,.tuple []),(12,.bool false),(11,.bool false),(10,.i (a.length:Int)),(9,.own 3 (a).length 7),(8,.ptr 2 7 2),(0,.ptr 0 4 0),(2,.ptr 1 7 0),(3,.ptr 2 7 0)]
    let A:Blk:=⟨[.str m,w44 o,.i g,.i q],4,false⟩
    let B:Blk:=⟨[.i 25,.str [],.own 3 (a).length 7,.bool false,.bool false,.nils,.nils],7,false⟩
    let C:Blk:=⟨(a).flatMap e29,0,false⟩
    refine oD (H':=(mkH [A,r,B,C])) (nav [0] i10p2) Q [(mkH [A,r,B,C])] i10d0 (oDr 5 5 E7 (oDe (λz=>[(12,.bool z),(11,.bool z),(10,.i (a.length:Int)),(9,.own 3 (a).length 7),(8,.ptr 2 7 2),(0,.ptr 0 4 0),(2,.ptr 1 7 0),(3,.ptr 2 7 0)]) I (oDh 15 20 Q (mkH [A,r,B,C]) [(mkH [A,r,B,C])] .nil))) ?_
    refine oL 1 i10p3 [(0,.ptr 0 4 0),(2,.ptr 1 7 0),(3,.ptr 2 7 0),(4,.bool false)] ?_
    exact M (false,g,a)
def i10B (k:Nat) (F:Fns0) (a:LN) (b:List S43) (c:Int) (g:Int):Option (Option (S28×Int)) :=
 qNe k F a b g k c ([]:List S28)
theorem qK2 (k:Nat) (F:Fns0) (o:FnsOk0 F):∀ b c a g r,i10B k F b c a g=some r→CallT Tryz.prog 29 [.ptr 0 4 0] (mkH [⟨[.str b,w44 c,.i a,.i g],4,false⟩]) ((Xi10 b c a g).thr r) ((Xi10 b c a g).enc r) ((Xi10 b c a g).fin r):=by
 intro b c a g r h
 refine qA0 (Xi10 b c a g) Tryz.func29 Kr Kr rfl (t:=i10B k F b c a g) ?_ h
 unfold i10B
 refine qA1 (eE:=[(0,.ptr 0 4 0)]) Kr ?_
 let j:Blk:=⟨[.str b,w44 c,.i a,.i g],4,false⟩
 let l:Blk:=⟨[.i 0,.str [],.nils,.bool false,.bool false,.nils,.nils],0,false⟩
 let m:Blk:=⟨[.i 25,.str [],.nils,.bool false,.bool false,.nils,.nils],7,false⟩
 refine oH 14 i10p2 [(3,.ptr 2 7 0),(7,.agg [.i 25,.str [],.nils,.bool false,.bool false,.nils,.nils]),(2,.ptr 1 7 0),(0,.ptr 0 4 0)] (mkH [j,l,m]) ?_
 refine qBu [j,l,m] Kr ?_
 let n:Blk:=⟨(([]:List S28)).flatMap e29,0,false⟩
 refine oHp (mkH [j,l,m,n]) ?_
 refine qAw [j,l,m,n] 2 7 [.i 25,.str [],.nils,.bool false,.bool false,.nils,.nils] [.i 25,.str [],.own 3 (([]:List S28)).length 7,.bool false,.bool false,.nils,.nils] Kr rfl (.cons (.cons (.none (.refl)))) ?_
 refine oHp (mkH [j,l,⟨[.i 25,.str [],.own 3 (([]:List S28)).length 7,.bool false,.bool false,.nils,.nils],7,false⟩,n]) ?_
 refine oK [0,2,3] [(0,.ptr 0 4 0),(2,.ptr 1 7 0),(3,.ptr 2 7 0)] ?_
 exact (qNd k F o b c a g k) a ([]:List S28)
theorem i10B_ok (k:Nat) (F:Fns0) (a:FnsOk0 F):Pi10 (i10B k F):=λb c g j=>⟨λx h=>qK2 k F a b c g j (some x) h,λh=>⟨_,qK2 k F a b c g j none h⟩⟩
def i12p1:Pt:=nav [0,0,0,0] (nav [0] (bodyAt Tryz.f32))
def i12p2:Pt:=nav [0,0,0,0,0] i12p1
def i12p4:Pt:=nav [0,0,0] (nav [0,0,0] i12p2)
def i12p5:Pt:=nav [0,0,0,0] i12p4
def i12p6:Pt:=nav [0,0] i12p5
def i12p7:Pt:=nav [1,0] i12p6
def qHs (k:Nat) (F:Fns0)  (m:LN) (n:List S43) (o:Int) (ih:LL→Int→(List S28)→Option (Option Ri12)):LL→Int→(List S28)→Option (Option Ri12) :=
 λ(h:LL) (j:Int) (l:List S28)=>bT (F.i19 m n j o) λa=>(appS 104 l ([(⟨a.1.f0,a.1.f1,a.1.f2,a.1.f3,a.1.f4,h,a.1.f6⟩:S28)]:List S28)).bind λc=>bT (i13 k ([59]:LN) m n a.2 o) λb=>if b.1 then ((i11 k m n b.2 o).bind λg=>ih g.1 g.2 c) else (some (some (c,b.2)))
def qNa (k:Nat) (F:Fns0)  (a:LN) (b:List S43) (c:Int) (n:Nat):LL→Int→(List S28)→Option (Option Ri12):=lp (λ_ _ _=>none) (qHs k F a b c) n
theorem qN9 (k:Nat) (F:Fns0) (J:FnsOk0 F) (K:LL) (m:LN) (o:List S43) (L:Int) (q:Int)    : ∀ (n:Nat) (b:LL) (l:Int) (c:List S28),Ok (Xi12 K m o L q) i12p2 [(0,.ptr 0 4 0),(1,w9 b),(2,.func 34 [.ptr 0 4 0] []),(7,.own 1 (c).length 7)] (mkH [⟨[.str m,w44 o,.i l,.i q],4,false⟩,⟨(c).flatMap e29,0,false⟩]) (qNa k F m o q n b l c):=by
 intro n
 induction n with
 | zero=>intro b l c; exact ok_none
 | succ n ih =>
  intro b l c
  show Ok _ _ _ _ (qHs k F m o q (qNa k F m o q n) b l c)
  unfold qHs
  let I:Env:=[(9,.func 34 [.ptr 0 4 0] []),(0,.ptr 0 4 0),(1,w9 b),(2,.func 34 [.ptr 0 4 0] []),(7,.own 1 (c).length 7)]
  let z:Blk:=⟨(c).flatMap e29,0,false⟩
  refine oH 2 (atN 1 (ctl1 i12p2)) I (mkH [⟨[.str m,w44 o,.i l,.i q],4,false⟩,z]) ?_
  refine oX (λ(a:(S28×Int))=>n29 a.1) (λa=>[⟨[.str m,w44 o,.i a.2,.i q],4,false⟩,z]) (atN 2 (ctl1 i12p2)) 10 [0] [] [] [0] [0,1] [.ptr 0 4 0] (J.i19_ok m o l q) trivial (λ_=>trivial) ⟨u29 _,trivial⟩ λa B=>?_
  let A:Blk:=⟨[.str m,w44 o,.i a.2,.i q],4,false⟩
  let r:Blk:=⟨[.i a.1.f0,.str a.1.f1,q29 a.1.f2,.bool a.1.f3,.bool a.1.f4,w9 b,w9 a.1.f6],7,false⟩
  let u:Blk:=⟨[.i a.1.f0,.str a.1.f1,q29 a.1.f2,.bool a.1.f3,.bool a.1.f4,w9 b,w9 a.1.f6],0,false⟩
  refine oH 14 (atN 3 (ctl1 i12p4)) ((15,.slice 3 7 0 1 7)::(14,.agg [.i a.1.f0,.str a.1.f1,q29 a.1.f2,.bool a.1.f3,.bool a.1.f4,w9 b,w9 a.1.f6])::(13,.own 1 (c).length 7)::(12,.ptr 2 7 5)::(11,w9 b)::(8,.ptr 2 7 0)::(10,n29 a.1)::I) (mkH [A,z,r,u]) ?_
  refine oC (λ(g:List S28)=>(.own 1 (g).length 7,(mkH [A,⟨(g).flatMap e29,0,false⟩,r,u]))) (atN 4 (ctl1 i12p4)) 16 (appH (sz:=7) qA2 rfl qAh [A,z,r,u] 1 104 c ([(⟨a.1.f0,a.1.f1,a.1.f2,a.1.f3,a.1.f4,b,a.1.f6⟩:S28)]:List S28) rfl rfl Kr) λg C=>?_
  let x:Blk:=⟨(g).flatMap e29,0,false⟩
  refine oLH 4 i12p5 [(0,.ptr 0 4 0),(2,.func 34 [.ptr 0 4 0] []),(7,.own 1 (g).length 7)] (mkH [A,x,r,u]) ?_
  let D:Env:=[(0,.ptr 0 4 0),(2,.func 34 [.ptr 0 4 0] []),(7,.own 1 (g).length 7)]
  refine oR 2 (atN 1 (ctl1 i12p5)) ((17,.ptr 0 4 0)::D) ?_
  refine oX (λ(h:(Bool×Int)) => .bool h.1) (λh=>[⟨[.str m,w44 o,.i h.2,.i q],4,false⟩,x,r,u]) (atN 2 (ctl1 i12p5)) 18 [0] [] [] [] [0,1] [.ptr 0 4 0,.str [59]] (qAe k ([59]:LN) m o a.2 q) trivial (λ_=>trivial) ⟨u29 _,trivial⟩ λh E=>?_
  refine oR 1 i12p6 ((18,.bool h.1)::(17,.ptr 0 4 0)::D) ?_
  refine oS 18 (λM=>?_) (λM=>?_)
  ·refine oR 4 (atN 1 (ctl1 i12p7)) ((19,.ptr 0 4 0)::(18,.bool true)::(18,.bool h.1)::(17,.ptr 0 4 0)::D) ?_
   refine oN (λ(j:Ri11)=>w9 j.1) (λj=>[⟨[.str m,w44 o,.i j.2,.i q],4,false⟩,x,r,u]) (atN 2 (ctl1 i12p7)) 20 [0] [] [] [.ptr 0 4 0] (qAr k m o h.2 q) trivial (λ_=>trivial) λj G=>?_
   refine oL 6 i12p2 [(0,.ptr 0 4 0),(1,w9 j.1),(2,.func 34 [.ptr 0 4 0] []),(7,.own 1 (g).length 7)] ?_
   refine qA8 [⟨[.str m,w44 o,.i j.2,.i q],4,false⟩,x] [r,u] Kr rfl Kr ⟨Kr,⟨(qA _ (u29 _)),trivial⟩⟩ ?_
   exact ih j.1 j.2 g
  ·exact oQF 8 [⟨[.str m,w44 o,.i h.2,.i q],4,false⟩,x,r,u] 1 [] [.own 1 (g).length 7] (w29 g) (qAl qA2 qAf rfl rfl rfl .ps) trivial
def i12B (k:Nat) (F:Fns0) (a:LL) (b:LN) (c:List S43) (g:Int) (h:Int):Option (Option Ri12) :=
 qNa k F b c h k a g ([]:List S28)
theorem qK1 (k:Nat) (F:Fns0) (n:FnsOk0 F):∀ a c g b j r,i12B k F a c g b j=some r→CallT Tryz.prog 32 [.ptr 0 4 0,w9 a,.func 34 [.ptr 0 4 0] []] (mkH [⟨[.str c,w44 g,.i b,.i j],4,false⟩]) ((Xi12 a c g b j).thr r) ((Xi12 a c g b j).enc r) ((Xi12 a c g b j).fin r):=by
 intro a c g b j r h
 refine qA0 (Xi12 a c g b j) Tryz.func32 Kr Kr rfl (t:=i12B k F a c g b j) ?_ h
 unfold i12B
 refine qA1 (eE:=[(0,.ptr 0 4 0),(1,w9 a),(2,.func 34 [.ptr 0 4 0] [])]) Kr ?_
 let m:Env:=[(7,.nils),(6,.nils),(0,.ptr 0 4 0),(1,w9 a),(2,.func 34 [.ptr 0 4 0] [])]
 let l:Blk:=⟨[.str c,w44 g,.i b,.i j],4,false⟩
 refine oH 8 (atN 1 (ctl1 i12p1)) m (mkH [l]) ?_
 refine qCn [l] 7 7 rfl Kr ?_
 refine oH 4 i12p2 ((7,.own 1 (([]:List S28)).length 7)::m) (mkH [l,⟨(([]:List S28)).flatMap e29,0,false⟩]) ?_
 refine oK [0,1,2,7] [(0,.ptr 0 4 0),(1,w9 a),(2,.func 34 [.ptr 0 4 0] []),(7,.own 1 (([]:List S28)).length 7)] ?_
 exact (qN9 k F n a c g b j k) a b ([]:List S28)
theorem i12B_ok (k:Nat) (F:Fns0) (a:FnsOk0 F):Pi12 (i12B k F):=λb c g j l=>⟨λx h=>qK1 k F a b c g j l (some x) h,λh=>⟨_,qK1 k F a b c g j l none h⟩⟩
def i14p1:Pt:=nav [0,0,0] (nav [0] (bodyAt Tryz.f48))
def i14p2:Pt:=nav [0,0,0,0] i14p1
def i14p3:Pt:=nav [0,0] i14p2
def i14p4:Pt:=nav [1,0] i14p3
def i14p5:Pt:=nav [2,0,0] i14p3
def i14p6:Pt:=nav [0,0,0] i14p4
def i14p7:Pt:=nav [0,0,0] i14p5
def i14p8:Pt:=nav [0,0,0] i14p6
def i14d0:DP:=⟨[31],[(0,0,0),(1,0,1),(0,0,1),(4,0,0),(15,0,0),(0,0,0),(32,0,0),(96,0,0),(255,0,0),(511,0,0)],10,thrown,[],H0⟩
def i14B (k:Nat) (F:Fns0) (h:LN) (j:List S43) (r:Int) (l:Int):Option (Option Ri14) :=
 (i15 k h j r l).bind λa=>(i16 k a.f1 h j r l).bind λm=>jn (λ(x:Bool)=>if x then (bT (i17 k h j r l) λn=>bT (F.i14 h j n l) λb=>(g78 k a.f1).bind λo=>some (some ((⟨(13:Int),a.f1,⟨(([b.1]:List S28)).length,(([b.1]:List S28)).flatMap e29⟩,false,false,([]:LL),([]:LL)⟩:S28),o,b.2.2))) else (bT (F.i23 h j r l) λc=>bT (F.i24 c.1 c.2.1 h j c.2.2 l) λg=>some (some (g.1,(11:Int),g.2)))) (λu=>if m then ((g78 k a.f1).bind λq=>u (decide (0 < q))) else (u false))
theorem qK0 (k:Nat) (F:Fns0) (I:FnsOk0 F):∀ m n z o r,i14B k F m n z o=some r→CallT Tryz.prog 48 [.ptr 0 4 0] (mkH [⟨[.str m,w44 n,.i z,.i o],4,false⟩]) ((Xi14 m n z o).thr r) ((Xi14 m n z o).enc r) ((Xi14 m n z o).fin r):=by
 intro m n z o r h
 refine qA0 (Xi14 m n z o) Tryz.func48 Kr Kr rfl (t:=i14B k F m n z o) ?_ h
 unfold i14B
 refine qA1 (eE:=[(0,.ptr 0 4 0)]) Kr ?_
 let A:Blk:=⟨[.str m,w44 n,.i z,.i o],4,false⟩
 let q:Blk:=⟨[.i 0,.str [],.nils,.bool false,.bool false,.nils,.nils],0,false⟩
 refine oH 8 (atN 1 (ctl1 i14p1)) [(9,.ptr 0 4 0),(3,.i 0),(2,.ptr 1 7 0),(0,.ptr 0 4 0)] (mkH [A,q]) ?_
 refine oN (λ(a:S43)=>n44 a) (λa=>[A,q]) (atN 2 (ctl1 i14p1)) 10 [0] [] [] [.ptr 0 4 0] (qEi k m n z o) trivial (λ_=>trivial) λa J=>?_
 let K:Env:=[(13,.str a.f1),(12,.ptr 2 3 1),(11,.ptr 0 4 0),(4,.ptr 2 3 0),(10,n44 a),(9,.ptr 0 4 0),(3,.i 0),(2,.ptr 1 7 0),(0,.ptr 0 4 0)]
 refine oH 9 (atN 3 (ctl1 i14p2)) K (mkH [A,q,⟨e44 a,3,false⟩]) ?_
 refine oN (λ(l:Bool) => .bool l) (λl=>[A,q,⟨e44 a,3,false⟩]) (atN 4 (ctl1 i14p2)) 14 [0] [] [] [.ptr 0 4 0,.str a.f1] (qGa k a.f1 m n z o) trivial (λ_=>trivial) λl L=>?_
 refine oR 1 (atN 5 (ctl1 i14p2)) ((15,.bool l)::(14,.bool l)::K) ?_
 refine oJ i14p3 (λ(C:Bool)=>[(0,.ptr 0 4 0),(2,.ptr 1 7 0),(4,.ptr 2 3 0),(20,.bool C)]) (λ(C:Bool)=>(mkH [A,q,⟨e44 a,3,false⟩])) (λC=>?_) (λZ D=>?_)
 ·refine oS 20 (λM=>?_) (λM=>?_)
  ·let V:Env:=[(21,.ptr 0 4 0),(20,.bool true),(0,.ptr 0 4 0),(2,.ptr 1 7 0),(4,.ptr 2 3 0),(20,.bool C)]
   refine oH 4 (atN 1 (ctl1 i14p4)) V (mkH [A,q,⟨e44 a,3,false⟩]) ?_
   refine oX (λ(u:Int) => .tuple []) (λu=>[⟨[.str m,w44 n,.i u,.i o],4,false⟩,q,⟨e44 a,3,false⟩]) (atN 2 (ctl1 i14p4)) 22 [0] [] [] [] [] [.ptr 0 4 0] (qEh k m n z o) trivial (λ_=>trivial) trivial λu N=>?_
   refine oR 4 (atN 1 (ctl1 i14p6)) ((24,.ptr 0 4 0)::(22,.tuple [])::V) ?_
   refine oX (λ(c:Ri14) => .tuple [n29 c.1,.i c.2.1]) (λc=>[⟨[.str m,w44 n,.i c.2.2,.i o],4,false⟩,q,⟨e44 a,3,false⟩]) (atN 2 (ctl1 i14p6)) 25 [0] [] [] [0] [] [.ptr 0 4 0] (I.i14_ok m n u o) trivial (λ_=>trivial) trivial λc O=>?_
   let W:Blk:=⟨[.str m,w44 n,.i c.2.2,.i o],4,false⟩
   let Q:List Blk:=[W,q,⟨e44 a,3,false⟩,⟨e29 c.1,7,false⟩]
   refine oLH 8 i14p8 [(2,.ptr 1 7 0),(4,.ptr 2 3 0),(5,.ptr 3 7 0)] (mkH Q) ?_
   refine qA7 (λg B=>?_)
   let G:Env:=[(34,.str a.f1),(33,.ptr 2 3 1),(32,.agg [.i 13,.str a.f1,w29 ([c.1]:List S28),.bool false,.bool false,.nils,.nils]),(31,w29 ([c.1]:List S28)),(30,n29 c.1),(29,.str a.f1),(28,.ptr 2 3 1),(2,.ptr 1 7 0),(4,.ptr 2 3 0),(5,.ptr 3 7 0)]
   let E:List Blk:=[W,⟨[.i 13,.str a.f1,w29 ([c.1]:List S28),.bool false,.bool false,.nils,.nils],7,false⟩,⟨e44 a,3,false⟩,⟨e29 c.1,7,false⟩]
   refine oD (H':=(mkH E)) (nav [0] i14p8) ((3,.i g)::(35,.i g)::G) [(mkH Q),(mkH E)] i14d0 (oDr 7 7 G (qAq (l':=(opsAt i14p8).toList.drop 8) (eE:=((35,.i g)::G)) (hs:=[(mkH Q)]) (fi:=78) (args:=[.str a.f1]) (v := .i g) Kr Kr Kr (g78_ok k a.f1 g B) Kr (oDh 2 10 ((3,.i g)::(35,.i g)::G) (mkH E) [(mkH E)] .nil))) ?_
   exact oQF 1 E 1 [] [.agg [.i 13,.str a.f1,w29 ([c.1]:List S28),.bool false,.bool false,.nils,.nils],.i g] (.tuple [.agg [.i 13,.str a.f1,w29 ([c.1]:List S28),.bool false,.bool false,.vec 0 1 [],.vec 0 1 []],.i g]) (.tuple (.agg (.cs (.cs (.cs (.cs (.cs (.nil (.nil .ps))))))) .ps) .ps) trivial
  ·refine oH 5 (atN 1 (ctl1 i14p5)) [(37,.ptr 0 4 0),(20,.bool false),(0,.ptr 0 4 0),(2,.ptr 1 7 0),(4,.ptr 2 3 0),(20,.bool C)] (mkH [A,q,⟨e44 a,3,false⟩]) ?_
   refine oX (λ(b:Ri23) => .tuple [n29 b.1,.bool b.2.1]) (λb=>[⟨[.str m,w44 n,.i b.2.2,.i o],4,false⟩,q,⟨e44 a,3,false⟩]) (atN 2 (ctl1 i14p5)) 38 [0] [] [] [0] [] [.ptr 0 4 0] (I.i23_ok m n z o) trivial (λ_=>trivial) trivial λb S=>?_
   let Y:Env:=[(0,.ptr 0 4 0),(2,.ptr 1 7 0),(7,.ptr 3 7 0),(8,.bool b.2.1)]
   refine oLH 8 i14p7 Y (mkH [⟨[.str m,w44 n,.i b.2.2,.i o],4,false⟩,q,⟨e44 a,3,false⟩,⟨e29 b.1,7,false⟩]) ?_
   refine oR 4 (atN 3 (ctl1 i14p7)) ((43,.bool b.2.1)::(42,n29 b.1)::(41,.ptr 0 4 0)::Y) ?_
   refine oX (λ(j:(S28×Int))=>n29 j.1) (λj=>[⟨[.str m,w44 n,.i j.2,.i o],4,false⟩,q,⟨e44 a,3,false⟩,⟨e29 b.1,7,false⟩]) (atN 4 (ctl1 i14p7)) 44 [0] [] [] [0] [] [.ptr 0 4 0,n29 b.1,.bool b.2.1] (I.i24_ok b.1 b.2.1 m n b.2.2 o) trivial (λ_=>trivial) trivial λj T=>?_
   exact oQF 4 [⟨[.str m,w44 n,.i j.2,.i o],4,false⟩,⟨e29 j.1,7,false⟩,⟨e44 a,3,false⟩,⟨e29 b.1,7,false⟩] 1 [] [n29 j.1,.i 11] (.tuple [n29 j.1,.i 11]) .ps trivial
 ·refine oS 15 (λM=>?_) (λM=>?_)
  ·refine oH 2 (atN 7 (ctl1 i14p2)) ((17,.str a.f1)::(16,.ptr 2 3 1)::(15,.bool true)::(15,.bool l)::(14,.bool l)::K) (mkH [A,q,⟨e44 a,3,false⟩]) ?_
   refine oA (λ(x:Int) => .i x) (atN 8 (ctl1 i14p2)) 18 [.str a.f1] (g78_ok k a.f1) λx U=>?_
   refine oL 3 i14p3 [(0,.ptr 0 4 0),(2,.ptr 1 7 0),(4,.ptr 2 3 0),(20,.bool (decide (0 < x)))] ?_
   exact D (decide (0 < x))
  ·refine oLH 6 i14p3 [(0,.ptr 0 4 0),(2,.ptr 1 7 0),(4,.ptr 2 3 0),(20,.bool false)] (mkH [A,q,⟨e44 a,3,false⟩]) ?_
   exact D false
theorem i14B_ok (k:Nat) (F:Fns0) (a:FnsOk0 F):Pi14 (i14B k F):=λb c g j=>⟨λx h=>qK0 k F a b c g j (some x) h,λh=>⟨_,qK0 k F a b c g j none h⟩⟩
def i19p1:Pt:=nav [0,0,0] (nav [0] (bodyAt Tryz.f34))
def i19p2:Pt:=nav [0,0,0] i19p1
def i19d0:DP:=⟨[],[(0,0,0),(0,0,1),(0,0,0),(4,0,0),(15,0,0),(31,0,0)],6,thrown,[],H0⟩
def i19B (k:Nat) (F:Fns0) (g:LN) (h:List S43) (l:Int) (j:Int):Option (Option (S28×Int)) :=
 bT (F.i9 (1:Int) g h l j) λa=>bT (F.i26 g h a.2 j) λb=>bT (F.i27 ([]:LN) (⟨23,([]:LN),(⟨(([a.1]:List S28)).length,(([a.1]:List S28)).flatMap e29⟩:Raw),false,false,([]:LL),([]:LL)⟩:S28) b.1 g h b.2 j) λc=>some (some (c.1,c.2))
theorem qK (k:Nat) (F:Fns0) (C:FnsOk0 F):∀ l m x n r,i19B k F l m x n=some r→CallT Tryz.prog 34 [.ptr 0 4 0] (mkH [⟨[.str l,w44 m,.i x,.i n],4,false⟩]) ((Xi19 l m x n).thr r) ((Xi19 l m x n).enc r) ((Xi19 l m x n).fin r):=by
 intro l m x n r h
 refine qA0 (Xi19 l m x n) Tryz.func34 Kr Kr rfl (t:=i19B k F l m x n) ?_ h
 unfold i19B
 refine qA1 (eE:=[(0,.ptr 0 4 0)]) Kr ?_
 let G:Blk:=⟨[.str l,w44 m,.i x,.i n],4,false⟩
 let j:Blk:=⟨[.i 0,.str [],.nils,.bool false,.bool false,.nils,.nils],0,false⟩
 refine oH 7 (atN 1 (ctl1 i19p1)) [(4,.ptr 0 4 0),(2,.ptr 1 7 0),(0,.ptr 0 4 0)] (mkH [G,j]) ?_
 refine oX (λ(a:(S28×Int))=>n29 a.1) (λa=>[⟨[.str l,w44 m,.i a.2,.i n],4,false⟩,j]) (atN 2 (ctl1 i19p1)) 5 [0] [] [] [0] [] [.ptr 0 4 0,.i 1] (C.i9_ok (1:Int) l m x n) trivial (λ_=>trivial) trivial λa I=>?_
 let q:Blk:=⟨[.str l,w44 m,.i a.2,.i n],4,false⟩
 refine oH 1 (atN 3 (ctl1 i19p1)) [(6,.slice 2 7 0 1 7),(5,n29 a.1),(4,.ptr 0 4 0),(2,.ptr 1 7 0),(0,.ptr 0 4 0)] (mkH [q,j,⟨e29 a.1,0,false⟩]) ?_
 refine oZ 6 2 1 7 [.i a.1.f0,.str a.1.f1,q29 a.1.f2,.bool a.1.f3,.bool a.1.f4,w9 a.1.f5,w9 a.1.f6] [0,2,4,5] [] trivial ?_
 let g:Blk:=⟨[.i 23,.str [],w29 ([a.1]:List S28),.bool false,.bool false,.nils,.nils],7,false⟩
 refine oH 5 i19p2 [(3,.ptr 3 7 0),(7,.agg [.i 23,.str [],w29 ([a.1]:List S28),.bool false,.bool false,.nils,.nils]),(6,w29 ([a.1]:List S28)),(0,.ptr 0 4 0),(2,.ptr 1 7 0),(4,.ptr 0 4 0),(5,n29 a.1)] (mkH [q,j,⟨[],0,false⟩,g]) ?_
 refine qC9 (λh=>?_) (λb u=>?_)
 ·let o:Env:=[(10,.ptr 0 4 0),(9,.agg [.i 23,.str [],w29 ([a.1]:List S28),.bool false,.bool false,.nils,.nils]),(8,.ptr 0 4 0),(3,.ptr 3 7 0),(7,.agg [.i 23,.str [],w29 ([a.1]:List S28),.bool false,.bool false,.nils,.nils]),(6,w29 ([a.1]:List S28)),(0,.ptr 0 4 0),(2,.ptr 1 7 0),(4,.ptr 0 4 0),(5,n29 a.1)]
  exact qAu (eE:=((12,.top)::(11,.top)::o)) (i19d0.th 3 thrown [0] (mkH [q,j,⟨[],0,false⟩,g])) (hs:=[(mkH [q,j,⟨[],0,false⟩,g]),(mkH [q,j,⟨[],0,false⟩,g]),(mkH [q,j,⟨[],0,false⟩,g])]) (LX:=[G]) (L:=[q,j,⟨[],0,false⟩,g]) rfl rfl rfl Kr rfl ⟨.inl rfl,trivial⟩ Kr Kr Kr Kr (qAc 3 (l':=(opsAt i19p2).toList.drop 3) (eE:=o) (H':=(mkH [q,j,⟨[],0,false⟩,g])) (hs:=[]) Kr (qAt (l':=(opsAt i19p2).toList.drop 4) (eE:=((11,.top)::o)) (hs:=[(mkH [q,j,⟨[],0,false⟩,g])]) (fi:=70) (args:=[.ptr 0 4 0]) Kr Kr (frS 0 (M:=[q,j,⟨[],0,false⟩,g]) (rs:=[0]) (ms:=[]) (mv:=[]) (mm:=[]) (D:=[0]) (xs':=[.ptr 0 4 0]) (.refl) ((C.i26_ok l m a.2 n).2 h) trivial trivial Kr) Kr (qA4 (l':=(opsAt i19p2).toList.drop 5) (eE:=((12,.top)::(11,.top)::o)) (hs:=[(mkH [q,j,⟨[],0,false⟩,g])]) Kr Kr (qA4 (l':=(opsAt i19p2).toList.drop 6) (eE:=((12,.top)::(11,.top)::o)) (hs:=[(mkH [q,j,⟨[],0,false⟩,g])]) Kr Kr (.nil))))) Kr Kr
 ·refine qC9 (λh=>?_) (λc B=>?_)
  ·let o:Env:=[(10,.ptr 0 4 0),(9,.agg [.i 23,.str [],w29 ([a.1]:List S28),.bool false,.bool false,.nils,.nils]),(8,.ptr 0 4 0),(3,.ptr 3 7 0),(7,.agg [.i 23,.str [],w29 ([a.1]:List S28),.bool false,.bool false,.nils,.nils]),(6,w29 ([a.1]:List S28)),(0,.ptr 0 4 0),(2,.ptr 1 7 0),(4,.ptr 0 4 0),(5,n29 a.1)]
   let z:Blk:=⟨[.str l,w44 m,.i b.2,.i n],4,false⟩
   exact qAu (eE:=((12,.top)::(11,n29 b.1)::o)) (i19d0.th 4 thrown [0] (mkH [z,j,⟨[],0,false⟩,g])) (hs:=[(mkH [z,j,⟨[],0,false⟩,g]),(mkH [z,j,⟨[],0,false⟩,g]),(mkH [z,j,⟨[],0,false⟩,g])]) (LX:=[G]) (L:=[z,j,⟨[],0,false⟩,g]) rfl rfl rfl Kr rfl ⟨.inl rfl,trivial⟩ Kr Kr Kr Kr (qAc 3 (l':=(opsAt i19p2).toList.drop 3) (eE:=o) (H':=(mkH [q,j,⟨[],0,false⟩,g])) (hs:=[]) Kr (qA6 (l':=(opsAt i19p2).toList.drop 4) (eE:=((11,n29 b.1)::o)) (hs:=[(mkH [z,j,⟨[],0,false⟩,g])]) (H':=(mkH [z,j,⟨[],0,false⟩,g])) (fi:=70) (args:=[.ptr 0 4 0]) (v:=n29 b.1) Kr (frC (rs:=[0]) (ms:=[]) (ms':=[]) ((C.i26_ok l m a.2 n).1 b u) trivial trivial Kr) Kr (qAt (l':=(opsAt i19p2).toList.drop 5) (eE:=((12,.top)::(11,n29 b.1)::o)) (hs:=[(mkH [z,j,⟨[],0,false⟩,g])]) (fi:=69) (args:=[.ptr 0 4 0,.str [],.agg [.i 23,.str [],w29 ([a.1]:List S28),.bool false,.bool false,.nils,.nils],n29 b.1]) Kr Kr (frS 0 (M:=[z,j,⟨[],0,false⟩,g]) (rs:=[0]) (ms:=[]) (mv:=[]) (mm:=[]) (D:=[0]) (xs':=[.ptr 0 4 0,.str [],.agg [.i 23,.str [],w29 ([a.1]:List S28),.bool false,.bool false,w9 ([]:LL),w9 ([]:LL)],n29 b.1]) (.cons (.cons (.agg (.cons (.cons (.cons (.cons (.cons (.nil (.nil (.refl)))))))) (.refl)))) ((C.i27_ok ([]:LN) (⟨23,([]:LN),(⟨(([a.1]:List S28)).length,(([a.1]:List S28)).flatMap e29⟩:Raw),false,false,([]:LL),([]:LL)⟩:S28) b.1 l m b.2 n).2 h) trivial trivial Kr) Kr (qA4 (l':=(opsAt i19p2).toList.drop 6) (eE:=((12,.top)::(11,n29 b.1)::o)) (hs:=[(mkH [z,j,⟨[],0,false⟩,g])]) Kr Kr (.nil))))) Kr Kr
  ·let o:Env:=[(10,.ptr 0 4 0),(9,.agg [.i 23,.str [],w29 ([a.1]:List S28),.bool false,.bool false,.nils,.nils]),(8,.ptr 0 4 0),(3,.ptr 3 7 0),(7,.agg [.i 23,.str [],w29 ([a.1]:List S28),.bool false,.bool false,.nils,.nils]),(6,w29 ([a.1]:List S28)),(0,.ptr 0 4 0),(2,.ptr 1 7 0),(4,.ptr 0 4 0),(5,n29 a.1)]
   let A:Blk:=⟨[.str l,w44 m,.i c.2,.i n],4,false⟩
   let E:Blk:=⟨[.str l,w44 m,.i b.2,.i n],4,false⟩
   refine oD (H':=(mkH [A,⟨e29 c.1,7,false⟩,⟨[],0,false⟩,g])) (nav [0] i19p2) ((12,n29 c.1)::(11,n29 b.1)::o) [(mkH [E,j,⟨[],0,false⟩,g]),(mkH [A,j,⟨[],0,false⟩,g]),(mkH [A,⟨e29 c.1,7,false⟩,⟨[],0,false⟩,g])] i19d0 (oDr 3 3 o (qA6 (l':=(opsAt i19p2).toList.drop 4) (eE:=((11,n29 b.1)::o)) (hs:=[(mkH [E,j,⟨[],0,false⟩,g])]) (H':=(mkH [E,j,⟨[],0,false⟩,g])) (fi:=70) (args:=[.ptr 0 4 0]) (v:=n29 b.1) Kr (frC (rs:=[0]) (ms:=[]) (ms':=[]) ((C.i26_ok l m a.2 n).1 b u) trivial trivial Kr) Kr (qA6 (l':=(opsAt i19p2).toList.drop 5) (eE:=((12,n29 c.1)::(11,n29 b.1)::o)) (hs:=[(mkH [A,j,⟨[],0,false⟩,g])]) (H':=(mkH [A,j,⟨[],0,false⟩,g])) (fi:=69) (args:=[.ptr 0 4 0,.str [],.agg [.i 23,.str [],w29 ([a.1]:List S28),.bool false,.bool false,.nils,.nils],n29 b.1]) (v:=n29 c.1) Kr (frW 0 [E,j,⟨[],0,false⟩,g] (rs:=[0]) (ms:=[]) (ms':=[]) (mv:=[]) (xs':=[.ptr 0 4 0,.str [],.agg [.i 23,.str [],w29 ([a.1]:List S28),.bool false,.bool false,w9 ([]:LL),w9 ([]:LL)],n29 b.1]) (.cons (.cons (.agg (.cons (.cons (.cons (.cons (.cons (.nil (.nil (.refl)))))))) (.refl)))) ((C.i27_ok ([]:LN) (⟨23,([]:LN),(⟨(([a.1]:List S28)).length,(([a.1]:List S28)).flatMap e29⟩:Raw),false,false,([]:LL),([]:LL)⟩:S28) b.1 l m b.2 n).1 c B) trivial trivial Kr) Kr (oDh 1 6 ((12,n29 c.1)::(11,n29 b.1)::o) (mkH [A,⟨e29 c.1,7,false⟩,⟨[],0,false⟩,g]) [(mkH [A,⟨e29 c.1,7,false⟩,⟨[],0,false⟩,g])] .nil)))) ?_
   exact oQF 1 [A,⟨e29 c.1,7,false⟩,⟨[],0,false⟩,g] 1 [] [n29 c.1] (n29 c.1) .ps trivial
theorem i19B_ok (k:Nat) (F:Fns0) (a:FnsOk0 F):Pi19 (i19B k F):=λb c g j=>⟨λx h=>qK k F a b c g j (some x) h,λh=>⟨_,qK k F a b c g j none h⟩⟩
def i23p1:Pt:=nav [0,0,0,0] (nav [0] (bodyAt Tryz.f79))
def i23p2:Pt:=nav [0,0,0] i23p1
def i23p3:Pt:=nav [0,0] i23p2
def i23p4:Pt:=nav [1,0] i23p3
def i23p5:Pt:=nav [2,0,0,0,0] i23p3
def i23p7:Pt:=nav [0,0] i23p5
def i23p9:Pt:=nav [1,0] i23p7
def i23p10:Pt:=nav [2,0] i23p7
def i23p11:Pt:=nav [0,0] i23p10
def i23p12:Pt:=nav [1,0] i23p11
def i23p13:Pt:=nav [2,0] i23p11
def i23p14:Pt:=nav [0,0] i23p13
def i23p15:Pt:=nav [1,0] i23p14
def i23p16:Pt:=nav [2,0] i23p14
def i23p17:Pt:=nav [0,0] i23p16
def i23p18:Pt:=nav [1,0] i23p17
def i23p19:Pt:=nav [2,0] i23p17
def i23p20:Pt:=nav [0,0] i23p19
def i23p21:Pt:=nav [1,0,0] i23p20
def i23p22:Pt:=nav [2,0,0] i23p20
def i23p23:Pt:=nav [0,0] i23p21
def i23p24:Pt:=nav [1,0] i23p23
def i23p25:Pt:=nav [2,0,0] i23p23
def i23p26:Pt:=nav [0,0,0] i23p25
def i23p27:Pt:=nav [0,0,0] i23p26
def i23B (k:Nat) (F:Fns0) (h:LN) (j:List S43) (I:Int) (l:Int):Option (Option Ri23) :=
 (i15 k h j I l).bind λA=>(g99 k A.f0).bind λE=>if E then (bT (i17 k h j I l) λG=>some (some ((⟨(1:Int),A.f1,⟨0,[]⟩,false,false,([]:LL),([]:LL)⟩:S28),false,G))) else (bT (i13 k ([40]:LN) h j I l) λo=>if o.1 then (bT (F.i35 h j o.2 l) λB=>some (some (B.1,true,B.2))) else (bT (i13 k ([123]:LN) h j o.2 l) λq=>if q.1 then (bT (F.i36 (4:Int) ([]:LN) false false ([]:LL) ([]:LL) ([125]:LN) h j q.2 l ([]:List S28)) λg=>some (some ((⟨g.1,g.2.1,⟨(g.2.2.2.2.2.2.2).length,(g.2.2.2.2.2.2.2).flatMap e29⟩,g.2.2.1,g.2.2.2.1,g.2.2.2.2.1,g.2.2.2.2.2.1⟩:S28),false,g.2.2.2.2.2.2.1))) else (bT (i13 k ([91]:LN) h j q.2 l) λr=>if r.1 then (bT (F.i37 h j r.2 l) λC=>some (some (C.1,false,C.2))) else (bT (i13 k ([60,60]:LN) h j r.2 l) λu=>if u.1 then (bT (F.i38 (6:Int) ([]:LN) false false ([]:LL) ([]:LL) ([62,62]:LN) h j u.2 l ([]:List S28)) λa=>some (some ((⟨a.1,a.2.1,⟨(a.2.2.2.2.2.2.2).length,(a.2.2.2.2.2.2.2).flatMap e29⟩,a.2.2.1,a.2.2.2.1,a.2.2.2.2.1,a.2.2.2.2.2.1⟩:S28),false,a.2.2.2.2.2.2.1))) else (bT (i13 k ([35]:LN) h j u.2 l) λm=>if m.1 then (bT (i13 k ([123]:LN) h j m.2 l) λn=>if n.1 then (bT (F.i39 (8:Int) ([]:LN) false false ([]:LL) ([]:LL) ([125]:LN) h j n.2 l ([]:List S28)) λb=>some (some ((⟨b.1,b.2.1,⟨(b.2.2.2.2.2.2.2).length,(b.2.2.2.2.2.2.2).flatMap e29⟩,b.2.2.1,b.2.2.2.1,b.2.2.2.2.1,b.2.2.2.2.2.1⟩:S28),false,b.2.2.2.2.2.2.1))) else (bT (i40 k h j n.2 l) λx=>bT (i41 k ([123]:LN) h j x.2 l) λD=>bT (F.i36 (10:Int) x.1 false false ([]:LL) ([]:LL) ([125]:LN) h j D l ([]:List S28)) λc=>some (some ((⟨c.1,c.2.1,⟨(c.2.2.2.2.2.2.2).length,(c.2.2.2.2.2.2.2).flatMap e29⟩,c.2.2.1,c.2.2.2.1,c.2.2.2.2.1,c.2.2.2.2.2.1⟩:S28),false,c.2.2.2.2.2.2.1)))) else (bT (F.i42 h j m.2 l) λz=>some (some (z.1,false,z.2))))))))
theorem qJz (k:Nat) (F:Fns0) (O:FnsOk0 F):∀ l m M n r,i23B k F l m M n=some r→CallT Tryz.prog 79 [.ptr 0 4 0] (mkH [⟨[.str l,w44 m,.i M,.i n],4,false⟩]) ((Xi23 l m M n).thr r) ((Xi23 l m M n).enc r) ((Xi23 l m M n).fin r):=by
 intro l m M n r h
 refine qA0 (Xi23 l m M n) Tryz.func79 Kr Kr rfl (t:=i23B k F l m M n) ?_ h
 unfold i23B
 refine qA1 (eE:=[(0,.ptr 0 4 0)]) Kr ?_
 let Q1:Blk:=⟨[.str l,w44 m,.i M,.i n],4,false⟩
 let E:Blk:=⟨[.i 0,.str [],.nils,.bool false,.bool false,.nils,.nils],0,false⟩
 refine oH 9 (atN 1 (ctl1 i23p1)) [(6,.ptr 0 4 0),(3,.bool false),(2,.ptr 1 7 0),(0,.ptr 0 4 0)] (mkH [Q1,E]) ?_
 refine oN (λ(g:S43)=>n44 g) (λg=>[Q1,E]) (atN 2 (ctl1 i23p1)) 7 [0] [] [] [.ptr 0 4 0] (qEi k l m M n) trivial (λ_=>trivial) λg a9=>?_
 let U:Env:=[(9,.i g.f0),(8,.ptr 2 3 0),(4,.ptr 2 3 0),(7,n44 g),(6,.ptr 0 4 0),(3,.bool false),(2,.ptr 1 7 0),(0,.ptr 0 4 0)]
 refine oH 7 (atN 2 (ctl1 i23p2)) U (mkH [Q1,E,⟨e44 g,3,false⟩]) ?_
 refine oA (λ(J:Bool) => .bool J) (atN 3 (ctl1 i23p2)) 10 [.i g.f0] (g99_ok k g.f0) λJ b0=>?_
 refine oR 1 i23p3 ((10,.bool J)::U) ?_
 refine oS 10 (λL=>?_) (λL=>?_)
 ·refine oR 4 (atN 1 (ctl1 i23p4)) ((11,.ptr 0 4 0)::(10,.bool true)::(10,.bool J)::U) ?_
  refine oX (λ(K:Int) => .tuple []) (λK=>[⟨[.str l,w44 m,.i K,.i n],4,false⟩,E,⟨e44 g,3,false⟩]) (atN 2 (ctl1 i23p4)) 12 [0] [] [] [] [] [.ptr 0 4 0] (qEh k l m M n) trivial (λ_=>trivial) trivial λK b1=>?_
  refine oL 2 (nav [0,0,0] i23p4) [(2,.ptr 1 7 0),(4,.ptr 2 3 0)] ?_
  exact oQF 8 [⟨[.str l,w44 m,.i K,.i n],4,false⟩,⟨[.i 1,.str g.f1,.nils,.bool false,.bool false,.nils,.nils],7,false⟩,⟨e44 g,3,false⟩] 1 [] [.agg [.i 1,.str g.f1,.nils,.bool false,.bool false,.nils,.nils],.bool false] (.tuple [.agg [.i 1,.str g.f1,.vec 0 7 [],.bool false,.bool false,.vec 0 1 [],.vec 0 1 []],.bool false]) (.tuple (.agg (.cs (.cs (.nil (.cs (.cs (.nil (.nil .ps))))))) .ps) .ps) trivial
 ·refine oR 7 (atN 1 (ctl1 i23p5)) ((17,.ptr 0 4 0)::(10,.bool false)::(10,.bool J)::U) ?_
  refine oX (λ(G:(Bool×Int)) => .bool G.1) (λG=>[⟨[.str l,w44 m,.i G.2,.i n],4,false⟩,E,⟨e44 g,3,false⟩]) (atN 2 (ctl1 i23p5)) 18 [0] [] [] [] [] [.ptr 0 4 0,.str [40]] (qAe k ([40]:LN) l m M n) trivial (λ_=>trivial) trivial λG b2=>?_
  let Q:Env:=[(0,.ptr 0 4 0),(2,.ptr 1 7 0),(16,.bool G.1)]
  refine oL 2 i23p7 Q ?_
  refine oS 16 (λL=>?_) (λL=>?_)
  ·refine oR 4 (atN 1 (ctl1 i23p9)) ((19,.ptr 0 4 0)::(16,.bool true)::Q) ?_
   refine oX (λ(B:(S28×Int))=>n29 B.1) (λB=>[⟨[.str l,w44 m,.i B.2,.i n],4,false⟩,E,⟨e44 g,3,false⟩]) (atN 2 (ctl1 i23p9)) 20 [0] [] [] [0] [] [.ptr 0 4 0] (O.i35_ok l m G.2 n) trivial (λ_=>trivial) trivial λB b3=>?_
   exact oQF 4 [⟨[.str l,w44 m,.i B.2,.i n],4,false⟩,⟨e29 B.1,7,false⟩,⟨e44 g,3,false⟩] 1 [] [n29 B.1,.bool true] (.tuple [n29 B.1,.bool true]) .ps trivial
  ·refine oR 4 (atN 1 (ctl1 i23p10)) ((22,.ptr 0 4 0)::(16,.bool false)::Q) ?_
   refine oX (λ(u:(Bool×Int)) => .bool u.1) (λu=>[⟨[.str l,w44 m,.i u.2,.i n],4,false⟩,E,⟨e44 g,3,false⟩]) (atN 2 (ctl1 i23p10)) 23 [0] [] [] [] [] [.ptr 0 4 0,.str [123]] (qAe k ([123]:LN) l m G.2 n) trivial (λ_=>trivial) trivial λu b4=>?_
   refine oR 2 i23p11 ((21,.bool u.1)::(23,.bool u.1)::(22,.ptr 0 4 0)::(16,.bool false)::Q) ?_
   refine oS 21 (λL=>?_) (λL=>?_)
   ·refine oR 7 (atN 4 (ctl1 i23p12)) ((27,.func 102 [.ptr 0 4 0] [])::(26,.ptr 0 4 0)::(25,.agg [.i 4,.str [],.nils,.bool false,.bool false,.nils,.nils])::(24,.ptr 0 4 0)::(21,.bool true)::(21,.bool u.1)::(23,.bool u.1)::(22,.ptr 0 4 0)::(16,.bool false)::Q) ?_
    refine oXW 1 [⟨[.str l,w44 m,.i u.2,.i n],4,false⟩,E,⟨e44 g,3,false⟩,⟨(([]:List S28)).flatMap e29,0,false⟩] (λ(j:Ri36) => .agg [.i j.1,.str j.2.1,.own 3 (j.2.2.2.2.2.2.2).length 7,.bool j.2.2.1,.bool j.2.2.2.1,w9 j.2.2.2.2.1,w9 j.2.2.2.2.2.1]) (λj=>[⟨[.str l,w44 m,.i j.2.2.2.2.2.2.1,.i n],4,false⟩,E,⟨e44 g,3,false⟩,⟨(j.2.2.2.2.2.2.2).flatMap e29,0,false⟩]) (atN 5 (ctl1 i23p12)) 28 [0,3] [0,1] [0,1] [0,3] [] [0,0,0,1] [.ptr 0 4 0,.agg [.i 4,.str [],.nils,.bool false,.bool false,.nils,.nils],.str [125],.func 102 [.ptr 0 4 0] []] [.ptr 0 4 0,.agg [.i 4,.str [],.own 3 (([]:List S28)).length 7,.bool false,.bool false,w9 ([]:LL),w9 ([]:LL)],.str [125],.func 102 [.ptr 0 4 0] []] (.cons (.agg (.cons (.cons (.none (.cons (.cons (.nil (.nil (.refl)))))))) (.refl))) (O.i36_ok (4:Int) ([]:LN) false false ([]:LL) ([]:LL) ([125]:LN) l m u.2 n ([]:List S28)) ⟨u29 _,trivial⟩ (λ_=>⟨u29 _,trivial⟩) trivial λj b5=>?_
    exact oQF 4 [⟨[.str l,w44 m,.i j.2.2.2.2.2.2.1,.i n],4,false⟩,⟨[.i j.1,.str j.2.1,.own 3 (j.2.2.2.2.2.2.2).length 7,.bool j.2.2.1,.bool j.2.2.2.1,w9 j.2.2.2.2.1,w9 j.2.2.2.2.2.1],7,false⟩,⟨e44 g,3,false⟩,⟨(j.2.2.2.2.2.2.2).flatMap e29,0,false⟩] 1 [] [.agg [.i j.1,.str j.2.1,.own 3 (j.2.2.2.2.2.2.2).length 7,.bool j.2.2.1,.bool j.2.2.2.1,w9 j.2.2.2.2.1,w9 j.2.2.2.2.2.1],.bool false] (.tuple [.agg [.i j.1,.str j.2.1,w29 j.2.2.2.2.2.2.2,.bool j.2.2.1,.bool j.2.2.2.1,w9 j.2.2.2.2.1,w9 j.2.2.2.2.2.1],.bool false]) (.tuple (.agg (.cs (.cs (qAl qA2 qAf rfl rfl rfl .ps))) .ps) .ps) trivial
   ·refine oR 4 (atN 1 (ctl1 i23p13)) ((30,.ptr 0 4 0)::(21,.bool false)::(21,.bool u.1)::(23,.bool u.1)::(22,.ptr 0 4 0)::(16,.bool false)::Q) ?_
    refine oX (λ(C:(Bool×Int)) => .bool C.1) (λC=>[⟨[.str l,w44 m,.i C.2,.i n],4,false⟩,E,⟨e44 g,3,false⟩]) (atN 2 (ctl1 i23p13)) 31 [0] [] [] [] [] [.ptr 0 4 0,.str [91]] (qAe k ([91]:LN) l m u.2 n) trivial (λ_=>trivial) trivial λC b6=>?_
    refine oL 2 i23p14 [(0,.ptr 0 4 0),(2,.ptr 1 7 0),(29,.bool C.1)] ?_
    let S:Env:=[(0,.ptr 0 4 0),(2,.ptr 1 7 0),(29,.bool C.1)]
    refine oS 29 (λL=>?_) (λL=>?_)
    ·refine oR 4 (atN 1 (ctl1 i23p15)) ((32,.ptr 0 4 0)::(29,.bool true)::S) ?_
     refine oX (λ(D:(S28×Int))=>n29 D.1) (λD=>[⟨[.str l,w44 m,.i D.2,.i n],4,false⟩,E,⟨e44 g,3,false⟩]) (atN 2 (ctl1 i23p15)) 33 [0] [] [] [0] [] [.ptr 0 4 0] (O.i37_ok l m C.2 n) trivial (λ_=>trivial) trivial λD b7=>?_
     exact oQF 4 [⟨[.str l,w44 m,.i D.2,.i n],4,false⟩,⟨e29 D.1,7,false⟩,⟨e44 g,3,false⟩] 1 [] [n29 D.1,.bool false] (.tuple [n29 D.1,.bool false]) .ps trivial
    ·refine oR 4 (atN 1 (ctl1 i23p16)) ((35,.ptr 0 4 0)::(29,.bool false)::S) ?_
     refine oX (λ(x:(Bool×Int)) => .bool x.1) (λx=>[⟨[.str l,w44 m,.i x.2,.i n],4,false⟩,E,⟨e44 g,3,false⟩]) (atN 2 (ctl1 i23p16)) 36 [0] [] [] [] [] [.ptr 0 4 0,.str [60,60]] (qAe k ([60,60]:LN) l m C.2 n) trivial (λ_=>trivial) trivial λx b8=>?_
     refine oR 2 i23p17 ((34,.bool x.1)::(36,.bool x.1)::(35,.ptr 0 4 0)::(29,.bool false)::S) ?_
     refine oS 34 (λL=>?_) (λL=>?_)
     ·refine oR 7 (atN 4 (ctl1 i23p18)) ((40,.func 104 [.ptr 0 4 0] [])::(39,.ptr 0 4 0)::(38,.agg [.i 6,.str [],.nils,.bool false,.bool false,.nils,.nils])::(37,.ptr 0 4 0)::(34,.bool true)::(34,.bool x.1)::(36,.bool x.1)::(35,.ptr 0 4 0)::(29,.bool false)::S) ?_
      refine oXW 1 [⟨[.str l,w44 m,.i x.2,.i n],4,false⟩,E,⟨e44 g,3,false⟩,⟨(([]:List S28)).flatMap e29,0,false⟩] (λ(a:Ri38) => .agg [.i a.1,.str a.2.1,.own 3 (a.2.2.2.2.2.2.2).length 7,.bool a.2.2.1,.bool a.2.2.2.1,w9 a.2.2.2.2.1,w9 a.2.2.2.2.2.1]) (λa=>[⟨[.str l,w44 m,.i a.2.2.2.2.2.2.1,.i n],4,false⟩,E,⟨e44 g,3,false⟩,⟨(a.2.2.2.2.2.2.2).flatMap e29,0,false⟩]) (atN 5 (ctl1 i23p18)) 41 [0,3] [0,1] [0,1] [0,3] [] [0,0,0,1] [.ptr 0 4 0,.agg [.i 6,.str [],.nils,.bool false,.bool false,.nils,.nils],.str [62,62],.func 104 [.ptr 0 4 0] []] [.ptr 0 4 0,.agg [.i 6,.str [],.own 3 (([]:List S28)).length 7,.bool false,.bool false,w9 ([]:LL),w9 ([]:LL)],.str [62,62],.func 104 [.ptr 0 4 0] []] (.cons (.agg (.cons (.cons (.none (.cons (.cons (.nil (.nil (.refl)))))))) (.refl))) (O.i38_ok (6:Int) ([]:LN) false false ([]:LL) ([]:LL) ([62,62]:LN) l m x.2 n ([]:List S28)) ⟨u29 _,trivial⟩ (λ_=>⟨u29 _,trivial⟩) trivial λa V=>?_
      exact oQF 4 [⟨[.str l,w44 m,.i a.2.2.2.2.2.2.1,.i n],4,false⟩,⟨[.i a.1,.str a.2.1,.own 3 (a.2.2.2.2.2.2.2).length 7,.bool a.2.2.1,.bool a.2.2.2.1,w9 a.2.2.2.2.1,w9 a.2.2.2.2.2.1],7,false⟩,⟨e44 g,3,false⟩,⟨(a.2.2.2.2.2.2.2).flatMap e29,0,false⟩] 1 [] [.agg [.i a.1,.str a.2.1,.own 3 (a.2.2.2.2.2.2.2).length 7,.bool a.2.2.1,.bool a.2.2.2.1,w9 a.2.2.2.2.1,w9 a.2.2.2.2.2.1],.bool false] (.tuple [.agg [.i a.1,.str a.2.1,w29 a.2.2.2.2.2.2.2,.bool a.2.2.1,.bool a.2.2.2.1,w9 a.2.2.2.2.1,w9 a.2.2.2.2.2.1],.bool false]) (.tuple (.agg (.cs (.cs (qAl qA2 qAf rfl rfl rfl .ps))) .ps) .ps) trivial
     ·refine oR 4 (atN 1 (ctl1 i23p19)) ((43,.ptr 0 4 0)::(34,.bool false)::(34,.bool x.1)::(36,.bool x.1)::(35,.ptr 0 4 0)::(29,.bool false)::S) ?_
      refine oX (λ(z:(Bool×Int)) => .bool z.1) (λz=>[⟨[.str l,w44 m,.i z.2,.i n],4,false⟩,E,⟨e44 g,3,false⟩]) (atN 2 (ctl1 i23p19)) 44 [0] [] [] [] [] [.ptr 0 4 0,.str [35]] (qAe k ([35]:LN) l m x.2 n) trivial (λ_=>trivial) trivial λz W=>?_
      refine oL 2 i23p20 [(0,.ptr 0 4 0),(2,.ptr 1 7 0),(42,.bool z.1)] ?_
      let N:Env:=[(0,.ptr 0 4 0),(2,.ptr 1 7 0),(42,.bool z.1)]
      refine oS 42 (λL=>?_) (λL=>?_)
      ·refine oR 5 (atN 1 (ctl1 i23p21)) ((45,.ptr 0 4 0)::(42,.bool true)::N) ?_
       refine oX (λ(q:(Bool×Int)) => .bool q.1) (λq=>[⟨[.str l,w44 m,.i q.2,.i n],4,false⟩,E,⟨e44 g,3,false⟩]) (atN 2 (ctl1 i23p21)) 46 [0] [] [] [] [] [.ptr 0 4 0,.str [123]] (qAe k ([123]:LN) l m z.2 n) trivial (λ_=>trivial) trivial λq Y=>?_
       refine oR 1 i23p23 ((46,.bool q.1)::(45,.ptr 0 4 0)::(42,.bool true)::N) ?_
       refine oS 46 (λL=>?_) (λL=>?_)
       ·refine oR 7 (atN 4 (ctl1 i23p24)) ((50,.func 105 [.ptr 0 4 0] [])::(49,.ptr 0 4 0)::(48,.agg [.i 8,.str [],.nils,.bool false,.bool false,.nils,.nils])::(47,.ptr 0 4 0)::(46,.bool true)::(46,.bool q.1)::(45,.ptr 0 4 0)::(42,.bool true)::N) ?_
        refine oXW 1 [⟨[.str l,w44 m,.i q.2,.i n],4,false⟩,E,⟨e44 g,3,false⟩,⟨(([]:List S28)).flatMap e29,0,false⟩] (λ(b:Ri39) => .agg [.i b.1,.str b.2.1,.own 3 (b.2.2.2.2.2.2.2).length 7,.bool b.2.2.1,.bool b.2.2.2.1,w9 b.2.2.2.2.1,w9 b.2.2.2.2.2.1]) (λb=>[⟨[.str l,w44 m,.i b.2.2.2.2.2.2.1,.i n],4,false⟩,E,⟨e44 g,3,false⟩,⟨(b.2.2.2.2.2.2.2).flatMap e29,0,false⟩]) (atN 5 (ctl1 i23p24)) 51 [0,3] [0,1] [0,1] [0,3] [] [0,0,0,1] [.ptr 0 4 0,.agg [.i 8,.str [],.nils,.bool false,.bool false,.nils,.nils],.str [125],.func 105 [.ptr 0 4 0] []] [.ptr 0 4 0,.agg [.i 8,.str [],.own 3 (([]:List S28)).length 7,.bool false,.bool false,w9 ([]:LL),w9 ([]:LL)],.str [125],.func 105 [.ptr 0 4 0] []] (.cons (.agg (.cons (.cons (.none (.cons (.cons (.nil (.nil (.refl)))))))) (.refl))) (O.i39_ok (8:Int) ([]:LN) false false ([]:LL) ([]:LL) ([125]:LN) l m q.2 n ([]:List S28)) ⟨u29 _,trivial⟩ (λ_=>⟨u29 _,trivial⟩) trivial λb Z=>?_
        exact oQF 4 [⟨[.str l,w44 m,.i b.2.2.2.2.2.2.1,.i n],4,false⟩,⟨[.i b.1,.str b.2.1,.own 3 (b.2.2.2.2.2.2.2).length 7,.bool b.2.2.1,.bool b.2.2.2.1,w9 b.2.2.2.2.1,w9 b.2.2.2.2.2.1],7,false⟩,⟨e44 g,3,false⟩,⟨(b.2.2.2.2.2.2.2).flatMap e29,0,false⟩] 1 [] [.agg [.i b.1,.str b.2.1,.own 3 (b.2.2.2.2.2.2.2).length 7,.bool b.2.2.1,.bool b.2.2.2.1,w9 b.2.2.2.2.1,w9 b.2.2.2.2.2.1],.bool false] (.tuple [.agg [.i b.1,.str b.2.1,w29 b.2.2.2.2.2.2.2,.bool b.2.2.1,.bool b.2.2.2.1,w9 b.2.2.2.2.1,w9 b.2.2.2.2.2.1],.bool false]) (.tuple (.agg (.cs (.cs (qAl qA2 qAf rfl rfl rfl .ps))) .ps) .ps) trivial
       ·refine oR 5 (atN 1 (ctl1 i23p25)) ((52,.ptr 0 4 0)::(46,.bool false)::(46,.bool q.1)::(45,.ptr 0 4 0)::(42,.bool true)::N) ?_
        refine oX (λ(o:Ri40) => .str o.1) (λo=>[⟨[.str l,w44 m,.i o.2,.i n],4,false⟩,E,⟨e44 g,3,false⟩]) (atN 2 (ctl1 i23p25)) 53 [0] [] [] [] [] [.ptr 0 4 0] (qG9 k l m q.2 n) trivial (λ_=>trivial) trivial λo a4=>?_
        refine oL 3 i23p26 [(0,.ptr 0 4 0),(2,.ptr 1 7 0),(5,.str o.1)] ?_
        let T:Env:=[(0,.ptr 0 4 0),(2,.ptr 1 7 0),(5,.str o.1)]
        refine oR 2 (atN 1 (ctl1 i23p26)) ((54,.ptr 0 4 0)::T) ?_
        refine oX (λ(I:Int) => .tuple []) (λI=>[⟨[.str l,w44 m,.i I,.i n],4,false⟩,E,⟨e44 g,3,false⟩]) (atN 2 (ctl1 i23p26)) 55 [0] [] [] [0] [] [.ptr 0 4 0,.str [123]] (qB2 k ([123]:LN) l m o.2 n) trivial (λ_=>trivial) trivial λI a5=>?_
        refine oR 8 (atN 5 (ctl1 i23p27)) ((60,.func 102 [.ptr 0 4 0] [])::(59,.ptr 0 4 0)::(58,.agg [.i 10,.str o.1,.nils,.bool false,.bool false,.nils,.nils])::(57,.str o.1)::(56,.ptr 0 4 0)::(55,.tuple [])::(54,.ptr 0 4 0)::T) ?_
        refine oXW 1 [⟨[.str l,w44 m,.i I,.i n],4,false⟩,E,⟨e44 g,3,false⟩,⟨(([]:List S28)).flatMap e29,0,false⟩] (λ(c:Ri36) => .agg [.i c.1,.str c.2.1,.own 3 (c.2.2.2.2.2.2.2).length 7,.bool c.2.2.1,.bool c.2.2.2.1,w9 c.2.2.2.2.1,w9 c.2.2.2.2.2.1]) (λc=>[⟨[.str l,w44 m,.i c.2.2.2.2.2.2.1,.i n],4,false⟩,E,⟨e44 g,3,false⟩,⟨(c.2.2.2.2.2.2.2).flatMap e29,0,false⟩]) (atN 6 (ctl1 i23p27)) 61 [0,3] [0,1] [0,1] [0,3] [] [0,0,0,1] [.ptr 0 4 0,.agg [.i 10,.str o.1,.nils,.bool false,.bool false,.nils,.nils],.str [125],.func 102 [.ptr 0 4 0] []] [.ptr 0 4 0,.agg [.i 10,.str o.1,.own 3 (([]:List S28)).length 7,.bool false,.bool false,w9 ([]:LL),w9 ([]:LL)],.str [125],.func 102 [.ptr 0 4 0] []] (.cons (.agg (.cons (.cons (.none (.cons (.cons (.nil (.nil (.refl)))))))) (.refl))) (O.i36_ok (10:Int) o.1 false false ([]:LL) ([]:LL) ([125]:LN) l m I n ([]:List S28)) ⟨u29 _,trivial⟩ (λ_=>⟨u29 _,trivial⟩) trivial λc a6=>?_
        exact oQF 4 [⟨[.str l,w44 m,.i c.2.2.2.2.2.2.1,.i n],4,false⟩,⟨[.i c.1,.str c.2.1,.own 3 (c.2.2.2.2.2.2.2).length 7,.bool c.2.2.1,.bool c.2.2.2.1,w9 c.2.2.2.2.1,w9 c.2.2.2.2.2.1],7,false⟩,⟨e44 g,3,false⟩,⟨(c.2.2.2.2.2.2.2).flatMap e29,0,false⟩] 1 [] [.agg [.i c.1,.str c.2.1,.own 3 (c.2.2.2.2.2.2.2).length 7,.bool c.2.2.1,.bool c.2.2.2.1,w9 c.2.2.2.2.1,w9 c.2.2.2.2.2.1],.bool false] (.tuple [.agg [.i c.1,.str c.2.1,w29 c.2.2.2.2.2.2.2,.bool c.2.2.1,.bool c.2.2.2.1,w9 c.2.2.2.2.1,w9 c.2.2.2.2.2.1],.bool false]) (.tuple (.agg (.cs (.cs (qAl qA2 qAf rfl rfl rfl .ps))) .ps) .ps) trivial
      ·refine oR 5 (atN 1 (ctl1 i23p22)) ((62,.ptr 0 4 0)::(42,.bool false)::N) ?_
       refine oX (λ(A:(S28×Int))=>n29 A.1) (λA=>[⟨[.str l,w44 m,.i A.2,.i n],4,false⟩,E,⟨e44 g,3,false⟩]) (atN 2 (ctl1 i23p22)) 63 [0] [] [] [0] [] [.ptr 0 4 0] (O.i42_ok l m z.2 n) trivial (λ_=>trivial) trivial λA a7=>?_
       exact oQF 4 [⟨[.str l,w44 m,.i A.2,.i n],4,false⟩,⟨e29 A.1,7,false⟩,⟨e44 g,3,false⟩] 1 [] [n29 A.1,.bool false] (.tuple [n29 A.1,.bool false]) .ps trivial
theorem i23B_ok (k:Nat) (F:Fns0) (a:FnsOk0 F):Pi23 (i23B k F):=λb c g j=>⟨λx h=>qJz k F a b c g j (some x) h,λh=>⟨_,qJz k F a b c g j none h⟩⟩
def i24p1:Pt:=nav [0,0,0,0,0,0,0] (nav [0] (bodyAt Tryz.f80))
def i24p2:Pt:=nav [0,0] i24p1
def i24p4:Pt:=nav [2,0,0,0,0] i24p2
def i24p6:Pt:=nav [0,0] i24p4
def i24p7:Pt:=nav [1] i24p6
def i24p8:Pt:=nav [2,0] i24p6
def i24p9:Pt:=nav [0,0,0] i24p7
def i24p10:Pt:=nav [0,0] i24p8
def i24p11:Pt:=nav [1] i24p10
def i24p12:Pt:=nav [2,0] i24p10
def i24p13:Pt:=nav [0,0] i24p12
def i24p14:Pt:=nav [1] i24p13
def i24d0:DP:=⟨[45],[(0,0,1),(0,0,0),(2,0,0),(7,0,0),(15,0,0),(31,0,0)],6,thrown,[],H0⟩
def qHn (k:Nat) (F:Fns0)  (u:LN) (x:List S43) (E:Int) (z:Int) (ih:Bool→Int→S28→Option (Option (S28×Int))):Bool→Int→S28→Option (Option (S28×Int)) :=
 λ(j:Bool) (q:Int) (l:S28)=>jn (λ(h:Bool×Bool×Int×S28)=>if h.1 then (some (some (h.2.2.2,h.2.2.1))) else (bT (i13 k ([40]:LN) u x h.2.2.1 z) λc=>jn (λ(C:Int×S28)=>ih false C.1 C.2) (λB=>if c.1 then (bT (F.i36 (2:Int) ([]:LN) false false ([]:LL) ([]:LL) ([41]:LN) u x c.2 z ([h.2.2.2]:List S28)) λa=>B (a.2.2.2.2.2.2.1,(⟨a.1,a.2.1,(⟨(a.2.2.2.2.2.2.2).length,(a.2.2.2.2.2.2.2).flatMap e29⟩:Raw),a.2.2.1,a.2.2.2.1,a.2.2.2.2.1,a.2.2.2.2.2.1⟩:S28))) else (jn (λ(g:Bool×Int×S28)=>if g.1 then (bT (F.i43 u x g.2.1 z) λm=>B (m.2,(⟨3,([]:LN),(⟨(([g.2.2,m.1]:List S28)).length,(([g.2.2,m.1]:List S28)).flatMap e29⟩:Raw),false,false,([]:LL),([]:LL)⟩:S28))) else (bT (i13 k ([35]:LN) u x g.2.1 z) λn=>if n.1 then (bT (F.i44 g.2.2 u x n.2 z) λr=>B (r.2,r.1)) else (some (some (g.2.2,n.2))))) (λo=>if (!decide (h.2.2.2.f0=3)) then (if h.2.1 then (bT (i13 k ([58]:LN) u x c.2 z) λb=>o (b.1,b.2,h.2.2.2)) else (if (decide (h.2.2.2.f0=1)) then (bT (i13 k ([58]:LN) u x c.2 z) λb=>o (b.1,b.2,h.2.2.2)) else (o (false,c.2,h.2.2.2)))) else (o (false,c.2,h.2.2.2))))))) (λD=>if (!j) then ((g108 k l).bind λA=>D (!A,j,q,l)) else (D (false,j,q,l)))
def qN (k:Nat) (F:Fns0)  (a:LN) (b:List S43) (c:Int) (g:Int) (n:Nat):Bool→Int→S28→Option (Option (S28×Int)):=lp (λ_ _ _=>none) (qHn k F a b c g) n
theorem qMz (k:Nat) (F:Fns0) (Z:FnsOk0 F) (a0:S28) (a1:Bool) (r:LN) (u:List S43) (V:Int) (x:Int)    : ∀ (n:Nat) (q:Bool) (A:Int) (j:S28),Ok (Xi24 a0 a1 r u V x) i24p1 [(0,.ptr 0 4 0),(2,.bool q),(4,.ptr 1 7 0),(6,.ptr 2 7 0)] (mkH [⟨[.str r,w44 u,.i A,.i x],4,false⟩,⟨[.i j.f0,.str j.f1,q29 j.f2,.bool j.f3,.bool j.f4,w9 j.f5,w9 j.f6],7,false⟩,⟨[.i 0,.str [],.nils,.bool false,.bool false,.nils,.nils],0,false⟩]) (qN k F r u V x n q A j):=by
 intro n
 induction n with
 | zero=>intro q A j; exact ok_none
 | succ n ih =>
  intro q A j
  show Ok _ _ _ _ (qHn k F r u V x (qN k F r u V x n) q A j)
  unfold qHn
  let E2:Env:=[(9,.bool (!q)),(8,.bool (!q)),(7,.bool q),(0,.ptr 0 4 0),(2,.bool q),(4,.ptr 1 7 0),(6,.ptr 2 7 0)]
  let Q1:Blk:=⟨[.str r,w44 u,.i A,.i x],4,false⟩
  let o:Blk:=⟨[.i 0,.str [],.nils,.bool false,.bool false,.nils,.nils],0,false⟩
  refine oH 4 (atN 3 (ctl1 i24p1)) E2 (mkH [Q1,⟨e29 j,7,false⟩,o]) ?_
  refine oJ i24p2 (λ(l:Bool×Bool×Int×S28)=>[(0,.ptr 0 4 0),(2,.bool l.2.1),(4,.ptr 1 7 0),(6,.ptr 2 7 0),(13,.bool l.1)]) (λ(l:Bool×Bool×Int×S28)=>(mkH [⟨[.str r,w44 u,.i l.2.2.1,.i x],4,false⟩,⟨e29 l.2.2.2,7,false⟩,o])) (λl=>?_) (λj8 W=>?_)
  ·refine oS 13 (λI=>?_) (λI=>?_)
   ·exact oQF 7 [⟨[.str r,w44 u,.i l.2.2.1,.i x],4,false⟩,⟨e29 l.2.2.2,7,false⟩,⟨e29 l.2.2.2,7,false⟩] 1 [] [n29 l.2.2.2] (n29 l.2.2.2) .ps trivial
   ·let E4:Env:=[(17,.ptr 0 4 0),(13,.bool false),(0,.ptr 0 4 0),(2,.bool l.2.1),(4,.ptr 1 7 0),(6,.ptr 2 7 0),(13,.bool l.1)]
    refine oH 7 (atN 1 (ctl1 i24p4)) E4 (mkH [⟨[.str r,w44 u,.i l.2.2.1,.i x],4,false⟩,⟨e29 l.2.2.2,7,false⟩,o]) ?_
    refine oX (λ(m:(Bool×Int)) => .bool m.1) (λm=>[⟨[.str r,w44 u,.i m.2,.i x],4,false⟩,⟨e29 l.2.2.2,7,false⟩,o]) (atN 2 (ctl1 i24p4)) 18 [0] [] [] [] [] [.ptr 0 4 0,.str [40]] (qAe k ([40]:LN) r u l.2.2.1 x) trivial (λ_=>trivial) trivial λm b0=>?_
    refine oR 2 i24p6 ((16,.bool m.1)::(18,.bool m.1)::E4) ?_
    refine oJ i24p9 (λ(Q:Int×S28)=>[(0,.ptr 0 4 0),(4,.ptr 1 7 0),(6,.ptr 2 7 0)]) (λ(Q:Int×S28)=>(mkH [⟨[.str r,w44 u,.i Q.1,.i x],4,false⟩,⟨e29 Q.2,7,false⟩,o])) (λQ=>?_) (λj9 S=>?_)
    ·refine oLH 8 i24p1 [(0,.ptr 0 4 0),(2,.bool false),(4,.ptr 1 7 0),(6,.ptr 2 7 0)] (mkH [⟨[.str r,w44 u,.i Q.1,.i x],4,false⟩,⟨e29 Q.2,7,false⟩,o]) ?_
     exact ih false Q.1 Q.2
    ·refine oS 16 (λI=>?_) (λI=>?_)
     ·let E6:Env:=((21,.slice 3 7 0 1 7)::(20,n29 l.2.2.2)::(19,.ptr 0 4 0)::(16,.bool true)::(16,.bool m.1)::(18,.bool m.1)::E4)
      let Q3:Blk:=⟨[.str r,w44 u,.i m.2,.i x],4,false⟩
      refine oH 5 (atN 3 (ctl1 i24p7)) E6 (mkH [Q3,⟨e29 l.2.2.2,7,false⟩,o,⟨e29 l.2.2.2,0,false⟩]) ?_
      refine qAz 21 3 7 1 7 Kr rfl ?_
      let Q4:Blk:=⟨(([l.2.2.2]:List S28)).flatMap e29,0,false⟩
      refine oH 3 (atN 6 (ctl1 i24p7)) ((24,.func 102 [.ptr 0 4 0] [])::(23,.ptr 0 4 0)::(22,.agg [.i 2,.str [],.own 3 (([l.2.2.2]:List S28)).length 7,.bool false,.bool false,.nils,.nils])::(21,.own 3 (([l.2.2.2]:List S28)).length 7)::E6) (mkH [Q3,⟨e29 l.2.2.2,7,false⟩,o,Q4]) ?_
      refine oXW 0 [Q3,⟨e29 l.2.2.2,7,false⟩,o,Q4] (λ(a:Ri36) => .agg [.i a.1,.str a.2.1,.own 3 (a.2.2.2.2.2.2.2).length 7,.bool a.2.2.1,.bool a.2.2.2.1,w9 a.2.2.2.2.1,w9 a.2.2.2.2.2.1]) (λa=>[⟨[.str r,w44 u,.i a.2.2.2.2.2.2.1,.i x],4,false⟩,⟨e29 l.2.2.2,7,false⟩,o,⟨(a.2.2.2.2.2.2.2).flatMap e29,0,false⟩]) (atN 7 (ctl1 i24p7)) 25 [0,3] [0,1] [0,1] [0,3] [] [0,0,0,1] [.ptr 0 4 0,.agg [.i 2,.str [],.own 3 (([l.2.2.2]:List S28)).length 7,.bool false,.bool false,.nils,.nils],.str [41],.func 102 [.ptr 0 4 0] []] [.ptr 0 4 0,.agg [.i 2,.str [],.own 3 (([l.2.2.2]:List S28)).length 7,.bool false,.bool false,w9 ([]:LL),w9 ([]:LL)],.str [41],.func 102 [.ptr 0 4 0] []] (.cons (.agg (.cons (.cons (.cons (.cons (.cons (.nil (.nil (.refl)))))))) (.refl))) (Z.i36_ok (2:Int) ([]:LN) false false ([]:LL) ([]:LL) ([41]:LN) r u m.2 x ([l.2.2.2]:List S28)) ⟨u29 _,trivial⟩ (λ_=>⟨u29 _,trivial⟩) trivial λa b3=>?_
      let Q5:Blk:=⟨[.str r,w44 u,.i a.2.2.2.2.2.2.1,.i x],4,false⟩
      let Q6:Blk:=⟨[.i a.1,.str a.2.1,.own 3 (a.2.2.2.2.2.2.2).length 7,.bool a.2.2.1,.bool a.2.2.2.1,w9 a.2.2.2.2.1,w9 a.2.2.2.2.2.1],7,false⟩
      let Q7:Blk:=⟨(a.2.2.2.2.2.2.2).flatMap e29,0,false⟩
      refine oH 3 i24p9 ((25,.agg [.i a.1,.str a.2.1,.own 3 (a.2.2.2.2.2.2.2).length 7,.bool a.2.2.1,.bool a.2.2.2.1,w9 a.2.2.2.2.1,w9 a.2.2.2.2.2.1])::(24,.func 102 [.ptr 0 4 0] [])::(23,.ptr 0 4 0)::(22,.agg [.i 2,.str [],.own 3 (([l.2.2.2]:List S28)).length 7,.bool false,.bool false,.nils,.nils])::(21,.own 3 (([l.2.2.2]:List S28)).length 7)::E6) (mkH [Q5,Q6,o,Q7]) ?_
      let Q8:Blk:=⟨[.i a.1,.str a.2.1,w29 a.2.2.2.2.2.2.2,.bool a.2.2.1,.bool a.2.2.2.1,w9 a.2.2.2.2.1,w9 a.2.2.2.2.2.1],7,false⟩
      refine qB1 [Q5,Q6,o,Q7] [Q5,Q8,o,⟨[],0,false⟩] 3 (a.2.2.2.2.2.2.2).length 7 0 ((a.2.2.2.2.2.2.2).flatMap e29) [0,4,6] (env0:=[(0,.ptr 0 4 0),(4,.ptr 1 7 0),(6,.ptr 2 7 0)]) (eE:=[(0,.ptr 0 4 0),(4,.ptr 1 7 0),(6,.ptr 2 7 0)]) Kr rfl rfl (qA9 qA2 _) (Nat.zero_le _) (u29 _) Kr ⟨⟨rfl,.refl Kr⟩,⟨⟨rfl,.refl Kr⟩,⟨⟨rfl,.refl Kr⟩,trivial⟩⟩⟩ ⟨.inr ⟨rfl,rfl,rfl,.refl Kr⟩,⟨.inr ⟨rfl,rfl,rfl,.cons Kr (.cons Kr (.own (.refl Kr)))⟩,⟨.inr ⟨rfl,rfl,rfl,.refl Kr⟩,⟨.inl ⟨rfl,rfl⟩,trivial⟩⟩⟩⟩ ?_
      refine qA8 [Q5,Q8,o] [⟨[],0,false⟩] Kr rfl Kr ⟨Kr,⟨Kr,⟨Kr,trivial⟩⟩⟩ ?_
      exact S (a.2.2.2.2.2.2.1,(⟨a.1,a.2.1,(⟨(a.2.2.2.2.2.2.2).length,(a.2.2.2.2.2.2.2).flatMap e29⟩:Raw),a.2.2.1,a.2.2.2.1,a.2.2.2.2.1,a.2.2.2.2.2.1⟩:S28))
     ·let E8:Env:=((30,.bool (!decide (l.2.2.2.f0=3)))::(29,.bool (!decide (l.2.2.2.f0=3)))::(28,.i l.2.2.2.f0)::(27,.ptr 1 7 0)::(16,.bool false)::(16,.bool m.1)::(18,.bool m.1)::E4)
      let Q9:Blk:=⟨[.str r,w44 u,.i m.2,.i x],4,false⟩
      refine oH 7 (atN 4 (ctl1 i24p8)) E8 (mkH [Q9,⟨e29 l.2.2.2,7,false⟩,o]) ?_
      refine oJ i24p10 (λ(b:Bool×Int×S28)=>[(0,.ptr 0 4 0),(4,.ptr 1 7 0),(6,.ptr 2 7 0),(26,.bool b.1)]) (λ(b:Bool×Int×S28)=>(mkH [⟨[.str r,w44 u,.i b.2.1,.i x],4,false⟩,⟨e29 b.2.2,7,false⟩,o])) (λb=>?_) (λc5 J=>?_)
      ·refine oS 26 (λI=>?_) (λI=>?_)
       ·let E:Blk:=⟨[.str r,w44 u,.i b.2.1,.i x],4,false⟩
        refine oH 1 i24p11 [(26,.bool true),(0,.ptr 0 4 0),(4,.ptr 1 7 0),(6,.ptr 2 7 0),(26,.bool b.1)] (mkH [E,⟨e29 b.2.2,7,false⟩,o]) ?_
        refine qC9 (λh=>?_) (λg T=>?_)
        ·let C:Env:=[(43,.ptr 0 4 0),(42,n29 b.2.2),(26,.bool true),(0,.ptr 0 4 0),(4,.ptr 1 7 0),(6,.ptr 2 7 0),(26,.bool b.1)]
         exact qAu (eE:=((46,.top)::(45,.top)::(44,.top)::C)) (i24d0.th 2 thrown [0] (mkH [E,⟨e29 b.2.2,7,false⟩,o])) (hs:=[(mkH [E,⟨e29 b.2.2,7,false⟩,o]),(mkH [E,⟨e29 b.2.2,7,false⟩,o])]) (LX:=[⟨[.str r,w44 u,.i V,.i x],4,false⟩]) (L:=[E,⟨e29 b.2.2,7,false⟩,o]) rfl rfl rfl Kr rfl ⟨.inl rfl,trivial⟩ Kr Kr Kr Kr (qAc 2 (l':=(opsAt i24p11).toList.drop 2) (eE:=C) (H':=(mkH [E,⟨e29 b.2.2,7,false⟩,o])) (hs:=[]) Kr (qAt (l':=(opsAt i24p11).toList.drop 3) (eE:=((44,.top)::C)) (hs:=[(mkH [E,⟨e29 b.2.2,7,false⟩,o])]) (fi:=109) (args:=[.ptr 0 4 0]) Kr Kr (frS 0 (M:=[E,⟨e29 b.2.2,7,false⟩,o]) (rs:=[0]) (ms:=[]) (mv:=[]) (mm:=[]) (D:=[0]) (xs':=[.ptr 0 4 0]) (.refl) ((Z.i43_ok r u b.2.1 x).2 h) trivial trivial Kr) Kr (qA4 (l':=(opsAt i24p11).toList.drop 4) (eE:=((45,.top)::(44,.top)::C)) (hs:=[]) Kr Kr (qA4 (l':=(opsAt i24p11).toList.drop 5) (eE:=((46,.top)::(45,.top)::(44,.top)::C)) (hs:=[]) Kr Kr (qA4 (l':=(opsAt i24p11).toList.drop 6) (eE:=((46,.top)::(45,.top)::(44,.top)::C)) (hs:=[(mkH [E,⟨e29 b.2.2,7,false⟩,o])]) Kr Kr (.nil)))))) Kr Kr
        ·let C:Env:=[(43,.ptr 0 4 0),(42,n29 b.2.2),(26,.bool true),(0,.ptr 0 4 0),(4,.ptr 1 7 0),(6,.ptr 2 7 0),(26,.bool b.1)]
         let G:Blk:=⟨[.str r,w44 u,.i g.2,.i x],4,false⟩
         let N:Blk:=⟨[.i 3,.str [],w29 ([b.2.2,g.1]:List S28),.bool false,.bool false,.nils,.nils],7,false⟩
         refine oD (H':=(mkH [G,N,o])) (nav [0] i24p11) ((46,.agg [.i 3,.str [],w29 ([b.2.2,g.1]:List S28),.bool false,.bool false,.nils,.nils])::(45,w29 ([b.2.2,g.1]:List S28))::(44,n29 g.1)::C) [(mkH [G,⟨e29 b.2.2,7,false⟩,o]),(mkH [G,N,o])] i24d0 (oDr 2 2 C (qA6 (l':=(opsAt i24p11).toList.drop 3) (eE:=((44,n29 g.1)::C)) (hs:=[(mkH [G,⟨e29 b.2.2,7,false⟩,o])]) (H':=(mkH [G,⟨e29 b.2.2,7,false⟩,o])) (fi:=109) (args:=[.ptr 0 4 0]) (v:=n29 g.1) Kr (frC (rs:=[0]) (ms:=[]) (ms':=[]) ((Z.i43_ok r u b.2.1 x).1 g T) trivial trivial Kr) Kr (oDh 3 6 ((46,.agg [.i 3,.str [],w29 ([b.2.2,g.1]:List S28),.bool false,.bool false,.nils,.nils])::(45,w29 ([b.2.2,g.1]:List S28))::(44,n29 g.1)::C) (mkH [G,N,o]) [(mkH [G,N,o])] .nil))) ?_
         refine oR 1 i24p9 ((46,.agg [.i 3,.str [],w29 ([b.2.2,g.1]:List S28),.bool false,.bool false,.nils,.nils])::(45,w29 ([b.2.2,g.1]:List S28))::(44,n29 g.1)::C) ?_
         refine qAw [G,N,o] 1 7 [.i 3,.str [],w29 ([b.2.2,g.1]:List S28),.bool false,.bool false,.nils,.nils] [.i 3,.str [],w29 ([b.2.2,g.1]:List S28),.bool false,.bool false,w9 ([]:LL),w9 ([]:LL)] Kr rfl (.cons (.cons (.cons (.cons (.cons (.nil (.nil (.refl)))))))) ?_
         refine oHp (mkH [G,⟨[.i 3,.str [],w29 ([b.2.2,g.1]:List S28),.bool false,.bool false,w9 ([]:LL),w9 ([]:LL)],7,false⟩,o]) ?_
         refine oK [0,4,6] [(0,.ptr 0 4 0),(4,.ptr 1 7 0),(6,.ptr 2 7 0)] ?_
         exact S (g.2,(⟨3,([]:LN),(⟨(([b.2.2,g.1]:List S28)).length,(([b.2.2,g.1]:List S28)).flatMap e29⟩:Raw),false,false,([]:LL),([]:LL)⟩:S28))
       ·let U:Env:=[(48,.ptr 0 4 0),(26,.bool false),(0,.ptr 0 4 0),(4,.ptr 1 7 0),(6,.ptr 2 7 0),(26,.bool b.1)]
        refine oH 4 (atN 1 (ctl1 i24p12)) U (mkH [⟨[.str r,w44 u,.i b.2.1,.i x],4,false⟩,⟨e29 b.2.2,7,false⟩,o]) ?_
        refine oX (λ(z:(Bool×Int)) => .bool z.1) (λz=>[⟨[.str r,w44 u,.i z.2,.i x],4,false⟩,⟨e29 b.2.2,7,false⟩,o]) (atN 2 (ctl1 i24p12)) 49 [0] [] [] [] [] [.ptr 0 4 0,.str [35]] (qAe k ([35]:LN) r u b.2.1 x) trivial (λ_=>trivial) trivial λz b5=>?_
        refine oR 2 i24p13 ((47,.bool z.1)::(49,.bool z.1)::U) ?_
        refine oS 47 (λI=>?_) (λI=>?_)
        ·refine oR 4 (atN 2 (ctl1 i24p14)) ((51,n29 b.2.2)::(50,.ptr 0 4 0)::(47,.bool true)::(47,.bool z.1)::(49,.bool z.1)::U) ?_
         refine oX (λ(B:(S28×Int))=>n29 B.1) (λB=>[⟨[.str r,w44 u,.i B.2,.i x],4,false⟩,⟨e29 b.2.2,7,false⟩,o]) (atN 3 (ctl1 i24p14)) 52 [0] [] [] [0] [] [.ptr 0 4 0,n29 b.2.2] (Z.i44_ok b.2.2 r u z.2 x) trivial (λ_=>trivial) trivial λB b6=>?_
         refine oLH 3 i24p9 [(0,.ptr 0 4 0),(4,.ptr 1 7 0),(6,.ptr 2 7 0)] (mkH [⟨[.str r,w44 u,.i B.2,.i x],4,false⟩,⟨e29 B.1,7,false⟩,o]) ?_
         exact S (B.2,B.1)
        ·exact oQF 7 [⟨[.str r,w44 u,.i z.2,.i x],4,false⟩,⟨e29 b.2.2,7,false⟩,⟨e29 b.2.2,7,false⟩] 1 [] [n29 b.2.2] (n29 b.2.2) .ps trivial
      ·refine oS 30 (λI=>?_) (λI=>?_)
       ·refine oH 2 (atN 6 (ctl1 i24p8)) ((32,.bool l.2.1)::(31,.bool l.2.1)::(30,.bool true)::E8) (mkH [Q9,⟨e29 l.2.2.2,7,false⟩,o]) ?_
        refine oS 32 (λI=>?_) (λI=>?_)
        ·refine oR 7 (atN 13 (ctl1 i24p8)) ((39,.ptr 0 4 0)::(38,.bool true)::(37,.bool true)::(36,.bool true)::(35,.tuple [])::(34,.tuple [])::(33,.tuple [])::(32,.bool true)::(32,.bool l.2.1)::(31,.bool l.2.1)::(30,.bool true)::E8) ?_
         refine oX (λ(c:(Bool×Int)) => .bool c.1) (λc=>[⟨[.str r,w44 u,.i c.2,.i x],4,false⟩,⟨e29 l.2.2.2,7,false⟩,o]) (atN 14 (ctl1 i24p8)) 40 [0] [] [] [] [] [.ptr 0 4 0,.str [58]] (qAe k ([58]:LN) r u m.2 x) trivial (λ_=>trivial) trivial λc O=>?_
         refine oL 3 i24p10 [(0,.ptr 0 4 0),(4,.ptr 1 7 0),(6,.ptr 2 7 0),(26,.bool c.1)] ?_
         exact J (c.1,c.2,l.2.2.2)
        ·let Y:Env:=((38,.bool (decide (l.2.2.2.f0=1)))::(37,.bool (decide (l.2.2.2.f0=1)))::(36,.bool (decide (l.2.2.2.f0=1)))::(35,.bool (decide (l.2.2.2.f0=1)))::(34,.i l.2.2.2.f0)::(33,.ptr 1 7 0)::(32,.bool false)::(32,.bool l.2.1)::(31,.bool l.2.1)::(30,.bool true)::E8)
         refine oR 6 (atN 12 (ctl1 i24p8)) Y ?_
         refine oS 38 (λI=>?_) (λI=>?_)
         ·refine oR 1 (atN 13 (ctl1 i24p8)) ((39,.ptr 0 4 0)::(38,.bool true)::Y) ?_
          refine oX (λ(c:(Bool×Int)) => .bool c.1) (λc=>[⟨[.str r,w44 u,.i c.2,.i x],4,false⟩,⟨e29 l.2.2.2,7,false⟩,o]) (atN 14 (ctl1 i24p8)) 40 [0] [] [] [] [] [.ptr 0 4 0,.str [58]] (qAe k ([58]:LN) r u m.2 x) trivial (λ_=>trivial) trivial λc O=>?_
          refine oL 3 i24p10 [(0,.ptr 0 4 0),(4,.ptr 1 7 0),(6,.ptr 2 7 0),(26,.bool c.1)] ?_
          exact J (c.1,c.2,l.2.2.2)
         ·refine oL 5 i24p10 [(0,.ptr 0 4 0),(4,.ptr 1 7 0),(6,.ptr 2 7 0),(26,.bool false)] ?_
          exact J (false,m.2,l.2.2.2)
       ·refine oLH 13 i24p10 [(0,.ptr 0 4 0),(4,.ptr 1 7 0),(6,.ptr 2 7 0),(26,.bool false)] (mkH [Q9,⟨e29 l.2.2.2,7,false⟩,o]) ?_
        exact J (false,m.2,l.2.2.2)
  ·refine oS 9 (λI=>?_) (λI=>?_)
   ·refine oH 1 (atN 4 (ctl1 i24p1)) ((10,n29 j)::(9,.bool true)::E2) (mkH [Q1,⟨e29 j,7,false⟩,o]) ?_
    refine oA (λ(K:Bool) => .bool K) (atN 5 (ctl1 i24p1)) 11 [n29 j] (g108_ok k j) λK b7=>?_
    refine oL 3 i24p2 [(0,.ptr 0 4 0),(2,.bool q),(4,.ptr 1 7 0),(6,.ptr 2 7 0),(13,.bool (!K))] ?_
    exact W (!K,q,A,j)
   ·refine oLH 5 i24p2 [(0,.ptr 0 4 0),(2,.bool q),(4,.ptr 1 7 0),(6,.ptr 2 7 0),(13,.bool false)] (mkH [Q1,⟨e29 j,7,false⟩,o]) ?_
    exact W (false,q,A,j)
def i24B (k:Nat) (F:Fns0) (b:S28) (c:Bool) (g:LN) (h:List S43) (a:Int) (j:Int):Option (Option (S28×Int)) :=
 qN k F g h a j k c a b
theorem qJy (k:Nat) (F:Fns0) (o:FnsOk0 F):∀ a b g j c l r,i24B k F a b g j c l=some r→CallT Tryz.prog 80 [.ptr 0 4 0,.agg [.i a.f0,.str a.f1,q29 a.f2,.bool a.f3,.bool a.f4,w9 a.f5,w9 a.f6],.bool b] (mkH [⟨[.str g,w44 j,.i c,.i l],4,false⟩]) ((Xi24 a b g j c l).thr r) ((Xi24 a b g j c l).enc r) ((Xi24 a b g j c l).fin r):=by
 intro a b g j c l r h
 refine qA0 (Xi24 a b g j c l) Tryz.func80 Kr Kr rfl (t:=i24B k F a b g j c l) ?_ h
 unfold i24B
 refine qA1 (eE:=[(0,.ptr 0 4 0),(1,.agg [.i a.f0,.str a.f1,q29 a.f2,.bool a.f3,.bool a.f4,w9 a.f5,w9 a.f6]),(2,.bool b)]) Kr ?_
 let m:Blk:=⟨[.str g,w44 j,.i c,.i l],4,false⟩
 let n:Blk:=⟨[.i 0,.str [],.nils,.bool false,.bool false,.nils,.nils],0,false⟩
 refine oLH 10 i24p1 [(0,.ptr 0 4 0),(2,.bool b),(4,.ptr 1 7 0),(6,.ptr 2 7 0)] (mkH [m,⟨e29 a,0,false⟩,n]) ?_
 refine qGw [m,⟨e29 a,0,false⟩,n] 1 [.i a.f0,.str a.f1,q29 a.f2,.bool a.f3,.bool a.f4,w9 a.f5,w9 a.f6] 0 7 rfl rfl (by decide) ?_
 refine oHp (mkH [m,⟨e29 a,7,false⟩,n]) ?_
 exact (qMz k F o a b g j c l k) b c a
theorem i24B_ok (k:Nat) (F:Fns0) (a:FnsOk0 F):Pi24 (i24B k F):=λb c g j l m=>⟨λx h=>qJy k F a b c g j l m (some x) h,λh=>⟨_,qJy k F a b c g j l m none h⟩⟩
def i26p1:Pt:=nav [0,0,0,0] (nav [0] (bodyAt Tryz.f70))
def i26p2:Pt:=nav [0,0] i26p1
def i26p3:Pt:=nav [1,0] i26p2
def i26B (k:Nat) (F:Fns0) (c:LN) (g:List S43) (j:Int) (h:Int):Option (Option (S28×Int)) :=
 bT (i13 k ([119,104,101,110]:LN) c g j h) λa=>if a.1 then (bT (F.i46 c g a.2 h) λb=>some (some (b.1,b.2))) else (some (some ((⟨(24:Int),([]:LN),⟨0,[]⟩,false,false,([]:LL),([]:LL)⟩:S28),a.2)))
theorem qJx (k:Nat) (F:Fns0) (q:FnsOk0 F):∀ c g l j r,i26B k F c g l j=some r→CallT Tryz.prog 70 [.ptr 0 4 0] (mkH [⟨[.str c,w44 g,.i l,.i j],4,false⟩]) ((Xi26 c g l j).thr r) ((Xi26 c g l j).enc r) ((Xi26 c g l j).fin r):=by
 intro c g l j r h
 refine qA0 (Xi26 c g l j) Tryz.func70 Kr Kr rfl (t:=i26B k F c g l j) ?_ h
 unfold i26B
 refine qA1 (eE:=[(0,.ptr 0 4 0)]) Kr ?_
 let m:Blk:=⟨[.i 0,.str [],.nils,.bool false,.bool false,.nils,.nils],0,false⟩
 refine oH 8 (atN 1 (ctl1 i26p1)) [(3,.ptr 0 4 0),(2,.ptr 1 7 0),(0,.ptr 0 4 0)] (mkH [⟨[.str c,w44 g,.i l,.i j],4,false⟩,m]) ?_
 refine oX (λ(a:(Bool×Int)) => .bool a.1) (λa=>[⟨[.str c,w44 g,.i a.2,.i j],4,false⟩,m]) (atN 2 (ctl1 i26p1)) 4 [0] [] [] [] [] [.ptr 0 4 0,.str [119,104,101,110]] (qAe k ([119,104,101,110]:LN) c g l j) trivial (λ_=>trivial) trivial λa n=>?_
 refine oR 1 i26p2 [(4,.bool a.1),(3,.ptr 0 4 0),(2,.ptr 1 7 0),(0,.ptr 0 4 0)] ?_
 refine oS 4 (λu=>?_) (λu=>?_)
 ·refine oR 4 (atN 1 (ctl1 i26p3)) [(5,.ptr 0 4 0),(4,.bool true),(4,.bool a.1),(3,.ptr 0 4 0),(2,.ptr 1 7 0),(0,.ptr 0 4 0)] ?_
  refine oX (λ(b:(S28×Int))=>n29 b.1) (λb=>[⟨[.str c,w44 g,.i b.2,.i j],4,false⟩,m]) (atN 2 (ctl1 i26p3)) 6 [0] [] [] [0] [] [.ptr 0 4 0] (q.i46_ok c g a.2 j) trivial (λ_=>trivial) trivial λb o=>?_
  exact oQF 3 [⟨[.str c,w44 g,.i b.2,.i j],4,false⟩,⟨e29 b.1,7,false⟩] 1 [] [n29 b.1] (n29 b.1) .ps trivial
 ·exact oQF 8 [⟨[.str c,w44 g,.i a.2,.i j],4,false⟩,⟨[.i 24,.str [],.nils,.bool false,.bool false,.nils,.nils],7,false⟩] 1 [] [.agg [.i 24,.str [],.nils,.bool false,.bool false,.nils,.nils]] (.agg [.i 24,.str [],.vec 0 7 [],.bool false,.bool false,.vec 0 1 [],.vec 0 1 []]) (.agg (.cs (.cs (.nil (.cs (.cs (.nil (.nil .ps))))))) .ps) trivial
theorem i26B_ok (k:Nat) (F:Fns0) (a:FnsOk0 F):Pi26 (i26B k F):=λb c g j=>⟨λx h=>qJx k F a b c g j (some x) h,λh=>⟨_,qJx k F a b c g j none h⟩⟩
def i27p1:Pt:=nav [0,0,0] (nav [0] (bodyAt Tryz.f69))
def i27p2:Pt:=nav [0,0,0] i27p1
def i27p3:Pt:=nav [0,0,0] i27p2
def i27d0:DP:=⟨[20],[(0,0,1),(0,0,1),(0,0,0),(4,0,0),(15,0,0),(31,0,0),(63,0,0)],7,thrown,[],H0⟩
def i27B (k:Nat) (F:Fns0) (n:LN) (l:S28) (m:S28) (g:LN) (h:List S43) (o:Int) (j:Int):Option (Option (S28×Int)) :=
 bT (i41 k ([45,62]:LN) g h o j) λb=>(i47 k g h b j).bind λc=>bT (F.i10 g h b j) λa=>some (some ((⟨(22:Int),n,⟨(([l,m,a.1]:List S28)).length,(([l,m,a.1]:List S28)).flatMap e29⟩,c,false,([]:LL),([]:LL)⟩:S28),a.2))
theorem qJw (k:Nat) (F:Fns0) (K:FnsOk0 F):∀ o a b l m u n r,i27B k F o a b l m u n=some r→CallT Tryz.prog 69 [.ptr 0 4 0,.str o,.agg [.i a.f0,.str a.f1,q29 a.f2,.bool a.f3,.bool a.f4,w9 a.f5,w9 a.f6],.agg [.i b.f0,.str b.f1,q29 b.f2,.bool b.f3,.bool b.f4,w9 b.f5,w9 b.f6]] (mkH [⟨[.str l,w44 m,.i u,.i n],4,false⟩]) ((Xi27 o a b l m u n).thr r) ((Xi27 o a b l m u n).enc r) ((Xi27 o a b l m u n).fin r):=by
 intro o a b l m u n r h
 refine qA0 (Xi27 o a b l m u n) Tryz.func69 Kr Kr rfl (t:=i27B k F o a b l m u n) ?_ h
 unfold i27B
 refine qA1 (eE:=[(0,.ptr 0 4 0),(1,.str o),(2,.agg [.i a.f0,.str a.f1,q29 a.f2,.bool a.f3,.bool a.f4,w9 a.f5,w9 a.f6]),(3,.agg [.i b.f0,.str b.f1,q29 b.f2,.bool b.f3,.bool b.f4,w9 b.f5,w9 b.f6])]) Kr ?_
 let N:Env:=[(10,.ptr 0 4 0),(8,.ptr 3 7 0),(7,.ptr 2 7 0),(6,.ptr 1 7 0),(0,.ptr 0 4 0),(1,.str o),(2,n29 a),(3,n29 b)]
 let O:Blk:=⟨[.str l,w44 m,.i u,.i n],4,false⟩
 let A:Blk:=⟨[.i 0,.str [],.nils,.bool false,.bool false,.nils,.nils],0,false⟩
 refine oH 9 (atN 1 (ctl1 i27p1)) N (mkH [O,⟨e29 a,0,false⟩,⟨e29 b,0,false⟩,A]) ?_
 refine oX (λ(g:Int) => .tuple []) (λg=>[⟨[.str l,w44 m,.i g,.i n],4,false⟩,⟨e29 a,0,false⟩,⟨e29 b,0,false⟩,A]) (atN 2 (ctl1 i27p1)) 11 [0] [] [] [0] [] [.ptr 0 4 0,.str [45,62]] (qB2 k ([45,62]:LN) l m u n) trivial (λ_=>trivial) trivial λg C=>?_
 refine oR 5 (atN 2 (ctl1 i27p2)) ((13,.ptr 0 4 0)::(12,.str o)::(11,.tuple [])::N) ?_
 let Q:Blk:=⟨[.str l,w44 m,.i g,.i n],4,false⟩
 refine oN (λ(j:Bool) => .bool j) (λj=>[Q,⟨e29 a,0,false⟩,⟨e29 b,0,false⟩,A]) (atN 3 (ctl1 i27p2)) 14 [0] [] [] [.ptr 0 4 0] (qG8 k l m g n) trivial (λ_=>trivial) λj E=>?_
 let S:Blk:=⟨[.i 22,.str o,.nils,.bool j,.bool false,.nils,.nils],7,false⟩
 let x:List Blk:=[Q,⟨e29 a,0,false⟩,⟨e29 b,0,false⟩,A,S]
 refine oLH 5 i27p3 [(0,.ptr 0 4 0),(6,.ptr 1 7 0),(7,.ptr 2 7 0),(8,.ptr 3 7 0),(9,.ptr 4 7 0)] (mkH x) ?_
 refine qC9 (λh=>?_) (λc z=>?_)
 ·let q:Env:=[(18,.ptr 0 4 0),(17,n29 b),(16,n29 a),(0,.ptr 0 4 0),(6,.ptr 1 7 0),(7,.ptr 2 7 0),(8,.ptr 3 7 0),(9,.ptr 4 7 0)]
  exact qAu (eE:=((21,.top)::(20,.top)::(19,.top)::q)) (i27d0.th 3 thrown [0] (mkH x)) (hs:=[(mkH x),(mkH x)]) (LX:=[O]) (L:=x) rfl rfl rfl Kr rfl ⟨.inl rfl,trivial⟩ Kr Kr Kr Kr (qAc 3 (l':=(opsAt i27p3).toList.drop 3) (eE:=q) (H':=(mkH x)) (hs:=[]) Kr (qAt (l':=(opsAt i27p3).toList.drop 4) (eE:=((19,.top)::q)) (hs:=[(mkH x)]) (fi:=29) (args:=[.ptr 0 4 0]) Kr Kr (frS 0 (M:=x) (rs:=[0]) (ms:=[]) (mv:=[]) (mm:=[]) (D:=[0]) (xs':=[.ptr 0 4 0]) (.refl) ((K.i10_ok l m g n).2 h) trivial trivial Kr) Kr (qA4 (l':=(opsAt i27p3).toList.drop 5) (eE:=((20,.top)::(19,.top)::q)) (hs:=[]) Kr Kr (qA4 (l':=(opsAt i27p3).toList.drop 6) (eE:=((21,.top)::(20,.top)::(19,.top)::q)) (hs:=[]) Kr Kr (qA4 (l':=(opsAt i27p3).toList.drop 7) (eE:=((21,.top)::(20,.top)::(19,.top)::q)) (hs:=[(mkH x)]) Kr Kr (.nil)))))) Kr Kr
 ·let q:Env:=[(18,.ptr 0 4 0),(17,n29 b),(16,n29 a),(0,.ptr 0 4 0),(6,.ptr 1 7 0),(7,.ptr 2 7 0),(8,.ptr 3 7 0),(9,.ptr 4 7 0)]
  let G:Blk:=⟨[.str l,w44 m,.i c.2,.i n],4,false⟩
  let I:Blk:=⟨[.i 22,.str o,w29 ([a,b,c.1]:List S28),.bool j,.bool false,.nils,.nils],7,false⟩
  let B:List Blk:=[G,⟨e29 a,0,false⟩,⟨e29 b,0,false⟩,A,I]
  let J:List Blk:=[G,⟨e29 a,0,false⟩,⟨e29 b,0,false⟩,A,S]
  refine oD (H':=(mkH B)) (nav [0] i27p3) ((21,.ptr 4 7 2)::(20,w29 ([a,b,c.1]:List S28))::(19,n29 c.1)::q) [(mkH J),(mkH B)] i27d0 (oDr 3 3 q (qA6 (l':=(opsAt i27p3).toList.drop 4) (eE:=((19,n29 c.1)::q)) (hs:=[(mkH J)]) (H':=(mkH J)) (fi:=29) (args:=[.ptr 0 4 0]) (v:=n29 c.1) Kr (frC (rs:=[0]) (ms:=[]) (ms':=[]) ((K.i10_ok l m g n).1 c z) trivial trivial Kr) Kr (oDh 3 7 ((21,.ptr 4 7 2)::(20,w29 ([a,b,c.1]:List S28))::(19,n29 c.1)::q) (mkH B) [(mkH B)] .nil))) ?_
  exact oQF 6 [G,⟨e29 a,0,false⟩,⟨e29 b,0,false⟩,I,I] 1 [] [.agg [.i 22,.str o,w29 ([a,b,c.1]:List S28),.bool j,.bool false,.nils,.nils]] (.agg [.i 22,.str o,w29 ([a,b,c.1]:List S28),.bool j,.bool false,.vec 0 1 [],.vec 0 1 []]) (.agg (.cs (.cs (.cs (.cs (.cs (.nil (.nil .ps))))))) .ps) trivial
theorem i27B_ok (k:Nat) (F:Fns0) (a:FnsOk0 F):Pi27 (i27B k F):=λb c g j l m n=>⟨λx h=>qJw k F a b c g j l m n (some x) h,λh=>⟨_,qJw k F a b c g j l m n none h⟩⟩
def i35p1:Pt:=nav [0,0,0] (nav [0] (bodyAt Tryz.f100))
def i35p2:Pt:=nav [0,0,0] i35p1
def i35B (k:Nat) (F:Fns0) (c:LN) (g:List S43) (j:Int) (h:Int):Option (Option (S28×Int)) :=
 bT (F.i9 (0:Int) c g j h) λa=>bT (i41 k ([41]:LN) c g a.2 h) λb=>some (some (a.1,b))
theorem qJv (k:Nat) (F:Fns0) (q:FnsOk0 F):∀ b c l g r,i35B k F b c l g=some r→CallT Tryz.prog 100 [.ptr 0 4 0] (mkH [⟨[.str b,w44 c,.i l,.i g],4,false⟩]) ((Xi35 b c l g).thr r) ((Xi35 b c l g).enc r) ((Xi35 b c l g).fin r):=by
 intro b c l g r h
 refine qA0 (Xi35 b c l g) Tryz.func100 Kr Kr rfl (t:=i35B k F b c l g) ?_ h
 unfold i35B
 refine qA1 (eE:=[(0,.ptr 0 4 0)]) Kr ?_
 let m:Blk:=⟨[.i 0,.str [],.nils,.bool false,.bool false,.nils,.nils],0,false⟩
 refine oH 7 (atN 1 (ctl1 i35p1)) [(4,.ptr 0 4 0),(2,.ptr 1 7 0),(0,.ptr 0 4 0)] (mkH [⟨[.str b,w44 c,.i l,.i g],4,false⟩,m]) ?_
 refine oX (λ(a:(S28×Int))=>n29 a.1) (λa=>[⟨[.str b,w44 c,.i a.2,.i g],4,false⟩,m]) (atN 2 (ctl1 i35p1)) 5 [0] [] [] [0] [] [.ptr 0 4 0,.i 0] (q.i9_ok (0:Int) b c l g) trivial (λ_=>trivial) trivial λa n=>?_
 refine oH 6 (atN 1 (ctl1 i35p2)) [(6,.ptr 0 4 0),(3,.ptr 2 7 0),(5,n29 a.1),(4,.ptr 0 4 0),(2,.ptr 1 7 0),(0,.ptr 0 4 0)] (mkH [⟨[.str b,w44 c,.i a.2,.i g],4,false⟩,m,⟨e29 a.1,7,false⟩]) ?_
 refine oX (λ(j:Int) => .tuple []) (λj=>[⟨[.str b,w44 c,.i j,.i g],4,false⟩,m,⟨e29 a.1,7,false⟩]) (atN 2 (ctl1 i35p2)) 7 [0] [] [] [0] [] [.ptr 0 4 0,.str [41]] (qB2 k ([41]:LN) b c a.2 g) trivial (λ_=>trivial) trivial λj o=>?_
 exact oQF 7 [⟨[.str b,w44 c,.i j,.i g],4,false⟩,⟨e29 a.1,7,false⟩,⟨e29 a.1,7,false⟩] 1 [] [n29 a.1] (n29 a.1) .ps trivial
theorem i35B_ok (k:Nat) (F:Fns0) (a:FnsOk0 F):Pi35 (i35B k F):=λb c g j=>⟨λx h=>qJv k F a b c g j (some x) h,λh=>⟨_,qJv k F a b c g j none h⟩⟩
def i36p1:Pt:=nav [0,0,0,0] (nav [0] (bodyAt Tryz.f101))
def i36p2:Pt:=nav [0,0,0] i36p1
def i36p3:Pt:=nav [0,0,0,0] i36p2
def i36p4:Pt:=nav [0,0] i36p3
def i36p6:Pt:=nav [2,0,0,0,0] i36p4
def i36p10:Pt:=nav [0,0,0] (nav [0,0,0] i36p6)
def i36p11:Pt:=nav [0,0,0,0] i36p10
def i36p12:Pt:=nav [0,0,0] i36p11
def i36p13:Pt:=nav [0,0] i36p12
def i36p15:Pt:=nav [2,0,0] i36p13
def i36p17:Pt:=nav [0,0,0] i36p15
def i36p18:Pt:=nav [0,0,0] i36p17
def qFf (k:Nat) (F:Fns0)  (z:Int) (A:LN) (B:Bool) (C:LL) (E:LL) (D:LN) (o:LN) (q:List S43) (b:Int) (r:Bool) (ih:LL→Int→(List S28)→Option (Option Ri36)):LL→Int→(List S28)→Option (Option Ri36) :=
 λ(l:LL) (m:Int) (n:List S28)=>bT (F.i54 o q m b) λa=>(appS 104 n ([(⟨a.1.f0,a.1.f1,a.1.f2,a.1.f3,a.1.f4,l,a.1.f6⟩:S28)]:List S28)).bind λh=>(i11 k o q a.2 b).bind λc=>bT (i13 k D o q c.2 b) λg=>if g.1 then (some (some (z,A,r,B,C,c.1,g.2,h))) else (bT (i25 k (decide ((c.1.length:Int)=0))) λx=>bT (i41 k ([44]:LN) o q g.2 b) λu=>(i11 k o q u b).bind λj=>ih j.1 j.2 h)
def qHl (k:Nat) (F:Fns0)  (c:Int) (g:LN) (h:Bool) (j:LL) (l:LL) (m:LN) (o:LN) (q:List S43) (b:Int) (a:Bool) (n:Nat):LL→Int→(List S28)→Option (Option Ri36):=lp (λ_ _ _=>none) (qFf k F c g h j l m o q b a) n
theorem qKw (k:Nat) (F:Fns0) (hF:FnsOk0 F) (D:Int) (E:LN) (a2:Bool) (G:Bool) (I:LL) (N:LL) (K:LN) (u:LN) (x:List S43) (a9:Int) (h:Int) (b1:List S28)  (l:Bool)  : ∀ (n:Nat) (c:LL) (o:Int) (g:List S28),Ok (Xi36 D E a2 G I N K u x a9 h b1) i36p6 [(0,.ptr 0 4 0),(2,.str K),(3,.func 102 [.ptr 0 4 0] []),(5,.ptr 2 7 0),(8,.ptr 3 7 0),(9,w9 c)] (mkH [⟨[.str u,w44 x,.i o,.i h],4,false⟩,⟨(g).flatMap e29,0,false⟩,⟨[.i D,.str E,.own 1 (g).length 7,.bool l,.bool G,w9 I,w9 N],7,false⟩,⟨[.i 0,.str [],.nils,.bool false,.bool false,.nils,.nils],0,false⟩]) (qHl k F D E G I N K u x h l n c o g):=by
 intro n
 induction n with
 | zero=>intro c o g; exact ok_none
 | succ n ih =>
  intro c o g
  show Ok _ _ _ _ (qFf k F D E G I N K u x h l (qHl k F D E G I N K u x h l n) c o g)
  unfold qFf
  let E5:Env:=[(22,.func 102 [.ptr 0 4 0] []),(0,.ptr 0 4 0),(2,.str K),(3,.func 102 [.ptr 0 4 0] []),(5,.ptr 2 7 0),(8,.ptr 3 7 0),(9,w9 c)]
  let U:Blk:=⟨(g).flatMap e29,0,false⟩
  let S:Blk:=⟨[.i D,.str E,.own 1 (g).length 7,.bool l,.bool G,w9 I,w9 N],7,false⟩
  let A:Blk:=⟨[.i 0,.str [],.nils,.bool false,.bool false,.nils,.nils],0,false⟩
  refine oH 2 (atN 1 (ctl1 i36p6)) E5 (mkH [⟨[.str u,w44 x,.i o,.i h],4,false⟩,U,S,A]) ?_
  refine oX (λ(a:(S28×Int))=>n29 a.1) (λa=>[⟨[.str u,w44 x,.i a.2,.i h],4,false⟩,U,S,A]) (atN 2 (ctl1 i36p6)) 23 [0] [] [] [0,2] [0,1] [.ptr 0 4 0] (hF.i54_ok u x o h) trivial (λ_=>trivial) ⟨u29 _,trivial⟩ λa W=>?_
  let Y:Env:=((29,.slice 5 7 0 1 7)::(28,.agg [.i a.1.f0,.str a.1.f1,q29 a.1.f2,.bool a.1.f3,.bool a.1.f4,w9 c,w9 a.1.f6])::(27,.own 1 (g).length 7)::(26,.ptr 2 7 2)::(25,.ptr 4 7 5)::(24,w9 c)::(10,.ptr 4 7 0)::(23,n29 a.1)::E5)
  let V:Blk:=⟨[.str u,w44 x,.i a.2,.i h],4,false⟩
  let B:Blk:=⟨[.i a.1.f0,.str a.1.f1,q29 a.1.f2,.bool a.1.f3,.bool a.1.f4,w9 c,w9 a.1.f6],7,false⟩
  let C:Blk:=⟨[.i a.1.f0,.str a.1.f1,q29 a.1.f2,.bool a.1.f3,.bool a.1.f4,w9 c,w9 a.1.f6],0,false⟩
  refine oH 15 (atN 4 (ctl1 i36p10)) Y (mkH [V,U,S,A,B,C]) ?_
  refine oC (λ(j:List S28)=>(.own 1 (j).length 7,(mkH [V,⟨(j).flatMap e29,0,false⟩,S,A,B,C]))) (atN 5 (ctl1 i36p10)) 30 (appH (sz:=7) qA2 rfl qAh [V,U,S,A,B,C] 1 104 g ([(⟨a.1.f0,a.1.f1,a.1.f2,a.1.f3,a.1.f4,c,a.1.f6⟩:S28)]:List S28) rfl rfl Kr) λj Z=>?_
  let L:Blk:=⟨(j).flatMap e29,0,false⟩
  let O:Blk:=⟨[.i D,.str E,.own 1 (j).length 7,.bool l,.bool G,w9 I,w9 N],7,false⟩
  refine oH 5 i36p11 ((31,.ptr 2 7 2)::(30,.own 1 (j).length 7)::Y) (mkH [V,L,O,A,B,C]) ?_
  refine oK0 [0,2,3,5,8] ?_
  let E7:Env:=keepOnly ((31,.ptr 2 7 2)::(30,.own 1 (j).length 7)::Y) [0,2,3,5,8]
  refine oR 2 (atN 1 (ctl1 i36p11)) ((32,.ptr 0 4 0)::E7) ?_
  refine oN (λ(b:Ri11)=>w9 b.1) (λb=>[⟨[.str u,w44 x,.i b.2,.i h],4,false⟩,L,O,A,B,C]) (atN 2 (ctl1 i36p11)) 33 [0] [] [] [.ptr 0 4 0] (qAr k u x a.2 h) trivial (λ_=>trivial) λb b0=>?_
  let E8:Env:=((35,.str K)::(34,.ptr 0 4 0)::(9,w9 b.1)::(33,w9 b.1)::(32,.ptr 0 4 0)::E7)
  refine oR 6 (atN 2 (ctl1 i36p12)) E8 ?_
  refine oX (λ(m:(Bool×Int)) => .bool m.1) (λm=>[⟨[.str u,w44 x,.i m.2,.i h],4,false⟩,L,O,A,B,C]) (atN 3 (ctl1 i36p12)) 36 [0] [] [] [2] [0,1] [.ptr 0 4 0,.str K] (qAe k K u x b.2 h) trivial (λ_=>trivial) ⟨u29 _,trivial⟩ λm b3=>?_
  refine oR 1 i36p13 ((36,.bool m.1)::E8) ?_
  refine oS 36 (λhb=>?_) (λhb=>?_)
  ·let Q9:Blk:=⟨[.str u,w44 x,.i m.2,.i h],4,false⟩
   let J:Blk:=⟨[.i D,.str E,.own 1 (j).length 7,.bool l,.bool G,w9 I,w9 b.1],7,false⟩
   refine oLH 8 (nav [0,0,0] (nav [1,0] i36p13)) [(5,.ptr 2 7 0),(8,.ptr 3 7 0)] (mkH [Q9,L,J,A,B,C]) ?_
   refine oH 5 .fin ((39,.agg [.i D,.str E,.own 1 (j).length 7,.bool l,.bool G,w9 I,w9 b.1])::[(5,.ptr 2 7 0),(8,.ptr 3 7 0)]) (mkH [Q9,L,J,J,B,C]) ?_
   exact qAx (r:=some (D,E,l,G,I,b.1,m.2,j)) (xs:=[.agg [.i D,.str E,.own 1 (j).length 7,.bool l,.bool G,w9 I,w9 b.1]]) [Q9,L] [J,J,B,C] Kr Kr Kr Kr Kr ⟨Kr,⟨(qA _ (u29 _)),trivial⟩⟩ Kr Kr
  ·let Q:Env:=((42,.bool (decide ((b.1.length:Int)=0)))::(41,.i (b.1.length:Int))::(40,w9 b.1)::(36,.bool false)::(36,.bool m.1)::E8)
   refine oR 7 (atN 3 (ctl1 i36p15)) Q ?_
   refine oX (λ(M:Unit) => .tuple []) (λM=>[⟨[.str u,w44 x,.i m.2,.i h],4,false⟩,L,O,A,B,C]) (atN 4 (ctl1 i36p15)) 43 [] [] [] [2] [0,1] [.bool (decide ((b.1.length:Int)=0))] (qCp k (decide ((b.1.length:Int)=0))) trivial (λ_=>trivial) ⟨u29 _,trivial⟩ λM b5=>?_
   refine oR 2 i36p17 ((43,.tuple [])::Q) ?_
   refine oK0 [0,2,3,5,8] ?_
   let T:Env:=keepOnly ((43,.tuple [])::Q) [0,2,3,5,8]
   refine oR 2 (atN 1 (ctl1 i36p17)) ((44,.ptr 0 4 0)::T) ?_
   refine oX (λ(z:Int) => .tuple []) (λz=>[⟨[.str u,w44 x,.i z,.i h],4,false⟩,L,O,A,B,C]) (atN 2 (ctl1 i36p17)) 45 [0] [] [] [0,2] [0,1] [.ptr 0 4 0,.str [44]] (qB2 k ([44]:LN) u x m.2 h) trivial (λ_=>trivial) ⟨u29 _,trivial⟩ λz b6=>?_
   refine oR 4 (atN 1 (ctl1 i36p18)) ((46,.ptr 0 4 0)::(45,.tuple [])::(44,.ptr 0 4 0)::T) ?_
   refine oN (λ(q:Ri11)=>w9 q.1) (λq=>[⟨[.str u,w44 x,.i q.2,.i h],4,false⟩,L,O,A,B,C]) (atN 2 (ctl1 i36p18)) 47 [0] [] [] [.ptr 0 4 0] (qAr k u x z h) trivial (λ_=>trivial) λq b7=>?_
   refine oL 6 i36p6 [(0,.ptr 0 4 0),(2,.str K),(3,.func 102 [.ptr 0 4 0] []),(5,.ptr 2 7 0),(8,.ptr 3 7 0),(9,w9 q.1)] ?_
   refine qA8 [⟨[.str u,w44 x,.i q.2,.i h],4,false⟩,L,O,A] [B,C] Kr rfl Kr ⟨Kr,⟨(qA _ (u29 _)),⟨Kr,⟨Kr,trivial⟩⟩⟩⟩ ?_
   exact ih q.1 q.2 j
def i36B (k:Nat) (F:Fns0) (l:Int) (m:LN) (z:Bool) (n:Bool) (o:LL) (x:LL) (q:LN) (h:LN) (j:List S43) (r:Int) (c:Int) (u:List S28):Option (Option Ri36) :=
 (i47 k h j r c).bind λg=>(i11 k h j r c).bind λa=>bT (i13 k q h j a.2 c) λb=>if b.1 then (some (some (l,m,g,n,o,a.1,b.2,u))) else (qHl k F l m n o x q h j c g k a.1 b.2 u)
theorem qJu (k:Nat) (F:Fns0) (S:FnsOk0 F):∀ l m A n o z q u x B c j r,i36B k F l m A n o z q u x B c j=some r→CallT Tryz.prog 101 [.ptr 0 4 0,.agg [.i l,.str m,.own 1 (j).length 7,.bool A,.bool n,w9 o,w9 z],.str q,.func 102 [.ptr 0 4 0] []] (mkH [⟨[.str u,w44 x,.i B,.i c],4,false⟩,⟨(j).flatMap e29,0,false⟩]) ((Xi36 l m A n o z q u x B c j).thr r) ((Xi36 l m A n o z q u x B c j).enc r) ((Xi36 l m A n o z q u x B c j).fin r):=by
 intro l m A n o z q u x B c j r h
 refine qA0 (Xi36 l m A n o z q u x B c j) Tryz.func101 Kr Kr rfl (t:=i36B k F l m A n o z q u x B c j) ?_ h
 unfold i36B
 refine qA1 (eE:=[(0,.ptr 0 4 0),(1,.agg [.i l,.str m,.own 1 (j).length 7,.bool A,.bool n,w9 o,w9 z]),(2,.str q),(3,.func 102 [.ptr 0 4 0] [])]) Kr ?_
 let G:Env:=[(11,.ptr 0 4 0),(8,.ptr 3 7 0),(5,.ptr 2 7 0),(0,.ptr 0 4 0),(1,.agg [.i l,.str m,.own 1 (j).length 7,.bool A,.bool n,w9 o,w9 z]),(2,.str q),(3,.func 102 [.ptr 0 4 0] [])]
 let I:Blk:=⟨[.str u,w44 x,.i B,.i c],4,false⟩
 let C:Blk:=⟨(j).flatMap e29,0,false⟩
 let Q:Blk:=⟨[.i l,.str m,.own 1 (j).length 7,.bool A,.bool n,w9 o,w9 z],0,false⟩
 let D:Blk:=⟨[.i 0,.str [],.nils,.bool false,.bool false,.nils,.nils],0,false⟩
 refine oH 9 (atN 1 (ctl1 i36p1)) G (mkH [I,C,Q,D]) ?_
 refine oN (λ(b:Bool) => .bool b) (λb=>[I,C,Q,D]) (atN 2 (ctl1 i36p1)) 12 [0] [] [] [.ptr 0 4 0] (qG8 k u x B c) trivial (λ_=>trivial) λb J=>?_
 let K:Blk:=⟨[.i l,.str m,.own 1 (j).length 7,.bool b,.bool n,w9 o,w9 z],7,false⟩
 refine oH 6 (atN 1 (ctl1 i36p2)) ((14,.ptr 0 4 0)::(13,.ptr 2 7 3)::(12,.bool b)::G) (mkH [I,C,K,D]) ?_
 refine oN (λ(a:Ri11)=>w9 a.1) (λa=>[⟨[.str u,w44 x,.i a.2,.i c],4,false⟩,C,K,D]) (atN 2 (ctl1 i36p2)) 15 [0] [] [] [.ptr 0 4 0] (qAr k u x B c) trivial (λ_=>trivial) λa L=>?_
 let M:Env:=((17,.str q)::(16,.ptr 0 4 0)::(9,w9 a.1)::(15,w9 a.1)::(14,.ptr 0 4 0)::(13,.ptr 2 7 3)::(12,.bool b)::G)
 refine oR 7 (atN 2 (ctl1 i36p3)) M ?_
 refine oX (λ(g:(Bool×Int)) => .bool g.1) (λg=>[⟨[.str u,w44 x,.i g.2,.i c],4,false⟩,C,K,D]) (atN 3 (ctl1 i36p3)) 18 [0] [] [] [2] [0,1] [.ptr 0 4 0,.str q] (qAe k q u x a.2 c) trivial (λ_=>trivial) ⟨u29 _,trivial⟩ λg N=>?_
 refine oR 1 i36p4 ((18,.bool g.1)::M) ?_
 refine oK [0,2,3,5,8,9,18] [(0,.ptr 0 4 0),(2,.str q),(3,.func 102 [.ptr 0 4 0] []),(5,.ptr 2 7 0),(8,.ptr 3 7 0),(9,w9 a.1),(18,.bool g.1)] ?_
 refine oS 18 (λT=>?_) (λT=>?_)
 ·let O:Blk:=⟨[.str u,w44 x,.i g.2,.i c],4,false⟩
  let E:Blk:=⟨[.i l,.str m,.own 1 (j).length 7,.bool b,.bool n,w9 o,w9 a.1],7,false⟩
  refine oLH 8 (nav [0,0,0] (nav [1,0] i36p4)) [(5,.ptr 2 7 0),(8,.ptr 3 7 0)] (mkH [O,C,E,D]) ?_
  refine oH 5 .fin ((21,.agg [.i l,.str m,.own 1 (j).length 7,.bool b,.bool n,w9 o,w9 a.1])::[(5,.ptr 2 7 0),(8,.ptr 3 7 0)]) (mkH [O,C,E,E]) ?_
  exact qAx (r:=some (l,m,b,n,o,a.1,g.2,j)) (xs:=[.agg [.i l,.str m,.own 1 (j).length 7,.bool b,.bool n,w9 o,w9 a.1]]) [O,C] [E,E] Kr Kr Kr Kr Kr ⟨Kr,⟨(qA _ (u29 _)),trivial⟩⟩ Kr Kr
 ·refine oR 5 i36p6 ((18,.bool false)::(keepOnly ((18,.bool g.1)::M) [0,2,3,5,8,9,18])) ?_
  refine oK [0,2,3,5,8,9] [(0,.ptr 0 4 0),(2,.str q),(3,.func 102 [.ptr 0 4 0] []),(5,.ptr 2 7 0),(8,.ptr 3 7 0),(9,w9 a.1)] ?_
  exact (qKw k F S l m A n o z q u x B c j b k) a.1 g.2 j
theorem i36B_ok (k:Nat) (F:Fns0) (b:FnsOk0 F):Pi36 (i36B k F):=λc g j l m n o q r u a z=>⟨λx h=>qJu k F b c g j l m n o q r u a z (some x) h,λh=>⟨_,qJu k F b c g j l m n o q r u a z none h⟩⟩
def i37p1:Pt:=nav [0,0,0,0] (nav [0] (bodyAt Tryz.f103))
def i37p2:Pt:=nav [0,0,0] i37p1
def i37p3:Pt:=nav [0,0,0,0] i37p2
def i37p4:Pt:=nav [0,0] i37p3
def i37p6:Pt:=nav [2,0,0] i37p4
def i37p8:Pt:=nav [0,0,0,0] i37p6
def i37p10:Pt:=nav [0,0] i37p8
def i37p11:Pt:=nav [1,0] i37p10
def i37p12:Pt:=nav [2,0,0,0,0] i37p10
def i37p13:Pt:=nav [0,0,0] i37p12
def i37p14:Pt:=nav [0,0,0,0] i37p13
def i37p15:Pt:=nav [0,0] i37p14
def i37p16:Pt:=nav [1,0] i37p15
def i37p17:Pt:=nav [2,0,0,0] i37p15
def i37p18:Pt:=nav [0,0] i37p16
def i37p19:Pt:=nav [0,0,0] i37p17
def i37p20:Pt:=nav [0,0,0] i37p18
def i37p21:Pt:=nav [0,0] i37p19
def i37p24:Pt:=nav [2,0,0] i37p21
def i37p26:Pt:=nav [0,0,0] i37p24
def i37p27:Pt:=nav [0,0,0] i37p26
def i37p28:Pt:=nav [0,0,0] i37p27
def i37d0:DP:=⟨[46],[(0,0,0),(1,0,1),(0,0,0),(4,0,0),(12,0,0),(31,0,0),(3,0,0),(127,0,0),(255,0,0),(511,0,0)],10,thrown,[],H0⟩
def qFe (k:Nat) (F:Fns0)  (m:LN) (n:List S43) (G:Int) (o:Int) (q:Bool) (ih:LL→Int→(List S28)→S28→Option (Option (S28×Int))):LL→Int→(List S28)→S28→Option (Option (S28×Int)) :=
 λ(z:LL) (A:Int) (B:List S28) (a:S28)=>(appS 104 B ([(⟨a.f0,a.f1,a.f2,a.f3,a.f4,z,a.f6⟩:S28)]:List S28)).bind λg=>bT (i13 k ([124]:LN) m n A o) λh=>if h.1 then (bT (F.i9 (3:Int) m n h.2 o) λr=>(appS 104 g ([r.1]:List S28)).bind λu=>(i11 k m n r.2 o).bind λx=>bT (i41 k ([93]:LN) m n x.2 o) λC=>some (some ((⟨(5:Int),([124]:LN),⟨(u).length,(u).flatMap e29⟩,q,false,([]:LL),x.1⟩:S28),C))) else ((i11 k m n h.2 o).bind λb=>bT (i13 k ([93]:LN) m n b.2 o) λc=>if c.1 then (some (some ((⟨(5:Int),([]:LN),⟨(g).length,(g).flatMap e29⟩,q,false,([]:LL),b.1⟩:S28),c.2))) else (bT (i25 k (decide ((b.1.length:Int)=0))) λE=>bT (i41 k ([44]:LN) m n c.2 o) λD=>(i11 k m n D o).bind λj=>bT (F.i9 (3:Int) m n j.2 o) λl=>ih j.1 l.2 g l.1))
def qHk (k:Nat) (F:Fns0)  (b:LN) (c:List S43) (g:Int) (h:Int) (a:Bool) (n:Nat):LL→Int→(List S28)→S28→Option (Option (S28×Int)):=lp (λ_ _ _ _=>none) (qFe k F b c g h a) n
theorem qKv (k:Nat) (F:Fns0) (hF:FnsOk0 F) (E:LN) (G:List S43) (a2:Int) (I:Int)  (g:Bool)  : ∀ (n:Nat) (j:LL) (J:Int) (o:List S28) (a:S28),Ok (Xi37 E G a2 I) i37p12 [(0,.ptr 0 4 0),(2,.ptr 1 7 0),(3,.ptr 2 7 0),(4,w9 j),(5,.ptr 4 7 0)] (mkH [⟨[.str E,w44 G,.i J,.i I],4,false⟩,⟨[.i 0,.str [],.nils,.bool false,.bool false,.nils,.nils],0,false⟩,⟨[.i 5,.str [],.own 3 (o).length 7,.bool g,.bool false,.nils,.nils],7,false⟩,⟨(o).flatMap e29,0,false⟩,⟨[.i a.f0,.str a.f1,q29 a.f2,.bool a.f3,.bool a.f4,w9 a.f5,w9 a.f6],7,false⟩]) (qHk k F E G a2 I g n j J o a):=by
 intro n
 induction n with
 | zero=>intro j J o a; exact ok_none
 | succ n ih =>
  intro j J o a
  show Ok _ _ _ _ (qFe k F E G a2 I g (qHk k F E G a2 I g n) j J o a)
  unfold qFe
  let Q1:Blk:=⟨[.str E,w44 G,.i J,.i I],4,false⟩
  let q:Blk:=⟨[.i 0,.str [],.nils,.bool false,.bool false,.nils,.nils],0,false⟩
  let Q3:Blk:=⟨[.i 5,.str [],.own 3 (o).length 7,.bool g,.bool false,.nils,.nils],7,false⟩
  let Q4:Blk:=⟨(o).flatMap e29,0,false⟩
  let r:Blk:=⟨[.i a.f0,.str a.f1,q29 a.f2,.bool a.f3,.bool a.f4,w9 j,w9 a.f6],7,false⟩
  let l:Blk:=⟨[.i a.f0,.str a.f1,q29 a.f2,.bool a.f3,.bool a.f4,w9 j,w9 a.f6],0,false⟩
  refine oH 11 (atN 4 (ctl1 i37p13)) [(37,.slice 5 7 0 1 7),(36,.agg [.i a.f0,.str a.f1,q29 a.f2,.bool a.f3,.bool a.f4,w9 j,w9 a.f6]),(35,.own 3 (o).length 7),(34,.ptr 2 7 2),(33,.ptr 4 7 5),(32,w9 j),(0,.ptr 0 4 0),(2,.ptr 1 7 0),(3,.ptr 2 7 0),(4,w9 j),(5,.ptr 4 7 0)] (mkH [Q1,q,Q3,Q4,r,l]) ?_
  refine oC (λ(u:List S28)=>(.own 3 (u).length 7,(mkH [Q1,q,Q3,⟨(u).flatMap e29,0,false⟩,r,l]))) (atN 5 (ctl1 i37p13)) 38 (appH (sz:=7) qA2 rfl qAh [Q1,q,Q3,Q4,r,l] 3 104 o ([(⟨a.f0,a.f1,a.f2,a.f3,a.f4,j,a.f6⟩:S28)]:List S28) rfl rfl Kr) λu c7=>?_
  let K:Blk:=⟨[.i 5,.str [],.own 3 (u).length 7,.bool g,.bool false,.nils,.nils],7,false⟩
  let N:Blk:=⟨(u).flatMap e29,0,false⟩
  refine oLH 5 i37p14 [(0,.ptr 0 4 0),(2,.ptr 1 7 0),(3,.ptr 2 7 0),(5,.ptr 4 7 0)] (mkH [Q1,q,K,N,r,l]) ?_
  let E8:Env:=[(0,.ptr 0 4 0),(2,.ptr 1 7 0),(3,.ptr 2 7 0),(5,.ptr 4 7 0)]
  refine oR 2 (atN 1 (ctl1 i37p14)) ((40,.ptr 0 4 0)::E8) ?_
  refine oX (λ(m:(Bool×Int)) => .bool m.1) (λm=>[⟨[.str E,w44 G,.i m.2,.i I],4,false⟩,q,K,N,r,l]) (atN 2 (ctl1 i37p14)) 41 [0] [] [] [2] [0,0,0,1] [.ptr 0 4 0,.str [124]] (qAe k ([124]:LN) E G J I) trivial (λ_=>trivial) ⟨u29 _,trivial⟩ λm c8=>?_
  refine oR 1 i37p15 ((41,.bool m.1)::(40,.ptr 0 4 0)::E8) ?_
  refine oS 41 (λhb=>?_) (λhb=>?_)
  ·refine oR 2 i37p16 ((41,.bool true)::(41,.bool m.1)::(40,.ptr 0 4 0)::E8) ?_
   refine qC9 (λh=>?_) (λC a4=>?_)
   ·let U:Env:=[(44,.ptr 0 4 0),(43,.own 3 (u).length 7),(42,.ptr 2 7 2),(41,.bool true),(41,.bool m.1),(40,.ptr 0 4 0),(0,.ptr 0 4 0),(2,.ptr 1 7 0),(3,.ptr 2 7 0),(5,.ptr 4 7 0)]
    let a5:Env:=((49,.top)::(48,.ptr 2 7 1)::(47,.top)::(46,.top)::(45,.top)::U)
    let V:Blk:=⟨[.str E,w44 G,.i m.2,.i I],4,false⟩
    exact qAu (eE:=a5) (i37d0.th 3 thrown [0,2] (mkH [V,q,K,N,r,l])) (hs:=[(mkH [V,q,K,N,r,l]),(mkH [V,q,K,N,r,l]),(mkH [V,q,K,N,r,l]),(mkH [V,q,K,N,r,l])]) (LX:=[⟨[.str E,w44 G,.i a2,.i I],4,false⟩]) (L:=[V,q,K,N,r,l]) rfl rfl rfl Kr rfl ⟨.inl rfl,trivial⟩ Kr Kr Kr Kr (qAc 3 (l':=(opsAt i37p16).toList.drop 3) (eE:=U) (H':=(mkH [V,q,K,N,r,l])) (hs:=[]) Kr (qAt (l':=(opsAt i37p16).toList.drop 4) (eE:=((45,.top)::U)) (hs:=[(mkH [V,q,K,N,r,l])]) (fi:=21) (args:=[.ptr 0 4 0,.i 3]) Kr Kr (frS 0 (M:=[V,q,K,N,r,l]) (rs:=[0]) (ms:=[]) (mv:=[0,0,0,1]) (mm:=[0,0,0,1]) (D:=[0,2]) (xs':=[.ptr 0 4 0,.i 3]) (.refl) ((hF.i9_ok (3:Int) E G m.2 I).2 h) trivial ⟨u29 _,trivial⟩ Kr) Kr (qA4 (l':=(opsAt i37p16).toList.drop 5) (eE:=((46,.top)::(45,.top)::U)) (hs:=[]) Kr Kr (qA4 (l':=(opsAt i37p16).toList.drop 6) (eE:=((47,.top)::(46,.top)::(45,.top)::U)) (hs:=[(mkH [V,q,K,N,r,l])]) Kr Kr (qAc 1 (l':=(opsAt i37p16).toList.drop 7) (eE:=((48,.ptr 2 7 1)::(47,.top)::(46,.top)::(45,.top)::U)) (H':=(mkH [V,q,K,N,r,l])) (hs:=[]) Kr (qA4 (l':=(opsAt i37p16).toList.drop 8) (eE:=((48,.ptr 2 7 1)::(47,.top)::(46,.top)::(45,.top)::U)) (hs:=[(mkH [V,q,K,N,r,l])]) Kr Kr (qA4 (l':=(opsAt i37p16).toList.drop 9) (eE:=a5) (hs:=[]) Kr Kr (qA4 (l':=(opsAt i37p16).toList.drop 10) (eE:=a5) (hs:=[(mkH [V,q,K,N,r,l])]) Kr Kr (.nil))))))))) Kr Kr
   ·refine qA7 (λb a6=>?_)
    let U:Env:=[(44,.ptr 0 4 0),(43,.own 3 (u).length 7),(42,.ptr 2 7 2),(41,.bool true),(41,.bool m.1),(40,.ptr 0 4 0),(0,.ptr 0 4 0),(2,.ptr 1 7 0),(3,.ptr 2 7 0),(5,.ptr 4 7 0)]
    let a7:Env:=((49,.ptr 2 7 2)::(48,.ptr 2 7 1)::(47,.own 3 (b).length 7)::(46,w29 ([C.1]:List S28))::(45,n29 C.1)::U)
    let Q:Blk:=⟨[.str E,w44 G,.i C.2,.i I],4,false⟩
    let b4:Blk:=⟨[.i 5,.str [124],.own 3 (u).length 7,.bool g,.bool false,.nils,.nils],7,false⟩
    refine oD (H':=(mkH [Q,q,⟨[.i 5,.str [124],.own 3 (b).length 7,.bool g,.bool false,.nils,.nils],7,false⟩,⟨(b).flatMap e29,0,false⟩,r,l])) (nav [0] i37p16) a7 [(mkH [Q,q,K,N,r,l]),(mkH [Q,q,K,⟨(b).flatMap e29,0,false⟩,r,l]),(mkH [Q,q,b4,⟨(b).flatMap e29,0,false⟩,r,l]),(mkH [Q,q,⟨[.i 5,.str [124],.own 3 (b).length 7,.bool g,.bool false,.nils,.nils],7,false⟩,⟨(b).flatMap e29,0,false⟩,r,l])] i37d0 (oDr 3 3 U (qA6 (l':=(opsAt i37p16).toList.drop 4) (eE:=((45,n29 C.1)::U)) (hs:=[(mkH [Q,q,K,N,r,l])]) (H':=(mkH [Q,q,K,N,r,l])) (fi:=21) (args:=[.ptr 0 4 0,.i 3]) (v:=n29 C.1) Kr (frC (rs:=[0]) (ms:=[]) (ms':=[]) ((hF.i9_ok (3:Int) E G m.2 I).1 C a4) trivial trivial Kr) Kr (oDr 1 5 ((46,w29 ([C.1]:List S28))::(45,n29 C.1)::U) (qAb (l':=(opsAt i37p16).toList.drop 6) (eE:=((47,.own 3 (b).length 7)::(46,w29 ([C.1]:List S28))::(45,n29 C.1)::U)) (hs:=[(mkH [Q,q,K,⟨(b).flatMap e29,0,false⟩,r,l])]) (x:=b) (λ(b:List S28)=>(.own 3 (b).length 7,(mkH [Q,q,K,⟨(b).flatMap e29,0,false⟩,r,l]))) (appHV (sz:=7) qA2 rfl qAh [Q,q,K,N,r,l] 3 104 u ([C.1]:List S28) rfl rfl Kr) a6 Kr (oDh 4 10 a7 (mkH [Q,q,⟨[.i 5,.str [124],.own 3 (b).length 7,.bool g,.bool false,.nils,.nils],7,false⟩,⟨(b).flatMap e29,0,false⟩,r,l]) [(mkH [Q,q,b4,⟨(b).flatMap e29,0,false⟩,r,l]),(mkH [Q,q,⟨[.i 5,.str [124],.own 3 (b).length 7,.bool g,.bool false,.nils,.nils],7,false⟩,⟨(b).flatMap e29,0,false⟩,r,l])] .nil))))) ?_
    refine oR 3 (atN 1 (ctl1 i37p18)) ((50,.ptr 0 4 0)::a7) ?_
    let Y:Blk:=⟨(b).flatMap e29,0,false⟩
    refine oN (λ(O:Ri11)=>w9 O.1) (λO=>[⟨[.str E,w44 G,.i O.2,.i I],4,false⟩,q,⟨[.i 5,.str [124],.own 3 (b).length 7,.bool g,.bool false,.nils,.nils],7,false⟩,Y,r,l]) (atN 2 (ctl1 i37p18)) 51 [0] [] [] [.ptr 0 4 0] (qAr k E G C.2 I) trivial (λ_=>trivial) λO d0=>?_
    let Z:Blk:=⟨[.i 5,.str [124],.own 3 (b).length 7,.bool g,.bool false,.nils,w9 O.1],7,false⟩
    refine oLH 4 i37p20 [(0,.ptr 0 4 0),(2,.ptr 1 7 0),(3,.ptr 2 7 0)] (mkH [⟨[.str E,w44 G,.i O.2,.i I],4,false⟩,q,Z,Y,r,l]) ?_
    refine oR 2 (atN 1 (ctl1 i37p20)) ((53,.ptr 0 4 0)::[(0,.ptr 0 4 0),(2,.ptr 1 7 0),(3,.ptr 2 7 0)]) ?_
    refine oX (λ(S:Int) => .tuple []) (λS=>[⟨[.str E,w44 G,.i S,.i I],4,false⟩,q,Z,Y,r,l]) (atN 2 (ctl1 i37p20)) 54 [0] [] [] [0,2] [0,0,0,1] [.ptr 0 4 0,.str [93]] (qB2 k ([93]:LN) E G O.2 I) trivial (λ_=>trivial) ⟨u29 _,trivial⟩ λS b8=>?_
    exact oQF 7 [⟨[.str E,w44 G,.i S,.i I],4,false⟩,Z,Z,Y,r,l] 1 [] [.agg [.i 5,.str [124],.own 3 (b).length 7,.bool g,.bool false,.nils,w9 O.1]] (.agg [.i 5,.str [124],w29 b,.bool g,.bool false,.vec 0 1 [],w9 O.1]) (.agg (.cs (.cs (qAl qA2 qAf rfl rfl rfl (.cs (.cs (.nil .ps)))))) .ps) trivial
  ·refine oR 6 (atN 1 (ctl1 i37p17)) ((56,.ptr 0 4 0)::(41,.bool false)::(41,.bool m.1)::(40,.ptr 0 4 0)::E8) ?_
   refine oN (λ(c:Ri11)=>w9 c.1) (λc=>[⟨[.str E,w44 G,.i c.2,.i I],4,false⟩,q,K,N,r,l]) (atN 2 (ctl1 i37p17)) 57 [0] [] [] [.ptr 0 4 0] (qAr k E G m.2 I) trivial (λ_=>trivial) λc b9=>?_
   let a8:Env:=((58,.ptr 0 4 0)::(4,w9 c.1)::(57,w9 c.1)::(56,.ptr 0 4 0)::(41,.bool false)::(41,.bool m.1)::(40,.ptr 0 4 0)::E8)
   refine oR 5 (atN 1 (ctl1 i37p19)) a8 ?_
   refine oX (λ(z:(Bool×Int)) => .bool z.1) (λz=>[⟨[.str E,w44 G,.i z.2,.i I],4,false⟩,q,K,N,r,l]) (atN 2 (ctl1 i37p19)) 59 [0] [] [] [2] [0,0,0,1] [.ptr 0 4 0,.str [93]] (qAe k ([93]:LN) E G c.2 I) trivial (λ_=>trivial) ⟨u29 _,trivial⟩ λz c0=>?_
   refine oR 1 i37p21 ((59,.bool z.1)::a8) ?_
   refine oS 59 (λhb=>?_) (λhb=>?_)
   ·let b5:Blk:=⟨[.str E,w44 G,.i z.2,.i I],4,false⟩
    let a9:Blk:=⟨[.i 5,.str [],.own 3 (u).length 7,.bool g,.bool false,.nils,w9 c.1],7,false⟩
    refine oLH 8 (nav [0,0,0] (nav [1,0] i37p21)) [(2,.ptr 1 7 0),(3,.ptr 2 7 0)] (mkH [b5,q,a9,N,r,l]) ?_
    exact oQF 5 [b5,a9,a9,N,r,l] 1 [] [.agg [.i 5,.str [],.own 3 (u).length 7,.bool g,.bool false,.nils,w9 c.1]] (.agg [.i 5,.str [],w29 u,.bool g,.bool false,.vec 0 1 [],w9 c.1]) (.agg (.cs (.cs (qAl qA2 qAf rfl rfl rfl (.cs (.cs (.nil .ps)))))) .ps) trivial
   ·let b0:Env:=((65,.bool (decide ((c.1.length:Int)=0)))::(64,.i (c.1.length:Int))::(63,w9 c.1)::(59,.bool false)::(59,.bool z.1)::a8)
    refine oR 7 (atN 3 (ctl1 i37p24)) b0 ?_
    refine oX (λ(W:Unit) => .tuple []) (λW=>[⟨[.str E,w44 G,.i z.2,.i I],4,false⟩,q,K,N,r,l]) (atN 4 (ctl1 i37p24)) 66 [] [] [] [2] [0,0,0,1] [.bool (decide ((c.1.length:Int)=0))] (qCp k (decide ((c.1.length:Int)=0))) trivial (λ_=>trivial) ⟨u29 _,trivial⟩ λW c1=>?_
    refine oR 2 i37p26 ((66,.tuple [])::b0) ?_
    refine oK0 [0,2,3,5] ?_
    let b1:Env:=keepOnly ((66,.tuple [])::b0) [0,2,3,5]
    refine oR 2 (atN 1 (ctl1 i37p26)) ((67,.ptr 0 4 0)::b1) ?_
    refine oX (λ(T:Int) => .tuple []) (λT=>[⟨[.str E,w44 G,.i T,.i I],4,false⟩,q,K,N,r,l]) (atN 2 (ctl1 i37p26)) 68 [0] [] [] [0,2] [0,0,0,1] [.ptr 0 4 0,.str [44]] (qB2 k ([44]:LN) E G z.2 I) trivial (λ_=>trivial) ⟨u29 _,trivial⟩ λT c2=>?_
    refine oR 4 (atN 1 (ctl1 i37p27)) ((69,.ptr 0 4 0)::(68,.tuple [])::(67,.ptr 0 4 0)::b1) ?_
    refine oN (λ(A:Ri11)=>w9 A.1) (λA=>[⟨[.str E,w44 G,.i A.2,.i I],4,false⟩,q,K,N,r,l]) (atN 2 (ctl1 i37p27)) 70 [0] [] [] [.ptr 0 4 0] (qAr k E G T I) trivial (λ_=>trivial) λA c3=>?_
    refine oR 5 (atN 1 (ctl1 i37p28)) ((71,.ptr 0 4 0)::(4,w9 A.1)::(70,w9 A.1)::(69,.ptr 0 4 0)::(68,.tuple [])::(67,.ptr 0 4 0)::b1) ?_
    refine oX (λ(B:(S28×Int))=>n29 B.1) (λB=>[⟨[.str E,w44 G,.i B.2,.i I],4,false⟩,q,K,N,r,l]) (atN 2 (ctl1 i37p28)) 72 [0] [] [] [0,2] [0,0,0,1] [.ptr 0 4 0,.i 3] (hF.i9_ok (3:Int) E G A.2 I) trivial (λ_=>trivial) ⟨u29 _,trivial⟩ λB c4=>?_
    let b6:Blk:=⟨[.str E,w44 G,.i B.2,.i I],4,false⟩
    refine oLH 6 i37p12 [(0,.ptr 0 4 0),(2,.ptr 1 7 0),(3,.ptr 2 7 0),(4,w9 A.1),(5,.ptr 4 7 0)] (mkH [b6,q,K,N,⟨e29 B.1,7,false⟩,l]) ?_
    refine qA8 [b6,q,K,N,⟨e29 B.1,7,false⟩] [l] Kr rfl Kr ⟨Kr,⟨Kr,⟨Kr,⟨(qA _ (u29 _)),⟨Kr,trivial⟩⟩⟩⟩⟩ ?_
    exact ih A.1 B.2 u B.1
def i37B (k:Nat) (F:Fns0) (l:LN) (m:List S43) (r:Int) (n:Int):Option (Option (S28×Int)) :=
 (i47 k l m r n).bind λg=>(i11 k l m r n).bind λb=>bT (i13 k ([93]:LN) l m b.2 n) λh=>if h.1 then (some (some ((⟨(5:Int),([]:LN),⟨(([]:List S28)).length,(([]:List S28)).flatMap e29⟩,g,false,([]:LL),b.1⟩:S28),h.2))) else (bT (F.i9 (3:Int) l m h.2 n) λc=>jn (λ(o:Bool×Int)=>if o.1 then (bT (F.i55 (15:Int) ([]:LN) g false ([]:LL) ([]:LL) l m o.2 n ([c.1]:List S28)) λa=>some (some ((⟨a.1,a.2.1,⟨(a.2.2.2.2.2.2.2).length,(a.2.2.2.2.2.2.2).flatMap e29⟩,a.2.2.1,a.2.2.2.1,a.2.2.2.2.1,a.2.2.2.2.2.1⟩:S28),a.2.2.2.2.2.2.1))) else (qHk k F l m r n g k b.1 o.2 ([]:List S28) c.1)) (λq=>if (decide ((b.1.length:Int)=0)) then (bT (i13 k ([124,124]:LN) l m c.2 n) λj=>q (j.1,j.2)) else (q (false,c.2))))
theorem qJt (k:Nat) (F:Fns0) (K:FnsOk0 F):∀ l m A n r,i37B k F l m A n=some r→CallT Tryz.prog 103 [.ptr 0 4 0] (mkH [⟨[.str l,w44 m,.i A,.i n],4,false⟩]) ((Xi37 l m A n).thr r) ((Xi37 l m A n).enc r) ((Xi37 l m A n).fin r):=by
 intro l m A n r h
 refine qA0 (Xi37 l m A n) Tryz.func103 Kr Kr rfl (t:=i37B k F l m A n) ?_ h
 unfold i37B
 refine qA1 (eE:=[(0,.ptr 0 4 0)]) Kr ?_
 let C:Blk:=⟨[.str l,w44 m,.i A,.i n],4,false⟩
 let q:Blk:=⟨[.i 0,.str [],.nils,.bool false,.bool false,.nils,.nils],0,false⟩
 refine oH 8 (atN 1 (ctl1 i37p1)) [(6,.ptr 0 4 0),(2,.ptr 1 7 0),(0,.ptr 0 4 0)] (mkH [C,q]) ?_
 refine oN (λ(g:Bool) => .bool g) (λg=>[C,q]) (atN 2 (ctl1 i37p1)) 7 [0] [] [] [.ptr 0 4 0] (qG8 k l m A n) trivial (λ_=>trivial) λg L=>?_
 let I:Env:=[(3,.ptr 2 7 0),(8,.agg [.i 5,.str [],.nils,.bool g,.bool false,.nils,.nils]),(7,.bool g),(6,.ptr 0 4 0),(2,.ptr 1 7 0),(0,.ptr 0 4 0)]
 let J:Blk:=⟨[.i 5,.str [],.nils,.bool g,.bool false,.nils,.nils],7,false⟩
 refine oH 5 i37p2 I (mkH [C,q,J]) ?_
 refine qBu [C,q,J] Kr ?_
 let u:Blk:=⟨(([]:List S28)).flatMap e29,0,false⟩
 refine oHp (mkH [C,q,J,u]) ?_
 refine qAw [C,q,J,u] 2 7 [.i 5,.str [],.nils,.bool g,.bool false,.nils,.nils] [.i 5,.str [],.own 3 (([]:List S28)).length 7,.bool g,.bool false,.nils,.nils] Kr rfl (.cons (.cons (.none (.refl)))) ?_
 let z:Blk:=⟨[.i 5,.str [],.own 3 (([]:List S28)).length 7,.bool g,.bool false,.nils,.nils],7,false⟩
 refine oH 2 (atN 1 (ctl1 i37p2)) ((9,.ptr 0 4 0)::I) (mkH [C,q,z,u]) ?_
 refine oN (λ(b:Ri11)=>w9 b.1) (λb=>[⟨[.str l,w44 m,.i b.2,.i n],4,false⟩,q,z,u]) (atN 2 (ctl1 i37p2)) 10 [0] [] [] [.ptr 0 4 0] (qAr k l m A n) trivial (λ_=>trivial) λb M=>?_
 refine oR 6 (atN 1 (ctl1 i37p3)) ((11,.ptr 0 4 0)::(4,w9 b.1)::(10,w9 b.1)::(9,.ptr 0 4 0)::I) ?_
 refine oX (λ(o:(Bool×Int)) => .bool o.1) (λo=>[⟨[.str l,w44 m,.i o.2,.i n],4,false⟩,q,z,u]) (atN 2 (ctl1 i37p3)) 12 [0] [] [] [2] [0,0,0,1] [.ptr 0 4 0,.str [93]] (qAe k ([93]:LN) l m b.2 n) trivial (λ_=>trivial) ⟨u29 _,trivial⟩ λo N=>?_
 let W:Env:=((12,.bool o.1)::(11,.ptr 0 4 0)::(4,w9 b.1)::(10,w9 b.1)::(9,.ptr 0 4 0)::I)
 refine oR 1 i37p4 W ?_
 refine oS 12 (λD=>?_) (λD=>?_)
 ·let Y:Blk:=⟨[.str l,w44 m,.i o.2,.i n],4,false⟩
  let O:Blk:=⟨[.i 5,.str [],.own 3 (([]:List S28)).length 7,.bool g,.bool false,.nils,w9 b.1],7,false⟩
  refine oLH 8 (nav [0,0,0] (nav [1,0] i37p4)) [(2,.ptr 1 7 0),(3,.ptr 2 7 0)] (mkH [Y,q,O,u]) ?_
  exact oQF 5 [Y,O,O,u] 1 [] [.agg [.i 5,.str [],.own 3 (([]:List S28)).length 7,.bool g,.bool false,.nils,w9 b.1]] (.agg [.i 5,.str [],w29 ([]:List S28),.bool g,.bool false,.vec 0 1 [],w9 b.1]) (.agg (.cs (.cs (qAl qA2 qAf rfl rfl rfl (.cs (.cs (.nil .ps)))))) .ps) trivial
 ·refine oR 5 (atN 1 (ctl1 i37p6)) ((16,.ptr 0 4 0)::(12,.bool false)::W) ?_
  refine oX (λ(c:(S28×Int))=>n29 c.1) (λc=>[⟨[.str l,w44 m,.i c.2,.i n],4,false⟩,q,z,u]) (atN 2 (ctl1 i37p6)) 17 [0] [] [] [0,2] [0,0,0,1] [.ptr 0 4 0,.i 3] (K.i9_ok (3:Int) l m o.2 n) trivial (λ_=>trivial) ⟨u29 _,trivial⟩ λc Q=>?_
  let S:Blk:=⟨[.str l,w44 m,.i c.2,.i n],4,false⟩
  refine oLH 5 i37p8 [(0,.ptr 0 4 0),(2,.ptr 1 7 0),(3,.ptr 2 7 0),(4,w9 b.1),(5,.ptr 4 7 0)] (mkH [S,q,z,u,⟨e29 c.1,7,false⟩]) ?_
  let Z:Env:=[(0,.ptr 0 4 0),(2,.ptr 1 7 0),(3,.ptr 2 7 0),(4,w9 b.1),(5,.ptr 4 7 0)]
  refine oR 5 (atN 4 (ctl1 i37p8)) ((21,.bool (decide ((b.1.length:Int)=0)))::(20,.bool (decide ((b.1.length:Int)=0)))::(19,.i (b.1.length:Int))::(18,w9 b.1)::Z) ?_
  refine oJ i37p10 (λ(x:Bool×Int)=>[(0,.ptr 0 4 0),(2,.ptr 1 7 0),(3,.ptr 2 7 0),(4,w9 b.1),(5,.ptr 4 7 0),(24,.bool x.1)]) (λ(x:Bool×Int)=>(mkH [⟨[.str l,w44 m,.i x.2,.i n],4,false⟩,q,z,u,⟨e29 c.1,7,false⟩])) (λx=>?_) (λa5 B=>?_)
  ·refine oS 24 (λD=>?_) (λD=>?_)
   ·let E5:Env:=[(29,.slice 5 7 0 1 7),(28,n29 c.1),(27,.bool g),(26,.ptr 2 7 3),(25,.ptr 0 4 0),(24,.bool true),(0,.ptr 0 4 0),(2,.ptr 1 7 0),(3,.ptr 2 7 0),(4,w9 b.1),(5,.ptr 4 7 0),(24,.bool x.1)]
    let T:Blk:=⟨[.str l,w44 m,.i x.2,.i n],4,false⟩
    refine oH 8 (atN 5 (ctl1 i37p11)) E5 (mkH [T,q,z,u,⟨e29 c.1,7,false⟩,⟨e29 c.1,0,false⟩]) ?_
    refine qAz 29 5 7 1 7 Kr rfl ?_
    let E:Blk:=⟨(([c.1]:List S28)).flatMap e29,0,false⟩
    refine oH 1 (atN 6 (ctl1 i37p11)) ((30,.agg [.i 15,.str [],.own 5 (([c.1]:List S28)).length 7,.bool g,.bool false,.nils,.nils])::(29,.own 5 (([c.1]:List S28)).length 7)::E5) (mkH [T,q,z,u,⟨e29 c.1,7,false⟩,E]) ?_
    refine oXW 0 [T,q,z,u,⟨e29 c.1,7,false⟩,E] (λ(a:Ri55) => .agg [.i a.1,.str a.2.1,.own 5 (a.2.2.2.2.2.2.2).length 7,.bool a.2.2.1,.bool a.2.2.2.1,w9 a.2.2.2.2.1,w9 a.2.2.2.2.2.1]) (λa=>[⟨[.str l,w44 m,.i a.2.2.2.2.2.2.1,.i n],4,false⟩,q,z,u,⟨e29 c.1,7,false⟩,⟨(a.2.2.2.2.2.2.2).flatMap e29,0,false⟩]) (atN 7 (ctl1 i37p11)) 31 [0,5] [0,1] [0,1] [0,2,5] [0,0,0,1] [0,0,0,1,0,1] [.ptr 0 4 0,.agg [.i 15,.str [],.own 5 (([c.1]:List S28)).length 7,.bool g,.bool false,.nils,.nils]] [.ptr 0 4 0,.agg [.i 15,.str [],.own 5 (([c.1]:List S28)).length 7,.bool g,.bool false,w9 ([]:LL),w9 ([]:LL)]] (.cons (.agg (.cons (.cons (.cons (.cons (.cons (.nil (.nil (.refl)))))))) (.refl))) (K.i55_ok (15:Int) ([]:LN) g false ([]:LL) ([]:LL) l m x.2 n ([c.1]:List S28)) ⟨u29 _,trivial⟩ (λ_=>⟨u29 _,trivial⟩) ⟨u29 _,trivial⟩ λa U=>?_
    exact oQF 3 [⟨[.str l,w44 m,.i a.2.2.2.2.2.2.1,.i n],4,false⟩,⟨[.i a.1,.str a.2.1,.own 5 (a.2.2.2.2.2.2.2).length 7,.bool a.2.2.1,.bool a.2.2.2.1,w9 a.2.2.2.2.1,w9 a.2.2.2.2.2.1],7,false⟩,z,u,⟨e29 c.1,7,false⟩,⟨(a.2.2.2.2.2.2.2).flatMap e29,0,false⟩] 1 [] [.agg [.i a.1,.str a.2.1,.own 5 (a.2.2.2.2.2.2.2).length 7,.bool a.2.2.1,.bool a.2.2.2.1,w9 a.2.2.2.2.1,w9 a.2.2.2.2.2.1]] (.agg [.i a.1,.str a.2.1,w29 a.2.2.2.2.2.2.2,.bool a.2.2.1,.bool a.2.2.2.1,w9 a.2.2.2.2.1,w9 a.2.2.2.2.2.1]) (.agg (.cs (.cs (qAl qA2 qAf rfl rfl rfl .ps))) .ps) trivial
   ·refine oLH 5 i37p12 [(0,.ptr 0 4 0),(2,.ptr 1 7 0),(3,.ptr 2 7 0),(4,w9 b.1),(5,.ptr 4 7 0)] (mkH [⟨[.str l,w44 m,.i x.2,.i n],4,false⟩,q,z,u,⟨e29 c.1,7,false⟩]) ?_
    exact (qKv k F K l m A n g k) b.1 x.2 ([]:List S28) c.1
  ·refine oS 21 (λD=>?_) (λD=>?_)
   ·let G:Env:=((22,.ptr 0 4 0)::(21,.bool true)::(21,.bool (decide ((b.1.length:Int)=0)))::(20,.bool (decide ((b.1.length:Int)=0)))::(19,.i (b.1.length:Int))::(18,w9 b.1)::Z)
    refine oH 1 (atN 5 (ctl1 i37p8)) G (mkH [S,q,z,u,⟨e29 c.1,7,false⟩]) ?_
    refine oX (λ(j:(Bool×Int)) => .bool j.1) (λj=>[⟨[.str l,w44 m,.i j.2,.i n],4,false⟩,q,z,u,⟨e29 c.1,7,false⟩]) (atN 6 (ctl1 i37p8)) 23 [0] [] [] [2] [0,0,0,1] [.ptr 0 4 0,.str [124,124]] (qAe k ([124,124]:LN) l m c.2 n) trivial (λ_=>trivial) ⟨u29 _,trivial⟩ λj V=>?_
    refine oR 2 i37p10 ((24,.bool j.1)::(23,.bool j.1)::G) ?_
    refine oK [0,2,3,4,5,24] [(0,.ptr 0 4 0),(2,.ptr 1 7 0),(3,.ptr 2 7 0),(4,w9 b.1),(5,.ptr 4 7 0),(24,.bool j.1)] ?_
    exact B (j.1,j.2)
   ·refine oLH 4 i37p10 [(0,.ptr 0 4 0),(2,.ptr 1 7 0),(3,.ptr 2 7 0),(4,w9 b.1),(5,.ptr 4 7 0),(24,.bool false)] (mkH [S,q,z,u,⟨e29 c.1,7,false⟩]) ?_
    exact B (false,c.2)
theorem i37B_ok (k:Nat) (F:Fns0) (a:FnsOk0 F):Pi37 (i37B k F):=λb c g j=>⟨λx h=>qJt k F a b c g j (some x) h,λh=>⟨_,qJt k F a b c g j none h⟩⟩
def i38p1:Pt:=nav [0,0,0,0] (nav [0] (bodyAt Tryz.f101))
def i38p2:Pt:=nav [0,0,0] i38p1
def i38p3:Pt:=nav [0,0,0,0] i38p2
def i38p4:Pt:=nav [0,0] i38p3
def i38p6:Pt:=nav [2,0,0,0,0] i38p4
def i38p10:Pt:=nav [0,0,0] (nav [0,0,0] i38p6)
def i38p11:Pt:=nav [0,0,0,0] i38p10
def i38p12:Pt:=nav [0,0,0] i38p11
def i38p13:Pt:=nav [0,0] i38p12
def i38p15:Pt:=nav [2,0,0] i38p13
def i38p17:Pt:=nav [0,0,0] i38p15
def i38p18:Pt:=nav [0,0,0] i38p17
def qFd (k:Nat) (F:Fns0)  (z:Int) (A:LN) (B:Bool) (C:LL) (E:LL) (D:LN) (o:LN) (q:List S43) (b:Int) (r:Bool) (ih:LL→Int→(List S28)→Option (Option Ri38)):LL→Int→(List S28)→Option (Option Ri38) :=
 λ(l:LL) (m:Int) (n:List S28)=>bT (F.i56 o q m b) λa=>(appS 104 n ([(⟨a.1.f0,a.1.f1,a.1.f2,a.1.f3,a.1.f4,l,a.1.f6⟩:S28)]:List S28)).bind λh=>(i11 k o q a.2 b).bind λc=>bT (i13 k D o q c.2 b) λg=>if g.1 then (some (some (z,A,r,B,C,c.1,g.2,h))) else (bT (i25 k (decide ((c.1.length:Int)=0))) λx=>bT (i41 k ([44]:LN) o q g.2 b) λu=>(i11 k o q u b).bind λj=>ih j.1 j.2 h)
def qHj (k:Nat) (F:Fns0)  (c:Int) (g:LN) (h:Bool) (j:LL) (l:LL) (m:LN) (o:LN) (q:List S43) (b:Int) (a:Bool) (n:Nat):LL→Int→(List S28)→Option (Option Ri38):=lp (λ_ _ _=>none) (qFd k F c g h j l m o q b a) n
end
end Go.Proofs.YthpplbkobokghaaGreat.Am
