/- LawShapeClauses, part 3: whatever the input, the law comes out true: our texts, joined by a tool, without what the claim does not name. -/
import Derived.Test.YtjmmjhojbodbdaaPkShapeClauses2
import Derived.MapKept
set_option maxRecDepth 100000
set_option linter.unusedVariables false
set_option linter.unusedSimpArgs false
set_option maxRecDepth 100000
set_option linter.unusedVariables false
namespace Go.Proofs.Ytjmmjhojbodbdaa.Am
noncomputable section
open Go
theorem g32_ok (k:Nat) (g:LN) (c:Int) (r:Int) (h:g32 k g c=some r):PureOk Try.prog 32 [.str g,.i c] (.i r):=by
 refine qA6 Xg32 (λ_=>⟨rfl,rfl⟩) Try.func32 (by decide +kernel) Kr (t:=g32 k g c) ?_ h
 unfold g32
 refine qA (eE:=[(0,.str g),(1,.i c)]) Kr ?_
 let D:Env:=[(11,.i c),(10,.str g),(4,.i 0),(0,.str g),(1,.i c)]
 refine oH 8 (atN 2 (ctl1 g32p1)) D (mkH []) ?_
 refine oA (λ(b:Int) => .i b) (atN 3 (ctl1 g32p1)) 12 [.str g,.i c,.i 10,.bool true] (qG7 k g c (10:Int) true) λb x=>?_
 refine oR 6 (atN 2 (ctl1 g32p2)) ((14,.i c)::(13,.str g)::(5,.i b)::(12,.i b)::D) ?_
 refine oA (λ(a:Int) => .i a) (atN 3 (ctl1 g32p2)) 15 [.str g,.i c,.i 10,.bool false] (qG7 k g c (10:Int) false) λa A=>?_
 let B:Env:=[(0,.str g),(1,.i c),(5,.i b),(6,.i a)]
 refine oL 4 g32p3 B ?_
 refine oR 4 (atN 3 (ctl1 g32p3)) ((18,.bool (decide (0 < a)))::(17,.bool (decide (0 < a)))::(16,.i a)::B) ?_
 refine oJ g32p4 (λ(C:Bool)=>[(0,.str g),(1,.i c),(5,.i b),(6,.i a),(37,.bool C)]) (λ(C:Bool)=>(mkH [])) (λC=>?_) (λG l=>?_)
 ·refine oJ g32p6 (λ(E:Unit)=>[(5,.i b)]) (λ(E:Unit)=>(mkH [])) (λE=>?_) (λF n=>?_)
  ·exact oQ 5
  ·refine oS 37 (λm=>?_) (λm=>?_)
   ·refine oLH 13 g32p9 [(0,.str g),(1,.i c),(5,.i b),(6,.i a),(7,.i 0),(8,.i c)] (mkH []) ?_
    exact (qPs k F g c b a n k) 0 c
   ·refine oLH 3 g32p6 [(5,.i b)] (mkH []) ?_
    exact n ()
 ·refine oS 18 (λm=>?_) (λm=>?_)
  ·let o:Env:=((22,.bool (decide (a < 3)))::(21,.bool (decide (a < 3)))::(20,.bool (decide (a < 3)))::(19,.i a)::(18,.bool true)::(18,.bool (decide (0 < a)))::(17,.bool (decide (0 < a)))::(16,.i a)::B)
   refine oH 4 (atN 7 (ctl1 g32p3)) o (mkH []) ?_
   refine oS 22 (λm=>?_) (λm=>?_)
   ·let q:Env:=((30,.bool (decide (fW .i64 (c+a) < (g.length:Int))))::(29,.bool (decide (fW .i64 (c+a) < (g.length:Int))))::(28,.bool (decide (fW .i64 (c+a) < (g.length:Int))))::(27,.i (g.length:Int))::(26,.str g)::(25,.i (fW .i64 (c+a)))::(24,.i a)::(23,.i c)::(22,.bool true)::o)
    refine oR 8 (atN 15 (ctl1 g32p3)) q ?_
    refine oS 30 (λm=>?_) (λm=>?_)
    ·refine oR 4 (atN 19 (ctl1 g32p3)) ((34,.i (fW .i64 (c+a)))::(33,.i a)::(32,.i c)::(31,.str g)::(30,.bool true)::q) ?_
     refine oC (λ(j:Int)=>(.y j,(mkH []))) (atN 20 (ctl1 g32p3)) 35 (idxH Kr) λj u=>?_
     refine oLH 3 g32p4 [(0,.str g),(1,.i c),(5,.i b),(6,.i a),(37,.bool (decide (j=35)))] (mkH []) ?_
     exact l (decide (j=35))
    ·refine oL 8 g32p4 [(0,.str g),(1,.i c),(5,.i b),(6,.i a),(37,.bool false)] ?_
     exact l false
   ·refine oL 16 g32p4 [(0,.str g),(1,.i c),(5,.i b),(6,.i a),(37,.bool false)] ?_
    exact l false
  ·refine oLH 20 g32p4 [(0,.str g),(1,.i c),(5,.i b),(6,.i a),(37,.bool false)] (mkH []) ?_
   exact l false
def Xg31:Fx Int:=⟨Try.prog,cx,Try.f31,λr => .i r,0,λ_=>H0,cxTi,cxOrd,λ_=>none,false⟩
def g31p1:Pt:=nav [0,0,0] (nav [0] (bodyAt Try.f31))
def g31p2:Pt:=nav [0,0,0,0] g31p1
def g31p3:Pt:=nav [0,0] g31p2
def g31p5:Pt:=nav [2,0,0] g31p3
def g31p8:Pt:=nav [0,0] (nav [0,0,0,0] g31p5)
def g31p11:Pt:=nav [0,0,0,0] (nav [2,0,0] g31p8)
def g31p12:Pt:=nav [0,0] g31p11
def g31p14:Pt:=nav [2,0,0] g31p12
def g31p15:Pt:=nav [0,0,0,0] (nav [1,0] g31p12)
def g31p16:Pt:=nav [0,0] g31p15
def g31p18:Pt:=nav [2,0,0] g31p16
def g31 (k:Nat) (g:LN) (c:Int):Option Int :=
 (g39 k g c (10:Int) true).bind λa=>jn (λ(C:Bool)=>if C then (some (0:Int)) else ((g39 k g (fW .i64 (fW .i64 (c+a)+1)) (10:Int) true).bind λb=>if (decide (b=0)) then (some (0:Int)) else (jn (λ(D:Bool)=>jn (λ(E:Int)=>some (fW .i64 (E - c))) (λu=>if D then (jn (λ(F:Bool)=>jn (λ(n:Int)=>(g39 k g n (10:Int) true).bind λh=>if (decide (0 < h)) then (u (fW .i64 (n+h))) else (u (fW .i64 (fW .i64 (fW .i64 (c+a)+1)+b)))) (λo=>if F then (o (fW .i64 (fW .i64 (fW .i64 (fW .i64 (fW .i64 (c+a)+1)+b)+1)+1))) else (o (fW .i64 (fW .i64 (fW .i64 (fW .i64 (c+a)+1)+b)+1))))) (λx=>if (decide (fW .i64 (fW .i64 (fW .i64 (fW .i64 (c+a)+1)+b)+1) < (g.length:Int))) then ((nthS g (fW .i64 (fW .i64 (fW .i64 (fW .i64 (c+a)+1)+b)+1))).bind λq=>if (decide (q=43)) then (x true) else ((nthS g (fW .i64 (fW .i64 (fW .i64 (fW .i64 (c+a)+1)+b)+1))).bind λj=>x (decide (j=45)))) else (x false))) else (u (fW .i64 (fW .i64 (fW .i64 (c+a)+1)+b))))) (λA=>if (decide (fW .i64 (fW .i64 (fW .i64 (c+a)+1)+b) < (g.length:Int))) then ((nthS g (fW .i64 (fW .i64 (fW .i64 (c+a)+1)+b))).bind λr=>if (decide (r=101)) then (A true) else ((nthS g (fW .i64 (fW .i64 (fW .i64 (c+a)+1)+b))).bind λl=>A (decide (l=69)))) else (A false))))) (λB=>if (decide (fW .i64 (c+a)=c)) then (B true) else (if (decide ((g.length:Int)≤fW .i64 (c+a))) then (B true) else ((nthS g (fW .i64 (c+a))).bind λm=>B (!decide (m=46)))))
theorem g31_ok (k:Nat) (g:LN) (c:Int) (r:Int) (h:g31 k g c=some r):PureOk Try.prog 31 [.str g,.i c] (.i r):=by
 refine qA6 Xg31 (λ_=>⟨rfl,rfl⟩) Try.func31 (by decide +kernel) Kr (t:=g31 k g c) ?_ h
 unfold g31
 refine qA (eE:=[(0,.str g),(1,.i c)]) Kr ?_
 let E1:Env:=[(11,.i c),(10,.str g),(9,.i c),(4,.i 0),(0,.str g),(1,.i c)]
 refine oH 9 (atN 3 (ctl1 g31p1)) E1 (mkH []) ?_
 refine oA (λ(a:Int) => .i a) (atN 4 (ctl1 g31p1)) 12 [.str g,.i c,.i 10,.bool true] (qG7 k g c (10:Int) true) λa U=>?_
 let E2:Env:=((17,.bool (decide (fW .i64 (c+a)=c)))::(16,.bool (decide (fW .i64 (c+a)=c)))::(15,.i c)::(14,.i (fW .i64 (c+a)))::(5,.i (fW .i64 (c+a)))::(13,.i (fW .i64 (c+a)))::(12,.i a)::E1)
 refine oR 10 (atN 4 (ctl1 g31p2)) E2 ?_
 refine oJ g31p3 (λ(M:Bool)=>[(0,.str g),(1,.i c),(5,.i (fW .i64 (c+a))),(28,.bool M)]) (λ(M:Bool)=>(mkH [])) (λM=>?_) (λj6 B=>?_)
 ·refine oS 28 (λl=>?_) (λl=>?_)
  ·exact oQ 6
  ·refine oH 7 (atN 3 (ctl1 g31p5)) [(31,.i (fW .i64 (fW .i64 (c+a)+1))),(30,.i (fW .i64 (c+a))),(29,.str g),(28,.bool false),(0,.str g),(1,.i c),(5,.i (fW .i64 (c+a))),(28,.bool M)] (mkH []) ?_
   refine oA (λ(b:Int) => .i b) (atN 4 (ctl1 g31p5)) 32 [.str g,.i (fW .i64 (fW .i64 (c+a)+1)),.i 10,.bool true] (qG7 k g (fW .i64 (fW .i64 (c+a)+1)) (10:Int) true) λb V=>?_
   refine oL 8 g31p8 [(0,.str g),(1,.i c),(5,.i (fW .i64 (c+a))),(6,.i b),(34,.bool (decide (b=0)))] ?_
   refine oS 34 (λl=>?_) (λl=>?_)
   ·exact oQ 6
   ·let E7:Env:=[(0,.str g),(1,.i c),(5,.i (fW .i64 (fW .i64 (fW .i64 (c+a)+1)+b)))]
    refine oL 12 g31p11 E7 ?_
    let W:Env:=((43,.bool (decide (fW .i64 (fW .i64 (fW .i64 (c+a)+1)+b) < (g.length:Int))))::(42,.bool (decide (fW .i64 (fW .i64 (fW .i64 (c+a)+1)+b) < (g.length:Int))))::(41,.i (g.length:Int))::(40,.str g)::(39,.i (fW .i64 (fW .i64 (fW .i64 (c+a)+1)+b)))::E7)
    refine oR 6 (atN 5 (ctl1 g31p11)) W ?_
    refine oJ g31p12 (λ(N:Bool)=>[(0,.str g),(1,.i c),(5,.i (fW .i64 (fW .i64 (fW .i64 (c+a)+1)+b))),(54,.bool N)]) (λ(N:Bool)=>(mkH [])) (λN=>?_) (λj7 C=>?_)
    ·refine oJ g31p14 (λ(Y:Int)=>[(1,.i c),(5,.i Y)]) (λ(Y:Int)=>(mkH [])) (λY=>?_) (λj9 D=>?_)
     ·exact oQ 7
     ·refine oS 54 (λl=>?_) (λl=>?_)
      ·let E:Env:=[(61,.bool (decide (fW .i64 (fW .i64 (fW .i64 (fW .i64 (c+a)+1)+b)+1) < (g.length:Int)))),(60,.bool (decide (fW .i64 (fW .i64 (fW .i64 (fW .i64 (c+a)+1)+b)+1) < (g.length:Int)))),(59,.i (g.length:Int)),(58,.str g),(57,.i (fW .i64 (fW .i64 (fW .i64 (fW .i64 (c+a)+1)+b)+1))),(7,.i (fW .i64 (fW .i64 (fW .i64 (fW .i64 (c+a)+1)+b)+1))),(56,.i (fW .i64 (fW .i64 (fW .i64 (fW .i64 (c+a)+1)+b)+1))),(55,.i (fW .i64 (fW .i64 (fW .i64 (c+a)+1)+b))),(54,.bool true),(0,.str g),(1,.i c),(5,.i (fW .i64 (fW .i64 (fW .i64 (c+a)+1)+b))),(54,.bool N)]
       refine oH 15 (atN 5 (ctl1 g31p15)) E (mkH []) ?_
       refine oJ g31p16 (λ(Z:Bool)=>[(0,.str g),(1,.i c),(5,.i (fW .i64 (fW .i64 (fW .i64 (c+a)+1)+b))),(7,.i (fW .i64 (fW .i64 (fW .i64 (fW .i64 (c+a)+1)+b)+1))),(72,.bool Z)]) (λ(Z:Bool)=>(mkH [])) (λZ=>?_) (λj8 F=>?_)
       ·refine oJ g31p18 (λ(m:Int)=>[(0,.str g),(1,.i c),(5,.i (fW .i64 (fW .i64 (fW .i64 (c+a)+1)+b))),(7,.i m)]) (λ(m:Int)=>(mkH [])) (λm=>?_) (λa8 A=>?_)
        ·let J:Env:=[(76,.i m),(75,.str g),(0,.str g),(1,.i c),(5,.i (fW .i64 (fW .i64 (fW .i64 (c+a)+1)+b))),(7,.i m)]
         refine oH 3 (atN 2 (ctl1 g31p18)) J (mkH []) ?_
         refine oA (λ(j:Int) => .i j) (atN 3 (ctl1 g31p18)) 77 [.str g,.i m,.i 10,.bool true] (qG7 k g m (10:Int) true) λj a2=>?_
         refine oR 7 (nav [0,0] (nav [0,0,0] g31p18)) ((79,.bool (decide (0 < j)))::(78,.i j)::(8,.i j)::(77,.i j)::J) ?_
         refine oS 79 (λl=>?_) (λl=>?_)
         ·refine oL 8 g31p14 [(1,.i c),(5,.i (fW .i64 (m+j)))] ?_
          exact D (fW .i64 (m+j))
         ·refine oL 3 g31p14 [(1,.i c),(5,.i (fW .i64 (fW .i64 (fW .i64 (c+a)+1)+b)))] ?_
          exact D (fW .i64 (fW .i64 (fW .i64 (c+a)+1)+b))
        ·refine oS 72 (λl=>?_) (λl=>?_)
         ·refine oLH 7 g31p18 [(0,.str g),(1,.i c),(5,.i (fW .i64 (fW .i64 (fW .i64 (c+a)+1)+b))),(7,.i (fW .i64 (fW .i64 (fW .i64 (fW .i64 (fW .i64 (c+a)+1)+b)+1)+1)))] (mkH []) ?_
          exact A (fW .i64 (fW .i64 (fW .i64 (fW .i64 (fW .i64 (c+a)+1)+b)+1)+1))
         ·refine oLH 3 g31p18 [(0,.str g),(1,.i c),(5,.i (fW .i64 (fW .i64 (fW .i64 (c+a)+1)+b))),(7,.i (fW .i64 (fW .i64 (fW .i64 (fW .i64 (c+a)+1)+b)+1)))] (mkH []) ?_
          exact A (fW .i64 (fW .i64 (fW .i64 (fW .i64 (c+a)+1)+b)+1))
       ·refine oS 61 (λl=>?_) (λl=>?_)
        ·refine oH 2 (atN 7 (ctl1 g31p15)) ((63,.i (fW .i64 (fW .i64 (fW .i64 (fW .i64 (c+a)+1)+b)+1)))::(62,.str g)::(61,.bool true)::E) (mkH []) ?_
         refine oC (λ(u:Int)=>(.y u,(mkH []))) (atN 8 (ctl1 g31p15)) 64 (idxH Kr) λu a3=>?_
         let G:Env:=((66,.bool (decide (u=43)))::(65,.bool (decide (u=43)))::(64,.y u)::(63,.i (fW .i64 (fW .i64 (fW .i64 (fW .i64 (c+a)+1)+b)+1)))::(62,.str g)::(61,.bool true)::E)
         refine oH 2 (atN 10 (ctl1 g31p15)) G (mkH []) ?_
         refine oS 66 (λl=>?_) (λl=>?_)
         ·refine oR 7 g31p16 ((72,.bool true)::(71,.bool true)::(70,.tuple [])::(69,.tuple [])::(68,.tuple [])::(67,.tuple [])::(66,.bool true)::G) ?_
          refine oK [0,1,5,7,72] [(0,.str g),(1,.i c),(5,.i (fW .i64 (fW .i64 (fW .i64 (c+a)+1)+b))),(7,.i (fW .i64 (fW .i64 (fW .i64 (fW .i64 (c+a)+1)+b)+1))),(72,.bool true)] ?_
          exact F true
         ·refine oR 2 (atN 12 (ctl1 g31p15)) ((68,.i (fW .i64 (fW .i64 (fW .i64 (fW .i64 (c+a)+1)+b)+1)))::(67,.str g)::(66,.bool false)::G) ?_
          refine oC (λ(n:Int)=>(.y n,(mkH []))) (atN 13 (ctl1 g31p15)) 69 (idxH Kr) λn O=>?_
          refine oLH 4 g31p16 [(0,.str g),(1,.i c),(5,.i (fW .i64 (fW .i64 (fW .i64 (c+a)+1)+b))),(7,.i (fW .i64 (fW .i64 (fW .i64 (fW .i64 (c+a)+1)+b)+1))),(72,.bool (decide (n=45)))] (mkH []) ?_
          exact F (decide (n=45))
        ·refine oLH 12 g31p16 [(0,.str g),(1,.i c),(5,.i (fW .i64 (fW .i64 (fW .i64 (c+a)+1)+b))),(7,.i (fW .i64 (fW .i64 (fW .i64 (fW .i64 (c+a)+1)+b)+1))),(72,.bool false)] (mkH []) ?_
         exact F false
      ·refine oLH 3 g31p14 [(1,.i c),(5,.i (fW .i64 (fW .i64 (fW .i64 (c+a)+1)+b)))] (mkH []) ?_
       exact D (fW .i64 (fW .i64 (fW .i64 (c+a)+1)+b))
    ·refine oS 43 (λl=>?_) (λl=>?_)
     ·refine oH 2 (atN 7 (ctl1 g31p11)) ((45,.i (fW .i64 (fW .i64 (fW .i64 (c+a)+1)+b)))::(44,.str g)::(43,.bool true)::W) (mkH []) ?_
      refine oC (λ(x:Int)=>(.y x,(mkH []))) (atN 8 (ctl1 g31p11)) 46 (idxH Kr) λx a4=>?_
      let K:Env:=((48,.bool (decide (x=101)))::(47,.bool (decide (x=101)))::(46,.y x)::(45,.i (fW .i64 (fW .i64 (fW .i64 (c+a)+1)+b)))::(44,.str g)::(43,.bool true)::W)
      refine oH 2 (atN 10 (ctl1 g31p11)) K (mkH []) ?_
      refine oS 48 (λl=>?_) (λl=>?_)
      ·refine oL 7 g31p12 [(0,.str g),(1,.i c),(5,.i (fW .i64 (fW .i64 (fW .i64 (c+a)+1)+b))),(54,.bool true)] ?_
       exact C true
      ·refine oR 2 (atN 12 (ctl1 g31p11)) ((50,.i (fW .i64 (fW .i64 (fW .i64 (c+a)+1)+b)))::(49,.str g)::(48,.bool false)::K) ?_
       refine oC (λ(o:Int)=>(.y o,(mkH []))) (atN 13 (ctl1 g31p11)) 51 (idxH Kr) λo S=>?_
       refine oLH 4 g31p12 [(0,.str g),(1,.i c),(5,.i (fW .i64 (fW .i64 (fW .i64 (c+a)+1)+b))),(54,.bool (decide (o=69)))] (mkH []) ?_
       exact C (decide (o=69))
     ·refine oLH 12 g31p12 [(0,.str g),(1,.i c),(5,.i (fW .i64 (fW .i64 (fW .i64 (c+a)+1)+b))),(54,.bool false)] (mkH []) ?_
      exact C false
 ·refine oS 17 (λl=>?_) (λl=>?_)
  ·refine oLH 12 g31p3 [(0,.str g),(1,.i c),(5,.i (fW .i64 (c+a))),(28,.bool true)] (mkH []) ?_
   exact B true
  ·let L:Env:=((23,.bool (decide ((g.length:Int)≤fW .i64 (c+a))))::(22,.bool (decide ((g.length:Int)≤fW .i64 (c+a))))::(21,.bool (decide ((g.length:Int)≤fW .i64 (c+a))))::(20,.i (g.length:Int))::(19,.str g)::(18,.i (fW .i64 (c+a)))::(17,.bool false)::E2)
   refine oH 6 (atN 10 (ctl1 g31p2)) L (mkH []) ?_
   refine oS 23 (λl=>?_) (λl=>?_)
   ·refine oL 6 g31p3 [(0,.str g),(1,.i c),(5,.i (fW .i64 (c+a))),(28,.bool true)] ?_
    exact B true
   ·refine oR 2 (atN 12 (ctl1 g31p2)) ((25,.i (fW .i64 (c+a)))::(24,.str g)::(23,.bool false)::L) ?_
    refine oC (λ(q:Int)=>(.y q,(mkH []))) (atN 13 (ctl1 g31p2)) 26 (idxH Kr) λq T=>?_
    refine oLH 3 g31p3 [(0,.str g),(1,.i c),(5,.i (fW .i64 (c+a))),(28,.bool (!decide (q=46)))] (mkH []) ?_
    exact B (!decide (q=46))
end
def frontN : LN → Nat × Nat
 | a::b::r=>if dgN a < 10 then (if b=35 then (if 2≤dgN a then (2,dgN a) else (0,10)) else if dgN b < 10 then (match r with | c::_=>if c=35∧2≤10 * dgN a+dgN b∧10 * dgN a+dgN b≤36 then (3,10 * dgN a+dgN b) else (0,10) | []=>(0,10)) else (0,10)) else (0,10)
 | _=>(0,10)
def wholeN (s:LN):Nat:=if 0 < (frontN s).1∧0 < runN (frontN s).2 false (s.drop (frontN s).1) then (frontN s).1+runN (frontN s).2 false (s.drop (frontN s).1) else runN 10 false s
def sgn (s:LN):Nat:=match s with | c::_=>if c=43∨c=45 then 1 else 0 | []=>0
def expN (s:LN):Nat:=match s with | e::q=>if e=101∨e=69 then (if 0 < runN 10 false (q.drop (sgn q)) then 1+sgn q+runN 10 false (q.drop (sgn q)) else 0) else 0 | []=>0
def fracN (n:Nat) (s:LN):Nat:=match s with | c::r=>if c=46 then (if runN 10 false r=0 then 0 else n+1+runN 10 false r+expN (r.drop (runN 10 false r))) else 0 | []=>0
def partN (s:LN):Nat:=if runN 10 false s=0 then 0 else fracN (runN 10 false s) (s.drop (runN 10 false s))
theorem dg_35:¬ dgN 35 < 10:=by decide
theorem qQc (s:LN):(frontN s).1≤s.length∧(frontN s).2≤36:=by
 unfold frontN
 repeat' split
 all_goals simp only [List.length_cons]
 all_goals omega
theorem sgn_le (q:LN):sgn q≤q.length:=by
 unfold sgn; split
 ·split <;> simp
 ·simp
end Go.Proofs.Ytjmmjhojbodbdaa.Am
set_option maxRecDepth 100000
set_option linter.unusedVariables false
namespace Go.Proofs.Ytjmmjhojbodbdaa.Am
noncomputable section
open Go
def Xg29:Fx Bool:=⟨Try.prog,cx,Try.f29,λr => .bool r,0,λ_=>H0,cxTi,cxOrd,λ_=>none,false⟩
def g29p1:Pt:=nav [0,0,0] (nav [0] (bodyAt Try.f29))
def g29 (k:Nat) (a:Int):Option Bool :=
 if (decide (0≤a)) then (if (decide (a≤1114111)) then (if (decide (a < 55296)) then (some true) else (some (decide (57343 < a)))) else (some false)) else (some false)
theorem g29_ok (k:Nat) (a:Int) (r:Bool) (h:g29 k a=some r):PureOk Try.prog 29 [.i a] (.bool r):=by
 refine qA6 Xg29 (λ_=>⟨rfl,rfl⟩) Try.func29 (by decide +kernel) Kr (t:=g29 k a) ?_ h
 unfold g29
 refine qA (eE:=[(0,.i a)]) Kr ?_
 let c:Env:=[(5,.bool (decide (0≤a))),(4,.bool (decide (0≤a))),(3,.i a),(2,.bool false),(0,.i a)]
 refine oH 9 (atN 3 (ctl1 g29p1)) c (mkH []) ?_
 refine oS 5 (λb=>?_) (λb=>?_)
 ·let g:Env:=((9,.bool (decide (a≤1114111)))::(8,.bool (decide (a≤1114111)))::(7,.bool (decide (a≤1114111)))::(6,.i a)::(5,.bool true)::c)
  refine oR 4 (atN 7 (ctl1 g29p1)) g ?_
  refine oS 9 (λb=>?_) (λb=>?_)
  ·refine oR 3 (atN 10 (ctl1 g29p1)) ((12,.bool (decide (a < 55296)))::(11,.bool (decide (a < 55296)))::(10,.i a)::(9,.bool true)::g) ?_
   refine oS 12 (λb=>?_) (λb=>?_)
   ·exact oQ 7
   ·exact oQ 7
  ·exact oQ 10
 ·exact oQ 14
def Xg15:Fx (Int×Int):=⟨Try.prog,cx,Try.f15,λr => .tuple [.i r.1,.i r.2],0,λ_=>H0,cxTi,cxOrd,λ_=>none,false⟩
def g15p1:Pt:=nav [0,0,0,0] (nav [0] (bodyAt Try.f15))
def g15p2:Pt:=nav [0,0] g15p1
def g15p4:Pt:=nav [2,0,0] g15p2
def g15p7:Pt:=nav [0,0,0,0,0] (nav [0,0,0] g15p4)
def g15p8:Pt:=nav [0,0] g15p7
def g15p10:Pt:=nav [2,0] g15p8
def g15p11:Pt:=nav [0,0] g15p10
def g15p13:Pt:=nav [2,0] g15p11
def g15p14:Pt:=nav [0,0,0,0] (nav [1] g15p11)
def g15p15:Pt:=nav [0,0] g15p13
def g15p16:Pt:=nav [0,0] g15p14
def g15p18:Pt:=nav [2,0] g15p15
def g15p21:Pt:=nav [0,0] g15p18
def g15p22:Pt:=nav [0,0,0,0] (nav [2,0,0,0] g15p16)
def g15p26:Pt:=nav [0,0] (nav [0,0,0] g15p22)
def g15p27:Pt:=nav [1,0,0,0,0,0] g15p26
def g15p28:Pt:=nav [2,0,0,0] g15p26
def g15p29:Pt:=nav [0,0] g15p27
def g15p30:Pt:=nav [0,0] g15p28
def g15p32:Pt:=nav [2,0] g15p29
def qJv (k:Nat)  (n:LN) (o:Int) (m:Int×Int×Int) (ih:Int→Int→Option (Int×Int)):Int→Int→Option (Int×Int) :=
 λ(a:Int) (b:Int)=>if (decide (b < m.2.1)) then ((nthS n (fW .i64 (o+b))).bind λc=>if (!decide (andI .u8 c 192=128)) then (some (((-1):Int),(1:Int))) else ((nthS n (fW .i64 (o+b))).bind λg=>ih (fW .i64 (fW .i64 (a * 64)+fW .i64 (andI .u8 g 63))) (fW .i64 (b+1)))) else (jn (λ(h:Bool×Int)=>if h.1 then (some (((-1):Int),(1:Int))) else (some (h.2,m.2.1))) (λj=>if (decide (a < m.2.2)) then (j (true,a)) else ((g29 k a).bind λl=>j (!l,a))))
def qF6 (k:Nat)  (a:LN) (b:Int) (c:Int×Int×Int) (n:Nat):Int→Int→Option (Int×Int):=lp (λ_ _=>none) (qJv k a b c) n
theorem qM (k:Nat)  (o:LN) (q:Int) (c:Int×Int×Int) (n:Nat) (a:Int) (b:Int):qF6 k o q c (n+1) a b=(if (decide (b < c.2.1)) then ((nthS o (fW .i64 (q+b))).bind λg=>if (!decide (andI .u8 g 192=128)) then (some (((-1):Int),(1:Int))) else ((nthS o (fW .i64 (q+b))).bind λh=>(qF6 k o q c n) (fW .i64 (fW .i64 (a * 64)+fW .i64 (andI .u8 h 63))) (fW .i64 (b+1)))) else (jn (λ(j:Bool×Int)=>if j.1 then (some (((-1):Int),(1:Int))) else (some (j.2,c.2.1))) (λl=>if (decide (a < c.2.2)) then (l (true,a)) else ((g29 k a).bind λm=>l (!m,a))))):=rfl
theorem qQ0 (k:Nat)   (m:LN) (l:Int) (g:Int×Int×Int)  : ∀ (n:Nat) (a:Int) (b:Int),Ok Xg15 g15p22 [(0,.str m),(1,.i l),(6,.i a),(7,.i g.2.1),(8,.i g.2.2),(9,.i b)] (mkH []) (qF6 k m l g n a b):=by
 intro n
 induction n with
 | zero=>intro a b; exact ok_none
 | succ n ih =>
  intro a b
  show Ok _ _ _ _ (qJv k m l g (qF6 k m l g n) a b)
  unfold qJv
  refine qAk (p':=nav [0] g15p22) Kr ?_
  let B:Env:=[(61,.bool (decide (b < g.2.1))),(60,.i g.2.1),(59,.i b),(0,.str m),(1,.i l),(6,.i a),(7,.i g.2.1),(8,.i g.2.2),(9,.i b)]
  refine oH 7 g15p26 B (mkH []) ?_
  refine oS 61 (λr=>?_) (λr=>?_)
  ·let u:Env:=((67,.i (fW .i64 (l+b)))::(66,.i b)::(65,.i l)::(64,.str m)::(61,.bool true)::B)
   refine oR 11 (atN 4 (ctl1 g15p27)) u ?_
   refine oC (λ(c:Int)=>(.y c,(mkH []))) (atN 5 (ctl1 g15p27)) 68 (idxH Kr) λc C=>?_
   refine oH 3 g15p29 ((70,.bool (!decide (andI .u8 c 192=128)))::(69,.y (andI .u8 c 192))::(68,.y c)::u) (mkH []) ?_
   refine oK [0,1,6,7,8,9,70] [(0,.str m),(1,.i l),(6,.i a),(7,.i g.2.1),(8,.i g.2.2),(9,.i b),(70,.bool (!decide (andI .u8 c 192=128)))] ?_
   refine oS 70 (λr=>?_) (λr=>?_)
   ·exact oQ 7
   ·refine oR 9 (atN 6 (ctl1 g15p32)) ((76,.i (fW .i64 (l+b)))::(75,.i b)::(74,.i l)::(73,.str m)::(72,.i (fW .i64 (a * 64)))::(71,.i a)::(70,.bool false)::(keepOnly ((70,.bool (!decide (andI .u8 c 192=128)))::(69,.y (andI .u8 c 192))::(68,.y c)::u) [0,1,6,7,8,9,70])) ?_
    refine oC (λ(h:Int)=>(.y h,(mkH []))) (atN 7 (ctl1 g15p32)) 77 (idxH Kr) λh D=>?_
    let x:Env:=[(0,.str m),(1,.i l),(6,.i (fW .i64 (fW .i64 (a * 64)+fW .i64 (andI .u8 h 63)))),(7,.i g.2.1),(8,.i g.2.2),(9,.i b)]
    refine oLH 5 (nav [0,0] g15p32) x (mkH []) ?_
    refine oR 5 g15p22 ((9,.i (fW .i64 (b+1)))::(63,.i (fW .i64 (b+1)))::(62,.i b)::x) ?_
    refine oK [0,1,6,7,8,9] [(0,.str m),(1,.i l),(6,.i (fW .i64 (fW .i64 (a * 64)+fW .i64 (andI .u8 h 63)))),(7,.i g.2.1),(8,.i g.2.2),(9,.i (fW .i64 (b+1)))] ?_
    exact ih (fW .i64 (fW .i64 (a * 64)+fW .i64 (andI .u8 h 63))) (fW .i64 (b+1))
  ·let A:Env:=((84,.bool (decide (a < g.2.2)))::(83,.bool (decide (a < g.2.2)))::(82,.i g.2.2)::(81,.i a)::(61,.bool false)::B)
   refine oR 9 (atN 4 (ctl1 g15p28)) A ?_
   refine oJ g15p30 (λ(o:Bool×Int)=>[(6,.i o.2),(7,.i g.2.1),(88,.bool o.1)]) (λ(o:Bool×Int)=>(mkH [])) (λo=>?_) (λF q=>?_)
   ·refine oS 88 (λr=>?_) (λr=>?_)
    ·exact oQ 7
    ·exact oQ 10
   ·refine oS 84 (λr=>?_) (λr=>?_)
    ·refine oLH 5 g15p30 [(6,.i a),(7,.i g.2.1),(88,.bool true)] (mkH []) ?_
     exact q (true,a)
    ·refine oH 1 (atN 5 (ctl1 g15p28)) ((85,.i a)::(84,.bool false)::A) (mkH []) ?_
     refine oA (λ(j:Bool) => .bool j) (atN 6 (ctl1 g15p28)) 86 [.i a] (g29_ok k a) λj E=>?_
     refine oL 3 g15p30 [(6,.i a),(7,.i g.2.1),(88,.bool (!j))] ?_
     exact q (!j,a)
def g15 (k:Nat) (c:LN) (b:Int):Option (Int×Int) :=
 jn (λ(o:Bool)=>if o then (some ((0:Int),(0:Int))) else ((nthS c b).bind λa=>if (decide (fW .i64 a < 128)) then (some (fW .i64 a,(1:Int))) else (jn (λ(q:Bool)=>jn (λ(g:Int×Int×Int)=>if (decide (fW .i64 ((c.length:Int) - b) < g.2.1)) then (some (((-1):Int),(1:Int))) else (qF6 k c b g k g.1 1)) (λh=>if q then (h (andI .i64 (fW .i64 a) 31,2,128)) else (jn (λ(r:Bool)=>if r then (h (andI .i64 (fW .i64 a) 15,3,2048)) else (jn (λ(u:Bool)=>if u then (h (andI .i64 (fW .i64 a) 7,4,65536)) else (some (((-1):Int),(1:Int)))) (λj=>if (decide (240≤fW .i64 a)) then (j (decide (fW .i64 a < 248))) else (j false)))) (λl=>if (decide (224≤fW .i64 a)) then (l (decide (fW .i64 a < 240))) else (l false))))) (λm=>if (decide (192≤fW .i64 a)) then (m (decide (fW .i64 a < 224))) else (m false))))) (λn=>if (decide (b < 0)) then (n true) else (n (decide ((c.length:Int)≤b))))
theorem qLz (k:Nat) (c:LN) (b:Int) (r:(Int×Int)) (h:g15 k c b=some r):PureOk Try.prog 15 [.str c,.i b] (.tuple [.i r.1,.i r.2]):=by
 refine qA6 Xg15 (λ_=>⟨rfl,rfl⟩) Try.func15 (by decide +kernel) Kr (t:=g15 k c b) ?_ h
 unfold g15
 refine qA (eE:=[(0,.str c),(1,.i b)]) Kr ?_
 refine oH 11 (atN 3 (ctl1 g15p1)) [(12,.bool (decide (b < 0))),(11,.bool (decide (b < 0))),(10,.i b),(5,.i 0),(4,.i 0),(0,.str c),(1,.i b)] (mkH []) ?_
 refine oJ g15p2 (λ(u:Bool)=>[(0,.str c),(1,.i b),(17,.bool u)]) (λ(u:Bool)=>(mkH [])) (λu=>?_) (λF m=>?_)
 ·refine oS 17 (λg=>?_) (λg=>?_)
  ·exact oQ 7
  ·refine oH 6 (atN 2 (ctl1 g15p4)) [(19,.i b),(18,.str c),(17,.bool false),(0,.str c),(1,.i b),(17,.bool u)] (mkH []) ?_
   refine oC (λ(a:Int)=>(.y a,(mkH []))) (atN 3 (ctl1 g15p4)) 20 (idxH Kr) λa B=>?_
   let C:Env:=[(0,.str c),(1,.i b),(6,.i (fW .i64 a))]
   refine oLH 11 g15p7 C (mkH []) ?_
   refine oR 5 g15p8 ((22,.bool (decide (fW .i64 a < 128)))::(24,.bool (decide (fW .i64 a < 128)))::(23,.i (fW .i64 a))::C) ?_
   refine oS 22 (λg=>?_) (λg=>?_)
   ·exact oQ 8
   ·refine oR 6 (atN 3 (ctl1 g15p10)) ((29,.bool (decide (192≤fW .i64 a)))::(28,.bool (decide (192≤fW .i64 a)))::(27,.i (fW .i64 a))::(22,.bool false)::(22,.bool (decide (fW .i64 a < 128)))::(24,.bool (decide (fW .i64 a < 128)))::(23,.i (fW .i64 a))::C) ?_
    refine oJ g15p11 (λ(x:Bool)=>[(0,.str c),(1,.i b),(6,.i (fW .i64 a)),(26,.bool x)]) (λ(x:Bool)=>(mkH [])) (λx=>?_) (λG n=>?_)
    ·refine oJ g15p14 (λ(j:Int×Int×Int)=>[(0,.str c),(1,.i b),(6,.i j.1),(7,.i j.2.1),(8,.i j.2.2)]) (λ(j:Int×Int×Int)=>(mkH [])) (λj=>?_) (λJ l=>?_)
     ·let E:Env:=[(58,.bool (decide (fW .i64 ((c.length:Int) - b) < j.2.1))),(57,.i j.2.1),(56,.i (fW .i64 ((c.length:Int) - b))),(55,.i b),(54,.i (c.length:Int)),(53,.str c),(0,.str c),(1,.i b),(6,.i j.1),(7,.i j.2.1),(8,.i j.2.2)]
      refine oH 8 g15p16 E (mkH []) ?_
      refine oS 58 (λg=>?_) (λg=>?_)
      ·exact oQ 7
      ·refine oR 9 g15p22 ((9,.i 1)::(58,.bool false)::E) ?_
       refine oK [0,1,6,7,8,9] [(0,.str c),(1,.i b),(6,.i j.1),(7,.i j.2.1),(8,.i j.2.2),(9,.i 1)] ?_
       exact (qQ0 k c b j k) j.1 1
     ·refine oS 26 (λg=>?_) (λg=>?_)
      ·refine oLH 10 g15p14 [(0,.str c),(1,.i b),(6,.i (andI .i64 (fW .i64 a) 31)),(7,.i 2),(8,.i 128)] (mkH []) ?_
       exact l (andI .i64 (fW .i64 a) 31,2,128)
      ·refine oH 6 (atN 3 (ctl1 g15p13)) [(38,.bool (decide (224≤fW .i64 a))),(37,.bool (decide (224≤fW .i64 a))),(36,.i (fW .i64 a)),(26,.bool false),(0,.str c),(1,.i b),(6,.i (fW .i64 a)),(26,.bool x)] (mkH []) ?_
       refine oJ g15p15 (λ(A:Bool)=>[(0,.str c),(1,.i b),(6,.i (fW .i64 a)),(35,.bool A)]) (λ(A:Bool)=>(mkH [])) (λA=>?_) (λK o=>?_)
       ·refine oS 35 (λg=>?_) (λg=>?_)
        ·refine oLH 10 g15p14 [(0,.str c),(1,.i b),(6,.i (andI .i64 (fW .i64 a) 15)),(7,.i 3),(8,.i 2048)] (mkH []) ?_
         exact l (andI .i64 (fW .i64 a) 15,3,2048)
        ·refine oH 6 (atN 3 (ctl1 g15p18)) [(47,.bool (decide (240≤fW .i64 a))),(46,.bool (decide (240≤fW .i64 a))),(45,.i (fW .i64 a)),(35,.bool false),(0,.str c),(1,.i b),(6,.i (fW .i64 a)),(35,.bool A)] (mkH []) ?_
         refine oJ g15p21 (λ(D:Bool)=>[(0,.str c),(1,.i b),(6,.i (fW .i64 a)),(44,.bool D)]) (λ(D:Bool)=>(mkH [])) (λD=>?_) (λL q=>?_)
         ·refine oS 44 (λg=>?_) (λg=>?_)
          ·refine oLH 10 g15p14 [(0,.str c),(1,.i b),(6,.i (andI .i64 (fW .i64 a) 7)),(7,.i 4),(8,.i 65536)] (mkH []) ?_
           exact l (andI .i64 (fW .i64 a) 7,4,65536)
          ·exact oQ 7
         ·refine oS 47 (λg=>?_) (λg=>?_)
          ·refine oLH 5 g15p21 [(0,.str c),(1,.i b),(6,.i (fW .i64 a)),(44,.bool (decide (fW .i64 a < 248)))] (mkH []) ?_
           exact q (decide (fW .i64 a < 248))
          ·refine oLH 5 g15p21 [(0,.str c),(1,.i b),(6,.i (fW .i64 a)),(44,.bool false)] (mkH []) ?_
           exact q false
       ·refine oS 38 (λg=>?_) (λg=>?_)
        ·refine oLH 5 g15p15 [(0,.str c),(1,.i b),(6,.i (fW .i64 a)),(35,.bool (decide (fW .i64 a < 240)))] (mkH []) ?_
         exact o (decide (fW .i64 a < 240))
        ·refine oLH 5 g15p15 [(0,.str c),(1,.i b),(6,.i (fW .i64 a)),(35,.bool false)] (mkH []) ?_
         exact o false
    ·refine oS 29 (λg=>?_) (λg=>?_)
     ·refine oLH 5 g15p11 [(0,.str c),(1,.i b),(6,.i (fW .i64 a)),(26,.bool (decide (fW .i64 a < 224)))] (mkH []) ?_
      exact n (decide (fW .i64 a < 224))
     ·refine oLH 5 g15p11 [(0,.str c),(1,.i b),(6,.i (fW .i64 a)),(26,.bool false)] (mkH []) ?_
      exact n false
 ·refine oS 12 (λg=>?_) (λg=>?_)
  ·refine oLH 6 g15p2 [(0,.str c),(1,.i b),(17,.bool true)] (mkH []) ?_
   exact m true
  ·refine oLH 6 g15p2 [(0,.str c),(1,.i b),(17,.bool (decide ((c.length:Int)≤b)))] (mkH []) ?_
   exact m (decide ((c.length:Int)≤b))
end
theorem qO2 {s:LN} {i b:Nat} {r:LN} (h:s.drop i=b::r):nthS s (i:Int)=some (b:Int):=by
 have e:s[i]? = some b:=by
  have:=List.getElem?_drop (xs:=s) (i:=i) (j:=0)
  rw [h] at this
  simpa using this.symm
 unfold nthS
 rw [if_pos (by omega)]
 simp [e]
theorem qFd {s:LN} {i:Nat} (h:i < s.length):∃ b r,s.drop i=b::r∧s.drop (i+1)=r∧b ∈ s:=by
 refine ⟨s[i],s.drop (i+1),?_,rfl,List.getElem_mem h⟩
 exact List.drop_eq_getElem_cons h
def byteOk (b:Nat):Bool:=decide (andI .u8 (b:Int) 63=((b % 64:Nat):Int)) && decide (andI .u8 (b:Int) 31=((b % 32:Nat):Int)) && decide (andI .u8 (b:Int) 15=((b % 16:Nat):Int)) && decide (andI .u8 (b:Int) 7=((b % 8:Nat):Int)) && (decide (andI .u8 (b:Int) 192=128) == decide (b / 64=2))
theorem qMu:((List.range 256).all byteOk)=true:=by decide +kernel
theorem byte_ok {b:Nat} (h:b < 256):andI .u8 (b:Int) 63=((b % 64:Nat):Int)∧andI .u8 (b:Int) 31=((b % 32:Nat):Int)∧andI .u8 (b:Int) 15=((b % 16:Nat):Int)∧andI .u8 (b:Int) 7=((b % 8:Nat):Int)∧(andI .u8 (b:Int) 192=128 ↔ b / 64=2):=by
 have w:=List.all_eq_true.1 qMu b (List.mem_range.2 h)
 simp only [byteOk,Bool.and_eq_true,decide_eq_true_eq,beq_iff_eq] at w
 obtain ⟨⟨⟨⟨w1,w2⟩,w3⟩,w4⟩,w5⟩:=w
 refine ⟨w1,w2,w3,w4,?_⟩
 constructor
 ·intro h
  rw [decide_eq_true h] at w5
  exact of_decide_eq_true w5.symm
 ·intro h
  rw [decide_eq_true h] at w5
  exact of_decide_eq_true w5
theorem fwn (x:Nat) (h:x≤9223372036854775807):fW .i64 (x:Int)=x:=fw64 _ (by omega) (by omega)
def leadN (c:Nat):Nat×Nat:=if c < 128 then (1,c) else if c / 32=6 then (2,c % 32) else if c / 16=14 then (3,c % 16) else if c / 8=30 then (4,c % 8) else (0,0)
def moreN : Nat → Nat → LN → Option Nat
 | 0,c,_=>some c
 | _+1,_,[]=>none
 | n+1,c,b::r=>if b / 64=2 then moreN n (c * 64+b % 64) r else none
def leastN (n:Nat):Nat:=if n=2 then 128 else if n=3 then 2048 else if n=4 then 65536 else 0
def cpN (c:Nat):Bool:=decide (c≤1114111) && !(decide (55296≤c) && decide (c≤57343))
def fitN (n : Nat) : Option Nat → Int × Int
 | none=>(-1,1)
 | some y=>if leastN n≤y∧cpN y=true then ((y:Int),(n:Int)) else (-1,1)
def dec : LN → Int × Int
 | []=>(0,0)
 | c::r=>if (leadN c).1=0 then (-1,1) else fitN (leadN c).1 (moreN ((leadN c).1 - 1) (leadN c).2 r)
theorem qDx : ∀ (n c : Nat) (r : LN), r.length < n → moreN n c r = none
 | 0,c,r,h=>by omega
 | n+1,c,[],h=>rfl
 | n+1,c,b::r,h=>by
  unfold moreN
  split
  ·exact qDx n _ r (by simp at h; omega)
  ·rfl
theorem qKm {k c:Nat}:g29 k (c:Int)=some (cpN c):=by
 unfold g29 cpN
 by_cases h1:c≤1114111
 ·by_cases h2:c < 55296
  ·have:¬ 55296≤c:=by omega
   have e2:decide ((c:Int)≤1114111)=true:=by simp; omega
   have e3:decide ((c:Int) < 55296)=true:=by simp; omega
   simp [e2,e3,h1,this]
  ·have:55296≤c:=by omega
   have e2:decide ((c:Int)≤1114111)=true:=by simp; omega
   have e3:decide ((c:Int) < 55296)=false:=by simp; omega
   simp [e2,e3,h1,this]
   rw [Bool.eq_iff_iff]; simp; omega
 ·have e2:decide ((c:Int)≤1114111)=false:=by simp; omega
  simp [e2,h1]
theorem pow64_le {i:Nat} (h:i≤3):64 ^ i≤262144:=by
 have:i=0∨i=1∨i=2∨i=3:=by omega
 obtain rfl | rfl | rfl | rfl:=this <;> decide
theorem qMe {y i b:Nat} (h:y < 64 ^ i):y * 64+b % 64 < 64 ^ (i+1):=by
 rw [Nat.pow_succ]
 have:=Nat.mod_lt b (by decide:0 < 64)
 generalize 64 ^ i=P at h ⊢
 omega
theorem qNi (k : Nat) (s : LN) (hs : ∀ b ∈ s, b < 256) (hl : s.length ≤ 140737488351232) (at' n q : Nat) (hn : n ≤ 4) (hat : at' + n ≤ s.length) : ∀ (d m i y : Nat), i + d = n → 1 ≤ i → y < 64 ^ i →
 qF6 k s (at':Int) ((q:Int),(n:Int),((leastN n:Nat):Int)) (d+1+m) (y:Int) (i:Int)=some (fitN n (moreN d y (s.drop (at'+i))))
 | 0,m,i,y,hi,h1,hy=>by
  rw [show 0+1+m=m+1 from by omega,qM]
  have e1:decide ((i:Int) < (n:Int))=false:=by simp; omega
  simp only [e1,qKm,moreN,fitN,Option.bind_some,jn]
  by_cases h:leastN n≤y
  ·have e2:decide ((y:Int) < ((leastN n:Nat):Int))=false:=by simp; omega
   cases hc:cpN y <;> simp [e2,h,hc]
  ·have e2:decide ((y:Int) < ((leastN n:Nat):Int))=true:=by simp; omega
   simp [e2,h]
 | d+1,m,i,y,hi,h1,hy=>by
  rw [show d+1+1+m=(d+1+m)+1 from by omega,qM]
  have e1:decide ((i:Int) < (n:Int))=true:=by simp; omega
  obtain ⟨b,r,hb,hr,hm⟩:=qFd (s:=s) (i:=at'+i) (by omega)
  have e2:fW .i64 ((at':Int)+(i:Int))=((at'+i:Nat):Int):=by
   have:(at':Int)+(i:Int)=((at'+i:Nat):Int):=by push_cast; rfl
   rw [this,fwn _ (by omega)]
  obtain ⟨b63,-,-,-,b192⟩:=byte_ok (hs b hm)
  have hi4:i≤3:=by omega
  have a1:i+1+d=n:=by rw [← hi]; exact Nat.add_right_comm i 1 d
  have a2:1≤i+1:=Nat.le_add_left 1 i
  have a3:y * 64+b % 64 < 64 ^ (i+1):=qMe hy
  have hp:64 ^ i≤262144:=pow64_le hi4
  have e3:fW .i64 ((i:Int)+1)=((i+1:Nat):Int):=by
   have:(i:Int)+1=((i+1:Nat):Int):=by push_cast; rfl
   rw [this,fwn _ (by omega)]
  have e5:fW .i64 (fW .i64 ((y:Int) * 64)+((b % 64:Nat):Int))=((y * 64+b % 64:Nat):Int):=by
   have:(y:Int) * 64=((y * 64:Nat):Int):=by push_cast; rfl
   rw [this,fwn _ (by omega)]
   have:((y * 64:Nat):Int)+((b % 64:Nat):Int)=((y * 64+b % 64:Nat):Int):=by push_cast; rfl
   rw [this,fwn _ (by omega)]
  simp only [e1,e2,qO2 hb,Option.bind_some,b63,if_true]
  by_cases h:b / 64=2
  ·have e4:decide (andI .u8 (b:Int) 192=128)=true:=decide_eq_true (b192.2 h)
   have ih:=qNi k s hs hl at' n q hn hat d m (i+1) (y * 64+b % 64) a1 a2 a3
   rw [e4,fwn _ (by omega:b % 64≤9223372036854775807),e5,e3,ih,hb,show at'+(i+1)=at'+i+1 from by omega,hr]
   simp [moreN,h]
  ·have e4:decide (andI .u8 (b:Int) 192=128)=false:=decide_eq_false (λw=>h (b192.1 w))
   rw [e4,hb]
   simp [moreN,h,fitN]
end Go.Proofs.Ytjmmjhojbodbdaa.Am
set_option maxRecDepth 100000
set_option linter.unusedVariables false
namespace Go.Proofs.Ytjmmjhojbodbdaa.Am
noncomputable section
open Go
def Xg10:Fx Bool:=⟨Try.prog,cx,Try.f10,λr => .bool r,0,λ_=>H0,cxTi,cxOrd,λ_=>none,false⟩
def g10p2:Pt:=nav [0,0,0,0] (nav [0,0,0,0] (nav [0] (bodyAt Try.f10)))
def g10p4:Pt:=nav [0,0] (nav [0,0,0] g10p2)
def g10p5:Pt:=nav [1,0,0,0] g10p4
def g10p7:Pt:=nav [0,0,0,0] g10p5
def qJz (k:Nat)  (c:LN) (ih:Int→Option Bool):Int→Option Bool :=
 λ(a:Int)=>if (decide (a < (c.length:Int))) then ((g15 k c a).bind λb=>if (decide (b.1 < 0)) then (some false) else (ih (fW .i64 (a+b.2)))) else (some true)
def qGc (k:Nat)  (a:LN) (n:Nat):Int→Option Bool:=lp (λ_=>none) (qJz k a) n
theorem qM1 (k:Nat)  (c:LN) (n:Nat) (a:Int):qGc k c (n+1) a=(if (decide (a < (c.length:Int))) then ((g15 k c a).bind λb=>if (decide (b.1 < 0)) then (some false) else ((qGc k c n) (fW .i64 (a+b.2)))) else (some true)):=rfl
theorem qQ7 (k:Nat)   (c:LN)  : ∀ (n:Nat) (a:Int),Ok Xg10 g10p2 [(0,.str c),(3,.i a)] (mkH []) (qGc k c n a):=by
 intro n
 induction n with
 | zero=>intro a; exact ok_none
 | succ n ih =>
  intro a
  show Ok _ _ _ _ (qJz k c (qGc k c n) a)
  unfold qJz
  refine qAk (p':=nav [0] g10p2) Kr ?_
  let j:Env:=[(9,.bool (decide (a < (c.length:Int)))),(8,.i (c.length:Int)),(7,.str c),(6,.i a),(0,.str c),(3,.i a)]
  refine oH 8 g10p4 j (mkH []) ?_
  refine oS 9 (λg=>?_) (λg=>?_)
  ·refine oR 7 (atN 2 (ctl1 g10p5)) ((12,.i a)::(11,.str c)::(9,.bool true)::j) ?_
   refine oA (λ(b:(Int×Int)) => .tuple [.i b.1,.i b.2]) (atN 3 (ctl1 g10p5)) 13 [.str c,.i a] (qLz k c a) λb h=>?_
   let l:Env:=[(0,.str c),(3,.i a),(4,.i b.1),(5,.i b.2)]
   refine oL 8 g10p7 l ?_
   refine oR 4 (nav [0,0] g10p7) ((17,.bool (decide (b.1 < 0)))::(16,.i b.1)::l) ?_
   refine oS 17 (λg=>?_) (λg=>?_)
   ·exact oQ 6
   ·refine oL 8 g10p2 [(0,.str c),(3,.i (fW .i64 (a+b.2)))] ?_
    exact ih (fW .i64 (a+b.2))
  ·exact oQ 7
def g10 (k:Nat) (a:LN):Option Bool :=
 qGc k a k 0
theorem g10_ok (k:Nat) (a:LN) (r:Bool) (h:g10 k a=some r):PureOk Try.prog 10 [.str a] (.bool r):=by
 refine qA6 Xg10 (λ_=>⟨rfl,rfl⟩) Try.func10 (by decide +kernel) Kr (t:=g10 k a) ?_ h
 unfold g10
 refine qA (eE:=[(0,.str a)]) Kr ?_
 refine oLH 11 g10p2 [(0,.str a),(3,.i 0)] (mkH []) ?_
 exact (qQ7 k a k) 0
end
theorem lead_le (c:Nat):(leadN c).1≤4:=by
 unfold leadN; repeat' split
 all_goals simp
theorem qDg {k:Nat} (hk:6≤k) {s:LN} (hs:∀ b ∈ s,b < 256) (hl:s.length≤140737488351232) (i:Nat):g15 k s (i:Int)=some (dec (s.drop i)):=by
 unfold g15
 have e0:decide ((i:Int) < 0)=false:=decide_eq_false (by omega)
 by_cases hi:i < s.length
 ·have e1:decide ((s.length:Int)≤(i:Int))=false:=by simp; omega
  obtain ⟨c,r,hc,hr,hm⟩:=qFd hi
  have hc':=hs c hm
  have hrl:r.length+i+1=s.length:=by rw [← hr,List.length_drop]; omega
  have e2:fW .i64 ((s.length:Int) - (i:Int))=((r.length+1:Nat):Int):=by
   have:(s.length:Int) - (i:Int)=((r.length+1:Nat):Int):=by omega
   rw [this,fwn _ (by omega)]
  have a31:andI .i64 (c:Int) 31=((c % 32:Nat):Int):=by have:=andI64 (c:Int) 5 (by decide); exact this
  have a15:andI .i64 (c:Int) 15=((c % 16:Nat):Int):=by have:=andI64 (c:Int) 4 (by decide); exact this
  have a7:andI .i64 (c:Int) 7=((c % 8:Nat):Int):=by have:=andI64 (c:Int) 3 (by decide); exact this
  simp only [e0,e1,qO2 hc,Option.bind_some,jn,e2,hc,dec,fwn c (by omega),a31,a15,a7]
  have step : ∀ (n q : Nat), 2 ≤ n → n ≤ 4 → q < 64 ^ 1 → leadN c = (n, q) →
   (if decide (((r.length+1:Nat):Int) < (n:Int)) then some ((-1:Int),(1:Int)) else qF6 k s (i:Int) ((q:Int),(n:Int),((leastN n:Nat):Int)) k (q:Int) 1)=some (fitN n (moreN (n - 1) q r)):=by
   intro n q hn hn4 hq hlead
   by_cases h1:r.length+1 < n
   ·rw [if_pos (by simp only [decide_eq_true_eq]; omega),qDx _ _ _ (by omega)]
    rfl
   ·rw [if_neg (by simp only [decide_eq_true_eq]; omega)]
    have w:=qNi k s hs hl i n q hn4 (by omega) (n - 1) (k - n) 1 q (by omega) (by decide) hq
    rw [show n - 1+1+(k - n)=k from by omega,hr] at w
    exact w
  by_cases c1:c < 128
  ·have:leadN c=(1,c):=by unfold leadN; rw [if_pos c1]
   have hcp:cpN c=true:=by unfold cpN; simp; omega
   rw [this,decide_eq_true (show (c:Int) < 128 by omega)]
   simp [moreN,fitN,leastN,hcp]
  ·rw [decide_eq_false (show ¬ (c:Int) < 128 by omega)]
   simp only [Bool.false_eq_true,if_false]
   by_cases c2:192≤c∧c < 224
   ·have hL:leadN c=(2,c % 32):=by unfold leadN; rw [if_neg c1,if_pos (by omega)]
    rw [decide_eq_true (show (192:Int)≤(c:Int) by omega),decide_eq_true (show (c:Int) < 224 by omega),hL]
    exact step 2 (c % 32) (by decide) (by decide) (by omega) hL
   ·have n1:¬ c / 32=6:=by omega
    by_cases c3:224≤c∧c < 240
    ·have hL:leadN c=(3,c % 16):=by unfold leadN; rw [if_neg c1,if_neg n1,if_pos (by omega)]
     rw [decide_eq_true (show (192:Int)≤(c:Int) by omega),decide_eq_false (show ¬ (c:Int) < 224 by omega),decide_eq_true (show (224:Int)≤(c:Int) by omega),decide_eq_true (show (c:Int) < 240 by omega),hL]
     exact step 3 (c % 16) (by decide) (by decide) (by omega) hL
    ·have n2:¬ c / 16=14:=by omega
     by_cases c4:240≤c∧c < 248
     ·have hL:leadN c=(4,c % 8):=by unfold leadN; rw [if_neg c1,if_neg n1,if_neg n2,if_pos (by omega)]
      rw [decide_eq_true (show (192:Int)≤(c:Int) by omega),decide_eq_false (show ¬ (c:Int) < 224 by omega),decide_eq_true (show (224:Int)≤(c:Int) by omega),decide_eq_false (show ¬ (c:Int) < 240 by omega),decide_eq_true (show (240:Int)≤(c:Int) by omega),decide_eq_true (show (c:Int) < 248 by omega),hL]
      exact step 4 (c % 8) (by decide) (by decide) (by omega) hL
     ·have n3:¬ c / 8=30:=by omega
      have hL:leadN c=(0,0):=by unfold leadN; rw [if_neg c1,if_neg n1,if_neg n2,if_neg n3]
      rw [hL]
      by_cases d1:192≤c
      ·rw [decide_eq_true (show (192:Int)≤(c:Int) by omega),decide_eq_false (show ¬ (c:Int) < 224 by omega),decide_eq_true (show (224:Int)≤(c:Int) by omega),decide_eq_false (show ¬ (c:Int) < 240 by omega),decide_eq_true (show (240:Int)≤(c:Int) by omega),decide_eq_false (show ¬ (c:Int) < 248 by omega)]
       rfl
      ·rw [decide_eq_false (show ¬ (192:Int)≤(c:Int) by omega),decide_eq_false (show ¬ (224:Int)≤(c:Int) by omega),decide_eq_false (show ¬ (240:Int)≤(c:Int) by omega)]
       rfl
 ·have e1:decide ((s.length:Int)≤(i:Int))=true:=by simp; omega
  rw [e0,e1,List.drop_eq_nil_of_le (by omega)]
  rfl
theorem qD0 {s:LN} (h:s ≠ []):∃ n:Nat,(dec s).2=(n:Int)∧1≤n∧n≤4∧n≤s.length∧((dec s).1 < 0→n=1):=by
 cases s with
 | nil=>exact absurd rfl h
 | cons c r =>
  have hd:dec (c::r)=if (leadN c).1=0 then (-1,1) else fitN (leadN c).1 (moreN ((leadN c).1 - 1) (leadN c).2 r):=rfl
  rw [hd]
  by_cases h0:(leadN c).1=0
  ·rw [if_pos h0]
   exact ⟨1,rfl,by decide,by decide,by simp,λ_=>rfl⟩
  ·rw [if_neg h0]
   cases hm:moreN ((leadN c).1 - 1) (leadN c).2 r with
   | none=>exact ⟨1,rfl,by decide,by decide,by simp,λ_=>rfl⟩
   | some y =>
    unfold fitN
    simp only []
    split
    ·have:=lead_le c
     refine ⟨(leadN c).1,rfl,by omega,this,?_,?_⟩
     ·rcases Nat.lt_or_ge r.length ((leadN c).1 - 1) with hlt | hge
      ·rw [qDx _ _ _ hlt] at hm; cases hm
      ·simp; omega
     ·intro hneg
      simp at hneg
      omega
    ·exact ⟨1,rfl,by decide,by decide,by simp,λ_=>rfl⟩
def vld : Nat → LN → Bool
 | _,[]=>true
 | 0,_=>false
 | n+1,s=>if (dec s).1 < 0 then false else vld n (s.drop (dec s).2.toNat)
theorem drop_lt {s:LN} {i:Nat} (h:i < s.length):s.drop i ≠ []:=by
 intro e
 have:=congrArg List.length e
 simp at this
 omega
theorem qN {k:Nat} (hk:6≤k) {s:LN} (hs:∀ b ∈ s,b < 256) (hl:s.length≤140737488351232):∀ (d m i:Nat),s.length≤i+d→i≤s.length→qGc k s (d+1+m) (i:Int)=some (vld d (s.drop i)):=by
 intro d
 induction d with
 | zero =>
  intro m i h1 h2
  have e:s.drop i=[]:=List.drop_eq_nil_of_le (by omega)
  rw [show 0+1+m=m+1 from by omega,qM1,e,decide_eq_false (show ¬ (i:Int) < (s.length:Int) by omega)]
  rfl
 | succ d ih =>
  intro m i h1 h2
  rw [show d+1+1+m=(d+1+m)+1 from by omega,qM1]
  by_cases hi:i < s.length
  ·rw [decide_eq_true (show (i:Int) < (s.length:Int) by omega)]
   obtain ⟨c,r,hc,-,-⟩:=qFd hi
   obtain ⟨n,n1,n2,n3,n4,n5⟩:=qD0 (drop_lt hi)
   rw [List.length_drop] at n4
   have b1:s.length≤i+n+d:=by clear n1; omega
   have b2:i+n≤s.length:=by clear n1; omega
   simp only [qDg hk hs hl,Option.bind_some,if_true]
   have hv:vld (d+1) (s.drop i)=if (dec (s.drop i)).1 < 0 then false else vld d ((s.drop i).drop (dec (s.drop i)).2.toNat):=by
    rw [hc]; rfl
   rw [hv]
   by_cases hneg:(dec (s.drop i)).1 < 0
   ·rw [decide_eq_true hneg,if_pos hneg]
    rfl
   ·rw [decide_eq_false hneg,if_neg hneg,n1,List.drop_drop]
    have e3:fW .i64 ((i:Int)+(n:Int))=((i+n:Nat):Int):=by
     have:(i:Int)+(n:Int)=((i+n:Nat):Int):=by omega
     rw [this,fwn _ (by omega)]
    rw [e3]
    exact ih m (i+n) b1 b2
  ·have e:s.drop i=[]:=List.drop_eq_nil_of_le (by omega)
   rw [e,decide_eq_false (show ¬ (i:Int) < (s.length:Int) by omega)]
   rfl
theorem qM8 {k:Nat} {s:LN} (hk:s.length+6≤k) (hs:∀ b ∈ s,b < 256) (hl:s.length≤140737488351232):g10 k s=some (vld s.length s):=by
 have h:=qN (k:=k) (by omega) hs hl s.length (k - (s.length+1)) 0 (by omega) (by omega)
 rw [show s.length+1+(k - (s.length+1))=k from by omega] at h
 exact h
def enc (c:Nat):LN:=if c < 128 then [c] else if c < 2048 then [192+c / 64,128+c % 64] else if c < 65536 then [224+c / 4096,128+c / 64 % 64,128+c % 64] else [240+c / 262144,128+c / 4096 % 64,128+c / 64 % 64,128+c % 64]
def put (n:Int):LN:=if 0≤n∧cpN n.toNat=true then enc n.toNat else []
end Go.Proofs.Ytjmmjhojbodbdaa.Am
set_option maxRecDepth 100000
set_option linter.unusedVariables false
namespace Go.Proofs.Ytjmmjhojbodbdaa.Am
noncomputable section
open Go
def Xg40:Fx (Int×Int):=⟨Try.prog,cx,Try.f40,λr => .tuple [.i r.1,.i r.2],0,λ_=>H0,cxTi,cxOrd,λ_=>none,false⟩
def g40p2:Pt:=nav [0,0,0,0,0] (nav [0,0,0] (nav [0] (bodyAt Try.f40)))
def g40p3:Pt:=nav [0,0,0] g40p2
def g40p4:Pt:=nav [0,0] g40p3
def g40p5:Pt:=nav [1,0,0,0] g40p4
def qJl (k:Nat)  (m:LN) (n:Int) (o:Int) (r:Int) (ih:Int→Int→Option (Int×Int)):Int→Int→Option (Int×Int) :=
 λ(b:Int) (a:Int)=>jn (λ(h:Bool×Int×Int)=>if h.1 then ((nthS m (fW .i64 (n+h.2.2))).bind λj=>(g52 k j o).bind λl=>ih (fW .i64 (fW .i64 (h.2.1 * o)+l)) (fW .i64 (h.2.2+1))) else (some (h.2.1,h.2.2))) (λq=>if (decide (a < r)) then (if (decide (fW .i64 (n+a) < (m.length:Int))) then ((nthS m (fW .i64 (n+a))).bind λc=>(g52 k c o).bind λg=>q (decide (0≤g),b,a)) else (q (false,b,a))) else (q (false,b,a)))
def qG6 (k:Nat)  (a:LN) (b:Int) (c:Int) (g:Int) (n:Nat):Int→Int→Option (Int×Int):=lp (λ_ _=>none) (qJl k a b c g) n
theorem qLu (k:Nat)  (j:LN) (l:Int) (m:Int) (r:Int) (n:Nat) (b:Int) (a:Int):qG6 k j l m r (n+1) b a=(jn (λ(h:Bool×Int×Int)=>if h.1 then ((nthS j (fW .i64 (l+h.2.2))).bind λo=>(g52 k o m).bind λq=>(qG6 k j l m r n) (fW .i64 (fW .i64 (h.2.1 * m)+q)) (fW .i64 (h.2.2+1))) else (some (h.2.1,h.2.2))) (λu=>if (decide (a < r)) then (if (decide (fW .i64 (l+a) < (j.length:Int))) then ((nthS j (fW .i64 (l+a))).bind λc=>(g52 k c m).bind λg=>u (decide (0≤g),b,a)) else (u (false,b,a))) else (u (false,b,a)))):=rfl
theorem qPn (k:Nat)   (l:LN) (h:Int) (c:Int) (r:Int)  : ∀ (n:Nat) (b:Int) (a:Int),Ok Xg40 g40p2 [(0,.str l),(1,.i h),(2,.i c),(3,.i r),(10,.i b),(11,.i a)] (mkH []) (qG6 k l h c r n b a):=by
 intro n
 induction n with
 | zero=>intro b a; exact ok_none
 | succ n ih =>
  intro b a
  show Ok _ _ _ _ (qJl k l h c r (qG6 k l h c r n) b a)
  unfold qJl
  refine qAk (p':=nav [0] g40p2) Kr ?_
  let E:Env:=[(15,.bool (decide (a < r))),(14,.bool (decide (a < r))),(13,.i r),(12,.i a),(0,.str l),(1,.i h),(2,.i c),(3,.i r),(10,.i b),(11,.i a)]
  refine oH 7 (atN 4 (ctl1 g40p3)) E (mkH []) ?_
  refine oJ g40p4 (λ(j:Bool×Int×Int)=>[(0,.str l),(1,.i h),(2,.i c),(3,.i r),(10,.i j.2.1),(11,.i j.2.2),(32,.bool j.1)]) (λ(j:Bool×Int×Int)=>(mkH [])) (λj=>?_) (λL u=>?_)
  ·refine oS 32 (λx=>?_) (λx=>?_)
   ·let F:Env:=[(39,.i (fW .i64 (h+j.2.2))),(38,.i j.2.2),(37,.i h),(36,.str l),(35,.i (fW .i64 (j.2.1 * c))),(34,.i c),(33,.i j.2.1),(32,.bool true),(0,.str l),(1,.i h),(2,.i c),(3,.i r),(10,.i j.2.1),(11,.i j.2.2),(32,.bool j.1)]
    refine oH 12 (atN 7 (ctl1 g40p5)) F (mkH []) ?_
    refine oC (λ(o:Int)=>(.y o,(mkH []))) (atN 8 (ctl1 g40p5)) 40 (idxH Kr) λo C=>?_
    refine oH 1 (atN 9 (ctl1 g40p5)) ((41,.i c)::(40,.y o)::F) (mkH []) ?_
    refine oA (λ(q:Int) => .i q) (atN 10 (ctl1 g40p5)) 42 [.y o,.i c] (qLt k o c) λq D=>?_
    let G:Env:=[(0,.str l),(1,.i h),(2,.i c),(3,.i r),(10,.i (fW .i64 (fW .i64 (j.2.1 * c)+q))),(11,.i j.2.2)]
    refine oL 3 (nav [0,0] g40p5) G ?_
    refine oR 5 g40p2 ((11,.i (fW .i64 (j.2.2+1)))::(45,.i (fW .i64 (j.2.2+1)))::(44,.i j.2.2)::G) ?_
    refine oK [0,1,2,3,10,11] [(0,.str l),(1,.i h),(2,.i c),(3,.i r),(10,.i (fW .i64 (fW .i64 (j.2.1 * c)+q))),(11,.i (fW .i64 (j.2.2+1)))] ?_
    exact ih (fW .i64 (fW .i64 (j.2.1 * c)+q)) (fW .i64 (j.2.2+1))
   ·exact oQ 10
  ·refine oS 15 (λx=>?_) (λx=>?_)
   ·let J:Env:=((23,.bool (decide (fW .i64 (h+a) < (l.length:Int))))::(22,.bool (decide (fW .i64 (h+a) < (l.length:Int))))::(21,.bool (decide (fW .i64 (h+a) < (l.length:Int))))::(20,.i (l.length:Int))::(19,.str l)::(18,.i (fW .i64 (h+a)))::(17,.i a)::(16,.i h)::(15,.bool true)::E)
    refine oH 8 (atN 12 (ctl1 g40p3)) J (mkH []) ?_
    refine oS 23 (λx=>?_) (λx=>?_)
    ·let K:Env:=((27,.i (fW .i64 (h+a)))::(26,.i a)::(25,.i h)::(24,.str l)::(23,.bool true)::J)
     refine oR 4 (atN 16 (ctl1 g40p3)) K ?_
     refine oC (λ(g:Int)=>(.y g,(mkH []))) (atN 17 (ctl1 g40p3)) 28 (idxH Kr) λg A=>?_
     refine oH 1 (atN 18 (ctl1 g40p3)) ((29,.i c)::(28,.y g)::K) (mkH []) ?_
     refine oA (λ(m:Int) => .i m) (atN 19 (ctl1 g40p3)) 30 [.y g,.i c] (qLt k g c) λm B=>?_
     refine oL 3 g40p4 [(0,.str l),(1,.i h),(2,.i c),(3,.i r),(10,.i b),(11,.i a),(32,.bool (decide (0≤m)))] ?_
     exact u (decide (0≤m),b,a)
    ·refine oL 10 g40p4 [(0,.str l),(1,.i h),(2,.i c),(3,.i r),(10,.i b),(11,.i a),(32,.bool false)] ?_
     exact u (false,b,a)
   ·refine oLH 18 g40p4 [(0,.str l),(1,.i h),(2,.i c),(3,.i r),(10,.i b),(11,.i a),(32,.bool false)] (mkH []) ?_
    exact u (false,b,a)
def g40 (k:Nat) (a:LN) (b:Int) (c:Int) (g:Int):Option (Int×Int) :=
 qG6 k a b c g k 0 0
theorem qPm (k:Nat) (a:LN) (b:Int) (c:Int) (g:Int) (r:(Int×Int)) (h:g40 k a b c g=some r):PureOk Try.prog 40 [.str a,.i b,.i c,.i g] (.tuple [.i r.1,.i r.2]):=by
 refine qA6 Xg40 (λ_=>⟨rfl,rfl⟩) Try.func40 (by decide +kernel) Kr (t:=g40 k a b c g) ?_ h
 unfold g40
 refine qA (eE:=[(0,.str a),(1,.i b),(2,.i c),(3,.i g)]) Kr ?_
 refine oLH 13 g40p2 [(0,.str a),(1,.i b),(2,.i c),(3,.i g),(10,.i 0),(11,.i 0)] (mkH []) ?_
 exact (qPn k a b c g k) 0 0
def Xg34:Fx (Int×Int):=⟨Try.prog,cx,Try.f34,λr => .tuple [.i r.1,.i r.2],0,λ_=>H0,cxTi,cxOrd,λ_=>none,false⟩
def g34c0:List Int:=[(8:Int),(127:Int),(27:Int),(12:Int),(10:Int),(13:Int),(32:Int),(9:Int),(11:Int)]
def g34c1:LN:=[98,100,101,102,110,114,115,116,118]
def g34p1:Pt:=nav [0,0,0,0] (nav [0] (bodyAt Try.f34))
def g34p2:Pt:=nav [0,0] g34p1
def g34p4:Pt:=nav [2,0,0] g34p2
def g34p6:Pt:=nav [0,0,0] g34p4
def g34p8:Pt:=nav [0,0,0,0] (nav [0,0,0,0] g34p6)
def g34p10:Pt:=nav [0,0] (nav [0,0,0] g34p8)
def g34p11:Pt:=nav [1,0,0,0,0] g34p10
def g34p12:Pt:=nav [2,0,0,0,0] g34p10
def g34p13:Pt:=nav [0,0] g34p11
def g34p14:Pt:=nav [0,0] g34p12
def g34p15:Pt:=nav [1,0] g34p13
def g34p17:Pt:=nav [1,0] g34p14
def g34p18:Pt:=nav [2,0] g34p14
def g34p20:Pt:=nav [0,0] g34p18
def g34p21:Pt:=nav [1,0] g34p20
def g34p23:Pt:=nav [0,0,0,0] g34p21
def g34p24:Pt:=nav [0,0] (nav [2,0] g34p20)
def g34p25:Pt:=nav [0,0] g34p23
def g34p26:Pt:=nav [1,0] g34p24
def g34p30:Pt:=nav [0,0,0,0] g34p26
def g34p31:Pt:=nav [0,0] (nav [2,0] g34p24)
def g34p33:Pt:=nav [1,0,0] g34p31
def g34p34:Pt:=nav [2,0,0] g34p31
def g34p37:Pt:=nav [0,0] g34p33
def g34p38:Pt:=nav [0,0,0,0] g34p34
def g34p40:Pt:=nav [2,0,0] g34p37
def qH6 (k:Nat)  (g:LN) (h:Int) (a:Int) (ih:Int→Option (Int×Int)):Int→Option (Int×Int) :=
 λ(c:Int)=>if (decide (c < 9)) then ((nthS g34c1 c).bind λE=>if (decide (E=a)) then ((nthL g34c0 c).bind λF=>some (F,(2:Int))) else (ih (fW .i64 (c+1)))) else (jn (λ(K:Bool)=>if K then ((g40 k g (fW .i64 (h+1)) (8:Int) (3:Int)).bind λq=>some (q.1,fW .i64 (1+q.2))) else (jn (λ(L:Bool)=>if L then ((g40 k g (fW .i64 (h+3)) (16:Int) (6:Int)).bind λb=>jn (λ(M:Bool)=>if M then (some (((-1):Int),(0:Int))) else (some (b.1,fW .i64 (4+b.2)))) (λo=>if (decide (b.2=0)) then (o true) else (if (decide ((g.length:Int)≤fW .i64 (fW .i64 (h+3)+b.2))) then (o true) else ((nthS g (fW .i64 (fW .i64 (h+3)+b.2))).bind λu=>if (!decide (u=125)) then (o true) else ((g29 k b.1).bind λx=>o (!x)))))) else (if (decide (a=120)) then ((g40 k g (fW .i64 (h+2)) (16:Int) (2:Int)).bind λr=>if (decide (r.2 < 2)) then (some (((-1):Int),(0:Int))) else (some (r.1,(4:Int)))) else (if (decide (a=94)) then (jn (λ(N:Bool)=>if N then (some (((-1):Int),(0:Int))) else ((nthS g (fW .i64 (h+2))).bind λA=>some (andI .i64 (fW .i64 A) 31,(3:Int)))) (λn=>if (decide ((g.length:Int)≤fW .i64 (h+2))) then (n true) else ((nthS g (fW .i64 (h+2))).bind λG=>if (decide (64≤G)) then ((nthS g (fW .i64 (h+2))).bind λB=>if (decide (B≤95)) then (n false) else ((nthS g (fW .i64 (h+2))).bind λj=>if (decide (97≤j)) then ((nthS g (fW .i64 (h+2))).bind λl=>n (!(decide (l≤122)))) else (n true))) else ((nthS g (fW .i64 (h+2))).bind λj=>if (decide (97≤j)) then ((nthS g (fW .i64 (h+2))).bind λl=>n (!(decide (l≤122)))) else (n true))))) else ((g15 k g (fW .i64 (h+1))).bind λm=>if (decide (m.1 < 32)) then (some (((-1):Int),(0:Int))) else (some (m.1,fW .i64 (1+m.2))))))) (λC=>if (decide (a=120)) then (if (decide (fW .i64 (h+2) < (g.length:Int))) then ((nthS g (fW .i64 (h+2))).bind λD=>C (decide (D=123))) else (C false)) else (C false)))) (λJ=>if (decide (48≤a)) then (J (decide (a≤55))) else (J false)))
def qC2 (k:Nat)  (b:LN) (c:Int) (a:Int) (n:Nat):Int→Option (Int×Int):=lp (λ_=>none) (qH6 k b c a) n
theorem qI6 (k:Nat)  (g:LN) (h:Int) (a:Int) (n:Nat) (b:Int):qC2 k g h a (n+1) b=(if (decide (b < 9)) then ((nthS g34c1 b).bind λF=>if (decide (F=a)) then ((nthL g34c0 b).bind λG=>some (G,(2:Int))) else ((qC2 k g h a n) (fW .i64 (b+1)))) else (jn (λ(L:Bool)=>if L then ((g40 k g (fW .i64 (h+1)) (8:Int) (3:Int)).bind λr=>some (r.1,fW .i64 (1+r.2))) else (jn (λ(M:Bool)=>if M then ((g40 k g (fW .i64 (h+3)) (16:Int) (6:Int)).bind λc=>jn (λ(N:Bool)=>if N then (some (((-1):Int),(0:Int))) else (some (c.1,fW .i64 (4+c.2)))) (λq=>if (decide (c.2=0)) then (q true) else (if (decide ((g.length:Int)≤fW .i64 (fW .i64 (h+3)+c.2))) then (q true) else ((nthS g (fW .i64 (fW .i64 (h+3)+c.2))).bind λx=>if (!decide (x=125)) then (q true) else ((g29 k c.1).bind λA=>q (!A)))))) else (if (decide (a=120)) then ((g40 k g (fW .i64 (h+2)) (16:Int) (2:Int)).bind λu=>if (decide (u.2 < 2)) then (some (((-1):Int),(0:Int))) else (some (u.1,(4:Int)))) else (if (decide (a=94)) then (jn (λ(O:Bool)=>if O then (some (((-1):Int),(0:Int))) else ((nthS g (fW .i64 (h+2))).bind λB=>some (andI .i64 (fW .i64 B) 31,(3:Int)))) (λo=>if (decide ((g.length:Int)≤fW .i64 (h+2))) then (o true) else ((nthS g (fW .i64 (h+2))).bind λJ=>if (decide (64≤J)) then ((nthS g (fW .i64 (h+2))).bind λC=>if (decide (C≤95)) then (o false) else ((nthS g (fW .i64 (h+2))).bind λj=>if (decide (97≤j)) then ((nthS g (fW .i64 (h+2))).bind λl=>o (!(decide (l≤122)))) else (o true))) else ((nthS g (fW .i64 (h+2))).bind λj=>if (decide (97≤j)) then ((nthS g (fW .i64 (h+2))).bind λl=>o (!(decide (l≤122)))) else (o true))))) else ((g15 k g (fW .i64 (h+1))).bind λm=>if (decide (m.1 < 32)) then (some (((-1):Int),(0:Int))) else (some (m.1,fW .i64 (1+m.2))))))) (λD=>if (decide (a=120)) then (if (decide (fW .i64 (h+2) < (g.length:Int))) then ((nthS g (fW .i64 (h+2))).bind λE=>D (decide (E=123))) else (D false)) else (D false)))) (λK=>if (decide (48≤a)) then (K (decide (a≤55))) else (K false)))):=rfl
theorem qMq (k:Nat)   (g:LN) (c:Int) (a:Int)  : ∀ (n:Nat) (j:Int),Ok Xg34 g34p8 [(0,.str g),(1,.i c),(6,.y a),(7,.str g34c1),(8,w3 g34c0),(9,.i j)] (mkH []) (qC2 k g c a n j):=by
 intro n
 induction n with
 | zero=>intro j; exact ok_none
 | succ n ih =>
  intro j
  show Ok _ _ _ _ (qH6 k g c a (qC2 k g c a n) j)
  unfold qH6
  refine qAk (p':=nav [0] g34p8) Kr ?_
  let E5:Env:=[(41,.bool (decide (j < 9))),(40,.i 9),(39,.str g34c1),(38,.i j),(0,.str g),(1,.i c),(6,.y a),(7,.str g34c1),(8,w3 g34c0),(9,.i j)]
  refine oH 8 g34p10 E5 (mkH []) ?_
  refine oS 41 (λm=>?_) (λm=>?_)
  ·refine oR 8 (atN 2 (ctl1 g34p11)) ((45,.i j)::(44,.str g34c1)::(41,.bool true)::E5) ?_
   refine oC (λ(F:Int)=>(.y F,(mkH []))) (atN 3 (ctl1 g34p11)) 46 (idxH Kr) λF c0=>?_
   let E7:Env:=[(0,.str g),(1,.i c),(6,.y a),(7,.str g34c1),(8,w3 g34c0),(9,.i j),(48,.bool (decide (F=a)))]
   refine oLH 3 g34p13 E7 (mkH []) ?_
   refine oS 48 (λm=>?_) (λm=>?_)
   ·refine oR 5 (atN 2 (ctl1 g34p15)) ((50,.i j)::(49,w3 g34c0)::(48,.bool true)::E7) ?_
    refine oC (λ(T:Int)=>(.vptr [.i T],(mkH []))) (atN 3 (ctl1 g34p15)) 51 (vidxH (sz:=1) e3_len Kr) λT c1=>?_
    exact oQ 5
   ·refine oL 7 g34p8 [(0,.str g),(1,.i c),(6,.y a),(7,.str g34c1),(8,w3 g34c0),(9,.i (fW .i64 (j+1)))] ?_
    exact ih (fW .i64 (j+1))
  ·refine oR 9 (atN 3 (ctl1 g34p12)) ((56,.bool (decide (48≤a)))::(55,.bool (decide (48≤a)))::(54,.y a)::(41,.bool false)::E5) ?_
   refine oJ g34p14 (λ(G:Bool)=>[(0,.str g),(1,.i c),(6,.y a),(53,.bool G)]) (λ(G:Bool)=>(mkH [])) (λG=>?_) (λc7 U=>?_)
   ·refine oS 53 (λm=>?_) (λm=>?_)
    ·refine oH 6 (atN 3 (ctl1 g34p17)) [(63,.i (fW .i64 (c+1))),(62,.i c),(61,.str g),(53,.bool true),(0,.str g),(1,.i c),(6,.y a),(53,.bool G)] (mkH []) ?_
     refine oA (λ(C:(Int×Int)) => .tuple [.i C.1,.i C.2]) (atN 4 (ctl1 g34p17)) 64 [.str g,.i (fW .i64 (c+1)),.i 8,.i 3] (qPm k g (fW .i64 (c+1)) (8:Int) (3:Int)) λC c2=>?_
     refine oL 7 (nav [0,0,0] g34p17) [(10,.i C.1),(11,.i C.2)] ?_
     exact oQ 8
    ·let a4:Env:=[(73,.bool (decide (a=120))),(72,.bool (decide (a=120))),(71,.y a),(53,.bool false),(0,.str g),(1,.i c),(6,.y a),(53,.bool G)]
     refine oH 6 (atN 3 (ctl1 g34p18)) a4 (mkH []) ?_
     refine oJ g34p20 (λ(J:Bool)=>[(0,.str g),(1,.i c),(6,.y a),(70,.bool J)]) (λ(J:Bool)=>(mkH [])) (λJ=>?_) (λc8 K=>?_)
     ·refine oS 70 (λm=>?_) (λm=>?_)
      ·refine oH 6 (atN 3 (ctl1 g34p21)) [(90,.i (fW .i64 (c+3))),(89,.i c),(88,.str g),(70,.bool true),(0,.str g),(1,.i c),(6,.y a),(70,.bool J)] (mkH []) ?_
       refine oA (λ(b:(Int×Int)) => .tuple [.i b.1,.i b.2]) (atN 4 (ctl1 g34p21)) 91 [.str g,.i (fW .i64 (c+3)),.i 16,.i 6] (qPm k g (fW .i64 (c+3)) (16:Int) (6:Int)) λb c3=>?_
       let V:Env:=[(0,.str g),(1,.i c),(12,.i b.1),(13,.i b.2)]
       refine oL 8 g34p23 V ?_
       refine oR 4 (atN 3 (ctl1 g34p23)) ((96,.bool (decide (b.2=0)))::(95,.bool (decide (b.2=0)))::(94,.i b.2)::V) ?_
       refine oJ g34p25 (λ(W:Bool)=>[(12,.i b.1),(13,.i b.2),(118,.bool W)]) (λ(W:Bool)=>(mkH [])) (λW=>?_) (λc9 E=>?_)
       ·refine oS 118 (λm=>?_) (λm=>?_)
        ·exact oQ 7
        ·exact oQ 11
       ·refine oS 96 (λm=>?_) (λm=>?_)
        ·refine oLH 23 g34p25 [(12,.i b.1),(13,.i b.2),(118,.bool true)] (mkH []) ?_
         exact E true
        ·let a5:Env:=((105,.bool (decide ((g.length:Int)≤fW .i64 (fW .i64 (c+3)+b.2))))::(104,.bool (decide ((g.length:Int)≤fW .i64 (fW .i64 (c+3)+b.2))))::(103,.bool (decide ((g.length:Int)≤fW .i64 (fW .i64 (c+3)+b.2))))::(102,.i (g.length:Int))::(101,.str g)::(100,.i (fW .i64 (fW .i64 (c+3)+b.2)))::(99,.i b.2)::(98,.i (fW .i64 (c+3)))::(97,.i c)::(96,.bool false)::(96,.bool (decide (b.2=0)))::(95,.bool (decide (b.2=0)))::(94,.i b.2)::V)
         refine oH 9 (atN 12 (ctl1 g34p23)) a5 (mkH []) ?_
         refine oS 105 (λm=>?_) (λm=>?_)
         ·refine oL 14 g34p25 [(12,.i b.1),(13,.i b.2),(118,.bool true)] ?_
          exact E true
         ·let Y:Env:=((110,.i (fW .i64 (fW .i64 (c+3)+b.2)))::(109,.i b.2)::(108,.i (fW .i64 (c+3)))::(107,.i c)::(106,.str g)::(105,.bool false)::a5)
          refine oR 5 (atN 17 (ctl1 g34p23)) Y ?_
          refine oC (λ(l:Int)=>(.y l,(mkH []))) (atN 18 (ctl1 g34p23)) 111 (idxH Kr) λl b3=>?_
          refine oH 3 (atN 21 (ctl1 g34p23)) ((114,.bool (!decide (l=125)))::(113,.bool (!decide (l=125)))::(112,.bool (!decide (l=125)))::(111,.y l)::Y) (mkH []) ?_
          refine oS 114 (λm=>?_) (λm=>?_)
          ·refine oL 5 g34p25 [(12,.i b.1),(13,.i b.2),(118,.bool true)] ?_
           exact E true
          ·refine oR 1 (atN 22 (ctl1 g34p23)) ((115,.i b.1)::(114,.bool false)::(114,.bool (!decide (l=125)))::(113,.bool (!decide (l=125)))::(112,.bool (!decide (l=125)))::(111,.y l)::Y) ?_
           refine oA (λ(A:Bool) => .bool A) (atN 23 (ctl1 g34p23)) 116 [.i b.1] (g29_ok k b.1) λA b4=>?_
           refine oL 3 g34p25 [(12,.i b.1),(13,.i b.2),(118,.bool (!A))] ?_
           exact E (!A)
      ·let a6:Env:=[(122,.bool (decide (a=120))),(124,.bool (decide (a=120))),(123,.y a),(70,.bool false),(0,.str g),(1,.i c),(6,.y a),(70,.bool J)]
       refine oH 7 g34p24 a6 (mkH []) ?_
       refine oS 122 (λm=>?_) (λm=>?_)
       ·refine oR 6 (atN 3 (ctl1 g34p26)) ((128,.i (fW .i64 (c+2)))::(127,.i c)::(126,.str g)::(122,.bool true)::a6) ?_
        refine oA (λ(u:(Int×Int)) => .tuple [.i u.1,.i u.2]) (atN 4 (ctl1 g34p26)) 129 [.str g,.i (fW .i64 (c+2)),.i 16,.i 2] (qPm k g (fW .i64 (c+2)) (16:Int) (2:Int)) λu c4=>?_
        let a7:Env:=[(14,.i u.1),(15,.i u.2)]
        refine oL 8 g34p30 a7 ?_
        refine oR 4 (nav [0,0] g34p30) ((133,.bool (decide (u.2 < 2)))::(132,.i u.2)::a7) ?_
        refine oS 133 (λm=>?_) (λm=>?_)
        ·exact oQ 7
        ·exact oQ 9
       ·refine oL 7 g34p31 [(0,.str g),(1,.i c),(135,.bool (decide (a=94)))] ?_
        let a8:Env:=[(0,.str g),(1,.i c),(135,.bool (decide (a=94)))]
        refine oS 135 (λm=>?_) (λm=>?_)
        ·let Z:Env:=((143,.bool (decide ((g.length:Int)≤fW .i64 (c+2))))::(142,.bool (decide ((g.length:Int)≤fW .i64 (c+2))))::(141,.i (g.length:Int))::(140,.str g)::(139,.i (fW .i64 (c+2)))::(138,.i c)::(135,.bool true)::a8)
         refine oR 10 (atN 6 (ctl1 g34p33)) Z ?_
         refine oJ g34p37 (λ(M:Bool)=>[(0,.str g),(1,.i c),(171,.bool M)]) (λ(M:Bool)=>(mkH [])) (λM=>?_) (λd0 x=>?_)
         ·refine oS 171 (λm=>?_) (λm=>?_)
          ·exact oQ 7
          ·refine oH 7 (atN 3 (ctl1 g34p40)) [(174,.i (fW .i64 (c+2))),(173,.i c),(172,.str g),(171,.bool false),(0,.str g),(1,.i c),(171,.bool M)] (mkH []) ?_
           refine oC (λ(L:Int)=>(.y L,(mkH []))) (atN 4 (ctl1 g34p40)) 175 (idxH Kr) λL b5=>?_
           exact oQ 6
         ·refine oS 143 (λm=>?_) (λm=>?_)
          ·refine oLH 29 g34p37 [(0,.str g),(1,.i c),(171,.bool true)] (mkH []) ?_
           exact x true
          ·refine oH 3 (atN 9 (ctl1 g34p33)) ((146,.i (fW .i64 (c+2)))::(145,.i c)::(144,.str g)::(143,.bool false)::Z) (mkH []) ?_
           refine oC (λ(D:Int)=>(.y D,(mkH []))) (atN 10 (ctl1 g34p33)) 147 (idxH Kr) λD c5=>?_
           let N:Env:=((149,.bool (decide (64≤D)))::(148,.bool (decide (64≤D)))::(147,.y D)::(146,.i (fW .i64 (c+2)))::(145,.i c)::(144,.str g)::(143,.bool false)::Z)
           refine oH 2 (atN 12 (ctl1 g34p33)) N (mkH []) ?_
           refine oS 149 (λm=>?_) (λm=>?_)
           ·refine oR 3 (atN 15 (ctl1 g34p33)) ((152,.i (fW .i64 (c+2)))::(151,.i c)::(150,.str g)::(149,.bool true)::N) ?_
            refine oC (λ(r:Int)=>(.y r,(mkH []))) (atN 16 (ctl1 g34p33)) 153 (idxH Kr) λr b6=>?_
            let a2:Env:=((156,.bool (decide (r≤95)))::(155,.bool (decide (r≤95)))::(154,.bool (decide (r≤95)))::(153,.y r)::(152,.i (fW .i64 (c+2)))::(151,.i c)::(150,.str g)::(149,.bool true)::N)
            refine oH 3 (atN 19 (ctl1 g34p33)) a2 (mkH []) ?_
            refine oS 156 (λm=>?_) (λm=>?_)
            ·refine oL 16 g34p37 [(0,.str g),(1,.i c),(171,.bool false)] ?_
             exact x false
            ·refine oR 3 (atN 22 (ctl1 g34p33)) ((159,.i (fW .i64 (c+2)))::(158,.i c)::(157,.str g)::(156,.bool false)::a2) ?_
             refine oC (λ(h:Int)=>(.y h,(mkH []))) (atN 23 (ctl1 g34p33)) 160 (idxH Kr) λh O=>?_
             let a9:Env:=((162,.bool (decide (97≤h)))::(161,.bool (decide (97≤h)))::(160,.y h)::(159,.i (fW .i64 (c+2)))::(158,.i c)::(157,.str g)::(156,.bool false)::a2)
             refine oH 2 (atN 25 (ctl1 g34p33)) a9 (mkH []) ?_
             refine oS 162 (λm=>?_) (λm=>?_)
             ·refine oR 3 (atN 28 (ctl1 g34p33)) ((165,.i (fW .i64 (c+2)))::(164,.i c)::(163,.str g)::(162,.bool true)::a9) ?_
              refine oC (λ(o:Int)=>(.y o,(mkH []))) (atN 29 (ctl1 g34p33)) 166 (idxH Kr) λo S=>?_
              refine oLH 6 g34p37 [(0,.str g),(1,.i c),(171,.bool (!(decide (o≤122))))] (mkH []) ?_
              exact x (!(decide (o≤122)))
             ·refine oL 10 g34p37 [(0,.str g),(1,.i c),(171,.bool true)] ?_
              exact x true
           ·let a3:Env:=((159,.i (fW .i64 (c+2)))::(158,.i c)::(157,.str g)::(156,.bool false)::(155,.bool false)::(154,.tuple [])::(153,.tuple [])::(152,.tuple [])::(151,.tuple [])::(150,.tuple [])::(149,.bool false)::N)
            refine oR 10 (atN 22 (ctl1 g34p33)) a3 ?_
            refine oC (λ(h:Int)=>(.y h,(mkH []))) (atN 23 (ctl1 g34p33)) 160 (idxH Kr) λh O=>?_
            refine oH 2 (atN 25 (ctl1 g34p33)) ((162,.bool (decide (97≤h)))::(161,.bool (decide (97≤h)))::(160,.y h)::a3) (mkH []) ?_
            refine oS 162 (λm=>?_) (λm=>?_)
            ·refine oR 3 (atN 28 (ctl1 g34p33)) ((165,.i (fW .i64 (c+2)))::(164,.i c)::(163,.str g)::(162,.bool true)::(162,.bool (decide (97≤h)))::(161,.bool (decide (97≤h)))::(160,.y h)::a3) ?_
             refine oC (λ(o:Int)=>(.y o,(mkH []))) (atN 29 (ctl1 g34p33)) 166 (idxH Kr) λo S=>?_
             refine oLH 6 g34p37 [(0,.str g),(1,.i c),(171,.bool (!(decide (o≤122))))] (mkH []) ?_
             exact x (!(decide (o≤122)))
            ·refine oL 10 g34p37 [(0,.str g),(1,.i c),(171,.bool true)] ?_
             exact x true
        ·refine oR 7 (atN 3 (ctl1 g34p34)) ((181,.i (fW .i64 (c+1)))::(180,.i c)::(179,.str g)::(135,.bool false)::a8) ?_
         refine oA (λ(q:(Int×Int)) => .tuple [.i q.1,.i q.2]) (atN 4 (ctl1 g34p34)) 182 [.str g,.i (fW .i64 (c+1))] (qLz k g (fW .i64 (c+1))) λq b7=>?_
         let b1:Env:=[(16,.i q.1),(17,.i q.2)]
         refine oL 8 g34p38 b1 ?_
         refine oR 4 (nav [0,0] g34p38) ((186,.bool (decide (q.1 < 32)))::(185,.i q.1)::b1) ?_
         refine oS 186 (λm=>?_) (λm=>?_)
         ·exact oQ 7
         ·exact oQ 11
     ·refine oS 73 (λm=>?_) (λm=>?_)
      ·let b2:Env:=((80,.bool (decide (fW .i64 (c+2) < (g.length:Int))))::(79,.bool (decide (fW .i64 (c+2) < (g.length:Int))))::(78,.bool (decide (fW .i64 (c+2) < (g.length:Int))))::(77,.i (g.length:Int))::(76,.str g)::(75,.i (fW .i64 (c+2)))::(74,.i c)::(73,.bool true)::a4)
       refine oH 7 (atN 10 (ctl1 g34p18)) b2 (mkH []) ?_
       refine oS 80 (λm=>?_) (λm=>?_)
       ·refine oR 3 (atN 13 (ctl1 g34p18)) ((83,.i (fW .i64 (c+2)))::(82,.i c)::(81,.str g)::(80,.bool true)::b2) ?_
        refine oC (λ(B:Int)=>(.y B,(mkH []))) (atN 14 (ctl1 g34p18)) 84 (idxH Kr) λB b8=>?_
        refine oLH 4 g34p20 [(0,.str g),(1,.i c),(6,.y a),(70,.bool (decide (B=123)))] (mkH []) ?_
        exact K (decide (B=123))
       ·refine oL 8 g34p20 [(0,.str g),(1,.i c),(6,.y a),(70,.bool false)] ?_
        exact K false
      ·refine oLH 15 g34p20 [(0,.str g),(1,.i c),(6,.y a),(70,.bool false)] (mkH []) ?_
       exact K false
   ·refine oS 56 (λm=>?_) (λm=>?_)
    ·refine oLH 5 g34p14 [(0,.str g),(1,.i c),(6,.y a),(53,.bool (decide (a≤55)))] (mkH []) ?_
     exact U (decide (a≤55))
    ·refine oLH 5 g34p14 [(0,.str g),(1,.i c),(6,.y a),(53,.bool false)] (mkH []) ?_
     exact U false
def g34 (k:Nat) (h:LN) (c:Int):Option (Int×Int) :=
 jn (λ(j:Bool)=>if j then (some (((-1):Int),(0:Int))) else ((nthS h (fW .i64 (c+1))).bind λg=>qC2 k h c g k 0)) (λa=>if (decide (c < 0)) then (a true) else (if (decide (fW .i64 ((h.length:Int) - 1)≤c)) then (a true) else ((nthS h c).bind λb=>a (!decide (b=92)))))
theorem g34_ok (k:Nat) (b:LN) (a:Int) (r:(Int×Int)) (h:g34 k b a=some r):PureOk Try.prog 34 [.str b,.i a] (.tuple [.i r.1,.i r.2]):=by
 refine qA6 Xg34 (λ_=>⟨rfl,rfl⟩) Try.func34 (by decide +kernel) Kr (t:=g34 k b a) ?_ h
 unfold g34
 refine qA (eE:=[(0,.str b),(1,.i a)]) Kr ?_
 let u:Env:=[(20,.bool (decide (a < 0))),(19,.bool (decide (a < 0))),(18,.i a),(5,.i 0),(4,.i 0),(0,.str b),(1,.i a)]
 refine oH 11 (atN 3 (ctl1 g34p1)) u (mkH []) ?_
 refine oJ g34p2 (λ(l:Bool)=>[(0,.str b),(1,.i a),(32,.bool l)]) (λ(l:Bool)=>(mkH [])) (λl=>?_) (λA j=>?_)
 ·refine oS 32 (λm=>?_) (λm=>?_)
  ·exact oQ 7
  ·let x:Env:=[(35,.i (fW .i64 (a+1))),(34,.i a),(33,.str b),(32,.bool false),(0,.str b),(1,.i a),(32,.bool l)]
   refine oH 7 (atN 3 (ctl1 g34p4)) x (mkH []) ?_
   refine oC (λ(c:Int)=>(.y c,(mkH []))) (atN 4 (ctl1 g34p4)) 36 (idxH Kr) λc q=>?_
   refine oH 5 (atN 1 (ctl1 g34p6)) ((37,.slice 0 9 0 9 1)::(6,.y c)::(36,.y c)::x) (mkH [⟨[.i 8,.i 127,.i 27,.i 12,.i 10,.i 13,.i 32,.i 9,.i 11],0,false⟩]) ?_
   refine oZ 37 0 9 1 [.i 8,.i 127,.i 27,.i 12,.i 10,.i 13,.i 32,.i 9,.i 11] [0,1,6,32,33,34,35,36] [] trivial ?_
   refine oLH 10 g34p8 [(0,.str b),(1,.i a),(6,.y c),(7,.str g34c1),(8,w3 g34c0),(9,.i 0)] (mkH [⟨[],0,false⟩]) ?_
   refine qA9 [] [⟨[],0,false⟩] Kr rfl Kr trivial ?_
   exact (qMq k b a c k) 0
 ·refine oS 20 (λm=>?_) (λm=>?_)
  ·refine oLH 13 g34p2 [(0,.str b),(1,.i a),(32,.bool true)] (mkH []) ?_
   exact j true
  ·let n:Env:=((27,.bool (decide (fW .i64 ((b.length:Int) - 1)≤a)))::(26,.bool (decide (fW .i64 ((b.length:Int) - 1)≤a)))::(25,.bool (decide (fW .i64 ((b.length:Int) - 1)≤a)))::(24,.i (fW .i64 ((b.length:Int) - 1)))::(23,.i (b.length:Int))::(22,.str b)::(21,.i a)::(20,.bool false)::u)
   refine oH 7 (atN 10 (ctl1 g34p1)) n (mkH []) ?_
   refine oS 27 (λm=>?_) (λm=>?_)
   ·refine oL 6 g34p2 [(0,.str b),(1,.i a),(32,.bool true)] ?_
    exact j true
   ·refine oR 2 (atN 12 (ctl1 g34p1)) ((29,.i a)::(28,.str b)::(27,.bool false)::n) ?_
    refine oC (λ(g:Int)=>(.y g,(mkH []))) (atN 13 (ctl1 g34p1)) 30 (idxH Kr) λg o=>?_
    refine oLH 3 g34p2 [(0,.str b),(1,.i a),(32,.bool (!decide (g=92)))] (mkH []) ?_
    exact j (!decide (g=92))
end
def digV (b : Nat) : Nat → Nat → LN → Nat × Nat
 | 0,v,_=>(v,0)
 | _+1,v,[]=>(v,0)
 | m+1,v,c::r=>if dgN c < b then ((digV b m (v * b+dgN c) r).1,(digV b m (v * b+dgN c) r).2+1) else (v,0)
def hexBr (q:LN):Int×Int:=if (digV 16 6 0 q).2=0 then (-1,0) else match q.drop (digV 16 6 0 q).2 with | c::_=>if c=125∧cpN (digV 16 6 0 q).1=true then (((digV 16 6 0 q).1:Int),((4+(digV 16 6 0 q).2:Nat):Int)) else (-1,0) | []=>(-1,0)
def hex2 (r:LN):Int×Int:=if (digV 16 2 0 r).2 < 2 then (-1,0) else (((digV 16 2 0 r).1:Int),4)
def hexN (r:LN):Int×Int:=match r with | c::q=>if c=123 then hexBr q else hex2 (c::q) | []=>(-1,0)
def ctlN (r:LN):Int×Int:=match r with | c::_=>if c < 64∨95 < c∧(c < 97∨122 < c) then (-1,0) else (((c % 32:Nat):Int),3) | []=>(-1,0)
def nameN (c:Nat):Nat:=if c=98 then 8 else if c=100 then 127 else if c=101 then 27 else if c=102 then 12 else if c=110 then 10 else if c=114 then 13 else if c=115 then 32 else if c=116 then 9 else if c=118 then 11 else 0
def uniN (s:LN):Int×Int:=if (dec s).1 < 32 then (-1,0) else ((dec s).1,(dec s).2+1)
def octN (s:LN):Int×Int:=(((digV 8 3 0 s).1:Int),((1+(digV 8 3 0 s).2:Nat):Int))
def escB (c:Nat) (r:LN):Int×Int:=if c=120 then hexN r else if c=94 then ctlN r else if 48≤c∧c≤55 then octN (c::r) else if nameN c=0 then uniN (c::r) else ((nameN c:Int),2)
def escN (s:LN):Int×Int:=match s with | a::c::r=>if a=92 then escB c r else (-1,0) | _=>(-1,0)
theorem qE (b : Nat) : ∀ (m v : Nat) (s : LN), (digV b m v s).2 ≤ m ∧ (digV b m v s).2 ≤ s.length
 | 0,v,s=>⟨Nat.le_refl _,Nat.zero_le _⟩
 | m+1,v,[]=>⟨Nat.zero_le _,Nat.le_refl _⟩
 | m+1,v,c::r=>by
  have:=qE b m (v * b+dgN c) r
  simp only [digV]
  split
  ·simp only [List.length_cons]; omega
  ·exact ⟨Nat.zero_le _,Nat.zero_le _⟩
theorem and31 {c:Nat} (h:c < 256):andI .u8 (c:Int) 31=((c % 32:Nat):Int)∧andI .i64 (c:Int) 31=((c % 32:Nat):Int):=by
 have w:=byteAll (f:=λc=>decide (andI .u8 (c:Int) 31=((c % 32:Nat):Int)) && decide (andI .i64 (c:Int) 31=((c % 32:Nat):Int))) (by decide +kernel) h
 simpa using w
def skipN : LN → Nat
 | []=>0
 | c::r=>if blkN c then skipN r+1 else 0
def innN : LN → Nat
 | []=>0
 | c::r=>if inrN c then innN r+1 else 0
def shwN (s:LN):Nat:=if (dec s).1 < 32∨(dec s).1=127 then 0 else (dec s).2.toNat
def bmp (n m:Nat):Nat:=if m=0 then 0 else n+m
def quoN (q : Nat) : Nat → LN → Nat
 | 0,_=>0
 | _+1,[]=>0
 | f+1,c::r=>if c=q then 1 else if c=92 then bmp (1+shwN r) (if shwN r=0 then 0 else quoN q f (r.drop (shwN r))) else bmp (shwN (c::r)) (if shwN (c::r)=0 then 0 else quoN q f ((c::r).drop (shwN (c::r))))
def qtdN (s:LN):Nat:=match s with | q::r=>bmp 1 (quoN q r.length r) | []=>0
def chrN (s:LN):Nat:=match s with | _::c::r=>if c=92 then (if 0 < (escN (c::r)).2 then (escN (c::r)).2.toNat+1 else 0) else if shwN (c::r) ≠ 0∧c ≠ 32 then shwN (c::r)+1 else 0 | _=>0
def endN (s:LN) (n kind:Nat):Nat×Nat:=match s.drop n with | c::_=>if inrN c then (0,0) else (n,kind) | []=>(n,kind)
def hashN (s:LN) (w:Nat):Bool:=match s.drop w with | c::_=>decide (c=35) && (decide ((frontN s).1=0) || decide (w < (frontN s).1)) | []=>false
def numN (s:LN):Nat×Nat:=if partN s=0 then (if hashN s (wholeN s) then (0,0) else endN s (wholeN s) 3) else endN s (partN s) 4
def lineN : LN → Nat
 | []=>0
 | c::r=>if c=10 then 0 else lineN r+1
def trmN (s : LN) : Nat → Nat
 | 0=>0
 | i+1=>match s.drop i with | c::_=>if blkN c then trmN s i else i+1 | []=>i+1
def cmtN (s:LN):Nat:=trmN s (lineN s)
def mac1 (n:Nat) (t:LN):Nat:=match t with | c::_=>if begN c=1∨begN c=2 then n+innN t else 0 | []=>0
def macN (s:LN):Nat:=match s with | _::c::r=>if c=63 then mac1 2 r else mac1 1 (c::r) | _=>0
def dotN (r:LN):Bool:=match r with | []=>true | c::_=>blkN c || decide (c=37)
def oneN (s:LN):Nat×Nat:=match s with
 | []=>(0,0)
 | c :: r => if c = 37 then (cmtN s, 11) else if c = 46 ∧ dotN r = true then (1, 10) else if c = 39 then (qtdN s, 1) else if c = 34 then (qtdN s, 6) else if c = 36 then (chrN s, 5) else if c = 63 then (macN s, 7)
  else if begN c=3 then numN s else if begN c=1∨begN c=2 then (innN s,if rsvN (s.take (innN s)) then 8 else begN c) else (lngN s,9)
theorem qKd : ∀ s : LN, skipN s ≤ s.length
 | []=>Nat.le_refl _
 | c::r=>by simp only [skipN,List.length_cons]; have:=qKd r; split <;> omega
theorem qDz : ∀ s : LN, innN s ≤ s.length
 | []=>Nat.le_refl _
 | c::r=>by simp only [innN,List.length_cons]; have:=qDz r; split <;> omega
theorem qH : ∀ s : LN, lineN s ≤ s.length
 | []=>Nat.le_refl _
 | c::r=>by simp only [lineN,List.length_cons]; have:=qH r; split <;> omega
theorem qIe (s : LN) : ∀ i, trmN s i ≤ i
 | 0=>Nat.le_refl _
 | i+1=>by
  simp only [trmN]
  have:=qIe s i
  split
  ·split <;> omega
  ·omega
theorem qIf (s:LN):shwN s≤s.length∧shwN s≤4:=by
 unfold shwN
 split
 ·omega
 ·cases s with
  | nil=>exact ⟨Nat.le_refl _,Nat.zero_le _⟩
  | cons c r =>
   obtain ⟨n,n1,n2,n3,n4,-⟩:=qD0 (s:=c::r) (by simp)
   rw [n1,Int.toNat_natCast]; exact ⟨n4,n3⟩
theorem qQk {n m k:Nat} (h:n+m≤k):bmp n m≤k:=by unfold bmp; split <;> omega
theorem qIr (q : Nat) : ∀ (f : Nat) (s : LN), quoN q f s ≤ s.length
 | 0,s=>Nat.zero_le _
 | f+1,[]=>Nat.zero_le _
 | f+1,c::r=>by
  have h1:=(qIf r).1
  have h2:=(qIf (c::r)).1
  have h3:=qIr q f (r.drop (shwN r))
  have h4:=qIr q f ((c::r).drop (shwN (c::r)))
  rw [List.length_drop] at h3 h4
  simp only [List.length_cons] at h2 h4 ⊢
  simp only [quoN]
  split
  ·omega
  ·split
   ·by_cases h:shwN r=0
    ·rw [if_pos h]; simp [bmp]
    ·rw [if_neg h]; exact qQk (by omega)
   ·by_cases h:shwN (c::r)=0
    ·rw [if_pos h]; simp [bmp]
    ·rw [if_neg h]; exact qQk (by omega)
theorem qNm (s:LN):qtdN s≤s.length:=by
 unfold qtdN
 split
 ·rename_i q r
  have:=qIr q r.length r
  simp only [List.length_cons]
  exact qQk (by omega)
 ·exact Nat.zero_le _
theorem qIb {c:Nat} (r:LN) (h:c < 128):dec (c::r)=((c:Int),1):=by
 have hl:leadN c=(1,c):=by unfold leadN; rw [if_pos h]
 have hc:cpN c=true:=by unfold cpN; simp; omega
 have hm:moreN 0 c r=some c:=by cases r <;> rfl
 simp only [dec,hl]
 rw [if_neg (by decide)]
 show fitN 1 (moreN 0 c r)=_
 rw [hm]
 show (if leastN 1≤c∧cpN c=true then _ else _)=_
 rw [if_pos ⟨Nat.zero_le _,hc⟩]
 rfl
theorem dec_big {c:Nat} (r:LN) (h:¬ c < 128):(dec (c::r)).1 = -1∨128≤(dec (c::r)).1:=by
 simp only [dec]
 split
 ·exact .inl rfl
 ·rename_i h0
  unfold fitN
  split
  ·exact .inl rfl
  ·split
   ·rename_i y hy hh
    right
    have:(leadN c).1=2∨(leadN c).1=3∨(leadN c).1=4:=by
     unfold leadN at h0 ⊢
     rw [if_neg h] at h0 ⊢
     split
     ·simp
     ·split
      ·simp
      ·split
       ·simp
       ·rename_i a b c; rw [if_neg a,if_neg b,if_neg c] at h0; exact absurd rfl h0
    have h1:=hh.1
    rcases this with e | e | e <;> rw [e] at h1 <;> simp [leastN] at h1 <;> (show (128:Int)≤(_:Int); omega)
   ·exact .inl rfl
theorem qGf (s:LN):escN s=(-1,0)∨∃ v n:Nat,escN s=((v:Int),(n:Int))∧2≤n∧n≤s.length:=by
 match s with
 | []=>exact .inl rfl
 | [a]=>exact .inl rfl
 | a::c::r =>
  simp only [escN]
  split
  ·unfold escB
   split
   ·
    unfold hexN
    cases r with
    | nil=>exact .inl rfl
    | cons d q =>
     simp only []
     split
     ·unfold hexBr
      split
      ·exact .inl rfl
      ·have h1:=(qE 16 6 0 q).2
       split
       ·rename_i hz
        split
        ·right
         refine ⟨_,_,rfl,by omega,?_⟩
         have:=congrArg List.length hz
         simp only [List.length_drop,List.length_cons] at this ⊢
         omega
        ·exact .inl rfl
       ·exact .inl rfl
     ·unfold hex2
      split
      ·exact .inl rfl
      ·have h1:=qE 16 2 0 (d::q)
       right
       refine ⟨_,4,rfl,by omega,?_⟩
       simp only [List.length_cons] at h1 ⊢
       omega
   ·split
    ·unfold ctlN
     split
     ·split
      ·exact .inl rfl
      ·right; exact ⟨_,3,rfl,by omega,by simp⟩
     ·exact .inl rfl
    ·split
     ·right
      rename_i h8
      have h1:=qE 8 3 0 (c::r)
      refine ⟨_,_,rfl,?_,?_⟩
      ·have:dgN c < 8:=by unfold dgN; rw [if_pos (by omega)]; omega
       simp only [digV,this,if_true]; omega
      ·simp only [List.length_cons] at h1 ⊢; omega
     ·split
      ·unfold uniN
       split
       ·exact .inl rfl
       ·rename_i h32
        obtain ⟨n,n1,n2,n3,n4,-⟩:=qD0 (s:=c::r) (by simp)
        right
        refine ⟨(dec (c::r)).1.toNat,n+1,?_,by omega,?_⟩
        ·rw [n1]; refine Prod.ext ?_ ?_
         ·simp only []; omega
         ·simp only []; push_cast; rfl
        ·simp only [List.length_cons] at n4 ⊢; omega
      ·right; exact ⟨_,2,rfl,by omega,by simp⟩
  ·exact .inl rfl
theorem chrN_le (s:LN):chrN s≤s.length:=by
 unfold chrN
 split
 ·rename_i a c r
  have h1:=(qIf (c::r)).1
  split
  ·rcases qGf (c::r) with h | ⟨v,n,h,h2,h3⟩
   ·rw [h]; simp
   ·rw [h]; simp only [List.length_cons] at h3 ⊢
    split
    ·rw [Int.toNat_natCast]; omega
    ·omega
  ·split
   ·simp only [List.length_cons] at h1 ⊢; omega
   ·omega
 ·omega
theorem expN_le (s:LN):expN s≤s.length:=by
 unfold expN
 split
 ·rename_i e q
  split
  ·have h1:=qBs 10 false (q.drop (sgn q))
   have h2:=sgn_le q
   rw [List.length_drop] at h1
   simp only [List.length_cons]
   split <;> omega
  ·omega
 ·omega
theorem qKn (s:LN):partN s≤s.length:=by
 unfold partN
 split
 ·omega
 ·have h0:=qBs 10 false s
  unfold fracN
  split
  ·rename_i c r hc
   have hl:=qC hc
   split
   ·split
    ·omega
    ·have h1:=qBs 10 false r
     have h2:=expN_le (r.drop (runN 10 false r))
     rw [List.length_drop] at h2
     omega
   ·omega
  ·omega
theorem qHg (s:LN):wholeN s≤s.length:=by
 unfold wholeN
 have h0:=qBs 10 false s
 have h1:=qBs (frontN s).2 false (s.drop (frontN s).1)
 have h2:=(qQc s).1
 rw [List.length_drop] at h1
 split <;> omega
theorem qQg {s:LN} {n kind:Nat} (h:n≤s.length):(endN s n kind).1≤s.length:=by
 unfold endN
 split
 ·split
  ·exact Nat.zero_le _
  ·exact h
 ·exact h
theorem numN_le (s:LN):(numN s).1≤s.length:=by
 unfold numN
 split
 ·split
  ·exact Nat.zero_le _
  ·exact qQg (qHg s)
 ·exact qQg (qKn s)
theorem qO4 (n:Nat) (t:LN):mac1 n t≤n+t.length:=by
 unfold mac1
 split
 ·rename_i c r
  have:=qDz (c::r)
  split <;> omega
 ·omega
theorem macN_le (s:LN):macN s≤s.length:=by
 unfold macN
 split
 ·rename_i a c r
  have h1:=qO4 2 r
  have h2:=qO4 1 (c::r)
  simp only [List.length_cons] at h2 ⊢
  split <;> omega
 ·omega
theorem qNy (s:LN):(oneN s).1≤s.length:=by
 unfold oneN
 split
 ·exact Nat.le_refl _
 ·rename_i c r
  repeat' split
  ·exact Nat.le_trans (qIe _ _) (qH _)
  ·simp
  ·exact qNm (c::r)
  ·exact qNm (c::r)
  ·exact chrN_le (c::r)
  ·exact macN_le (c::r)
  ·exact numN_le (c::r)
  ·exact qDz (c::r)
  ·exact qDz (c::r)
  ·exact qQa _ _
def mkTok (s:LN) (x:Nat×Nat×Nat):S38:=⟨(x.1:Int),(s.drop x.2.1).take x.2.2,(x.2.1:Int)⟩
def toksN (s : LN) : Nat → Nat → Option (List (Nat × Nat × Nat))
 | 0,_=>some []
 | f+1,a=>if s.length≤a+skipN (s.drop a) then some [] else if (oneN (s.drop (a+skipN (s.drop a)))).1=0 then none else (toksN s f (a+skipN (s.drop a)+(oneN (s.drop (a+skipN (s.drop a)))).1)).map λl=>((oneN (s.drop (a+skipN (s.drop a)))).2,a+skipN (s.drop a),(oneN (s.drop (a+skipN (s.drop a)))).1)::l
def scanN (s:LN):List S38×Int:=if 65536 < s.length then ([],3) else if vld s.length s=false then ([],2) else match toksN s (s.length+1) 0 with | some l=>(l.map (mkTok s),0) | none=>([],4)
def tok0:S38:=⟨0,[],0⟩
def oneAt (s:LN) (a:Nat):S38×Int:=if (oneN (s.drop a)).1=0 then (tok0,4) else (mkTok s ((oneN (s.drop a)).2,a,(oneN (s.drop a)).1),0)
theorem escN_no {a:Nat} {r:LN} (h:a ≠ 92):escN (a::r)=(-1,0):=by
 cases r with
 | nil=>rfl
 | cons c r=>simp only [escN,h,if_false]
theorem qNe (k : Nat) {s : LN} (hs : By s) (hl : Sz s) {p b M : Nat} (hb : b ≤ 16) (hpl : p ≤ s.length + 10) (hM : M ≤ 6) : ∀ (d f n v : Nat), n + d = M → d < f → (v + 1) * 16 ^ d ≤ 16777216 →
 qG6 k s (p:Int) (b:Int) (M:Int) f (v:Int) (n:Int)=some (((digV b d v (s.drop (p+n))).1:Int),((n+(digV b d v (s.drop (p+n))).2:Nat):Int))
 | 0,f,n,v,hn,hf,hv=>by
  unfold Sz at hl
  obtain ⟨f,rfl⟩:∃ f',f=f'+1:=⟨f - 1,by omega⟩
  rw [qLu]
  refine (jS (v:=(false,(v:Int),(n:Int))) (λj=>?_)).trans ?_
  ·clear hv; simp (disch:=omega) only [↓reduceIte,↓jn,gsL]
  ·rfl
 | d+1,f,n,v,hn,hf,hv=>by
  have hl':=hl
  unfold Sz at hl
  obtain ⟨f,rfl⟩:∃ f',f=f'+1:=⟨f - 1,by omega⟩
  rw [qLu]
  rcases Nat.lt_or_ge (p+n) s.length with h | h
  ·obtain ⟨c,r,hc,hr,hm,hrl⟩:=dcons h
   have nc:nthS s ((p:Int)+n)=some (c:Int):=nthX (by omega) hc
   have vc:=qBc k (b:=b) (hs c hm) (by omega)
   by_cases hd:dgN c < b
   ·rw [if_pos hd] at vc
    have e:=λ_:Unit=>fw_s (n:=n) (by clear hv; omega)
    refine (jS (v:=(true,(v:Int),(n:Int))) (λj=>?_)).trans ?_
    ·clear hv; simp (disch:=omega) only [↓reduceIte,↓jn,gsL,nc,vc]
    ·refine iT (by first | (simp (disch:=omega) only [↓reduceIte,↓jn,gsL]; done) | rfl) ?_
     refine bS (by (try simp (disch:=omega) only [fwI]); exact nc) ?_
     refine bS (by (try simp (disch:=omega) only [fwI]); exact vc) ?_
     have h16:1≤16 ^ d:=Nat.one_le_pow _ _ (by decide)
     have hvb:v * b≤v * 16:=Nat.mul_le_mul_left _ hb
     have hv':(v * b+dgN c+1) * 16 ^ d≤16777216:=by
      refine Nat.le_trans ?_ hv
      rw [Nat.pow_succ 16 d,Nat.mul_comm (16 ^ d) 16,← Nat.mul_assoc]
      exact Nat.mul_le_mul_right _ (by omega)
     have hv1:v * b+dgN c+1≤16777216:=Nat.le_trans (Nat.le_mul_of_pos_right _ h16) hv'
     have ih:=qNe k hs hl' (p:=p) (b:=b) (M:=M) hb hpl hM d f (n+1) (v * b+dgN c) (by omega) (by omega) hv'
     rw [e (),show (v:Int) * (b:Int)=((v * b:Nat):Int) from by push_cast; rfl,fwI (n:=((v * b:Nat):Int)) (by omega) (by omega),fw_a (by omega) (by omega)]
     refine ih.trans ?_
     rw [show p+(n+1)=p+n+1 from rfl,hr,hc]
     simp only [digV,hd,if_true]
     rw [Nat.add_assoc n 1,Nat.add_comm 1]
   ·rw [if_neg hd] at vc
    refine (jS (v:=(false,(v:Int),(n:Int))) (λj=>?_)).trans ?_
    ·clear hv; simp (disch:=omega) only [↓reduceIte,↓jn,gsL,nc,vc]
    ·rw [hc]; simp only [digV,hd,if_false]; rfl
  ·refine (jS (v:=(false,(v:Int),(n:Int))) (λj=>?_)).trans ?_
   ·clear hv; simp (disch:=omega) only [↓reduceIte,↓jn,gsL]
   ·rw [dnil h]; simp only [digV]; rfl
theorem qEe {k:Nat} {s:LN} (hs:By s) (hl:Sz s) {p b M:Nat} (hb:b≤16) (hpl:p≤s.length+10) (hM:M≤6) (hk:7≤k):g40 k s (p:Int) (b:Int) (M:Int)=some (((digV b M 0 (s.drop p)).1:Int),((digV b M 0 (s.drop p)).2:Int)):=by
 have hp:16 ^ M≤16777216:=Nat.pow_le_pow_right (n:=16) (by decide) hM
 have:=qNe k hs hl (p:=p) (b:=b) (M:=M) hb hpl hM M k 0 0 (by omega) (by omega) (by omega)
 rw [Nat.zero_add] at this
 exact this
theorem rname_no (k:Nat) (s:LN) (a:Int) {d:Nat} (hd:nameN d=0) (f:Nat):qC2 k s a (d:Int) (f+10) 0=qC2 k s a (d:Int) (f+1) 9:=by
 have ne:d ≠ 98∧d ≠ 100∧d ≠ 101∧d ≠ 102∧d ≠ 110∧d ≠ 114∧d ≠ 115∧d ≠ 116∧d ≠ 118:=by
  refine ⟨?_,?_,?_,?_,?_,?_,?_,?_,?_⟩ <;> (intro h; subst h; revert hd; decide)
 obtain ⟨e1,e2,e3,e4,e5,e6,e7,e8,e9⟩:=ne
 have st:∀ (i b f:Nat),i < 9→nthS g34c1 (i:Int)=some (b:Int)→d ≠ b→qC2 k s a (d:Int) (f+1) (i:Int)=qC2 k s a (d:Int) f ((i+1:Nat):Int):=by
  intro i b f hi hn hb
  rw [qI6]
  refine iT (by first | (simp (disch:=omega) only [↓reduceIte,↓jn,gsL]; done) | rfl) ?_
  refine bS (by (try simp (disch:=omega) only [fwI]); exact hn) ?_
  rw [dF (show ¬ (b:Int)=(d:Int) by omega),fw_s (by omega)]
  rfl
 exact (st 0 98 (f+9) (by decide) rfl e1).trans <| (st 1 100 (f+8) (by decide) rfl e2).trans <| (st 2 101 (f+7) (by decide) rfl e3).trans <| (st 3 102 (f+6) (by decide) rfl e4).trans <| (st 4 110 (f+5) (by decide) rfl e5).trans <| (st 5 114 (f+4) (by decide) rfl e6).trans <| (st 6 115 (f+3) (by decide) rfl e7).trans <| (st 7 116 (f+2) (by decide) rfl e8).trans (st 8 118 (f+1) (by decide) rfl e9)
theorem qNj {k : Nat} (hk : 10 ≤ k) {s : LN} (hs : By s) (hl : Sz s) {a d f : Nat} {q : LN} (hr : s.drop (a + 1) = d :: q) (hd : nameN d = 0) :
 qC2 k s (a:Int) (d:Int) (f+1) 9=some (escB d q):=by
 have hl':=hl
 unfold Sz at hl
 have d256:=hs d (qBo hr)
 have dq:s.drop (a+2)=q:=qBw hr
 have ql:=qC hr
 rw [qI6]
 refine iF rfl ?_
 unfold escB
 by_cases h8:48≤d∧d≤55
 ·refine (jS (v:=true) (λj=>?_)).trans ?_
  ·simp (disch:=omega) only [↓reduceIte,↓jn,gsL]
  ·refine iT (by first | (simp (disch:=omega) only [↓reduceIte,↓jn,gsL]; done) | rfl) ?_
   rw [fw_s (by omega)]
   have r:=qEe (k:=k) hs hl' (p:=a+1) (b:=8) (M:=3) (by decide) (by omega) (by decide) (by omega)
   rw [hr] at r
   refine bS (by (try simp (disch:=omega) only [fwI]); exact r) ?_
   have:=(qE 8 3 0 (d::q)).1
   rw [show (1:Int)=((1:Nat):Int) from rfl,fw_a (by omega) (by omega)]
   rw [if_neg (show ¬ d=120 by omega),if_neg (show ¬ d=94 by omega),if_pos h8]
   rfl
 ·refine (jS (v:=false) (λj=>?_)).trans ?_
  ·by_cases h1:48≤d
   ·simp (disch:=omega) only [↓reduceIte,↓jn,gsL]
   ·simp (disch:=omega) only [↓reduceIte,↓jn,gsL]
  ·refine iF (by first | (simp (disch:=omega) only [↓reduceIte,↓jn,gsL]; done) | rfl) ?_
   by_cases h120:d=120
   ·subst h120
    rw [if_pos rfl]
    cases q with
    | nil =>
     simp only [List.length_nil] at ql
     refine (jS (v:=false) (λj=>?_)).trans ?_
     ·simp (disch:=omega) only [↓reduceIte,↓jn,gsL]
     ·refine iF (by first | (simp (disch:=omega) only [↓reduceIte,↓jn,gsL]; done) | rfl) ?_
      refine iT (by first | (simp (disch:=omega) only [↓reduceIte,↓jn,gsL]; done) | rfl) ?_
      have r:=qEe (k:=k) hs hl' (p:=a+2) (b:=16) (M:=2) (by decide) (by omega) (by decide) (by omega)
      rw [dq] at r
      rw [show fW .i64 ((a:Int)+2)=((a+2:Nat):Int) from fw_a (m:=2) (by omega) (by omega)]
      refine bS (by (try simp (disch:=omega) only [fwI]); exact r) ?_
      rfl
    | cons c r =>
     have hc:=dq
     have c256:=hs c (qBo hc)
     simp only [List.length_cons] at ql
     have nc:nthS s ((a:Int)+2)=some (c:Int):=nthX (i:=a+2) (by omega) hc
     have dr:s.drop (a+3)=r:=qBw hc
     by_cases h123:c=123
     ·subst h123
      refine (jS (v:=true) (λj=>?_)).trans ?_
      ·simp (disch:=omega) only [↓reduceIte,↓jn,gsL,nc]
      ·refine iT (by first | (simp (disch:=omega) only [↓reduceIte,↓jn,gsL]; done) | rfl) ?_
       have rr:=qEe (k:=k) hs hl' (p:=a+3) (b:=16) (M:=6) (by decide) (by omega) (by decide) (by omega)
       rw [dr] at rr
       rw [show fW .i64 ((a:Int)+3)=((a+3:Nat):Int) from fw_a (m:=3) (by omega) (by omega)]
       refine bS (by (try simp (disch:=omega) only [fwI]); exact rr) ?_
       have hvl:=qE 16 6 0 r
       simp only [hexN,if_true]
       unfold hexBr
       by_cases h0:(digV 16 6 0 r).2=0
       ·rw [if_pos h0]
        refine (jS (v:=true) (λj=>?_)).trans rfl
        rw [h0]; rfl
       ·rw [if_neg h0]
        have ee:=λ_:Unit=>fw_a (n:=a+3) (m:=(digV 16 6 0 r).2) (by omega) (by omega)
        have dz:s.drop (a+3+(digV 16 6 0 r).2)=r.drop (digV 16 6 0 r).2:=by rw [← List.drop_drop,dr]
        cases hz:r.drop (digV 16 6 0 r).2 with
        | nil =>
         have:s.length≤a+3+(digV 16 6 0 r).2:=by
          have:=congrArg List.length (dz.trans hz)
          rw [List.length_drop,List.length_nil] at this
          omega
         refine (jS (v:=true) (λj=>?_)).trans rfl
         rw [ee ()]
         simp (disch:=omega) only [↓reduceIte,↓jn,gsL,h0]
        | cons z qq =>
         rw [hz] at dz
         have nz:=nthX (x:=((a+3+(digV 16 6 0 r).2:Nat):Int)) rfl dz
         have zl:=qC dz
         by_cases h125:z=125
         ·subst h125
          simp only [true_and]
          refine (jS (v := !cpN (digV 16 6 0 r).1) (λj=>?_)).trans ?_
          ·rw [ee ()]
           simp (disch:=omega) only [↓reduceIte,↓jn,gsL,h0,nz,qKm]
          ·cases cpN (digV 16 6 0 r).1 with
           | false=>rfl
           | true =>
            refine iF (by first | (simp (disch:=omega) only [↓reduceIte,↓jn,gsL]; done) | rfl) ?_
            rw [show (4:Int)=((4:Nat):Int) from rfl,fw_a (by omega) (by omega)]
            rfl
         ·simp only [h125,false_and,if_false]
          refine (jS (v:=true) (λj=>?_)).trans rfl
          rw [ee ()]
          have:¬ (z:Int)=125:=by omega
          simp (disch:=omega) only [↓reduceIte,↓jn,gsL,h0,nz,this]
     ·refine (jS (v:=false) (λj=>?_)).trans ?_
      ·have:¬ (c:Int)=123:=by omega
       simp (disch:=omega) only [↓reduceIte,↓jn,gsL,nc,this]
      ·refine iF (by first | (simp (disch:=omega) only [↓reduceIte,↓jn,gsL]; done) | rfl) ?_
       refine iT (by first | (simp (disch:=omega) only [↓reduceIte,↓jn,gsL]; done) | rfl) ?_
       have rr:=qEe (k:=k) hs hl' (p:=a+2) (b:=16) (M:=2) (by decide) (by omega) (by decide) (by omega)
       rw [dq] at rr
       rw [show fW .i64 ((a:Int)+2)=((a+2:Nat):Int) from fw_a (m:=2) (by omega) (by omega)]
       refine bS (by (try simp (disch:=omega) only [fwI]); exact rr) ?_
       simp only [hexN,h123,if_false]
       unfold hex2
       by_cases h2:(digV 16 2 0 (c::r)).2 < 2
       ·rw [if_pos h2]; refine iT (by first | (simp (disch:=omega) only [↓reduceIte,↓jn,gsL]; done) | rfl) ?_; rfl
       ·rw [if_neg h2]; refine iF (by first | (simp (disch:=omega) only [↓reduceIte,↓jn,gsL]; done) | rfl) ?_; rfl
   ·rw [if_neg h120]
    refine (jS (v:=false) (λj=>?_)).trans ?_
    ·simp (disch:=omega) only [↓reduceIte,↓jn,gsL]
    ·refine iF (by first | (simp (disch:=omega) only [↓reduceIte,↓jn,gsL]; done) | rfl) ?_
     refine iF (by first | (simp (disch:=omega) only [↓reduceIte,↓jn,gsL]; done) | rfl) ?_
     by_cases h94:d=94
     ·subst h94
      rw [if_pos rfl]
      refine iT (by first | (simp (disch:=omega) only [↓reduceIte,↓jn,gsL]; done) | rfl) ?_
      cases q with
      | nil =>
       simp only [List.length_nil] at ql
       refine (jS (v:=true) (λj=>?_)).trans ?_
       ·simp (disch:=omega) only [↓reduceIte,↓jn,gsL]
       ·rfl
      | cons c r =>
       have hc:=dq
       have c256:=hs c (qBo hc)
       simp only [List.length_cons] at ql
       have nc:nthS s ((a:Int)+2)=some (c:Int):=nthX (i:=a+2) (by omega) hc
       by_cases h0:c < 64∨95 < c∧(c < 97∨122 < c)
       ·simp only [ctlN,h0,if_true]
        refine (jS (v:=true) (λj=>?_)).trans rfl
        by_cases h1:c < 64
        ·simp (disch:=omega) only [↓reduceIte,↓jn,gsL,nc]
        ·by_cases h2:c < 97
         ·simp (disch:=omega) only [↓reduceIte,↓jn,gsL,nc]
         ·simp (disch:=omega) only [↓reduceIte,↓jn,gsL,nc]
       ·simp only [ctlN,h0,if_false]
        refine (jS (v:=false) (λj=>?_)).trans ?_
        ·by_cases h1:95 < c
         ·simp (disch:=omega) only [↓reduceIte,↓jn,gsL,nc]
         ·simp (disch:=omega) only [↓reduceIte,↓jn,gsL,nc]
        ·refine iF (by first | (simp (disch:=omega) only [↓reduceIte,↓jn,gsL]; done) | rfl) ?_
         refine bS (by (try simp (disch:=omega) only [fwI]); exact nc) ?_
         rw [fwI (n:=(c:Int)) (by omega) (by omega),(and31 c256).2]
     ·rw [if_neg h94,if_neg h8,if_pos hd]
      refine iF (by first | (simp (disch:=omega) only [↓reduceIte,↓jn,gsL]; done) | rfl) ?_
      have nx:=qDg (k:=k) (by omega) hs hl' (a+1)
      rw [hr] at nx
      rw [fw_s (by omega)]
      refine bS (by (try simp (disch:=omega) only [fwI]); exact nx) ?_
      unfold uniN
      obtain ⟨n,n1,n2,n3,n4,-⟩:=qD0 (s:=d::q) (by simp)
      by_cases h32:(dec (d::q)).1 < 32
      ·rw [if_pos h32]; refine iT (by first | (simp (disch:=omega) only [↓reduceIte,↓jn,gsL,h32]; done) | rfl) ?_; rfl
      ·rw [if_neg h32]; refine iF (by first | (simp (disch:=omega) only [↓reduceIte,↓jn,gsL,h32]; done) | rfl) ?_; rw [n1,show (1:Int)=((1:Nat):Int) from rfl,fw_a (by clear n1; omega) (by clear n1; omega),Nat.add_comm]; rfl
theorem qMc {k:Nat} (hk:10≤k) {s:LN} (hs:By s) (hl:Sz s) (a:Nat):g34 k s (a:Int)=some (escN (s.drop a)):=by
 have hl':=hl
 unfold Sz at hl
 unfold g34
 have fail:∀ (f:Bool→Option (Int×Int)) (g:(Bool→Option (Int×Int))→Option (Int×Int)),f true=some (-1,0)→(∀ j,g j=j true)→escN (s.drop a)=(-1,0)→jn f g=some (escN (s.drop a)):=by
  intro f g hf hg he
  rw [he]; exact (hg f).trans hf
 rcases Nat.lt_or_ge a s.length with h | h
 ·obtain ⟨c,r,hc,hr,hm,hrl⟩:=dcons h
  have nc:=nthX (x:=(a:Int)) rfl hc
  cases hr2:r with
  | nil =>
   rw [hr2] at hrl hc
   simp only [List.length_nil] at hrl
   refine fail _ _ rfl (λj=>?_) (by rw [hc]; rfl)
   simp (disch:=omega) only [↓reduceIte,↓jn,gsL]
  | cons d q =>
   rw [hr2] at hr hrl hc
   have d256:=hs d (qBo hr)
   simp only [List.length_cons] at hrl
   by_cases h92:c=92
   ·subst h92
    have nd:nthS s ((a:Int)+1)=some (d:Int):=nthX (i:=a+1) (by omega) hr
    refine (jS (v:=false) (λj=>?_)).trans ?_
    ·simp (disch:=omega) only [↓reduceIte,↓jn,gsL,nc]
    ·refine iF (by first | (simp (disch:=omega) only [↓reduceIte,↓jn,gsL]; done) | rfl) ?_
     refine bS (by (try simp (disch:=omega) only [fwI]); exact nd) ?_
     rw [hc]
     simp only [escN,if_true]
     obtain ⟨k',rfl⟩:∃ k',k=k'+10:=⟨k - 10,by omega⟩
     by_cases hd:nameN d=0
     ·rw [rname_no _ _ _ hd]
      exact qNj hk hs hl' hr hd
     ·unfold nameN at hd
      by_cases e1:d=98
      ·subst e1; rfl
      by_cases e2:d=100
      ·subst e2; rfl
      by_cases e3:d=101
      ·subst e3; rfl
      by_cases e4:d=102
      ·subst e4; rfl
      by_cases e5:d=110
      ·subst e5; rfl
      by_cases e6:d=114
      ·subst e6; rfl
      by_cases e7:d=115
      ·subst e7; rfl
      by_cases e8:d=116
      ·subst e8; rfl
      by_cases e9:d=118
      ·subst e9; rfl
      simp only [e1,e2,e3,e4,e5,e6,e7,e8,e9,if_false] at hd
      exact absurd trivial hd
   ·refine fail _ _ rfl (λj=>?_) (by rw [hc]; exact escN_no h92)
    have h92':¬ (c:Int)=92:=by omega
    simp (disch:=omega) only [↓reduceIte,↓jn,gsL,nc,h92']
 ·refine fail _ _ rfl (λj=>?_) (by rw [dnil h]; rfl)
  simp (disch:=omega) only [↓reduceIte,↓jn,gsL]
theorem dg10 {c:Nat} (hc:c < 256) (h:dgN c < 10):fW .i64 (fW .u8 ((c:Int) - 48))=((dgN c:Nat):Int):=by
 have w:=byteAll (f:=λc => !decide (dgN c < 10) || decide (fW .i64 (fW .u8 ((c:Int) - 48))=((dgN c:Nat):Int))) (by decide +kernel) hc
 simpa [h] using w
theorem qKe (k : Nat) {s : LN} (hk : s.length < k) (hs : By s) (hl : Sz s) (c8 : Unit → Option Int) {a m V n f : Nat} (hV : V ≤ 99) (h : a + m + 1 ≤ s.length) :
 qE5 k c8 s (a:Int) (n:Int) (m:Int) (f+1) (V:Int) ((a+m:Nat):Int)=if (2≤V∧V≤36)∧0 < runN V false (s.drop (a+m+1)) then some ((m+1+runN V false (s.drop (a+m+1)):Nat):Int) else c8 ():=by
 rw [qLw]
 have r:=qIk hk hs hl hV h
 unfold Sz at hl
 have l:=qBs V false (s.drop (a+m+1))
 rw [List.length_drop] at l
 have e:((a:Int)+(m:Int))=((a+m:Nat):Int):=by omega
 have e1:(((a+m:Nat):Int)+1)=((a+m+1:Nat):Int):=by omega
 refine iF (by first | (simp (disch:=omega) only [↓reduceIte,↓jn,gsL]; done) | rfl) ?_
 rw [fwI (n:=(a:Int)+(m:Int)) (by omega) (by omega),e,fwI (n:=((a+m:Nat):Int)+1) (by omega) (by omega),e1]
 refine bS (by (try simp (disch:=omega) only [fwI]); exact r) ?_
 generalize runN V false (s.drop (a+m+1))=K at *
 clear r
 refine (jS (v:=decide ((2≤V∧V≤36)∧0 < K)) (λj=>?_)).trans ?_
 ·by_cases h1:2≤V
  ·by_cases h2:V≤36
   ·by_cases h3:0 < K
    ·simp (disch:=omega) only [↓reduceIte,↓jn,gsL,h1,h2,h3,and_self]
    ·simp (disch:=omega) only [↓reduceIte,↓jn,gsL,h1,h2,h3,and_self,and_false]
   ·simp (disch:=omega) only [↓reduceIte,↓jn,gsL,h1,h2,and_false,false_and]
  ·simp (disch:=omega) only [↓reduceIte,↓jn,gsL,h1,false_and]
 ·by_cases h0:(2≤V∧V≤36)∧0 < K
  ·rw [if_pos h0]
   refine iT (by first | (simp (disch:=omega) only [↓reduceIte,↓jn,gsL,h0]; done) | rfl) ?_
   simp (disch:=omega) only [↓reduceIte,↓jn,gsL]
   exact congrArg some (by omega)
  ·rw [if_neg h0]
   refine iF (by first | (simp (disch:=omega) only [↓reduceIte,↓jn,gsL,h0]; done) | rfl) ?_
   rfl
theorem qGj (k : Nat) {s : LN} (hs : By s) (hl : Sz s) (c8 : Unit → Option Int) {a m V n f i c : Nat} {r : LN} (hc : s.drop i = c :: r) (hd : dgN c < 10) (hi : i < a + m) (ha : a + m ≤ s.length) (hV : V ≤ 9) :
 qE5 k c8 s (a:Int) (n:Int) (m:Int) (f+1) (V:Int) (i:Int)=qE5 k c8 s (a:Int) (n:Int) (m:Int) f ((10 * V+dgN c:Nat):Int) ((i+1:Nat):Int):=by
 unfold Sz at hl
 rw [qLw]
 have c256:=hs c (qBo hc)
 refine iT (by first | (simp (disch:=omega) only [↓reduceIte,↓jn,gsL]; done) | rfl) ?_
 refine bS (by (try simp (disch:=omega) only [fwI]); exact nthX rfl hc) ?_
 rw [dg10 c256 hd]
 have e1:((V:Int) * 10+(dgN c:Nat))=((10 * V+dgN c:Nat):Int):=by omega
 have e2:((i:Int)+1)=((i+1:Nat):Int):=by omega
 simp (disch:=omega) only [fwI]
 rw [e1,e2]
theorem qNa {k:Nat} {s:LN} (hk:s.length < k) (hk3:4≤k) (hs:By s) (hl:Sz s) {a:Nat} (ha:a≤s.length):g32 k s (a:Int)=some ((wholeN (s.drop a):Nat):Int):=by
 have r1:g39 k s (a:Int) 10 true=some ((runN 10 false (s.drop a):Nat):Int):=qIk hk hs hl (b:=10) (by decide) ha
 have r2:=rbar_at hk hs hl ha
 have hl':=hl
 unfold Sz at hl
 unfold g32
 refine bS (by (try simp (disch:=omega) only [fwI]); exact r1) ?_
 refine bS (by (try simp (disch:=omega) only [fwI]); exact r2) ?_
 obtain ⟨k',rfl⟩:∃ k',k=k'+4:=⟨k - 4,by omega⟩
 have bl:=qQm 10 (s.drop a)
 rw [List.length_drop] at bl
 have no:frontN (s.drop a)=(0,10)→wholeN (s.drop a)=runN 10 false (s.drop a):=by
  intro h; unfold wholeN; rw [h]; rfl
 have yes:∀ m V,frontN (s.drop a)=(m+1,V)→wholeN (s.drop a)=if 0 < runN V false (s.drop (a+m+1)) then m+1+runN V false (s.drop (a+m+1)) else runN 10 false (s.drop a):=by
  intro m V h; unfold wholeN; rw [h]; simp only [List.drop_drop,Nat.add_assoc,Nat.succ_pos,true_and]
 clear r1 r2
 generalize hn:runN 10 false (s.drop a)=n at *
 cases ht:s.drop a with
 | nil =>
  rw [ht] at no
  rw [no rfl]
  refine (jS (v:=false) (λj=>rfl)).trans ?_
  rfl
 | cons p r =>
  have hp:=hs p (qBo ht)
  have tl:=qC ht
  have dr:=qBw ht
  by_cases h1:dgN p < 10
  ·cases hr:r with
   | nil =>
    rw [hr] at ht tl dr
    rw [ht] at no
    have e3:barN 10 [p]=1:=by simp only [barN,h1,if_true]
    rw [no rfl,e3]
    simp only [List.length_nil] at tl
    refine (jS (v:=false) (λj=>by simp (disch:=omega) only [↓reduceIte,↓jn,gsL])).trans ?_
    rfl
   | cons q r' =>
    rw [hr] at ht tl dr
    have hq:=hs q (qBo dr)
    have dr':=qBw dr
    have tl':=qC dr
    by_cases h2:dgN q < 10
    ·have hq35:¬ q=35:=by intro h; rw [h] at h2; exact dg_35 h2
     cases hr':r' with
     | nil =>
      rw [hr'] at ht tl dr dr'
      rw [ht] at no
      have e3:barN 10 [p,q]=2:=by simp only [barN,h1,h2,if_true]
      have e4:frontN [p,q]=(0,10):=by simp only [frontN,h1,h2,hq35,if_true,if_false]
      rw [no e4,e3]
      simp only [List.length_cons,List.length_nil] at tl
      refine (jS (v:=false) (λj=>by simp (disch:=omega) only [↓reduceIte,↓jn,gsL])).trans ?_
      rfl
     | cons c r'' =>
      rw [hr'] at ht tl dr dr'
      have hc:=hs c (qBo dr')
      by_cases h3:dgN c < 10
      ·have hc35:¬ c=35:=by intro h; rw [h] at h3; exact dg_35 h3
       have e3:barN 10 (p::q::c::r'')=barN 10 r''+3:=by simp only [barN,h1,h2,h3,if_true]
       have e4:frontN (p::q::c::r'')=(0,10):=by simp only [frontN,h1,h2,hq35,hc35,if_true,if_false,false_and]
       rw [ht] at no
       rw [no e4,e3]
       refine (jS (v:=false) (λj=>by simp (disch:=omega) only [↓reduceIte,↓jn,gsL])).trans ?_
       rfl
      ·have e3:barN 10 (p::q::c::r'')=2:=by simp only [barN,h1,h2,h3,if_true,if_false]
       have nc:nthS s ((a:Int)+((2:Nat):Int))=some (c:Int):=nthX (by omega) dr'
       simp only [List.length_cons] at tl
       by_cases hc35:c=35
       ·subst hc35
        have go:=qKe (k'+4) hk hs hl' (n:=n) (a:=a) (m:=2) (f:=k'+1) (V:=10 * (10 * 0+dgN p)+dgN q)
        have st1:=λc8=>qGj (k'+4) hs hl' c8 (n:=n) (a:=a) (m:=2) (f:=k'+3) (V:=0) ht h1 (by omega) (by omega) (by omega)
        have st2:=λc8=>qGj (k'+4) hs hl' c8 (n:=n) (a:=a) (m:=2) (f:=k'+2) (V:=10 * 0+dgN p) dr h2 (by omega) (by omega) (by omega)
        rw [show 10 * 0+dgN p=dgN p by omega] at *
        rw [e3]
        refine (jS (v:=true) (λj=>?_)).trans ?_
        ·simp (disch:=omega) only [↓reduceIte,↓jn,gsL,nc]
        ·by_cases hf:2≤10 * dgN p+dgN q∧10 * dgN p+dgN q≤36
         ·have e4:frontN (p::q::35::r'')=(2+1,10 * dgN p+dgN q):=by simp only [frontN,h1,h2,hq35,hf,if_true,if_false,and_self]
          rw [ht] at yes
          rw [yes 2 _ e4]
          by_cases hK:0 < runN (10 * dgN p+dgN q) false (s.drop (a+2+1))
          ·refine jC λj=>?_
           refine iT (by first | (simp (disch:=omega) only [↓reduceIte,↓jn,gsL]; done) | rfl) ?_
           refine (st1 j).trans ((st2 j).trans ((go j (by omega) (by omega)).trans ?_))
           rw [if_pos ⟨hf,hK⟩,if_pos hK]
          ·refine (jS (v:=()) (λj=>?_)).trans ?_
           ·refine iT (by first | (simp (disch:=omega) only [↓reduceIte,↓jn,gsL]; done) | rfl) ?_
            refine (st1 j).trans ((st2 j).trans ((go j (by omega) (by omega)).trans ?_))
            rw [if_neg (λh=>hK h.2)]
           ·rw [if_neg hK]
         ·have e4:frontN (p::q::35::r'')=(0,10):=by simp only [frontN,h1,h2,hq35,if_true,if_false,true_and,hf]
          rw [ht] at no
          rw [no e4]
          refine (jS (v:=()) (λj=>?_)).trans rfl
          refine iT (by first | (simp (disch:=omega) only [↓reduceIte,↓jn,gsL]; done) | rfl) ?_
          refine (st1 j).trans ((st2 j).trans ((go j (by omega) (by omega)).trans ?_))
          rw [if_neg (λh=>hf h.1)]
       ·have e4:frontN (p::q::c::r'')=(0,10):=by simp only [frontN,h1,h2,hq35,hc35,if_true,if_false,false_and]
        rw [ht] at no
        rw [no e4,e3]
        refine (jS (v:=false) (λj=>by simp (disch:=omega) only [↓reduceIte,↓jn,gsL,nc])).trans ?_
        rfl
    ·have e3:barN 10 (p::q::r')=1:=by simp only [barN,h1,h2,if_true,if_false]
     have nc:nthS s ((a:Int)+((1:Nat):Int))=some (q:Int):=nthX (by omega) dr
     simp only [List.length_cons] at tl
     by_cases hq35:q=35
     ·subst hq35
      have go:=qKe (k'+4) hk hs hl' (n:=n) (a:=a) (m:=1) (f:=k'+2) (V:=10 * 0+dgN p)
      have st1:=λc8=>qGj (k'+4) hs hl' c8 (n:=n) (a:=a) (m:=1) (f:=k'+3) (V:=0) ht h1 (by omega) (by omega) (by omega)
      rw [show 10 * 0+dgN p=dgN p by omega] at *
      rw [e3]
      refine (jS (v:=true) (λj=>?_)).trans ?_
      ·simp (disch:=omega) only [↓reduceIte,↓jn,gsL,nc]
      ·by_cases hf:2≤dgN p
       ·have e4:frontN (p::35::r')=(1+1,dgN p):=by simp only [frontN,h1,hf,if_true]
        rw [ht] at yes
        rw [yes 1 _ e4]
        by_cases hK:0 < runN (dgN p) false (s.drop (a+1+1))
        ·refine jC λj=>?_
         refine iT (by first | (simp (disch:=omega) only [↓reduceIte,↓jn,gsL]; done) | rfl) ?_
         refine (st1 j).trans ((go j (by omega) (by omega)).trans ?_)
         rw [if_pos ⟨⟨hf,by omega⟩,hK⟩,if_pos hK]
        ·refine (jS (v:=()) (λj=>?_)).trans ?_
         ·refine iT (by first | (simp (disch:=omega) only [↓reduceIte,↓jn,gsL]; done) | rfl) ?_
          refine (st1 j).trans ((go j (by omega) (by omega)).trans ?_)
          rw [if_neg (λh=>hK h.2)]
         ·rw [if_neg hK]
       ·have e4:frontN (p::35::r')=(0,10):=by simp only [frontN,h1,hf,if_true,if_false]
        rw [ht] at no
        rw [no e4]
        refine (jS (v:=()) (λj=>?_)).trans rfl
        refine iT (by first | (simp (disch:=omega) only [↓reduceIte,↓jn,gsL]; done) | rfl) ?_
        refine (st1 j).trans ((go j (by omega) (by omega)).trans ?_)
        rw [if_neg (λh=>hf h.1.1)]
     ·have e4:frontN (p::q::r')=(0,10):=by simp only [frontN,h1,h2,hq35,if_true,if_false]
      rw [ht] at no
      rw [no e4,e3]
      refine (jS (v:=false) (λj=>by simp (disch:=omega) only [↓reduceIte,↓jn,gsL,nc])).trans ?_
      rfl
  ·have e4:frontN (p::r)=(0,10):=by cases r <;> simp only [frontN,h1,if_false]
   have e3:barN 10 (p::r)=0:=by simp only [barN,h1,if_false]
   rw [ht] at no
   rw [no e4,e3]
   refine (jS (v:=false) (λj=>rfl)).trans rfl
theorem qMd {k:Nat} {s:LN} (hk:s.length < k) (hs:By s) (hl:Sz s) {a:Nat} (ha:a≤s.length):g31 k s (a:Int)=some ((partN (s.drop a):Nat):Int):=by
 have R:∀ i,i≤s.length→g39 k s (i:Int) 10 true=some ((runN 10 false (s.drop i):Nat):Int):=λi hi=>qIk hk hs hl (b:=10) (by decide) hi
 unfold Sz at hl
 unfold g31 partN
 have r0:=R a ha
 have l0:=qBs 10 false (s.drop a)
 rw [List.length_drop] at l0
 refine bS (by (try simp (disch:=omega) only [fwI]); exact r0) ?_
 rw [List.drop_drop]
 generalize runN 10 false (s.drop a)=n at *
 clear r0
 by_cases h0:n=0
 ·subst h0
  refine (jS (v:=true) (λj=>?_)).trans rfl
  have e:fW .i64 ((a:Int)+((0:Nat):Int))=(a:Int):=by rw [fwI (by omega) (by omega)]; omega
  rw [e]
  simp (disch:=omega) only [↓reduceIte,↓jn,gsL]
 rcases Nat.lt_or_ge (a+n) s.length with hn | hn
 ·obtain ⟨c,r,hc,hr,hm,hrl⟩:=dcons hn
  have nc:nthS s ((a:Int)+(n:Int))=some (c:Int):=nthX (by omega) hc
  have na:¬ (a:Int)+(n:Int)=a:=by omega
  by_cases h46:c=46
  ·subst h46
   refine (jS (v:=false) (λj=>by simp (disch:=omega) only [↓reduceIte,↓jn,gsL,nc,na])).trans ?_
   refine iF (by first | (simp (disch:=omega) only [↓reduceIte,↓jn,gsL]; done) | rfl) ?_
   have r1:=R (a+n+1) (by omega)
   have l1:=qBs 10 false r
   rw [hr] at r1
   have a1:∀ j,s.drop (a+n+1+j)=r.drop j:=by intro j; rw [← List.drop_drop,hr]
   have e1:fW .i64 (fW .i64 ((a:Int)+(n:Int))+1)=((a+n+1:Nat):Int):=by rw [fwI (n:=(a:Int)+(n:Int)) (by omega) (by omega),fwI (by omega) (by omega)]; omega
   simp only [hc,fracN,h0,if_true,if_false]
   rw [e1]
   refine bS (by (try simp (disch:=omega) only [fwI]); exact r1) ?_
   generalize runN 10 false r=m at *
   by_cases m0:m=0
   ·refine iT (by first | (simp (disch:=omega) only [↓reduceIte,↓jn,gsL,m0]; done) | rfl) ?_
    rw [if_pos m0]; rfl
   ·refine iF (by first | (simp (disch:=omega) only [↓reduceIte,↓jn,gsL]; done) | rfl) ?_
    rw [if_neg m0]
    rcases Nat.lt_or_ge (a+n+1+m) s.length with h1 | h1
    ·obtain ⟨e,q,he,hq,hem,hql⟩:=dcons h1
     have he':=he
     rw [a1] at he'
     have ne:nthS s (((a+n+1:Nat):Int)+m)=some (e:Int):=nthX (by omega) he
     rw [he']
     by_cases hE:e=101∨e=69
     ·simp only [expN,hE,if_true]
      refine (jS (v:=true) (λj=>?_)).trans ?_
      ·rcases hE with rfl | rfl <;> simp (disch:=omega) only [↓reduceIte,↓jn,gsL,ne]
      have hs':=sgn_le q
      have dd:s.drop (a+n+1+m+1+sgn q)=q.drop (sgn q):=by rw [← List.drop_drop,hq]
      have o1:=R (a+n+1+m+1+sgn q) (by omega)
      rw [dd] at o1
      have o3:runN 10 false (q.drop (sgn q))≤q.length - sgn q:=by
       have:=qBs 10 false (q.drop (sgn q))
       rwa [List.length_drop] at this
      generalize hz:runN 10 false (q.drop (sgn q))=z at *
      have fin:∀ (x y:Int) (j:Int→Option Int),x=((a+n+1+m+1+sgn q:Nat):Int)→((g39 k s x 10 true).bind λx5_2=>if decide (0 < x5_2) then j (fW .i64 (x+x5_2)) else j y)=if 0 < z then j (x+z) else j y:=by
       intro x y j hx
       subst hx
       refine bS (by (try simp (disch:=omega) only [fwI]); exact o1) ?_
       by_cases h:0 < z
       ·rw [if_pos h]; refine iT (by first | (simp (disch:=omega) only [↓reduceIte,↓jn,gsL]; done) | rfl) ?_; rw [fwI (by omega) (by omega)]
       ·rw [if_neg h]; refine iF (by first | (simp (disch:=omega) only [↓reduceIte,↓jn,gsL]; done) | rfl) ?_; rfl
      refine (jS (v:=if 0 < z then ((a+n+1+m+1+sgn q+z:Nat):Int) else ((a+n+1+m:Nat):Int)) (λj=>?_)).trans ?_
      ·refine iT (by first | (simp (disch:=omega) only [↓reduceIte,↓jn,gsL]; done) | rfl) ?_
       have key:∀ b:Nat,b=sgn q→(jn (λ(z10:Int)=>(g39 k s z10 10 true).bind λx5_2=>if (decide (0 < x5_2)) then (j (fW .i64 (z10+x5_2))) else (j (fW .i64 (((a+n+1:Nat):Int)+m)))) (λj10=>if decide (b=1) then (j10 (fW .i64 (fW .i64 (fW .i64 (((a+n+1:Nat):Int)+m)+1)+1))) else (j10 (fW .i64 (fW .i64 (((a+n+1:Nat):Int)+m)+1)))))=j (if 0 < z then ((a+n+1+m+1+sgn q+z:Nat):Int) else ((a+n+1+m:Nat):Int)):=by
        intro b hb
        refine (jS (v:=((a+n+1+m+1+sgn q:Nat):Int)) (λj=>?_)).trans ?_
        ·have hb01:b=0∨b=1:=by
          rw [hb]; unfold sgn; split
          ·split <;> simp
          ·simp
         rcases hb01 with rfl | rfl
         ·simp (disch:=omega) only [↓reduceIte,↓jn,gsL]
          exact congrArg j (by omega)
         ·simp (disch:=omega) only [↓reduceIte,↓jn,gsL]
          exact congrArg j (by omega)
        ·refine (fin _ _ j rfl).trans ?_
         by_cases h:0 < z
         ·rw [if_pos h,if_pos h]; exact congrArg j (by omega)
         ·rw [if_neg h,if_neg h]; rw [fwI (by omega) (by omega)]; exact congrArg j (by omega)
       cases q with
       | nil =>
        simp only [List.length_nil] at hql
        refine (jS (v:=false) (λj=>?_)).trans ?_
        ·simp (disch:=omega) only [↓reduceIte,↓jn,gsL]
        ·exact key 0 rfl
       | cons d q =>
        simp only [List.length_cons] at hql
        have nd:nthS s (((a+n+1:Nat):Int)+m+1)=some (d:Int):=nthX (i:=a+n+1+m+1) (by omega) hq
        by_cases hd:d=43∨d=45
        ·refine (jS (v:=true) (λj=>?_)).trans ?_
         ·rcases hd with rfl | rfl <;> simp (disch:=omega) only [↓reduceIte,↓jn,gsL,nd]
         ·exact key 1 (by simp only [sgn,hd,if_true])
        ·have d1:¬ (d:Int)=43:=by omega
         have d2:¬ (d:Int)=45:=by omega
         refine (jS (v:=false) (λj=>?_)).trans ?_
         ·simp (disch:=omega) only [↓reduceIte,↓jn,gsL,nd,d1,d2]
         ·exact key 0 (by simp only [sgn,hd,if_false])
      ·by_cases h:0 < z
       ·rw [if_pos h,if_pos h]; simp (disch:=omega) only [↓reduceIte,↓jn,gsL]; exact congrArg some (by omega)
       ·rw [if_neg h,if_neg h]; simp (disch:=omega) only [↓reduceIte,↓jn,gsL]; exact congrArg some (by omega)
     ·have e1:¬ (e:Int)=101:=by omega
      have e2:¬ (e:Int)=69:=by omega
      simp only [expN,hE,if_false]
      refine (jS (v:=false) (λj=>by simp (disch:=omega) only [↓reduceIte,↓jn,gsL,ne,e1,e2])).trans ?_
      refine (jS (v:=((a+n+1+m:Nat):Int)) (λj=>?_)).trans ?_
      ·refine iF (by first | (simp (disch:=omega) only [↓reduceIte,↓jn,gsL]; done) | rfl) ?_
       rw [fwI (by omega) (by omega)]; exact congrArg j (by omega)
      ·simp (disch:=omega) only [↓reduceIte,↓jn,gsL]
       exact congrArg some (by omega)
    ·have he:r.drop m=[]:=by rw [← a1]; exact dnil h1
     simp only [he,expN]
     refine (jS (v:=false) (λj=>by simp (disch:=omega) only [↓reduceIte,↓jn,gsL])).trans ?_
     refine (jS (v:=((a+n+1+m:Nat):Int)) (λj=>?_)).trans ?_
     ·refine iF (by first | (simp (disch:=omega) only [↓reduceIte,↓jn,gsL]; done) | rfl) ?_
      rw [fwI (by omega) (by omega)]; exact congrArg j (by omega)
     ·simp (disch:=omega) only [↓reduceIte,↓jn,gsL]
      exact congrArg some (by omega)
  ·have c46:¬ (c:Int)=46:=by omega
   refine (jS (v:=true) (λj=>by simp (disch:=omega) only [↓reduceIte,↓jn,gsL,nc,na,c46])).trans ?_
   refine iT (by first | (simp (disch:=omega) only [↓reduceIte,↓jn,gsL]; done) | rfl) ?_
   rw [hc]
   simp only [fracN,h0,h46,if_false]; rfl
 ·refine (jS (v:=true) (λj=>by simp (disch:=omega) only [↓reduceIte,↓jn,gsL])).trans ?_
  refine iT (by first | (simp (disch:=omega) only [↓reduceIte,↓jn,gsL]; done) | rfl) ?_
  rw [dnil hn]
  simp only [fracN,h0,if_false]; rfl
end Go.Proofs.Ytjmmjhojbodbdaa.Am
set_option maxRecDepth 100000
set_option linter.unusedVariables false
namespace Go.Proofs.Ytjmmjhojbodbdaa.Am
noncomputable section
open Go
def Xg11:Fx Int:=⟨Try.prog,cx,Try.f11,λr => .i r,0,λ_=>H0,cxTi,cxOrd,λ_=>none,false⟩
def g11p1:Pt:=nav [0,0,0,0,0] (nav [0] (bodyAt Try.f11))
def g11p2:Pt:=nav [0,0,0] g11p1
def g11p3:Pt:=nav [0,0] g11p2
def qJy (k:Nat)  (h:LN) (ih:Int→Option Int):Int→Option Int :=
 λ(a:Int)=>jn (λ(m:Bool×Int)=>if m.1 then (ih (fW .i64 (m.2+1))) else (some m.2)) (λj=>if (decide (a < (h.length:Int))) then ((nthS h a).bind λl=>if (decide (l=32)) then (j (true,a)) else ((nthS h a).bind λb=>if (decide (b=9)) then (j (true,a)) else ((nthS h a).bind λc=>if (decide (c=10)) then (j (true,a)) else ((nthS h a).bind λg=>j (decide (g=13),a))))) else (j (false,a)))
def qGb (k:Nat)  (a:LN) (n:Nat):Int→Option Int:=lp (λ_=>none) (qJy k a) n
theorem g11_l1_s (k:Nat)  (b:LN) (n:Nat) (a:Int):qGb k b (n+1) a=(jn (λ(m:Bool×Int)=>if m.1 then ((qGb k b n) (fW .i64 (m.2+1))) else (some m.2)) (λj=>if (decide (a < (b.length:Int))) then ((nthS b a).bind λl=>if (decide (l=32)) then (j (true,a)) else ((nthS b a).bind λc=>if (decide (c=9)) then (j (true,a)) else ((nthS b a).bind λg=>if (decide (g=10)) then (j (true,a)) else ((nthS b a).bind λh=>j (decide (h=13),a))))) else (j (false,a)))):=rfl
theorem qQ6 (k:Nat)   (g:LN)  : ∀ (n:Nat) (a:Int),Ok Xg11 g11p1 [(0,.str g),(1,.i a)] (mkH []) (qGb k g n a):=by
 intro n
 induction n with
 | zero=>intro a; exact ok_none
 | succ n ih =>
  intro a
  show Ok _ _ _ _ (qJy k g (qGb k g n) a)
  unfold qJy
  refine qAk (p':=nav [0] g11p1) Kr ?_
  let A:Env:=[(9,.bool (decide (a < (g.length:Int)))),(8,.bool (decide (a < (g.length:Int)))),(7,.i (g.length:Int)),(6,.str g),(5,.i a),(0,.str g),(1,.i a)]
  refine oH 8 (atN 5 (ctl1 g11p2)) A (mkH []) ?_
  refine oJ g11p3 (λ(o:Bool×Int)=>[(0,.str g),(1,.i o.2),(32,.bool o.1)]) (λ(o:Bool×Int)=>(mkH [])) (λo=>?_) (λE l=>?_)
  ·refine oS 32 (λm=>?_) (λm=>?_)
   ·refine oLH 8 g11p1 [(0,.str g),(1,.i (fW .i64 (o.2+1)))] (mkH []) ?_
    exact ih (fW .i64 (o.2+1))
   ·exact oQ 8
  ·refine oS 9 (λm=>?_) (λm=>?_)
   ·refine oH 2 (atN 7 (ctl1 g11p2)) ((11,.i a)::(10,.str g)::(9,.bool true)::A) (mkH []) ?_
    refine oC (λ(j:Int)=>(.y j,(mkH []))) (atN 8 (ctl1 g11p2)) 12 (idxH Kr) λj B=>?_
    let C:Env:=((14,.bool (decide (j=32)))::(13,.bool (decide (j=32)))::(12,.y j)::(11,.i a)::(10,.str g)::(9,.bool true)::A)
    refine oH 2 (atN 10 (ctl1 g11p2)) C (mkH []) ?_
    refine oS 14 (λm=>?_) (λm=>?_)
    ·refine oL 19 g11p3 [(0,.str g),(1,.i a),(32,.bool true)] ?_
     exact l (true,a)
    ·refine oR 2 (atN 12 (ctl1 g11p2)) ((16,.i a)::(15,.str g)::(14,.bool false)::C) ?_
     refine oC (λ(b:Int)=>(.y b,(mkH []))) (atN 13 (ctl1 g11p2)) 17 (idxH Kr) λb r=>?_
     let D:Env:=((20,.bool (decide (b=9)))::(19,.bool (decide (b=9)))::(18,.bool (decide (b=9)))::(17,.y b)::(16,.i a)::(15,.str g)::(14,.bool false)::C)
     refine oH 3 (atN 16 (ctl1 g11p2)) D (mkH []) ?_
     refine oS 20 (λm=>?_) (λm=>?_)
     ·refine oL 13 g11p3 [(0,.str g),(1,.i a),(32,.bool true)] ?_
      exact l (true,a)
     ·refine oR 2 (atN 18 (ctl1 g11p2)) ((22,.i a)::(21,.str g)::(20,.bool false)::D) ?_
      refine oC (λ(c:Int)=>(.y c,(mkH []))) (atN 19 (ctl1 g11p2)) 23 (idxH Kr) λc u=>?_
      let q:Env:=((26,.bool (decide (c=10)))::(25,.bool (decide (c=10)))::(24,.bool (decide (c=10)))::(23,.y c)::(22,.i a)::(21,.str g)::(20,.bool false)::D)
      refine oH 3 (atN 22 (ctl1 g11p2)) q (mkH []) ?_
      refine oS 26 (λm=>?_) (λm=>?_)
      ·refine oL 7 g11p3 [(0,.str g),(1,.i a),(32,.bool true)] ?_
       exact l (true,a)
      ·refine oR 2 (atN 24 (ctl1 g11p2)) ((28,.i a)::(27,.str g)::(26,.bool false)::q) ?_
       refine oC (λ(h:Int)=>(.y h,(mkH []))) (atN 25 (ctl1 g11p2)) 29 (idxH Kr) λh x=>?_
       refine oLH 4 g11p3 [(0,.str g),(1,.i a),(32,.bool (decide (h=13)))] (mkH []) ?_
       exact l (decide (h=13),a)
   ·refine oLH 24 g11p3 [(0,.str g),(1,.i a),(32,.bool false)] (mkH []) ?_
    exact l (false,a)
def g11 (k:Nat) (a:LN) (b:Int):Option Int :=
 qGb k a k b
theorem qQ5 (k:Nat) (a:LN) (b:Int) (r:Int) (h:g11 k a b=some r):PureOk Try.prog 11 [.str a,.i b] (.i r):=by
 refine qA6 Xg11 (λ_=>⟨rfl,rfl⟩) Try.func11 (by decide +kernel) Kr (t:=g11 k a b) ?_ h
 unfold g11
 refine qA (eE:=[(0,.str a),(1,.i b)]) Kr ?_
 refine oLH 7 g11p1 [(0,.str a),(1,.i b)] (mkH []) ?_
 exact (qQ6 k a k) b
def Xg16:Fx LN:=⟨Try.prog,cx,Try.f16,λr => .str r,0,λ_=>H0,cxTi,cxOrd,λ_=>none,false⟩
def g16p2:Pt:=nav [0,0,0,0,0] (nav [0,0,0] (nav [0] (bodyAt Try.f16)))
def g16p3:Pt:=nav [0,0,0] g16p2
def g16p4:Pt:=nav [0,0] g16p3
def g16p6:Pt:=nav [2,0,0] g16p4
def qJu (k:Nat)  (j:LN) (ih:Int→Option LN):Int→Option LN :=
 λ(a:Int)=>jn (λ(m:Bool×Int)=>if m.1 then (ih (fW .i64 (m.2 - 1))) else ((subL j none (some m.2)).bind λg=>some g)) (λl=>if (decide (0 < a)) then ((nthS j (fW .i64 (a - 1))).bind λh=>if (decide (h=32)) then (l (true,a)) else ((nthS j (fW .i64 (a - 1))).bind λb=>if (decide (b=9)) then (l (true,a)) else ((nthS j (fW .i64 (a - 1))).bind λc=>l (decide (c=13),a)))) else (l (false,a)))
def qF5 (k:Nat)  (a:LN) (n:Nat):Int→Option LN:=lp (λ_=>none) (qJu k a) n
theorem qLy (k:Nat)  (g:LN) (n:Nat) (a:Int):qF5 k g (n+1) a=(jn (λ(m:Bool×Int)=>if m.1 then ((qF5 k g n) (fW .i64 (m.2 - 1))) else ((subL g none (some m.2)).bind λh=>some h)) (λl=>if (decide (0 < a)) then ((nthS g (fW .i64 (a - 1))).bind λj=>if (decide (j=32)) then (l (true,a)) else ((nthS g (fW .i64 (a - 1))).bind λb=>if (decide (b=9)) then (l (true,a)) else ((nthS g (fW .i64 (a - 1))).bind λc=>l (decide (c=13),a)))) else (l (false,a)))):=rfl
theorem qQ (k:Nat)   (g:LN)  : ∀ (n:Nat) (a:Int),Ok Xg16 g16p2 [(0,.str g),(3,.i a)] (mkH []) (qF5 k g n a):=by
 intro n
 induction n with
 | zero=>intro a; exact ok_none
 | succ n ih =>
  intro a
  show Ok _ _ _ _ (qJu k g (qF5 k g n) a)
  unfold qJu
  refine qAk (p':=nav [0] g16p2) Kr ?_
  let u:Env:=[(8,.bool (decide (0 < a))),(7,.bool (decide (0 < a))),(6,.i a),(0,.str g),(3,.i a)]
  refine oH 6 (atN 3 (ctl1 g16p3)) u (mkH []) ?_
  refine oJ g16p4 (λ(j:Bool×Int)=>[(0,.str g),(3,.i j.2),(28,.bool j.1)]) (λ(j:Bool×Int)=>(mkH [])) (λj=>?_) (λD l=>?_)
  ·refine oS 28 (λo=>?_) (λo=>?_)
   ·refine oLH 8 g16p2 [(0,.str g),(3,.i (fW .i64 (j.2 - 1)))] (mkH []) ?_
    exact ih (fW .i64 (j.2 - 1))
   ·refine oH 6 (atN 2 (ctl1 g16p6)) [(32,.i j.2),(31,.str g),(28,.bool false),(0,.str g),(3,.i j.2),(28,.bool j.1)] (mkH []) ?_
    refine oC (λ(m:LN)=>(.str m,(mkH []))) (atN 3 (ctl1 g16p6)) 33 (subH none (some j.2) Kr) λm x=>?_
    exact oQ 3
  ·refine oS 8 (λo=>?_) (λo=>?_)
   ·refine oH 3 (atN 6 (ctl1 g16p3)) ((11,.i (fW .i64 (a - 1)))::(10,.i a)::(9,.str g)::(8,.bool true)::u) (mkH []) ?_
    refine oC (λ(h:Int)=>(.y h,(mkH []))) (atN 7 (ctl1 g16p3)) 12 (idxH Kr) λh A=>?_
    let B:Env:=((14,.bool (decide (h=32)))::(13,.bool (decide (h=32)))::(12,.y h)::(11,.i (fW .i64 (a - 1)))::(10,.i a)::(9,.str g)::(8,.bool true)::u)
    refine oH 2 (atN 9 (ctl1 g16p3)) B (mkH []) ?_
    refine oS 14 (λo=>?_) (λo=>?_)
    ·refine oL 15 g16p4 [(0,.str g),(3,.i a),(28,.bool true)] ?_
     exact l (true,a)
    ·refine oR 3 (atN 12 (ctl1 g16p3)) ((17,.i (fW .i64 (a - 1)))::(16,.i a)::(15,.str g)::(14,.bool false)::B) ?_
     refine oC (λ(b:Int)=>(.y b,(mkH []))) (atN 13 (ctl1 g16p3)) 18 (idxH Kr) λb q=>?_
     let C:Env:=((21,.bool (decide (b=9)))::(20,.bool (decide (b=9)))::(19,.bool (decide (b=9)))::(18,.y b)::(17,.i (fW .i64 (a - 1)))::(16,.i a)::(15,.str g)::(14,.bool false)::B)
     refine oH 3 (atN 16 (ctl1 g16p3)) C (mkH []) ?_
     refine oS 21 (λo=>?_) (λo=>?_)
     ·refine oL 8 g16p4 [(0,.str g),(3,.i a),(28,.bool true)] ?_
      exact l (true,a)
     ·refine oR 3 (atN 19 (ctl1 g16p3)) ((24,.i (fW .i64 (a - 1)))::(23,.i a)::(22,.str g)::(21,.bool false)::C) ?_
      refine oC (λ(c:Int)=>(.y c,(mkH []))) (atN 20 (ctl1 g16p3)) 25 (idxH Kr) λc r=>?_
      refine oLH 4 g16p4 [(0,.str g),(3,.i a),(28,.bool (decide (c=13)))] (mkH []) ?_
      exact l (decide (c=13),a)
   ·refine oLH 21 g16p4 [(0,.str g),(3,.i a),(28,.bool false)] (mkH []) ?_
    exact l (false,a)
def g16 (k:Nat) (a:LN):Option LN :=
 qF5 k a k (a.length:Int)
theorem g16_ok (k:Nat) (a:LN) (r:LN) (h:g16 k a=some r):PureOk Try.prog 16 [.str a] (.str r):=by
 refine qA6 Xg16 (λ_=>⟨rfl,rfl⟩) Try.func16 (by decide +kernel) Kr (t:=g16 k a) ?_ h
 unfold g16
 refine qA (eE:=[(0,.str a)]) Kr ?_
 refine oLH 13 g16p2 [(0,.str a),(3,.i (a.length:Int))] (mkH []) ?_
 exact (qQ k a k) (a.length:Int)
def Xg18:Fx (S38×Int):=⟨Try.prog,cx,Try.f18,λr => .tuple [.agg [.i r.1.f0,.str r.1.f1,.i r.1.f2],.i r.2],0,λ_=>H0,cxTi,cxOrd,λ_=>none,false⟩
def g18p1:Pt:=nav [0,0,0] (nav [0] (bodyAt Try.f18))
def g18p3:Pt:=nav [0,0] (nav [0,0,0,0] g18p1)
def g18p4:Pt:=nav [1] g18p3
def g18p5:Pt:=nav [2,0,0] g18p3
def g18p6:Pt:=nav [0,0,0,0] g18p5
def g18p7:Pt:=nav [0,0] g18p6
def g18p9:Pt:=nav [2,0,0,0] g18p7
def g18p11:Pt:=nav [0,0] g18p9
def g18p13:Pt:=nav [2,0,0] g18p11
def g18p15:Pt:=nav [0,0,0,0] (nav [0,0,0,0] (nav [1,0] g18p11))
def g18p17:Pt:=nav [0,0] (nav [0,0,0] g18p15)
def g18p18:Pt:=nav [1,0,0,0] g18p17
def g18p20:Pt:=nav [0,0] g18p18
def qJt (k:Nat) (j:Unit→Option (S38×Int)) (l:LN) (m:Int) (n:Int×Int) (ih:Bool→Int→Option (S38×Int)):Bool→Int→Option (S38×Int) :=
 λ(b:Bool) (a:Int)=>if (decide (a < fW .i64 (m+n.2))) then (jn (λ(c:Bool×Int)=>ih c.1 (fW .i64 (c.2+1))) (λg=>if b then (g (true,a)) else ((nthS l a).bind λh=>g (decide (h=35),a)))) else (if (!b) then (some ((⟨(0:Int),([]:LN),(0:Int)⟩:S38),(4:Int))) else (j ()))
def qE6 (k:Nat) (a:Unit→Option (S38×Int)) (b:LN) (c:Int) (g:Int×Int) (n:Nat):Bool→Int→Option (S38×Int):=lp (λ_ _=>none) (qJt k a b c g) n
theorem g18_l9_s (k:Nat) (c:Unit→Option (S38×Int)) (l:LN) (m:Int) (o:Int×Int) (n:Nat) (b:Bool) (a:Int):qE6 k c l m o (n+1) b a=(if (decide (a < fW .i64 (m+o.2))) then (jn (λ(g:Bool×Int)=>(qE6 k c l m o n) g.1 (fW .i64 (g.2+1))) (λh=>if b then (h (true,a)) else ((nthS l a).bind λj=>h (decide (j=35),a)))) else (if (!b) then (some ((⟨(0:Int),([]:LN),(0:Int)⟩:S38),(4:Int))) else (c ()))):=rfl
theorem qPy (k:Nat)  (o:Unit→Option (S38×Int)) (l:LN) (c:Int) (g:Int×Int) (u:∀ m:Unit,Ok Xg18 g18p13 ((λ(m:Unit)=>[(0,.str l),(1,.i c),(4,.ptr 0 3 0),(6,.i g.1),(8,.i (fW .i64 (c+g.2)))]) m) ((λ(m:Unit)=>(mkH [⟨[.i 0,.str [],.i 0],0,false⟩])) m) (o m)):∀ (n:Nat) (a:Bool) (b:Int),Ok Xg18 g18p15 [(0,.str l),(1,.i c),(4,.ptr 0 3 0),(6,.i g.1),(8,.i (fW .i64 (c+g.2))),(9,.bool a),(10,.i b)] (mkH [⟨[.i 0,.str [],.i 0],0,false⟩]) (qE6 k o l c g n a b):=by
 intro n
 induction n with
 | zero=>intro a b; exact ok_none
 | succ n ih =>
  intro a b
  show Ok _ _ _ _ (qJt k o l c g (qE6 k o l c g n) a b)
  unfold qJt
  refine qAk (p':=nav [0] g18p15) Kr ?_
  let x:Env:=[(54,.bool (decide (b < fW .i64 (c+g.2)))),(53,.i (fW .i64 (c+g.2))),(52,.i b),(0,.str l),(1,.i c),(4,.ptr 0 3 0),(6,.i g.1),(8,.i (fW .i64 (c+g.2))),(9,.bool a),(10,.i b)]
  let r:Blk:=⟨[.i 0,.str [],.i 0],0,false⟩
  refine oH 7 g18p17 x (mkH [r]) ?_
  refine oS 54 (λA=>?_) (λA=>?_)
  ·refine oR 7 (atN 2 (ctl1 g18p18)) ((58,.bool a)::(57,.bool a)::(54,.bool true)::x) ?_
   refine oJ g18p20 (λ(h:Bool×Int)=>[(0,.str l),(1,.i c),(4,.ptr 0 3 0),(6,.i g.1),(8,.i (fW .i64 (c+g.2))),(9,.bool h.1),(10,.i h.2)]) (λ(h:Bool×Int)=>(mkH [r])) (λh=>?_) (λC q=>?_)
   ·refine oLH 5 g18p15 [(0,.str l),(1,.i c),(4,.ptr 0 3 0),(6,.i g.1),(8,.i (fW .i64 (c+g.2))),(9,.bool h.1),(10,.i (fW .i64 (h.2+1)))] (mkH [r]) ?_
    exact ih h.1 (fW .i64 (h.2+1))
   ·refine oS 58 (λA=>?_) (λA=>?_)
    ·refine oLH 7 g18p20 [(0,.str l),(1,.i c),(4,.ptr 0 3 0),(6,.i g.1),(8,.i (fW .i64 (c+g.2))),(9,.bool true),(10,.i b)] (mkH [r]) ?_
     exact q (true,b)
    ·refine oH 2 (atN 4 (ctl1 g18p18)) ((60,.i b)::(59,.str l)::(58,.bool false)::(58,.bool a)::(57,.bool a)::(54,.bool true)::x) (mkH [r]) ?_
     refine oC (λ(j:Int)=>(.y j,(mkH [r]))) (atN 5 (ctl1 g18p18)) 61 (idxH Kr) λj B=>?_
     refine oLH 4 g18p20 [(0,.str l),(1,.i c),(4,.ptr 0 3 0),(6,.i g.1),(8,.i (fW .i64 (c+g.2))),(9,.bool (decide (j=35))),(10,.i b)] (mkH [r]) ?_
     exact q (decide (j=35),b)
  ·refine oR 7 (nav [0,0] (nav [2,0,0] g18p17)) ((65,.bool (!a))::(64,.bool a)::(54,.bool false)::x) ?_
   refine oK [0,1,4,6,8,65] [(0,.str l),(1,.i c),(4,.ptr 0 3 0),(6,.i g.1),(8,.i (fW .i64 (c+g.2))),(65,.bool (!a))] ?_
   refine oS 65 (λA=>?_) (λA=>?_)
   ·exact oQ 8
   ·refine oR 3 g18p13 ((65,.bool false)::(keepOnly ((65,.bool (!a))::(64,.bool a)::(54,.bool false)::x) [0,1,4,6,8,65])) ?_
    refine oK [0,1,4,6,8] [(0,.str l),(1,.i c),(4,.ptr 0 3 0),(6,.i g.1),(8,.i (fW .i64 (c+g.2)))] ?_
    exact u ()
def g18 (k:Nat) (c:LN) (a:Int):Option (S38×Int) :=
 (g31 k c a).bind λg=>jn (λ(b:Int×Int)=>jn (λ(x:Bool)=>if x then (some ((⟨(0:Int),([]:LN),(0:Int)⟩:S38),(4:Int))) else (jn (λ(A:Bool)=>jn (λ(B:Unit)=>(subL c (some a) (some (fW .i64 (a+b.2)))).bind λm=>some ((⟨b.1,m,a⟩:S38),(0:Int))) (λn=>if A then (qE6 k n c a b k false a) else (n ()))) (λq=>if (decide (b.1=3)) then (if (decide (fW .i64 (a+b.2) < (c.length:Int))) then ((nthS c (fW .i64 (a+b.2))).bind λh=>q (decide (h=35))) else (q false)) else (q false)))) (λr=>if (decide (b.2=0)) then (r true) else (if (decide (fW .i64 (a+b.2) < (c.length:Int))) then ((nthS c (fW .i64 (a+b.2))).bind λj=>(g33 k j).bind λl=>r l) else (r false)))) (λu=>if (decide (g=0)) then ((g32 k c a).bind λo=>u (3,o)) else (u (4,g)))
theorem g18_ok (k:Nat) (c:LN) (a:Int) (r:(S38×Int)) (h:g18 k c a=some r):PureOk Try.prog 18 [.str c,.i a] (.tuple [.agg [.i r.1.f0,.str r.1.f1,.i r.1.f2],.i r.2]):=by
 refine qA6 Xg18 (λ_=>⟨rfl,rfl⟩) Try.func18 (by decide +kernel) Kr (t:=g18 k c a) ?_ h
 unfold g18
 refine qA (eE:=[(0,.str c),(1,.i a)]) Kr ?_
 let V:Env:=[(12,.i a),(11,.str c),(5,.i 0),(4,.ptr 0 3 0),(0,.str c),(1,.i a)]
 let j:Blk:=⟨[.i 0,.str [],.i 0],0,false⟩
 refine oH 9 (atN 2 (ctl1 g18p1)) V (mkH [j]) ?_
 refine oA (λ(g:Int) => .i g) (atN 3 (ctl1 g18p1)) 13 [.str c,.i a] (g31_ok k c a) λg M=>?_
 let N:Env:=((15,.bool (decide (g=0)))::(14,.i g)::(7,.i g)::(6,.i 4)::(13,.i g)::V)
 refine oR 9 g18p3 N ?_
 refine oJ g18p5 (λ(b:Int×Int)=>[(0,.str c),(1,.i a),(4,.ptr 0 3 0),(6,.i b.1),(7,.i b.2)]) (λ(b:Int×Int)=>(mkH [j])) (λb=>?_) (λZ C=>?_)
 ·let W:Env:=[(24,.bool (decide (b.2=0))),(23,.bool (decide (b.2=0))),(22,.i b.2),(8,.i (fW .i64 (a+b.2))),(21,.i (fW .i64 (a+b.2))),(20,.i b.2),(19,.i a),(0,.str c),(1,.i a),(4,.ptr 0 3 0),(6,.i b.1),(7,.i b.2)]
  refine oH 12 (atN 3 (ctl1 g18p6)) W (mkH [j]) ?_
  refine oJ g18p7 (λ(G:Bool)=>[(0,.str c),(1,.i a),(4,.ptr 0 3 0),(6,.i b.1),(8,.i (fW .i64 (a+b.2))),(35,.bool G)]) (λ(G:Bool)=>(mkH [j])) (λG=>?_) (λj7 A=>?_)
  ·refine oS 35 (λq=>?_) (λq=>?_)
   ·exact oQ 8
   ·let Y:Env:=[(39,.bool (decide (b.1=3))),(38,.bool (decide (b.1=3))),(37,.i b.1),(35,.bool false),(0,.str c),(1,.i a),(4,.ptr 0 3 0),(6,.i b.1),(8,.i (fW .i64 (a+b.2))),(35,.bool G)]
    refine oH 8 (atN 3 (ctl1 g18p9)) Y (mkH [j]) ?_
    refine oJ g18p11 (λ(O:Bool)=>[(0,.str c),(1,.i a),(4,.ptr 0 3 0),(6,.i b.1),(8,.i (fW .i64 (a+b.2))),(50,.bool O)]) (λ(O:Bool)=>(mkH [j])) (λO=>?_) (λj8 B=>?_)
    ·refine oJ g18p13 (λ(D:Unit)=>[(0,.str c),(1,.i a),(4,.ptr 0 3 0),(6,.i b.1),(8,.i (fW .i64 (a+b.2)))]) (λ(D:Unit)=>(mkH [j])) (λD=>?_) (λS u=>?_)
     ·refine oH 5 (atN 4 (ctl1 g18p13)) [(70,.i (fW .i64 (a+b.2))),(69,.i a),(68,.str c),(67,.i b.1),(0,.str c),(1,.i a),(4,.ptr 0 3 0),(6,.i b.1),(8,.i (fW .i64 (a+b.2)))] (mkH [j]) ?_
      refine oC (λ(x:LN)=>(.str x,(mkH [j]))) (atN 5 (ctl1 g18p13)) 71 (subH (some a) (some (fW .i64 (a+b.2))) Kr) λx T=>?_
      exact oQ 6
     ·refine oS 50 (λq=>?_) (λq=>?_)
      ·refine oLH 13 g18p15 [(0,.str c),(1,.i a),(4,.ptr 0 3 0),(6,.i b.1),(8,.i (fW .i64 (a+b.2))),(9,.bool false),(10,.i a)] (mkH [j]) ?_
       exact (qPy k S c a b u k) false a
      ·refine oLH 3 g18p13 [(0,.str c),(1,.i a),(4,.ptr 0 3 0),(6,.i b.1),(8,.i (fW .i64 (a+b.2)))] (mkH [j]) ?_
       exact u ()
    ·refine oS 39 (λq=>?_) (λq=>?_)
     ·let E:Env:=((45,.bool (decide (fW .i64 (a+b.2) < (c.length:Int))))::(44,.bool (decide (fW .i64 (a+b.2) < (c.length:Int))))::(43,.bool (decide (fW .i64 (a+b.2) < (c.length:Int))))::(42,.i (c.length:Int))::(41,.str c)::(40,.i (fW .i64 (a+b.2)))::(39,.bool true)::Y)
      refine oH 6 (atN 9 (ctl1 g18p9)) E (mkH [j]) ?_
      refine oS 45 (λq=>?_) (λq=>?_)
      ·refine oR 2 (atN 11 (ctl1 g18p9)) ((47,.i (fW .i64 (a+b.2)))::(46,.str c)::(45,.bool true)::E) ?_
       refine oC (λ(l:Int)=>(.y l,(mkH [j]))) (atN 12 (ctl1 g18p9)) 48 (idxH Kr) λl J=>?_
       refine oLH 3 g18p11 [(0,.str c),(1,.i a),(4,.ptr 0 3 0),(6,.i b.1),(8,.i (fW .i64 (a+b.2))),(50,.bool (decide (l=35)))] (mkH [j]) ?_
       exact B (decide (l=35))
      ·refine oL 6 g18p11 [(0,.str c),(1,.i a),(4,.ptr 0 3 0),(6,.i b.1),(8,.i (fW .i64 (a+b.2))),(50,.bool false)] ?_
       exact B false
     ·refine oLH 12 g18p11 [(0,.str c),(1,.i a),(4,.ptr 0 3 0),(6,.i b.1),(8,.i (fW .i64 (a+b.2))),(50,.bool false)] (mkH [j]) ?_
      exact B false
  ·refine oS 24 (λq=>?_) (λq=>?_)
   ·refine oLH 12 g18p7 [(0,.str c),(1,.i a),(4,.ptr 0 3 0),(6,.i b.1),(8,.i (fW .i64 (a+b.2))),(35,.bool true)] (mkH [j]) ?_
    exact A true
   ·let F:Env:=((29,.bool (decide (fW .i64 (a+b.2) < (c.length:Int))))::(28,.bool (decide (fW .i64 (a+b.2) < (c.length:Int))))::(27,.i (c.length:Int))::(26,.str c)::(25,.i (fW .i64 (a+b.2)))::(24,.bool false)::W)
    refine oH 5 (atN 8 (ctl1 g18p6)) F (mkH [j]) ?_
    refine oS 29 (λq=>?_) (λq=>?_)
    ·refine oR 2 (atN 10 (ctl1 g18p6)) ((31,.i (fW .i64 (a+b.2)))::(30,.str c)::(29,.bool true)::F) ?_
     refine oC (λ(m:Int)=>(.y m,(mkH [j]))) (atN 11 (ctl1 g18p6)) 32 (idxH Kr) λm K=>?_
     refine oA (λ(n:Bool) => .bool n) (atN 12 (ctl1 g18p6)) 33 [.y m] (g33_ok k m) λn L=>?_
     refine oLH 3 g18p7 [(0,.str c),(1,.i a),(4,.ptr 0 3 0),(6,.i b.1),(8,.i (fW .i64 (a+b.2))),(35,.bool n)] (mkH [j]) ?_
     exact A n
    ·refine oL 7 g18p7 [(0,.str c),(1,.i a),(4,.ptr 0 3 0),(6,.i b.1),(8,.i (fW .i64 (a+b.2))),(35,.bool false)] ?_
     exact A false
 ·refine oS 15 (λq=>?_) (λq=>?_)
  ·refine oH 4 (atN 2 (ctl1 g18p4)) ((17,.i a)::(16,.str c)::(15,.bool true)::N) (mkH [j]) ?_
   refine oA (λ(o:Int) => .i o) (atN 3 (ctl1 g18p4)) 18 [.str c,.i a] (g32_ok k c a) λo U=>?_
   refine oL 4 g18p5 [(0,.str c),(1,.i a),(4,.ptr 0 3 0),(6,.i 3),(7,.i o)] ?_
   exact C (3,o)
  ·refine oH 3 g18p5 ((15,.bool false)::N) (mkH [j]) ?_
   refine oK [0,1,4,6,7] [(0,.str c),(1,.i a),(4,.ptr 0 3 0),(6,.i 4),(7,.i g)] ?_
   exact C (4,g)
def Xg19:Fx Int:=⟨Try.prog,cx,Try.f19,λr => .i r,0,λ_=>H0,cxTi,cxOrd,λ_=>none,false⟩
def g19p1:Pt:=nav [0,0,0,0,0] (nav [0] (bodyAt Try.f19))
def g19p2:Pt:=nav [0,0,0] g19p1
def g19p3:Pt:=nav [0,0] g19p2
def qJs (k:Nat)  (h:LN) (ih:Int→Option Int):Int→Option Int :=
 λ(a:Int)=>jn (λ(g:Bool×Int)=>if g.1 then (ih (fW .i64 (g.2+1))) else (some g.2)) (λj=>if (decide (a < (h.length:Int))) then ((nthS h a).bind λb=>(g33 k b).bind λc=>j (c,a)) else (j (false,a)))
def qGa (k:Nat)  (a:LN) (n:Nat):Int→Option Int:=lp (λ_=>none) (qJs k a) n
theorem g19_l1_s (k:Nat)  (g:LN) (n:Nat) (a:Int):qGa k g (n+1) a=(jn (λ(h:Bool×Int)=>if h.1 then ((qGa k g n) (fW .i64 (h.2+1))) else (some h.2)) (λj=>if (decide (a < (g.length:Int))) then ((nthS g a).bind λb=>(g33 k b).bind λc=>j (c,a)) else (j (false,a)))):=rfl
theorem qPx (k:Nat)   (b:LN)  : ∀ (n:Nat) (a:Int),Ok Xg19 g19p1 [(0,.str b),(1,.i a)] (mkH []) (qGa k b n a):=by
 intro n
 induction n with
 | zero=>intro a; exact ok_none
 | succ n ih =>
  intro a
  show Ok _ _ _ _ (qJs k b (qGa k b n) a)
  unfold qJs
  refine qAk (p':=nav [0] g19p1) Kr ?_
  let q:Env:=[(9,.bool (decide (a < (b.length:Int)))),(8,.bool (decide (a < (b.length:Int)))),(7,.i (b.length:Int)),(6,.str b),(5,.i a),(0,.str b),(1,.i a)]
  refine oH 8 (atN 5 (ctl1 g19p2)) q (mkH []) ?_
  refine oJ g19p3 (λ(h:Bool×Int)=>[(0,.str b),(1,.i h.2),(14,.bool h.1)]) (λ(h:Bool×Int)=>(mkH [])) (λh=>?_) (λr j=>?_)
  ·refine oS 14 (λl=>?_) (λl=>?_)
   ·refine oLH 8 g19p1 [(0,.str b),(1,.i (fW .i64 (h.2+1)))] (mkH []) ?_
    exact ih (fW .i64 (h.2+1))
   ·exact oQ 8
  ·refine oS 9 (λl=>?_) (λl=>?_)
   ·refine oH 2 (atN 7 (ctl1 g19p2)) ((11,.i a)::(10,.str b)::(9,.bool true)::q) (mkH []) ?_
    refine oC (λ(c:Int)=>(.y c,(mkH []))) (atN 8 (ctl1 g19p2)) 12 (idxH Kr) λc m=>?_
    refine oA (λ(g:Bool) => .bool g) (atN 9 (ctl1 g19p2)) 13 [.y c] (g33_ok k c) λg o=>?_
    refine oLH 2 g19p3 [(0,.str b),(1,.i a),(14,.bool g)] (mkH []) ?_
    exact j (g,a)
   ·refine oLH 6 g19p3 [(0,.str b),(1,.i a),(14,.bool false)] (mkH []) ?_
    exact j (false,a)
def g19 (k:Nat) (a:LN) (b:Int):Option Int :=
 qGa k a k b
theorem g19_ok (k:Nat) (a:LN) (b:Int) (r:Int) (h:g19 k a b=some r):PureOk Try.prog 19 [.str a,.i b] (.i r):=by
 refine qA6 Xg19 (λ_=>⟨rfl,rfl⟩) Try.func19 (by decide +kernel) Kr (t:=g19 k a b) ?_ h
 unfold g19
 refine qA (eE:=[(0,.str a),(1,.i b)]) Kr ?_
 refine oLH 7 g19p1 [(0,.str a),(1,.i b)] (mkH []) ?_
 exact (qPx k a k) b
def Xg21:Fx Int:=⟨Try.prog,cx,Try.f21,λr => .i r,0,λ_=>H0,cxTi,cxOrd,λ_=>none,false⟩
def g21p2:Pt:=nav [0,0,0,0,0] (nav [0,0,0] (nav [0] (bodyAt Try.f21)))
def g21p3:Pt:=nav [0,0,0] g21p2
def g21p4:Pt:=nav [0] g21p3
def g21p5:Pt:=nav [1,0,0,0,0] g21p4
def g21p7:Pt:=nav [0,0] g21p5
def g21p10:Pt:=nav [2,0,0] g21p7
def g21p13:Pt:=nav [0,0,0,0] g21p10
def g21p15:Pt:=nav [0,0] g21p13
def g21d0:DP:=⟨[],[(0,0,0),(0,0,0),(2,0,0),(7,0,0),(15,0,0),(31,0,0),(31,0,0),(127,0,0),(31,0,0),(31,0,0),(799,0,0),(2047,0,0),(4095,0,0)],13,thrown,[],H0⟩
def qJq (k:Nat)  (g:LN) (m:Int) (ih:Int→Option Int):Int→Option Int :=
 λ(a:Int)=>jn (λ(h:Bool×Int)=>if h.1 then ((nthS g h.2).bind λj=>jn (λ(n:Int)=>(g15 k g n).bind λb=>jn (λ(u:Bool)=>if u then (some (0:Int)) else (ih (fW .i64 (n+b.2)))) (λo=>if (decide (b.1 < 32)) then (o true) else (o (decide (b.1=127))))) (λq=>if (decide (j=92)) then (q (fW .i64 (h.2+1))) else (q h.2))) else (if (decide ((g.length:Int)≤h.2)) then (some (0:Int)) else (some (fW .i64 (fW .i64 (h.2+1) - m))))) (λr=>if (decide (a < (g.length:Int))) then ((nthS g a).bind λl=>(nthS g m).bind λc=>r (!decide (l=c),a)) else (r (false,a)))
def qF4 (k:Nat)  (a:LN) (b:Int) (n:Nat):Int→Option Int:=lp (λ_=>none) (qJq k a b) n
theorem qLx (k:Nat)  (c:LN) (m:Int) (n:Nat) (a:Int):qF4 k c m (n+1) a=(jn (λ(h:Bool×Int)=>if h.1 then ((nthS c h.2).bind λj=>jn (λ(o:Int)=>(g15 k c o).bind λb=>jn (λ(x:Bool)=>if x then (some (0:Int)) else ((qF4 k c m n) (fW .i64 (o+b.2)))) (λq=>if (decide (b.1 < 32)) then (q true) else (q (decide (b.1=127))))) (λr=>if (decide (j=92)) then (r (fW .i64 (h.2+1))) else (r h.2))) else (if (decide ((c.length:Int)≤h.2)) then (some (0:Int)) else (some (fW .i64 (fW .i64 (h.2+1) - m))))) (λu=>if (decide (a < (c.length:Int))) then ((nthS c a).bind λl=>(nthS c m).bind λg=>u (!decide (l=g),a)) else (u (false,a)))):=rfl
theorem qPv (k:Nat)   (c:LN) (j:Int)  : ∀ (n:Nat) (a:Int),Ok Xg21 g21p2 [(0,.str c),(1,.i j),(5,.i a)] (mkH []) (qF4 k c j n a):=by
 intro n
 induction n with
 | zero=>intro a; exact ok_none
 | succ n ih =>
  intro a
  show Ok _ _ _ _ (qJq k c j (qF4 k c j n) a)
  unfold qJq
  refine qAk (p':=nav [0] g21p2) Kr ?_
  refine oH 2 g21p3 [(0,.str c),(1,.i j),(5,.i a)] (mkH []) ?_
  refine oJ g21p4 (λ(l:Bool×Int)=>[(0,.str c),(1,.i j),(5,.i l.2),(22,.bool l.1)]) (λ(l:Bool×Int)=>(mkH [])) (λl=>?_) (λS D=>?_)
  ·refine oS 22 (λr=>?_) (λr=>?_)
   ·let N:Env:=[(24,.i l.2),(23,.str c),(22,.bool true),(0,.str c),(1,.i j),(5,.i l.2),(22,.bool l.1)]
    refine oH 8 (atN 2 (ctl1 g21p5)) N (mkH []) ?_
    refine oC (λ(m:Int)=>(.y m,(mkH []))) (atN 3 (ctl1 g21p5)) 25 (idxH Kr) λm K=>?_
    refine oH 2 g21p7 ((26,.bool (decide (m=92)))::(25,.y m)::N) (mkH []) ?_
    refine oJ g21p10 (λ(o:Int)=>[(0,.str c),(1,.i j),(5,.i o)]) (λ(o:Int)=>(mkH [])) (λo=>?_) (λT E=>?_)
    ·let O:Env:=[(31,.i o),(30,.str c),(0,.str c),(1,.i j),(5,.i o)]
     refine oH 3 (atN 2 (ctl1 g21p10)) O (mkH []) ?_
     refine oA (λ(b:(Int×Int)) => .tuple [.i b.1,.i b.2]) (atN 3 (ctl1 g21p10)) 32 [.str c,.i o] (qLz k c o) λb L=>?_
     refine oR 12 (atN 3 (ctl1 g21p13)) ((37,.bool (decide (b.1 < 32)))::(36,.bool (decide (b.1 < 32)))::(35,.i b.1)::(7,.i b.2)::(6,.i b.1)::(34,.i b.2)::(33,.i b.1)::(29,.tuple [.i b.1,.i b.2])::(32,.tuple [.i b.1,.i b.2])::O) ?_
     refine oJ g21p15 (λ(M:Bool)=>[(0,.str c),(1,.i j),(5,.i o),(7,.i b.2),(40,.bool M)]) (λ(M:Bool)=>(mkH [])) (λM=>?_) (λU F=>?_)
     ·refine oS 40 (λr=>?_) (λr=>?_)
      ·exact oQ 6
      ·refine oLH 8 g21p2 [(0,.str c),(1,.i j),(5,.i (fW .i64 (o+b.2)))] (mkH []) ?_
       exact ih (fW .i64 (o+b.2))
     ·refine oS 37 (λr=>?_) (λr=>?_)
      ·refine oLH 4 g21p15 [(0,.str c),(1,.i j),(5,.i o),(7,.i b.2),(40,.bool true)] (mkH []) ?_
       exact F true
      ·refine oLH 4 g21p15 [(0,.str c),(1,.i j),(5,.i o),(7,.i b.2),(40,.bool (decide (b.1=127)))] (mkH []) ?_
       exact F (decide (b.1=127))
    ·refine oS 26 (λr=>?_) (λr=>?_)
     ·refine oLH 7 g21p10 [(0,.str c),(1,.i j),(5,.i (fW .i64 (l.2+1)))] (mkH []) ?_
      exact E (fW .i64 (l.2+1))
     ·refine oLH 3 g21p10 [(0,.str c),(1,.i j),(5,.i l.2)] (mkH []) ?_
      exact E l.2
   ·refine oH 10 (nav [0,0] (nav [2,0,0,0] g21p4)) [(47,.bool (decide ((c.length:Int)≤l.2))),(46,.i (c.length:Int)),(45,.str c),(44,.i l.2),(22,.bool false),(0,.str c),(1,.i j),(5,.i l.2),(22,.bool l.1)] (mkH []) ?_
    refine oS 47 (λr=>?_) (λr=>?_)
    ·exact oQ 6
    ·exact oQ 11
  ·refine qCo (λA=>?_) (λA=>?_)
   ·refine qA7 (λh B=>?_)
    refine qA7 (λg u=>?_)
    let C:Env:=[(14,.bool (decide (a < (c.length:Int)))),(13,.bool (decide (a < (c.length:Int)))),(12,.i (c.length:Int)),(11,.str c),(10,.i a),(0,.str c),(1,.i j),(5,.i a)]
    let q:Env:=[(16,.i a),(15,.str c),(14,.bool true),(13,.bool true),(12,.i (c.length:Int)),(11,.str c),(10,.i a),(0,.str c),(1,.i j),(5,.i a)]
    let G:Env:=((22,.bool (!decide (h=g)))::(21,.bool (!decide (h=g)))::(20,.y g)::(19,.i j)::(18,.str c)::(17,.y h)::q)
    refine oD (H':=(mkH [])) (nav [0] g21p3) G [] g21d0 (oDr 5 5 C (oDe (λz=>[(14,.bool z),(13,.bool z),(12,.i (c.length:Int)),(11,.str c),(10,.i a),(0,.str c),(1,.i j),(5,.i a)]) A (oDr 2 7 q (qAa (l':=(opsAt g21p3).toList.drop 8) (eE:=((17,.y h)::q)) (hs:=[]) (x:=h) (λ(h:Int)=>(.y h,(mkH []))) (idxH Kr) B Kr (oDr 2 10 ((19,.i j)::(18,.str c)::(17,.y h)::q) (qAa (l':=(opsAt g21p3).toList.drop 11) (eE:=((20,.y g)::(19,.i j)::(18,.str c)::(17,.y h)::q)) (hs:=[]) (x:=g) (λ(g:Int)=>(.y g,(mkH []))) (idxH Kr) u Kr (oDr 2 13 G .nil))))))) ?_
    refine oK [0,1,5,22] [(0,.str c),(1,.i j),(5,.i a),(22,.bool (!decide (h=g)))] ?_
    exact D (!decide (h=g),a)
   ·let C:Env:=[(14,.bool (decide (a < (c.length:Int)))),(13,.bool (decide (a < (c.length:Int)))),(12,.i (c.length:Int)),(11,.str c),(10,.i a),(0,.str c),(1,.i j),(5,.i a)]
    let J:Env:=[(22,.bool false),(21,.tuple []),(20,.tuple []),(19,.tuple []),(18,.tuple []),(17,.tuple []),(16,.tuple []),(15,.tuple []),(14,.bool false),(13,.bool false),(12,.i (c.length:Int)),(11,.str c),(10,.i a),(0,.str c),(1,.i j),(5,.i a)]
    refine oD (H':=(mkH [])) (nav [0] g21p3) J [] g21d0 (oDr 5 5 C (oDe (λz=>[(14,.bool z),(13,.bool z),(12,.i (c.length:Int)),(11,.str c),(10,.i a),(0,.str c),(1,.i j),(5,.i a)]) A (oDr 8 13 J .nil))) ?_
    refine oK [0,1,5,22] [(0,.str c),(1,.i j),(5,.i a),(22,.bool false)] ?_
    exact D (false,a)
def g21 (k:Nat) (b:LN) (a:Int):Option Int :=
 qF4 k b a k (fW .i64 (a+1))
theorem g21_ok (k:Nat) (b:LN) (a:Int) (r:Int) (h:g21 k b a=some r):PureOk Try.prog 21 [.str b,.i a] (.i r):=by
 refine qA6 Xg21 (λ_=>⟨rfl,rfl⟩) Try.func21 (by decide +kernel) Kr (t:=g21 k b a) ?_ h
 unfold g21
 refine qA (eE:=[(0,.str b),(1,.i a)]) Kr ?_
 refine oLH 13 g21p2 [(0,.str b),(1,.i a),(5,.i (fW .i64 (a+1)))] (mkH []) ?_
 exact (qPv k b a k) (fW .i64 (a+1))
def Xg22:Fx Int:=⟨Try.prog,cx,Try.f22,λr => .i r,0,λ_=>H0,cxTi,cxOrd,λ_=>none,false⟩
def g22p1:Pt:=nav [0,0,0,0] (nav [0] (bodyAt Try.f22))
def g22p2:Pt:=nav [0,0] g22p1
def g22p3:Pt:=nav [1,0,0] g22p2
def g22p4:Pt:=nav [2,0,0] g22p2
def g22p5:Pt:=nav [0,0,0] g22p3
def g22p6:Pt:=nav [0,0,0,0] g22p4
def g22p8:Pt:=nav [0,0] g22p6
def g22 (k:Nat) (g:LN) (h:Int):Option Int :=
 jn (λ(m:Bool)=>if m then ((g34 k g (fW .i64 (h+1))).bind λb=>if (decide (0≤b.1)) then (some (fW .i64 (b.2+1))) else (some (0:Int))) else ((g15 k g (fW .i64 (h+1))).bind λa=>jn (λ(n:Bool)=>if n then (some (0:Int)) else (some (fW .i64 (a.2+1)))) (λj=>if (decide (a.1≤32)) then (j true) else (j (decide (a.1=127)))))) (λl=>if (decide (fW .i64 (h+1) < (g.length:Int))) then ((nthS g (fW .i64 (h+1))).bind λc=>l (decide (c=92))) else (l false))
theorem g22_ok (k:Nat) (g:LN) (b:Int) (r:Int) (h:g22 k g b=some r):PureOk Try.prog 22 [.str g,.i b] (.i r):=by
 refine qA6 Xg22 (λ_=>⟨rfl,rfl⟩) Try.func22 (by decide +kernel) Kr (t:=g22 k g b) ?_ h
 unfold g22
 refine qA (eE:=[(0,.str g),(1,.i b)]) Kr ?_
 let B:Env:=[(14,.bool (decide (fW .i64 (b+1) < (g.length:Int)))),(13,.bool (decide (fW .i64 (b+1) < (g.length:Int)))),(12,.i (g.length:Int)),(11,.str g),(10,.i (fW .i64 (b+1))),(9,.i b),(4,.i 0),(0,.str g),(1,.i b)]
 refine oH 13 (atN 6 (ctl1 g22p1)) B (mkH []) ?_
 refine oJ g22p2 (λ(m:Bool)=>[(0,.str g),(1,.i b),(20,.bool m)]) (λ(m:Bool)=>(mkH [])) (λm=>?_) (λE n=>?_)
 ·refine oS 20 (λl=>?_) (λl=>?_)
  ·refine oH 7 (atN 3 (ctl1 g22p3)) [(24,.i (fW .i64 (b+1))),(23,.i b),(22,.str g),(20,.bool true),(0,.str g),(1,.i b),(20,.bool m)] (mkH []) ?_
   refine oA (λ(c:(Int×Int)) => .tuple [.i c.1,.i c.2]) (atN 4 (ctl1 g22p3)) 25 [.str g,.i (fW .i64 (b+1))] (g34_ok k g (fW .i64 (b+1))) λc q=>?_
   let C:Env:=[(5,.i c.1),(6,.i c.2)]
   refine oL 7 g22p5 C ?_
   refine oR 4 (nav [0,0] g22p5) ((29,.bool (decide (0≤c.1)))::(28,.i c.1)::C) ?_
   refine oS 29 (λl=>?_) (λl=>?_)
   ·exact oQ 8
   ·exact oQ 7
  ·refine oH 7 (atN 3 (ctl1 g22p4)) [(35,.i (fW .i64 (b+1))),(34,.i b),(33,.str g),(20,.bool false),(0,.str g),(1,.i b),(20,.bool m)] (mkH []) ?_
   refine oA (λ(a:(Int×Int)) => .tuple [.i a.1,.i a.2]) (atN 4 (ctl1 g22p4)) 36 [.str g,.i (fW .i64 (b+1))] (qLz k g (fW .i64 (b+1))) λa u=>?_
   let D:Env:=[(7,.i a.1),(8,.i a.2)]
   refine oL 8 g22p6 D ?_
   refine oR 4 (atN 3 (ctl1 g22p6)) ((41,.bool (decide (a.1≤32)))::(40,.bool (decide (a.1≤32)))::(39,.i a.1)::D) ?_
   refine oJ g22p8 (λ(x:Bool)=>[(8,.i a.2),(44,.bool x)]) (λ(x:Bool)=>(mkH [])) (λx=>?_) (λF o=>?_)
   ·refine oS 44 (λl=>?_) (λl=>?_)
    ·exact oQ 6
    ·exact oQ 9
   ·refine oS 41 (λl=>?_) (λl=>?_)
    ·refine oLH 4 g22p8 [(8,.i a.2),(44,.bool true)] (mkH []) ?_
     exact o true
    ·refine oLH 4 g22p8 [(8,.i a.2),(44,.bool (decide (a.1=127)))] (mkH []) ?_
     exact o (decide (a.1=127))
 ·refine oS 14 (λl=>?_) (λl=>?_)
  ·refine oH 3 (atN 9 (ctl1 g22p1)) ((17,.i (fW .i64 (b+1)))::(16,.i b)::(15,.str g)::(14,.bool true)::B) (mkH []) ?_
   refine oC (λ(j:Int)=>(.y j,(mkH []))) (atN 10 (ctl1 g22p1)) 18 (idxH Kr) λj A=>?_
   refine oLH 3 g22p2 [(0,.str g),(1,.i b),(20,.bool (decide (j=92)))] (mkH []) ?_
   exact n (decide (j=92))
  ·refine oLH 7 g22p2 [(0,.str g),(1,.i b),(20,.bool false)] (mkH []) ?_
   exact n false
def Xg12:Fx (S38×Int):=⟨Try.prog,cx,Try.f12,λr => .tuple [.agg [.i r.1.f0,.str r.1.f1,.i r.1.f2],.i r.2],0,λ_=>H0,cxTi,cxOrd,λ_=>none,false⟩
def g12p1:Pt:=nav [0,0,0,0] (nav [0] (bodyAt Try.f12))
def g12p2:Pt:=nav [0,0] g12p1
def g12p4:Pt:=nav [2,0,0] g12p2
def g12p8:Pt:=nav [0,0] (nav [0,0,0,0,0] (nav [0,0,0] g12p4))
def g12p10:Pt:=nav [2,0] g12p8
def g12p11:Pt:=nav [0,0,0,0,0] (nav [1,0] g12p8)
def g12p12:Pt:=nav [0,0] g12p10
def g12p13:Pt:=nav [0,0,0] g12p11
def g12p15:Pt:=nav [2,0] g12p12
def g12p16:Pt:=nav [0,0] g12p13
def g12p17:Pt:=nav [0,0,0,0] (nav [1] g12p12)
def g12p18:Pt:=nav [0,0] g12p15
def g12p20:Pt:=nav [2,0,0] g12p16
def g12p21:Pt:=nav [0,0] g12p17
def g12p22:Pt:=nav [1,0] g12p18
def g12p23:Pt:=nav [2,0] g12p18
def g12p25:Pt:=nav [2,0,0] g12p21
def g12p26:Pt:=nav [0,0] g12p23
def g12p27:Pt:=nav [1,0] g12p26
def g12p29:Pt:=nav [0,0,0] g12p27
def g12p30:Pt:=nav [0,0] (nav [2,0] g12p26)
def g12p32:Pt:=nav [1] g12p30
def g12p35:Pt:=nav [0,0] (nav [2,0] g12p30)
def g12p36:Pt:=nav [1] g12p35
def g12p38:Pt:=nav [0,0] (nav [2,0] g12p35)
def g12p39:Pt:=nav [1] g12p38
def g12p41:Pt:=nav [0,0] (nav [2,0] g12p38)
def g12p43:Pt:=nav [2] g12p41
def g12p44:Pt:=nav [0,0,0,0] (nav [1,0] g12p41)
def g12p45:Pt:=nav [0,0] g12p44
def g12p47:Pt:=nav [2,0,0] g12p45
def g12p48:Pt:=nav [0,0] g12p47
def g12p49:Pt:=nav [1] g12p48
def qH7 (k:Nat)  (l:LN) (m:Int) (ih:Int→Option (S38×Int)):Int→Option (S38×Int) :=
 λ(a:Int)=>jn (λ(b:Bool×Int)=>if b.1 then (ih (fW .i64 (b.2+1))) else ((subL l (some m) (some b.2)).bind λc=>(g16 k c).bind λg=>some ((⟨(11:Int),g,m⟩:S38),(0:Int)))) (λj=>if (decide (a < (l.length:Int))) then ((nthS l a).bind λh=>j (!decide (h=10),a)) else (j (false,a)))
def qDb (k:Nat)  (a:LN) (b:Int) (n:Nat):Int→Option (S38×Int):=lp (λ_=>none) (qH7 k a b) n
theorem qQ4 (k:Nat)  (j:LN) (m:Int) (n:Nat) (a:Int):qDb k j m (n+1) a=(jn (λ(b:Bool×Int)=>if b.1 then ((qDb k j m n) (fW .i64 (b.2+1))) else ((subL j (some m) (some b.2)).bind λc=>(g16 k c).bind λg=>some ((⟨(11:Int),g,m⟩:S38),(0:Int)))) (λl=>if (decide (a < (j.length:Int))) then ((nthS j a).bind λh=>l (!decide (h=10),a)) else (l (false,a)))):=rfl
theorem qMr (k:Nat)   (h:LN) (j:Int)  : ∀ (n:Nat) (a:Int),Ok Xg12 g12p11 [(0,.str h),(1,.i j),(4,.ptr 0 3 0),(9,.i a)] (mkH [⟨[.i 0,.str [],.i 0],0,false⟩]) (qDb k h j n a):=by
 intro n
 induction n with
 | zero=>intro a; exact ok_none
 | succ n ih =>
  intro a
  show Ok _ _ _ _ (qH7 k h j (qDb k h j n) a)
  unfold qH7
  refine qAk (p':=nav [0] g12p11) Kr ?_
  let A:Env:=[(34,.bool (decide (a < (h.length:Int)))),(33,.bool (decide (a < (h.length:Int)))),(32,.i (h.length:Int)),(31,.str h),(30,.i a),(0,.str h),(1,.i j),(4,.ptr 0 3 0),(9,.i a)]
  let m:Blk:=⟨[.i 0,.str [],.i 0],0,false⟩
  refine oH 8 (atN 5 (ctl1 g12p13)) A (mkH [m]) ?_
  refine oJ g12p16 (λ(b:Bool×Int)=>[(0,.str h),(1,.i j),(4,.ptr 0 3 0),(9,.i b.2),(39,.bool b.1)]) (λ(b:Bool×Int)=>(mkH [m])) (λb=>?_) (λB o=>?_)
  ·refine oS 39 (λx=>?_) (λx=>?_)
   ·refine oLH 8 g12p11 [(0,.str h),(1,.i j),(4,.ptr 0 3 0),(9,.i (fW .i64 (b.2+1)))] (mkH [m]) ?_
    exact ih (fW .i64 (b.2+1))
   ·refine oH 7 (atN 3 (ctl1 g12p20)) [(44,.i b.2),(43,.i j),(42,.str h),(39,.bool false),(0,.str h),(1,.i j),(4,.ptr 0 3 0),(9,.i b.2),(39,.bool b.1)] (mkH [m]) ?_
    refine oC (λ(c:LN)=>(.str c,(mkH [m]))) (atN 4 (ctl1 g12p20)) 45 (subH (some j) (some b.2) Kr) λc q=>?_
    refine oA (λ(l:LN) => .str l) (atN 5 (ctl1 g12p20)) 46 [.str c] (g16_ok k c) λl r=>?_
    exact oQ 6
  ·refine oS 34 (λx=>?_) (λx=>?_)
   ·refine oH 2 (atN 7 (ctl1 g12p13)) ((36,.i a)::(35,.str h)::(34,.bool true)::A) (mkH [m]) ?_
    refine oC (λ(g:Int)=>(.y g,(mkH [m]))) (atN 8 (ctl1 g12p13)) 37 (idxH Kr) λg u=>?_
    refine oLH 3 g12p16 [(0,.str h),(1,.i j),(4,.ptr 0 3 0),(9,.i a),(39,.bool (!decide (g=10)))] (mkH [m]) ?_
    exact o (!decide (g=10),a)
   ·refine oLH 6 g12p16 [(0,.str h),(1,.i j),(4,.ptr 0 3 0),(9,.i a),(39,.bool false)] (mkH [m]) ?_
    exact o (false,a)
def g12 (k:Nat) (c:LN) (b:Int):Option (S38×Int) :=
 jn (λ(V:Bool)=>if V then (some ((⟨(0:Int),([]:LN),(0:Int)⟩:S38),(4:Int))) else ((nthS c b).bind λa=>if (decide (a=37)) then (qDb k c b k b) else (jn (λ(W:Bool)=>jn (λ(o:Int×Int)=>if (decide (o.2=0)) then (some ((⟨(0:Int),([]:LN),(0:Int)⟩:S38),(4:Int))) else ((subL c (some b) (some (fW .i64 (b+o.2)))).bind λq=>some ((⟨o.1,q,b⟩:S38),(0:Int)))) (λg=>if W then (g (10,1)) else ((g17 k a).bind λF=>if (decide (F=3)) then ((g18 k c b).bind λn=>some (n.1,n.2)) else ((g17 k a).bind λG=>if (decide (0 < G)) then ((g17 k a).bind λJ=>(g19 k c b).bind λh=>(subL c (some b) (some (fW .i64 (b+fW .i64 (h - b))))).bind λK=>(g20 k K).bind λL=>if L then (g (8,fW .i64 (h - b))) else (g (J,fW .i64 (h - b)))) else (if (decide (a=39)) then ((g21 k c b).bind λM=>g (1,M)) else (if (decide (a=34)) then ((g21 k c b).bind λN=>g (6,N)) else (if (decide (a=36)) then ((g22 k c b).bind λO=>g (5,O)) else (if (decide (a=63)) then (jn (λ(Y:Bool)=>jn (λ(j:Int)=>jn (λ(Z:Bool)=>if Z then ((g19 k c j).bind λr=>g (7,fW .i64 (r - b))) else (g (0,0))) (λu=>if (decide (j < (c.length:Int))) then ((nthS c j).bind λx=>(g23 k x).bind λA=>if A then (u true) else ((nthS c j).bind λl=>u (decide (l=95)))) else (u false))) (λS=>if Y then (S (fW .i64 (fW .i64 (b+1)+1))) else (S (fW .i64 (b+1))))) (λT=>if (decide (fW .i64 (b+1) < (c.length:Int))) then ((nthS c (fW .i64 (b+1))).bind λB=>T (decide (B=63))) else (T false))) else ((g24 k c b).bind λC=>g (9,C)))))))))) (λm=>if (decide (a=46)) then (if (decide (fW .i64 (b+1)=(c.length:Int))) then (m true) else ((nthS c (fW .i64 (b+1))).bind λD=>if (decide (D=37)) then (m true) else ((g11 k c (fW .i64 (b+1))).bind λE=>m (decide (fW .i64 (b+1) < E))))) else (m false))))) (λU=>if (decide (b < 0)) then (U true) else (U (decide ((c.length:Int)≤b))))
theorem g12_ok (k:Nat) (c:LN) (b:Int) (r:(S38×Int)) (h:g12 k c b=some r):PureOk Try.prog 12 [.str c,.i b] (.tuple [.agg [.i r.1.f0,.str r.1.f1,.i r.1.f2],.i r.2]):=by
 refine qA6 Xg12 (λ_=>⟨rfl,rfl⟩) Try.func12 (by decide +kernel) Kr (t:=g12 k c b) ?_ h
 unfold g12
 refine qA (eE:=[(0,.str c),(1,.i b)]) Kr ?_
 let j:Blk:=⟨[.i 0,.str [],.i 0],0,false⟩
 refine oH 11 (atN 3 (ctl1 g12p1)) [(13,.bool (decide (b < 0))),(12,.bool (decide (b < 0))),(11,.i b),(5,.i 0),(4,.ptr 0 3 0),(0,.str c),(1,.i b)] (mkH [j]) ?_
 refine oJ g12p2 (λ(Y:Bool)=>[(0,.str c),(1,.i b),(4,.ptr 0 3 0),(18,.bool Y)]) (λ(Y:Bool)=>(mkH [j])) (λY=>?_) (λf3 a5=>?_)
 ·refine oS 18 (λg=>?_) (λg=>?_)
  ·exact oQ 8
  ·refine oH 6 (atN 2 (ctl1 g12p4)) [(21,.i b),(20,.str c),(18,.bool false),(0,.str c),(1,.i b),(4,.ptr 0 3 0),(18,.bool Y)] (mkH [j]) ?_
   refine oC (λ(a:Int)=>(.y a,(mkH [j]))) (atN 3 (ctl1 g12p4)) 22 (idxH Kr) λa c8=>?_
   let E5:Env:=[(0,.str c),(1,.i b),(4,.ptr 0 3 0),(6,.y a),(7,.i 0),(8,.i 0),(26,.bool (decide (a=37)))]
   refine oLH 15 g12p8 E5 (mkH [j]) ?_
   refine oS 26 (λg=>?_) (λg=>?_)
   ·refine oL 9 g12p11 [(0,.str c),(1,.i b),(4,.ptr 0 3 0),(9,.i b)] ?_
    exact (qMr k c b k) b
   ·refine oR 6 (atN 3 (ctl1 g12p10)) ((52,.bool (decide (a=46)))::(51,.bool (decide (a=46)))::(50,.y a)::(26,.bool false)::E5) ?_
    refine oJ g12p12 (λ(Z:Bool)=>[(0,.str c),(1,.i b),(4,.ptr 0 3 0),(6,.y a),(7,.i 0),(8,.i 0),(49,.bool Z)]) (λ(Z:Bool)=>(mkH [j])) (λZ=>?_) (λf4 K=>?_)
    ·refine oJ g12p17 (λ(u:Int×Int)=>[(0,.str c),(1,.i b),(4,.ptr 0 3 0),(7,.i u.1),(8,.i u.2)]) (λ(u:Int×Int)=>(mkH [j])) (λu=>?_) (λf5 o=>?_)
     ·let b4:Env:=[(159,.bool (decide (u.2=0))),(158,.i u.2),(0,.str c),(1,.i b),(4,.ptr 0 3 0),(7,.i u.1),(8,.i u.2)]
      refine oH 4 g12p21 b4 (mkH [j]) ?_
      refine oS 159 (λg=>?_) (λg=>?_)
      ·exact oQ 8
      ·refine oR 10 (atN 6 (ctl1 g12p25)) ((166,.i (fW .i64 (b+u.2)))::(165,.i u.2)::(164,.i b)::(163,.i b)::(162,.str c)::(161,.i u.1)::(159,.bool false)::b4) ?_
       refine oC (λ(S:LN)=>(.str S,(mkH [j]))) (atN 7 (ctl1 g12p25)) 167 (subH (some b) (some (fW .i64 (b+u.2))) Kr) λS c0=>?_
       exact oQ 6
     ·refine oS 49 (λg=>?_) (λg=>?_)
      ·refine oLH 7 g12p17 [(0,.str c),(1,.i b),(4,.ptr 0 3 0),(7,.i 10),(8,.i 1)] (mkH [j]) ?_
       exact o (10,1)
      ·let a2:Env:=[(76,.y a),(49,.bool false),(0,.str c),(1,.i b),(4,.ptr 0 3 0),(6,.y a),(7,.i 0),(8,.i 0),(49,.bool Z)]
       refine oH 4 (atN 1 (ctl1 g12p15)) a2 (mkH [j]) ?_
       refine oA (λ(m:Int) => .i m) (atN 2 (ctl1 g12p15)) 77 [.y a] (qPz k a) λm d0=>?_
       refine oR 3 g12p18 ((75,.bool (decide (m=3)))::(78,.bool (decide (m=3)))::(77,.i m)::a2) ?_
       refine oS 75 (λg=>?_) (λg=>?_)
       ·refine oR 5 (atN 2 (ctl1 g12p22)) ((80,.i b)::(79,.str c)::(75,.bool true)::(75,.bool (decide (m=3)))::(78,.bool (decide (m=3)))::(77,.i m)::a2) ?_
        refine oA (λ(T:(S38×Int)) => .tuple [n39 T.1,.i T.2]) (atN 3 (ctl1 g12p22)) 81 [.str c,.i b] (g18_ok k c b) λT d1=>?_
        exact oQ 6
       ·refine oR 4 (atN 1 (ctl1 g12p23)) ((85,.y a)::(75,.bool false)::(75,.bool (decide (m=3)))::(78,.bool (decide (m=3)))::(77,.i m)::a2) ?_
        refine oA (λ(U:Int) => .i U) (atN 2 (ctl1 g12p23)) 86 [.y a] (qPz k a) λU d2=>?_
        let V:Env:=[(0,.str c),(1,.i b),(4,.ptr 0 3 0),(6,.y a),(7,.i 0),(8,.i 0),(84,.bool (decide (0 < U)))]
        refine oL 3 g12p26 V ?_
        refine oS 84 (λg=>?_) (λg=>?_)
        ·refine oR 4 (atN 1 (ctl1 g12p27)) ((88,.y a)::(84,.bool true)::V) ?_
         refine oA (λ(B:Int) => .i B) (atN 2 (ctl1 g12p27)) 89 [.y a] (qPz k a) λB d3=>?_
         refine oR 2 (atN 4 (ctl1 g12p27)) ((91,.i b)::(90,.str c)::(89,.i B)::(88,.y a)::(84,.bool true)::V) ?_
         refine oA (λ(n:Int) => .i n) (atN 5 (ctl1 g12p27)) 92 [.str c,.i b] (g19_ok k c b) λn d4=>?_
         let b5:Env:=[(0,.str c),(1,.i b),(4,.ptr 0 3 0),(7,.i B),(8,.i (fW .i64 (n - b)))]
         refine oL 6 g12p29 b5 ?_
         let a8:Env:=((99,.i (fW .i64 (b+fW .i64 (n - b))))::(98,.i (fW .i64 (n - b)))::(97,.i b)::(96,.i b)::(95,.str c)::b5)
         refine oR 6 (atN 5 (ctl1 g12p29)) a8 ?_
         refine oC (λ(C:LN)=>(.str C,(mkH [j]))) (atN 6 (ctl1 g12p29)) 100 (subH (some b) (some (fW .i64 (b+fW .i64 (n - b)))) Kr) λC d5=>?_
         refine oA (λ(L:Bool) => .bool L) (atN 7 (ctl1 g12p29)) 101 [.str C] (g20_ok k C) λL d6=>?_
         refine oH 1 (nav [0,0] g12p29) ((101,.bool L)::(100,.str C)::a8) (mkH [j]) ?_
         refine oS 101 (λg=>?_) (λg=>?_)
         ·refine oL 6 g12p17 [(0,.str c),(1,.i b),(4,.ptr 0 3 0),(7,.i 8),(8,.i (fW .i64 (n - b)))] ?_
          exact o (8,fW .i64 (n - b))
         ·refine oR 4 g12p17 ((101,.bool false)::(101,.bool L)::(100,.str C)::a8) ?_
          refine oK [0,1,4,7,8] [(0,.str c),(1,.i b),(4,.ptr 0 3 0),(7,.i B),(8,.i (fW .i64 (n - b)))] ?_
          exact o (B,fW .i64 (n - b))
        ·refine oR 7 g12p30 ((102,.bool (decide (a=39)))::(104,.bool (decide (a=39)))::(103,.y a)::(84,.bool false)::V) ?_
         refine oS 102 (λg=>?_) (λg=>?_)
         ·refine oR 4 (atN 2 (ctl1 g12p32)) ((106,.i b)::(105,.str c)::(102,.bool true)::(102,.bool (decide (a=39)))::(104,.bool (decide (a=39)))::(103,.y a)::(84,.bool false)::V) ?_
          refine oA (λ(M:Int) => .i M) (atN 3 (ctl1 g12p32)) 107 [.str c,.i b] (g21_ok k c b) λM d9=>?_
          refine oL 5 g12p17 [(0,.str c),(1,.i b),(4,.ptr 0 3 0),(7,.i 1),(8,.i M)] ?_
          exact o (1,M)
         ·let a3:Env:=[(0,.str c),(1,.i b),(4,.ptr 0 3 0),(6,.y a),(7,.i 0),(8,.i 0),(108,.bool (decide (a=34)))]
          refine oL 7 g12p35 a3 ?_
          refine oS 108 (λg=>?_) (λg=>?_)
          ·refine oR 4 (atN 2 (ctl1 g12p36)) ((112,.i b)::(111,.str c)::(108,.bool true)::a3) ?_
           refine oA (λ(N:Int) => .i N) (atN 3 (ctl1 g12p36)) 113 [.str c,.i b] (g21_ok k c b) λN e0=>?_
           refine oL 5 g12p17 [(0,.str c),(1,.i b),(4,.ptr 0 3 0),(7,.i 6),(8,.i N)] ?_
           exact o (6,N)
          ·refine oR 7 g12p38 ((114,.bool (decide (a=36)))::(116,.bool (decide (a=36)))::(115,.y a)::(108,.bool false)::a3) ?_
           refine oS 114 (λg=>?_) (λg=>?_)
           ·refine oR 4 (atN 2 (ctl1 g12p39)) ((118,.i b)::(117,.str c)::(114,.bool true)::(114,.bool (decide (a=36)))::(116,.bool (decide (a=36)))::(115,.y a)::(108,.bool false)::a3) ?_
            refine oA (λ(O:Int) => .i O) (atN 3 (ctl1 g12p39)) 119 [.str c,.i b] (g22_ok k c b) λO e1=>?_
            refine oL 5 g12p17 [(0,.str c),(1,.i b),(4,.ptr 0 3 0),(7,.i 5),(8,.i O)] ?_
            exact o (5,O)
           ·let a9:Env:=[(0,.str c),(1,.i b),(4,.ptr 0 3 0),(7,.i 0),(8,.i 0),(120,.bool (decide (a=63)))]
            refine oL 7 g12p41 a9 ?_
            refine oS 120 (λg=>?_) (λg=>?_)
            ·let b6:Env:=((129,.bool (decide (fW .i64 (b+1) < (c.length:Int))))::(128,.bool (decide (fW .i64 (b+1) < (c.length:Int))))::(127,.i (c.length:Int))::(126,.str c)::(125,.i (fW .i64 (b+1)))::(10,.i (fW .i64 (b+1)))::(124,.i (fW .i64 (b+1)))::(123,.i b)::(120,.bool true)::a9)
             refine oR 15 (atN 5 (ctl1 g12p44)) b6 ?_
             refine oJ g12p45 (λ(b1:Bool)=>[(0,.str c),(1,.i b),(4,.ptr 0 3 0),(7,.i 0),(8,.i 0),(10,.i (fW .i64 (b+1))),(134,.bool b1)]) (λ(b1:Bool)=>(mkH [j])) (λb1=>?_) (λf6 a6=>?_)
             ·refine oJ g12p47 (λ(l:Int)=>[(0,.str c),(1,.i b),(4,.ptr 0 3 0),(7,.i 0),(8,.i 0),(10,.i l)]) (λ(l:Int)=>(mkH [j])) (λl=>?_) (λf7 a7=>?_)
              ·let b2:Env:=[(141,.bool (decide (l < (c.length:Int)))),(140,.bool (decide (l < (c.length:Int)))),(139,.i (c.length:Int)),(138,.str c),(137,.i l),(0,.str c),(1,.i b),(4,.ptr 0 3 0),(7,.i 0),(8,.i 0),(10,.i l)]
               refine oH 6 (atN 5 (ctl1 g12p47)) b2 (mkH [j]) ?_
               refine oJ g12p48 (λ(a4:Bool)=>[(0,.str c),(1,.i b),(4,.ptr 0 3 0),(7,.i 0),(8,.i 0),(10,.i l),(152,.bool a4)]) (λ(a4:Bool)=>(mkH [j])) (λa4=>?_) (λf8 W=>?_)
               ·refine oS 152 (λg=>?_) (λg=>?_)
                ·refine oH 4 (atN 2 (ctl1 g12p49)) [(154,.i l),(153,.str c),(152,.bool true),(0,.str c),(1,.i b),(4,.ptr 0 3 0),(7,.i 0),(8,.i 0),(10,.i l),(152,.bool a4)] (mkH [j]) ?_
                 refine oA (λ(D:Int) => .i D) (atN 3 (ctl1 g12p49)) 155 [.str c,.i l] (g19_ok k c l) λD c1=>?_
                 refine oL 7 g12p17 [(0,.str c),(1,.i b),(4,.ptr 0 3 0),(7,.i 7),(8,.i (fW .i64 (D - b)))] ?_
                 exact o (7,fW .i64 (D - b))
                ·refine oLH 4 g12p17 [(0,.str c),(1,.i b),(4,.ptr 0 3 0),(7,.i 0),(8,.i 0)] (mkH [j]) ?_
                 exact o (0,0)
               ·refine oS 141 (λg=>?_) (λg=>?_)
                ·refine oH 2 (atN 7 (ctl1 g12p47)) ((143,.i l)::(142,.str c)::(141,.bool true)::b2) (mkH [j]) ?_
                 refine oC (λ(A:Int)=>(.y A,(mkH [j]))) (atN 8 (ctl1 g12p47)) 144 (idxH Kr) λA c2=>?_
                 refine oA (λ(E:Bool) => .bool E) (atN 9 (ctl1 g12p47)) 145 [.y A] (g23_ok k A) λE c3=>?_
                 let b7:Env:=((146,.bool E)::(145,.bool E)::(144,.y A)::(143,.i l)::(142,.str c)::(141,.bool true)::b2)
                 refine oH 1 (atN 10 (ctl1 g12p47)) b7 (mkH [j]) ?_
                 refine oS 146 (λg=>?_) (λg=>?_)
                 ·refine oL 7 g12p48 [(0,.str c),(1,.i b),(4,.ptr 0 3 0),(7,.i 0),(8,.i 0),(10,.i l),(152,.bool true)] ?_
                  exact W true
                 ·refine oR 2 (atN 12 (ctl1 g12p47)) ((148,.i l)::(147,.str c)::(146,.bool false)::b7) ?_
                  refine oC (λ(x:Int)=>(.y x,(mkH [j]))) (atN 13 (ctl1 g12p47)) 149 (idxH Kr) λx b8=>?_
                  refine oLH 4 g12p48 [(0,.str c),(1,.i b),(4,.ptr 0 3 0),(7,.i 0),(8,.i 0),(10,.i l),(152,.bool (decide (x=95)))] (mkH [j]) ?_
                  exact W (decide (x=95))
                ·refine oLH 12 g12p48 [(0,.str c),(1,.i b),(4,.ptr 0 3 0),(7,.i 0),(8,.i 0),(10,.i l),(152,.bool false)] (mkH [j]) ?_
                 exact W false
              ·refine oS 134 (λg=>?_) (λg=>?_)
               ·refine oLH 7 g12p47 [(0,.str c),(1,.i b),(4,.ptr 0 3 0),(7,.i 0),(8,.i 0),(10,.i (fW .i64 (fW .i64 (b+1)+1)))] (mkH [j]) ?_
                exact a7 (fW .i64 (fW .i64 (b+1)+1))
               ·refine oLH 3 g12p47 [(0,.str c),(1,.i b),(4,.ptr 0 3 0),(7,.i 0),(8,.i 0),(10,.i (fW .i64 (b+1)))] (mkH [j]) ?_
                exact a7 (fW .i64 (b+1))
             ·refine oS 129 (λg=>?_) (λg=>?_)
              ·refine oH 2 (atN 7 (ctl1 g12p44)) ((131,.i (fW .i64 (b+1)))::(130,.str c)::(129,.bool true)::b6) (mkH [j]) ?_
               refine oC (λ(F:Int)=>(.y F,(mkH [j]))) (atN 8 (ctl1 g12p44)) 132 (idxH Kr) λF c4=>?_
               refine oLH 3 g12p45 [(0,.str c),(1,.i b),(4,.ptr 0 3 0),(7,.i 0),(8,.i 0),(10,.i (fW .i64 (b+1))),(134,.bool (decide (F=63)))] (mkH [j]) ?_
               exact a6 (decide (F=63))
              ·refine oLH 6 g12p45 [(0,.str c),(1,.i b),(4,.ptr 0 3 0),(7,.i 0),(8,.i 0),(10,.i (fW .i64 (b+1))),(134,.bool false)] (mkH [j]) ?_
               exact a6 false
            ·refine oR 4 (atN 2 (ctl1 g12p43)) ((24,.i b)::(23,.str c)::(120,.bool false)::a9) ?_
             refine oA (λ(G:Int) => .i G) (atN 3 (ctl1 g12p43)) 25 [.str c,.i b] (g24_ok k c b) λG c5=>?_
             refine oL 5 g12p17 [(0,.str c),(1,.i b),(4,.ptr 0 3 0),(7,.i 9),(8,.i G)] ?_
             exact o (9,G)
    ·refine oS 52 (λg=>?_) (λg=>?_)
     ·let b3:Env:=((58,.bool (decide (fW .i64 (b+1)=(c.length:Int))))::(57,.bool (decide (fW .i64 (b+1)=(c.length:Int))))::(56,.i (c.length:Int))::(55,.str c)::(54,.i (fW .i64 (b+1)))::(53,.i b)::(52,.bool true)::(52,.bool (decide (a=46)))::(51,.bool (decide (a=46)))::(50,.y a)::(26,.bool false)::E5)
      refine oH 6 (atN 9 (ctl1 g12p10)) b3 (mkH [j]) ?_
      refine oS 58 (λg=>?_) (λg=>?_)
      ·refine oL 18 g12p12 [(0,.str c),(1,.i b),(4,.ptr 0 3 0),(6,.y a),(7,.i 0),(8,.i 0),(49,.bool true)] ?_
       exact K true
      ·refine oR 3 (atN 12 (ctl1 g12p10)) ((61,.i (fW .i64 (b+1)))::(60,.i b)::(59,.str c)::(58,.bool false)::b3) ?_
       refine oC (λ(q:Int)=>(.y q,(mkH [j]))) (atN 13 (ctl1 g12p10)) 62 (idxH Kr) λq c6=>?_
       let b9:Env:=((65,.bool (decide (q=37)))::(64,.bool (decide (q=37)))::(63,.bool (decide (q=37)))::(62,.y q)::(61,.i (fW .i64 (b+1)))::(60,.i b)::(59,.str c)::(58,.bool false)::b3)
       refine oH 3 (atN 16 (ctl1 g12p10)) b9 (mkH [j]) ?_
       refine oS 65 (λg=>?_) (λg=>?_)
       ·refine oL 11 g12p12 [(0,.str c),(1,.i b),(4,.ptr 0 3 0),(6,.y a),(7,.i 0),(8,.i 0),(49,.bool true)] ?_
        exact K true
       ·refine oR 3 (atN 19 (ctl1 g12p10)) ((68,.i (fW .i64 (b+1)))::(67,.i b)::(66,.str c)::(65,.bool false)::b9) ?_
        refine oA (λ(J:Int) => .i J) (atN 20 (ctl1 g12p10)) 69 [.str c,.i (fW .i64 (b+1))] (qQ5 k c (fW .i64 (b+1))) λJ c7=>?_
        refine oL 7 g12p12 [(0,.str c),(1,.i b),(4,.ptr 0 3 0),(6,.y a),(7,.i 0),(8,.i 0),(49,.bool (decide (fW .i64 (b+1) < J)))] ?_
        exact K (decide (fW .i64 (b+1) < J))
     ·refine oLH 24 g12p12 [(0,.str c),(1,.i b),(4,.ptr 0 3 0),(6,.y a),(7,.i 0),(8,.i 0),(49,.bool false)] (mkH [j]) ?_
      exact K false
 ·refine oS 13 (λg=>?_) (λg=>?_)
  ·refine oLH 6 g12p2 [(0,.str c),(1,.i b),(4,.ptr 0 3 0),(18,.bool true)] (mkH [j]) ?_
   exact a5 true
  ·refine oLH 6 g12p2 [(0,.str c),(1,.i b),(4,.ptr 0 3 0),(18,.bool (decide ((c.length:Int)≤b)))] (mkH [j]) ?_
   exact a5 (decide ((c.length:Int)≤b))
def Xg6:Fx ((List S38)×Int):=⟨Try.prog,cx,Try.f6,λr => .tuple [w39 r.1,.i r.2],0,λ_=>H0,cxTi,cxOrd,λ_=>none,false⟩
def g6p2:Pt:=nav [0,0] (nav [0,0,0,0] (nav [0] (bodyAt Try.f6)))
def g6p4:Pt:=nav [2,0,0,0] g6p2
def g6p6:Pt:=nav [0,0] g6p4
def g6p8:Pt:=nav [2,0,0] g6p6
def g6p9:Pt:=nav [0,0,0,0] g6p8
def g6p10:Pt:=nav [0,0,0,0] g6p9
def g6p12:Pt:=nav [0,0] (nav [0,0,0] g6p10)
def g6p13:Pt:=nav [1,0,0,0] g6p12
def g6p15:Pt:=nav [0,0,0,0] g6p13
def g6p16:Pt:=nav [0,0] g6p15
def g6p18:Pt:=nav [2,0,0] g6p16
def g6p19:Pt:=nav [0,0] g6p18
def qPi (k:Nat)  (j:LN) (ih:Int→(List S38)→Option ((List S38)×Int)):Int→(List S38)→Option ((List S38)×Int) :=
 λ(b:Int) (c:List S38)=>if (decide (b < (j.length:Int))) then ((g12 k j b).bind λa=>if (!decide (a.2=0)) then (some (([]:List S38),a.2)) else ((appS 32 c ([a.1]:List S38)).bind λg=>(g11 k j (fW .i64 (b+(a.1.f1.length:Int)))).bind λh=>ih h g)) else (some (c,(0:Int)))
def qMp (k:Nat)  (a:LN) (n:Nat):Int→(List S38)→Option ((List S38)×Int):=lp (λ_ _=>none) (qPi k a) n
theorem g6_l5_s (k:Nat)  (g:LN) (n:Nat) (a:Int) (c:List S38):qMp k g (n+1) a c=(if (decide (a < (g.length:Int))) then ((g12 k g a).bind λb=>if (!decide (b.2=0)) then (some (([]:List S38),b.2)) else ((appS 32 c ([b.1]:List S38)).bind λh=>(g11 k g (fW .i64 (a+(b.1.f1.length:Int)))).bind λj=>(qMp k g n) j h)) else (some (c,(0:Int)))):=rfl
theorem g6_l5_ok (k:Nat)   (h:LN)  : ∀ (n:Nat) (b:Int) (c:List S38),Ok Xg6 g6p10 [(0,.str h),(4,.own 0 (c).length 3),(5,.i b)] (mkH [⟨(c).flatMap e39,0,false⟩]) (qMp k h n b c):=by
 intro n
 induction n with
 | zero=>intro b c; exact ok_none
 | succ n ih =>
  intro b c
  show Ok _ _ _ _ (qPi k h (qMp k h n) b c)
  unfold qPi
  refine qAk (p':=nav [0] g6p10) Kr ?_
  let m:Env:=[(19,.bool (decide (b < (h.length:Int)))),(18,.i (h.length:Int)),(17,.str h),(16,.i b),(0,.str h),(4,.own 0 (c).length 3),(5,.i b)]
  let o:Blk:=⟨(c).flatMap e39,0,false⟩
  refine oH 8 g6p12 m (mkH [o]) ?_
  refine oS 19 (λq=>?_) (λq=>?_)
  ·refine oR 7 (atN 2 (ctl1 g6p13)) ((22,.i b)::(21,.str h)::(19,.bool true)::m) ?_
   refine oA (λ(a:(S38×Int)) => .tuple [n39 a.1,.i a.2]) (atN 3 (ctl1 g6p13)) 23 [.str h,.i b] (g12_ok k h b) λa r=>?_
   let l:Env:=[(0,.str h),(4,.own 0 (c).length 3),(5,.i b),(6,.ptr 1 3 0),(7,.i a.2)]
   refine oLH 9 g6p15 l (mkH [o,⟨e39 a.1,3,false⟩]) ?_
   refine oR 4 g6p16 ((27,.bool (!decide (a.2=0)))::(26,.i a.2)::l) ?_
   refine oS 27 (λq=>?_) (λq=>?_)
   ·refine oR 8 .fin ((3,.i a.2)::(2,.nils)::(28,.i a.2)::(27,.bool true)::(27,.bool (!decide (a.2=0)))::(26,.i a.2)::l) ?_
    exact oT [.nils,.i a.2] (.tuple [.vec 0 3 [],.i a.2]) (.tuple (.nil .ps) .ps)
   ·let A:List Blk:=[o,⟨e39 a.1,3,false⟩,⟨e39 a.1,0,false⟩]
    refine oH 7 (atN 3 (ctl1 g6p18)) ((31,.slice 2 3 0 1 3)::(30,n39 a.1)::(29,.own 0 (c).length 3)::(27,.bool false)::(27,.bool (!decide (a.2=0)))::(26,.i a.2)::l) (mkH A) ?_
    refine oC (λ(g:List S38)=>(.own 0 (g).length 3,(mkH [⟨(g).flatMap e39,0,false⟩,⟨e39 a.1,3,false⟩,⟨e39 a.1,0,false⟩]))) (atN 4 (ctl1 g6p18)) 32 (appH (sz:=3) qAn rfl e39_one A 0 32 c ([a.1]:List S38) rfl rfl Kr) λg u=>?_
    let B:Blk:=⟨(g).flatMap e39,0,false⟩
    refine oLH 2 g6p19 [(0,.str h),(4,.own 0 (g).length 3),(5,.i b),(6,.ptr 1 3 0)] (mkH [B,⟨e39 a.1,3,false⟩,⟨e39 a.1,0,false⟩]) ?_
    refine oR 7 (atN 6 (ctl1 g6p19)) ((38,.i (fW .i64 (b+(a.1.f1.length:Int))))::(37,.i (a.1.f1.length:Int))::(36,.str a.1.f1)::(35,.ptr 1 3 1)::(34,.i b)::(33,.str h)::[(0,.str h),(4,.own 0 (g).length 3),(5,.i b),(6,.ptr 1 3 0)]) ?_
    refine oA (λ(j:Int) => .i j) (atN 7 (ctl1 g6p19)) 39 [.str h,.i (fW .i64 (b+(a.1.f1.length:Int)))] (qQ5 k h (fW .i64 (b+(a.1.f1.length:Int)))) λj x=>?_
    refine oL 2 g6p10 [(0,.str h),(4,.own 0 (g).length 3),(5,.i j)] ?_
    refine qA9 [B] [⟨e39 a.1,3,false⟩,⟨e39 a.1,0,false⟩] Kr rfl Kr ⟨(qA3 _ (u39 _)),trivial⟩ ?_
    exact ih j g
  ·refine oR 9 .fin ((3,.i 0)::(2,.own 0 (c).length 3)::(40,.own 0 (c).length 3)::(19,.bool false)::m) ?_
   exact oT [.own 0 (c).length 3,.i 0] (.tuple [w39 c,.i 0]) (.tuple (qAw qAn qQi rfl rfl rfl .ps) .ps)
def g6 (k:Nat) (c:LN):Option ((List S38)×Int) :=
 if (decide (65536 < (c.length:Int))) then (some (([]:List S38),(3:Int))) else ((g10 k c).bind λa=>if (!a) then (some (([]:List S38),(2:Int))) else ((g11 k c (0:Int)).bind λb=>qMp k c k b ([]:List S38)))
theorem g6_ok (k:Nat) (a:LN) (r:((List S38)×Int)) (h:g6 k a=some r):PureOk Try.prog 6 [.str a] (.tuple [w39 r.1,.i r.2]):=by
 refine qA6 Xg6 (λ_=>⟨rfl,rfl⟩) Try.func6 (by decide +kernel) Kr (t:=g6 k a) ?_ h
 unfold g6
 refine qA (eE:=[(0,.str a)]) Kr ?_
 let g:Env:=[(10,.bool (decide (65536 < (a.length:Int)))),(9,.i (a.length:Int)),(8,.str a),(3,.i 0),(2,.nils),(0,.str a)]
 refine oH 12 g6p2 g (mkH []) ?_
 refine oS 10 (λj=>?_) (λj=>?_)
 ·refine oR 7 .fin ((3,.i 3)::(2,.nils)::(10,.bool true)::g) ?_
  exact oT [.nils,.i 3] (.tuple [.vec 0 3 [],.i 3]) (.tuple (.nil .ps) .ps)
 ·refine oR 6 (atN 1 (ctl1 g6p4)) ((11,.str a)::(10,.bool false)::g) ?_
  refine oA (λ(b:Bool) => .bool b) (atN 2 (ctl1 g6p4)) 12 [.str a] (g10_ok k a) λb l=>?_
  refine oL 2 g6p6 [(0,.str a),(13,.bool (!b))] ?_
  let m:Env:=[(0,.str a),(13,.bool (!b))]
  refine oS 13 (λj=>?_) (λj=>?_)
  ·refine oR 7 .fin ((3,.i 2)::(2,.nils)::(13,.bool true)::m) ?_
   exact oT [.nils,.i 2] (.tuple [.vec 0 3 [],.i 2]) (.tuple (.nil .ps) .ps)
  ·refine oR 5 (atN 1 (ctl1 g6p8)) ((4,.nils)::(13,.bool false)::m) ?_
   refine qE4 [] 4 3 rfl Kr ?_
   refine oH 5 (atN 1 (ctl1 g6p9)) ((14,.str a)::(4,.own 0 (([]:List S38)).length 3)::(4,.nils)::(13,.bool false)::m) (mkH [⟨(([]:List S38)).flatMap e39,0,false⟩]) ?_
   refine oA (λ(c:Int) => .i c) (atN 2 (ctl1 g6p9)) 15 [.str a,.i 0] (qQ5 k a (0:Int)) λc n=>?_
   refine oL 4 g6p10 [(0,.str a),(4,.own 0 (([]:List S38)).length 3),(5,.i c)] ?_
   exact (g6_l5_ok k a k) c ([]:List S38)
end
theorem qKj (k : Nat) {s : LN} (hs : By s) (hl : Sz s) : ∀ (f i : Nat), s.length < i + f → i ≤ s.length → qGb k s f (i : Int) = some ((i + skipN (s.drop i) : Nat) : Int)
 | 0,i,h,h2=>by omega
 | f+1,i,h,h2=>by
  have hl':=hl
  unfold Sz at hl
  rw [g11_l1_s]
  rcases Nat.lt_or_ge i s.length with hi | hi
  ·obtain ⟨c,r,hc,hr,hm,hrl⟩:=dcons hi
   have ih:=qKj k hs hl' f (i+1) (by omega) (by omega)
   rw [hr] at ih
   have nc:=nthX (x:=(i:Int)) rfl hc
   refine (jS (v:=(blkN c,(i:Int))) (λj=>?_)).trans ?_
   ·refine iT (by first | (simp (disch:=omega) only [↓reduceIte,↓jn,gsL]; done) | rfl) ?_
    refine bS (by (try simp (disch:=omega) only [fwI]); exact nc) ?_
    unfold blkN
    by_cases h1:c=32
    ·refine iT (dT (by omega)) ?_
     rw [decide_eq_true h1]; rfl
    refine iF (dF (by omega)) ?_
    refine bS (by (try simp (disch:=omega) only [fwI]); exact nc) ?_
    rw [decide_eq_false h1]
    by_cases h2:c=9
    ·refine iT (dT (by omega)) ?_
     rw [decide_eq_true h2]; rfl
    refine iF (dF (by omega)) ?_
    refine bS (by (try simp (disch:=omega) only [fwI]); exact nc) ?_
    rw [decide_eq_false h2]
    by_cases h3:c=10
    ·refine iT (dT (by omega)) ?_
     rw [decide_eq_true h3]; rfl
    refine iF (dF (by omega)) ?_
    refine bS (by (try simp (disch:=omega) only [fwI]); exact nc) ?_
    rw [decide_eq_false h3]
    have:decide ((c:Int)=13)=decide (c=13):=by rw [Bool.eq_iff_iff]; simp; omega
    rw [this]; rfl
   ·rw [hc]
    simp only [skipN]
    cases blkN c with
    | true =>
     refine iT rfl ?_
     rw [fw_s (by omega)]
     refine ih.trans (sn ?_)
     simp only [if_true]; omega
    | false =>
     refine iF rfl ?_
     simp only [Bool.false_eq_true,if_false]; rfl
  ·refine (jS (v:=(false,(i:Int))) (λj=>?_)).trans ?_
   ·simp (disch:=omega) only [↓reduceIte,↓jn,gsL]
   ·refine iF rfl ?_
    rw [dnil hi]; rfl
theorem qEn {k:Nat} {s:LN} (hk:s.length < k) (hs:By s) (hl:Sz s) {a:Nat} (ha:a≤s.length):g11 k s (a:Int)=some ((a+skipN (s.drop a):Nat):Int):=qKj k hs hl k a (by omega) ha
theorem qKg (k : Nat) {s : LN} (hs : By s) (hl : Sz s) : ∀ (f i : Nat), s.length < i + f → i ≤ s.length → qGa k s f (i : Int) = some ((i + innN (s.drop i) : Nat) : Int)
 | 0,i,h,h2=>by omega
 | f+1,i,h,h2=>by
  have hl':=hl
  unfold Sz at hl
  rw [g19_l1_s]
  rcases Nat.lt_or_ge i s.length with hi | hi
  ·obtain ⟨c,r,hc,hr,hm,hrl⟩:=dcons hi
   have ih:=qKg k hs hl' f (i+1) (by omega) (by omega)
   rw [hr] at ih
   have nc:=nthX (x:=(i:Int)) rfl hc
   have bc:=qG k (hs c hm)
   refine (jS (v:=(inrN c,(i:Int))) (λj=>?_)).trans ?_
   ·refine iT (by first | (simp (disch:=omega) only [↓reduceIte,↓jn,gsL]; done) | rfl) ?_
    refine bS (by (try simp (disch:=omega) only [fwI]); exact nc) ?_
    refine bS (by (try simp (disch:=omega) only [fwI]); exact bc) ?_
    rfl
   ·rw [hc]
    simp only [innN]
    cases inrN c with
    | true =>
     refine iT rfl ?_
     rw [fw_s (by omega)]
     refine ih.trans (sn ?_)
     simp only [if_true]; omega
    | false =>
     refine iF rfl ?_
     simp only [Bool.false_eq_true,if_false]; rfl
  ·refine (jS (v:=(false,(i:Int))) (λj=>?_)).trans ?_
   ·simp (disch:=omega) only [↓reduceIte,↓jn,gsL]
   ·refine iF rfl ?_
    rw [dnil hi]; rfl
theorem qHn {k:Nat} {s:LN} (hk:s.length < k) (hs:By s) (hl:Sz s) {a:Nat} (ha:a≤s.length):g19 k s (a:Int)=some ((a+innN (s.drop a):Nat):Int):=qKg k hs hl k a (by omega) ha
theorem qNf {k:Nat} (hk:6≤k) {s:LN} (hs:By s) (hl:Sz s) {a q:Nat} {t:LN} (hq:s.drop a=q::t) (hq2:q=39∨q=34):∀ (d f i:Nat),s.length≤i+d→d < f→i≤s.length→a≤i→qF4 k s (a:Int) f (i:Int)=some ((bmp (i - a) (quoN q d (s.drop i)):Nat):Int):=by
 have na:nthS s (a:Int)=some (q:Int):=nthX rfl hq
 have hl':=hl
 unfold Sz at hl
 intro d
 induction d with
 | zero =>
  intro f i h1 hf h2 hai
  obtain ⟨f,rfl⟩:∃ f',f=f'+1:=⟨f - 1,by omega⟩
  rw [dnil (by omega:s.length≤i),qLx]
  refine (jS (v:=(false,(i:Int))) (λj=>?_)).trans ?_
  ·simp (disch:=omega) only [↓reduceIte,↓jn,gsL]
  ·refine iF rfl ?_
   refine iT (by first | (simp (disch:=omega) only [↓reduceIte,↓jn,gsL]; done) | rfl) ?_
   rfl
 | succ d ih =>
  intro f i h1 hf h2 hai
  obtain ⟨f,rfl⟩:∃ f',f=f'+1:=⟨f - 1,by omega⟩
  rw [qLx]
  rcases Nat.lt_or_ge i s.length with hi | hi
  ·obtain ⟨c,r,hc,hr,hm,hrl⟩:=dcons hi
   have nc:=nthX (x:=(i:Int)) rfl hc
   rw [hc]
   simp only [quoN]
   by_cases hcq:c=q
   ·subst hcq
    rw [if_pos rfl]
    refine (jS (v:=(false,(i:Int))) (λj=>?_)).trans ?_
    ·refine iT (by first | (simp (disch:=omega) only [↓reduceIte,↓jn,gsL]; done) | rfl) ?_
     refine bS (by (try simp (disch:=omega) only [fwI]); exact nc) ?_
     refine bS (by (try simp (disch:=omega) only [fwI]); exact na) ?_
     rw [dT rfl]; rfl
    ·refine iF rfl ?_
     refine iF (by first | (simp (disch:=omega) only [↓reduceIte,↓jn,gsL]; done) | rfl) ?_
     rw [fw_s (by omega),fwI (by omega) (by omega)]
     unfold bmp
     rw [if_neg (by decide)]
     exact congrArg some (by omega)
   ·rw [if_neg hcq]
    refine (jS (v:=(true,(i:Int))) (λj=>?_)).trans ?_
    ·refine iT (by first | (simp (disch:=omega) only [↓reduceIte,↓jn,gsL]; done) | rfl) ?_
     refine bS (by (try simp (disch:=omega) only [fwI]); exact nc) ?_
     refine bS (by (try simp (disch:=omega) only [fwI]); exact na) ?_
     rw [dF (by omega)]; rfl
    ·refine iT rfl ?_
     refine bS (by (try simp (disch:=omega) only [fwI]); exact nc) ?_
     have step : ∀ (p : Nat) (u : LN), p ≤ s.length → s.drop p = u → i ≤ p → p ≤ i + 1 →
      (g15 k s (p:Int)).bind (λx2_2=>jn (λ(z6:Bool)=>if z6 then (some (0:Int)) else (qF4 k s (a:Int) f (fW .i64 ((p:Int)+x2_2.2)))) (λj6=>if (decide (x2_2.1 < 32)) then (j6 true) else (j6 (decide (x2_2.1=127)))))=some ((bmp (i - a) (bmp (p - i+shwN u) (if shwN u=0 then 0 else quoN q d (u.drop (shwN u)))):Nat):Int):=by
      intro p u hp hu hip hip1
      have nx:=qDg hk hs hl' p
      rw [hu] at nx
      refine bS (by (try simp (disch:=omega) only [fwI]); exact nx) ?_
      by_cases h:(dec u).1 < 32∨(dec u).1=127
      ·have sw:shwN u=0:=by unfold shwN; rw [if_pos h]
       rw [sw,if_pos rfl]
       refine (jS (v:=true) (λj=>?_)).trans rfl
       by_cases h1:(dec u).1 < 32
       ·refine iT (dT h1) rfl
       ·refine iF (dF h1) ?_
        rw [dT (by omega)]
      ·have une:u ≠ []:=by intro e; rw [e] at h; exact h (.inl (by decide))
       obtain ⟨n,n1,n2,n3,n4,-⟩:=qD0 une
       have sw:shwN u=n:=by unfold shwN; rw [if_neg h,n1,Int.toNat_natCast]
       rw [sw,if_neg (by clear n1; omega),n1]
       refine (jS (v:=false) (λj=>?_)).trans ?_
       ·refine iF (dF (by omega)) ?_
        rw [dF (by omega)]
       ·refine iF rfl ?_
        have ul:u.length=s.length - p:=by rw [← hu,List.length_drop]
        clear n1 nx
        rw [fw_a (by omega) (by omega)]
        refine (ih f (p+n) (by omega) (by omega) (by omega) (by omega)).trans (sn ?_)
        rw [← List.drop_drop,hu]
        unfold bmp
        repeat' split
        all_goals omega
     by_cases h92:c=92
     ·subst h92
      rw [if_pos rfl]
      refine (jS (v:=((i+1:Nat):Int)) (λj=>?_)).trans ?_
      ·refine iT rfl ?_
       rw [fw_s (by omega)]
      ·have:=step (i+1) r (by omega) hr (by omega) (Nat.le_refl _)
       rw [show i+1 - i=1 by omega] at this
       exact this
     ·rw [if_neg h92]
      refine (jS (v:=(i:Int)) (λj=>?_)).trans ?_
      ·refine iF (dF (by omega)) rfl
      ·have:=step i (c::r) (by omega) hc (Nat.le_refl _) (by omega)
       rw [show i - i+shwN (c::r)=shwN (c::r) by omega] at this
       exact this
  ·rw [dnil hi]
   refine (jS (v:=(false,(i:Int))) (λj=>?_)).trans ?_
   ·simp (disch:=omega) only [↓reduceIte,↓jn,gsL]
   ·refine iF rfl ?_
    refine iT (by first | (simp (disch:=omega) only [↓reduceIte,↓jn,gsL]; done) | rfl) ?_
    rfl
theorem qFr {k:Nat} {s:LN} (hk:s.length+6≤k) (hs:By s) (hl:Sz s) {a q:Nat} {t:LN} (hq:s.drop a=q::t) (hq2:q=39∨q=34):g21 k s (a:Int)=some ((qtdN (s.drop a):Nat):Int):=by
 have tl:=qC hq
 have hl':=hl
 unfold Sz at hl
 unfold g21
 rw [fw_s (by omega)]
 refine (qNf (k:=k) (by omega) hs hl' hq hq2 t.length k (a+1) (by omega) (by omega) (by omega) (by omega)).trans (sn ?_)
 rw [qBw hq,hq,show a+1 - a=1 by omega]
 rfl
theorem rchar_at {k:Nat} (hk:10≤k) {s:LN} (hs:By s) (hl:Sz s) {a q:Nat} {t:LN} (hq:s.drop a=q::t):g22 k s (a:Int)=some ((chrN (s.drop a):Nat):Int):=by
 have tl:=qC hq
 have dt:=qBw hq
 have hl':=hl
 unfold Sz at hl
 unfold g22
 rw [hq]
 cases t with
 | nil =>
  simp only [List.length_nil] at tl
  refine (jS (v:=false) (λj=>?_)).trans ?_
  ·simp (disch:=omega) only [↓reduceIte,↓jn,gsL]
  ·refine iF rfl ?_
   have nx:=qDg (k:=k) (by omega) hs hl' (a+1)
   rw [dt] at nx
   rw [fw_s (by omega)]
   refine bS (by (try simp (disch:=omega) only [fwI]); exact nx) ?_
   rfl
 | cons c r =>
  simp only [List.length_cons] at tl
  have c256:=hs c (qBo dt)
  have n1:nthS s ((a+1:Nat):Int)=some (c:Int):=nthX rfl dt
  rw [fw_s (by omega)]
  simp only [chrN]
  by_cases h92:c=92
  ·rw [if_pos h92]
   refine (jS (v:=true) (λj=>?_)).trans ?_
   ·refine iT (by first | (simp (disch:=omega) only [↓reduceIte,↓jn,gsL]; done) | rfl) ?_
    refine bS (by (try simp (disch:=omega) only [fwI]); exact n1) ?_
    rw [dT (by omega)]
   ·refine iT rfl ?_
    have ea:=qMc hk hs hl' (a+1)
    rw [dt] at ea
    refine bS (by (try simp (disch:=omega) only [fwI]); exact ea) ?_
    rcases qGf (c::r) with h | ⟨v,n,h,h2,h3⟩
    ·rw [h]; rfl
    ·rw [h]
     simp only [List.length_cons] at h3
     have:(0:Int) < ((n:Nat):Int):=by omega
     simp only []
     rw [if_pos this]
     refine iT (dT (by omega)) ?_
     rw [fw_s (by omega),Int.toNat_natCast]
  ·rw [if_neg h92]
   refine (jS (v:=false) (λj=>?_)).trans ?_
   ·refine iT (by first | (simp (disch:=omega) only [↓reduceIte,↓jn,gsL]; done) | rfl) ?_
    refine bS (by (try simp (disch:=omega) only [fwI]); exact n1) ?_
    rw [dF (by omega)]
   ·refine iF rfl ?_
    have nx:=qDg (k:=k) (by omega) hs hl' (a+1)
    rw [dt] at nx
    refine bS (by (try simp (disch:=omega) only [fwI]); exact nx) ?_
    by_cases h:(dec (c::r)).1≤32∨(dec (c::r)).1=127
    ·have:¬ (shwN (c::r) ≠ 0∧c ≠ 32):=by
      rintro ⟨h1,h2⟩
      apply h1
      unfold shwN
      rw [if_pos]
      by_cases h3:c < 128
      ·rw [qIb r h3] at h ⊢
       simp only [] at h ⊢
       omega
      ·rcases dec_big r h3 with h4 | h4 <;> omega
     rw [if_neg this]
     refine (jS (v:=true) (λj=>?_)).trans rfl
     by_cases h1:(dec (c::r)).1≤32
     ·refine iT (dT h1) rfl
     ·refine iF (dF h1) ?_
      rw [dT (by omega)]
    ·obtain ⟨n,n1',n2,n3,n4,-⟩:=qD0 (s:=c::r) (by simp)
     have sw:shwN (c::r)=n:=by unfold shwN; rw [if_neg (by omega),n1',Int.toNat_natCast]
     have c32:c ≠ 32:=by
      intro e; subst e
      rw [qIb r (by decide)] at h
      exact h (.inl (by decide))
     rw [sw,if_pos (show n ≠ 0∧c ≠ 32 from ⟨by clear n1'; omega,c32⟩),n1']
     simp only [List.length_cons] at n4
     refine (jS (v:=false) (λj=>?_)).trans ?_
     ·refine iF (dF (by omega)) ?_
      rw [dF (by omega)]
     ·refine iF rfl ?_
      clear n1' nx
      rw [fw_s (by omega)]
theorem qGk {b : Nat} (hb : b ≤ 99) : ∀ (p : Bool) (s : LN), 35 ∉ s.take (runN b p s)
 | _,[],h=>by simp at h
 | p,c::r,h=>by
  simp only [runN] at h
  split at h
  ·rename_i hc
   rw [List.take_succ_cons] at h
   rcases List.mem_cons.1 h with e | e
   ·subst e
    have:dgN 35=99:=by decide
    omega
   ·exact qGk hb true r e
  ·split at h
   ·rename_i hc hp
    rw [List.take_succ_cons] at h
    rcases List.mem_cons.1 h with e | e
    ·subst e
     simp at hp
    ·exact qGk hb false r e
   ·simp at h
theorem qM3 {s:LN} (h:(frontN s).1 ≠ 0):∃ m r,(frontN s).1=m+1∧s.drop m=35::r∧runN 10 false s=m:=by
 have d35:¬ dgN 35 < 10:=by decide
 revert h
 unfold frontN
 split
 ·rename_i a b r
  split
  ·rename_i ha
   split
   ·rename_i hb
    subst hb
    split
    ·intro _
     refine ⟨1,r,rfl,rfl,?_⟩
     simp [runN,ha,d35]
    ·intro h; exact absurd rfl h
   ·split
    ·rename_i hb
     split
     ·rename_i c r'
      split
      ·rename_i hc
       obtain ⟨rfl,-⟩:=hc
       intro _
       refine ⟨2,r',rfl,rfl,?_⟩
       simp [runN,ha,hb,d35]
      ·intro h; exact absurd rfl h
     ·intro h; exact absurd rfl h
    ·intro h; exact absurd rfl h
  ·intro h; exact absurd rfl h
 ·intro h; exact absurd rfl h
theorem hash_iff (s:LN):(35 ∈ s.take (wholeN s)) ↔ ¬ ((frontN s).1=0∨wholeN s < (frontN s).1):=by
 by_cases h:0 < (frontN s).1∧0 < runN (frontN s).2 false (s.drop (frontN s).1)
 ·have hw:wholeN s=(frontN s).1+runN (frontN s).2 false (s.drop (frontN s).1):=by unfold wholeN; rw [if_pos h]
  obtain ⟨m,r,h1,h2,-⟩:=qM3 (s:=s) (by omega)
  constructor
  ·intro _; omega
  ·intro _
   rw [hw,h1]
   have dl:=qC h2
   have:s.take (m+1+runN (frontN s).2 false (s.drop (m+1)))=s.take m++(35::r.take (runN (frontN s).2 false (s.drop (m+1)))):=by
    rw [Nat.add_assoc,List.take_add,h2,Nat.add_comm 1,List.take_succ_cons]
   rw [this]
   simp
 ·have hw:wholeN s=runN 10 false s:=by unfold wholeN; rw [if_neg h]
  rw [hw]
  constructor
  ·intro hm; exact absurd hm (qGk (by decide) false s)
  ·intro hn
   exfalso
   apply hn
   by_cases h0:(frontN s).1=0
   ·exact .inl h0
   ·right
    obtain ⟨m,r,h1,h2,h3⟩:=qM3 h0
    omega
theorem rnum_l (k : Nat) {s : LN} (hl : Sz s) (c11 : Unit → Option (S38 × Int)) {a w : Nat} (ha : a + w ≤ s.length) (kind : Int) : ∀ (f i : Nat) (b : Bool), a + w < i + f → i ≤ a + w →
 qE6 k c11 s (a:Int) (kind,(w:Int)) f b (i:Int)=if b=true∨35 ∈ (s.drop i).take (a+w - i) then c11 () else some (tok0,4)
 | 0,i,b,h,h2=>by omega
 | f+1,i,b,h,h2=>by
  have hl':=hl
  unfold Sz at hl
  rw [g18_l9_s]
  show (if decide ((i:Int) < fW .i64 ((a:Int)+(w:Int))) then _ else _)=_
  rw [fw_a (by omega) (by omega)]
  rcases Nat.lt_or_ge i (a+w) with hi | hi
  ·obtain ⟨c,r,hc,hr,hm,hrl⟩:=dcons (s:=s) (i:=i) (by omega)
   have nc:=nthX (x:=(i:Int)) rfl hc
   refine iT (dT (by omega)) ?_
   have ih:=rnum_l k hl' c11 ha kind f (i+1) (b || decide (c=35)) (by omega) (by omega)
   refine (jS (v:=(b || decide (c=35),(i:Int))) (λj=>?_)).trans ?_
   ·cases b with
    | true=>rfl
    | false =>
     refine iF rfl ?_
     refine bS (by (try simp (disch:=omega) only [fwI]); exact nc) ?_
     congr 2
     rw [Bool.eq_iff_iff]; simp; omega
   ·show qE6 k c11 s (a:Int) (kind,(w:Int)) f (b || decide (c=35)) (fW .i64 ((i:Int)+1))=_
    rw [fw_s (by omega)]
    refine ih.trans ?_
    rw [hr,hc,show a+w - i=(a+w - (i+1))+1 by omega,List.take_succ_cons]
    have:((b || decide (c=35))=true∨35 ∈ r.take (a+w - (i+1))) ↔ (b=true∨35 ∈ c::r.take (a+w - (i+1))):=by
     rw [List.mem_cons,Bool.or_eq_true,decide_eq_true_eq]
     constructor
     ·rintro ((h | h) | h)
      ·exact .inl h
      ·exact .inr (.inl h.symm)
      ·exact .inr (.inr h)
     ·rintro (h | h | h)
      ·exact .inl (.inl h)
      ·exact .inl (.inr h.symm)
      ·exact .inr h
    simp only [this]
  ·refine iF (dF (by omega)) ?_
   rw [show a+w - i=0 by omega,List.take_zero]
   cases b <;> simp <;> rfl
theorem qMb {k:Nat} {s:LN} (hk:s.length+4 < k) (hs:By s) (hl:Sz s) {a:Nat} (ha:a≤s.length):g18 k s (a:Int)=some (if (numN (s.drop a)).1=0 then (tok0,4) else (mkTok s ((numN (s.drop a)).2,a,(numN (s.drop a)).1),0)):=by
 have hl':=hl
 unfold Sz at hl
 unfold g18
 refine bS (by (try simp (disch:=omega) only [fwI]); exact qMd (by omega) hs hl' ha) ?_
 have pl:=qKn (s.drop a)
 have wl:=qHg (s.drop a)
 rw [List.length_drop] at pl wl
 have hi:=hash_iff (s.drop a)
 have key : ∀ (n kind : Nat), n ≤ s.length - a → (kind = 4 ∧ n ≠ 0 ∨ kind = 3 ∧ n = wholeN (s.drop a)) →
  (jn (λ(z7:Bool)=>if z7 then (some ((⟨(0:Int),([]:LN),(0:Int)⟩:S38),(4:Int))) else (jn (λ(z8:Bool)=>jn (λ(z11:Unit)=>(subL s (some (a:Int)) (some (fW .i64 ((a:Int)+(n:Int))))).bind λx4_4=>some ((⟨(kind:Int),x4_4,(a:Int)⟩:S38),(0:Int))) (λj11=>if z8 then (qE6 k j11 s (a:Int) ((kind:Int),(n:Int)) k false (a:Int)) else (j11 ()))) (λj8=>if (decide ((kind:Int)=3)) then (if (decide (fW .i64 ((a:Int)+(n:Int)) < (s.length:Int))) then ((nthS s (fW .i64 ((a:Int)+(n:Int)))).bind λx3_11=>j8 (decide (x3_11=35))) else (j8 false)) else (j8 false)))) (λj7=>if (decide ((n:Int)=0)) then (j7 true) else (if (decide (fW .i64 ((a:Int)+(n:Int)) < (s.length:Int))) then ((nthS s (fW .i64 ((a:Int)+(n:Int)))).bind λx2_10=>(g33 k x2_10).bind λx2_11=>j7 x2_11) else (j7 false))))
  = some (if (if kind=3∧hashN (s.drop a) n=true then (0,0) else endN (s.drop a) n kind).1=0 then (tok0,4) else (mkTok s ((if kind=3∧hashN (s.drop a) n=true then (0,0) else endN (s.drop a) n kind).2,a,(if kind=3∧hashN (s.drop a) n=true then (0,0) else endN (s.drop a) n kind).1),0)):=by
  intro n kind hn hkind
  rw [fw_a (n:=a) (m:=n) (by omega) (by omega)]
  have out:(subL s (some (a:Int)) (some ((a+n:Nat):Int))).bind (λx4_4=>some ((⟨(kind:Int),x4_4,(a:Int)⟩:S38),(0:Int)))=some (mkTok s (kind,a,n),0):=by
   refine bS (by (try simp (disch:=omega) only [fwI]); exact subMid (s:=s) (i:=a) (j:=a+n) rfl rfl (by omega) (by omega)) ?_
   rw [List.drop_take,Nat.add_sub_cancel_left]; rfl
  by_cases h0:n=0
  ·subst h0
   refine (jS (v:=true) (λj=>rfl)).trans ?_
   refine iT rfl ?_
   rw [if_pos]
   ·rfl
   ·by_cases hh:kind=3∧hashN (s.drop a) 0=true
    ·rw [if_pos hh]
    ·rw [if_neg hh]; unfold endN; split
     ·split <;> rfl
     ·rfl
  ·rcases Nat.lt_or_ge (a+n) s.length with h | h
   ·obtain ⟨c,r,hc,hr,hm,hrl⟩:=dcons h
    have nc:=nthX (x:=((a+n:Nat):Int)) rfl hc
    have hc':(s.drop a).drop n=c::r:=by rw [List.drop_drop]; exact hc
    refine (jS (v:=inrN c) (λj=>?_)).trans ?_
    ·refine iF (dF (by omega)) ?_
     refine iT (dT (by omega)) ?_
     refine bS (by (try simp (disch:=omega) only [fwI]); exact nc) ?_
     refine bS (by (try simp (disch:=omega) only [fwI]); exact qG k (hs c hm)) ?_
     rfl
    ·cases hin:inrN c with
     | true =>
      refine iT rfl ?_
      rw [if_pos]
      ·rfl
      ·by_cases hh:kind=3∧hashN (s.drop a) n=true
       ·rw [if_pos hh]
       ·rw [if_neg hh]; unfold endN; rw [hc']; simp only [hin,if_true]
     | false =>
      refine iF rfl ?_
      have he:endN (s.drop a) n kind=(n,kind):=by unfold endN; rw [hc']; simp only [hin,Bool.false_eq_true,if_false]
      rw [he]
      by_cases h35:kind=3∧c=35
      ·obtain ⟨rfl,rfl⟩:=h35
       have hw:n=wholeN (s.drop a):=by
        rcases hkind with h | h
        ·omega
        ·exact h.2
       refine (jS (v:=true) (λj=>?_)).trans ?_
       ·refine iT rfl ?_
        refine iT (dT (by omega)) ?_
        refine bS (by (try simp (disch:=omega) only [fwI]); exact nc) ?_
        rfl
       ·have hh:hashN (s.drop a) n=decide ((frontN (s.drop a)).1=0∨n < (frontN (s.drop a)).1):=by
         unfold hashN; rw [hc']; rw [Bool.eq_iff_iff]; simp
        rw [← hw] at hi
        have lp:=λc11=>rnum_l k hl' c11 (a:=a) (w:=n) (by omega) 3 k a false (by omega) (by omega)
        rw [show a+n - a=n by omega] at lp
        by_cases hb:35 ∈ (s.drop a).take n
        ·have:hashN (s.drop a) n=false:=by rw [hh]; exact decide_eq_false (hi.1 hb)
         rw [this]
         refine (jS (v:=()) (λj=>?_)).trans ?_
         ·refine iT rfl ?_
          refine (lp j).trans ?_
          rw [if_pos (.inr hb)]
         ·refine out.trans ?_
          simp only [Bool.false_eq_true,and_false,if_false]
          rw [if_neg h0]
        ·have:hashN (s.drop a) n=true:=by
          rw [hh]; refine decide_eq_true ?_
          by_cases h1:(frontN (s.drop a)).1=0∨n < (frontN (s.drop a)).1
          ·exact h1
          ·exact absurd (hi.2 h1) hb
         rw [this]
         refine jC λj=>?_
         refine iT rfl ?_
         refine (lp j).trans ?_
         rw [if_neg (by rintro (h | h); exact absurd h (by decide); exact hb h)]
         rfl
      ·have hnh:¬ (kind=3∧hashN (s.drop a) n=true):=by
        rintro ⟨h1,h2⟩
        unfold hashN at h2
        rw [hc'] at h2
        simp only [Bool.and_eq_true,decide_eq_true_eq] at h2
        exact h35 ⟨h1,h2.1⟩
       rw [if_neg hnh]
       refine (jS (v:=false) (λj=>?_)).trans ?_
       ·rcases hkind with ⟨rfl,-⟩ | ⟨rfl,-⟩
        ·rfl
        ·refine iT rfl ?_
         refine iT (dT (by omega)) ?_
         refine bS (by (try simp (disch:=omega) only [fwI]); exact nc) ?_
         rw [dF (by omega)]
       ·refine (jS (v:=()) (λj=>rfl)).trans ?_
        refine out.trans ?_
        rw [if_neg h0]
   ·have hc':(s.drop a).drop n=[]:=by rw [List.drop_drop]; exact dnil h
    have he:endN (s.drop a) n kind=(n,kind):=by unfold endN; rw [hc']
    have hh:hashN (s.drop a) n=false:=by unfold hashN; rw [hc']
    rw [he,hh]
    simp only [Bool.false_eq_true,and_false,if_false]
    rw [if_neg h0]
    refine (jS (v:=false) (λj=>?_)).trans ?_
    ·refine iF (dF (by omega)) ?_
     refine iF (dF (by omega)) rfl
    ·refine iF rfl ?_
     refine (jS (v:=false) (λj=>?_)).trans ?_
     ·rcases hkind with ⟨rfl,-⟩ | ⟨rfl,-⟩
      ·rfl
      ·refine iT rfl ?_
       refine iF (dF (by omega)) rfl
     ·exact (jS (v:=()) (λj=>rfl)).trans out
 unfold numN
 by_cases h0:partN (s.drop a)=0
 ·rw [if_pos h0]
  refine (jS (v:=((3:Int),(wholeN (s.drop a):Int))) (λj=>?_)).trans ?_
  ·refine iT (dT (by omega)) ?_
   refine bS (by (try simp (disch:=omega) only [fwI]); exact qNa (by omega) (by omega) hs hl' ha) ?_
   rfl
  ·refine (key (wholeN (s.drop a)) 3 wl (.inr ⟨rfl,rfl⟩)).trans ?_
   simp only [true_and]
 ·rw [if_neg h0]
  refine (jS (v:=((4:Int),(partN (s.drop a):Int))) (λj=>?_)).trans ?_
  ·refine iF (dF (by omega)) rfl
  ·refine (key (partN (s.drop a)) 4 pl (.inl ⟨rfl,h0⟩)).trans ?_
   rfl
def macB (t:LN):Bool:=match t with | c::_=>decide (begN c=1∨begN c=2) | []=>false
theorem begN_le (c:Nat):begN c≤3:=by
 unfold begN; repeat' split
 all_goals omega
theorem qHh (t : LN) (n : Nat) : ∀ i, i ≤ n → trmN (t.take n) i = trmN t i
 | 0,_=>rfl
 | i+1,h=>by
  have ih:=qHh t n i (by omega)
  simp only [trmN,ih]
  rcases Nat.lt_or_ge i t.length with hi | hi
  ·obtain ⟨c,r,hc,hr,hm,hrl⟩:=dcons hi
   rw [hc,List.drop_take,hc,show n - i=(n - i - 1)+1 by omega,List.take_succ_cons]
  ·rw [dnil hi,dnil (by rw [List.length_take]; omega)]
theorem qK9 {c : Nat} {r : LN} (h : blkN c = false) : ∀ i, 1 ≤ i → 1 ≤ trmN (c :: r) i
 | 0,h1=>absurd h1 (by decide)
 | i+1,_=>by
  simp only [trmN]
  cases i with
  | zero=>simp only [List.drop_zero,h,Bool.false_eq_true,if_false]; exact Nat.le_refl _
  | succ i =>
   have:=qK9 (r:=r) h (i+1) (by omega)
   split
   ·split <;> omega
   ·omega
theorem qFx : ∀ s : LN, 10 ∉ s.take (lineN s)
 | [],h=>by simp at h
 | c::r,h=>by
  simp only [lineN] at h
  split at h
  ·simp at h
  ·rw [List.take_succ_cons] at h
   rcases List.mem_cons.1 h with e | e
   ·rename_i hc; exact hc e.symm
   ·exact qFx r e
theorem cmtN_pos (r:LN):1≤cmtN (37::r):=by
 unfold cmtN
 exact qK9 (by decide) _ (by simp [lineN])
theorem rtrm_l (k : Nat) {u : LN} (hl : Sz u) (h10 : 10 ∉ u) : ∀ (i f : Nat), i < f → i ≤ u.length → qF5 k u f (i : Int) = some (u.take (trmN u i))
 | 0,f,hf,hi=>by
  obtain ⟨f,rfl⟩:∃ f',f=f'+1:=⟨f - 1,by omega⟩
  rw [qLy]
  refine (jS (v:=(false,(0:Int))) (λj=>rfl)).trans ?_
  refine iF rfl ?_
  refine bS (by (try simp (disch:=omega) only [fwI]); exact subTo (s:=u) (x:=(0:Int)) (i:=0) rfl (Nat.zero_le _)) ?_
  rfl
 | i+1,f,hf,hi=>by
  have hl':=hl
  unfold Sz at hl
  obtain ⟨f,rfl⟩:∃ f',f=f'+1:=⟨f - 1,by omega⟩
  rw [qLy]
  obtain ⟨c,r,hc,hr,hm,hrl⟩:=dcons (s:=u) (i:=i) (by omega)
  have nc:=nthX (x:=(i:Int)) rfl hc
  have c10:c ≠ 10:=λh=>h10 (h ▸ hm)
  have ih:=rtrm_l k hl' h10 i f (by omega) (by omega)
  rw [fw_p (by omega)]
  refine (jS (v:=(blkN c,((i+1:Nat):Int))) (λj=>?_)).trans ?_
  ·refine iT (dT (by omega)) ?_
   refine bS (by (try simp (disch:=omega) only [fwI]); exact nc) ?_
   unfold blkN
   rw [decide_eq_false c10]
   by_cases h1:c=32
   ·refine iT (dT (by omega)) ?_
    rw [decide_eq_true h1]; rfl
   refine iF (dF (by omega)) ?_
   refine bS (by (try simp (disch:=omega) only [fwI]); exact nc) ?_
   rw [decide_eq_false h1]
   by_cases h2:c=9
   ·refine iT (dT (by omega)) ?_
    rw [decide_eq_true h2]; rfl
   refine iF (dF (by omega)) ?_
   refine bS (by (try simp (disch:=omega) only [fwI]); exact nc) ?_
   rw [decide_eq_false h2]
   have:decide ((c:Int)=13)=decide (c=13):=by rw [Bool.eq_iff_iff]; simp; omega
   rw [this]; rfl
  ·simp only [trmN,hc]
   cases blkN c with
   | true =>
    refine iT rfl ?_
    show qF5 k u f (fW .i64 (((i+1:Nat):Int) - 1))=_
    rw [fw_p (by omega)]
    exact ih
   | false =>
    refine iF rfl ?_
    refine bS (by (try simp (disch:=omega) only [fwI]); exact subTo (s:=u) (x:=((i+1:Nat):Int)) (i:=i+1) rfl hi) ?_
    rfl
theorem rtrm_at {k:Nat} {u:LN} (hk:u.length < k) (hl:Sz u) (h10:10 ∉ u):g16 k u=some (u.take (trmN u u.length)):=rtrm_l k hl h10 u.length k hk (Nat.le_refl _)
theorem qNh {k : Nat} {s : LN} (hk : s.length < k) (hs : By s) (hl : Sz s) {a : Nat} {t : LN} (ha : s.drop a = 37 :: t) : ∀ (f i : Nat), s.length < i + f → i ≤ s.length → i + lineN (s.drop i) = a + lineN (s.drop a) → a ≤ i → qDb k s (a : Int) f (i : Int) = some (mkTok s (11, a, cmtN (s.drop a)), 0)
 | 0,i,h,h2,h3,h4=>by omega
 | f+1,i,h,h2,h3,h4=>by
  have hl':=hl
  unfold Sz at hl
  rw [qQ4]
  have fin:i=a+lineN (s.drop a)→(subL s (some (a:Int)) (some (i:Int))).bind (λx16_3=>(g16 k x16_3).bind λx16_4=>some ((⟨(11:Int),x16_4,(a:Int)⟩:S38),(0:Int)))=some (mkTok s (11,a,cmtN (s.drop a)),0):=by
   intro hi
   have ll:=qH (s.drop a)
   rw [List.length_drop] at ll
   refine bS (by (try simp (disch:=omega) only [fwI]); exact subMid (s:=s) (i:=a) (j:=i) rfl rfl h4 h2) ?_
   rw [List.drop_take,show i - a=lineN (s.drop a) by omega]
   have ul:((s.drop a).take (lineN (s.drop a))).length=lineN (s.drop a):=by rw [List.length_take,List.length_drop]; omega
   refine bS (by (try simp (disch:=omega) only [fwI]); exact rtrm_at (k:=k) (u:=(s.drop a).take (lineN (s.drop a))) (by rw [ul]; omega) (by unfold Sz; rw [ul]; omega) (qFx _)) ?_
   rw [ul,qHh _ _ _ (Nat.le_refl _),List.take_take,Nat.min_eq_left (qIe _ _)]
   rfl
  rcases Nat.lt_or_ge i s.length with hi | hi
  ·obtain ⟨c,r,hc,hr,hm,hrl⟩:=dcons hi
   have nc:=nthX (x:=(i:Int)) rfl hc
   have h3':=h3
   rw [hc] at h3
   simp only [lineN] at h3
   refine (jS (v:=(!decide (c=10),(i:Int))) (λj=>?_)).trans ?_
   ·refine iT (dT (by omega)) ?_
    refine bS (by (try simp (disch:=omega) only [fwI]); exact nc) ?_
    congr 2
    rw [Bool.eq_iff_iff]; simp; omega
   ·by_cases h10:c=10
    ·rw [decide_eq_true h10]
     rw [if_pos h10] at h3
     refine iF rfl ?_
     exact fin (by omega)
    ·rw [decide_eq_false h10]
     rw [if_neg h10] at h3
     refine iT rfl ?_
     have e:∀ _:Unit,fW .i64 ((i:Int)+1)=((i+1:Nat):Int):=λ_=>fw_s (by omega)
     have ih:=qNh hk hs hl' ha f (i+1) (by omega) (by omega) (by rw [hr]; omega) (by omega)
     show qDb k s (a:Int) f (fW .i64 ((i:Int)+1))=_
     rw [e ()]
     exact ih
  ·refine (jS (v:=(false,(i:Int))) (λj=>?_)).trans ?_
   ·refine iF (dF (by omega)) rfl
   ·refine iF rfl ?_
    rw [dnil hi] at h3
    exact fin (by simpa [lineN] using h3)
theorem rOne_at {k:Nat} {s:LN} (hk:s.length+40 < k) (hs:By s) (hl:Sz s) {a:Nat} (ha:a < s.length):g12 k s (a:Int)=some (oneAt s a):=by
 have hl':=hl
 unfold Sz at hl
 unfold g12 oneAt
 refine (jS (v:=false) (λj=>by simp (disch:=omega) only [↓reduceIte,↓jn,gsL])).trans ?_
 refine iF rfl ?_
 obtain ⟨c,r,hc,hr,hm,hrl⟩:=dcons ha
 have c256:=hs c hm
 have nc:=nthX (x:=(a:Int)) rfl hc
 have ol:=qNy (s.drop a)
 rw [List.length_drop] at ol
 refine bS (by (try simp (disch:=omega) only [fwI]); exact nc) ?_
 by_cases h37:c=37
 ·subst h37
  refine iT rfl ?_
  have e:oneN (s.drop a)=(cmtN (s.drop a),11):=by rw [hc]; rfl
  rw [e,if_neg (by rw [hc]; have:=cmtN_pos r; show ¬ cmtN (37::r)=0; omega)]
  exact qNh (by omega) hs hl' hc k a (by omega) (by omega) rfl (Nat.le_refl _)
 refine iF (dF (by omega)) ?_
 have out:∀ (n kind:Nat),n≤s.length - a→(if decide ((n:Int)=0) then some (tok0,(4:Int)) else (subL s (some (a:Int)) (some (fW .i64 ((a:Int)+(n:Int))))).bind λx14_6=>some ((⟨(kind:Int),x14_6,(a:Int)⟩:S38),(0:Int)))=some (if n=0 then (tok0,4) else (mkTok s (kind,a,n),0)):=by
  intro n kind hn
  by_cases h0:n=0
  ·rw [if_pos h0]
   refine iT (dT (by omega)) rfl
  ·rw [if_neg h0]
   refine iF (dF (by omega)) ?_
   rw [fw_a (by omega) (by omega)]
   refine bS (by (try simp (disch:=omega) only [fwI]); exact subMid (s:=s) (i:=a) (j:=a+n) rfl rfl (by omega) (by omega)) ?_
   rw [List.drop_take,Nat.add_sub_cancel_left]; rfl
 have isD:∀ _:Unit,(∀ (j:Bool→Option (S38×Int)),(if (decide ((c:Int)=46)) then (if (decide (fW .i64 ((a:Int)+1)=(s.length:Int))) then (j true) else ((nthS s (fW .i64 ((a:Int)+1))).bind λx1_12=>if (decide (x1_12=37)) then (j true) else ((g11 k s (fW .i64 ((a:Int)+1))).bind λx1_19=>j (decide (fW .i64 ((a:Int)+1) < x1_19))))) else (j false))=j (decide (c=46) && dotN r)):=by
  intro _ j
  by_cases h46:c=46
  ·rw [decide_eq_true h46,Bool.true_and]
   refine iT (dT (by omega)) ?_
   rw [fw_s (by omega)]
   cases r with
   | nil =>
    simp only [List.length_nil] at hrl
    refine iT (dT (by omega)) rfl
   | cons d q =>
    simp only [List.length_cons] at hrl
    have nd:=nthX (x:=((a+1:Nat):Int)) rfl hr
    refine iF (dF (by omega)) ?_
    refine bS (by (try simp (disch:=omega) only [fwI]); exact nd) ?_
    simp only [dotN]
    by_cases h37:d=37
    ·refine iT (dT (by omega)) ?_
     rw [decide_eq_true h37,Bool.or_true]
    ·refine iF (dF (by omega)) ?_
     have rb:=qEn (k:=k) (by omega) hs hl' (a:=a+1) (by omega)
     rw [hr] at rb
     refine bS (by (try simp (disch:=omega) only [fwI]); exact rb) ?_
     rw [decide_eq_false h37,Bool.or_false]
     refine congrArg j ?_
     by_cases hb:blkN d=true
     ·have e:skipN (d::q)=skipN q+1:=by simp only [skipN,hb,if_true]
      rw [hb]; exact decide_eq_true (by omega)
     ·have e:skipN (d::q)=0:=by simp only [skipN,if_neg hb]
      rw [Bool.eq_false_iff.2 hb]; exact decide_eq_false (by omega)
  ·rw [decide_eq_false h46,Bool.false_and]
   refine iF (dF (by omega)) rfl
 have eo : oneN (s.drop a) = if c = 46 ∧ dotN r = true then (1, 10) else if c = 39 then (qtdN (s.drop a), 1) else if c = 34 then (qtdN (s.drop a), 6) else if c = 36 then (chrN (s.drop a), 5) else if c = 63 then (macN (s.drop a), 7)
  else if begN c=3 then numN (s.drop a) else if begN c=1∨begN c=2 then (innN (s.drop a),if rsvN ((s.drop a).take (innN (s.drop a))) then 8 else begN c) else (lngN (s.drop a),9):=by
  rw [hc]; simp only [oneN]; rw [if_neg h37]
 refine (jS (v:=decide (c=46) && dotN r) (λj=>isD () j)).trans ?_
 clear isD
 have il:=qDz (s.drop a)
 rw [List.length_drop] at il
 by_cases h46:c=46∧dotN r=true
 ·rw [if_pos h46] at eo
  rw [eo] at ol ⊢
  obtain ⟨h1,h2⟩:=h46
  rw [decide_eq_true h1,h2]
  refine (jS (v:=(((10:Nat):Int),((1:Nat):Int))) (λj=>iT (Bool.and_self true) (congrArg j (Prod.ext rfl rfl)))).trans ?_
  exact out 1 10 ol
 ·rw [if_neg h46] at eo
  have:(decide (c=46) && dotN r)=false:=by
   rw [Bool.and_eq_false_iff]
   by_cases h:c=46
   ·right
    cases hd:dotN r with
    | true=>exact absurd ⟨h,hd⟩ h46
    | false=>rfl
   ·left; exact decide_eq_false h
  rw [this]
  have bg:=qK5 k c256
  have nodig:(c=39∨c=34∨c=36∨c=63)→begN c=0:=by rintro (rfl | rfl | rfl | rfl) <;> decide
  by_cases h39:c=39
  ·rw [if_pos h39] at eo
   rw [eo] at ol ⊢
   subst h39
   refine (jS (v:=(((1:Nat):Int),(qtdN (s.drop a):Int))) (λj=>?_)).trans ?_
   ·refine iF rfl ?_
    refine bS (by (try simp (disch:=omega) only [fwI]); exact bg) ?_
    refine iF rfl ?_
    refine bS (by (try simp (disch:=omega) only [fwI]); exact bg) ?_
    refine iF rfl ?_
    refine iT rfl ?_
    refine bS (by (try simp (disch:=omega) only [fwI]); exact qFr (by omega) hs hl' hc (.inl rfl)) ?_
    rfl
   ·exact out _ 1 ol
  rw [if_neg h39] at eo
  by_cases h34:c=34
  ·rw [if_pos h34] at eo
   rw [eo] at ol ⊢
   subst h34
   refine (jS (v:=(((6:Nat):Int),(qtdN (s.drop a):Int))) (λj=>?_)).trans ?_
   ·refine iF rfl ?_
    refine bS (by (try simp (disch:=omega) only [fwI]); exact bg) ?_
    refine iF rfl ?_
    refine bS (by (try simp (disch:=omega) only [fwI]); exact bg) ?_
    refine iF rfl ?_
    refine iF rfl ?_
    refine iT rfl ?_
    refine bS (by (try simp (disch:=omega) only [fwI]); exact qFr (by omega) hs hl' hc (.inr rfl)) ?_
    rfl
   ·exact out _ 6 ol
  rw [if_neg h34] at eo
  by_cases h36:c=36
  ·rw [if_pos h36] at eo
   rw [eo] at ol ⊢
   subst h36
   refine (jS (v:=(((5:Nat):Int),(chrN (s.drop a):Int))) (λj=>?_)).trans ?_
   ·refine iF rfl ?_
    refine bS (by (try simp (disch:=omega) only [fwI]); exact bg) ?_
    refine iF rfl ?_
    refine bS (by (try simp (disch:=omega) only [fwI]); exact bg) ?_
    refine iF rfl ?_
    refine iF rfl ?_
    refine iF rfl ?_
    refine iT rfl ?_
    refine bS (by (try simp (disch:=omega) only [fwI]); exact rchar_at (by omega) hs hl' hc) ?_
    rfl
   ·exact out _ 5 ol
  rw [if_neg h36] at eo
  by_cases h63:c=63
  ·rw [if_pos h63] at eo
   rw [eo] at ol ⊢
   subst h63
   have mac : ∀ (n : Nat) (t : LN) (j : Int × Int → Option (S38 × Int)), a + n ≤ s.length → s.drop (a + n) = t →
    jn (λ(z23:Bool)=>if z23 then ((g19 k s ((a+n:Nat):Int)).bind λx13_2=>j (7,fW .i64 (x13_2 - (a:Int)))) else (j (0,0))) (λj23=>if (decide (((a+n:Nat):Int) < (s.length:Int))) then ((nthS s ((a+n:Nat):Int)).bind λx12_7=>(g23 k x12_7).bind λx12_8=>if x12_8 then (j23 true) else ((nthS s ((a+n:Nat):Int)).bind λx12_12=>j23 (decide (x12_12=95)))) else (j23 false))=j (if macB t then (7,(mac1 n t:Int)) else (0,0)):=by
    intro n t j hn ht
    rcases Nat.lt_or_ge (a+n) s.length with h | h
    ·obtain ⟨d,q,hd,hq,hdm,hql⟩:=dcons h
     rw [ht] at hd
     subst hd
     have nd:=nthX (x:=((a+n:Nat):Int)) rfl ht
     have lt:=qO5 k (hs d hdm)
     have lb:(letN d || decide (d=95))=decide (begN d=1∨begN d=2):=by
      have w:=byteAll (f:=λd=>(letN d || decide (d=95)) == decide (begN d=1∨begN d=2)) (by decide +kernel) (hs d hdm)
      exact eq_of_beq w
     refine (jS (v:=decide (begN d=1∨begN d=2)) (λj23=>?_)).trans ?_
     ·refine iT (dT (by omega)) ?_
      refine bS (by (try simp (disch:=omega) only [fwI]); exact nd) ?_
      refine bS (by (try simp (disch:=omega) only [fwI]); exact lt) ?_
      rw [← lb]
      cases letN d with
      | true=>rfl
      | false =>
       refine iF rfl ?_
       refine bS (by (try simp (disch:=omega) only [fwI]); exact nd) ?_
       rw [Bool.false_or]
       refine congrArg j23 ?_
       rw [Bool.eq_iff_iff]; simp; omega
     ·by_cases hb:begN d=1∨begN d=2
      ·have mb:macB (d::q)=true:=decide_eq_true hb
       rw [decide_eq_true hb,mb]
       refine iT rfl ?_
       have ri:=qHn (k:=k) (by omega) hs hl' (a:=a+n) hn
       rw [ht] at ri
       refine bS (by (try simp (disch:=omega) only [fwI]); exact ri) ?_
       have il:=qDz (d::q)
       simp only [List.length_cons] at il
       rw [fwI (by omega) (by omega)]
       simp only [mac1,if_pos hb,if_true]
       refine congrArg j (Prod.ext rfl ?_)
       show ((_:Nat):Int) - (a:Int)=((_:Nat):Int)
       omega
      ·have mb:macB (d::q)=false:=decide_eq_false hb
       rw [decide_eq_false hb,mb]
       rfl
    ·rw [dnil h] at ht
     subst ht
     refine (jS (v:=false) (λj23=>?_)).trans ?_
     ·refine iF (dF (by omega)) rfl
     ·rfl
   have fin : ∀ (n : Nat) (t : LN) (X : (Int × Int → Option (S38 × Int)) → Option (S38 × Int)), macN (s.drop a) = mac1 n t → (∀ j, X j = j (if macB t then (7, (mac1 n t : Int)) else (0, 0))) →
    jn (λ(z20:Int×Int)=>if (decide (z20.2=0)) then (some ((⟨(0:Int),([]:LN),(0:Int)⟩:S38),(4:Int))) else ((subL s (some (a:Int)) (some (fW .i64 ((a:Int)+z20.2)))).bind λx14_6=>some ((⟨z20.1,x14_6,(a:Int)⟩:S38),(0:Int)))) X=some (if (macN (s.drop a),7).1=0 then (tok0,4) else (mkTok s ((macN (s.drop a),7).2,a,(macN (s.drop a),7).1),0)):=by
    intro n t X hm hX
    rw [hm] at ol ⊢
    cases h:macB t with
    | false =>
     rw [h] at hX
     have m0:mac1 n t=0:=by
      cases t with
      | nil=>rfl
      | cons d q=>simp only [mac1,if_neg (of_decide_eq_false h)]
     refine (jS hX).trans ?_
     rw [m0]; rfl
    | true =>
     rw [h] at hX
     refine (jS hX).trans ?_
     exact out _ 7 ol
   cases r with
   | nil =>
    simp only [List.length_nil] at hrl
    refine fin 1 [] _ (by rw [hc]; rfl) (λj=>?_)
    refine iF rfl ?_
    refine bS (by (try simp (disch:=omega) only [fwI]); exact bg) ?_
    refine iF rfl ?_
    refine bS (by (try simp (disch:=omega) only [fwI]); exact bg) ?_
    refine iF rfl ?_
    refine iF rfl ?_
    refine iF rfl ?_
    refine iF rfl ?_
    refine iT rfl ?_
    refine (jS (v:=false) (λj=>?_)).trans ?_
    ·refine iF (dF (by rw [fw_s (by omega)]; omega)) rfl
    ·refine (jS (v:=((a+1:Nat):Int)) (λj=>?_)).trans ?_
     ·refine iF rfl ?_
      rw [fw_s (by omega)]
     ·exact mac 1 [] j (by omega) hr
   | cons d q =>
    simp only [List.length_cons] at hrl
    have nd:=nthX (x:=((a+1:Nat):Int)) rfl hr
    by_cases hd:d=63
    ·refine fin 2 q _ (by rw [hc]; simp only [macN,hd,if_true]) (λj=>?_)
     refine iF rfl ?_
     refine bS (by (try simp (disch:=omega) only [fwI]); exact bg) ?_
     refine iF rfl ?_
     refine bS (by (try simp (disch:=omega) only [fwI]); exact bg) ?_
     refine iF rfl ?_
     refine iF rfl ?_
     refine iF rfl ?_
     refine iF rfl ?_
     refine iT rfl ?_
     refine (jS (v:=true) (λj=>?_)).trans ?_
     ·rw [fw_s (by omega)]
      refine iT (dT (by omega)) ?_
      refine bS (by (try simp (disch:=omega) only [fwI]); exact nd) ?_
      rw [dT (by omega)]
     ·refine (jS (v:=((a+2:Nat):Int)) (λj=>?_)).trans ?_
      ·refine iT rfl ?_
       rw [fw_s (by omega),fw_s (by omega)]
      ·exact mac 2 q j (by omega) (qBw hr)
    ·refine fin 1 (d::q) _ (by rw [hc]; simp only [macN,hd,if_false]) (λj=>?_)
     refine iF rfl ?_
     refine bS (by (try simp (disch:=omega) only [fwI]); exact bg) ?_
     refine iF rfl ?_
     refine bS (by (try simp (disch:=omega) only [fwI]); exact bg) ?_
     refine iF rfl ?_
     refine iF rfl ?_
     refine iF rfl ?_
     refine iF rfl ?_
     refine iT rfl ?_
     refine (jS (v:=false) (λj=>?_)).trans ?_
     ·rw [fw_s (by omega)]
      refine iT (dT (by omega)) ?_
      refine bS (by (try simp (disch:=omega) only [fwI]); exact nd) ?_
      rw [dF (by omega)]
     ·refine (jS (v:=((a+1:Nat):Int)) (λj=>?_)).trans ?_
      ·refine iF rfl ?_
       rw [fw_s (by omega)]
      ·exact mac 1 (d::q) j (by omega) hr
  rw [if_neg h63] at eo
  by_cases h3:begN c=3
  ·rw [if_pos h3] at eo
   rw [eo] at ol ⊢
   refine jC λj=>?_
   refine iF rfl ?_
   refine bS (by (try simp (disch:=omega) only [fwI]); exact bg) ?_
   refine iT (dT (by omega)) ?_
   refine bS (by (try simp (disch:=omega) only [fwI]); exact qMb (by omega) hs hl' (a:=a) (by omega)) ?_
   by_cases h0:(numN (s.drop a)).1=0
   ·rw [if_pos h0]
   ·rw [if_neg h0]
  rw [if_neg h3] at eo
  by_cases h12:begN c=1∨begN c=2
  ·rw [if_pos h12] at eo
   rw [eo] at ol ⊢
   refine (jS (v:=(((if rsvN ((s.drop a).take (innN (s.drop a))) then 8 else begN c:Nat):Int),(innN (s.drop a):Int))) (λj=>?_)).trans ?_
   ·refine iF rfl ?_
    refine bS (by (try simp (disch:=omega) only [fwI]); exact bg) ?_
    refine iF (dF (by omega)) ?_
    refine bS (by (try simp (disch:=omega) only [fwI]); exact bg) ?_
    refine iT (dT (by omega)) ?_
    refine bS (by (try simp (disch:=omega) only [fwI]); exact bg) ?_
    refine bS (by (try simp (disch:=omega) only [fwI]); exact qHn (k:=k) (by omega) hs hl' (a:=a) (by omega)) ?_
    rw [fw_d (n:=a+innN (s.drop a)) (m:=a) (by omega) (by omega),Nat.add_sub_cancel_left,fw_a (by omega) (by omega)]
    refine bS (by (try simp (disch:=omega) only [fwI]); exact subMid (s:=s) (i:=a) (j:=a+innN (s.drop a)) rfl rfl (by omega) (by omega)) ?_
    rw [List.drop_take,Nat.add_sub_cancel_left]
    refine bS (by (try simp (disch:=omega) only [fwI]); exact qHm (by omega) _) ?_
    cases rsvN ((s.drop a).take (innN (s.drop a))) <;> rfl
   ·exact out _ _ il
  ·rw [if_neg h12] at eo
   rw [eo] at ol ⊢
   refine (jS (v:=(((9:Nat):Int),(lngN (s.drop a):Int))) (λj=>?_)).trans ?_
   ·refine iF rfl ?_
    refine bS (by (try simp (disch:=omega) only [fwI]); exact bg) ?_
    refine iF (dF (by omega)) ?_
    refine bS (by (try simp (disch:=omega) only [fwI]); exact bg) ?_
    refine iF (dF (by have:=begN_le c; omega)) ?_
    refine iF (dF (by omega)) ?_
    refine iF (dF (by omega)) ?_
    refine iF (dF (by omega)) ?_
    refine iF (dF (by omega)) ?_
    refine bS (by (try simp (disch:=omega) only [fwI]); exact qIl (k:=k) (by omega) hl' (a:=a) (by omega)) ?_
    rfl
   ·exact out _ 9 ol
theorem qNd (k : Nat) {s : LN} (hk : s.length + 40 < k) (hs : By s) (hl : Sz s) (h16 : s.length ≤ 65536) : ∀ (d f a : Nat) (acc : List S38), s.length < a + d → d < f → a ≤ s.length → acc.length ≤ a → qMp k s f ((a + skipN (s.drop a) : Nat) : Int) acc = some (match toksN s d a with | some l => (acc ++ l.map (mkTok s), 0) | none => ([], 4))
 | 0,f,a,acc,h,hf,ha,hacc=>by omega
 | d+1,f,a,acc,h,hf,ha,hacc=>by
  have hl':=hl
  unfold Sz at hl
  obtain ⟨f,rfl⟩:∃ f',f=f'+1:=⟨f - 1,by omega⟩
  rw [g6_l5_s]
  have sl:=qKd (s.drop a)
  rw [List.length_drop] at sl
  unfold toksN
  have hab:a≤a+skipN (s.drop a):=Nat.le_add_right _ _
  have hbl:a+skipN (s.drop a)≤s.length:=by omega
  generalize a+skipN (s.drop a)=b at *
  by_cases hb:s.length≤b
  ·rw [if_pos hb]
   refine iF (dF (by omega)) ?_
   simp only [List.map_nil,List.append_nil]
  ·rw [if_neg hb]
   refine iT (dT (by omega)) ?_
   refine bS (by (try simp (disch:=omega) only [fwI]); exact rOne_at hk hs hl' (a:=b) (by omega)) ?_
   have ol:=qNy (s.drop b)
   rw [List.length_drop] at ol
   unfold oneAt
   by_cases h0:(oneN (s.drop b)).1=0
   ·rw [if_pos h0,if_pos h0]; rfl
   ·rw [if_neg h0,if_neg h0]
    refine iF rfl ?_
    have ap:appS 32 acc [mkTok s ((oneN (s.drop b)).2,b,(oneN (s.drop b)).1)]=some (acc++[mkTok s ((oneN (s.drop b)).2,b,(oneN (s.drop b)).1)]):=by
     unfold appS
     rw [if_pos (by simp only [List.length_cons,List.length_nil]; omega)]
    refine bS (by (try simp (disch:=omega) only [fwI]); exact ap) ?_
    have tl:((s.drop b).take (oneN (s.drop b)).1).length=(oneN (s.drop b)).1:=by
     rw [List.length_take,List.length_drop]; omega
    show (g11 k s (fW .i64 ((b:Int)+(((s.drop b).take (oneN (s.drop b)).1).length:Int)))).bind _=_
    rw [tl,fw_a (by omega) (by omega)]
    have hpos:0 < (oneN (s.drop b)).1:=Nat.pos_of_ne_zero h0
    refine bS (by (try simp (disch:=omega) only [fwI]); exact qEn (by omega) hs hl' (a:=b+(oneN (s.drop b)).1) (by omega)) ?_
    refine (qNd k hk hs hl' h16 d f (b+(oneN (s.drop b)).1) _ (by omega) (by omega) (by omega) (by rw [List.length_append]; simp only [List.length_cons,List.length_nil]; omega)).trans ?_
    cases toksN s d (b+(oneN (s.drop b)).1) with
    | none=>rfl
    | some l=>simp only [Option.map_some,List.map_cons,List.append_assoc,List.singleton_append]
theorem rscan_at {k:Nat} {s:LN} (hk:s.length+40 < k) (hs:By s) (hl:Sz s):g6 k s=some (scanN s):=by
 have hl':=hl
 unfold Sz at hl
 unfold g6 scanN
 by_cases h16:65536 < s.length
 ·rw [if_pos h16]
  refine iT (dT (by omega)) rfl
 ·rw [if_neg h16]
  refine iF (dF (by omega)) ?_
  refine bS (by (try simp (disch:=omega) only [fwI]); exact qM8 (by omega) hs hl') ?_
  cases hv:vld s.length s with
  | false=>rfl
  | true =>
   refine iF rfl ?_
   have rb:=qEn (k:=k) (by omega) hs hl' (a:=0) (by omega)
   refine bS (by (try simp (disch:=omega) only [fwI]); exact rb) ?_
   refine (qNd k hk hs hl' (by omega) (s.length+1) k 0 [] (by omega) (by omega) (by omega) (Nat.le_refl _)).trans ?_
   simp only [Bool.true_eq_false,if_false]
   cases toksN s (s.length+1) 0 <;> rfl
abbrev sT {α R:Type} (m:Option (Option α)) (z:R) (f:α→Option R):Option R:=m.bind λx=>match x with | none=>some z | some y=>f y
def keepW (DX D : LN) : Nat → List Blk → List Blk → Prop
 | _,[],_=>True
 | _,_::_,[]=>False
 | r,b::LX,c::L=>((DX.any λs=>Nat.beq s r)=true∨((D.all λs => !Nat.beq s r)=true∧(c.ro == b.ro && Nat.ble c.minv b.minv && purs b.cells)=true∧Wk c.cells b.cells))∧keepW DX D (r+1) LX L
theorem qI1 {DX D : LN} : ∀ {LX L : List Blk} {r j : Nat}, keepW DX D r LX L → j < LX.length → r + j ∈ DX ∨ (r + j ∉ D ∧ ∃ c b, L[j]? = some c ∧ LX[j]? = some b ∧ Wb c b)
 | [],_,r,j,_,h=>by simp at h
 | b::LX,[],r,j,h,_=>h.elim
 | b::LX,c::L,r,j,h,hj=>by
  cases j with
  | zero =>
   rcases h.1 with g | ⟨g,a,l⟩
   ·obtain ⟨s,hs,he⟩:=List.any_eq_true.1 g
    have:=Nat.eq_of_beq_eq_true he
    subst this
    exact .inl hs
   ·refine .inr ⟨λhD=>?_,c,b,rfl,rfl,?_⟩
    ·have:=List.all_eq_true.1 g _ hD
     simp at this
    ·simp only [Bool.and_eq_true,beq_iff_eq,Nat.ble_eq] at a
     exact ⟨a.1.1,a.1.2,l.length.symm,a.2,λm v cs k=>qMy l v k⟩
  | succ j =>
   rw [show r+(j+1)=r+1+j by omega]
   simpa using qI1 h.2 (by simpa using hj)
section
variable {R:Type} {X:Fx R} {p p':Pt} {env eE:Env} {H H':Hp} {z:R}
theorem qKb {tv : Value} {D DX : LN} {LX L : List Blk} {m0 m : Mp} {a w w' : World} {b0 : Nat} (hX : X.thr z = some (tv, DX)) (h : X.fin z = mkH LX) (b : X.n0 = LX.length) (hl : (Nat.ble LX.length roots && Nat.ble L.length roots) = true) (hk : keepW DX D 0 LX L) (c : (∀ r v p, m0 r v = some p → r < X.n0) ∧ b0 ≤ a.heap.size) (st : St m0 a b0 m w) (q : Thr D (mkH L) m w b0 w') :
 EndT (X.thr z) (X.enc z) (X.fin z) m0 a b0 (.panicked [{ v:=tv,recovered:=false }]) w':=by
 rw [hX,h]
 simp only [Bool.and_eq_true,Nat.ble_eq] at hl
 have g:=qAy (L:=LX) hl.1
 have k:=qAy (L:=L) hl.2
 refine ⟨rfl,thr_up c.2 st c.1 q (λr hr=>?_) (λr hr=>?_) hl.1⟩
 ·rw [b] at hr
  have:=qI1 (j:=r) hk hr
  rw [Nat.zero_add] at this
  rw [g,k]
  exact this
 ·have hr:LX.length≤r:=hr
  rw [g,List.getElem?_eq_none hr]
theorem qMg {tv:Value} {o:Oper} {D DX:LN} {LX L:List Blk} (hX:X.thr z=some (tv,DX)) (g:X.fin z=mkH LX) (b:X.n0=LX.length) (hl:(Nat.ble LX.length roots && Nat.ble L.length roots)=true) (hk:keepW DX D 0 LX L) (ho:operAt X.fn.ntmps p env=some o) (h:ThrStp X.P env H o tv D (mkH L)):Ok X p env H (some z):=by
 obtain ⟨ops,n,K,rfl,c,l,j⟩:=qAd ho
 intro r hr m0 u b0 m w a k fr x hdf rw st
 cases hr
 show wpOps X.P ops _ (List.range' n (ops.size - n)) a w
 have hlt:n < ops.size:=(Array.getElem?_eq_some_iff.1 c).1
 rw [show ops.size - n=(ops.size - (n+1))+1 by omega,List.range'_succ]
 simp only [wpOps,c]
 rw [qAx j fr]
 simp only [if_true]
 refine .inl ?_
 refine qDe h fr rw _ _ λw' q=>qBf ?_ K
 exact qGm hdf (qKb hX g b hl hk k st q)
theorem qO {α : Type} {m : Option (Option α)} {f : α → Option R} {fi : Nat} {args : List AV} {tv : Value} {D DX : LN} {LX L : List Blk} (g : α → AV) (G : α → Hp) (p' : Pt) (E : α → Env) (hX : X.thr z = some (tv, DX)) (j : X.fin z = mkH LX) (a : X.n0 = LX.length) (hl : (Nat.ble LX.length roots && Nat.ble L.length roots) = true) (hk : keepW DX D 0 LX L) (hc : callAt X.fn.ntmps p env = some (fi, args))
 (b:m=some none→∃ v,CallT X.P fi args H (some (tv,D)) v (mkH L)) (hf:∀ x,m=some (some x)→CallT X.P fi args H none (g x) (G x)) (ha:∀ x,advE X.fn.ntmps p env (g x)=some (p',E x)) (k:∀ x,m=some (some x)→Ok X p' (E x) (G x) (f x)):Ok X p env H (sT m z f):=by
 refine qA7 λx h=>?_
 cases x with
 | none =>
  obtain ⟨o,c,q,first,caps,ho,hoc,hq,hfv,hargs⟩:=qBa hc
  obtain ⟨v,hcall⟩:=b h
  exact qMg hX j a hl hk ho (.inr ⟨c,q,fi,first,caps,v,hoc,hq,hfv,hargs ▸ hcall⟩)
 | some y =>
  show Ok X p env H ((some y).bind f)
  exact qDk g G p' E hc (λw hw=>by cases hw; exact hf y h) ha (λw hw=>by cases hw; exact k y h)
theorem qNz (D:DP) {hs:List Hp} {DX:LN} {LX L:List Blk} (hX:X.thr z=some (D.tv,DX)) (j:X.fin z=mkH LX) (b:X.n0=LX.length) (hl:(Nat.ble LX.length roots && Nat.ble L.length roots)=true) (hH:D.tH=mkH L) (hk:keepW DX D.tD 0 LX L) (h:(drawAt p).isSome=true) (hti:Nat.blt D.tI (opsAt p).size=true) (hp:planOk D.S (opsAt p) D.pl=true) (hds:(opsAt p).toList.all (dstOk X.fn.ntmps)=true) (hD:OpsD X.P X.C D (opsAt p).toList (opsAt p).toList env H eE hs) (hsome:(rdL X.C D (opsAt p).toList eE (H::hs) 0 (opsAt p).toList D.pl).all (λq=>q.1.isSome)=true) (hq:(rdL X.C D (opsAt p).toList eE (H::hs) 0 (opsAt p).toList D.pl).map (·.1)=(rdL X.C D (opsAt p).toList eE (H::hs) 0 (opsAt p).toList D.pl).map (·.2)):Ok X p env H (some z):=by
 obtain ⟨id,ops,K,rfl⟩:∃ id ops K,p = .code (.region id ops true) K:=by
  unfold drawAt at h
  split at h
  ·exact ⟨_,_,_,rfl⟩
  ·cases h
 intro r hr m0 l b0 m w a g fr k hd rw st
 cases hr
 have hlt:D.tI < ops.size:=by simpa [opsAt] using hti
 show (Code.region id ops true).wp X.P _ a w
 refine qHb (id:=id) X.hti X.ord hds hp hD (qEh hsome hq) fr k hd rw (λa w' h=>absurd hlt h) λa' m' n w' _ hdf c q=>qBf ?_ K
 rw [hH] at q
 exact qGm hdf (qKb hX j b hl hk g (st.trans g.2 c) q)
theorem oXs {α : Type} {m : Option (Option α)} {f : α → Option R} {fi : Nat} {ys : List AV} {tv : Value} {a DX : LN} {LX L M : List Blk} {v : α → AV} {L' : α → List Blk} (g : α → AV) (M' : α → List Blk) (p' : Pt) (d : Nat) (rs ms ms' D mm : LN) (args : List AV) (hk : keepW DX D 0 LX M)
 (hh:(∀ x,m=some (some x)→CallT X.P fi ys (mkH L) none (v x) (mkH (L' x)))∧(m=some none→∃ v,CallT X.P fi ys (mkH L) (some (tv,a)) v (mkH L))) (hp:PurA (pickB ms L)) (hp':∀ x,PurA (pickB ms' (L' x))) (hm:PurA (pickB mm M)) (k:∀ x,m=some (some x)→Ok X p' ((d,g x)::env) (mkH (M' x)) (f x))
 (hX:X.thr z=some (tv,DX):=by rfl) (b:X.fin z=mkH LX:=by rfl) (c:X.n0=LX.length:=by rfl)
 (hc:(callAt X.fn.ntmps p env,Nat.ble LX.length roots,Nat.ble M.length roots,thB (rs.take L.length) a D mm 0 M,frOk L.length L.length M.length M.length (rs.take L.length),belows L.length ys,renVs (at0 (rs.take L.length)) ys,rbA (rs.take L.length) L.length ms L)=(some (fi,args),true,true,true,true,true,args,rbC (rs.take L.length) M 0 L):=by kernel_rfl)
 (he:∀ x,(frB1 L (L' x) M (M' x) rs ys (v x),renVs (at0 rs) ys,renV (at0 rs) (v x),rbA rs L.length ms L,rbA rs (L' x).length ms' (L' x),offs rs 0 M)=(true,args,g x,rbC rs M 0 L,rbC rs (M' x) 0 (L' x),offs rs 0 ((M' x).take M.length)):=by exact λ_=>by kernel_rfl)
 (ha:∀ x,advE X.fn.ntmps p env (g x)=some (p',(d,g x)::env):=by exact λ_=>by kernel_rfl):Ok X p env (mkH M) (sT m z f):=by
 obtain ⟨h,j⟩:=hh
 simp only [Prod.mk.injEq] at hc
 obtain ⟨l,n,o,q,r,u,A,B⟩:=hc
 have hd:dOk (rs.take L.length) a D 0 M:=qGh q hm
 refine qO (tv:=tv) (D:=D) (LX:=LX) (L:=M) g (λx=>mkH (M' x)) p' (λx=>(d,g x)::env) hX b c (by simp [n,o]) hk l (λC=>?_) (λx E=>frC (h x E) hp (hp' x) (he x)) ha k
 obtain ⟨v,hv⟩:=j C
 exact A ▸ ⟨.top,frameTh hv (rs.take L.length) M D r u (qD4 B hp) hd .top⟩
end
theorem frS2 {P : Program} {g : Nat} {ys xs xs' : List AV} {L L' a M M' : List Blk} {t : Value} {b rs ms ms' mv mm D : LN} {v : AV} (gh : Nat) (hw : Wk xs xs') (h : CallT P g ys (mkH L) (some (t, b)) v (mkH L')) (hp : PurA (pickB ms L)) (hp' : PurA (pickB ms' L')) (hm : PurA (pickB mm M'))
 (he:(frOk L.length L.length M.length M.length rs,belows L.length ys,thB rs b D mm 0 M',renVs (at0 rs) ys,rbA rs L.length ms L,rbA rs L.length ms' L',L'.length,M'.length,offs rs 0 M,mvA mv (a++List.replicate gh ⟨[],0,false⟩) M)=(true,true,true,xs',rbC rs M 0 L,rbC rs M' 0 L',L.length,M.length,offs rs 0 (M'.take M.length),mvC mv M)):∃ v,CallT P g xs (mkH a) (some (t,D)) v (mkH M'):=by
 simp only [Prod.mk.injEq] at he
 obtain ⟨c,j,k,l,e2,e3,e4,e5,e6,e7⟩:=he
 have hMinv:=mv_of e7
 have m:=(frameTh2 h rs M M' D c j (qD4 e2 hp) (qD4 e3 hp') e4 e5 (qEl (by rw [e5]; exact Nat.ble_eq_true_of_le (Nat.le_refl _)) e6) (qGh k hm) .top).wk (l ▸ hw)
 simp only [frOk,Bool.and_eq_true,Nat.ble_eq] at c
 have hr:M.length≤roots:=by omega
 have hl:=hMinv.get.1
 exact ⟨_,CallT.ghosts gh a _ rfl (by omega) (CallT.minv (by omega) hMinv m)⟩
section
variable {R:Type} {X:Fx R} {f:Nat} {caps:List AV} {p p':Pt} {env eE:Env} {H H':Hp}
theorem qO1 {t:Option R} {fi:Nat} {args:List AV} (v:AV) (p':Pt) (E:Env) (hc:callAt X.fn.ntmps p env=some (fi,args)) (hf:CallT X.P fi args H none v H') (ha:advE X.fn.ntmps p env v=some (p',E)) (k:OkD X f caps p' E H' t):OkD X f caps p env H t:=by
 obtain ⟨o,c,q,first,cps,ho,hoc,hq,hfv,hargs⟩:=qBa hc
 unfold advE at ha
 rw [ho] at ha
 simp only [Option.some.injEq,Prod.mk.injEq] at ha
 obtain ⟨a,e2⟩:=ha
 obtain ⟨ops,n,K,rfl,b,g,h⟩:=qAd ho
 rw [← a,← e2] at k
 exact qIw b g h (.inr ⟨c,q,fi,first,cps,hoc,hq,hfv,hargs ▸ hf.v⟩) k
end
section
variable {R:Type} (X:Fx R)
def Sem (I:Mp→World→Prop) (b0:Nat) (Q:Exit→Act→World→Prop) (p:Pt) (env:Env) (H:Hp):Prop := ∀ (m:Mp) (w:World) (a:Act),I m w→FR m env a.tmps→X.fn.ntmps≤a.tmps.size→a.defers=[]→RW m H w b0→At X.P Q p a w
end
def Stb (b0:Nat) (I:Mp→World→Prop):Prop := ∀ m w m' w',I m w→b0≤w.heap.size→St m w b0 m' w'→I m' w'
section
variable {R:Type} {X:Fx R} {I:Mp→World→Prop} {b0:Nat} {Q:Exit→Act→World→Prop} {p p':Pt} {env eE:Env} {H H':Hp}
theorem sem_less (h:Less env eE) (k:Sem X I b0 Q p eE H):Sem X I b0 Q p env H:=λm w a hi fr b hd rw=>k m w a hi (fr.less h) b hd rw
theorem sem_keep (ks:LN) (h:keepOnly env ks=eE) (k:Sem X I b0 Q p eE H):Sem X I b0 Q p env H:=sem_less (h ▸ qBh ks env) k
theorem qCl (h:∀ (a:Act) (w:World),At X.P Q p' a w→At X.P Q p a w) (k:Sem X I b0 Q p' env H):Sem X I b0 Q p env H:=λm w a hi fr b hd rw=>h a w (k m w a hi fr b hd rw)
theorem sem_skp {ops:Array Oper} {n:Nat} {K:List Fr} {o:Oper} (ho:ops[n]? = some o) (hd:dstOk X.fn.ntmps o=true) (hw:wantedV o ops.toList env=some false) (k:Sem X I b0 Q (.ops ops (n+1) K) (putV env o.dst (.tuple [])) H):Sem X I b0 Q (.ops ops n K) env H:=by
 intro m w a hi fr b hdf rw
 show wpOps X.P ops _ (List.range' n (ops.size - n)) a w
 have hlt:n < ops.size:=(Array.getElem?_eq_some_iff.1 ho).1
 rw [show ops.size - n=(ops.size - (n+1))+1 by omega,List.range'_succ]
 simp only [wpOps,ho]
 rw [qAx hw fr]
 simp only [Bool.false_eq_true,if_false]
 obtain ⟨f1,f2,f3⟩:=qAu fr b hdf o hd (.tuple []) undef (qEi _)
 exact k m w _ hi f1 f2 f3 rw
theorem sem_op {ops : Array Oper} {n : Nat} {K : List Fr} {o : Oper} (ho : ops[n]? = some o) (hw : wantedV o ops.toList env = some true)
 (hs:∀ (m:Mp) (w:World) (a:Act),I m w→FR m env a.tmps→X.fn.ntmps≤a.tmps.size→a.defers=[]→RW m H w b0→o.wp X.P a w (At X.P Q (.ops ops (n+1) K)) (FinK X.P Q K)):Sem X I b0 Q (.ops ops n K) env H:=by
 intro m w a hi fr b hdf rw
 show wpOps X.P ops _ (List.range' n (ops.size - n)) a w
 have hlt:n < ops.size:=(Array.getElem?_eq_some_iff.1 ho).1
 rw [show ops.size - n=(ops.size - (n+1))+1 by omega,List.range'_succ]
 simp only [wpOps,ho]
 rw [qAx hw fr]
 simp only [if_true]
 exact .inl (hs m w a hi fr b hdf rw)
section
variable (hI:Stb b0 I)
include hI
theorem qIh {ops:Array Oper} {n:Nat} {K:List Fr} {o:Oper} {v:AV} (ho:ops[n]? = some o) (hd:dstOk X.fn.ntmps o=true) (hw:wantedV o ops.toList env=some true) (hs:Stp X.P X.C env H o v H') (k:Sem X I b0 Q (.ops ops (n+1) K) (putV env o.dst v) H'):Sem X I b0 Q (.ops ops n K) env H:=by
 refine sem_op ho hw λm w a hi fr g hdf rw=>?_
 refine qKc X.hti hs fr rw _ _ λm' w' c h b j=>?_
 obtain ⟨f1,f2,f3⟩:=qAu (fr.mono b.sub) g hdf o hd v c j
 exact k m' w' _ (hI _ _ _ _ hi rw.base_le b) f1 f2 f3 h
theorem stepS_ok (h:stepV X.C X.fn.ntmps p env H=some (p',eE,H')) (k:Sem X I b0 Q p' eE H'):Sem X I b0 Q p env H:=by
 cases p with
 | ops ops n K =>
  simp only [stepV] at h
  rw [qCm,Array.getElem?_toList] at h
  cases ho:ops[n]? with
  | none =>
   rw [ho] at h
   cases h
   refine qCl (λa w hh=>?_) k
   show wpOps X.P ops _ (List.range' n (ops.size - n)) a w
   have hle:ops.size≤n:=by
    rcases Nat.lt_or_ge n ops.size with g | g
    ·rw [Array.getElem?_eq_getElem g] at ho; cases ho
    ·exact g
   rw [show ops.size - n=0 by omega]
   exact qAr hh
  | some o =>
   rw [ho] at h
   simp only at h
   cases hd:dstOk X.fn.ntmps o with
   | false=>rw [hd] at h; cases h
   | true =>
    rw [hd] at h
    simp only [cond_true] at h
    split at h
    ·rename_i hw
     split at h
     ·rename_i v u hv
      cases h
      exact qIh hI ho hd hw (.inl hv) k
     ·cases h
    ·rename_i hw
     cases h
     exact sem_skp ho hd hw k
    ·cases h
 | code c K =>
  cases c <;> simp only [stepV] at h
  case seq x y=>cases h; exact qCl (p' := .code x (.seq y::K)) (λa w hh=>wp_seq (wp_mono hh λe a w he=>by cases e <;> exact he)) k
  case skip=>cases h; exact qCl (λa w hh=>wp_skip (qAr hh)) k
  case label=>cases h; exact qCl (λa w hh=>wp_label (qAr hh)) k
  case block id b=>cases h; exact qCl (p' := .code b (.block id::K)) (λa w hh=>wp_block hh) k
  case scope b=>cases h; exact qCl (p' := .code b (.scope b::K)) (λa w hh=>(qEd hh).wp) k
  case loop b=>cases h; exact qCl (p' := .loop _ _) (λa w hh=>LoopWp.wp hh) k
  case exit id =>
   split at h
   ·rename_i q hq
    cases h
    exact qCl (λa w hh=>wp_exit (qCg hq hh)) k
   ·cases h
  case goto l =>
   split at h
   ·rename_i q hq
    cases h
    exact qCl (λa w hh=>wp_goto (qCz hq hh)) k
   ·cases h
  case ret=>cases h; exact qCl (p' := .fin) (λa w hh=>wp_ret (qD8 hh.2 K)) k
  case region id ops draw =>
   cases draw with
   | true=>cases h
   | false =>
    cases h
    refine qCl (p' := .ops ops 0 K) (λa w hh=>wp_region ?_) k
    have hh':wpOps X.P ops (FinK X.P Q K) (List.range' 0 (ops.size - 0)) a w:=hh
    rw [List.range_eq_range']
    exact hh'
  case cond c x y =>
   split at h
   ·rename_i b j
    cases h
    intro m w a hi fr r hd rw
    have hc:=qB9 fr c
    rw [j] at hc
    simp only [VR] at hc
    refine wp_cond hc ?_
    have:=k m w a hi fr r hd rw
    cases b <;> exact this
   ·cases h
  all_goals cases h
 | loop b K=>cases h
 | fin=>cases h
theorem qN5 : ∀ (k : Nat) {p : Pt} {env : Env} {H : Hp}, runV X.C X.fn.ntmps k p env H = some (p', eE, H') → Sem X I b0 Q p' eE H' → Sem X I b0 Q p env H
 | 0,p,env,H,h,g=>by
  have h':some (p,env,H)=some (p',eE,H'):=h
  cases h'
  exact g
 | k+1,p,env,H,h,g=>by
  have h':(match stepV X.C X.fn.ntmps p env H with | some (p',eE,H')=>runV X.C X.fn.ntmps k p' eE H' | none=>none)=some (p',eE,H'):=h
  split at h'
  ·rename_i a env1 b hs
   exact stepS_ok hI hs (qN5 k h' g)
  ·cases h'
theorem sLH (k:Nat) (p':Pt) (eE:Env) (H':Hp) (g:Sem X I b0 Q p' eE H') (h:(runV X.C X.fn.ntmps k p env H).map (λx=>(x.1,keepOnly x.2.1 (eE.map Prod.fst),x.2.2))=some (p',eE,H'):=by kernel_rfl):Sem X I b0 Q p env H:=by
 cases hr:runV X.C X.fn.ntmps k p env H with
 | none=>rw [hr] at h; cases h
 | some x =>
  obtain ⟨q,e,G⟩:=x
  rw [hr] at h
  simp only [Option.map_some,Option.some.injEq,Prod.mk.injEq] at h
  obtain ⟨rfl,a,rfl⟩:=h
  exact qN5 hI k hr (sem_keep _ a g)
theorem qIg {v:AV} (h:evalAt X.C X.fn.ntmps p env H=some (v,H')) (ha:advE X.fn.ntmps p env v=some (p',eE)) (k:Sem X I b0 Q p' eE H'):Sem X I b0 Q p env H:=by
 unfold evalAt at h
 unfold advE at ha
 cases ho:operAt X.fn.ntmps p env with
 | none=>rw [ho] at h; cases h
 | some o =>
  rw [ho] at h ha
  simp only at h ha
  cases ha
  obtain ⟨ops,n,K,rfl,a,b,c⟩:=qAd ho
  exact qIh hI a b c (.inl h) k
theorem sem_call {fi:Nat} {args:List AV} (v:AV) (hc:callAt X.fn.ntmps p env=some (fi,args)) (hp:purs args=true) (hg:pur v=true) (hf:PureOk X.P fi args v) (ha:advE X.fn.ntmps p env v=some (p',eE)) (k:Sem X I b0 Q p' eE H):Sem X I b0 Q p env H:=by
 obtain ⟨o,c,q,first,cps,ho,hoc,hq,hfv,hargs⟩:=qBa hc
 unfold advE at ha
 rw [ho] at ha
 simp only [Option.some.injEq,Prod.mk.injEq] at ha
 obtain ⟨a,e2⟩:=ha
 obtain ⟨ops,n,K,rfl,b,g,h⟩:=qAd ho
 rw [← a,← e2] at k
 exact qIh hI b g h (.inr ⟨c,q,fi,first,cps,hoc,hq,hfv,hargs ▸ qEq hf hp hg H⟩) k
end
theorem rw_cut {m:Mp} {w:World} {b0:Nat} (l a:List Blk) (A:l.length+a.length≤roots) (c:BB l.length l) (rw:RW m (mkH (l++a)) w b0):RW (m.cut l.length) (mkH l) w b0:=by
 have hget:∀ i,i < l.length→(mkH (l++a)).t.get i=(mkH l).t.get i:=by
  intro i hi
  show (mkT 0 (l++a)).get i=(mkT 0 l).get i
  rw [qAq _ _ _ (by simp; omega),qAq _ _ _ (by omega)]
  simp [List.getElem?_append_left hi]
 have hcut:∀ {r v q},(m.cut l.length) r v=some q→r < l.length∧m r v=some q:=by
  intro r v q h
  have h:(if r < l.length then m r v else none)=some q:=h
  by_cases e:r < l.length
  ·rw [if_pos e] at h; exact ⟨e,h⟩
  ·rw [if_neg e] at h; cases h
 have hnone:∀ i,l.length≤i→(mkH l).t.get i=none:=by
  intro i hi
  show (mkT 0 l).get i=none
  rw [qAq _ _ _ (by omega)]
  simp [hi]
 refine ⟨?_,?_,?_,hnone,?_,rw.frz,?_,rw.ffin,rw.base_le,?_,rw.tyk⟩
 ·intro r b v B N hb' hm g j
  obtain ⟨hlt,hm⟩:=hcut hm
  obtain ⟨cs,ty,fr',k,n,o,u,x⟩:=rw.blk r b v B N (by rw [hget r hlt]; exact hb') hm g j
  have hbl:l[r]? = some b:=by
   have hb':(mkT 0 l).get r=some b:=hb'
   rw [qAq _ _ _ (by omega)] at hb'
   simpa using hb'
  exact ⟨cs,ty,fr',k,n,o,u,qBj _ _ (qB4 v (qId c hbl)) x⟩
 ·intro r v B N hm
  obtain ⟨hlt,hm⟩:=hcut hm
  rw [← hget r hlt]
  exact rw.dom r v B N hm
 ·intro r v B N r' v' N' hm hm' hB
  exact rw.sep _ _ _ _ _ _ _ (hcut hm).2 (hcut hm').2 hB
 ·intro r v B N hm
  exact rw.vle _ _ _ _ (hcut hm).2
 ·intro i B cells r v N b hi hm hb'
  obtain ⟨hlt,hm⟩:=hcut hm
  exact rw.fsep i B cells r v N b hi hm (by rw [hget r hlt]; exact hb')
 ·show l.length≤roots
  omega
theorem qN8 (l b:List Blk) (hc:∀ m w,I m w→I (m.cut l.length) w) (g:Nat.ble (l.length+b.length) roots=true) (he:belowE l.length env=true) (h:BB l.length l) (k:Sem X I b0 Q p env (mkH l)):Sem X I b0 Q p env (mkH (l++b)):=by
 intro m w a hi fr hnt hd rw
 refine k (m.cut l.length) w a (hc m w hi) ?_ hnt hd (rw_cut l b (Nat.le_of_ble_eq_true g) h rw)
 intro t ht
 obtain ⟨c,j,n⟩:=fr t ht
 exact ⟨c,j,qDp _ _ (qCh t he) n⟩
theorem qHp {l:Array Bool} {k:Nat} (d:Bool) (h:k < l.size):(l.push false).getD k d=l.getD k d:=by
 rw [Array.getD_eq_getD_getElem?,Array.getD_eq_getD_getElem?,Array.getElem?_push,if_neg (by omega)]
theorem Mid.runL {P : Program} {C : Cx} {D : DP} (hti : ∀ t i, C.ti t = some i → mkTi P t = some i) {ops : Array Oper} {o : Oper} (hp : PlanOk D.S ops D.pl) {env0 eE : Env} {hs : List Hp} {n base : Nat} {m0 : Mp} {j : World} {Hl : Hp} {Q : Exit → Act → World → Prop}
 (r:base≤j.heap.size) (hds:ops.toList.all (dstOk n)=true) (told:Told P C D ops.toList env0 eE hs ops.toList) (alike:AlikeP C D ops eE hs) (hsame:∀ t,(∀ (k:Nat) (p:Oper),ops[k]? = some p→p.dst ≠ some t)→look eE t=look env0 t) (hlast:hs[(List.range ops.size).countP (effAt D.S ops)]? = some Hl)
 (hnt:¬ D.tI < ops.size) (hg:∀ (i:Nat) (p:Oper),ops[i]? = some p→p.guard=none) (hog:o.guard=none) (haft:∀ i,i < ops.size→∃ e ∈ o.after,Region.binds .any e=true∧e.on=i) (hself:∀ e ∈ o.after,Region.binds .any e=true→e.on < ops.size)
 (hN:∀ a w,Post m0 j base n eE Hl .normal a w→o.wp P a w (λa w=>Q .normal a w) Q):∀ (fuel:Nat) (listed:Array Bool) (a:Act) (w:World) (E:Env) (m:Mp) (H:Hp),
 Mid D ops env0 eE hs n base m0 j listed a w E m H→(List.range ops.size).countP (λk => !listed.getD k false)=fuel→wpAny P .any (ops.push o) Q (fuel+1) (listed.push false) a w
 | 0,listed,a,w,E,m,H,md,hf=>by
  have hall:∀ k,k < ops.size→listed.getD k false=true:=by
   intro k hk
   have:=List.countP_eq_zero.1 hf k (List.mem_range.2 hk)
   simpa using this
  have hsz:=md.size
  have hgetp:∀ k (d:Bool),k < ops.size→(listed.push false).getD k d=true:=by
   intro k d hk
   have c:=hall k hk
   have hk':k < listed.size:=by omega
   rw [qHp d hk']
   simp [hk'] at c ⊢
   exact c
  have honly:∀ i,i ∈ Region.ready .any (ops.push o) (listed.push false)→i=ops.size:=by
   intro i hi
   obtain ⟨c,p,b,_⟩:=mem_ready.1 hi
   have hlt:i < (ops.push o).size:=(Array.getElem?_eq_some_iff.1 b).1
   rw [Array.size_push] at hlt
   by_cases hk:i < ops.size
   ·rw [hgetp i true hk] at c; cases c
   ·omega
  have hin:ops.size ∈ Region.ready .any (ops.push o) (listed.push false):=by
   refine mem_ready.2 ⟨by simp [← hsz],o,by simp,λe he hbd=>hgetp _ _ (hself e he hbd)⟩
  refine ⟨λh=>(by rw [h] at hin; cases hin),λi hi=>?_⟩
  obtain rfl:=honly i hi
  unfold wpOp
  rw [show (ops.push o)[ops.size]? = some o by simp]
  simp only [Region.wanted,hog,if_true]
  refine .inl ?_
  have hcnt:cnt D.S ops listed=(List.range ops.size).countP (effAt D.S ops):=by
   refine List.countP_congr λk hk=>?_
   rw [hall k (List.mem_range.1 hk)]; simp
  have hH:H=Hl:=by
   have:=md.at_
   rw [hcnt,hlast] at this
   exact (Option.some.inj this).symm
  subst hH
  refine Oper.wp_mono (λa' w' hq=>⟨?_,hq⟩) (hN a w ⟨rfl,m,md.rw_,md.st,md.fr.less λt => .inr ?_,md.tn,md.df⟩)
  ·rw [List.eq_nil_iff_forall_not_mem]
   intro i hi
   obtain ⟨c,p,b,_⟩:=mem_ready.1 hi
   have hlt:i < (ops.push o).size:=(Array.getElem?_eq_some_iff.1 b).1
   rw [Array.size_push] at hlt
   by_cases hk:i < ops.size
   ·have x:=hgetp i true hk
    rw [getD_set_ne true (by omega)] at c
    rw [x] at c; cases c
   ·have:i=ops.size:=by omega
    subst this
    rw [qBv (by simp [hsz])] at c; cases c
  ·by_cases hex:∃ (k:Nat) (p:Oper),ops[k]? = some p∧p.dst=some t
   ·obtain ⟨k,p,hk,hd⟩:=hex
    exact (md.given k p t hk (hall k (Array.getElem?_eq_some_iff.1 hk).1) hd).symm
   ·rw [md.other t λk p hk _ hd=>hex ⟨k,p,hk,hd⟩]
    exact hsame t λk p hk hd=>hex ⟨k,p,hk,hd⟩
 | fuel+1,listed,a,w,E,m,H,md,hf=>by
  have hsz:=md.size
  have hgetq:∀ k (d:Bool),k < ops.size→(listed.push false).getD k d=listed.getD k d:=by
   intro k d hk
   exact qHp d (by omega)
  have hpos:0 < (List.range ops.size).countP (λk => !listed.getD k false):=by omega
  obtain ⟨l,g,hkl⟩:=List.countP_pos_iff.1 hpos
  have g:=List.mem_range.1 g
  have hkl:listed.getD l false=false:=by simpa using hkl
  have down:∀ i,i ∈ Region.ready .any (ops.push o) (listed.push false)→i < ops.size∧i ∈ Region.ready .any ops listed:=by
   intro i hi
   obtain ⟨c,p,b,u⟩:=mem_ready.1 hi
   have hlt:i < (ops.push o).size:=(Array.getElem?_eq_some_iff.1 b).1
   rw [Array.size_push] at hlt
   by_cases hk:i < ops.size
   ·rw [Array.getElem?_push,if_neg (by omega)] at b
    rw [hgetq i true hk] at c
    refine ⟨hk,mem_ready.2 ⟨c,p,b,λe he hbd=>?_⟩⟩
    rw [← hgetq e.on false (Nat.lt_trans (hp.back i p b e he hbd) hk)]
    exact u e he hbd
   ·have:i=ops.size:=by omega
    subst this
    rw [show (ops.push o)[ops.size]? = some o by simp] at b
    cases b
    obtain ⟨e,he,hbd,hon⟩:=haft l g
    have:=u e he hbd
    rw [hon,hgetq l false g,hkl] at this
    cases this
  refine ⟨?_,?_⟩
  ·intro hempty
   exfalso
   have key:∀ i,i < ops.size→listed.getD i false=false→False:=by
    intro i
    induction i using Nat.strongRecOn with
    | _ i ih =>
     intro hi hl
     have ho:ops[i]? = some ops[i]:=Array.getElem?_eq_getElem hi
     have hl':i < listed.size:=by omega
     have:i ∈ Region.ready .any (ops.push o) (listed.push false):=by
      refine mem_ready.2 ⟨by rw [hgetq i true hi]; simpa [hl'] using hl,ops[i],by rw [Array.getElem?_push,if_neg (by omega)]; exact ho,?_⟩
      intro e he hbd
      have hlt:=hp.back i _ ho e he hbd
      rw [hgetq e.on false (by omega)]
      cases hq:listed.getD e.on false with
      | true=>rfl
      | false=>exact (ih e.on hlt (by omega) hq).elim
     rw [hempty] at this
     cases this
   exact key l g hkl
  ·intro i hi
   obtain ⟨hlt,hi'⟩:=down i hi
   have hst:=md.step hti hp r hds told alike hi' (Q:=Q) (λ_ _ _ _ h=>absurd h hnt)
   have ho:ops[i]? = some ops[i]:=Array.getElem?_eq_getElem hlt
   have hset:(listed.push false).setIfInBounds i true=(listed.setIfInBounds i true).push false:=by
    apply Array.toList_inj.1
    have hl:i < listed.toList.length:=by simp; omega
    simp [Array.toList_setIfInBounds,List.set_append,hl]
    omega
   have next:∀ a' w',(∃ E' m' H',Mid D ops env0 eE hs n base m0 j (listed.setIfInBounds i true) a' w' E' m' H')→wpAny P .any (ops.push o) Q (fuel+1) ((listed.push false).setIfInBounds i true) a' w':=by
    rintro a' w' ⟨E',m',H',md'⟩
    rw [hset]
    refine Mid.runL hti hp r hds told alike hsame hlast hnt hg hog haft hself hN fuel _ a' w' E' m' H' md' ?_
    have hl:i < listed.size:=by omega
    have q:listed.getD i false=false:=by
     have:=(mem_ready.1 hi').1
     simpa [hl] using this
    have:=qD1 i (λk => !(listed.setIfInBounds i true).getD k false) (λk => !listed.getD k false) (by rw [qBv hl]; rfl) (by rw [q]; rfl) (λk hk=>by rw [getD_set_ne false (Ne.symm hk)]) ops.size hlt
    omega
   unfold wpOp at hst ⊢
   rw [ho] at hst
   rw [show (ops.push o)[i]? = some ops[i] by rw [Array.getElem?_push,if_neg (by omega)]; exact ho]
   simp only [Region.wanted,hg i _ ho,if_true] at hst ⊢
   rcases hst with h | h
   ·exact .inl (Oper.wp_mono next h)
   ·exact .inr h
end
def pk (a b:Int):Value := .agg #[.int .i64 a,.int .i64 b]
theorem run_eqI (w:World) (a b:Int) (n:Nat):(Op.equalIn (n+1) 3 (.int .i64 a) (.int .i64 b)).run Try.prog w = .ok (a == b) w:=by
 simp [Op.equalIn,run_underlying Try.underlying3,Result.andThen]
theorem qDf (w:World) (xs:Array Value) (i:Nat) (v:Value) (h:xs[i]? = some v):(part 3 xs i).run Try.prog w = .ok v w:=by
 simp [part,isAgg,run_underlying Try.underlying3,h,Result.andThen]
theorem qNc (w:World) (a b c d:Int):(Op.equal 52 (pk a b) (pk c d)).run Try.prog w = .ok (a == c && b == d) w:=by
 show (Op.equalIn (9998+1+1) 52 (pk a b) (pk c d)).run Try.prog w=_
 have h0:Try.prog.stoodInHeld 52=false:=by kernel_rfl
 have e1:=λx y=>run_eqI w x y 9998
 generalize hn:(9998+1:Nat)=n at *
 unfold Op.equalIn pk
 simp only [Sem.run_bind,run_underlying Try.underlying52,Result.andThen_ok]
 by_cases h1:a=c
 ·by_cases h2:b=d
  ·simp [h0,Sem.run_bind,qDf,Result.andThen_ok,e1,h1,h2]
  ·simp [h0,Sem.run_bind,qDf,Result.andThen_ok,e1,h1,h2]
 ·simp [h0,Sem.run_bind,qDf,Result.andThen_ok,e1,h1]
theorem qIi (w:World) (em:Bool) (a b:Int):(Instr.checkKey em 10000 52 (pk a b)).run Try.prog w = .ok () w:=by
 show (Instr.checkKey em (9998+1+1) 52 (pk a b)).run Try.prog w=_
 have e1:∀ x n,(Instr.checkKey em (n+1) 3 (.int .i64 x)).run Try.prog w = .ok () w:=by
  intro x n
  simp [Instr.checkKey,run_underlying Try.underlying3,Result.andThen]
 have e1:=λx=>e1 x 9998
 generalize hn:(9998+1:Nat)=n at *
 unfold Instr.checkKey pk
 simp only [Sem.run_bind,run_underlying Try.underlying52,Result.andThen_ok]
 simp [Sem.run_bind,qDf,Result.andThen_ok,e1]
def Ent (m : Mp) : List MapEntry → List (Int × Int × S31) → Prop
 | [],[]=>True
 | e::es,x::L=>(e.key=pk x.1 x.2.1∧VR m (n32 x.2.2) e.val)∧Ent m es L
 | _,_=>False
theorem Ent.mono {m m' : Mp} (h : Sub m m') : ∀ {es : List MapEntry} {L : List (Int × Int × S31)}, Ent m es L → Ent m' es L
 | [],[],_=>trivial
 | e::es,x::L,k=>⟨⟨k.1.1,VR.mono h _ _ k.1.2⟩,Ent.mono h k.2⟩
 | [],_::_,k=>k.elim
 | _::_,[],k=>k.elim
def mget (a b : Int) : List (Int × Int × S31) → Option S31
 | []=>none
 | x::L=>if a == x.1 && b == x.2.1 then some x.2.2 else mget a b L
def mset (a b : Int) (v : S31) : List (Int × Int × S31) → List (Int × Int × S31)
 | []=>[(a,b,v)]
 | x::L=>if a == x.1 && b == x.2.1 then (a,b,v)::L else x::mset a b v L
theorem qIj (w : World) (m : Mp) (a b : Int) : ∀ (es : List MapEntry) (L : List (Int × Int × S31)) (i : Nat), Ent m es L →
 ((Instr.findAsking 52 (pk a b) es i).run Try.prog w = .ok none w∧mget a b L=none∧∀ v,mset a b v L=L++[(a,b,v)]) ∨
 ∃ j e x,(Instr.findAsking 52 (pk a b) es i).run Try.prog w = .ok (some (i+j,e.val)) w∧es[j]? = some e∧mget a b L=some x∧VR m (n32 x) e.val∧e.key=pk a b∧∀ v,mset a b v L=L.set j (a,b,v)
 | [],[],i,_ => .inl ⟨by simp [Instr.findAsking],rfl,λ_=>rfl⟩
 | e::es,x::L,i,h=>by
  have hk:=h.1.1
  by_cases hc:(a == x.1 && b == x.2.1)=true
  ·refine .inr ⟨0,e,x.2.2,?_,rfl,?_,h.1.2,?_,λv=>?_⟩
   ·simp [Instr.findAsking,hk,qNc,hc,Result.andThen]
   ·simp [mget,hc]
   ·rw [hk]; simp only [Bool.and_eq_true,beq_iff_eq] at hc; rw [hc.1,hc.2]
   ·simp [mset,hc]
  ·have hc':(a == x.1 && b == x.2.1)=false:=by simpa using hc
   rcases qIj w m a b es L (i+1) h.2 with ⟨h1,h2,h3⟩ | ⟨j,e',x',h1,h2,h3,h4,h5,h6⟩
   ·refine .inl ⟨?_,?_,λv=>?_⟩
    ·simp only [Instr.findAsking,Sem.run_bind,hk,qNc,hc',Result.andThen_ok]; exact h1
    ·simp [mget,hc',h2]
    ·simp only [mset,hc',h3 v]; rfl
   ·refine .inr ⟨j+1,e',x',?_,by simpa using h2,?_,h4,h5,λv=>?_⟩
    ·simp only [Instr.findAsking,Sem.run_bind,hk,qNc,hc',Result.andThen_ok]
     rw [show i+(j+1)=i+1+j by omega]; exact h1
    ·simp [mget,hc',h3]
    ·simp only [mset,hc',h6 v]; rfl
 | [],_::_,_,h=>h.elim
 | _::_,[],_,h=>h.elim
theorem qGl (w:World) (a b:Int) (es:List MapEntry) (r:Option (Nat×Value)) (h:(Instr.findAsking 52 (pk a b) es 0).run Try.prog w = .ok r w):(Instr.findKey 52 (pk a b) es).run Try.prog w = .ok r w:=by
 unfold Instr.findKey
 simp only [Sem.run_bind,run_underlying Try.underlying52,Result.andThen_ok]
 have hn:Instr.findNow (.struct #[{ name := "from",type:=3,offset:=0,embedded:=false,tag := "",pkgPath := "galley/shape",byteOffset:=0 },{ name := "to",type:=3,offset:=1,embedded:=false,tag := "",pkgPath := "galley/shape",byteOffset:=8 }]) (pk a b) es 0=some none∧es=[]∨Instr.findNow (.struct #[{ name := "from",type:=3,offset:=0,embedded:=false,tag := "",pkgPath := "galley/shape",byteOffset:=0 },{ name := "to",type:=3,offset:=1,embedded:=false,tag := "",pkgPath := "galley/shape",byteOffset:=8 }]) (pk a b) es 0=none:=by
  cases es with
  | nil=>exact .inl ⟨rfl,rfl⟩
  | cons e es=>exact .inr rfl
 rcases hn with ⟨hn,rfl⟩ | hn
 ·rw [hn]
  simp [Instr.findAsking] at h
  simp [h]
 ·rw [hn]; exact h
theorem qNb (w:World) (a b:Int):(Instr.keyThatStays (pk a b) (pk a b)).run Try.prog w = .ok (pk a b) w:=by
 have:Instr.sameBits 10000 (pk a b) (pk a b)=true:=by
  show Instr.sameBits (9998+1+1) (pk a b) (pk a b)=true
  simp [Instr.sameBits,pk]
 unfold Instr.keyThatStays
 simp [this]
theorem qM4 {m : Mp} {y : MapEntry} {z : Int × Int × S31} (hy : y.key = pk z.1 z.2.1 ∧ VR m (n32 z.2.2) y.val) : ∀ {es : List MapEntry} {L : List (Int × Int × S31)}, Ent m es L → Ent m (es ++ [y]) (L ++ [z])
 | [],[],_=>⟨hy,trivial⟩
 | e::es,x::L,h=>⟨h.1,qM4 hy h.2⟩
 | [],_::_,h=>h.elim
 | _::_,[],h=>h.elim
theorem qQf {m : Mp} {y : MapEntry} {z : Int × Int × S31} (hy : y.key = pk z.1 z.2.1 ∧ VR m (n32 z.2.2) y.val) : ∀ {es : List MapEntry} {L : List (Int × Int × S31)} (j : Nat), Ent m es L → Ent m (es.set j y) (L.set j z)
 | [],[],j,_=>by simp [Ent]
 | e::es,x::L,0,h=>⟨hy,h.2⟩
 | e::es,x::L,j+1,h=>⟨h.1,qQf hy j h.2⟩
 | [],_::_,_,h=>h.elim
 | _::_,[],_,h=>h.elim
theorem run_upd {w : World} {m : Mp} {B clock : Nat} {es : Array MapEntry} {L : List (Int × Int × S31)} {a b : Int} {x : S31} {v : Value} (hb : w.heap[B]? = some (.map es clock)) (he : Ent m es.toList L) (hv : VR m (n32 x) v) :
 ∃ es' clock',(Instr.mapUpdate 45 (.map (some B)) (pk a b) v).run Try.prog w = .ok () { w with heap:=w.heap.setIfInBounds B (.map es' clock') }∧Ent m es'.toList (mset a b x L):=by
 unfold Instr.mapUpdate
 rcases qIj w m a b es.toList L 0 he with ⟨h1,h2,h3⟩ | ⟨j,e,y,h1,h2,h3,h4,h5,h6⟩
 ·refine ⟨es.push ⟨pk a b,v,clock⟩,clock+1,?_,?_⟩
  ·simp only [Sem.run_bind,run_underlying Try.underlying45,Result.andThen_ok,MapKept.run_getObj_map hb,qIi,qGl w a b es.toList _ h1,MapKept.run_setObj_map _ hb]
  ·rw [h3 x,Array.toList_push]
   exact qM4 ⟨rfl,hv⟩ he
 ·have hj:es[j]? = some e:=by simpa using h2
  refine ⟨es.modify j (λe => { e with key:=pk a b,val:=v }),clock,?_,?_⟩
  ·rw [Nat.zero_add] at h1
   simp only [Sem.run_bind,run_underlying Try.underlying45,Result.andThen_ok,MapKept.run_getObj_map hb,qIi,qGl w a b es.toList _ h1,hj,Option.map_some,Option.getD_some,h5,qNb,MapKept.run_setObj_map _ hb]
  ·rw [h6 x]
   have:(es.modify j (λe => { e with key:=pk a b,val:=v })).toList=es.toList.set j { e with key:=pk a b,val:=v }:=by
    apply List.ext_getElem?
    intro i
    rw [Array.getElem?_toList,Array.getElem?_modify,List.getElem?_set]
    by_cases hij:j=i
    ·subst hij
     have hlt:j < es.toList.length:=(List.getElem?_eq_some_iff.1 h2).1
     rw [if_pos rfl,if_pos rfl,if_pos hlt,hj]; rfl
    ·rw [if_neg hij,if_neg hij,Array.getElem?_toList]
   rw [this]
   exact qQf ⟨rfl,hv⟩ j he
theorem run_look {w : World} {m : Mp} {B clock : Nat} {es : Array MapEntry} {L : List (Int × Int × S31)} {a b : Int} {x : S31} (hb : w.heap[B]? = some (.map es clock)) (he : Ent m es.toList L) (hx : mget a b L = some x) :
 ∃ v,(Instr.lookup 45 (.map (some B)) (pk a b) false).run Try.prog w = .ok v w∧VR m (n32 x) v:=by
 unfold Instr.lookup
 rcases qIj w m a b es.toList L 0 he with ⟨h1,h2,h3⟩ | ⟨j,e,y,h1,h2,h3,h4,h5,h6⟩
 ·rw [h2] at hx; cases hx
 ·rw [h3] at hx; cases hx
  refine ⟨e.val,?_,h4⟩
  simp [Sem.run_bind,run_underlying Try.underlying45,Result.andThen_ok,MapKept.run_getObj_map hb,qIi,qGl w a b es.toList _ h1]
end Go.Proofs.Ytjmmjhojbodbdaa.Am
set_option maxRecDepth 100000
set_option linter.unusedVariables false
namespace Go.Proofs.Ytjmmjhojbodbdaa.Am
noncomputable section
open Go
def Xg36:Fx Int:=⟨Try.prog,cx,Try.f36,λr => .i r,0,λ_=>H0,cxTi,cxOrd,λ_=>none,false⟩
def g36 (k:Nat) (a:S38):Option Int :=
 some (fW .i64 (a.f2+(a.f1.length:Int)))
theorem qPp (k:Nat) (a:S38) (r:Int) (h:g36 k a=some r):PureOk Try.prog 36 [.agg [.i a.f0,.str a.f1,.i a.f2]] (.i r):=by
 refine qA6 Xg36 (λ_=>⟨rfl,rfl⟩) Try.func36 (by decide +kernel) Kr (t:=g36 k a) ?_ h
 unfold g36
 refine qA (eE:=[(0,.agg [.i a.f0,.str a.f1,.i a.f2])]) Kr ?_
 exact oQ 16
def Xg41:Fx Bool:=⟨Try.prog,cx,Try.f41,λr => .bool r,0,λ_=>H0,cxTi,cxOrd,λ_=>none,false⟩
def g41p1:Pt:=nav [0,0,0] (nav [0] (bodyAt Try.f41))
def g41 (k:Nat) (b:LN) (a:S38):Option Bool :=
 if (decide (0≤a.f2)) then (if (decide (a.f2≤(b.length:Int))) then (some (decide ((a.f1.length:Int)≤fW .i64 ((b.length:Int) - a.f2)))) else (some false)) else (some false)
theorem qI5 (k:Nat) (b:LN) (a:S38) (r:Bool) (h:g41 k b a=some r):PureOk Try.prog 41 [.str b,.agg [.i a.f0,.str a.f1,.i a.f2]] (.bool r):=by
 refine qA6 Xg41 (λ_=>⟨rfl,rfl⟩) Try.func41 (by decide +kernel) Kr (t:=g41 k b a) ?_ h
 unfold g41
 refine qA (eE:=[(0,.str b),(1,.agg [.i a.f0,.str a.f1,.i a.f2])]) Kr ?_
 let g:Env:=[(8,.bool (decide (0≤a.f2))),(7,.bool (decide (0≤a.f2))),(6,.i a.f2),(5,.ptr 0 3 2),(4,.bool false),(3,.ptr 0 3 0),(0,.str b),(1,n39 a)]
 refine oH 11 (atN 4 (ctl1 g41p1)) g (mkH [⟨e39 a,0,false⟩]) ?_
 refine oS 8 (λc=>?_) (λc=>?_)
 ·refine oR 7 (atN 11 (ctl1 g41p1)) ((15,.bool (decide (a.f2≤(b.length:Int))))::(14,.bool (decide (a.f2≤(b.length:Int))))::(13,.bool (decide (a.f2≤(b.length:Int))))::(12,.i (b.length:Int))::(11,.str b)::(10,.i a.f2)::(9,.ptr 0 3 2)::(8,.bool true)::g) ?_
  refine oS 15 (λc=>?_) (λc=>?_)
  ·exact oQ 13
  ·exact oQ 13
 ·exact oQ 20
abbrev Ti1:Type:=Int→Int→Option Int
def Xi1 (a:Int) (b:Int):Fx Int:=⟨Try.prog,cx,Try.f42,λr => .tuple [],1,λr=>(mkH [⟨[.i r],1,false⟩]),cxTi,cxOrd,λ_=>none,false⟩
def Pi1 (f:Ti1):Prop := ∀ a b,PNh (Xi1 a b) 42 [.y a,.ptr 0 1 0] (mkH [⟨[.i b],1,false⟩]) (f a b)
def i1 (k:Nat) (b:Int) (a:Int):Option Int :=
 if (decide (b=10)) then (some (fW .i64 (a+1))) else (some a)
theorem i1_all (k:Nat):∀ a b r,i1 k a b=some r→CallT Try.prog 42 [.y a,.ptr 0 1 0] (mkH [⟨[.i b],1,false⟩]) ((Xi1 a b).thr r) ((Xi1 a b).enc r) ((Xi1 a b).fin r):=by
 intro a b r h
 refine qA1 (Xi1 a b) Try.func42 Kr Kr rfl (t:=i1 k a b) ?_ h
 unfold i1
 refine qA (eE:=[(0,.y a),(1,.ptr 0 1 0)]) Kr ?_
 refine oH 5 (nav [0,0] (nav [0] (bodyAt Try.f42))) [(4,.bool (decide (a=10))),(3,.y a),(0,.y a),(1,.ptr 0 1 0)] (mkH [⟨[.i b],1,false⟩]) ?_
 refine oS 4 (λc=>?_) (λc=>?_)
 ·exact oQF 6 [⟨[.i (fW .i64 (b+1))],1,false⟩] 1 [] [] (.tuple []) .ps trivial
 ·exact oQF 2 [⟨[.i b],1,false⟩] 1 [] [] (.tuple []) .ps trivial
theorem i1_ok (k:Nat):Pi1 (i1 k):=λa b=>λx h=>i1_all k a b x h
def Xg35:Fx Int:=⟨Try.prog,cx,Try.f35,λr => .i r,0,λ_=>H0,cxTi,cxOrd,λ_=>none,false⟩
def g35p1:Pt:=nav [0,0,0,0] (nav [0] (bodyAt Try.f35))
def g35p2:Pt:=nav [0] g35p1
def g35p7:Pt:=nav [0,0,0,0] (nav [0,0,0] (nav [2,0,0] g35p2))
def g35p8:Pt:=nav [0,0,0,0] g35p7
def g35p9:Pt:=nav [0,0,0] g35p8
def g35p10:Pt:=nav [0,0] g35p9
def g35p11:Pt:=nav [1,0,0,0] g35p10
def g35d0:DP:=⟨[],[(0,0,0),(1,0,0),(3,0,0),(7,0,0),(7,0,0),(23,0,0),(63,0,0),(127,0,0),(255,0,0),(511,0,0),(511,0,0),(511,0,0),(2559,0,0),(7679,0,0),(15871,0,0),(32767,0,0),(65535,0,0),(131071,0,0),(262143,0,0),(524287,0,0),(524287,0,0),(524287,0,0),(3670015,0,0),(7864319,1,1),(16777215,0,0),(33554431,0,0),(67108863,0,0),(134217727,0,0),(268435455,0,0),(268435455,0,0),(805306367,0,0),(2147483647,0,0),(4294967295,2,2),(8589934591,0,0),(268435455,0,0),(268435455,0,0),(51808043007,0,0),(120527519743,0,0),(257966473215,2,3),(549755813887,0,0),(1099511627775,0,0)],41,thrown,[],H0⟩
def qJn (k:Nat)  (j:LN) (l:List S38) (m:Int) (ih:Int→Int→Option Int):Int→Int→Option Int :=
 λ(a:Int) (b:Int)=>(nthL l m).bind λc=>if (decide (a < c.f2)) then ((nthS j a).bind λg=>(i1 k g b).bind λh=>ih (fW .i64 (a+1)) h) else (some b)
def qPr (k:Nat)  (a:LN) (b:List S38) (c:Int) (n:Nat):Int→Int→Option Int:=lp (λ_ _=>none) (qJn k a b c) n
theorem qPq (k:Nat)   (j:LN) (l:List S38) (m:Int)  : ∀ (n:Nat) (b:Int) (c:Int),Ok Xg35 g35p8 [(0,.str j),(1,w39 l),(2,.i m),(7,.ptr 0 1 0),(8,.func 42 [] [.ptr 0 1 0]),(9,.i b)] (mkH [⟨[.i c],1,false⟩]) (qPr k j l m n b c):=by
 intro n
 induction n with
 | zero=>intro b c; exact ok_none
 | succ n ih =>
  intro b c
  show Ok _ _ _ _ (qJn k j l m (qPr k j l m n) b c)
  unfold qJn
  refine qAk (p':=nav [0] g35p8) Kr ?_
  let q:Env:=[(60,.i m),(59,w39 l),(58,.i b),(0,.str j),(1,w39 l),(2,.i m),(7,.ptr 0 1 0),(8,.func 42 [] [.ptr 0 1 0]),(9,.i b)]
  let o:Blk:=⟨[.i c],1,false⟩
  refine oH 6 (atN 3 (ctl1 g35p9)) q (mkH [o]) ?_
  refine oC (λ(a:S38)=>(.vptr [.i a.f0,.str a.f1,.i a.f2],(mkH [o]))) (atN 4 (ctl1 g35p9)) 61 (vidxH (sz:=3) qAn Kr) λa r=>?_
  refine oH 4 g35p10 ((64,.bool (decide (b < a.f2)))::(63,.i a.f2)::(62,.vptr [.i a.f2])::(61,.vptr [.i a.f0,.str a.f1,.i a.f2])::q) (mkH [o]) ?_
  refine oS 64 (λB=>?_) (λB=>?_)
  ·let A:Env:=((69,.i b)::(68,.str j)::(67,.func 42 [] [.ptr 0 1 0])::(64,.bool true)::(64,.bool (decide (b < a.f2)))::(63,.i a.f2)::(62,.vptr [.i a.f2])::(61,.vptr [.i a.f0,.str a.f1,.i a.f2])::q)
   refine oR 8 (atN 3 (ctl1 g35p11)) A ?_
   refine oC (λ(g:Int)=>(.y g,(mkH [o]))) (atN 4 (ctl1 g35p11)) 70 (idxH Kr) λg u=>?_
   refine oN (λ(h:Int) => .tuple []) (λh=>[⟨[.i h],1,false⟩]) (atN 5 (ctl1 g35p11)) 71 [0] [] [] [.y g,.ptr 0 1 0] (i1_ok k g c) trivial (λ_=>trivial) λh x=>?_
   refine oR 1 (nav [0,0] g35p11) ((71,.tuple [])::(70,.y g)::A) ?_
   refine oK0 [0,1,2,7,8,9] ?_
   refine oL 5 g35p8 [(0,.str j),(1,w39 l),(2,.i m),(7,.ptr 0 1 0),(8,.func 42 [] [.ptr 0 1 0]),(9,.i (fW .i64 (b+1)))] ?_
   exact ih (fW .i64 (b+1)) h
  ·exact oQ 8
def g35 (k:Nat) (u:LN) (b:List S38) (a:Int):Option Int :=
 jn (λ(x:Bool)=>if x then (some (0:Int)) else ((nthL b (fW .i64 (a - 1))).bind λo=>(g36 k o).bind λq=>qPr k u b a k q 0)) (λr=>if (decide (a < 1)) then (r true) else (if (decide ((b.length:Int)≤a)) then (r true) else ((nthL b (fW .i64 (a - 1))).bind λc=>(g41 k u c).bind λg=>if (!g) then (r true) else ((nthL b a).bind λh=>(g41 k u h).bind λj=>if (!j) then (r true) else ((nthL b (fW .i64 (a - 1))).bind λl=>(g36 k l).bind λm=>(nthL b a).bind λn=>r (decide (n.f2 < m)))))))
theorem g35_ok (k:Nat) (m:LN) (j:List S38) (c:Int) (r:Int) (h:g35 k m j c=some r):PureOk Try.prog 35 [.str m,w39 j,.i c] (.i r):=by
 refine qA6 Xg35 (λ_=>⟨rfl,rfl⟩) Try.func35 (by decide +kernel) Kr (t:=g35 k m j c) ?_ h
 unfold g35
 refine qA (eE:=[(0,.str m),(1,w39 j),(2,.i c)]) Kr ?_
 refine oH 6 g35p1 [(6,.i 0),(0,.str m),(1,w39 j),(2,.i c)] (mkH []) ?_
 refine oJ g35p2 (λ(z4:Bool)=>[(0,.str m),(1,w39 j),(2,.i c),(50,.bool z4)]) (λ(z4:Bool)=>(mkH [])) (λz4=>?_) (λj4 L=>?_)
 ·refine oS 50 (λhb=>?_) (λhb=>?_)
  ·exact oQ 6
  ·let E2:Env:=[(54,.i (fW .i64 (c - 1))),(53,.i c),(52,w39 j),(8,.func 42 [] [.ptr 0 1 0]),(51,.func 42 [] [.ptr 0 1 0]),(7,.ptr 0 1 0),(50,.bool false),(0,.str m),(1,w39 j),(2,.i c),(50,.bool z4)]
   refine oH 18 (atN 3 (ctl1 g35p7)) E2 (mkH [⟨[.i 0],1,false⟩]) ?_
   refine oC (λ(A:S38)=>(.vptr [.i A.f0,.str A.f1,.i A.f2],(mkH [⟨[.i 0],1,false⟩]))) (atN 4 (ctl1 g35p7)) 55 (vidxH (sz:=3) qAn Kr) λA b1=>?_
   refine oH 1 (atN 5 (ctl1 g35p7)) ((56,n39 A)::(55,.vptr [.i A.f0,.str A.f1,.i A.f2])::E2) (mkH [⟨[.i 0],1,false⟩]) ?_
   refine oA (λ(F:Int) => .i F) (atN 6 (ctl1 g35p7)) 57 [n39 A] (qPp k A) λF b2=>?_
   refine oL 4 g35p8 [(0,.str m),(1,w39 j),(2,.i c),(7,.ptr 0 1 0),(8,.func 42 [] [.ptr 0 1 0]),(9,.i F)] ?_
   exact (qPq k m j c k) F 0
 ·refine qCo (λK=>?_) (λK=>?_)
  ·let S:Env:=[(12,.bool (decide (c < 1))),(11,.bool (decide (c < 1))),(10,.i c),(6,.i 0),(0,.str m),(1,w39 j),(2,.i c)]
   let a4:Env:=[(50,.bool true),(49,.tuple []),(48,.tuple []),(47,.tuple []),(46,.tuple []),(45,.tuple []),(44,.tuple []),(43,.tuple []),(42,.tuple []),(41,.tuple []),(40,.tuple []),(39,.tuple []),(38,.tuple []),(37,.bool true),(36,.bool true),(35,.tuple []),(34,.tuple []),(33,.tuple []),(32,.tuple []),(31,.tuple []),(30,.tuple []),(29,.tuple []),(28,.bool true),(27,.bool true),(26,.tuple []),(25,.tuple []),(24,.tuple []),(23,.tuple []),(22,.tuple []),(21,.tuple []),(20,.tuple []),(19,.tuple []),(18,.bool true),(17,.bool true),(16,.tuple []),(15,.tuple []),(14,.tuple []),(13,.tuple []),(12,.bool true),(11,.bool true),(10,.i c),(6,.i 0),(0,.str m),(1,w39 j),(2,.i c)]
   refine oD (H':=(mkH [])) (nav [0] g35p1) a4 [(mkH []),(mkH []),(mkH [])] g35d0 (oDr 3 3 S (oDe (λz=>[(12,.bool z),(11,.bool z),(10,.i c),(6,.i 0),(0,.str m),(1,w39 j),(2,.i c)]) K (oDh 38 41 a4 (mkH []) [(mkH []),(mkH []),(mkH [])] .nil))) ?_
   refine oK [0,1,2,50] [(0,.str m),(1,w39 j),(2,.i c),(50,.bool true)] ?_
   exact L true
  ·refine qCo (λM=>?_) (λM=>?_)
   ·let S:Env:=[(12,.bool (decide (c < 1))),(11,.bool (decide (c < 1))),(10,.i c),(6,.i 0),(0,.str m),(1,w39 j),(2,.i c)]
    let E:Env:=[(18,.bool (decide ((j.length:Int)≤c))),(17,.bool (decide ((j.length:Int)≤c))),(16,.bool (decide ((j.length:Int)≤c))),(15,.i (j.length:Int)),(14,w39 j),(13,.i c),(12,.bool false),(11,.bool false),(10,.i c),(6,.i 0),(0,.str m),(1,w39 j),(2,.i c)]
    let a5:Env:=[(50,.bool true),(49,.tuple []),(48,.tuple []),(47,.tuple []),(46,.tuple []),(45,.tuple []),(44,.tuple []),(43,.tuple []),(42,.tuple []),(41,.tuple []),(40,.tuple []),(39,.tuple []),(38,.tuple []),(37,.bool true),(36,.bool true),(35,.tuple []),(34,.tuple []),(33,.tuple []),(32,.tuple []),(31,.tuple []),(30,.tuple []),(29,.tuple []),(28,.bool true),(27,.bool true),(26,.tuple []),(25,.tuple []),(24,.tuple []),(23,.tuple []),(22,.tuple []),(21,.tuple []),(20,.tuple []),(19,.tuple []),(18,.bool true),(17,.bool true),(16,.bool true),(15,.i (j.length:Int)),(14,w39 j),(13,.i c),(12,.bool false),(11,.bool false),(10,.i c),(6,.i 0),(0,.str m),(1,w39 j),(2,.i c)]
    refine oD (H':=(mkH [])) (nav [0] g35p1) a5 [(mkH []),(mkH []),(mkH [])] g35d0 (oDr 3 3 S (oDe (λz=>[(12,.bool z),(11,.bool z),(10,.i c),(6,.i 0),(0,.str m),(1,w39 j),(2,.i c)]) K (oDr 6 9 E (oDe (λz=>[(18,.bool z),(17,.bool z),(16,.bool z),(15,.i (j.length:Int)),(14,w39 j),(13,.i c),(12,.bool false),(11,.bool false),(10,.i c),(6,.i 0),(0,.str m),(1,w39 j),(2,.i c)]) M (oDh 32 41 a5 (mkH []) [(mkH []),(mkH []),(mkH [])] .nil))))) ?_
    refine oK [0,1,2,50] [(0,.str m),(1,w39 j),(2,.i c),(50,.bool true)] ?_
    exact L true
   ·refine qA7 (λa C=>?_)
    refine qA7 (λg D=>?_)
    refine qCo (λT=>?_) (λT=>?_)
    ·let S:Env:=[(12,.bool (decide (c < 1))),(11,.bool (decide (c < 1))),(10,.i c),(6,.i 0),(0,.str m),(1,w39 j),(2,.i c)]
     let E:Env:=[(18,.bool (decide ((j.length:Int)≤c))),(17,.bool (decide ((j.length:Int)≤c))),(16,.bool (decide ((j.length:Int)≤c))),(15,.i (j.length:Int)),(14,w39 j),(13,.i c),(12,.bool false),(11,.bool false),(10,.i c),(6,.i 0),(0,.str m),(1,w39 j),(2,.i c)]
     let q:Env:=[(22,.i (fW .i64 (c - 1))),(21,.i c),(20,w39 j),(19,.str m),(18,.bool false),(17,.bool false),(16,.bool false),(15,.i (j.length:Int)),(14,w39 j),(13,.i c),(12,.bool false),(11,.bool false),(10,.i c),(6,.i 0),(0,.str m),(1,w39 j),(2,.i c)]
     let N:Env:=((28,.bool (!g))::(27,.bool (!g))::(26,.bool (!g))::(25,.bool g)::(24,n39 a)::(23,.vptr [.i a.f0,.str a.f1,.i a.f2])::q)
     let a6:Env:=[(50,.bool true),(49,.tuple []),(48,.tuple []),(47,.tuple []),(46,.tuple []),(45,.tuple []),(44,.tuple []),(43,.tuple []),(42,.tuple []),(41,.tuple []),(40,.tuple []),(39,.tuple []),(38,.tuple []),(37,.bool true),(36,.bool true),(35,.tuple []),(34,.tuple []),(33,.tuple []),(32,.tuple []),(31,.tuple []),(30,.tuple []),(29,.tuple []),(28,.bool true),(27,.bool true),(26,.bool true),(25,.bool g),(24,n39 a),(23,.vptr [.i a.f0,.str a.f1,.i a.f2]),(22,.i (fW .i64 (c - 1))),(21,.i c),(20,w39 j),(19,.str m),(18,.bool false),(17,.bool false),(16,.bool false),(15,.i (j.length:Int)),(14,w39 j),(13,.i c),(12,.bool false),(11,.bool false),(10,.i c),(6,.i 0),(0,.str m),(1,w39 j),(2,.i c)]
     refine oD (H':=(mkH [])) (nav [0] g35p1) a6 [(mkH []),(mkH []),(mkH [])] g35d0 (oDr 3 3 S (oDe (λz=>[(12,.bool z),(11,.bool z),(10,.i c),(6,.i 0),(0,.str m),(1,w39 j),(2,.i c)]) K (oDr 6 9 E (oDe (λz=>[(18,.bool z),(17,.bool z),(16,.bool z),(15,.i (j.length:Int)),(14,w39 j),(13,.i c),(12,.bool false),(11,.bool false),(10,.i c),(6,.i 0),(0,.str m),(1,w39 j),(2,.i c)]) M (oDr 4 13 q (qAa (l':=(opsAt g35p1).toList.drop 14) (eE:=((23,.vptr [.i a.f0,.str a.f1,.i a.f2])::q)) (hs:=[]) (x:=a) (λ(a:S38)=>(.vptr [.i a.f0,.str a.f1,.i a.f2],(mkH []))) (vidxH (sz:=3) qAn Kr) C Kr (oDr 1 15 ((24,n39 a)::(23,.vptr [.i a.f0,.str a.f1,.i a.f2])::q) (qAs (l':=(opsAt g35p1).toList.drop 16) (eE:=((25,.bool g)::(24,n39 a)::(23,.vptr [.i a.f0,.str a.f1,.i a.f2])::q)) (hs:=[(mkH [])]) (fi:=41) (args:=[.str m,n39 a]) (v := .bool g) Kr Kr Kr (qI5 k m a g D) Kr (oDr 3 19 N (oDe (λz=>[(28,.bool z),(27,.bool z),(26,.bool z),(25,.bool g),(24,n39 a),(23,.vptr [.i a.f0,.str a.f1,.i a.f2]),(22,.i (fW .i64 (c - 1))),(21,.i c),(20,w39 j),(19,.str m),(18,.bool false),(17,.bool false),(16,.bool false),(15,.i (j.length:Int)),(14,w39 j),(13,.i c),(12,.bool false),(11,.bool false),(10,.i c),(6,.i 0),(0,.str m),(1,w39 j),(2,.i c)]) T (oDh 22 41 a6 (mkH []) [(mkH []),(mkH [])] .nil))))))))))) ?_
     refine oK [0,1,2,50] [(0,.str m),(1,w39 j),(2,.i c),(50,.bool true)] ?_
     exact L true
    ·refine qA7 (λb G=>?_)
     refine qA7 (λn J=>?_)
     refine qCo (λY=>?_) (λY=>?_)
     ·let S:Env:=[(12,.bool (decide (c < 1))),(11,.bool (decide (c < 1))),(10,.i c),(6,.i 0),(0,.str m),(1,w39 j),(2,.i c)]
      let E:Env:=[(18,.bool (decide ((j.length:Int)≤c))),(17,.bool (decide ((j.length:Int)≤c))),(16,.bool (decide ((j.length:Int)≤c))),(15,.i (j.length:Int)),(14,w39 j),(13,.i c),(12,.bool false),(11,.bool false),(10,.i c),(6,.i 0),(0,.str m),(1,w39 j),(2,.i c)]
      let q:Env:=[(22,.i (fW .i64 (c - 1))),(21,.i c),(20,w39 j),(19,.str m),(18,.bool false),(17,.bool false),(16,.bool false),(15,.i (j.length:Int)),(14,w39 j),(13,.i c),(12,.bool false),(11,.bool false),(10,.i c),(6,.i 0),(0,.str m),(1,w39 j),(2,.i c)]
      let N:Env:=((28,.bool (!g))::(27,.bool (!g))::(26,.bool (!g))::(25,.bool g)::(24,n39 a)::(23,.vptr [.i a.f0,.str a.f1,.i a.f2])::q)
      let B:Env:=[(31,.i c),(30,w39 j),(29,.str m),(28,.bool false),(27,.bool false),(26,.bool false),(25,.bool g),(24,n39 a),(23,.vptr [.i a.f0,.str a.f1,.i a.f2]),(22,.i (fW .i64 (c - 1))),(21,.i c),(20,w39 j),(19,.str m),(18,.bool false),(17,.bool false),(16,.bool false),(15,.i (j.length:Int)),(14,w39 j),(13,.i c),(12,.bool false),(11,.bool false),(10,.i c),(6,.i 0),(0,.str m),(1,w39 j),(2,.i c)]
      let Z:Env:=((37,.bool (!n))::(36,.bool (!n))::(35,.bool (!n))::(34,.bool n)::(33,n39 b)::(32,.vptr [.i b.f0,.str b.f1,.i b.f2])::B)
      let a7:Env:=[(50,.bool true),(49,.tuple []),(48,.tuple []),(47,.tuple []),(46,.tuple []),(45,.tuple []),(44,.tuple []),(43,.tuple []),(42,.tuple []),(41,.tuple []),(40,.tuple []),(39,.tuple []),(38,.tuple []),(37,.bool true),(36,.bool true),(35,.bool true),(34,.bool n),(33,n39 b),(32,.vptr [.i b.f0,.str b.f1,.i b.f2]),(31,.i c),(30,w39 j),(29,.str m),(28,.bool false),(27,.bool false),(26,.bool false),(25,.bool g),(24,n39 a),(23,.vptr [.i a.f0,.str a.f1,.i a.f2]),(22,.i (fW .i64 (c - 1))),(21,.i c),(20,w39 j),(19,.str m),(18,.bool false),(17,.bool false),(16,.bool false),(15,.i (j.length:Int)),(14,w39 j),(13,.i c),(12,.bool false),(11,.bool false),(10,.i c),(6,.i 0),(0,.str m),(1,w39 j),(2,.i c)]
      refine oD (H':=(mkH [])) (nav [0] g35p1) a7 [(mkH []),(mkH []),(mkH [])] g35d0 (oDr 3 3 S (oDe (λz=>[(12,.bool z),(11,.bool z),(10,.i c),(6,.i 0),(0,.str m),(1,w39 j),(2,.i c)]) K (oDr 6 9 E (oDe (λz=>[(18,.bool z),(17,.bool z),(16,.bool z),(15,.i (j.length:Int)),(14,w39 j),(13,.i c),(12,.bool false),(11,.bool false),(10,.i c),(6,.i 0),(0,.str m),(1,w39 j),(2,.i c)]) M (oDr 4 13 q (qAa (l':=(opsAt g35p1).toList.drop 14) (eE:=((23,.vptr [.i a.f0,.str a.f1,.i a.f2])::q)) (hs:=[]) (x:=a) (λ(a:S38)=>(.vptr [.i a.f0,.str a.f1,.i a.f2],(mkH []))) (vidxH (sz:=3) qAn Kr) C Kr (oDr 1 15 ((24,n39 a)::(23,.vptr [.i a.f0,.str a.f1,.i a.f2])::q) (qAs (l':=(opsAt g35p1).toList.drop 16) (eE:=((25,.bool g)::(24,n39 a)::(23,.vptr [.i a.f0,.str a.f1,.i a.f2])::q)) (hs:=[(mkH [])]) (fi:=41) (args:=[.str m,n39 a]) (v := .bool g) Kr Kr Kr (qI5 k m a g D) Kr (oDr 3 19 N (oDe (λz=>[(28,.bool z),(27,.bool z),(26,.bool z),(25,.bool g),(24,n39 a),(23,.vptr [.i a.f0,.str a.f1,.i a.f2]),(22,.i (fW .i64 (c - 1))),(21,.i c),(20,w39 j),(19,.str m),(18,.bool false),(17,.bool false),(16,.bool false),(15,.i (j.length:Int)),(14,w39 j),(13,.i c),(12,.bool false),(11,.bool false),(10,.i c),(6,.i 0),(0,.str m),(1,w39 j),(2,.i c)]) T (oDr 3 22 B (qAa (l':=(opsAt g35p1).toList.drop 23) (eE:=((32,.vptr [.i b.f0,.str b.f1,.i b.f2])::B)) (hs:=[]) (x:=b) (λ(b:S38)=>(.vptr [.i b.f0,.str b.f1,.i b.f2],(mkH []))) (vidxH (sz:=3) qAn Kr) G Kr (oDr 1 24 ((33,n39 b)::(32,.vptr [.i b.f0,.str b.f1,.i b.f2])::B) (qAs (l':=(opsAt g35p1).toList.drop 25) (eE:=((34,.bool n)::(33,n39 b)::(32,.vptr [.i b.f0,.str b.f1,.i b.f2])::B)) (hs:=[(mkH [])]) (fi:=41) (args:=[.str m,n39 b]) (v := .bool n) Kr Kr Kr (qI5 k m b n J) Kr (oDr 3 28 Z (oDe (λz=>[(37,.bool z),(36,.bool z),(35,.bool z),(34,.bool n),(33,n39 b),(32,.vptr [.i b.f0,.str b.f1,.i b.f2]),(31,.i c),(30,w39 j),(29,.str m),(28,.bool false),(27,.bool false),(26,.bool false),(25,.bool g),(24,n39 a),(23,.vptr [.i a.f0,.str a.f1,.i a.f2]),(22,.i (fW .i64 (c - 1))),(21,.i c),(20,w39 j),(19,.str m),(18,.bool false),(17,.bool false),(16,.bool false),(15,.i (j.length:Int)),(14,w39 j),(13,.i c),(12,.bool false),(11,.bool false),(10,.i c),(6,.i 0),(0,.str m),(1,w39 j),(2,.i c)]) Y (oDh 13 41 a7 (mkH []) [(mkH [])] .nil))))))))))))))))) ?_
      refine oK [0,1,2,50] [(0,.str m),(1,w39 j),(2,.i c),(50,.bool true)] ?_
      exact L true
     ·refine qA7 (λl U=>?_)
      refine qA7 (λu V=>?_)
      refine qA7 (λo W=>?_)
      let S:Env:=[(12,.bool (decide (c < 1))),(11,.bool (decide (c < 1))),(10,.i c),(6,.i 0),(0,.str m),(1,w39 j),(2,.i c)]
      let E:Env:=[(18,.bool (decide ((j.length:Int)≤c))),(17,.bool (decide ((j.length:Int)≤c))),(16,.bool (decide ((j.length:Int)≤c))),(15,.i (j.length:Int)),(14,w39 j),(13,.i c),(12,.bool false),(11,.bool false),(10,.i c),(6,.i 0),(0,.str m),(1,w39 j),(2,.i c)]
      let q:Env:=[(22,.i (fW .i64 (c - 1))),(21,.i c),(20,w39 j),(19,.str m),(18,.bool false),(17,.bool false),(16,.bool false),(15,.i (j.length:Int)),(14,w39 j),(13,.i c),(12,.bool false),(11,.bool false),(10,.i c),(6,.i 0),(0,.str m),(1,w39 j),(2,.i c)]
      let N:Env:=((28,.bool (!g))::(27,.bool (!g))::(26,.bool (!g))::(25,.bool g)::(24,n39 a)::(23,.vptr [.i a.f0,.str a.f1,.i a.f2])::q)
      let B:Env:=[(31,.i c),(30,w39 j),(29,.str m),(28,.bool false),(27,.bool false),(26,.bool false),(25,.bool g),(24,n39 a),(23,.vptr [.i a.f0,.str a.f1,.i a.f2]),(22,.i (fW .i64 (c - 1))),(21,.i c),(20,w39 j),(19,.str m),(18,.bool false),(17,.bool false),(16,.bool false),(15,.i (j.length:Int)),(14,w39 j),(13,.i c),(12,.bool false),(11,.bool false),(10,.i c),(6,.i 0),(0,.str m),(1,w39 j),(2,.i c)]
      let Z:Env:=((37,.bool (!n))::(36,.bool (!n))::(35,.bool (!n))::(34,.bool n)::(33,n39 b)::(32,.vptr [.i b.f0,.str b.f1,.i b.f2])::B)
      let O:Env:=[(40,.i (fW .i64 (c - 1))),(39,.i c),(38,w39 j),(37,.bool false),(36,.bool false),(35,.bool false),(34,.bool n),(33,n39 b),(32,.vptr [.i b.f0,.str b.f1,.i b.f2]),(31,.i c),(30,w39 j),(29,.str m),(28,.bool false),(27,.bool false),(26,.bool false),(25,.bool g),(24,n39 a),(23,.vptr [.i a.f0,.str a.f1,.i a.f2]),(22,.i (fW .i64 (c - 1))),(21,.i c),(20,w39 j),(19,.str m),(18,.bool false),(17,.bool false),(16,.bool false),(15,.i (j.length:Int)),(14,w39 j),(13,.i c),(12,.bool false),(11,.bool false),(10,.i c),(6,.i 0),(0,.str m),(1,w39 j),(2,.i c)]
      let a3:Env:=((45,.i c)::(44,w39 j)::(43,.i u)::(42,n39 l)::(41,.vptr [.i l.f0,.str l.f1,.i l.f2])::O)
      let a8:Env:=((50,.bool (decide (o.f2 < u)))::(49,.bool (decide (o.f2 < u)))::(48,.i o.f2)::(47,.vptr [.i o.f2])::(46,.vptr [.i o.f0,.str o.f1,.i o.f2])::a3)
      refine oD (H':=(mkH [])) (nav [0] g35p1) a8 [(mkH []),(mkH []),(mkH [])] g35d0 (oDr 3 3 S (oDe (λz=>[(12,.bool z),(11,.bool z),(10,.i c),(6,.i 0),(0,.str m),(1,w39 j),(2,.i c)]) K (oDr 6 9 E (oDe (λz=>[(18,.bool z),(17,.bool z),(16,.bool z),(15,.i (j.length:Int)),(14,w39 j),(13,.i c),(12,.bool false),(11,.bool false),(10,.i c),(6,.i 0),(0,.str m),(1,w39 j),(2,.i c)]) M (oDr 4 13 q (qAa (l':=(opsAt g35p1).toList.drop 14) (eE:=((23,.vptr [.i a.f0,.str a.f1,.i a.f2])::q)) (hs:=[]) (x:=a) (λ(a:S38)=>(.vptr [.i a.f0,.str a.f1,.i a.f2],(mkH []))) (vidxH (sz:=3) qAn Kr) C Kr (oDr 1 15 ((24,n39 a)::(23,.vptr [.i a.f0,.str a.f1,.i a.f2])::q) (qAs (l':=(opsAt g35p1).toList.drop 16) (eE:=((25,.bool g)::(24,n39 a)::(23,.vptr [.i a.f0,.str a.f1,.i a.f2])::q)) (hs:=[(mkH [])]) (fi:=41) (args:=[.str m,n39 a]) (v := .bool g) Kr Kr Kr (qI5 k m a g D) Kr (oDr 3 19 N (oDe (λz=>[(28,.bool z),(27,.bool z),(26,.bool z),(25,.bool g),(24,n39 a),(23,.vptr [.i a.f0,.str a.f1,.i a.f2]),(22,.i (fW .i64 (c - 1))),(21,.i c),(20,w39 j),(19,.str m),(18,.bool false),(17,.bool false),(16,.bool false),(15,.i (j.length:Int)),(14,w39 j),(13,.i c),(12,.bool false),(11,.bool false),(10,.i c),(6,.i 0),(0,.str m),(1,w39 j),(2,.i c)]) T (oDr 3 22 B (qAa (l':=(opsAt g35p1).toList.drop 23) (eE:=((32,.vptr [.i b.f0,.str b.f1,.i b.f2])::B)) (hs:=[]) (x:=b) (λ(b:S38)=>(.vptr [.i b.f0,.str b.f1,.i b.f2],(mkH []))) (vidxH (sz:=3) qAn Kr) G Kr (oDr 1 24 ((33,n39 b)::(32,.vptr [.i b.f0,.str b.f1,.i b.f2])::B) (qAs (l':=(opsAt g35p1).toList.drop 25) (eE:=((34,.bool n)::(33,n39 b)::(32,.vptr [.i b.f0,.str b.f1,.i b.f2])::B)) (hs:=[(mkH [])]) (fi:=41) (args:=[.str m,n39 b]) (v := .bool n) Kr Kr Kr (qI5 k m b n J) Kr (oDr 3 28 Z (oDe (λz=>[(37,.bool z),(36,.bool z),(35,.bool z),(34,.bool n),(33,n39 b),(32,.vptr [.i b.f0,.str b.f1,.i b.f2]),(31,.i c),(30,w39 j),(29,.str m),(28,.bool false),(27,.bool false),(26,.bool false),(25,.bool g),(24,n39 a),(23,.vptr [.i a.f0,.str a.f1,.i a.f2]),(22,.i (fW .i64 (c - 1))),(21,.i c),(20,w39 j),(19,.str m),(18,.bool false),(17,.bool false),(16,.bool false),(15,.i (j.length:Int)),(14,w39 j),(13,.i c),(12,.bool false),(11,.bool false),(10,.i c),(6,.i 0),(0,.str m),(1,w39 j),(2,.i c)]) Y (oDr 3 31 O (qAa (l':=(opsAt g35p1).toList.drop 32) (eE:=((41,.vptr [.i l.f0,.str l.f1,.i l.f2])::O)) (hs:=[]) (x:=l) (λ(l:S38)=>(.vptr [.i l.f0,.str l.f1,.i l.f2],(mkH []))) (vidxH (sz:=3) qAn Kr) U Kr (oDr 1 33 ((42,n39 l)::(41,.vptr [.i l.f0,.str l.f1,.i l.f2])::O) (qAs (l':=(opsAt g35p1).toList.drop 34) (eE:=((43,.i u)::(42,n39 l)::(41,.vptr [.i l.f0,.str l.f1,.i l.f2])::O)) (hs:=[(mkH [])]) (fi:=36) (args:=[n39 l]) (v := .i u) Kr Kr Kr (qPp k l u V) Kr (oDr 2 36 a3 (qAa (l':=(opsAt g35p1).toList.drop 37) (eE:=((46,.vptr [.i o.f0,.str o.f1,.i o.f2])::a3)) (hs:=[]) (x:=o) (λ(o:S38)=>(.vptr [.i o.f0,.str o.f1,.i o.f2],(mkH []))) (vidxH (sz:=3) qAn Kr) W Kr (oDr 4 41 a8 .nil))))))))))))))))))))))) ?_
      refine oK [0,1,2,50] [(0,.str m),(1,w39 j),(2,.i c),(50,.bool (decide (o.f2 < u)))] ?_
      exact L (decide (o.f2 < u))
def Xg26:Fx Bool:=⟨Try.prog,cx,Try.f26,λr => .bool r,0,λ_=>H0,cxTi,cxOrd,λ_=>none,false⟩
def g26p1:Pt:=nav [0,0,0] (nav [0] (bodyAt Try.f26))
def g26 (k:Nat) (b:LN) (c:List S38) (g:Int):Option Bool :=
 (g35 k b c g).bind λa=>some (decide (1 < a))
theorem g26_ok (k:Nat) (a:LN) (b:List S38) (c:Int) (r:Bool) (h:g26 k a b c=some r):PureOk Try.prog 26 [.str a,w39 b,.i c] (.bool r):=by
 refine qA6 Xg26 (λ_=>⟨rfl,rfl⟩) Try.func26 (by decide +kernel) Kr (t:=g26 k a b c) ?_ h
 unfold g26
 refine qA (eE:=[(0,.str a),(1,w39 b),(2,.i c)]) Kr ?_
 refine oH 9 (atN 3 (ctl1 g26p1)) [(9,.i c),(8,w39 b),(7,.str a),(6,.bool false),(0,.str a),(1,w39 b),(2,.i c)] (mkH []) ?_
 refine oA (λ(g:Int) => .i g) (atN 4 (ctl1 g26p1)) 10 [.str a,w39 b,.i c] (g35_ok k a b c) λg j=>?_
 exact oQ 4
abbrev Ti0:Type:=Int→Int→Bool→LN→(List S38)→(List S48)→Option (List S48)
def Xi0 (c:Int) (g:Int) (h:Bool) (a:LN) (b:List S38) (j:List S48):Fx (List S48):=⟨Try.prog,cx,Try.f25,λr => .tuple [],4,λr=>(mkH [⟨[.str a],1,false⟩,⟨[w39 b],1,false⟩,⟨[.own 3 (r).length 4],1,false⟩,⟨(r).flatMap e49,0,false⟩]),cxTi,cxOrd,λ_=>none,false⟩
def Pi0 (f:Ti0):Prop := ∀ b c g h j a,PNh (Xi0 b c g h j a) 25 [.i b,.i c,.bool g,.ptr 2 1 0,.ptr 0 1 0,.ptr 1 1 0] (mkH [⟨[.str h],1,false⟩,⟨[w39 j],1,false⟩,⟨[.own 3 (a).length 4],1,false⟩,⟨(a).flatMap e49,0,false⟩]) (f b c g h j a)
def i0p0:Pt:=nav [] (bodyAt Try.f25)
def i0d0:DP:=⟨[18],[(0,0,1),(0,0,0),(0,0,0),(0,0,0),(0,0,0),(0,0,0),(0,0,0),(112,0,0),(254,0,0),(510,0,0),(1023,0,0),(2047,0,0)],12,thrown,[],H0⟩
def i0 (k:Nat) (c:Int) (g:Int) (h:Bool) (j:LN) (l:List S38) (m:List S48):Option (List S48) :=
 (g26 k j l c).bind λb=>(appS 24 m ([(⟨c,g,h,b⟩:S48)]:List S48)).bind λa=>some a
theorem i0_all (k:Nat):∀ c g j l m n r,i0 k c g j l m n=some r→CallT Try.prog 25 [.i c,.i g,.bool j,.ptr 2 1 0,.ptr 0 1 0,.ptr 1 1 0] (mkH [⟨[.str l],1,false⟩,⟨[w39 m],1,false⟩,⟨[.own 3 (n).length 4],1,false⟩,⟨(n).flatMap e49,0,false⟩]) ((Xi0 c g j l m n).thr r) ((Xi0 c g j l m n).enc r) ((Xi0 c g j l m n).fin r):=by
 intro c g j l m n r h
 refine qA1 (Xi0 c g j l m n) Try.func25 Kr Kr rfl (t:=i0 k c g j l m n) ?_ h
 unfold i0
 refine qA (eE:=[(0,.i c),(1,.i g),(2,.bool j),(3,.ptr 2 1 0),(4,.ptr 0 1 0),(5,.ptr 1 1 0)]) Kr ?_
 refine qA7 (λb q=>?_)
 refine qA7 (λa o=>?_)
 let u:Env:=[(15,.i c),(14,w39 m),(13,.str l),(12,.bool j),(11,.i g),(10,.i c),(9,.own 3 (n).length 4),(0,.i c),(1,.i g),(2,.bool j),(3,.ptr 2 1 0),(4,.ptr 0 1 0),(5,.ptr 1 1 0)]
 let A:Blk:=⟨[.own 3 (n).length 4],1,false⟩
 let B:List Blk:=[⟨[.str l],1,false⟩,⟨[w39 m],1,false⟩,A,⟨(n).flatMap e49,0,false⟩]
 refine oD (H':=(mkH [⟨[.str l],1,false⟩,⟨[w39 m],1,false⟩,⟨[.own 3 (a).length 4],1,false⟩,⟨(a).flatMap e49,0,false⟩])) (nav [0] i0p0) ((19,.own 3 (a).length 4)::(18,w49 ([(⟨c,g,j,b⟩:S48)]:List S48))::(17,.agg [.i c,.i g,.bool j,.bool b])::(16,.bool b)::u) [(mkH B),(mkH [⟨[.str l],1,false⟩,⟨[w39 m],1,false⟩,A,⟨(a).flatMap e49,0,false⟩]),(mkH [⟨[.str l],1,false⟩,⟨[w39 m],1,false⟩,⟨[.own 3 (a).length 4],1,false⟩,⟨(a).flatMap e49,0,false⟩])] i0d0 (oDr 7 7 u (qAs (l':=(opsAt i0p0).toList.drop 8) (eE:=((16,.bool b)::u)) (hs:=[(mkH B)]) (fi:=26) (args:=[.str l,w39 m,.i c]) (v := .bool b) Kr Kr Kr (g26_ok k l m c b q) Kr (oDr 2 10 ((18,w49 ([(⟨c,g,j,b⟩:S48)]:List S48))::(17,.agg [.i c,.i g,.bool j,.bool b])::(16,.bool b)::u) (qAa (l':=(opsAt i0p0).toList.drop 11) (eE:=((19,.own 3 (a).length 4)::(18,w49 ([(⟨c,g,j,b⟩:S48)]:List S48))::(17,.agg [.i c,.i g,.bool j,.bool b])::(16,.bool b)::u)) (hs:=[(mkH [⟨[.str l],1,false⟩,⟨[w39 m],1,false⟩,A,⟨(a).flatMap e49,0,false⟩])]) (x:=a) (λ(a:List S48)=>(.own 3 (a).length 4,(mkH [⟨[.str l],1,false⟩,⟨[w39 m],1,false⟩,A,⟨(a).flatMap e49,0,false⟩]))) (appHV (sz:=4) qHa rfl e49_one B 3 24 n ([(⟨c,g,j,b⟩:S48)]:List S48) rfl rfl Kr) o Kr (oDh 1 12 ((19,.own 3 (a).length 4)::(18,w49 ([(⟨c,g,j,b⟩:S48)]:List S48))::(17,.agg [.i c,.i g,.bool j,.bool b])::(16,.bool b)::u) (mkH [⟨[.str l],1,false⟩,⟨[w39 m],1,false⟩,⟨[.own 3 (a).length 4],1,false⟩,⟨(a).flatMap e49,0,false⟩]) [(mkH [⟨[.str l],1,false⟩,⟨[w39 m],1,false⟩,⟨[.own 3 (a).length 4],1,false⟩,⟨(a).flatMap e49,0,false⟩])] .nil))))) ?_
 exact oF 4 [0,0,0,1] [] (.tuple []) .ps ⟨u49 _,trivial⟩
theorem i0_ok (k:Nat):Pi0 (i0 k):=λa b c g j l=>λx h=>i0_all k a b c g j l x h
def Xg13:Fx (List S48):=⟨Try.prog,cx,Try.f13,λr=>w49 r,0,λ_=>H0,cxTi,cxOrd,λ_=>none,false⟩
def g13p1:Pt:=nav [0,0,0] (nav [0] (bodyAt Try.f13))
def g13p4:Pt:=nav [0,0,0,0] (nav [0,0,0,0] (nav [0,0,0] g13p1))
def g13p6:Pt:=nav [0,0] (nav [0,0,0] g13p4)
def g13p7:Pt:=nav [1,0,0,0,0] g13p6
def g13p9:Pt:=nav [0,0] g13p7
def g13p11:Pt:=nav [1,0] g13p9
def g13p14:Pt:=nav [0,0,0,0,0] (nav [2,0,0] g13p9)
def g13p16:Pt:=nav [0,0] (nav [0,0,0] g13p14)
def g13p17:Pt:=nav [1,0,0,0,0,0] g13p16
def g13p18:Pt:=nav [2,0,0] g13p16
def g13p19:Pt:=nav [0,0] g13p17
def g13p22:Pt:=nav [2,0,0] g13p19
def qJw (k:Nat) (x:Int→(List S48)→Option (List S48)) (A:LN) (n:List S38) (q:Int) (ih:Int→Int→Int→(List S48)→Option (List S48)):Int→Int→Int→(List S48)→Option (List S48) :=
 λ(a:Int) (g:Int) (b:Int) (c:List S48)=>jn (λ(o:Int×Int×(List S48))=>(i0 k o.2.1 o.1 false A n o.2.2).bind λj=>x o.1 j) (λr=>if (decide (a < (n.length:Int))) then ((nthL n a).bind λl=>jn (λ(h:Int×Int×Int×(List S48))=>(nthL n h.2.1).bind λm=>if (decide (m.f0=10)) then (r (h.1,h.2.2.1,h.2.2.2)) else (ih (fW .i64 (h.2.1+1)) h.1 h.2.2.1 h.2.2.2)) (λu=>if (!decide (l.f0=11)) then (u (fW .i64 (a+1),a,b,c)) else (u (g,a,b,c)))) else (r (g,b,c)))
def qQ2 (k:Nat) (b:Int→(List S48)→Option (List S48)) (c:LN) (g:List S38) (a:Int) (n:Nat):Int→Int→Int→(List S48)→Option (List S48):=lp (λ_ _ _ _=>none) (qJw k b c g a) n
theorem qQ1 (k:Nat)  (G:Int→(List S48)→Option (List S48)) (u:LN) (o:List S38) (l:Int) (J:∀ (l:Int) (x:List S48),Ok Xg13 g13p4 [(3,.ptr 1 1 0),(5,.ptr 2 1 0),(6,.func 25 [] [.ptr 2 1 0,.ptr 0 1 0,.ptr 1 1 0]),(7,.i l)] (mkH [⟨[.str u],1,false⟩,⟨[w39 o],1,false⟩,⟨[.own 3 (x).length 4],1,false⟩,⟨(x).flatMap e49,0,false⟩]) (G l x)):∀ (n:Nat) (a:Int) (g:Int) (b:Int) (h:List S48),Ok Xg13 g13p14 [(3,.ptr 1 1 0),(5,.ptr 2 1 0),(6,.func 25 [] [.ptr 2 1 0,.ptr 0 1 0,.ptr 1 1 0]),(7,.i b),(8,.i g),(9,.i a)] (mkH [⟨[.str u],1,false⟩,⟨[w39 o],1,false⟩,⟨[.own 3 (h).length 4],1,false⟩,⟨(h).flatMap e49,0,false⟩]) (qQ2 k G u o l n a g b h):=by
 intro n
 induction n with
 | zero=>intro a g b h; exact ok_none
 | succ n ih =>
  intro a g b h
  show Ok _ _ _ _ (qJw k G u o l (qQ2 k G u o l n) a g b h)
  unfold qJw
  refine qAk (p':=nav [0] g13p14) Kr ?_
  let K:Env:=[(34,.bool (decide (a < (o.length:Int)))),(33,.i (o.length:Int)),(32,w39 o),(31,.i a),(3,.ptr 1 1 0),(5,.ptr 2 1 0),(6,.func 25 [] [.ptr 2 1 0,.ptr 0 1 0,.ptr 1 1 0]),(7,.i b),(8,.i g),(9,.i a)]
  let A:List Blk:=[⟨[.str u],1,false⟩,⟨[w39 o],1,false⟩,⟨[.own 3 (h).length 4],1,false⟩,⟨(h).flatMap e49,0,false⟩]
  refine oH 8 g13p16 K (mkH A) ?_
  refine oJ g13p18 (λ(m:Int×Int×(List S48))=>[(3,.ptr 1 1 0),(5,.ptr 2 1 0),(6,.func 25 [] [.ptr 2 1 0,.ptr 0 1 0,.ptr 1 1 0]),(7,.i m.2.1),(8,.i m.1)]) (λ(m:Int×Int×(List S48))=>(mkH [⟨[.str u],1,false⟩,⟨[w39 o],1,false⟩,⟨[.own 3 (m.2.2).length 4],1,false⟩,⟨(m.2.2).flatMap e49,0,false⟩])) (λm=>?_) (λS B=>?_)
  ·refine oH 4 (atN 3 (ctl1 g13p18)) [(53,.i m.1),(52,.i m.2.1),(51,.func 25 [] [.ptr 2 1 0,.ptr 0 1 0,.ptr 1 1 0]),(3,.ptr 1 1 0),(5,.ptr 2 1 0),(6,.func 25 [] [.ptr 2 1 0,.ptr 0 1 0,.ptr 1 1 0]),(7,.i m.2.1),(8,.i m.1)] (mkH [⟨[.str u],1,false⟩,⟨[w39 o],1,false⟩,⟨[.own 3 (m.2.2).length 4],1,false⟩,⟨(m.2.2).flatMap e49,0,false⟩]) ?_
   refine oN (λ(q:List S48) => .tuple []) (λq=>[⟨[.str u],1,false⟩,⟨[w39 o],1,false⟩,⟨[.own 3 (q).length 4],1,false⟩,⟨(q).flatMap e49,0,false⟩]) (atN 4 (ctl1 g13p18)) 54 [0,1,2,3] [0,0,0,1] [0,0,0,1] [.i m.2.1,.i m.1,.bool false,.ptr 2 1 0,.ptr 0 1 0,.ptr 1 1 0] (i0_ok k m.2.1 m.1 false u o m.2.2) ⟨u49 _,trivial⟩ (λ_=>⟨u49 _,trivial⟩) λq L=>?_
   refine oL 5 g13p4 [(3,.ptr 1 1 0),(5,.ptr 2 1 0),(6,.func 25 [] [.ptr 2 1 0,.ptr 0 1 0,.ptr 1 1 0]),(7,.i m.1)] ?_
   exact J m.1 q
  ·refine oS 34 (λC=>?_) (λC=>?_)
   ·refine oH 9 (atN 2 (ctl1 g13p17)) ((38,.i a)::(37,w39 o)::(34,.bool true)::K) (mkH A) ?_
    refine oC (λ(r:S38)=>(.vptr [.i r.f0,.str r.f1,.i r.f2],(mkH A))) (atN 3 (ctl1 g13p17)) 39 (vidxH (sz:=3) qAn Kr) λr M=>?_
    let D:Env:=[(3,.ptr 1 1 0),(5,.ptr 2 1 0),(6,.func 25 [] [.ptr 2 1 0,.ptr 0 1 0,.ptr 1 1 0]),(7,.i b),(8,.i g),(9,.i a),(42,.bool (!decide (r.f0=11)))]
    refine oLH 4 g13p19 D (mkH A) ?_
    refine oJ g13p22 (λ(j:Int×Int×Int×(List S48))=>[(3,.ptr 1 1 0),(5,.ptr 2 1 0),(6,.func 25 [] [.ptr 2 1 0,.ptr 0 1 0,.ptr 1 1 0]),(7,.i j.2.2.1),(8,.i j.1),(9,.i j.2.1)]) (λ(j:Int×Int×Int×(List S48))=>(mkH [⟨[.str u],1,false⟩,⟨[w39 o],1,false⟩,⟨[.own 3 (j.2.2.2).length 4],1,false⟩,⟨(j.2.2.2).flatMap e49,0,false⟩])) (λj=>?_) (λT E=>?_)
    ·let F:Env:=[(46,.i j.2.1),(45,w39 o),(3,.ptr 1 1 0),(5,.ptr 2 1 0),(6,.func 25 [] [.ptr 2 1 0,.ptr 0 1 0,.ptr 1 1 0]),(7,.i j.2.2.1),(8,.i j.1),(9,.i j.2.1)]
     let N:List Blk:=[⟨[.str u],1,false⟩,⟨[w39 o],1,false⟩,⟨[.own 3 (j.2.2.2).length 4],1,false⟩,⟨(j.2.2.2).flatMap e49,0,false⟩]
     refine oH 3 (atN 2 (ctl1 g13p22)) F (mkH N) ?_
     refine oC (λ(c:S38)=>(.vptr [.i c.f0,.str c.f1,.i c.f2],(mkH N))) (atN 3 (ctl1 g13p22)) 47 (vidxH (sz:=3) qAn Kr) λc O=>?_
     refine oH 4 (nav [0,0] g13p22) ((50,.bool (decide (c.f0=10)))::(49,.i c.f0)::(48,.vptr [.i c.f0,.str c.f1,.i c.f2])::(47,.vptr [.i c.f0,.str c.f1,.i c.f2])::F) (mkH N) ?_
     refine oS 50 (λC=>?_) (λC=>?_)
     ·refine oL 3 g13p18 [(3,.ptr 1 1 0),(5,.ptr 2 1 0),(6,.func 25 [] [.ptr 2 1 0,.ptr 0 1 0,.ptr 1 1 0]),(7,.i j.2.2.1),(8,.i j.1)] ?_
      exact B (j.1,j.2.2.1,j.2.2.2)
     ·refine oL 7 g13p14 [(3,.ptr 1 1 0),(5,.ptr 2 1 0),(6,.func 25 [] [.ptr 2 1 0,.ptr 0 1 0,.ptr 1 1 0]),(7,.i j.2.2.1),(8,.i j.1),(9,.i (fW .i64 (j.2.1+1)))] ?_
      exact ih (fW .i64 (j.2.1+1)) j.1 j.2.2.1 j.2.2.2
    ·refine oS 42 (λC=>?_) (λC=>?_)
     ·refine oLH 7 g13p22 [(3,.ptr 1 1 0),(5,.ptr 2 1 0),(6,.func 25 [] [.ptr 2 1 0,.ptr 0 1 0,.ptr 1 1 0]),(7,.i b),(8,.i (fW .i64 (a+1))),(9,.i a)] (mkH A) ?_
      exact E (fW .i64 (a+1),a,b,h)
     ·refine oH 3 g13p22 ((42,.bool false)::D) (mkH A) ?_
      refine oK [3,5,6,7,8,9] [(3,.ptr 1 1 0),(5,.ptr 2 1 0),(6,.func 25 [] [.ptr 2 1 0,.ptr 0 1 0,.ptr 1 1 0]),(7,.i b),(8,.i g),(9,.i a)] ?_
      exact E (g,a,b,h)
   ·refine oH 3 g13p18 ((34,.bool false)::K) (mkH A) ?_
    refine oK [3,5,6,7,8] [(3,.ptr 1 1 0),(5,.ptr 2 1 0),(6,.func 25 [] [.ptr 2 1 0,.ptr 0 1 0,.ptr 1 1 0]),(7,.i b),(8,.i g)] ?_
    exact B (g,b,h)
def qJx (k:Nat)  (j:LN) (h:List S38) (ih:Int→(List S48)→Option (List S48)):Int→(List S48)→Option (List S48) :=
 λ(a:Int) (b:List S48)=>if (decide (a < (h.length:Int))) then ((nthL h a).bind λc=>if (decide (c.f0=11)) then ((i0 k a (fW .i64 (a+1)) true j h b).bind λg=>ih (fW .i64 (a+1)) g) else (qQ2 k ih j h a k a (fW .i64 (a+1)) a b)) else (some b)
def qM0 (k:Nat)  (a:LN) (b:List S38) (n:Nat):Int→(List S48)→Option (List S48):=lp (λ_ _=>none) (qJx k a b) n
theorem qQ3 (k:Nat)   (j:LN) (h:List S38)  : ∀ (n:Nat) (a:Int) (b:List S48),Ok Xg13 g13p4 [(3,.ptr 1 1 0),(5,.ptr 2 1 0),(6,.func 25 [] [.ptr 2 1 0,.ptr 0 1 0,.ptr 1 1 0]),(7,.i a)] (mkH [⟨[.str j],1,false⟩,⟨[w39 h],1,false⟩,⟨[.own 3 (b).length 4],1,false⟩,⟨(b).flatMap e49,0,false⟩]) (qM0 k j h n a b):=by
 intro n
 induction n with
 | zero=>intro a b; exact ok_none
 | succ n ih =>
  intro a b
  show Ok _ _ _ _ (qJx k j h (qM0 k j h n) a b)
  unfold qJx
  refine qAk (p':=nav [0] g13p4) Kr ?_
  let l:Env:=[(14,.bool (decide (a < (h.length:Int)))),(13,.i (h.length:Int)),(12,w39 h),(11,.i a),(3,.ptr 1 1 0),(5,.ptr 2 1 0),(6,.func 25 [] [.ptr 2 1 0,.ptr 0 1 0,.ptr 1 1 0]),(7,.i a)]
  let m:List Blk:=[⟨[.str j],1,false⟩,⟨[w39 h],1,false⟩,⟨[.own 3 (b).length 4],1,false⟩,⟨(b).flatMap e49,0,false⟩]
  refine oH 8 g13p6 l (mkH m) ?_
  refine oS 14 (λo=>?_) (λo=>?_)
  ·refine oR 8 (atN 2 (ctl1 g13p7)) ((16,.i a)::(15,w39 h)::(14,.bool true)::l) ?_
   refine oC (λ(c:S38)=>(.vptr [.i c.f0,.str c.f1,.i c.f2],(mkH m))) (atN 3 (ctl1 g13p7)) 17 (vidxH (sz:=3) qAn Kr) λc q=>?_
   let u:Env:=[(3,.ptr 1 1 0),(5,.ptr 2 1 0),(6,.func 25 [] [.ptr 2 1 0,.ptr 0 1 0,.ptr 1 1 0]),(7,.i a),(20,.bool (decide (c.f0=11)))]
   refine oLH 4 g13p9 u (mkH m) ?_
   refine oS 20 (λo=>?_) (λo=>?_)
   ·let x:Env:=((24,.i (fW .i64 (a+1)))::(23,.i a)::(22,.i a)::(21,.func 25 [] [.ptr 2 1 0,.ptr 0 1 0,.ptr 1 1 0])::(20,.bool true)::u)
    refine oR 7 (atN 4 (ctl1 g13p11)) x ?_
    refine oN (λ(g:List S48) => .tuple []) (λg=>[⟨[.str j],1,false⟩,⟨[w39 h],1,false⟩,⟨[.own 3 (g).length 4],1,false⟩,⟨(g).flatMap e49,0,false⟩]) (atN 5 (ctl1 g13p11)) 25 [0,1,2,3] [0,0,0,1] [0,0,0,1] [.i a,.i (fW .i64 (a+1)),.bool true,.ptr 2 1 0,.ptr 0 1 0,.ptr 1 1 0] (i0_ok k a (fW .i64 (a+1)) true j h b) ⟨u49 _,trivial⟩ (λ_=>⟨u49 _,trivial⟩) λg r=>?_
    refine oR 2 (nav [0,0,0] g13p11) ((25,.tuple [])::x) ?_
    refine oK0 [3,5,6,7] ?_
    refine oL 6 g13p4 [(3,.ptr 1 1 0),(5,.ptr 2 1 0),(6,.func 25 [] [.ptr 2 1 0,.ptr 0 1 0,.ptr 1 1 0]),(7,.i (fW .i64 (a+1)))] ?_
    exact ih (fW .i64 (a+1)) g
   ·refine oL 13 g13p14 [(3,.ptr 1 1 0),(5,.ptr 2 1 0),(6,.func 25 [] [.ptr 2 1 0,.ptr 0 1 0,.ptr 1 1 0]),(7,.i a),(8,.i (fW .i64 (a+1))),(9,.i a)] ?_
    exact (qQ1 k (qM0 k j h n) j h a ih k) a (fW .i64 (a+1)) a b
  ·refine oR 8 .fin ((4,.own 3 (b).length 4)::(56,.own 3 (b).length 4)::(14,.bool false)::l) ?_
   exact oT [.own 3 (b).length 4] (w49 b) (qAw qHa qQh rfl rfl rfl .ps)
def g13 (k:Nat) (a:LN) (b:List S38):Option (List S48) :=
 qM0 k a b k 0 ([]:List S48)
theorem g13_ok (k:Nat) (a:LN) (b:List S38) (r:List S48) (h:g13 k a b=some r):PureOk Try.prog 13 [.str a,w39 b] (w49 r):=by
 refine qA6 Xg13 (λ_=>⟨rfl,rfl⟩) Try.func13 (by decide +kernel) Kr (t:=g13 k a b) ?_ h
 unfold g13
 refine qA (eE:=[(0,.str a),(1,w39 b)]) Kr ?_
 let j:List Blk:=[⟨[.str a],0,false⟩,⟨[w39 b],0,false⟩,⟨[.nils],0,false⟩]
 refine oH 9 (atN 1 (ctl1 g13p1)) [(5,.ptr 2 1 0),(4,.nils),(3,.ptr 1 1 0),(2,.ptr 0 1 0),(0,.str a),(1,w39 b)] (mkH j) ?_
 refine ok_ownc j 2 0 4 0 [.nils] rfl rfl rfl ?_
 let g:Blk:=⟨[.own 3 (([]:List S48)).length 4],0,false⟩
 let c:Blk:=⟨(([]:List S48)).flatMap e49,0,false⟩
 let l:List Blk:=[⟨[.str a],0,false⟩,⟨[w39 b],0,false⟩,g,c]
 refine oLH 13 g13p4 [(3,.ptr 1 1 0),(5,.ptr 2 1 0),(6,.func 25 [] [.ptr 2 1 0,.ptr 0 1 0,.ptr 1 1 0]),(7,.i 0)] (mkH l) ?_
 refine qEy l 0 [.str a] 0 1 rfl rfl (by decide) ?_
 let m:List Blk:=[⟨[.str a],1,false⟩,⟨[w39 b],0,false⟩,g,c]
 refine oHp (mkH m) ?_
 refine qEy m 1 [w39 b] 0 1 rfl rfl (by decide) ?_
 let n:List Blk:=[⟨[.str a],1,false⟩,⟨[w39 b],1,false⟩,g,c]
 refine oHp (mkH n) ?_
 refine qEy n 2 [.own 3 (([]:List S48)).length 4] 0 1 rfl rfl (by decide) ?_
 refine oHp (mkH [⟨[.str a],1,false⟩,⟨[w39 b],1,false⟩,⟨[.own 3 (([]:List S48)).length 4],1,false⟩,c]) ?_
 exact (qQ3 k a b k) 0 ([]:List S48)
def Xg27:Fx LN:=⟨Try.prog,cx,Try.f27,λr => .str r,0,λ_=>H0,cxTi,cxOrd,λ_=>none,false⟩
def g27p1:Pt:=nav [0,0,0,0] (nav [0] (bodyAt Try.f27))
def g27p2:Pt:=nav [0,0] g27p1
def g27p4:Pt:=nav [2,0,0] g27p2
def g27p6:Pt:=nav [0,0,0] g27p4
def g27p7:Pt:=nav [0,0] g27p6
def g27p9:Pt:=nav [2,0,0] g27p7
def g27d0:DP:=⟨[],[(0,0,0),(0,0,0),(2,0,1),(7,0,0),(15,0,0),(31,0,1),(0,0,0),(0,0,0),(128,0,0),(384,0,0),(960,0,0),(1984,0,0),(4032,0,0),(8191,0,0),(16383,0,0)],15,thrown,[],H0⟩
def g27 (k:Nat) (n:LN) (j:List S38) (g:S48):Option LN :=
 jn (λ(o:Bool)=>if o then (some ([]:LN)) else ((nthL j g.f0).bind λb=>(nthL j (fW .i64 (g.f1 - 1))).bind λc=>(g36 k c).bind λa=>jn (λ(q:Bool)=>if q then (some ([]:LN)) else ((subL n (some b.f2) (some a)).bind λh=>some h)) (λl=>if (decide (b.f2 < 0)) then (l true) else (if (decide ((n.length:Int) < a)) then (l true) else (l (decide (a < b.f2))))))) (λm=>if (decide (g.f0 < 0)) then (m true) else (if (decide ((j.length:Int) < g.f1)) then (m true) else (m (decide (g.f1≤g.f0)))))
theorem g27_ok (k:Nat) (j:LN) (l:List S38) (g:S48) (r:LN) (h:g27 k j l g=some r):PureOk Try.prog 27 [.str j,w39 l,.agg [.i g.f0,.i g.f1,.bool g.f2,.bool g.f3]] (.str r):=by
 refine qA6 Xg27 (λ_=>⟨rfl,rfl⟩) Try.func27 (by decide +kernel) Kr (t:=g27 k j l g) ?_ h
 unfold g27
 refine qA (eE:=[(0,.str j),(1,w39 l),(2,.agg [.i g.f0,.i g.f1,.bool g.f2,.bool g.f3])]) Kr ?_
 let K:Env:=[(12,.bool (decide (g.f0 < 0))),(11,.bool (decide (g.f0 < 0))),(10,.i g.f0),(9,.ptr 0 4 0),(6,.str []),(5,.ptr 0 4 0),(0,.str j),(1,w39 l),(2,n49 g)]
 refine oH 12 (atN 4 (ctl1 g27p1)) K (mkH [⟨e49 g,0,false⟩]) ?_
 refine oJ g27p2 (λ(C:Bool)=>[(0,.str j),(1,w39 l),(5,.ptr 0 4 0),(25,.bool C)]) (λ(C:Bool)=>(mkH [⟨e49 g,0,false⟩])) (λC=>?_) (λL u=>?_)
 ·refine oS 25 (λm=>?_) (λm=>?_)
  ·exact oQ 6
  ·refine oH 3 g27p4 [(25,.bool false),(0,.str j),(1,w39 l),(5,.ptr 0 4 0),(25,.bool C)] (mkH [⟨e49 g,0,false⟩]) ?_
   refine qA7 (λb A=>?_)
   refine qA7 (λa n=>?_)
   refine qA7 (λc o=>?_)
   let G:Env:=[(28,.i g.f0),(27,.ptr 0 4 0),(26,w39 l),(25,.bool false),(0,.str j),(1,w39 l),(5,.ptr 0 4 0),(25,.bool C)]
   let D:Env:=((35,.i (fW .i64 (g.f1 - 1)))::(34,.i g.f1)::(33,.ptr 0 4 1)::(32,w39 l)::(31,.i b.f2)::(30,.vptr [.i b.f2])::(29,.vptr [.i b.f0,.str b.f1,.i b.f2])::G)
   let E:Env:=((8,.i c)::(7,.i b.f2)::(38,.i c)::(37,n39 a)::(36,.vptr [.i a.f0,.str a.f1,.i a.f2])::D)
   refine oD (H':=(mkH [⟨e49 g,0,false⟩])) (nav [0] g27p4) E [(mkH [⟨e49 g,0,false⟩])] g27d0 (oDr 3 3 G (qAa (l':=(opsAt g27p4).toList.drop 4) (eE:=((29,.vptr [.i b.f0,.str b.f1,.i b.f2])::G)) (hs:=[]) (x:=b) (λ(b:S38)=>(.vptr [.i b.f0,.str b.f1,.i b.f2],(mkH [⟨e49 g,0,false⟩]))) (vidxH (sz:=3) qAn Kr) A Kr (oDr 6 10 D (qAa (l':=(opsAt g27p4).toList.drop 11) (eE:=((36,.vptr [.i a.f0,.str a.f1,.i a.f2])::D)) (hs:=[]) (x:=a) (λ(a:S38)=>(.vptr [.i a.f0,.str a.f1,.i a.f2],(mkH [⟨e49 g,0,false⟩]))) (vidxH (sz:=3) qAn Kr) n Kr (oDr 1 12 ((37,n39 a)::(36,.vptr [.i a.f0,.str a.f1,.i a.f2])::D) (qAs (l':=(opsAt g27p4).toList.drop 13) (eE:=((38,.i c)::(37,n39 a)::(36,.vptr [.i a.f0,.str a.f1,.i a.f2])::D)) (hs:=[(mkH [⟨e49 g,0,false⟩])]) (fi:=36) (args:=[n39 a]) (v := .i c) Kr Kr Kr (qPp k a c o) Kr (oDr 2 15 E .nil))))))) ?_
   refine oR 6 (atN 3 (ctl1 g27p6)) ((41,.bool (decide (b.f2 < 0)))::(40,.bool (decide (b.f2 < 0)))::(39,.i b.f2)::E) ?_
   refine oJ g27p7 (λ(F:Bool)=>[(0,.str j),(7,.i b.f2),(8,.i c),(51,.bool F)]) (λ(F:Bool)=>(mkH [])) (λF=>?_) (λM B=>?_)
   ·refine oS 51 (λm=>?_) (λm=>?_)
    ·exact oQ 6
    ·refine oH 7 (atN 3 (ctl1 g27p9)) [(54,.i c),(53,.i b.f2),(52,.str j),(51,.bool false),(0,.str j),(7,.i b.f2),(8,.i c),(51,.bool F)] (mkH []) ?_
     refine oC (λ(q:LN)=>(.str q,(mkH []))) (atN 4 (ctl1 g27p9)) 55 (subH (some b.f2) (some c) Kr) λq J=>?_
     exact oQ 3
   ·refine oS 41 (λm=>?_) (λm=>?_)
    ·refine oLH 11 g27p7 [(0,.str j),(7,.i b.f2),(8,.i c),(51,.bool true)] (mkH [⟨e49 g,0,false⟩]) ?_
     refine qA9 [] [⟨e49 g,0,false⟩] Kr rfl Kr trivial ?_
     exact B true
    ·refine oH 6 (atN 9 (ctl1 g27p6)) ((47,.bool (decide ((j.length:Int) < c)))::(46,.bool (decide ((j.length:Int) < c)))::(45,.bool (decide ((j.length:Int) < c)))::(44,.i (j.length:Int))::(43,.str j)::(42,.i c)::(41,.bool false)::(41,.bool (decide (b.f2 < 0)))::(40,.bool (decide (b.f2 < 0)))::(39,.i b.f2)::E) (mkH [⟨e49 g,0,false⟩]) ?_
     refine oS 47 (λm=>?_) (λm=>?_)
     ·refine oL 5 g27p7 [(0,.str j),(7,.i b.f2),(8,.i c),(51,.bool true)] ?_
      refine qA9 [] [⟨e49 g,0,false⟩] Kr rfl Kr trivial ?_
      exact B true
     ·refine oL 5 g27p7 [(0,.str j),(7,.i b.f2),(8,.i c),(51,.bool (decide (c < b.f2)))] ?_
      refine qA9 [] [⟨e49 g,0,false⟩] Kr rfl Kr trivial ?_
      exact B (decide (c < b.f2))
 ·refine oS 12 (λm=>?_) (λm=>?_)
  ·refine oLH 14 g27p2 [(0,.str j),(1,w39 l),(5,.ptr 0 4 0),(25,.bool true)] (mkH [⟨e49 g,0,false⟩]) ?_
   exact u true
  ·refine oH 7 (atN 11 (ctl1 g27p1)) ((19,.bool (decide ((l.length:Int) < g.f1)))::(18,.bool (decide ((l.length:Int) < g.f1)))::(17,.bool (decide ((l.length:Int) < g.f1)))::(16,.i (l.length:Int))::(15,w39 l)::(14,.i g.f1)::(13,.ptr 0 4 1)::(12,.bool false)::K) (mkH [⟨e49 g,0,false⟩]) ?_
   refine oS 19 (λm=>?_) (λm=>?_)
   ·refine oL 7 g27p2 [(0,.str j),(1,w39 l),(5,.ptr 0 4 0),(25,.bool true)] ?_
    exact u true
   ·refine oL 7 g27p2 [(0,.str j),(1,w39 l),(5,.ptr 0 4 0),(25,.bool (decide (g.f1≤g.f0)))] ?_
    exact u (decide (g.f1≤g.f0))
def Xg43:Fx Bool:=⟨Try.prog,cx,Try.f43,λr => .bool r,0,λ_=>H0,cxTi,cxOrd,λ_=>none,false⟩
def g43 (k:Nat) (a:S38):Option Bool :=
 if (decide (a.f0=9)) then (some (eqL a.f1 [45])) else (some false)
end
end Go.Proofs.Ytjmmjhojbodbdaa.Am
