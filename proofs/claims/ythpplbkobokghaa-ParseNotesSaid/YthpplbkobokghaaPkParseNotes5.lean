/- LawParseNotes, part 5: whatever the input, the law comes out true: our texts, joined by a tool, without what the claim does not name. -/
import Derived.Test.YthpplbkobokghaaPkParseNotes4
set_option maxRecDepth 100000
set_option linter.unusedVariables false
set_option linter.unusedSimpArgs false
set_option maxRecDepth 100000
set_option linter.unusedVariables false
namespace Go.Proofs.Ythpplbkobokghaa.Am
noncomputable section
open Go
def g61 (k:Nat) (a0:LN) (c:Int):Option Int :=
 (g73 k a0 c (10:Int) true).bind λa=>jn (λ(J:Bool)=>if J then (some (0:Int)) else ((g73 k a0 (fW .i64 (fW .i64 (c+a)+1)) (10:Int) true).bind λb=>if (decide (b=0)) then (some (0:Int)) else (jn (λ(K:Bool)=>jn (λ(M:Int)=>some (fW .i64 (M - c))) (λz=>if K then (jn (λ(N:Bool)=>jn (λ(o:Int)=>(g73 k a0 o (10:Int) true).bind λg=>if (decide (0 < g)) then (z (fW .i64 (o+g))) else (z (fW .i64 (fW .i64 (fW .i64 (c+a)+1)+b)))) (λq=>if N then (q (fW .i64 (fW .i64 (fW .i64 (fW .i64 (fW .i64 (c+a)+1)+b)+1)+1))) else (q (fW .i64 (fW .i64 (fW .i64 (fW .i64 (c+a)+1)+b)+1))))) (λD=>if (decide (fW .i64 (fW .i64 (fW .i64 (fW .i64 (c+a)+1)+b)+1) < (a0.length:Int))) then ((nthS a0 (fW .i64 (fW .i64 (fW .i64 (fW .i64 (c+a)+1)+b)+1))).bind λu=>if (decide (u=43)) then (D true) else ((nthS a0 (fW .i64 (fW .i64 (fW .i64 (fW .i64 (c+a)+1)+b)+1))).bind λh=>D (decide (h=45)))) else (D false))) else (z (fW .i64 (fW .i64 (fW .i64 (c+a)+1)+b))))) (λE=>if (decide (fW .i64 (fW .i64 (fW .i64 (c+a)+1)+b) < (a0.length:Int))) then ((nthS a0 (fW .i64 (fW .i64 (fW .i64 (c+a)+1)+b))).bind λx=>if (decide (x=101)) then (E true) else ((nthS a0 (fW .i64 (fW .i64 (fW .i64 (c+a)+1)+b))).bind λj=>E (decide (j=69)))) else (E false))))) (λI=>if (decide (fW .i64 (c+a)=c)) then (I true) else (if (decide ((a0.length:Int)≤fW .i64 (c+a))) then (I true) else ((nthS a0 (fW .i64 (c+a))).bind λn=>I (!decide (n=46)))))
theorem g61_ok (k:Nat) (a0:LN) (c:Int) (r:Int) (h:g61 k a0 c=some r):PureOk Try.prog 61 [.str a0,.i c] (.i r):=by
 refine qA4 Xg61 (λ_=>⟨rfl,rfl⟩) Try.func61 (by decide +kernel) Kr (t:=g61 k a0 c) ?_ h
 unfold g61
 refine qA (eE:=[(0,.str a0),(1,.i c)]) Kr ?_
 let E1:Env:=[(11,.i c),(10,.str a0),(9,.i c),(4,.i 0),(0,.str a0),(1,.i c)]
 refine oH 9 (atN 3 (ctl1 g61p1)) E1 (mkH []) ?_
 refine oA (λ(a:Int) => .i a) (atN 4 (ctl1 g61p1)) 12 [.str a0,.i c,.i 10,.bool true] (qHc k a0 c (10:Int) true) λa a3=>?_
 let E2:Env:=((17,.bool (decide (fW .i64 (c+a)=c)))::(16,.bool (decide (fW .i64 (c+a)=c)))::(15,.i c)::(14,.i (fW .i64 (c+a)))::(5,.i (fW .i64 (c+a)))::(13,.i (fW .i64 (c+a)))::(12,.i a)::E1)
 refine oR 10 (atN 4 (ctl1 g61p2)) E2 ?_
 refine oJ g61p3 (λ(T:Bool)=>[(0,.str a0),(1,.i c),(5,.i (fW .i64 (c+a))),(28,.bool T)]) (λ(T:Bool)=>(mkH [])) (λT=>?_) (λj6 E=>?_)
 ·refine oS 28 (λj=>?_) (λj=>?_)
  ·exact oQ 6
  ·refine oH 7 (atN 3 (ctl1 g61p5)) [(31,.i (fW .i64 (fW .i64 (c+a)+1))),(30,.i (fW .i64 (c+a))),(29,.str a0),(28,.bool false),(0,.str a0),(1,.i c),(5,.i (fW .i64 (c+a))),(28,.bool T)] (mkH []) ?_
   refine oA (λ(b:Int) => .i b) (atN 4 (ctl1 g61p5)) 32 [.str a0,.i (fW .i64 (fW .i64 (c+a)+1)),.i 10,.bool true] (qHc k a0 (fW .i64 (fW .i64 (c+a)+1)) (10:Int) true) λb a4=>?_
   refine oL 8 g61p8 [(0,.str a0),(1,.i c),(5,.i (fW .i64 (c+a))),(6,.i b),(34,.bool (decide (b=0)))] ?_
   refine oS 34 (λj=>?_) (λj=>?_)
   ·exact oQ 6
   ·let E7:Env:=[(0,.str a0),(1,.i c),(5,.i (fW .i64 (fW .i64 (fW .i64 (c+a)+1)+b)))]
    refine oL 12 g61p11 E7 ?_
    let E8:Env:=((43,.bool (decide (fW .i64 (fW .i64 (fW .i64 (c+a)+1)+b) < (a0.length:Int))))::(42,.bool (decide (fW .i64 (fW .i64 (fW .i64 (c+a)+1)+b) < (a0.length:Int))))::(41,.i (a0.length:Int))::(40,.str a0)::(39,.i (fW .i64 (fW .i64 (fW .i64 (c+a)+1)+b)))::E7)
    refine oR 6 (atN 5 (ctl1 g61p11)) E8 ?_
    refine oJ g61p12 (λ(U:Bool)=>[(0,.str a0),(1,.i c),(5,.i (fW .i64 (fW .i64 (fW .i64 (c+a)+1)+b))),(54,.bool U)]) (λ(U:Bool)=>(mkH [])) (λU=>?_) (λj7 I=>?_)
    ·refine oJ g61p14 (λ(z9:Int)=>[(1,.i c),(5,.i z9)]) (λ(z9:Int)=>(mkH [])) (λz9=>?_) (λj9 J=>?_)
     ·exact oQ 7
     ·refine oS 54 (λj=>?_) (λj=>?_)
      ·let K:Env:=[(61,.bool (decide (fW .i64 (fW .i64 (fW .i64 (fW .i64 (c+a)+1)+b)+1) < (a0.length:Int)))),(60,.bool (decide (fW .i64 (fW .i64 (fW .i64 (fW .i64 (c+a)+1)+b)+1) < (a0.length:Int)))),(59,.i (a0.length:Int)),(58,.str a0),(57,.i (fW .i64 (fW .i64 (fW .i64 (fW .i64 (c+a)+1)+b)+1))),(7,.i (fW .i64 (fW .i64 (fW .i64 (fW .i64 (c+a)+1)+b)+1))),(56,.i (fW .i64 (fW .i64 (fW .i64 (fW .i64 (c+a)+1)+b)+1))),(55,.i (fW .i64 (fW .i64 (fW .i64 (c+a)+1)+b))),(54,.bool true),(0,.str a0),(1,.i c),(5,.i (fW .i64 (fW .i64 (fW .i64 (c+a)+1)+b))),(54,.bool U)]
       refine oH 15 (atN 5 (ctl1 g61p15)) K (mkH []) ?_
       refine oJ g61p16 (λ(z8:Bool)=>[(0,.str a0),(1,.i c),(5,.i (fW .i64 (fW .i64 (fW .i64 (c+a)+1)+b))),(7,.i (fW .i64 (fW .i64 (fW .i64 (fW .i64 (c+a)+1)+b)+1))),(72,.bool z8)]) (λ(z8:Bool)=>(mkH [])) (λz8=>?_) (λj8 M=>?_)
       ·refine oJ g61p18 (λ(n:Int)=>[(0,.str a0),(1,.i c),(5,.i (fW .i64 (fW .i64 (fW .i64 (c+a)+1)+b))),(7,.i n)]) (λ(n:Int)=>(mkH [])) (λn=>?_) (λb4 D=>?_)
        ·let O:Env:=[(76,.i n),(75,.str a0),(0,.str a0),(1,.i c),(5,.i (fW .i64 (fW .i64 (fW .i64 (c+a)+1)+b))),(7,.i n)]
         refine oH 3 (atN 2 (ctl1 g61p18)) O (mkH []) ?_
         refine oA (λ(g:Int) => .i g) (atN 3 (ctl1 g61p18)) 77 [.str a0,.i n,.i 10,.bool true] (qHc k a0 n (10:Int) true) λg a8=>?_
         refine oR 7 (nav [0,0] (nav [0,0,0] g61p18)) ((79,.bool (decide (0 < g)))::(78,.i g)::(8,.i g)::(77,.i g)::O) ?_
         refine oS 79 (λj=>?_) (λj=>?_)
         ·refine oL 8 g61p14 [(1,.i c),(5,.i (fW .i64 (n+g)))] ?_
          exact J (fW .i64 (n+g))
         ·refine oL 3 g61p14 [(1,.i c),(5,.i (fW .i64 (fW .i64 (fW .i64 (c+a)+1)+b)))] ?_
          exact J (fW .i64 (fW .i64 (fW .i64 (c+a)+1)+b))
        ·refine oS 72 (λj=>?_) (λj=>?_)
         ·refine oLH 7 g61p18 [(0,.str a0),(1,.i c),(5,.i (fW .i64 (fW .i64 (fW .i64 (c+a)+1)+b))),(7,.i (fW .i64 (fW .i64 (fW .i64 (fW .i64 (fW .i64 (c+a)+1)+b)+1)+1)))] (mkH []) ?_
          exact D (fW .i64 (fW .i64 (fW .i64 (fW .i64 (fW .i64 (c+a)+1)+b)+1)+1))
         ·refine oLH 3 g61p18 [(0,.str a0),(1,.i c),(5,.i (fW .i64 (fW .i64 (fW .i64 (c+a)+1)+b))),(7,.i (fW .i64 (fW .i64 (fW .i64 (fW .i64 (c+a)+1)+b)+1)))] (mkH []) ?_
          exact D (fW .i64 (fW .i64 (fW .i64 (fW .i64 (c+a)+1)+b)+1))
       ·refine oS 61 (λj=>?_) (λj=>?_)
        ·refine oH 2 (atN 7 (ctl1 g61p15)) ((63,.i (fW .i64 (fW .i64 (fW .i64 (fW .i64 (c+a)+1)+b)+1)))::(62,.str a0)::(61,.bool true)::K) (mkH []) ?_
         refine oC (λ(x:Int)=>(.y x,(mkH []))) (atN 8 (ctl1 g61p15)) 64 (idxH Kr) λx a9=>?_
         let N:Env:=((66,.bool (decide (x=43)))::(65,.bool (decide (x=43)))::(64,.y x)::(63,.i (fW .i64 (fW .i64 (fW .i64 (fW .i64 (c+a)+1)+b)+1)))::(62,.str a0)::(61,.bool true)::K)
         refine oH 2 (atN 10 (ctl1 g61p15)) N (mkH []) ?_
         refine oS 66 (λj=>?_) (λj=>?_)
         ·refine oR 7 g61p16 ((72,.bool true)::(71,.bool true)::(70,.tuple [])::(69,.tuple [])::(68,.tuple [])::(67,.tuple [])::(66,.bool true)::N) ?_
          refine oK [0,1,5,7,72] [(0,.str a0),(1,.i c),(5,.i (fW .i64 (fW .i64 (fW .i64 (c+a)+1)+b))),(7,.i (fW .i64 (fW .i64 (fW .i64 (fW .i64 (c+a)+1)+b)+1))),(72,.bool true)] ?_
          exact M true
         ·refine oR 2 (atN 12 (ctl1 g61p15)) ((68,.i (fW .i64 (fW .i64 (fW .i64 (fW .i64 (c+a)+1)+b)+1)))::(67,.str a0)::(66,.bool false)::N) ?_
          refine oC (λ(o:Int)=>(.y o,(mkH []))) (atN 13 (ctl1 g61p15)) 69 (idxH Kr) λo Y=>?_
          refine oLH 4 g61p16 [(0,.str a0),(1,.i c),(5,.i (fW .i64 (fW .i64 (fW .i64 (c+a)+1)+b))),(7,.i (fW .i64 (fW .i64 (fW .i64 (fW .i64 (c+a)+1)+b)+1))),(72,.bool (decide (o=45)))] (mkH []) ?_
          exact M (decide (o=45))
        ·refine oLH 12 g61p16 [(0,.str a0),(1,.i c),(5,.i (fW .i64 (fW .i64 (fW .i64 (c+a)+1)+b))),(7,.i (fW .i64 (fW .i64 (fW .i64 (fW .i64 (c+a)+1)+b)+1))),(72,.bool false)] (mkH []) ?_
         exact M false
      ·refine oLH 3 g61p14 [(1,.i c),(5,.i (fW .i64 (fW .i64 (fW .i64 (c+a)+1)+b)))] (mkH []) ?_
       exact J (fW .i64 (fW .i64 (fW .i64 (c+a)+1)+b))
    ·refine oS 43 (λj=>?_) (λj=>?_)
     ·refine oH 2 (atN 7 (ctl1 g61p11)) ((45,.i (fW .i64 (fW .i64 (fW .i64 (c+a)+1)+b)))::(44,.str a0)::(43,.bool true)::E8) (mkH []) ?_
      refine oC (λ(z:Int)=>(.y z,(mkH []))) (atN 8 (ctl1 g61p11)) 46 (idxH Kr) λz b0=>?_
      let Q:Env:=((48,.bool (decide (z=101)))::(47,.bool (decide (z=101)))::(46,.y z)::(45,.i (fW .i64 (fW .i64 (fW .i64 (c+a)+1)+b)))::(44,.str a0)::(43,.bool true)::E8)
      refine oH 2 (atN 10 (ctl1 g61p11)) Q (mkH []) ?_
      refine oS 48 (λj=>?_) (λj=>?_)
      ·refine oL 7 g61p12 [(0,.str a0),(1,.i c),(5,.i (fW .i64 (fW .i64 (fW .i64 (c+a)+1)+b))),(54,.bool true)] ?_
       exact I true
      ·refine oR 2 (atN 12 (ctl1 g61p11)) ((50,.i (fW .i64 (fW .i64 (fW .i64 (c+a)+1)+b)))::(49,.str a0)::(48,.bool false)::Q) ?_
       refine oC (λ(q:Int)=>(.y q,(mkH []))) (atN 13 (ctl1 g61p11)) 51 (idxH Kr) λq Z=>?_
       refine oLH 4 g61p12 [(0,.str a0),(1,.i c),(5,.i (fW .i64 (fW .i64 (fW .i64 (c+a)+1)+b))),(54,.bool (decide (q=69)))] (mkH []) ?_
       exact I (decide (q=69))
     ·refine oLH 12 g61p12 [(0,.str a0),(1,.i c),(5,.i (fW .i64 (fW .i64 (fW .i64 (c+a)+1)+b))),(54,.bool false)] (mkH []) ?_
      exact I false
 ·refine oS 17 (λj=>?_) (λj=>?_)
  ·refine oLH 12 g61p3 [(0,.str a0),(1,.i c),(5,.i (fW .i64 (c+a))),(28,.bool true)] (mkH []) ?_
   exact E true
  ·let S:Env:=((23,.bool (decide ((a0.length:Int)≤fW .i64 (c+a))))::(22,.bool (decide ((a0.length:Int)≤fW .i64 (c+a))))::(21,.bool (decide ((a0.length:Int)≤fW .i64 (c+a))))::(20,.i (a0.length:Int))::(19,.str a0)::(18,.i (fW .i64 (c+a)))::(17,.bool false)::E2)
   refine oH 6 (atN 10 (ctl1 g61p2)) S (mkH []) ?_
   refine oS 23 (λj=>?_) (λj=>?_)
   ·refine oL 6 g61p3 [(0,.str a0),(1,.i c),(5,.i (fW .i64 (c+a))),(28,.bool true)] ?_
    exact E true
   ·refine oR 2 (atN 12 (ctl1 g61p2)) ((25,.i (fW .i64 (c+a)))::(24,.str a0)::(23,.bool false)::S) ?_
    refine oC (λ(u:Int)=>(.y u,(mkH []))) (atN 13 (ctl1 g61p2)) 26 (idxH Kr) λu a2=>?_
    refine oLH 3 g61p3 [(0,.str a0),(1,.i c),(5,.i (fW .i64 (c+a))),(28,.bool (!decide (u=46)))] (mkH []) ?_
    exact E (!decide (u=46))
def Xg62:Fx Int:=⟨Try.prog,cx,Try.f62,λr => .i r,0,λ_=>H0,cxTi,cxOrd,λ_=>none,false⟩
def g62p1:Pt:=nav [0,0,0] (nav [0] (bodyAt Try.f62))
def g62p2:Pt:=nav [0,0,0] g62p1
def g62p3:Pt:=nav [0,0,0,0] g62p2
def g62p4:Pt:=nav [0,0] g62p3
def g62p6:Pt:=nav [2,0,0] g62p4
def g62p9:Pt:=nav [0,0,0,0] (nav [0,0,0,0] (nav [1,0] g62p4))
def g62p11:Pt:=nav [0,0] (nav [0,0,0] g62p9)
def g62p12:Pt:=nav [1,0,0,0] g62p11
def g62p13:Pt:=nav [2,0,0] g62p11
def g62p15:Pt:=nav [0,0,0] g62p13
def g62p16:Pt:=nav [0,0] g62p15
def qKp (k:Nat) (c8:Unit→Option Int) (a0:LN) (n:Int) (o:Int) (b:Int) (ih:Int→Int→Option Int):Int→Int→Option Int :=
 λ(a:Int) (c:Int)=>if (decide (c < fW .i64 (n+b))) then ((nthS a0 c).bind λh=>ih (fW .i64 (fW .i64 (a * 10)+fW .i64 (fW .u8 (h - 48)))) (fW .i64 (c+1))) else ((g73 k a0 (fW .i64 (fW .i64 (n+b)+1)) a true).bind λg=>jn (λ(q:Bool)=>if q then (some (fW .i64 (fW .i64 (b+1)+g))) else (c8 ())) (λj=>if (decide (2≤a)) then (if (decide (a≤36)) then (j (decide (0 < g))) else (j false)) else (j false)))
def qEt (k:Nat) (c8:Unit→Option Int) (a0:LN) (c:Int) (a:Int) (b:Int) (n:Nat):Int→Int→Option Int:=lp (λ_ _=>none) (qKp k c8 a0 c a b) n
theorem qN6 (k:Nat) (c8:Unit→Option Int) (a0:LN) (o:Int) (g:Int) (a:Int) (n:Nat) (b:Int) (c:Int):qEt k c8 a0 o g a (n+1) b c=(if (decide (c < fW .i64 (o+a))) then ((nthS a0 c).bind λj=>(qEt k c8 a0 o g a n) (fW .i64 (fW .i64 (b * 10)+fW .i64 (fW .u8 (j - 48)))) (fW .i64 (c+1))) else ((g73 k a0 (fW .i64 (fW .i64 (o+a)+1)) b true).bind λh=>jn (λ(u:Bool)=>if u then (some (fW .i64 (fW .i64 (a+1)+h))) else (c8 ())) (λq=>if (decide (2≤b)) then (if (decide (b≤36)) then (q (decide (0 < h))) else (q false)) else (q false)))):=rfl
theorem qRj (k:Nat)  (c8:Unit→Option Int) (a0:LN) (o:Int) (g:Int) (b:Int) (D:∀ z:Unit,Ok Xg62 g62p6 ((λ(z:Unit)=>[(5,.i g)]) z) ((λ(z:Unit)=>(mkH [])) z) (c8 z)):∀ (n:Nat) (a:Int) (c:Int),Ok Xg62 g62p9 [(0,.str a0),(1,.i o),(5,.i g),(6,.i b),(7,.i a),(8,.i c)] (mkH []) (qEt k c8 a0 o g b n a c):=by
 intro n
 induction n with
 | zero=>intro a c; exact ok_none
 | succ n ih =>
  intro a c
  show Ok _ _ _ _ (qKp k c8 a0 o g b (qEt k c8 a0 o g b n) a c)
  unfold qKp
  refine qAi (p':=nav [0] g62p9) Kr ?_
  let E:Env:=[(43,.bool (decide (c < fW .i64 (o+b)))),(42,.i (fW .i64 (o+b))),(41,.i b),(40,.i o),(39,.i c),(0,.str a0),(1,.i o),(5,.i g),(6,.i b),(7,.i a),(8,.i c)]
  refine oH 9 g62p11 E (mkH []) ?_
  refine oS 43 (λq=>?_) (λq=>?_)
  ·refine oR 9 (atN 4 (ctl1 g62p12)) ((49,.i c)::(48,.str a0)::(47,.i (fW .i64 (a * 10)))::(46,.i a)::(43,.bool true)::E) ?_
   refine oC (λ(j:Int)=>(.y j,(mkH []))) (atN 5 (ctl1 g62p12)) 50 (idxH Kr) λj I=>?_
   let M:Env:=[(0,.str a0),(1,.i o),(5,.i g),(6,.i b),(7,.i (fW .i64 (fW .i64 (a * 10)+fW .i64 (fW .u8 (j - 48))))),(8,.i c)]
   refine oLH 5 (nav [0,0] g62p12) M (mkH []) ?_
   refine oR 5 g62p9 ((8,.i (fW .i64 (c+1)))::(45,.i (fW .i64 (c+1)))::(44,.i c)::M) ?_
   refine oK [0,1,5,6,7,8] [(0,.str a0),(1,.i o),(5,.i g),(6,.i b),(7,.i (fW .i64 (fW .i64 (a * 10)+fW .i64 (fW .u8 (j - 48))))),(8,.i (fW .i64 (c+1)))] ?_
   exact ih (fW .i64 (fW .i64 (a * 10)+fW .i64 (fW .u8 (j - 48)))) (fW .i64 (c+1))
  ·refine oR 10 (atN 6 (ctl1 g62p13)) ((59,.i a)::(58,.i (fW .i64 (fW .i64 (o+b)+1)))::(57,.i (fW .i64 (o+b)))::(56,.i b)::(55,.i o)::(54,.str a0)::(43,.bool false)::E) ?_
   refine oA (λ(h:Int) => .i h) (atN 7 (ctl1 g62p13)) 60 [.str a0,.i (fW .i64 (fW .i64 (o+b)+1)),.i a,.bool true] (qHc k a0 (fW .i64 (fW .i64 (o+b)+1)) a true) λh J=>?_
   let u:Env:=[(5,.i g),(6,.i b),(7,.i a),(9,.i h)]
   refine oL 3 g62p15 u ?_
   refine oR 4 (atN 3 (ctl1 g62p15)) ((63,.bool (decide (2≤a)))::(62,.bool (decide (2≤a)))::(61,.i a)::u) ?_
   refine oJ g62p16 (λ(K:Bool)=>[(5,.i g),(6,.i b),(9,.i h),(70,.bool K)]) (λ(K:Bool)=>(mkH [])) (λK=>?_) (λN x=>?_)
   ·refine oS 70 (λq=>?_) (λq=>?_)
    ·exact oQ 10
    ·refine oLH 3 g62p6 [(5,.i g)] (mkH []) ?_
     exact D ()
   ·refine oS 63 (λq=>?_) (λq=>?_)
    ·refine oH 4 (atN 7 (ctl1 g62p15)) ((67,.bool (decide (a≤36)))::(66,.bool (decide (a≤36)))::(65,.bool (decide (a≤36)))::(64,.i a)::(63,.bool true)::(63,.bool (decide (2≤a)))::(62,.bool (decide (2≤a)))::(61,.i a)::u) (mkH []) ?_
     refine oS 67 (λq=>?_) (λq=>?_)
     ·refine oL 4 g62p16 [(5,.i g),(6,.i b),(9,.i h),(70,.bool (decide (0 < h)))] ?_
      exact x (decide (0 < h))
     ·refine oL 4 g62p16 [(5,.i g),(6,.i b),(9,.i h),(70,.bool false)] ?_
      exact x false
    ·refine oLH 8 g62p16 [(5,.i g),(6,.i b),(9,.i h),(70,.bool false)] (mkH []) ?_
     exact x false
def g62 (k:Nat) (a0:LN) (g:Int):Option Int :=
 (g73 k a0 g (10:Int) true).bind λb=>(g73 k a0 g (10:Int) false).bind λa=>jn (λ(n:Bool)=>jn (λ(o:Unit)=>some b) (λj=>if n then (qEt k j a0 g b a k 0 g) else (j ()))) (λh=>if (decide (0 < a)) then (if (decide (a < 3)) then (if (decide (fW .i64 (g+a) < (a0.length:Int))) then ((nthS a0 (fW .i64 (g+a))).bind λc=>h (decide (c=35))) else (h false)) else (h false)) else (h false))
theorem g62_ok (k:Nat) (a0:LN) (c:Int) (r:Int) (h:g62 k a0 c=some r):PureOk Try.prog 62 [.str a0,.i c] (.i r):=by
 refine qA4 Xg62 (λ_=>⟨rfl,rfl⟩) Try.func62 (by decide +kernel) Kr (t:=g62 k a0 c) ?_ h
 unfold g62
 refine qA (eE:=[(0,.str a0),(1,.i c)]) Kr ?_
 let J:Env:=[(11,.i c),(10,.str a0),(4,.i 0),(0,.str a0),(1,.i c)]
 refine oH 8 (atN 2 (ctl1 g62p1)) J (mkH []) ?_
 refine oA (λ(b:Int) => .i b) (atN 3 (ctl1 g62p1)) 12 [.str a0,.i c,.i 10,.bool true] (qHc k a0 c (10:Int) true) λb z=>?_
 refine oR 6 (atN 2 (ctl1 g62p2)) ((14,.i c)::(13,.str a0)::(5,.i b)::(12,.i b)::J) ?_
 refine oA (λ(a:Int) => .i a) (atN 3 (ctl1 g62p2)) 15 [.str a0,.i c,.i 10,.bool false] (qHc k a0 c (10:Int) false) λa D=>?_
 let E:Env:=[(0,.str a0),(1,.i c),(5,.i b),(6,.i a)]
 refine oL 4 g62p3 E ?_
 refine oR 4 (atN 3 (ctl1 g62p3)) ((18,.bool (decide (0 < a)))::(17,.bool (decide (0 < a)))::(16,.i a)::E) ?_
 refine oJ g62p4 (λ(I:Bool)=>[(0,.str a0),(1,.i c),(5,.i b),(6,.i a),(37,.bool I)]) (λ(I:Bool)=>(mkH [])) (λI=>?_) (λN j=>?_)
 ·refine oJ g62p6 (λ(K:Unit)=>[(5,.i b)]) (λ(K:Unit)=>(mkH [])) (λK=>?_) (λM o=>?_)
  ·exact oQ 5
  ·refine oS 37 (λn=>?_) (λn=>?_)
   ·refine oLH 13 g62p9 [(0,.str a0),(1,.i c),(5,.i b),(6,.i a),(7,.i 0),(8,.i c)] (mkH []) ?_
    exact (qRj k M a0 c b a o k) 0 c
   ·refine oLH 3 g62p6 [(5,.i b)] (mkH []) ?_
    exact o ()
 ·refine oS 18 (λn=>?_) (λn=>?_)
  ·let q:Env:=((22,.bool (decide (a < 3)))::(21,.bool (decide (a < 3)))::(20,.bool (decide (a < 3)))::(19,.i a)::(18,.bool true)::(18,.bool (decide (0 < a)))::(17,.bool (decide (0 < a)))::(16,.i a)::E)
   refine oH 4 (atN 7 (ctl1 g62p3)) q (mkH []) ?_
   refine oS 22 (λn=>?_) (λn=>?_)
   ·let u:Env:=((30,.bool (decide (fW .i64 (c+a) < (a0.length:Int))))::(29,.bool (decide (fW .i64 (c+a) < (a0.length:Int))))::(28,.bool (decide (fW .i64 (c+a) < (a0.length:Int))))::(27,.i (a0.length:Int))::(26,.str a0)::(25,.i (fW .i64 (c+a)))::(24,.i a)::(23,.i c)::(22,.bool true)::q)
    refine oR 8 (atN 15 (ctl1 g62p3)) u ?_
    refine oS 30 (λn=>?_) (λn=>?_)
    ·refine oR 4 (atN 19 (ctl1 g62p3)) ((34,.i (fW .i64 (c+a)))::(33,.i a)::(32,.i c)::(31,.str a0)::(30,.bool true)::u) ?_
     refine oC (λ(g:Int)=>(.y g,(mkH []))) (atN 20 (ctl1 g62p3)) 35 (idxH Kr) λg x=>?_
     refine oLH 3 g62p4 [(0,.str a0),(1,.i c),(5,.i b),(6,.i a),(37,.bool (decide (g=35)))] (mkH []) ?_
     exact j (decide (g=35))
    ·refine oL 8 g62p4 [(0,.str a0),(1,.i c),(5,.i b),(6,.i a),(37,.bool false)] ?_
     exact j false
   ·refine oL 16 g62p4 [(0,.str a0),(1,.i c),(5,.i b),(6,.i a),(37,.bool false)] ?_
    exact j false
  ·refine oLH 20 g62p4 [(0,.str a0),(1,.i c),(5,.i b),(6,.i a),(37,.bool false)] (mkH []) ?_
   exact j false
def Xg39:Fx (S33×Int):=⟨Try.prog,cx,Try.f39,λr => .tuple [.agg [.i r.1.f0,.str r.1.f1,.i r.1.f2],.i r.2],0,λ_=>H0,cxTi,cxOrd,λ_=>none,false⟩
def g39p1:Pt:=nav [0,0,0] (nav [0] (bodyAt Try.f39))
def g39p3:Pt:=nav [0,0] (nav [0,0,0,0] g39p1)
def g39p4:Pt:=nav [1] g39p3
def g39p5:Pt:=nav [2,0,0] g39p3
def g39p6:Pt:=nav [0,0,0,0] g39p5
def g39p7:Pt:=nav [0,0] g39p6
def g39p9:Pt:=nav [2,0,0,0] g39p7
def g39p11:Pt:=nav [0,0] g39p9
def g39p13:Pt:=nav [2,0,0] g39p11
def g39p15:Pt:=nav [0,0,0,0] (nav [0,0,0,0] (nav [1,0] g39p11))
def g39p17:Pt:=nav [0,0] (nav [0,0,0] g39p15)
def g39p18:Pt:=nav [1,0,0,0] g39p17
def g39p20:Pt:=nav [0,0] g39p18
def qKv (k:Nat) (c11:Unit→Option (S33×Int)) (a0:LN) (j:Int) (n:Int×Int) (ih:Bool→Int→Option (S33×Int)):Bool→Int→Option (S33×Int) :=
 λ(b:Bool) (a:Int)=>if (decide (a < fW .i64 (j+n.2))) then (jn (λ(c:Bool×Int)=>ih c.1 (fW .i64 (c.2+1))) (λg=>if b then (g (true,a)) else ((nthS a0 a).bind λh=>g (decide (h=35),a)))) else (if (!b) then (some ((⟨(0:Int),([]:LN),(0:Int)⟩:S33),(4:Int))) else (c11 ()))
def qEu (k:Nat) (c11:Unit→Option (S33×Int)) (a0:LN) (a:Int) (b:Int×Int) (n:Nat):Bool→Int→Option (S33×Int):=lp (λ_ _=>none) (qKv k c11 a0 a b) n
theorem g39_l9_s (k:Nat) (c11:Unit→Option (S33×Int)) (a0:LN) (j:Int) (o:Int×Int) (n:Nat) (b:Bool) (a:Int):qEu k c11 a0 j o (n+1) b a=(if (decide (a < fW .i64 (j+o.2))) then (jn (λ(c:Bool×Int)=>(qEu k c11 a0 j o n) c.1 (fW .i64 (c.2+1))) (λg=>if b then (g (true,a)) else ((nthS a0 a).bind λh=>g (decide (h=35),a)))) else (if (!b) then (some ((⟨(0:Int),([]:LN),(0:Int)⟩:S33),(4:Int))) else (c11 ()))):=rfl
theorem qRs (k:Nat)  (c11:Unit→Option (S33×Int)) (a0:LN) (c:Int) (g:Int×Int) (x:∀ o:Unit,Ok Xg39 g39p13 ((λ(o:Unit)=>[(0,.str a0),(1,.i c),(4,.ptr 0 3 0),(6,.i g.1),(8,.i (fW .i64 (c+g.2)))]) o) ((λ(o:Unit)=>(mkH [⟨[.i 0,.str [],.i 0],0,false⟩])) o) (c11 o)):∀ (n:Nat) (a:Bool) (b:Int),Ok Xg39 g39p15 [(0,.str a0),(1,.i c),(4,.ptr 0 3 0),(6,.i g.1),(8,.i (fW .i64 (c+g.2))),(9,.bool a),(10,.i b)] (mkH [⟨[.i 0,.str [],.i 0],0,false⟩]) (qEu k c11 a0 c g n a b):=by
 intro n
 induction n with
 | zero=>intro a b; exact ok_none
 | succ n ih =>
  intro a b
  show Ok _ _ _ _ (qKv k c11 a0 c g (qEu k c11 a0 c g n) a b)
  unfold qKv
  refine qAi (p':=nav [0] g39p15) Kr ?_
  let z:Env:=[(54,.bool (decide (b < fW .i64 (c+g.2)))),(53,.i (fW .i64 (c+g.2))),(52,.i b),(0,.str a0),(1,.i c),(4,.ptr 0 3 0),(6,.i g.1),(8,.i (fW .i64 (c+g.2))),(9,.bool a),(10,.i b)]
  let u:Blk:=⟨[.i 0,.str [],.i 0],0,false⟩
  refine oH 7 g39p17 z (mkH [u]) ?_
  refine oS 54 (λD=>?_) (λD=>?_)
  ·refine oR 7 (atN 2 (ctl1 g39p18)) ((58,.bool a)::(57,.bool a)::(54,.bool true)::z) ?_
   refine oJ g39p20 (λ(h:Bool×Int)=>[(0,.str a0),(1,.i c),(4,.ptr 0 3 0),(6,.i g.1),(8,.i (fW .i64 (c+g.2))),(9,.bool h.1),(10,.i h.2)]) (λ(h:Bool×Int)=>(mkH [u])) (λh=>?_) (λI q=>?_)
   ·refine oLH 5 g39p15 [(0,.str a0),(1,.i c),(4,.ptr 0 3 0),(6,.i g.1),(8,.i (fW .i64 (c+g.2))),(9,.bool h.1),(10,.i (fW .i64 (h.2+1)))] (mkH [u]) ?_
    exact ih h.1 (fW .i64 (h.2+1))
   ·refine oS 58 (λD=>?_) (λD=>?_)
    ·refine oLH 7 g39p20 [(0,.str a0),(1,.i c),(4,.ptr 0 3 0),(6,.i g.1),(8,.i (fW .i64 (c+g.2))),(9,.bool true),(10,.i b)] (mkH [u]) ?_
     exact q (true,b)
    ·refine oH 2 (atN 4 (ctl1 g39p18)) ((60,.i b)::(59,.str a0)::(58,.bool false)::(58,.bool a)::(57,.bool a)::(54,.bool true)::z) (mkH [u]) ?_
     refine oC (λ(j:Int)=>(.y j,(mkH [u]))) (atN 5 (ctl1 g39p18)) 61 (idxH Kr) λj E=>?_
     refine oLH 4 g39p20 [(0,.str a0),(1,.i c),(4,.ptr 0 3 0),(6,.i g.1),(8,.i (fW .i64 (c+g.2))),(9,.bool (decide (j=35))),(10,.i b)] (mkH [u]) ?_
     exact q (decide (j=35),b)
  ·refine oR 7 (nav [0,0] (nav [2,0,0] g39p17)) ((65,.bool (!a))::(64,.bool a)::(54,.bool false)::z) ?_
   refine oK [0,1,4,6,8,65] [(0,.str a0),(1,.i c),(4,.ptr 0 3 0),(6,.i g.1),(8,.i (fW .i64 (c+g.2))),(65,.bool (!a))] ?_
   refine oS 65 (λD=>?_) (λD=>?_)
   ·exact oQ 8
   ·refine oR 3 g39p13 ((65,.bool false)::(keepOnly ((65,.bool (!a))::(64,.bool a)::(54,.bool false)::z) [0,1,4,6,8,65])) ?_
    refine oK [0,1,4,6,8] [(0,.str a0),(1,.i c),(4,.ptr 0 3 0),(6,.i g.1),(8,.i (fW .i64 (c+g.2)))] ?_
    exact x ()
def g39 (k:Nat) (a0:LN) (a:Int):Option (S33×Int) :=
 (g61 k a0 a).bind λc=>jn (λ(b:Int×Int)=>jn (λ(D:Bool)=>if D then (some ((⟨(0:Int),([]:LN),(0:Int)⟩:S33),(4:Int))) else (jn (λ(E:Bool)=>jn (λ(I:Unit)=>(subL a0 (some a) (some (fW .i64 (a+b.2)))).bind λn=>some ((⟨b.1,n,a⟩:S33),(0:Int))) (λo=>if E then (qEu k o a0 a b k false a) else (o ()))) (λu=>if (decide (b.1=3)) then (if (decide (fW .i64 (a+b.2) < (a0.length:Int))) then ((nthS a0 (fW .i64 (a+b.2))).bind λg=>u (decide (g=35))) else (u false)) else (u false)))) (λx=>if (decide (b.2=0)) then (x true) else (if (decide (fW .i64 (a+b.2) < (a0.length:Int))) then ((nthS a0 (fW .i64 (a+b.2))).bind λh=>(g63 k h).bind λj=>x j) else (x false)))) (λz=>if (decide (c=0)) then ((g62 k a0 a).bind λq=>z (3,q)) else (z (4,c)))
theorem g39_ok (k:Nat) (a0:LN) (a:Int) (r:(S33×Int)) (h:g39 k a0 a=some r):PureOk Try.prog 39 [.str a0,.i a] (.tuple [.agg [.i r.1.f0,.str r.1.f1,.i r.1.f2],.i r.2]):=by
 refine qA4 Xg39 (λ_=>⟨rfl,rfl⟩) Try.func39 (by decide +kernel) Kr (t:=g39 k a0 a) ?_ h
 unfold g39
 refine qA (eE:=[(0,.str a0),(1,.i a)]) Kr ?_
 let E1:Env:=[(12,.i a),(11,.str a0),(5,.i 0),(4,.ptr 0 3 0),(0,.str a0),(1,.i a)]
 let g:Blk:=⟨[.i 0,.str [],.i 0],0,false⟩
 refine oH 9 (atN 2 (ctl1 g39p1)) E1 (mkH [g]) ?_
 refine oA (λ(c:Int) => .i c) (atN 3 (ctl1 g39p1)) 13 [.str a0,.i a] (g61_ok k a0 a) λc T=>?_
 let U:Env:=((15,.bool (decide (c=0)))::(14,.i c)::(7,.i c)::(6,.i 4)::(13,.i c)::E1)
 refine oR 9 g39p3 U ?_
 refine oJ g39p5 (λ(b:Int×Int)=>[(0,.str a0),(1,.i a),(4,.ptr 0 3 0),(6,.i b.1),(7,.i b.2)]) (λ(b:Int×Int)=>(mkH [g])) (λb=>?_) (λj6 I=>?_)
 ·let E3:Env:=[(24,.bool (decide (b.2=0))),(23,.bool (decide (b.2=0))),(22,.i b.2),(8,.i (fW .i64 (a+b.2))),(21,.i (fW .i64 (a+b.2))),(20,.i b.2),(19,.i a),(0,.str a0),(1,.i a),(4,.ptr 0 3 0),(6,.i b.1),(7,.i b.2)]
  refine oH 12 (atN 3 (ctl1 g39p6)) E3 (mkH [g]) ?_
  refine oJ g39p7 (λ(N:Bool)=>[(0,.str a0),(1,.i a),(4,.ptr 0 3 0),(6,.i b.1),(8,.i (fW .i64 (a+b.2))),(35,.bool N)]) (λ(N:Bool)=>(mkH [g])) (λN=>?_) (λj7 D=>?_)
  ·refine oS 35 (λu=>?_) (λu=>?_)
   ·exact oQ 8
   ·let E5:Env:=[(39,.bool (decide (b.1=3))),(38,.bool (decide (b.1=3))),(37,.i b.1),(35,.bool false),(0,.str a0),(1,.i a),(4,.ptr 0 3 0),(6,.i b.1),(8,.i (fW .i64 (a+b.2))),(35,.bool N)]
    refine oH 8 (atN 3 (ctl1 g39p9)) E5 (mkH [g]) ?_
    refine oJ g39p11 (λ(Y:Bool)=>[(0,.str a0),(1,.i a),(4,.ptr 0 3 0),(6,.i b.1),(8,.i (fW .i64 (a+b.2))),(50,.bool Y)]) (λ(Y:Bool)=>(mkH [g])) (λY=>?_) (λj8 E=>?_)
    ·refine oJ g39p13 (λ(J:Unit)=>[(0,.str a0),(1,.i a),(4,.ptr 0 3 0),(6,.i b.1),(8,.i (fW .i64 (a+b.2)))]) (λ(J:Unit)=>(mkH [g])) (λJ=>?_) (λZ x=>?_)
     ·refine oH 5 (atN 4 (ctl1 g39p13)) [(70,.i (fW .i64 (a+b.2))),(69,.i a),(68,.str a0),(67,.i b.1),(0,.str a0),(1,.i a),(4,.ptr 0 3 0),(6,.i b.1),(8,.i (fW .i64 (a+b.2)))] (mkH [g]) ?_
      refine oC (λ(z:LN)=>(.str z,(mkH [g]))) (atN 5 (ctl1 g39p13)) 71 (subH (some a) (some (fW .i64 (a+b.2))) Kr) λz a2=>?_
      exact oQ 6
     ·refine oS 50 (λu=>?_) (λu=>?_)
      ·refine oLH 13 g39p15 [(0,.str a0),(1,.i a),(4,.ptr 0 3 0),(6,.i b.1),(8,.i (fW .i64 (a+b.2))),(9,.bool false),(10,.i a)] (mkH [g]) ?_
       exact (qRs k Z a0 a b x k) false a
      ·refine oLH 3 g39p13 [(0,.str a0),(1,.i a),(4,.ptr 0 3 0),(6,.i b.1),(8,.i (fW .i64 (a+b.2)))] (mkH [g]) ?_
       exact x ()
    ·refine oS 39 (λu=>?_) (λu=>?_)
     ·let K:Env:=((45,.bool (decide (fW .i64 (a+b.2) < (a0.length:Int))))::(44,.bool (decide (fW .i64 (a+b.2) < (a0.length:Int))))::(43,.bool (decide (fW .i64 (a+b.2) < (a0.length:Int))))::(42,.i (a0.length:Int))::(41,.str a0)::(40,.i (fW .i64 (a+b.2)))::(39,.bool true)::E5)
      refine oH 6 (atN 9 (ctl1 g39p9)) K (mkH [g]) ?_
      refine oS 45 (λu=>?_) (λu=>?_)
      ·refine oR 2 (atN 11 (ctl1 g39p9)) ((47,.i (fW .i64 (a+b.2)))::(46,.str a0)::(45,.bool true)::K) ?_
       refine oC (λ(j:Int)=>(.y j,(mkH [g]))) (atN 12 (ctl1 g39p9)) 48 (idxH Kr) λj O=>?_
       refine oLH 3 g39p11 [(0,.str a0),(1,.i a),(4,.ptr 0 3 0),(6,.i b.1),(8,.i (fW .i64 (a+b.2))),(50,.bool (decide (j=35)))] (mkH [g]) ?_
       exact E (decide (j=35))
      ·refine oL 6 g39p11 [(0,.str a0),(1,.i a),(4,.ptr 0 3 0),(6,.i b.1),(8,.i (fW .i64 (a+b.2))),(50,.bool false)] ?_
       exact E false
     ·refine oLH 12 g39p11 [(0,.str a0),(1,.i a),(4,.ptr 0 3 0),(6,.i b.1),(8,.i (fW .i64 (a+b.2))),(50,.bool false)] (mkH [g]) ?_
      exact E false
  ·refine oS 24 (λu=>?_) (λu=>?_)
   ·refine oLH 12 g39p7 [(0,.str a0),(1,.i a),(4,.ptr 0 3 0),(6,.i b.1),(8,.i (fW .i64 (a+b.2))),(35,.bool true)] (mkH [g]) ?_
    exact D true
   ·let M:Env:=((29,.bool (decide (fW .i64 (a+b.2) < (a0.length:Int))))::(28,.bool (decide (fW .i64 (a+b.2) < (a0.length:Int))))::(27,.i (a0.length:Int))::(26,.str a0)::(25,.i (fW .i64 (a+b.2)))::(24,.bool false)::E3)
    refine oH 5 (atN 8 (ctl1 g39p6)) M (mkH [g]) ?_
    refine oS 29 (λu=>?_) (λu=>?_)
    ·refine oR 2 (atN 10 (ctl1 g39p6)) ((31,.i (fW .i64 (a+b.2)))::(30,.str a0)::(29,.bool true)::M) ?_
     refine oC (λ(n:Int)=>(.y n,(mkH [g]))) (atN 11 (ctl1 g39p6)) 32 (idxH Kr) λn Q=>?_
     refine oA (λ(o:Bool) => .bool o) (atN 12 (ctl1 g39p6)) 33 [.y n] (g63_ok k n) λo S=>?_
     refine oLH 3 g39p7 [(0,.str a0),(1,.i a),(4,.ptr 0 3 0),(6,.i b.1),(8,.i (fW .i64 (a+b.2))),(35,.bool o)] (mkH [g]) ?_
     exact D o
    ·refine oL 7 g39p7 [(0,.str a0),(1,.i a),(4,.ptr 0 3 0),(6,.i b.1),(8,.i (fW .i64 (a+b.2))),(35,.bool false)] ?_
     exact D false
 ·refine oS 15 (λu=>?_) (λu=>?_)
  ·refine oH 4 (atN 2 (ctl1 g39p4)) ((17,.i a)::(16,.str a0)::(15,.bool true)::U) (mkH [g]) ?_
   refine oA (λ(q:Int) => .i q) (atN 3 (ctl1 g39p4)) 18 [.str a0,.i a] (g62_ok k a0 a) λq a3=>?_
   refine oL 4 g39p5 [(0,.str a0),(1,.i a),(4,.ptr 0 3 0),(6,.i 3),(7,.i q)] ?_
   exact I (3,q)
  ·refine oH 3 g39p5 ((15,.bool false)::U) (mkH [g]) ?_
   refine oK [0,1,4,6,7] [(0,.str a0),(1,.i a),(4,.ptr 0 3 0),(6,.i 4),(7,.i c)] ?_
   exact I (4,c)
def Xg40:Fx Int:=⟨Try.prog,cx,Try.f40,λr => .i r,0,λ_=>H0,cxTi,cxOrd,λ_=>none,false⟩
def g40p1:Pt:=nav [0,0,0,0,0] (nav [0] (bodyAt Try.f40))
def g40p2:Pt:=nav [0,0,0] g40p1
def g40p3:Pt:=nav [0,0] g40p2
def qKu (k:Nat)  (a0:LN) (ih:Int→Option Int):Int→Option Int :=
 λ(a:Int)=>jn (λ(g:Bool×Int)=>if g.1 then (ih (fW .i64 (g.2+1))) else (some g.2)) (λh=>if (decide (a < (a0.length:Int))) then ((nthS a0 a).bind λb=>(g63 k b).bind λc=>h (c,a)) else (h (false,a)))
def qHh (k:Nat)  (a0:LN) (n:Nat):Int→Option Int:=lp (λ_=>none) (qKu k a0) n
theorem g40_l1_s (k:Nat)  (a0:LN) (n:Nat) (a:Int):qHh k a0 (n+1) a=(jn (λ(g:Bool×Int)=>if g.1 then ((qHh k a0 n) (fW .i64 (g.2+1))) else (some g.2)) (λh=>if (decide (a < (a0.length:Int))) then ((nthS a0 a).bind λb=>(g63 k b).bind λc=>h (c,a)) else (h (false,a)))):=rfl
theorem qRr (k:Nat)   (a0:LN)  : ∀ (n:Nat) (a:Int),Ok Xg40 g40p1 [(0,.str a0),(1,.i a)] (mkH []) (qHh k a0 n a):=by
 intro n
 induction n with
 | zero=>intro a; exact ok_none
 | succ n ih =>
  intro a
  show Ok _ _ _ _ (qKu k a0 (qHh k a0 n) a)
  unfold qKu
  refine qAi (p':=nav [0] g40p1) Kr ?_
  let u:Env:=[(9,.bool (decide (a < (a0.length:Int)))),(8,.bool (decide (a < (a0.length:Int)))),(7,.i (a0.length:Int)),(6,.str a0),(5,.i a),(0,.str a0),(1,.i a)]
  refine oH 8 (atN 5 (ctl1 g40p2)) u (mkH []) ?_
  refine oJ g40p3 (λ(g:Bool×Int)=>[(0,.str a0),(1,.i g.2),(14,.bool g.1)]) (λ(g:Bool×Int)=>(mkH [])) (λg=>?_) (λx h=>?_)
  ·refine oS 14 (λj=>?_) (λj=>?_)
   ·refine oLH 8 g40p1 [(0,.str a0),(1,.i (fW .i64 (g.2+1)))] (mkH []) ?_
    exact ih (fW .i64 (g.2+1))
   ·exact oQ 8
  ·refine oS 9 (λj=>?_) (λj=>?_)
   ·refine oH 2 (atN 7 (ctl1 g40p2)) ((11,.i a)::(10,.str a0)::(9,.bool true)::u) (mkH []) ?_
    refine oC (λ(b:Int)=>(.y b,(mkH []))) (atN 8 (ctl1 g40p2)) 12 (idxH Kr) λb o=>?_
    refine oA (λ(c:Bool) => .bool c) (atN 9 (ctl1 g40p2)) 13 [.y b] (g63_ok k b) λc q=>?_
    refine oLH 2 g40p3 [(0,.str a0),(1,.i a),(14,.bool c)] (mkH []) ?_
    exact h (c,a)
   ·refine oLH 6 g40p3 [(0,.str a0),(1,.i a),(14,.bool false)] (mkH []) ?_
    exact h (false,a)
def g40 (k:Nat) (a0:LN) (a:Int):Option Int :=
 qHh k a0 k a
theorem g40_ok (k:Nat) (a0:LN) (a:Int) (r:Int) (h:g40 k a0 a=some r):PureOk Try.prog 40 [.str a0,.i a] (.i r):=by
 refine qA4 Xg40 (λ_=>⟨rfl,rfl⟩) Try.func40 (by decide +kernel) Kr (t:=g40 k a0 a) ?_ h
 unfold g40
 refine qA (eE:=[(0,.str a0),(1,.i a)]) Kr ?_
 refine oLH 7 g40p1 [(0,.str a0),(1,.i a)] (mkH []) ?_
 exact (qRr k a0 k) a
def Xg42:Fx Int:=⟨Try.prog,cx,Try.f42,λr => .i r,0,λ_=>H0,cxTi,cxOrd,λ_=>none,false⟩
def g42p2:Pt:=nav [0,0,0,0,0] (nav [0,0,0] (nav [0] (bodyAt Try.f42)))
def g42p3:Pt:=nav [0,0,0] g42p2
def g42p4:Pt:=nav [0] g42p3
def g42p5:Pt:=nav [1,0,0,0,0] g42p4
def g42p7:Pt:=nav [0,0] g42p5
def g42p10:Pt:=nav [2,0,0] g42p7
def g42p13:Pt:=nav [0,0,0,0] g42p10
def g42p15:Pt:=nav [0,0] g42p13
def g42d0:DP:=⟨[],[(0,0,0),(0,0,0),(2,0,0),(7,0,0),(15,0,0),(31,0,0),(31,0,0),(127,0,0),(31,0,0),(31,0,0),(799,0,0),(2047,0,0),(4095,0,0)],13,thrown,[],H0⟩
def qKs (k:Nat)  (a0:LN) (n:Int) (ih:Int→Option Int):Int→Option Int :=
 λ(a:Int)=>jn (λ(g:Bool×Int)=>if g.1 then ((nthS a0 g.2).bind λh=>jn (λ(o:Int)=>(g36 k a0 o).bind λb=>jn (λ(z:Bool)=>if z then (some (0:Int)) else (ih (fW .i64 (o+b.2)))) (λq=>if (decide (b.1 < 32)) then (q true) else (q (decide (b.1=127))))) (λu=>if (decide (h=92)) then (u (fW .i64 (g.2+1))) else (u g.2))) else (if (decide ((a0.length:Int)≤g.2)) then (some (0:Int)) else (some (fW .i64 (fW .i64 (g.2+1) - n))))) (λx=>if (decide (a < (a0.length:Int))) then ((nthS a0 a).bind λj=>(nthS a0 n).bind λc=>x (!decide (j=c),a)) else (x (false,a)))
def qG7 (k:Nat)  (a0:LN) (a:Int) (n:Nat):Int→Option Int:=lp (λ_=>none) (qKs k a0 a) n
theorem qNa (k:Nat)  (a0:LN) (o:Int) (n:Nat) (a:Int):qG7 k a0 o (n+1) a=(jn (λ(g:Bool×Int)=>if g.1 then ((nthS a0 g.2).bind λh=>jn (λ(q:Int)=>(g36 k a0 q).bind λb=>jn (λ(D:Bool)=>if D then (some (0:Int)) else ((qG7 k a0 o n) (fW .i64 (q+b.2)))) (λu=>if (decide (b.1 < 32)) then (u true) else (u (decide (b.1=127))))) (λx=>if (decide (h=92)) then (x (fW .i64 (g.2+1))) else (x g.2))) else (if (decide ((a0.length:Int)≤g.2)) then (some (0:Int)) else (some (fW .i64 (fW .i64 (g.2+1) - o))))) (λz=>if (decide (a < (a0.length:Int))) then ((nthS a0 a).bind λj=>(nthS a0 o).bind λc=>z (!decide (j=c),a)) else (z (false,a)))):=rfl
theorem qRp (k:Nat)   (a0:LN) (h:Int)  : ∀ (n:Nat) (a:Int),Ok Xg42 g42p2 [(0,.str a0),(1,.i h),(5,.i a)] (mkH []) (qG7 k a0 h n a):=by
 intro n
 induction n with
 | zero=>intro a; exact ok_none
 | succ n ih =>
  intro a
  show Ok _ _ _ _ (qKs k a0 h (qG7 k a0 h n) a)
  unfold qKs
  refine qAi (p':=nav [0] g42p2) Kr ?_
  refine oH 2 g42p3 [(0,.str a0),(1,.i h),(5,.i a)] (mkH []) ?_
  refine oJ g42p4 (λ(j:Bool×Int)=>[(0,.str a0),(1,.i h),(5,.i j.2),(22,.bool j.1)]) (λ(j:Bool×Int)=>(mkH [])) (λj=>?_) (λj4 M=>?_)
  ·refine oS 22 (λD=>?_) (λD=>?_)
   ·let Z:Env:=[(24,.i j.2),(23,.str a0),(22,.bool true),(0,.str a0),(1,.i h),(5,.i j.2),(22,.bool j.1)]
    refine oH 8 (atN 2 (ctl1 g42p5)) Z (mkH []) ?_
    refine oC (λ(o:Int)=>(.y o,(mkH []))) (atN 3 (ctl1 g42p5)) 25 (idxH Kr) λo T=>?_
    refine oH 2 g42p7 ((26,.bool (decide (o=92)))::(25,.y o)::Z) (mkH []) ?_
    refine oJ g42p10 (λ(q:Int)=>[(0,.str a0),(1,.i h),(5,.i q)]) (λ(q:Int)=>(mkH [])) (λq=>?_) (λj5 N=>?_)
    ·let E3:Env:=[(31,.i q),(30,.str a0),(0,.str a0),(1,.i h),(5,.i q)]
     refine oH 3 (atN 2 (ctl1 g42p10)) E3 (mkH []) ?_
     refine oA (λ(b:(Int×Int)) => .tuple [.i b.1,.i b.2]) (atN 3 (ctl1 g42p10)) 32 [.str a0,.i q] (qNc k a0 q) λb U=>?_
     refine oR 12 (atN 3 (ctl1 g42p13)) ((37,.bool (decide (b.1 < 32)))::(36,.bool (decide (b.1 < 32)))::(35,.i b.1)::(7,.i b.2)::(6,.i b.1)::(34,.i b.2)::(33,.i b.1)::(29,.tuple [.i b.1,.i b.2])::(32,.tuple [.i b.1,.i b.2])::E3) ?_
     refine oJ g42p15 (λ(Y:Bool)=>[(0,.str a0),(1,.i h),(5,.i q),(7,.i b.2),(40,.bool Y)]) (λ(Y:Bool)=>(mkH [])) (λY=>?_) (λj6 O=>?_)
     ·refine oS 40 (λD=>?_) (λD=>?_)
      ·exact oQ 6
      ·refine oLH 8 g42p2 [(0,.str a0),(1,.i h),(5,.i (fW .i64 (q+b.2)))] (mkH []) ?_
       exact ih (fW .i64 (q+b.2))
     ·refine oS 37 (λD=>?_) (λD=>?_)
      ·refine oLH 4 g42p15 [(0,.str a0),(1,.i h),(5,.i q),(7,.i b.2),(40,.bool true)] (mkH []) ?_
       exact O true
      ·refine oLH 4 g42p15 [(0,.str a0),(1,.i h),(5,.i q),(7,.i b.2),(40,.bool (decide (b.1=127)))] (mkH []) ?_
       exact O (decide (b.1=127))
    ·refine oS 26 (λD=>?_) (λD=>?_)
     ·refine oLH 7 g42p10 [(0,.str a0),(1,.i h),(5,.i (fW .i64 (j.2+1)))] (mkH []) ?_
      exact N (fW .i64 (j.2+1))
     ·refine oLH 3 g42p10 [(0,.str a0),(1,.i h),(5,.i j.2)] (mkH []) ?_
      exact N j.2
   ·refine oH 10 (nav [0,0] (nav [2,0,0,0] g42p4)) [(47,.bool (decide ((a0.length:Int)≤j.2))),(46,.i (a0.length:Int)),(45,.str a0),(44,.i j.2),(22,.bool false),(0,.str a0),(1,.i h),(5,.i j.2),(22,.bool j.1)] (mkH []) ?_
    refine oS 47 (λD=>?_) (λD=>?_)
    ·exact oQ 6
    ·exact oQ 11
  ·refine qGn (λI=>?_) (λI=>?_)
   ·refine qA9 (λg J=>?_)
    refine qA9 (λc E=>?_)
    let K:Env:=[(14,.bool (decide (a < (a0.length:Int)))),(13,.bool (decide (a < (a0.length:Int)))),(12,.i (a0.length:Int)),(11,.str a0),(10,.i a),(0,.str a0),(1,.i h),(5,.i a)]
    let u:Env:=[(16,.i a),(15,.str a0),(14,.bool true),(13,.bool true),(12,.i (a0.length:Int)),(11,.str a0),(10,.i a),(0,.str a0),(1,.i h),(5,.i a)]
    let Q:Env:=((22,.bool (!decide (g=c)))::(21,.bool (!decide (g=c)))::(20,.y c)::(19,.i h)::(18,.str a0)::(17,.y g)::u)
    refine oD (H':=(mkH [])) (nav [0] g42p3) Q [] g42d0 (oDr 5 5 K (oDe (λz=>[(14,.bool z),(13,.bool z),(12,.i (a0.length:Int)),(11,.str a0),(10,.i a),(0,.str a0),(1,.i h),(5,.i a)]) I (oDr 2 7 u (qAb (l':=(opsAt g42p3).toList.drop 8) (eE:=((17,.y g)::u)) (hs:=[]) (x:=g) (λ(g:Int)=>(.y g,(mkH []))) (idxH Kr) J Kr (oDr 2 10 ((19,.i h)::(18,.str a0)::(17,.y g)::u) (qAb (l':=(opsAt g42p3).toList.drop 11) (eE:=((20,.y c)::(19,.i h)::(18,.str a0)::(17,.y g)::u)) (hs:=[]) (x:=c) (λ(c:Int)=>(.y c,(mkH []))) (idxH Kr) E Kr (oDr 2 13 Q .nil))))))) ?_
    refine oK [0,1,5,22] [(0,.str a0),(1,.i h),(5,.i a),(22,.bool (!decide (g=c)))] ?_
    exact M (!decide (g=c),a)
   ·let K:Env:=[(14,.bool (decide (a < (a0.length:Int)))),(13,.bool (decide (a < (a0.length:Int)))),(12,.i (a0.length:Int)),(11,.str a0),(10,.i a),(0,.str a0),(1,.i h),(5,.i a)]
    let S:Env:=[(22,.bool false),(21,.tuple []),(20,.tuple []),(19,.tuple []),(18,.tuple []),(17,.tuple []),(16,.tuple []),(15,.tuple []),(14,.bool false),(13,.bool false),(12,.i (a0.length:Int)),(11,.str a0),(10,.i a),(0,.str a0),(1,.i h),(5,.i a)]
    refine oD (H':=(mkH [])) (nav [0] g42p3) S [] g42d0 (oDr 5 5 K (oDe (λz=>[(14,.bool z),(13,.bool z),(12,.i (a0.length:Int)),(11,.str a0),(10,.i a),(0,.str a0),(1,.i h),(5,.i a)]) I (oDr 8 13 S .nil))) ?_
    refine oK [0,1,5,22] [(0,.str a0),(1,.i h),(5,.i a),(22,.bool false)] ?_
    exact M (false,a)
def g42 (k:Nat) (a0:LN) (a:Int):Option Int :=
 qG7 k a0 a k (fW .i64 (a+1))
theorem g42_ok (k:Nat) (a0:LN) (a:Int) (r:Int) (h:g42 k a0 a=some r):PureOk Try.prog 42 [.str a0,.i a] (.i r):=by
 refine qA4 Xg42 (λ_=>⟨rfl,rfl⟩) Try.func42 (by decide +kernel) Kr (t:=g42 k a0 a) ?_ h
 unfold g42
 refine qA (eE:=[(0,.str a0),(1,.i a)]) Kr ?_
 refine oLH 13 g42p2 [(0,.str a0),(1,.i a),(5,.i (fW .i64 (a+1)))] (mkH []) ?_
 exact (qRp k a0 a k) (fW .i64 (a+1))
def Xg74:Fx (Int×Int):=⟨Try.prog,cx,Try.f74,λr => .tuple [.i r.1,.i r.2],0,λ_=>H0,cxTi,cxOrd,λ_=>none,false⟩
def g74p2:Pt:=nav [0,0,0,0,0] (nav [0,0,0] (nav [0] (bodyAt Try.f74)))
def g74p3:Pt:=nav [0,0,0] g74p2
def g74p4:Pt:=nav [0,0] g74p3
def g74p5:Pt:=nav [1,0,0,0] g74p4
def qKm (k:Nat)  (a0:LN) (o:Int) (q:Int) (x:Int) (ih:Int→Int→Option (Int×Int)):Int→Int→Option (Int×Int) :=
 λ(b:Int) (a:Int)=>jn (λ(h:Bool×Int×Int)=>if h.1 then ((nthS a0 (fW .i64 (o+h.2.2))).bind λj=>(g92 k j q).bind λn=>ih (fW .i64 (fW .i64 (h.2.1 * q)+n)) (fW .i64 (h.2.2+1))) else (some (h.2.1,h.2.2))) (λu=>if (decide (a < x)) then (if (decide (fW .i64 (o+a) < (a0.length:Int))) then ((nthS a0 (fW .i64 (o+a))).bind λc=>(g92 k c q).bind λg=>u (decide (0≤g),b,a)) else (u (false,b,a))) else (u (false,b,a)))
def qHb (k:Nat)  (a0:LN) (a:Int) (b:Int) (c:Int) (n:Nat):Int→Int→Option (Int×Int):=lp (λ_ _=>none) (qKm k a0 a b c) n
theorem qN3 (k:Nat)  (a0:LN) (j:Int) (o:Int) (x:Int) (n:Nat) (b:Int) (a:Int):qHb k a0 j o x (n+1) b a=(jn (λ(h:Bool×Int×Int)=>if h.1 then ((nthS a0 (fW .i64 (j+h.2.2))).bind λq=>(g92 k q o).bind λu=>(qHb k a0 j o x n) (fW .i64 (fW .i64 (h.2.1 * o)+u)) (fW .i64 (h.2.2+1))) else (some (h.2.1,h.2.2))) (λz=>if (decide (a < x)) then (if (decide (fW .i64 (j+a) < (a0.length:Int))) then ((nthS a0 (fW .i64 (j+a))).bind λc=>(g92 k c o).bind λg=>z (decide (0≤g),b,a)) else (z (false,b,a))) else (z (false,b,a)))):=rfl
theorem qRg (k:Nat)   (a0:LN) (h:Int) (c:Int) (x:Int)  : ∀ (n:Nat) (b:Int) (a:Int),Ok Xg74 g74p2 [(0,.str a0),(1,.i h),(2,.i c),(3,.i x),(10,.i b),(11,.i a)] (mkH []) (qHb k a0 h c x n b a):=by
 intro n
 induction n with
 | zero=>intro b a; exact ok_none
 | succ n ih =>
  intro b a
  show Ok _ _ _ _ (qKm k a0 h c x (qHb k a0 h c x n) b a)
  unfold qKm
  refine qAi (p':=nav [0] g74p2) Kr ?_
  let M:Env:=[(15,.bool (decide (a < x))),(14,.bool (decide (a < x))),(13,.i x),(12,.i a),(0,.str a0),(1,.i h),(2,.i c),(3,.i x),(10,.i b),(11,.i a)]
  refine oH 7 (atN 4 (ctl1 g74p3)) M (mkH []) ?_
  refine oJ g74p4 (λ(j:Bool×Int×Int)=>[(0,.str a0),(1,.i h),(2,.i c),(3,.i x),(10,.i j.2.1),(11,.i j.2.2),(32,.bool j.1)]) (λ(j:Bool×Int×Int)=>(mkH [])) (λj=>?_) (λT z=>?_)
  ·refine oS 32 (λD=>?_) (λD=>?_)
   ·let N:Env:=[(39,.i (fW .i64 (h+j.2.2))),(38,.i j.2.2),(37,.i h),(36,.str a0),(35,.i (fW .i64 (j.2.1 * c))),(34,.i c),(33,.i j.2.1),(32,.bool true),(0,.str a0),(1,.i h),(2,.i c),(3,.i x),(10,.i j.2.1),(11,.i j.2.2),(32,.bool j.1)]
    refine oH 12 (atN 7 (ctl1 g74p5)) N (mkH []) ?_
    refine oC (λ(q:Int)=>(.y q,(mkH []))) (atN 8 (ctl1 g74p5)) 40 (idxH Kr) λq J=>?_
    refine oH 1 (atN 9 (ctl1 g74p5)) ((41,.i c)::(40,.y q)::N) (mkH []) ?_
    refine oA (λ(u:Int) => .i u) (atN 10 (ctl1 g74p5)) 42 [.y q,.i c] (qN1 k q c) λu K=>?_
    let O:Env:=[(0,.str a0),(1,.i h),(2,.i c),(3,.i x),(10,.i (fW .i64 (fW .i64 (j.2.1 * c)+u))),(11,.i j.2.2)]
    refine oL 3 (nav [0,0] g74p5) O ?_
    refine oR 5 g74p2 ((11,.i (fW .i64 (j.2.2+1)))::(45,.i (fW .i64 (j.2.2+1)))::(44,.i j.2.2)::O) ?_
    refine oK [0,1,2,3,10,11] [(0,.str a0),(1,.i h),(2,.i c),(3,.i x),(10,.i (fW .i64 (fW .i64 (j.2.1 * c)+u))),(11,.i (fW .i64 (j.2.2+1)))] ?_
    exact ih (fW .i64 (fW .i64 (j.2.1 * c)+u)) (fW .i64 (j.2.2+1))
   ·exact oQ 10
  ·refine oS 15 (λD=>?_) (λD=>?_)
   ·let Q:Env:=((23,.bool (decide (fW .i64 (h+a) < (a0.length:Int))))::(22,.bool (decide (fW .i64 (h+a) < (a0.length:Int))))::(21,.bool (decide (fW .i64 (h+a) < (a0.length:Int))))::(20,.i (a0.length:Int))::(19,.str a0)::(18,.i (fW .i64 (h+a)))::(17,.i a)::(16,.i h)::(15,.bool true)::M)
    refine oH 8 (atN 12 (ctl1 g74p3)) Q (mkH []) ?_
    refine oS 23 (λD=>?_) (λD=>?_)
    ·let S:Env:=((27,.i (fW .i64 (h+a)))::(26,.i a)::(25,.i h)::(24,.str a0)::(23,.bool true)::Q)
     refine oR 4 (atN 16 (ctl1 g74p3)) S ?_
     refine oC (λ(g:Int)=>(.y g,(mkH []))) (atN 17 (ctl1 g74p3)) 28 (idxH Kr) λg E=>?_
     refine oH 1 (atN 18 (ctl1 g74p3)) ((29,.i c)::(28,.y g)::S) (mkH []) ?_
     refine oA (λ(o:Int) => .i o) (atN 19 (ctl1 g74p3)) 30 [.y g,.i c] (qN1 k g c) λo I=>?_
     refine oL 3 g74p4 [(0,.str a0),(1,.i h),(2,.i c),(3,.i x),(10,.i b),(11,.i a),(32,.bool (decide (0≤o)))] ?_
     exact z (decide (0≤o),b,a)
    ·refine oL 10 g74p4 [(0,.str a0),(1,.i h),(2,.i c),(3,.i x),(10,.i b),(11,.i a),(32,.bool false)] ?_
     exact z (false,b,a)
   ·refine oLH 18 g74p4 [(0,.str a0),(1,.i h),(2,.i c),(3,.i x),(10,.i b),(11,.i a),(32,.bool false)] (mkH []) ?_
    exact z (false,b,a)
def g74 (k:Nat) (a0:LN) (a:Int) (b:Int) (c:Int):Option (Int×Int) :=
 qHb k a0 a b c k 0 0
theorem qRf (k:Nat) (a0:LN) (a:Int) (b:Int) (c:Int) (r:(Int×Int)) (h:g74 k a0 a b c=some r):PureOk Try.prog 74 [.str a0,.i a,.i b,.i c] (.tuple [.i r.1,.i r.2]):=by
 refine qA4 Xg74 (λ_=>⟨rfl,rfl⟩) Try.func74 (by decide +kernel) Kr (t:=g74 k a0 a b c) ?_ h
 unfold g74
 refine qA (eE:=[(0,.str a0),(1,.i a),(2,.i b),(3,.i c)]) Kr ?_
 refine oLH 13 g74p2 [(0,.str a0),(1,.i a),(2,.i b),(3,.i c),(10,.i 0),(11,.i 0)] (mkH []) ?_
 exact (qRg k a0 a b c k) 0 0
def Xg64:Fx (Int×Int):=⟨Try.prog,cx,Try.f64,λr => .tuple [.i r.1,.i r.2],0,λ_=>H0,cxTi,cxOrd,λ_=>none,false⟩
def g64c0:List Int:=[(8:Int),(127:Int),(27:Int),(12:Int),(10:Int),(13:Int),(32:Int),(9:Int),(11:Int)]
def g64c1:LN:=[98,100,101,102,110,114,115,116,118]
def g64p1:Pt:=nav [0,0,0,0] (nav [0] (bodyAt Try.f64))
def g64p2:Pt:=nav [0,0] g64p1
def g64p4:Pt:=nav [2,0,0] g64p2
def g64p6:Pt:=nav [0,0,0] g64p4
def g64p8:Pt:=nav [0,0,0,0] (nav [0,0,0,0] g64p6)
def g64p10:Pt:=nav [0,0] (nav [0,0,0] g64p8)
def g64p11:Pt:=nav [1,0,0,0,0] g64p10
def g64p12:Pt:=nav [2,0,0,0,0] g64p10
def g64p13:Pt:=nav [0,0] g64p11
def g64p14:Pt:=nav [0,0] g64p12
def g64p15:Pt:=nav [1,0] g64p13
def g64p17:Pt:=nav [1,0] g64p14
def g64p18:Pt:=nav [2,0] g64p14
def g64p20:Pt:=nav [0,0] g64p18
def g64p21:Pt:=nav [1,0] g64p20
def g64p23:Pt:=nav [0,0,0,0] g64p21
def g64p24:Pt:=nav [0,0] (nav [2,0] g64p20)
def g64p25:Pt:=nav [0,0] g64p23
def g64p26:Pt:=nav [1,0] g64p24
def g64p30:Pt:=nav [0,0,0,0] g64p26
def g64p31:Pt:=nav [0,0] (nav [2,0] g64p24)
def g64p33:Pt:=nav [1,0,0] g64p31
def g64p34:Pt:=nav [2,0,0] g64p31
def g64p37:Pt:=nav [0,0] g64p33
def g64p38:Pt:=nav [0,0,0,0] g64p34
def g64p40:Pt:=nav [2,0,0] g64p37
def qIg (k:Nat)  (a0:LN) (g:Int) (a:Int) (ih:Int→Option (Int×Int)):Int→Option (Int×Int) :=
 λ(c:Int)=>if (decide (c < 9)) then ((nthS g64c1 c).bind λM=>if (decide (M=a)) then ((nthL g64c0 c).bind λN=>some (N,(2:Int))) else (ih (fW .i64 (c+1)))) else (jn (λ(S:Bool)=>if S then ((g74 k a0 (fW .i64 (g+1)) (8:Int) (3:Int)).bind λu=>some (u.1,fW .i64 (1+u.2))) else (jn (λ(T:Bool)=>if T then ((g74 k a0 (fW .i64 (g+3)) (16:Int) (6:Int)).bind λb=>jn (λ(U:Bool)=>if U then (some (((-1):Int),(0:Int))) else (some (b.1,fW .i64 (4+b.2)))) (λq=>if (decide (b.2=0)) then (q true) else (if (decide ((a0.length:Int)≤fW .i64 (fW .i64 (g+3)+b.2))) then (q true) else ((nthS a0 (fW .i64 (fW .i64 (g+3)+b.2))).bind λz=>if (!decide (z=125)) then (q true) else ((g59 k b.1).bind λD=>q (!D)))))) else (if (decide (a=120)) then ((g74 k a0 (fW .i64 (g+2)) (16:Int) (2:Int)).bind λx=>if (decide (x.2 < 2)) then (some (((-1):Int),(0:Int))) else (some (x.1,(4:Int)))) else (if (decide (a=94)) then (jn (λ(Y:Bool)=>if Y then (some (((-1):Int),(0:Int))) else ((nthS a0 (fW .i64 (g+2))).bind λE=>some (andI .i64 (fW .i64 E) 31,(3:Int)))) (λo=>if (decide ((a0.length:Int)≤fW .i64 (g+2))) then (o true) else ((nthS a0 (fW .i64 (g+2))).bind λO=>if (decide (64≤O)) then ((nthS a0 (fW .i64 (g+2))).bind λI=>if (decide (I≤95)) then (o false) else ((nthS a0 (fW .i64 (g+2))).bind λh=>if (decide (97≤h)) then ((nthS a0 (fW .i64 (g+2))).bind λj=>o (!(decide (j≤122)))) else (o true))) else ((nthS a0 (fW .i64 (g+2))).bind λh=>if (decide (97≤h)) then ((nthS a0 (fW .i64 (g+2))).bind λj=>o (!(decide (j≤122)))) else (o true))))) else ((g36 k a0 (fW .i64 (g+1))).bind λn=>if (decide (n.1 < 32)) then (some (((-1):Int),(0:Int))) else (some (n.1,fW .i64 (1+n.2))))))) (λJ=>if (decide (a=120)) then (if (decide (fW .i64 (g+2) < (a0.length:Int))) then ((nthS a0 (fW .i64 (g+2))).bind λK=>J (decide (K=123))) else (J false)) else (J false)))) (λQ=>if (decide (48≤a)) then (Q (decide (a≤55))) else (Q false)))
def qC4 (k:Nat)  (a0:LN) (b:Int) (a:Int) (n:Nat):Int→Option (Int×Int):=lp (λ_=>none) (qIg k a0 b a) n
theorem qJr (k:Nat)  (a0:LN) (g:Int) (a:Int) (n:Nat) (b:Int):qC4 k a0 g a (n+1) b=(if (decide (b < 9)) then ((nthS g64c1 b).bind λN=>if (decide (N=a)) then ((nthL g64c0 b).bind λO=>some (O,(2:Int))) else ((qC4 k a0 g a n) (fW .i64 (b+1)))) else (jn (λ(T:Bool)=>if T then ((g74 k a0 (fW .i64 (g+1)) (8:Int) (3:Int)).bind λx=>some (x.1,fW .i64 (1+x.2))) else (jn (λ(U:Bool)=>if U then ((g74 k a0 (fW .i64 (g+3)) (16:Int) (6:Int)).bind λc=>jn (λ(Y:Bool)=>if Y then (some (((-1):Int),(0:Int))) else (some (c.1,fW .i64 (4+c.2)))) (λu=>if (decide (c.2=0)) then (u true) else (if (decide ((a0.length:Int)≤fW .i64 (fW .i64 (g+3)+c.2))) then (u true) else ((nthS a0 (fW .i64 (fW .i64 (g+3)+c.2))).bind λD=>if (!decide (D=125)) then (u true) else ((g59 k c.1).bind λE=>u (!E)))))) else (if (decide (a=120)) then ((g74 k a0 (fW .i64 (g+2)) (16:Int) (2:Int)).bind λz=>if (decide (z.2 < 2)) then (some (((-1):Int),(0:Int))) else (some (z.1,(4:Int)))) else (if (decide (a=94)) then (jn (λ(Z:Bool)=>if Z then (some (((-1):Int),(0:Int))) else ((nthS a0 (fW .i64 (g+2))).bind λI=>some (andI .i64 (fW .i64 I) 31,(3:Int)))) (λq=>if (decide ((a0.length:Int)≤fW .i64 (g+2))) then (q true) else ((nthS a0 (fW .i64 (g+2))).bind λQ=>if (decide (64≤Q)) then ((nthS a0 (fW .i64 (g+2))).bind λJ=>if (decide (J≤95)) then (q false) else ((nthS a0 (fW .i64 (g+2))).bind λh=>if (decide (97≤h)) then ((nthS a0 (fW .i64 (g+2))).bind λj=>q (!(decide (j≤122)))) else (q true))) else ((nthS a0 (fW .i64 (g+2))).bind λh=>if (decide (97≤h)) then ((nthS a0 (fW .i64 (g+2))).bind λj=>q (!(decide (j≤122)))) else (q true))))) else ((g36 k a0 (fW .i64 (g+1))).bind λo=>if (decide (o.1 < 32)) then (some (((-1):Int),(0:Int))) else (some (o.1,fW .i64 (1+o.2))))))) (λK=>if (decide (a=120)) then (if (decide (fW .i64 (g+2) < (a0.length:Int))) then ((nthS a0 (fW .i64 (g+2))).bind λM=>K (decide (M=123))) else (K false)) else (K false)))) (λS=>if (decide (48≤a)) then (S (decide (a≤55))) else (S false)))):=rfl
theorem qOi (k:Nat)   (a0:LN) (c:Int) (a:Int)  : ∀ (n:Nat) (h:Int),Ok Xg64 g64p8 [(0,.str a0),(1,.i c),(6,.y a),(7,.str g64c1),(8,w3 g64c0),(9,.i h)] (mkH []) (qC4 k a0 c a n h):=by
 intro n
 induction n with
 | zero=>intro h; exact ok_none
 | succ n ih =>
  intro h
  show Ok _ _ _ _ (qIg k a0 c a (qC4 k a0 c a n) h)
  unfold qIg
  refine qAi (p':=nav [0] g64p8) Kr ?_
  let E5:Env:=[(41,.bool (decide (h < 9))),(40,.i 9),(39,.str g64c1),(38,.i h),(0,.str a0),(1,.i c),(6,.y a),(7,.str g64c1),(8,w3 g64c0),(9,.i h)]
  refine oH 8 g64p10 E5 (mkH []) ?_
  refine oS 41 (λo=>?_) (λo=>?_)
  ·refine oR 8 (atN 2 (ctl1 g64p11)) ((45,.i h)::(44,.str g64c1)::(41,.bool true)::E5) ?_
   refine oC (λ(N:Int)=>(.y N,(mkH []))) (atN 3 (ctl1 g64p11)) 46 (idxH Kr) λN c6=>?_
   let E7:Env:=[(0,.str a0),(1,.i c),(6,.y a),(7,.str g64c1),(8,w3 g64c0),(9,.i h),(48,.bool (decide (N=a)))]
   refine oLH 3 g64p13 E7 (mkH []) ?_
   refine oS 48 (λo=>?_) (λo=>?_)
   ·refine oR 5 (atN 2 (ctl1 g64p15)) ((50,.i h)::(49,w3 g64c0)::(48,.bool true)::E7) ?_
    refine oC (λ(a3:Int)=>(.vptr [.i a3],(mkH []))) (atN 3 (ctl1 g64p15)) 51 (vidxH (sz:=1) e3_len Kr) λa3 c8=>?_
    exact oQ 5
   ·refine oL 7 g64p8 [(0,.str a0),(1,.i c),(6,.y a),(7,.str g64c1),(8,w3 g64c0),(9,.i (fW .i64 (h+1)))] ?_
    exact ih (fW .i64 (h+1))
  ·refine oR 9 (atN 3 (ctl1 g64p12)) ((56,.bool (decide (48≤a)))::(55,.bool (decide (48≤a)))::(54,.y a)::(41,.bool false)::E5) ?_
   refine oJ g64p14 (λ(O:Bool)=>[(0,.str a0),(1,.i c),(6,.y a),(53,.bool O)]) (λ(O:Bool)=>(mkH [])) (λO=>?_) (λd5 a4=>?_)
   ·refine oS 53 (λo=>?_) (λo=>?_)
    ·refine oH 6 (atN 3 (ctl1 g64p17)) [(63,.i (fW .i64 (c+1))),(62,.i c),(61,.str a0),(53,.bool true),(0,.str a0),(1,.i c),(6,.y a),(53,.bool O)] (mkH []) ?_
     refine oA (λ(J:(Int×Int)) => .tuple [.i J.1,.i J.2]) (atN 4 (ctl1 g64p17)) 64 [.str a0,.i (fW .i64 (c+1)),.i 8,.i 3] (qRf k a0 (fW .i64 (c+1)) (8:Int) (3:Int)) λJ d0=>?_
     refine oL 7 (nav [0,0,0] g64p17) [(10,.i J.1),(11,.i J.2)] ?_
     exact oQ 8
    ·let b1:Env:=[(73,.bool (decide (a=120))),(72,.bool (decide (a=120))),(71,.y a),(53,.bool false),(0,.str a0),(1,.i c),(6,.y a),(53,.bool O)]
     refine oH 6 (atN 3 (ctl1 g64p18)) b1 (mkH []) ?_
     refine oJ g64p20 (λ(Q:Bool)=>[(0,.str a0),(1,.i c),(6,.y a),(70,.bool Q)]) (λ(Q:Bool)=>(mkH [])) (λQ=>?_) (λd6 S=>?_)
     ·refine oS 70 (λo=>?_) (λo=>?_)
      ·refine oH 6 (atN 3 (ctl1 g64p21)) [(90,.i (fW .i64 (c+3))),(89,.i c),(88,.str a0),(70,.bool true),(0,.str a0),(1,.i c),(6,.y a),(70,.bool Q)] (mkH []) ?_
       refine oA (λ(b:(Int×Int)) => .tuple [.i b.1,.i b.2]) (atN 4 (ctl1 g64p21)) 91 [.str a0,.i (fW .i64 (c+3)),.i 16,.i 6] (qRf k a0 (fW .i64 (c+3)) (16:Int) (6:Int)) λb d1=>?_
       let a5:Env:=[(0,.str a0),(1,.i c),(12,.i b.1),(13,.i b.2)]
       refine oL 8 g64p23 a5 ?_
       refine oR 4 (atN 3 (ctl1 g64p23)) ((96,.bool (decide (b.2=0)))::(95,.bool (decide (b.2=0)))::(94,.i b.2)::a5) ?_
       refine oJ g64p25 (λ(a6:Bool)=>[(12,.i b.1),(13,.i b.2),(118,.bool a6)]) (λ(a6:Bool)=>(mkH [])) (λa6=>?_) (λd9 M=>?_)
       ·refine oS 118 (λo=>?_) (λo=>?_)
        ·exact oQ 7
        ·exact oQ 11
       ·refine oS 96 (λo=>?_) (λo=>?_)
        ·refine oLH 23 g64p25 [(12,.i b.1),(13,.i b.2),(118,.bool true)] (mkH []) ?_
         exact M true
        ·let b2:Env:=((105,.bool (decide ((a0.length:Int)≤fW .i64 (fW .i64 (c+3)+b.2))))::(104,.bool (decide ((a0.length:Int)≤fW .i64 (fW .i64 (c+3)+b.2))))::(103,.bool (decide ((a0.length:Int)≤fW .i64 (fW .i64 (c+3)+b.2))))::(102,.i (a0.length:Int))::(101,.str a0)::(100,.i (fW .i64 (fW .i64 (c+3)+b.2)))::(99,.i b.2)::(98,.i (fW .i64 (c+3)))::(97,.i c)::(96,.bool false)::(96,.bool (decide (b.2=0)))::(95,.bool (decide (b.2=0)))::(94,.i b.2)::a5)
         refine oH 9 (atN 12 (ctl1 g64p23)) b2 (mkH []) ?_
         refine oS 105 (λo=>?_) (λo=>?_)
         ·refine oL 14 g64p25 [(12,.i b.1),(13,.i b.2),(118,.bool true)] ?_
          exact M true
         ·let a7:Env:=((110,.i (fW .i64 (fW .i64 (c+3)+b.2)))::(109,.i b.2)::(108,.i (fW .i64 (c+3)))::(107,.i c)::(106,.str a0)::(105,.bool false)::b2)
          refine oR 5 (atN 17 (ctl1 g64p23)) a7 ?_
          refine oC (λ(j:Int)=>(.y j,(mkH []))) (atN 18 (ctl1 g64p23)) 111 (idxH Kr) λj b9=>?_
          refine oH 3 (atN 21 (ctl1 g64p23)) ((114,.bool (!decide (j=125)))::(113,.bool (!decide (j=125)))::(112,.bool (!decide (j=125)))::(111,.y j)::a7) (mkH []) ?_
          refine oS 114 (λo=>?_) (λo=>?_)
          ·refine oL 5 g64p25 [(12,.i b.1),(13,.i b.2),(118,.bool true)] ?_
           exact M true
          ·refine oR 1 (atN 22 (ctl1 g64p23)) ((115,.i b.1)::(114,.bool false)::(114,.bool (!decide (j=125)))::(113,.bool (!decide (j=125)))::(112,.bool (!decide (j=125)))::(111,.y j)::a7) ?_
           refine oA (λ(E:Bool) => .bool E) (atN 23 (ctl1 g64p23)) 116 [.i b.1] (g59_ok k b.1) λE c0=>?_
           refine oL 3 g64p25 [(12,.i b.1),(13,.i b.2),(118,.bool (!E))] ?_
           exact M (!E)
      ·let b3:Env:=[(122,.bool (decide (a=120))),(124,.bool (decide (a=120))),(123,.y a),(70,.bool false),(0,.str a0),(1,.i c),(6,.y a),(70,.bool Q)]
       refine oH 7 g64p24 b3 (mkH []) ?_
       refine oS 122 (λo=>?_) (λo=>?_)
       ·refine oR 6 (atN 3 (ctl1 g64p26)) ((128,.i (fW .i64 (c+2)))::(127,.i c)::(126,.str a0)::(122,.bool true)::b3) ?_
        refine oA (λ(z:(Int×Int)) => .tuple [.i z.1,.i z.2]) (atN 4 (ctl1 g64p26)) 129 [.str a0,.i (fW .i64 (c+2)),.i 16,.i 2] (qRf k a0 (fW .i64 (c+2)) (16:Int) (2:Int)) λz d2=>?_
        let b4:Env:=[(14,.i z.1),(15,.i z.2)]
        refine oL 8 g64p30 b4 ?_
        refine oR 4 (nav [0,0] g64p30) ((133,.bool (decide (z.2 < 2)))::(132,.i z.2)::b4) ?_
        refine oS 133 (λo=>?_) (λo=>?_)
        ·exact oQ 7
        ·exact oQ 9
       ·refine oL 7 g64p31 [(0,.str a0),(1,.i c),(135,.bool (decide (a=94)))] ?_
        let b5:Env:=[(0,.str a0),(1,.i c),(135,.bool (decide (a=94)))]
        refine oS 135 (λo=>?_) (λo=>?_)
        ·let a8:Env:=((143,.bool (decide ((a0.length:Int)≤fW .i64 (c+2))))::(142,.bool (decide ((a0.length:Int)≤fW .i64 (c+2))))::(141,.i (a0.length:Int))::(140,.str a0)::(139,.i (fW .i64 (c+2)))::(138,.i c)::(135,.bool true)::b5)
         refine oR 10 (atN 6 (ctl1 g64p33)) a8 ?_
         refine oJ g64p37 (λ(U:Bool)=>[(0,.str a0),(1,.i c),(171,.bool U)]) (λ(U:Bool)=>(mkH [])) (λU=>?_) (λe0 D=>?_)
         ·refine oS 171 (λo=>?_) (λo=>?_)
          ·exact oQ 7
          ·refine oH 7 (atN 3 (ctl1 g64p40)) [(174,.i (fW .i64 (c+2))),(173,.i c),(172,.str a0),(171,.bool false),(0,.str a0),(1,.i c),(171,.bool U)] (mkH []) ?_
           refine oC (λ(T:Int)=>(.y T,(mkH []))) (atN 4 (ctl1 g64p40)) 175 (idxH Kr) λT c1=>?_
           exact oQ 6
         ·refine oS 143 (λo=>?_) (λo=>?_)
          ·refine oLH 29 g64p37 [(0,.str a0),(1,.i c),(171,.bool true)] (mkH []) ?_
           exact D true
          ·refine oH 3 (atN 9 (ctl1 g64p33)) ((146,.i (fW .i64 (c+2)))::(145,.i c)::(144,.str a0)::(143,.bool false)::a8) (mkH []) ?_
           refine oC (λ(K:Int)=>(.y K,(mkH []))) (atN 10 (ctl1 g64p33)) 147 (idxH Kr) λK d3=>?_
           let Y:Env:=((149,.bool (decide (64≤K)))::(148,.bool (decide (64≤K)))::(147,.y K)::(146,.i (fW .i64 (c+2)))::(145,.i c)::(144,.str a0)::(143,.bool false)::a8)
           refine oH 2 (atN 12 (ctl1 g64p33)) Y (mkH []) ?_
           refine oS 149 (λo=>?_) (λo=>?_)
           ·refine oR 3 (atN 15 (ctl1 g64p33)) ((152,.i (fW .i64 (c+2)))::(151,.i c)::(150,.str a0)::(149,.bool true)::Y) ?_
            refine oC (λ(x:Int)=>(.y x,(mkH []))) (atN 16 (ctl1 g64p33)) 153 (idxH Kr) λx c2=>?_
            let a9:Env:=((156,.bool (decide (x≤95)))::(155,.bool (decide (x≤95)))::(154,.bool (decide (x≤95)))::(153,.y x)::(152,.i (fW .i64 (c+2)))::(151,.i c)::(150,.str a0)::(149,.bool true)::Y)
            refine oH 3 (atN 19 (ctl1 g64p33)) a9 (mkH []) ?_
            refine oS 156 (λo=>?_) (λo=>?_)
            ·refine oL 16 g64p37 [(0,.str a0),(1,.i c),(171,.bool false)] ?_
             exact D false
            ·refine oR 3 (atN 22 (ctl1 g64p33)) ((159,.i (fW .i64 (c+2)))::(158,.i c)::(157,.str a0)::(156,.bool false)::a9) ?_
             refine oC (λ(g:Int)=>(.y g,(mkH []))) (atN 23 (ctl1 g64p33)) 160 (idxH Kr) λg Z=>?_
             let b6:Env:=((162,.bool (decide (97≤g)))::(161,.bool (decide (97≤g)))::(160,.y g)::(159,.i (fW .i64 (c+2)))::(158,.i c)::(157,.str a0)::(156,.bool false)::a9)
             refine oH 2 (atN 25 (ctl1 g64p33)) b6 (mkH []) ?_
             refine oS 162 (λo=>?_) (λo=>?_)
             ·refine oR 3 (atN 28 (ctl1 g64p33)) ((165,.i (fW .i64 (c+2)))::(164,.i c)::(163,.str a0)::(162,.bool true)::b6) ?_
              refine oC (λ(q:Int)=>(.y q,(mkH []))) (atN 29 (ctl1 g64p33)) 166 (idxH Kr) λq a2=>?_
              refine oLH 6 g64p37 [(0,.str a0),(1,.i c),(171,.bool (!(decide (q≤122))))] (mkH []) ?_
              exact D (!(decide (q≤122)))
             ·refine oL 10 g64p37 [(0,.str a0),(1,.i c),(171,.bool true)] ?_
              exact D true
           ·let b0:Env:=((159,.i (fW .i64 (c+2)))::(158,.i c)::(157,.str a0)::(156,.bool false)::(155,.bool false)::(154,.tuple [])::(153,.tuple [])::(152,.tuple [])::(151,.tuple [])::(150,.tuple [])::(149,.bool false)::Y)
            refine oR 10 (atN 22 (ctl1 g64p33)) b0 ?_
            refine oC (λ(g:Int)=>(.y g,(mkH []))) (atN 23 (ctl1 g64p33)) 160 (idxH Kr) λg Z=>?_
            refine oH 2 (atN 25 (ctl1 g64p33)) ((162,.bool (decide (97≤g)))::(161,.bool (decide (97≤g)))::(160,.y g)::b0) (mkH []) ?_
            refine oS 162 (λo=>?_) (λo=>?_)
            ·refine oR 3 (atN 28 (ctl1 g64p33)) ((165,.i (fW .i64 (c+2)))::(164,.i c)::(163,.str a0)::(162,.bool true)::(162,.bool (decide (97≤g)))::(161,.bool (decide (97≤g)))::(160,.y g)::b0) ?_
             refine oC (λ(q:Int)=>(.y q,(mkH []))) (atN 29 (ctl1 g64p33)) 166 (idxH Kr) λq a2=>?_
             refine oLH 6 g64p37 [(0,.str a0),(1,.i c),(171,.bool (!(decide (q≤122))))] (mkH []) ?_
             exact D (!(decide (q≤122)))
            ·refine oL 10 g64p37 [(0,.str a0),(1,.i c),(171,.bool true)] ?_
             exact D true
        ·refine oR 7 (atN 3 (ctl1 g64p34)) ((181,.i (fW .i64 (c+1)))::(180,.i c)::(179,.str a0)::(135,.bool false)::b5) ?_
         refine oA (λ(u:(Int×Int)) => .tuple [.i u.1,.i u.2]) (atN 4 (ctl1 g64p34)) 182 [.str a0,.i (fW .i64 (c+1))] (qNc k a0 (fW .i64 (c+1))) λu c3=>?_
         let b7:Env:=[(16,.i u.1),(17,.i u.2)]
         refine oL 8 g64p38 b7 ?_
         refine oR 4 (nav [0,0] g64p38) ((186,.bool (decide (u.1 < 32)))::(185,.i u.1)::b7) ?_
         refine oS 186 (λo=>?_) (λo=>?_)
         ·exact oQ 7
         ·exact oQ 11
     ·refine oS 73 (λo=>?_) (λo=>?_)
      ·let b8:Env:=((80,.bool (decide (fW .i64 (c+2) < (a0.length:Int))))::(79,.bool (decide (fW .i64 (c+2) < (a0.length:Int))))::(78,.bool (decide (fW .i64 (c+2) < (a0.length:Int))))::(77,.i (a0.length:Int))::(76,.str a0)::(75,.i (fW .i64 (c+2)))::(74,.i c)::(73,.bool true)::b1)
       refine oH 7 (atN 10 (ctl1 g64p18)) b8 (mkH []) ?_
       refine oS 80 (λo=>?_) (λo=>?_)
       ·refine oR 3 (atN 13 (ctl1 g64p18)) ((83,.i (fW .i64 (c+2)))::(82,.i c)::(81,.str a0)::(80,.bool true)::b8) ?_
        refine oC (λ(I:Int)=>(.y I,(mkH []))) (atN 14 (ctl1 g64p18)) 84 (idxH Kr) λI c4=>?_
        refine oLH 4 g64p20 [(0,.str a0),(1,.i c),(6,.y a),(70,.bool (decide (I=123)))] (mkH []) ?_
        exact S (decide (I=123))
       ·refine oL 8 g64p20 [(0,.str a0),(1,.i c),(6,.y a),(70,.bool false)] ?_
        exact S false
      ·refine oLH 15 g64p20 [(0,.str a0),(1,.i c),(6,.y a),(70,.bool false)] (mkH []) ?_
       exact S false
   ·refine oS 56 (λo=>?_) (λo=>?_)
    ·refine oLH 5 g64p14 [(0,.str a0),(1,.i c),(6,.y a),(53,.bool (decide (a≤55)))] (mkH []) ?_
     exact a4 (decide (a≤55))
    ·refine oLH 5 g64p14 [(0,.str a0),(1,.i c),(6,.y a),(53,.bool false)] (mkH []) ?_
     exact a4 false
def g64 (k:Nat) (a0:LN) (c:Int):Option (Int×Int) :=
 jn (λ(h:Bool)=>if h then (some (((-1):Int),(0:Int))) else ((nthS a0 (fW .i64 (c+1))).bind λg=>qC4 k a0 c g k 0)) (λa=>if (decide (c < 0)) then (a true) else (if (decide (fW .i64 ((a0.length:Int) - 1)≤c)) then (a true) else ((nthS a0 c).bind λb=>a (!decide (b=92)))))
theorem g64_ok (k:Nat) (a0:LN) (a:Int) (r:(Int×Int)) (h:g64 k a0 a=some r):PureOk Try.prog 64 [.str a0,.i a] (.tuple [.i r.1,.i r.2]):=by
 refine qA4 Xg64 (λ_=>⟨rfl,rfl⟩) Try.func64 (by decide +kernel) Kr (t:=g64 k a0 a) ?_ h
 unfold g64
 refine qA (eE:=[(0,.str a0),(1,.i a)]) Kr ?_
 let x:Env:=[(20,.bool (decide (a < 0))),(19,.bool (decide (a < 0))),(18,.i a),(5,.i 0),(4,.i 0),(0,.str a0),(1,.i a)]
 refine oH 11 (atN 3 (ctl1 g64p1)) x (mkH []) ?_
 refine oJ g64p2 (λ(j:Bool)=>[(0,.str a0),(1,.i a),(32,.bool j)]) (λ(j:Bool)=>(mkH [])) (λj=>?_) (λD g=>?_)
 ·refine oS 32 (λn=>?_) (λn=>?_)
  ·exact oQ 7
  ·let z:Env:=[(35,.i (fW .i64 (a+1))),(34,.i a),(33,.str a0),(32,.bool false),(0,.str a0),(1,.i a),(32,.bool j)]
   refine oH 7 (atN 3 (ctl1 g64p4)) z (mkH []) ?_
   refine oC (λ(b:Int)=>(.y b,(mkH []))) (atN 4 (ctl1 g64p4)) 36 (idxH Kr) λb u=>?_
   refine oH 5 (atN 1 (ctl1 g64p6)) ((37,.slice 0 9 0 9 1)::(6,.y b)::(36,.y b)::z) (mkH [⟨[.i 8,.i 127,.i 27,.i 12,.i 10,.i 13,.i 32,.i 9,.i 11],0,false⟩]) ?_
   refine oZ 37 0 9 1 [.i 8,.i 127,.i 27,.i 12,.i 10,.i 13,.i 32,.i 9,.i 11] [0,1,6,32,33,34,35,36] [] trivial ?_
   refine oLH 10 g64p8 [(0,.str a0),(1,.i a),(6,.y b),(7,.str g64c1),(8,w3 g64c0),(9,.i 0)] (mkH [⟨[],0,false⟩]) ?_
   refine qAf [] [⟨[],0,false⟩] Kr rfl Kr trivial ?_
   exact (qOi k a0 a b k) 0
 ·refine oS 20 (λn=>?_) (λn=>?_)
  ·refine oLH 13 g64p2 [(0,.str a0),(1,.i a),(32,.bool true)] (mkH []) ?_
   exact g true
  ·let o:Env:=((27,.bool (decide (fW .i64 ((a0.length:Int) - 1)≤a)))::(26,.bool (decide (fW .i64 ((a0.length:Int) - 1)≤a)))::(25,.bool (decide (fW .i64 ((a0.length:Int) - 1)≤a)))::(24,.i (fW .i64 ((a0.length:Int) - 1)))::(23,.i (a0.length:Int))::(22,.str a0)::(21,.i a)::(20,.bool false)::x)
   refine oH 7 (atN 10 (ctl1 g64p1)) o (mkH []) ?_
   refine oS 27 (λn=>?_) (λn=>?_)
   ·refine oL 6 g64p2 [(0,.str a0),(1,.i a),(32,.bool true)] ?_
    exact g true
   ·refine oR 2 (atN 12 (ctl1 g64p1)) ((29,.i a)::(28,.str a0)::(27,.bool false)::o) ?_
    refine oC (λ(c:Int)=>(.y c,(mkH []))) (atN 13 (ctl1 g64p1)) 30 (idxH Kr) λc q=>?_
    refine oLH 3 g64p2 [(0,.str a0),(1,.i a),(32,.bool (!decide (c=92)))] (mkH []) ?_
    exact g (!decide (c=92))
def Xg43:Fx Int:=⟨Try.prog,cx,Try.f43,λr => .i r,0,λ_=>H0,cxTi,cxOrd,λ_=>none,false⟩
def g43p1:Pt:=nav [0,0,0,0] (nav [0] (bodyAt Try.f43))
def g43p2:Pt:=nav [0,0] g43p1
def g43p3:Pt:=nav [1,0,0] g43p2
def g43p4:Pt:=nav [2,0,0] g43p2
def g43p5:Pt:=nav [0,0,0] g43p3
def g43p6:Pt:=nav [0,0,0,0] g43p4
def g43p8:Pt:=nav [0,0] g43p6
def g43 (k:Nat) (a0:LN) (g:Int):Option Int :=
 jn (λ(n:Bool)=>if n then ((g64 k a0 (fW .i64 (g+1))).bind λb=>if (decide (0≤b.1)) then (some (fW .i64 (b.2+1))) else (some (0:Int))) else ((g36 k a0 (fW .i64 (g+1))).bind λa=>jn (λ(o:Bool)=>if o then (some (0:Int)) else (some (fW .i64 (a.2+1)))) (λh=>if (decide (a.1≤32)) then (h true) else (h (decide (a.1=127)))))) (λj=>if (decide (fW .i64 (g+1) < (a0.length:Int))) then ((nthS a0 (fW .i64 (g+1))).bind λc=>j (decide (c=92))) else (j false))
theorem g43_ok (k:Nat) (a0:LN) (b:Int) (r:Int) (h:g43 k a0 b=some r):PureOk Try.prog 43 [.str a0,.i b] (.i r):=by
 refine qA4 Xg43 (λ_=>⟨rfl,rfl⟩) Try.func43 (by decide +kernel) Kr (t:=g43 k a0 b) ?_ h
 unfold g43
 refine qA (eE:=[(0,.str a0),(1,.i b)]) Kr ?_
 let E:Env:=[(14,.bool (decide (fW .i64 (b+1) < (a0.length:Int)))),(13,.bool (decide (fW .i64 (b+1) < (a0.length:Int)))),(12,.i (a0.length:Int)),(11,.str a0),(10,.i (fW .i64 (b+1))),(9,.i b),(4,.i 0),(0,.str a0),(1,.i b)]
 refine oH 13 (atN 6 (ctl1 g43p1)) E (mkH []) ?_
 refine oJ g43p2 (λ(n:Bool)=>[(0,.str a0),(1,.i b),(20,.bool n)]) (λ(n:Bool)=>(mkH [])) (λn=>?_) (λK o=>?_)
 ·refine oS 20 (λj=>?_) (λj=>?_)
  ·refine oH 7 (atN 3 (ctl1 g43p3)) [(24,.i (fW .i64 (b+1))),(23,.i b),(22,.str a0),(20,.bool true),(0,.str a0),(1,.i b),(20,.bool n)] (mkH []) ?_
   refine oA (λ(c:(Int×Int)) => .tuple [.i c.1,.i c.2]) (atN 4 (ctl1 g43p3)) 25 [.str a0,.i (fW .i64 (b+1))] (g64_ok k a0 (fW .i64 (b+1))) λc u=>?_
   let I:Env:=[(5,.i c.1),(6,.i c.2)]
   refine oL 7 g43p5 I ?_
   refine oR 4 (nav [0,0] g43p5) ((29,.bool (decide (0≤c.1)))::(28,.i c.1)::I) ?_
   refine oS 29 (λj=>?_) (λj=>?_)
   ·exact oQ 8
   ·exact oQ 7
  ·refine oH 7 (atN 3 (ctl1 g43p4)) [(35,.i (fW .i64 (b+1))),(34,.i b),(33,.str a0),(20,.bool false),(0,.str a0),(1,.i b),(20,.bool n)] (mkH []) ?_
   refine oA (λ(a:(Int×Int)) => .tuple [.i a.1,.i a.2]) (atN 4 (ctl1 g43p4)) 36 [.str a0,.i (fW .i64 (b+1))] (qNc k a0 (fW .i64 (b+1))) λa x=>?_
   let J:Env:=[(7,.i a.1),(8,.i a.2)]
   refine oL 8 g43p6 J ?_
   refine oR 4 (atN 3 (ctl1 g43p6)) ((41,.bool (decide (a.1≤32)))::(40,.bool (decide (a.1≤32)))::(39,.i a.1)::J) ?_
   refine oJ g43p8 (λ(z:Bool)=>[(8,.i a.2),(44,.bool z)]) (λ(z:Bool)=>(mkH [])) (λz=>?_) (λM q=>?_)
   ·refine oS 44 (λj=>?_) (λj=>?_)
    ·exact oQ 6
    ·exact oQ 9
   ·refine oS 41 (λj=>?_) (λj=>?_)
    ·refine oLH 4 g43p8 [(8,.i a.2),(44,.bool true)] (mkH []) ?_
     exact q true
    ·refine oLH 4 g43p8 [(8,.i a.2),(44,.bool (decide (a.1=127)))] (mkH []) ?_
     exact q (decide (a.1=127))
 ·refine oS 14 (λj=>?_) (λj=>?_)
  ·refine oH 3 (atN 9 (ctl1 g43p1)) ((17,.i (fW .i64 (b+1)))::(16,.i b)::(15,.str a0)::(14,.bool true)::E) (mkH []) ?_
   refine oC (λ(g:Int)=>(.y g,(mkH []))) (atN 10 (ctl1 g43p1)) 18 (idxH Kr) λg D=>?_
   refine oLH 3 g43p2 [(0,.str a0),(1,.i b),(20,.bool (decide (g=92)))] (mkH []) ?_
   exact o (decide (g=92))
  ·refine oLH 7 g43p2 [(0,.str a0),(1,.i b),(20,.bool false)] (mkH []) ?_
   exact o false
def Xg26:Fx (S33×Int):=⟨Try.prog,cx,Try.f26,λr => .tuple [.agg [.i r.1.f0,.str r.1.f1,.i r.1.f2],.i r.2],0,λ_=>H0,cxTi,cxOrd,λ_=>none,false⟩
def g26p1:Pt:=nav [0,0,0,0] (nav [0] (bodyAt Try.f26))
def g26p2:Pt:=nav [0,0] g26p1
def g26p4:Pt:=nav [2,0,0] g26p2
def g26p8:Pt:=nav [0,0] (nav [0,0,0,0,0] (nav [0,0,0] g26p4))
def g26p10:Pt:=nav [2,0] g26p8
def g26p11:Pt:=nav [0,0,0,0,0] (nav [1,0] g26p8)
def g26p12:Pt:=nav [0,0] g26p10
def g26p13:Pt:=nav [0,0,0] g26p11
def g26p15:Pt:=nav [2,0] g26p12
def g26p16:Pt:=nav [0,0] g26p13
def g26p17:Pt:=nav [0,0,0,0] (nav [1] g26p12)
def g26p18:Pt:=nav [0,0] g26p15
def g26p20:Pt:=nav [2,0,0] g26p16
def g26p21:Pt:=nav [0,0] g26p17
def g26p22:Pt:=nav [1,0] g26p18
def g26p23:Pt:=nav [2,0] g26p18
def g26p25:Pt:=nav [2,0,0] g26p21
def g26p26:Pt:=nav [0,0] g26p23
def g26p27:Pt:=nav [1,0] g26p26
def g26p29:Pt:=nav [0,0,0] g26p27
def g26p30:Pt:=nav [0,0] (nav [2,0] g26p26)
def g26p32:Pt:=nav [1] g26p30
def g26p35:Pt:=nav [0,0] (nav [2,0] g26p30)
def g26p36:Pt:=nav [1] g26p35
def g26p38:Pt:=nav [0,0] (nav [2,0] g26p35)
def g26p39:Pt:=nav [1] g26p38
def g26p41:Pt:=nav [0,0] (nav [2,0] g26p38)
def g26p43:Pt:=nav [2] g26p41
def g26p44:Pt:=nav [0,0,0,0] (nav [1,0] g26p41)
def g26p45:Pt:=nav [0,0] g26p44
def g26p47:Pt:=nav [2,0,0] g26p45
def g26p48:Pt:=nav [0,0] g26p47
def g26p49:Pt:=nav [1] g26p48
def qIh (k:Nat)  (a0:LN) (n:Int) (ih:Int→Option (S33×Int)):Int→Option (S33×Int) :=
 λ(a:Int)=>jn (λ(b:Bool×Int)=>if b.1 then (ih (fW .i64 (b.2+1))) else ((subL a0 (some n) (some b.2)).bind λc=>(g37 k c).bind λg=>some ((⟨(11:Int),g,n⟩:S33),(0:Int)))) (λj=>if (decide (a < (a0.length:Int))) then ((nthS a0 a).bind λh=>j (!decide (h=10),a)) else (j (false,a)))
def qDo (k:Nat)  (a0:LN) (a:Int) (n:Nat):Int→Option (S33×Int):=lp (λ_=>none) (qIh k a0 a) n
theorem qRw (k:Nat)  (a0:LN) (o:Int) (n:Nat) (a:Int):qDo k a0 o (n+1) a=(jn (λ(b:Bool×Int)=>if b.1 then ((qDo k a0 o n) (fW .i64 (b.2+1))) else ((subL a0 (some o) (some b.2)).bind λc=>(g37 k c).bind λg=>some ((⟨(11:Int),g,o⟩:S33),(0:Int)))) (λj=>if (decide (a < (a0.length:Int))) then ((nthS a0 a).bind λh=>j (!decide (h=10),a)) else (j (false,a)))):=rfl
theorem qOk (k:Nat)   (a0:LN) (h:Int)  : ∀ (n:Nat) (a:Int),Ok Xg26 g26p11 [(0,.str a0),(1,.i h),(4,.ptr 0 3 0),(9,.i a)] (mkH [⟨[.i 0,.str [],.i 0],0,false⟩]) (qDo k a0 h n a):=by
 intro n
 induction n with
 | zero=>intro a; exact ok_none
 | succ n ih =>
  intro a
  show Ok _ _ _ _ (qIh k a0 h (qDo k a0 h n) a)
  unfold qIh
  refine qAi (p':=nav [0] g26p11) Kr ?_
  let E:Env:=[(34,.bool (decide (a < (a0.length:Int)))),(33,.bool (decide (a < (a0.length:Int)))),(32,.i (a0.length:Int)),(31,.str a0),(30,.i a),(0,.str a0),(1,.i h),(4,.ptr 0 3 0),(9,.i a)]
  let o:Blk:=⟨[.i 0,.str [],.i 0],0,false⟩
  refine oH 8 (atN 5 (ctl1 g26p13)) E (mkH [o]) ?_
  refine oJ g26p16 (λ(b:Bool×Int)=>[(0,.str a0),(1,.i h),(4,.ptr 0 3 0),(9,.i b.2),(39,.bool b.1)]) (λ(b:Bool×Int)=>(mkH [o])) (λb=>?_) (λI q=>?_)
  ·refine oS 39 (λD=>?_) (λD=>?_)
   ·refine oLH 8 g26p11 [(0,.str a0),(1,.i h),(4,.ptr 0 3 0),(9,.i (fW .i64 (b.2+1)))] (mkH [o]) ?_
    exact ih (fW .i64 (b.2+1))
   ·refine oH 7 (atN 3 (ctl1 g26p20)) [(44,.i b.2),(43,.i h),(42,.str a0),(39,.bool false),(0,.str a0),(1,.i h),(4,.ptr 0 3 0),(9,.i b.2),(39,.bool b.1)] (mkH [o]) ?_
    refine oC (λ(c:LN)=>(.str c,(mkH [o]))) (atN 4 (ctl1 g26p20)) 45 (subH (some h) (some b.2) Kr) λc u=>?_
    refine oA (λ(j:LN) => .str j) (atN 5 (ctl1 g26p20)) 46 [.str c] (g37_ok k c) λj x=>?_
    exact oQ 6
  ·refine oS 34 (λD=>?_) (λD=>?_)
   ·refine oH 2 (atN 7 (ctl1 g26p13)) ((36,.i a)::(35,.str a0)::(34,.bool true)::E) (mkH [o]) ?_
    refine oC (λ(g:Int)=>(.y g,(mkH [o]))) (atN 8 (ctl1 g26p13)) 37 (idxH Kr) λg z=>?_
    refine oLH 3 g26p16 [(0,.str a0),(1,.i h),(4,.ptr 0 3 0),(9,.i a),(39,.bool (!decide (g=10)))] (mkH [o]) ?_
    exact q (!decide (g=10),a)
   ·refine oLH 6 g26p16 [(0,.str a0),(1,.i h),(4,.ptr 0 3 0),(9,.i a),(39,.bool false)] (mkH [o]) ?_
    exact q (false,a)
def g26 (k:Nat) (a0:LN) (b:Int):Option (S33×Int) :=
 jn (λ(a5:Bool)=>if a5 then (some ((⟨(0:Int),([]:LN),(0:Int)⟩:S33),(4:Int))) else ((nthS a0 b).bind λa=>if (decide (a=37)) then (qDo k a0 b k b) else (jn (λ(a6:Bool)=>jn (λ(q:Int×Int)=>if (decide (q.2=0)) then (some ((⟨(0:Int),([]:LN),(0:Int)⟩:S33),(4:Int))) else ((subL a0 (some b) (some (fW .i64 (b+q.2)))).bind λu=>some ((⟨q.1,u,b⟩:S33),(0:Int)))) (λc=>if a6 then (c (10,1)) else ((g38 k a).bind λN=>if (decide (N=3)) then ((g39 k a0 b).bind λo=>some (o.1,o.2)) else ((g38 k a).bind λO=>if (decide (0 < O)) then ((g38 k a).bind λQ=>(g40 k a0 b).bind λg=>(subL a0 (some b) (some (fW .i64 (b+fW .i64 (g - b))))).bind λS=>(g41 k S).bind λT=>if T then (c (8,fW .i64 (g - b))) else (c (Q,fW .i64 (g - b)))) else (if (decide (a=39)) then ((g42 k a0 b).bind λU=>c (1,U)) else (if (decide (a=34)) then ((g42 k a0 b).bind λY=>c (6,Y)) else (if (decide (a=36)) then ((g43 k a0 b).bind λZ=>c (5,Z)) else (if (decide (a=63)) then (jn (λ(a7:Bool)=>jn (λ(h:Int)=>jn (λ(a8:Bool)=>if a8 then ((g40 k a0 h).bind λx=>c (7,fW .i64 (x - b))) else (c (0,0))) (λz=>if (decide (h < (a0.length:Int))) then ((nthS a0 h).bind λD=>(g44 k D).bind λE=>if E then (z true) else ((nthS a0 h).bind λj=>z (decide (j=95)))) else (z false))) (λa2=>if a7 then (a2 (fW .i64 (fW .i64 (b+1)+1))) else (a2 (fW .i64 (b+1))))) (λa3=>if (decide (fW .i64 (b+1) < (a0.length:Int))) then ((nthS a0 (fW .i64 (b+1))).bind λI=>a3 (decide (I=63))) else (a3 false))) else ((g45 k a0 b).bind λJ=>c (9,J)))))))))) (λn=>if (decide (a=46)) then (if (decide (fW .i64 (b+1)=(a0.length:Int))) then (n true) else ((nthS a0 (fW .i64 (b+1))).bind λK=>if (decide (K=37)) then (n true) else ((g25 k a0 (fW .i64 (b+1))).bind λM=>n (decide (fW .i64 (b+1) < M))))) else (n false))))) (λa4=>if (decide (b < 0)) then (a4 true) else (a4 (decide ((a0.length:Int)≤b))))
theorem g26_ok (k:Nat) (a0:LN) (b:Int) (r:(S33×Int)) (h:g26 k a0 b=some r):PureOk Try.prog 26 [.str a0,.i b] (.tuple [.agg [.i r.1.f0,.str r.1.f1,.i r.1.f2],.i r.2]):=by
 refine qA4 Xg26 (λ_=>⟨rfl,rfl⟩) Try.func26 (by decide +kernel) Kr (t:=g26 k a0 b) ?_ h
 unfold g26
 refine qA (eE:=[(0,.str a0),(1,.i b)]) Kr ?_
 let g:Blk:=⟨[.i 0,.str [],.i 0],0,false⟩
 refine oH 11 (atN 3 (ctl1 g26p1)) [(13,.bool (decide (b < 0))),(12,.bool (decide (b < 0))),(11,.i b),(5,.i 0),(4,.ptr 0 3 0),(0,.str a0),(1,.i b)] (mkH [g]) ?_
 refine oJ g26p2 (λ(a6:Bool)=>[(0,.str a0),(1,.i b),(4,.ptr 0 3 0),(18,.bool a6)]) (λ(a6:Bool)=>(mkH [g])) (λa6=>?_) (λg0 b1=>?_)
 ·refine oS 18 (λc=>?_) (λc=>?_)
  ·exact oQ 8
  ·refine oH 6 (atN 2 (ctl1 g26p4)) [(21,.i b),(20,.str a0),(18,.bool false),(0,.str a0),(1,.i b),(4,.ptr 0 3 0),(18,.bool a6)] (mkH [g]) ?_
   refine oC (λ(a:Int)=>(.y a,(mkH [g]))) (atN 3 (ctl1 g26p4)) 22 (idxH Kr) λa d5=>?_
   let E5:Env:=[(0,.str a0),(1,.i b),(4,.ptr 0 3 0),(6,.y a),(7,.i 0),(8,.i 0),(26,.bool (decide (a=37)))]
   refine oLH 15 g26p8 E5 (mkH [g]) ?_
   refine oS 26 (λc=>?_) (λc=>?_)
   ·refine oL 9 g26p11 [(0,.str a0),(1,.i b),(4,.ptr 0 3 0),(9,.i b)] ?_
    exact (qOk k a0 b k) b
   ·refine oR 6 (atN 3 (ctl1 g26p10)) ((52,.bool (decide (a=46)))::(51,.bool (decide (a=46)))::(50,.y a)::(26,.bool false)::E5) ?_
    refine oJ g26p12 (λ(a7:Bool)=>[(0,.str a0),(1,.i b),(4,.ptr 0 3 0),(6,.y a),(7,.i 0),(8,.i 0),(49,.bool a7)]) (λ(a7:Bool)=>(mkH [g])) (λa7=>?_) (λg1 Q=>?_)
    ·refine oJ g26p17 (λ(x:Int×Int)=>[(0,.str a0),(1,.i b),(4,.ptr 0 3 0),(7,.i x.1),(8,.i x.2)]) (λ(x:Int×Int)=>(mkH [g])) (λx=>?_) (λg2 q=>?_)
     ·let b9:Env:=[(159,.bool (decide (x.2=0))),(158,.i x.2),(0,.str a0),(1,.i b),(4,.ptr 0 3 0),(7,.i x.1),(8,.i x.2)]
      refine oH 4 g26p21 b9 (mkH [g]) ?_
      refine oS 159 (λc=>?_) (λc=>?_)
      ·exact oQ 8
      ·refine oR 10 (atN 6 (ctl1 g26p25)) ((166,.i (fW .i64 (b+x.2)))::(165,.i x.2)::(164,.i b)::(163,.i b)::(162,.str a0)::(161,.i x.1)::(159,.bool false)::b9) ?_
       refine oC (λ(Z:LN)=>(.str Z,(mkH [g]))) (atN 7 (ctl1 g26p25)) 167 (subH (some b) (some (fW .i64 (b+x.2))) Kr) λZ c5=>?_
       exact oQ 6
     ·refine oS 49 (λc=>?_) (λc=>?_)
      ·refine oLH 7 g26p17 [(0,.str a0),(1,.i b),(4,.ptr 0 3 0),(7,.i 10),(8,.i 1)] (mkH [g]) ?_
       exact q (10,1)
      ·let a8:Env:=[(76,.y a),(49,.bool false),(0,.str a0),(1,.i b),(4,.ptr 0 3 0),(6,.y a),(7,.i 0),(8,.i 0),(49,.bool a7)]
       refine oH 4 (atN 1 (ctl1 g26p15)) a8 (mkH [g]) ?_
       refine oA (λ(n:Int) => .i n) (atN 2 (ctl1 g26p15)) 77 [.y a] (qRt k a) λn d9=>?_
       refine oR 3 g26p18 ((75,.bool (decide (n=3)))::(78,.bool (decide (n=3)))::(77,.i n)::a8) ?_
       refine oS 75 (λc=>?_) (λc=>?_)
       ·refine oR 5 (atN 2 (ctl1 g26p22)) ((80,.i b)::(79,.str a0)::(75,.bool true)::(75,.bool (decide (n=3)))::(78,.bool (decide (n=3)))::(77,.i n)::a8) ?_
        refine oA (λ(a2:(S33×Int)) => .tuple [n34 a2.1,.i a2.2]) (atN 3 (ctl1 g26p22)) 81 [.str a0,.i b] (g39_ok k a0 b) λa2 e0=>?_
        exact oQ 6
       ·refine oR 4 (atN 1 (ctl1 g26p23)) ((85,.y a)::(75,.bool false)::(75,.bool (decide (n=3)))::(78,.bool (decide (n=3)))::(77,.i n)::a8) ?_
        refine oA (λ(a3:Int) => .i a3) (atN 2 (ctl1 g26p23)) 86 [.y a] (qRt k a) λa3 e1=>?_
        let a4:Env:=[(0,.str a0),(1,.i b),(4,.ptr 0 3 0),(6,.y a),(7,.i 0),(8,.i 0),(84,.bool (decide (0 < a3)))]
        refine oL 3 g26p26 a4 ?_
        refine oS 84 (λc=>?_) (λc=>?_)
        ·refine oR 4 (atN 1 (ctl1 g26p27)) ((88,.y a)::(84,.bool true)::a4) ?_
         refine oA (λ(E:Int) => .i E) (atN 2 (ctl1 g26p27)) 89 [.y a] (qRt k a) λE f3=>?_
         refine oR 2 (atN 4 (ctl1 g26p27)) ((91,.i b)::(90,.str a0)::(89,.i E)::(88,.y a)::(84,.bool true)::a4) ?_
         refine oA (λ(o:Int) => .i o) (atN 5 (ctl1 g26p27)) 92 [.str a0,.i b] (g40_ok k a0 b) λo f4=>?_
         let c0:Env:=[(0,.str a0),(1,.i b),(4,.ptr 0 3 0),(7,.i E),(8,.i (fW .i64 (o - b)))]
         refine oL 6 g26p29 c0 ?_
         let b4:Env:=((99,.i (fW .i64 (b+fW .i64 (o - b))))::(98,.i (fW .i64 (o - b)))::(97,.i b)::(96,.i b)::(95,.str a0)::c0)
         refine oR 6 (atN 5 (ctl1 g26p29)) b4 ?_
         refine oC (λ(I:LN)=>(.str I,(mkH [g]))) (atN 6 (ctl1 g26p29)) 100 (subH (some b) (some (fW .i64 (b+fW .i64 (o - b)))) Kr) λI f5=>?_
         refine oA (λ(S:Bool) => .bool S) (atN 7 (ctl1 g26p29)) 101 [.str I] (g41_ok k I) λS f6=>?_
         refine oH 1 (nav [0,0] g26p29) ((101,.bool S)::(100,.str I)::b4) (mkH [g]) ?_
         refine oS 101 (λc=>?_) (λc=>?_)
         ·refine oL 6 g26p17 [(0,.str a0),(1,.i b),(4,.ptr 0 3 0),(7,.i 8),(8,.i (fW .i64 (o - b)))] ?_
          exact q (8,fW .i64 (o - b))
         ·refine oR 4 g26p17 ((101,.bool false)::(101,.bool S)::(100,.str I)::b4) ?_
          refine oK [0,1,4,7,8] [(0,.str a0),(1,.i b),(4,.ptr 0 3 0),(7,.i E),(8,.i (fW .i64 (o - b)))] ?_
          exact q (E,fW .i64 (o - b))
        ·refine oR 7 g26p30 ((102,.bool (decide (a=39)))::(104,.bool (decide (a=39)))::(103,.y a)::(84,.bool false)::a4) ?_
         refine oS 102 (λc=>?_) (λc=>?_)
         ·refine oR 4 (atN 2 (ctl1 g26p32)) ((106,.i b)::(105,.str a0)::(102,.bool true)::(102,.bool (decide (a=39)))::(104,.bool (decide (a=39)))::(103,.y a)::(84,.bool false)::a4) ?_
          refine oA (λ(T:Int) => .i T) (atN 3 (ctl1 g26p32)) 107 [.str a0,.i b] (g42_ok k a0 b) λT f7=>?_
          refine oL 5 g26p17 [(0,.str a0),(1,.i b),(4,.ptr 0 3 0),(7,.i 1),(8,.i T)] ?_
          exact q (1,T)
         ·let a9:Env:=[(0,.str a0),(1,.i b),(4,.ptr 0 3 0),(6,.y a),(7,.i 0),(8,.i 0),(108,.bool (decide (a=34)))]
          refine oL 7 g26p35 a9 ?_
          refine oS 108 (λc=>?_) (λc=>?_)
          ·refine oR 4 (atN 2 (ctl1 g26p36)) ((112,.i b)::(111,.str a0)::(108,.bool true)::a9) ?_
           refine oA (λ(U:Int) => .i U) (atN 3 (ctl1 g26p36)) 113 [.str a0,.i b] (g42_ok k a0 b) λU f8=>?_
           refine oL 5 g26p17 [(0,.str a0),(1,.i b),(4,.ptr 0 3 0),(7,.i 6),(8,.i U)] ?_
           exact q (6,U)
          ·refine oR 7 g26p38 ((114,.bool (decide (a=36)))::(116,.bool (decide (a=36)))::(115,.y a)::(108,.bool false)::a9) ?_
           refine oS 114 (λc=>?_) (λc=>?_)
           ·refine oR 4 (atN 2 (ctl1 g26p39)) ((118,.i b)::(117,.str a0)::(114,.bool true)::(114,.bool (decide (a=36)))::(116,.bool (decide (a=36)))::(115,.y a)::(108,.bool false)::a9) ?_
            refine oA (λ(Y:Int) => .i Y) (atN 3 (ctl1 g26p39)) 119 [.str a0,.i b] (g43_ok k a0 b) λY f9=>?_
            refine oL 5 g26p17 [(0,.str a0),(1,.i b),(4,.ptr 0 3 0),(7,.i 5),(8,.i Y)] ?_
            exact q (5,Y)
           ·let b5:Env:=[(0,.str a0),(1,.i b),(4,.ptr 0 3 0),(7,.i 0),(8,.i 0),(120,.bool (decide (a=63)))]
            refine oL 7 g26p41 b5 ?_
            refine oS 120 (λc=>?_) (λc=>?_)
            ·let c1:Env:=((129,.bool (decide (fW .i64 (b+1) < (a0.length:Int))))::(128,.bool (decide (fW .i64 (b+1) < (a0.length:Int))))::(127,.i (a0.length:Int))::(126,.str a0)::(125,.i (fW .i64 (b+1)))::(10,.i (fW .i64 (b+1)))::(124,.i (fW .i64 (b+1)))::(123,.i b)::(120,.bool true)::b5)
             refine oR 15 (atN 5 (ctl1 g26p44)) c1 ?_
             refine oJ g26p45 (λ(b6:Bool)=>[(0,.str a0),(1,.i b),(4,.ptr 0 3 0),(7,.i 0),(8,.i 0),(10,.i (fW .i64 (b+1))),(134,.bool b6)]) (λ(b6:Bool)=>(mkH [g])) (λb6=>?_) (λg3 b2=>?_)
             ·refine oJ g26p47 (λ(j:Int)=>[(0,.str a0),(1,.i b),(4,.ptr 0 3 0),(7,.i 0),(8,.i 0),(10,.i j)]) (λ(j:Int)=>(mkH [g])) (λj=>?_) (λg4 b3=>?_)
              ·let b7:Env:=[(141,.bool (decide (j < (a0.length:Int)))),(140,.bool (decide (j < (a0.length:Int)))),(139,.i (a0.length:Int)),(138,.str a0),(137,.i j),(0,.str a0),(1,.i b),(4,.ptr 0 3 0),(7,.i 0),(8,.i 0),(10,.i j)]
               refine oH 6 (atN 5 (ctl1 g26p47)) b7 (mkH [g]) ?_
               refine oJ g26p48 (λ(b0:Bool)=>[(0,.str a0),(1,.i b),(4,.ptr 0 3 0),(7,.i 0),(8,.i 0),(10,.i j),(152,.bool b0)]) (λ(b0:Bool)=>(mkH [g])) (λb0=>?_) (λg5 a5=>?_)
               ·refine oS 152 (λc=>?_) (λc=>?_)
                ·refine oH 4 (atN 2 (ctl1 g26p49)) [(154,.i j),(153,.str a0),(152,.bool true),(0,.str a0),(1,.i b),(4,.ptr 0 3 0),(7,.i 0),(8,.i 0),(10,.i j),(152,.bool b0)] (mkH [g]) ?_
                 refine oA (λ(J:Int) => .i J) (atN 3 (ctl1 g26p49)) 155 [.str a0,.i j] (g40_ok k a0 j) λJ c6=>?_
                 refine oL 7 g26p17 [(0,.str a0),(1,.i b),(4,.ptr 0 3 0),(7,.i 7),(8,.i (fW .i64 (J - b)))] ?_
                 exact q (7,fW .i64 (J - b))
                ·refine oLH 4 g26p17 [(0,.str a0),(1,.i b),(4,.ptr 0 3 0),(7,.i 0),(8,.i 0)] (mkH [g]) ?_
                 exact q (0,0)
               ·refine oS 141 (λc=>?_) (λc=>?_)
                ·refine oH 2 (atN 7 (ctl1 g26p47)) ((143,.i j)::(142,.str a0)::(141,.bool true)::b7) (mkH [g]) ?_
                 refine oC (λ(D:Int)=>(.y D,(mkH [g]))) (atN 8 (ctl1 g26p47)) 144 (idxH Kr) λD c8=>?_
                 refine oA (λ(K:Bool) => .bool K) (atN 9 (ctl1 g26p47)) 145 [.y D] (g44_ok k D) λK d0=>?_
                 let c2:Env:=((146,.bool K)::(145,.bool K)::(144,.y D)::(143,.i j)::(142,.str a0)::(141,.bool true)::b7)
                 refine oH 1 (atN 10 (ctl1 g26p47)) c2 (mkH [g]) ?_
                 refine oS 146 (λc=>?_) (λc=>?_)
                 ·refine oL 7 g26p48 [(0,.str a0),(1,.i b),(4,.ptr 0 3 0),(7,.i 0),(8,.i 0),(10,.i j),(152,.bool true)] ?_
                  exact a5 true
                 ·refine oR 2 (atN 12 (ctl1 g26p47)) ((148,.i j)::(147,.str a0)::(146,.bool false)::c2) ?_
                  refine oC (λ(z:Int)=>(.y z,(mkH [g]))) (atN 13 (ctl1 g26p47)) 149 (idxH Kr) λz c3=>?_
                  refine oLH 4 g26p48 [(0,.str a0),(1,.i b),(4,.ptr 0 3 0),(7,.i 0),(8,.i 0),(10,.i j),(152,.bool (decide (z=95)))] (mkH [g]) ?_
                  exact a5 (decide (z=95))
                ·refine oLH 12 g26p48 [(0,.str a0),(1,.i b),(4,.ptr 0 3 0),(7,.i 0),(8,.i 0),(10,.i j),(152,.bool false)] (mkH [g]) ?_
                 exact a5 false
              ·refine oS 134 (λc=>?_) (λc=>?_)
               ·refine oLH 7 g26p47 [(0,.str a0),(1,.i b),(4,.ptr 0 3 0),(7,.i 0),(8,.i 0),(10,.i (fW .i64 (fW .i64 (b+1)+1)))] (mkH [g]) ?_
                exact b3 (fW .i64 (fW .i64 (b+1)+1))
               ·refine oLH 3 g26p47 [(0,.str a0),(1,.i b),(4,.ptr 0 3 0),(7,.i 0),(8,.i 0),(10,.i (fW .i64 (b+1)))] (mkH [g]) ?_
                exact b3 (fW .i64 (b+1))
             ·refine oS 129 (λc=>?_) (λc=>?_)
              ·refine oH 2 (atN 7 (ctl1 g26p44)) ((131,.i (fW .i64 (b+1)))::(130,.str a0)::(129,.bool true)::c1) (mkH [g]) ?_
               refine oC (λ(M:Int)=>(.y M,(mkH [g]))) (atN 8 (ctl1 g26p44)) 132 (idxH Kr) λM d1=>?_
               refine oLH 3 g26p45 [(0,.str a0),(1,.i b),(4,.ptr 0 3 0),(7,.i 0),(8,.i 0),(10,.i (fW .i64 (b+1))),(134,.bool (decide (M=63)))] (mkH [g]) ?_
               exact b2 (decide (M=63))
              ·refine oLH 6 g26p45 [(0,.str a0),(1,.i b),(4,.ptr 0 3 0),(7,.i 0),(8,.i 0),(10,.i (fW .i64 (b+1))),(134,.bool false)] (mkH [g]) ?_
               exact b2 false
            ·refine oR 4 (atN 2 (ctl1 g26p43)) ((24,.i b)::(23,.str a0)::(120,.bool false)::b5) ?_
             refine oA (λ(N:Int) => .i N) (atN 3 (ctl1 g26p43)) 25 [.str a0,.i b] (g45_ok k a0 b) λN d2=>?_
             refine oL 5 g26p17 [(0,.str a0),(1,.i b),(4,.ptr 0 3 0),(7,.i 9),(8,.i N)] ?_
             exact q (9,N)
    ·refine oS 52 (λc=>?_) (λc=>?_)
     ·let b8:Env:=((58,.bool (decide (fW .i64 (b+1)=(a0.length:Int))))::(57,.bool (decide (fW .i64 (b+1)=(a0.length:Int))))::(56,.i (a0.length:Int))::(55,.str a0)::(54,.i (fW .i64 (b+1)))::(53,.i b)::(52,.bool true)::(52,.bool (decide (a=46)))::(51,.bool (decide (a=46)))::(50,.y a)::(26,.bool false)::E5)
      refine oH 6 (atN 9 (ctl1 g26p10)) b8 (mkH [g]) ?_
      refine oS 58 (λc=>?_) (λc=>?_)
      ·refine oL 18 g26p12 [(0,.str a0),(1,.i b),(4,.ptr 0 3 0),(6,.y a),(7,.i 0),(8,.i 0),(49,.bool true)] ?_
       exact Q true
      ·refine oR 3 (atN 12 (ctl1 g26p10)) ((61,.i (fW .i64 (b+1)))::(60,.i b)::(59,.str a0)::(58,.bool false)::b8) ?_
       refine oC (λ(u:Int)=>(.y u,(mkH [g]))) (atN 13 (ctl1 g26p10)) 62 (idxH Kr) λu d3=>?_
       let c4:Env:=((65,.bool (decide (u=37)))::(64,.bool (decide (u=37)))::(63,.bool (decide (u=37)))::(62,.y u)::(61,.i (fW .i64 (b+1)))::(60,.i b)::(59,.str a0)::(58,.bool false)::b8)
       refine oH 3 (atN 16 (ctl1 g26p10)) c4 (mkH [g]) ?_
       refine oS 65 (λc=>?_) (λc=>?_)
       ·refine oL 11 g26p12 [(0,.str a0),(1,.i b),(4,.ptr 0 3 0),(6,.y a),(7,.i 0),(8,.i 0),(49,.bool true)] ?_
        exact Q true
       ·refine oR 3 (atN 19 (ctl1 g26p10)) ((68,.i (fW .i64 (b+1)))::(67,.i b)::(66,.str a0)::(65,.bool false)::c4) ?_
        refine oA (λ(O:Int) => .i O) (atN 20 (ctl1 g26p10)) 69 [.str a0,.i (fW .i64 (b+1))] (qRx k a0 (fW .i64 (b+1))) λO d4=>?_
        refine oL 7 g26p12 [(0,.str a0),(1,.i b),(4,.ptr 0 3 0),(6,.y a),(7,.i 0),(8,.i 0),(49,.bool (decide (fW .i64 (b+1) < O)))] ?_
        exact Q (decide (fW .i64 (b+1) < O))
     ·refine oLH 24 g26p12 [(0,.str a0),(1,.i b),(4,.ptr 0 3 0),(6,.y a),(7,.i 0),(8,.i 0),(49,.bool false)] (mkH [g]) ?_
      exact Q false
 ·refine oS 13 (λc=>?_) (λc=>?_)
  ·refine oLH 6 g26p2 [(0,.str a0),(1,.i b),(4,.ptr 0 3 0),(18,.bool true)] (mkH [g]) ?_
   exact b1 true
  ·refine oLH 6 g26p2 [(0,.str a0),(1,.i b),(4,.ptr 0 3 0),(18,.bool (decide ((a0.length:Int)≤b)))] (mkH [g]) ?_
   exact b1 (decide ((a0.length:Int)≤b))
def Xg13:Fx ((List S33)×Int):=⟨Try.prog,cx,Try.f13,λr => .tuple [w34 r.1,.i r.2],0,λ_=>H0,cxTi,cxOrd,λ_=>none,false⟩
def g13p2:Pt:=nav [0,0] (nav [0,0,0,0] (nav [0] (bodyAt Try.f13)))
def g13p4:Pt:=nav [2,0,0,0] g13p2
def g13p6:Pt:=nav [0,0] g13p4
def g13p8:Pt:=nav [2,0,0] g13p6
def g13p9:Pt:=nav [0,0,0,0] g13p8
def g13p10:Pt:=nav [0,0,0,0] g13p9
def g13p12:Pt:=nav [0,0] (nav [0,0,0] g13p10)
def g13p13:Pt:=nav [1,0,0,0] g13p12
def g13p15:Pt:=nav [0,0,0,0] g13p13
def g13p16:Pt:=nav [0,0] g13p15
def g13p18:Pt:=nav [2,0,0] g13p16
def g13p19:Pt:=nav [0,0] g13p18
def qL1 (k:Nat)  (a0:LN) (ih:Int→(List S33)→Option ((List S33)×Int)):Int→(List S33)→Option ((List S33)×Int) :=
 λ(b:Int) (c:List S33)=>if (decide (b < (a0.length:Int))) then ((g26 k a0 b).bind λa=>if (!decide (a.2=0)) then (some (([]:List S33),a.2)) else ((appS 32 c ([a.1]:List S33)).bind λg=>(g25 k a0 (fW .i64 (b+(a.1.f1.length:Int)))).bind λh=>ih h g)) else (some (c,(0:Int)))
def qHl (k:Nat)  (a0:LN) (n:Nat):Int→(List S33)→Option ((List S33)×Int):=lp (λ_ _=>none) (qL1 k a0) n
theorem g13_l5_s (k:Nat)  (a0:LN) (n:Nat) (a:Int) (c:List S33):qHl k a0 (n+1) a c=(if (decide (a < (a0.length:Int))) then ((g26 k a0 a).bind λb=>if (!decide (b.2=0)) then (some (([]:List S33),b.2)) else ((appS 32 c ([b.1]:List S33)).bind λg=>(g25 k a0 (fW .i64 (a+(b.1.f1.length:Int)))).bind λh=>(qHl k a0 n) h g)) else (some (c,(0:Int)))):=rfl
theorem qS3 (k:Nat)   (a0:LN)  : ∀ (n:Nat) (b:Int) (c:List S33),Ok Xg13 g13p10 [(0,.str a0),(4,.own 0 (c).length 3),(5,.i b)] (mkH [⟨(c).flatMap e34,0,false⟩]) (qHl k a0 n b c):=by
 intro n
 induction n with
 | zero=>intro b c; exact ok_none
 | succ n ih =>
  intro b c
  show Ok _ _ _ _ (qL1 k a0 (qHl k a0 n) b c)
  unfold qL1
  refine qAi (p':=nav [0] g13p10) Kr ?_
  let o:Env:=[(19,.bool (decide (b < (a0.length:Int)))),(18,.i (a0.length:Int)),(17,.str a0),(16,.i b),(0,.str a0),(4,.own 0 (c).length 3),(5,.i b)]
  let q:Blk:=⟨(c).flatMap e34,0,false⟩
  refine oH 8 g13p12 o (mkH [q]) ?_
  refine oS 19 (λu=>?_) (λu=>?_)
  ·refine oR 7 (atN 2 (ctl1 g13p13)) ((22,.i b)::(21,.str a0)::(19,.bool true)::o) ?_
   refine oA (λ(a:(S33×Int)) => .tuple [n34 a.1,.i a.2]) (atN 3 (ctl1 g13p13)) 23 [.str a0,.i b] (g26_ok k a0 b) λa x=>?_
   let j:Env:=[(0,.str a0),(4,.own 0 (c).length 3),(5,.i b),(6,.ptr 1 3 0),(7,.i a.2)]
   refine oLH 9 g13p15 j (mkH [q,⟨e34 a.1,3,false⟩]) ?_
   refine oR 4 g13p16 ((27,.bool (!decide (a.2=0)))::(26,.i a.2)::j) ?_
   refine oS 27 (λu=>?_) (λu=>?_)
   ·refine oR 8 .fin ((3,.i a.2)::(2,.nils)::(28,.i a.2)::(27,.bool true)::(27,.bool (!decide (a.2=0)))::(26,.i a.2)::j) ?_
    exact oT [.nils,.i a.2] (.tuple [.vec 0 3 [],.i a.2]) (.tuple (.nil .ps) .ps)
   ·let E:List Blk:=[q,⟨e34 a.1,3,false⟩,⟨e34 a.1,0,false⟩]
    refine oH 7 (atN 3 (ctl1 g13p18)) ((31,.slice 2 3 0 1 3)::(30,n34 a.1)::(29,.own 0 (c).length 3)::(27,.bool false)::(27,.bool (!decide (a.2=0)))::(26,.i a.2)::j) (mkH E) ?_
    refine oC (λ(g:List S33)=>(.own 0 (g).length 3,(mkH [⟨(g).flatMap e34,0,false⟩,⟨e34 a.1,3,false⟩,⟨e34 a.1,0,false⟩]))) (atN 4 (ctl1 g13p18)) 32 (appH (sz:=3) qAk rfl e34_one E 0 32 c ([a.1]:List S33) rfl rfl Kr) λg z=>?_
    let I:Blk:=⟨(g).flatMap e34,0,false⟩
    refine oLH 2 g13p19 [(0,.str a0),(4,.own 0 (g).length 3),(5,.i b),(6,.ptr 1 3 0)] (mkH [I,⟨e34 a.1,3,false⟩,⟨e34 a.1,0,false⟩]) ?_
    refine oR 7 (atN 6 (ctl1 g13p19)) ((38,.i (fW .i64 (b+(a.1.f1.length:Int))))::(37,.i (a.1.f1.length:Int))::(36,.str a.1.f1)::(35,.ptr 1 3 1)::(34,.i b)::(33,.str a0)::[(0,.str a0),(4,.own 0 (g).length 3),(5,.i b),(6,.ptr 1 3 0)]) ?_
    refine oA (λ(h:Int) => .i h) (atN 7 (ctl1 g13p19)) 39 [.str a0,.i (fW .i64 (b+(a.1.f1.length:Int)))] (qRx k a0 (fW .i64 (b+(a.1.f1.length:Int)))) λh D=>?_
    refine oL 2 g13p10 [(0,.str a0),(4,.own 0 (g).length 3),(5,.i h)] ?_
    refine qAf [I] [⟨e34 a.1,3,false⟩,⟨e34 a.1,0,false⟩] Kr rfl Kr ⟨(qA3 _ (u34 _)),trivial⟩ ?_
    exact ih h g
  ·refine oR 9 .fin ((3,.i 0)::(2,.own 0 (c).length 3)::(40,.own 0 (c).length 3)::(19,.bool false)::o) ?_
   exact oT [.own 0 (c).length 3,.i 0] (.tuple [w34 c,.i 0]) (.tuple (qAr qAk qSe rfl rfl rfl .ps) .ps)
def g13 (k:Nat) (a0:LN):Option ((List S33)×Int) :=
 if (decide (65536 < (a0.length:Int))) then (some (([]:List S33),(3:Int))) else ((g24 k a0).bind λa=>if (!a) then (some (([]:List S33),(2:Int))) else ((g25 k a0 (0:Int)).bind λb=>qHl k a0 k b ([]:List S33)))
theorem g13_ok (k:Nat) (a0:LN) (r:((List S33)×Int)) (h:g13 k a0=some r):PureOk Try.prog 13 [.str a0] (.tuple [w34 r.1,.i r.2]):=by
 refine qA4 Xg13 (λ_=>⟨rfl,rfl⟩) Try.func13 (by decide +kernel) Kr (t:=g13 k a0) ?_ h
 unfold g13
 refine qA (eE:=[(0,.str a0)]) Kr ?_
 let c:Env:=[(10,.bool (decide (65536 < (a0.length:Int)))),(9,.i (a0.length:Int)),(8,.str a0),(3,.i 0),(2,.nils),(0,.str a0)]
 refine oH 12 g13p2 c (mkH []) ?_
 refine oS 10 (λg=>?_) (λg=>?_)
 ·refine oR 7 .fin ((3,.i 3)::(2,.nils)::(10,.bool true)::c) ?_
  exact oT [.nils,.i 3] (.tuple [.vec 0 3 [],.i 3]) (.tuple (.nil .ps) .ps)
 ·refine oR 6 (atN 1 (ctl1 g13p4)) ((11,.str a0)::(10,.bool false)::c) ?_
  refine oA (λ(a:Bool) => .bool a) (atN 2 (ctl1 g13p4)) 12 [.str a0] (g24_ok k a0) λa j=>?_
  refine oL 2 g13p6 [(0,.str a0),(13,.bool (!a))] ?_
  let n:Env:=[(0,.str a0),(13,.bool (!a))]
  refine oS 13 (λg=>?_) (λg=>?_)
  ·refine oR 7 .fin ((3,.i 2)::(2,.nils)::(13,.bool true)::n) ?_
   exact oT [.nils,.i 2] (.tuple [.vec 0 3 [],.i 2]) (.tuple (.nil .ps) .ps)
  ·refine oR 5 (atN 1 (ctl1 g13p8)) ((4,.nils)::(13,.bool false)::n) ?_
   refine qGu [] 4 3 rfl Kr ?_
   refine oH 5 (atN 1 (ctl1 g13p9)) ((14,.str a0)::(4,.own 0 (([]:List S33)).length 3)::(4,.nils)::(13,.bool false)::n) (mkH [⟨(([]:List S33)).flatMap e34,0,false⟩]) ?_
   refine oA (λ(b:Int) => .i b) (atN 2 (ctl1 g13p9)) 15 [.str a0,.i 0] (qRx k a0 (0:Int)) λb o=>?_
   refine oL 4 g13p10 [(0,.str a0),(4,.own 0 (([]:List S33)).length 3),(5,.i b)] ?_
   exact (qS3 k a0 k) b ([]:List S33)
def Xg30:Fx S28:=⟨Try.prog,cx,Try.f30,λr => .agg [.i r.f0,.str r.f1,q29 r.f2,.bool r.f3,.bool r.f4,w9 r.f5,w9 r.f6],0,λ_=>H0,cxTi,cxOrd,λ_=>none,false⟩
def g30 (k:Nat) (a0:S28) (a:Int):Option S28 :=
 if (!decide (a=0)) then (some (⟨(0:Int),([]:LN),⟨0,[]⟩,false,false,([]:LL),([]:LL)⟩:S28)) else (some a0)
theorem g30_ok (k:Nat) (a0:S28) (a:Int) (r:S28) (h:g30 k a0 a=some r):PureOk Try.prog 30 [.agg [.i a0.f0,.str a0.f1,q29 a0.f2,.bool a0.f3,.bool a0.f4,w9 a0.f5,w9 a0.f6],.i a] (.agg [.i r.f0,.str r.f1,q29 r.f2,.bool r.f3,.bool r.f4,w9 r.f5,w9 r.f6]):=by
 refine qA4 Xg30 (λ_=>⟨rfl,rfl⟩) Try.func30 (by decide +kernel) Kr (t:=g30 k a0 a) ?_ h
 unfold g30
 refine qA (eE:=[(0,.agg [.i a0.f0,.str a0.f1,q29 a0.f2,.bool a0.f3,.bool a0.f4,w9 a0.f5,w9 a0.f6]),(1,.i a)]) Kr ?_
 let b:Env:=[(6,.bool (!decide (a=0))),(5,.i a),(4,.ptr 1 7 0),(2,.ptr 0 7 0),(0,n29 a0),(1,.i a)]
 refine oH 11 (nav [0,0] (nav [0,0,0,0] (nav [0] (bodyAt Try.f30)))) b (mkH [⟨e29 a0,0,false⟩,⟨[.i 0,.str [],.nils,.bool false,.bool false,.nils,.nils],0,false⟩]) ?_
 refine oS 6 (λc=>?_) (λc=>?_)
 ·refine oH 7 .fin ((7,.agg [.i 0,.str [],.nils,.bool false,.bool false,.nils,.nils])::(6,.bool true)::b) (mkH [⟨e29 a0,0,false⟩,⟨[.i 0,.str [],.nils,.bool false,.bool false,.nils,.nils],7,false⟩]) ?_
  exact oT [.agg [.i 0,.str [],.nils,.bool false,.bool false,.nils,.nils]] (.agg [.i 0,.str [],.vec 0 7 [],.bool false,.bool false,.vec 0 1 [],.vec 0 1 []]) (.agg (.cs (.cs (.nil (.cs (.cs (.nil (.nil .ps))))))) .ps)
 ·exact oQ 8
abbrev Ri3:Type:=(Int×Int×LN×Raw×Bool×Bool×LL×LL)
abbrev Ti3:Type:=Int→Int→LN→Raw→Bool→Bool→LL→LL→LN→(List S33)→Int→Int→Option (Option Ri3)
def Xi3 (a0:Int) (h:Int) (j:LN) (n:Raw) (o:Bool) (q:Bool) (u:LL) (x:LL) (c:LN) (g:List S33) (b:Int) (a:Int):Fx (Option Ri3):=⟨Try.prog,cx,Try.f28,λr=>match r with | some r => .tuple [] | none => .top,3,λr=>match r with | some r=>(mkH [⟨[.i a0],1,false⟩,⟨[.i r.1,.str r.2.2.1,q29 r.2.2.2.1,.bool r.2.2.2.2.1,.bool r.2.2.2.2.2.1,w9 r.2.2.2.2.2.2.1,w9 r.2.2.2.2.2.2.2],7,false⟩,⟨[.str c,w34 g,.i r.2.1,.i a],4,false⟩]) | none=>(mkH [⟨[.i a0],1,false⟩,⟨[.i h,.str j,q29 n,.bool o,.bool q,w9 u,w9 x],7,false⟩,⟨[.str c,w34 g,.i b,.i a],4,false⟩]),cxTi,cxOrd,λr=>match r with | some _=>none | none=>some (thrown,[2]),false⟩
def Pi3 (f:Ti3):Prop := ∀ a0 c g h j n o q u x a b,PQh (Xi3 a0 c g h j n o q u x a b) 28 [.ptr 2 4 0,.ptr 0 1 0,.ptr 1 7 0] (f a0 c g h j n o q u x a b)
def i3p0:Pt:=nav [] (bodyAt Try.f28)
def i3 (k:Nat) (a0:Int) (j:Int) (n:LN) (o:Raw) (q:Bool) (u:Bool) (x:LL) (z:LL) (g:LN) (h:List S33) (b:Int) (c:Int):Option (Option Ri3) :=
 bT (i5 k a0 g h b c) λa=>some (some (a.1.f0,a.2,a.1.f1,a.1.f2,a.1.f3,a.1.f4,a.1.f5,a.1.f6))
theorem i3_all (k:Nat):∀ a0 n o q u x z D g j b a r,i3 k a0 n o q u x z D g j b a=some r→CallT Try.prog 28 [.ptr 2 4 0,.ptr 0 1 0,.ptr 1 7 0] (mkH [⟨[.i a0],1,false⟩,⟨[.i n,.str o,q29 q,.bool u,.bool x,w9 z,w9 D],7,false⟩,⟨[.str g,w34 j,.i b,.i a],4,false⟩]) ((Xi3 a0 n o q u x z D g j b a).thr r) ((Xi3 a0 n o q u x z D g j b a).enc r) ((Xi3 a0 n o q u x z D g j b a).fin r):=by
 intro a0 n o q u x z D g j b a r h
 refine qA2 (Xi3 a0 n o q u x z D g j b a) Try.func28 Kr Kr rfl (t:=i3 k a0 n o q u x z D g j b a) ?_ h
 unfold i3
 refine qA (eE:=[(0,.ptr 2 4 0),(1,.ptr 0 1 0),(2,.ptr 1 7 0)]) Kr ?_
 let I:Blk:=⟨[.i n,.str o,q29 q,.bool u,.bool x,w9 z,w9 D],7,false⟩
 refine oH 3 (atN 2 (ctl1 i3p0)) [(5,.i a0),(4,.ptr 2 4 0),(0,.ptr 2 4 0),(1,.ptr 0 1 0),(2,.ptr 1 7 0)] (mkH [⟨[.i a0],1,false⟩,I,⟨[.str g,w34 j,.i b,.i a],4,false⟩]) ?_
 refine oX (λ(c:(S28×Int))=>n29 c.1) (λc=>[⟨[.i a0],1,false⟩,I,⟨[.str g,w34 j,.i c.2,.i a],4,false⟩]) (atN 3 (ctl1 i3p0)) 6 [2] [] [] [2] [] [.ptr 2 4 0,.i a0] (i5_ok k a0 g j b a) trivial (λ_=>trivial) trivial λc E=>?_
 exact oQF 2 [⟨[.i a0],1,false⟩,⟨e29 c.1,7,false⟩,⟨[.str g,w34 j,.i c.2,.i a],4,false⟩] 3 [] [] (.tuple []) .ps trivial
theorem i3_ok (k:Nat):Pi3 (i3 k):=λa0 c g j n o q u z D a b=>⟨λx h=>i3_all k a0 c g j n o q u z D a b (some x) h,λh=>⟨_,i3_all k a0 c g j n o q u z D a b none h⟩⟩
abbrev Ri0:Type:=(Int×Int×LL×LL×Int×LN×Raw×Bool×Bool)
abbrev Ti0:Type:=LN→(List S33)→Int→Int→Int→Int→LN→Raw→Bool→Bool→LL→LL→Option Ri0
def Xi0 (a0:LN) (g:List S33) (h:Int) (j:Int) (a:Int) (n:Int) (o:LN) (q:Raw) (u:Bool) (x:Bool) (b:LL) (c:LL):Fx Ri0:=⟨Try.prog,cx,Try.f27,λr => .tuple [.i r.1,.i r.2.1],2,λr=>(mkH [⟨[.i a],1,false⟩,⟨[.i r.2.2.2.2.1,.str r.2.2.2.2.2.1,q29 r.2.2.2.2.2.2.1,.bool r.2.2.2.2.2.2.2.1,.bool r.2.2.2.2.2.2.2.2,w9 r.2.2.1,w9 r.2.2.2.1],7,false⟩]),cxTi,cxOrd,λ_=>none,true⟩
def Pi0 (f:Ti0):Prop := ∀ a0 c g h j n o q u x a b,PNh (Xi0 a0 c g h j n o q u x a b) 27 [.str a0,w34 c,.i g,.i h,.func 28 [] [.ptr 0 1 0,.ptr 1 7 0]] (mkH [⟨[.i j],1,false⟩,⟨[.i n,.str o,q29 q,.bool u,.bool x,w9 a,w9 b],7,false⟩]) (f a0 c g h j n o q u x a b)
def i0p1:Pt:=nav [0,0,0,0] (nav [0] (bodyAt Try.f27))
def i0p2:Pt:=nav [0,0] i0p1
def i0p6:Pt:=nav [0,0,0] (nav [2,0,0] i0p2)
def i0p7:Pt:=nav [0,0,0] i0p6
def i0 (k:Nat) (a0:LN) (z:List S33) (g:Int) (h:Int) (D:Int) (j:Int) (n:LN) (o:Raw) (q:Bool) (u:Bool) (b:LL) (c:LL):Option Ri0 :=
 jn (λ(E:Bool)=>if E then (some ((0:Int),(8:Int),b,c,j,n,o,q,u)) else (cT (i3 k D j n o q u b c a0 z g h) (some ((0:Int),(8:Int),b,c,j,n,o,q,u)) λa=>some (a.2.1,(0:Int),a.2.2.2.2.2.2.1,a.2.2.2.2.2.2.2,a.1,a.2.2.1,a.2.2.2.1,a.2.2.2.2.1,a.2.2.2.2.2.1))) (λx=>if (decide (g < 0)) then (x true) else (if (decide ((z.length:Int) < h)) then (x true) else (x (decide (h < g)))))
theorem i0_all (k:Nat):∀ a0 j n b o q u z E I c g r,i0 k a0 j n b o q u z E I c g=some r→CallT Try.prog 27 [.str a0,w34 j,.i n,.i b,.func 28 [] [.ptr 0 1 0,.ptr 1 7 0]] (mkH [⟨[.i o],1,false⟩,⟨[.i q,.str u,q29 z,.bool E,.bool I,w9 c,w9 g],7,false⟩]) ((Xi0 a0 j n b o q u z E I c g).thr r) ((Xi0 a0 j n b o q u z E I c g).enc r) ((Xi0 a0 j n b o q u z E I c g).fin r):=by
 intro a0 j n b o q u z E I c g r h
 refine qA2 (Xi0 a0 j n b o q u z E I c g) Try.func27 Kr Kr rfl (t:=i0 k a0 j n b o q u z E I c g) ?_ h
 unfold i0
 refine qA (eE:=[(0,.str a0),(1,w34 j),(2,.i n),(3,.i b),(4,.func 28 [] [.ptr 0 1 0,.ptr 1 7 0])]) Kr ?_
 let N:Env:=[(15,.bool (decide (n < 0))),(14,.bool (decide (n < 0))),(13,.i n),(11,.ptr 3 1 0),(10,.ptr 2 1 0),(0,.str a0),(1,w34 j),(2,.i n),(3,.i b),(4,.func 28 [] [.ptr 0 1 0,.ptr 1 7 0])]
 let J:Blk:=⟨[.i q,.str u,q29 z,.bool E,.bool I,w9 c,w9 g],7,false⟩
 let S:List Blk:=[⟨[.i o],1,false⟩,J,⟨[.i 0],0,false⟩,⟨[.i 0],0,false⟩]
 refine oH 11 (atN 3 (ctl1 i0p1)) N (mkH S) ?_
 refine oJ i0p2 (λ(T:Bool)=>[(0,.str a0),(1,w34 j),(2,.i n),(3,.i b),(4,.func 28 [] [.ptr 0 1 0,.ptr 1 7 0]),(10,.ptr 2 1 0),(11,.ptr 3 1 0),(25,.bool T)]) (λ(T:Bool)=>(mkH S)) (λT=>?_) (λj1 K=>?_)
 ·refine oS 25 (λO=>?_) (λO=>?_)
  ·let Z:Env:=[(25,.bool true),(0,.str a0),(1,w34 j),(2,.i n),(3,.i b),(4,.func 28 [] [.ptr 0 1 0,.ptr 1 7 0]),(10,.ptr 2 1 0),(11,.ptr 3 1 0),(25,.bool T)]
   exact oQF 7 [⟨[.i o],1,false⟩,J,⟨[.i 0],1,false⟩,⟨[.i 8],1,false⟩] 2 [] [.i 0,.i 8] (.tuple [.i 0,.i 8]) .ps trivial
  ·let U:Env:=[(4,.func 28 [] [.ptr 0 1 0,.ptr 1 7 0]),(10,.ptr 2 1 0),(11,.ptr 3 1 0),(12,.ptr 4 4 0)]
   let K2:List Blk:=[⟨[.i o],1,false⟩,J,⟨[.i 0],0,false⟩,⟨[.i 0],0,false⟩,⟨[.str a0,w34 j,.i n,.i b],0,false⟩]
   refine oLH 13 i0p6 U (mkH K2) ?_
   refine oR 2 (atN 1 (ctl1 i0p6)) ((32,.func 46 [] [.ptr 2 1 0,.ptr 3 1 0])::U) ?_
   refine qLv (f:=46) (caps:=[.ptr 2 1 0,.ptr 3 1 0]) Kr ?_
   refine okD_at (p':=(atN 2 (ctl1 i0p6))) Kr ?_
   refine qFl 5 (p':=(atN 2 (ctl1 i0p7))) (eE:=((34,.ptr 4 4 0)::(33,.func 28 [] [.ptr 0 1 0,.ptr 1 7 0])::(32,.func 46 [] [.ptr 2 1 0,.ptr 3 1 0])::U)) (H':=(mkH K2)) Kr ?_
   let Q:Blk:=⟨[.str a0,w34 j,.i n,.i b],4,false⟩
   let K3:List Blk:=[⟨[.i o],1,false⟩,J,⟨[.i 0],0,false⟩,⟨[.i 0],0,false⟩,Q]
   let K4:List Blk:=[⟨[.i o],1,false⟩,J,⟨[.i 0],1,false⟩,⟨[.i 8],1,false⟩,Q]
   refine qLx (tv:=thrown) (D:=[4]) (rc:=((0:Int),(8:Int),c,g,q,u,z,E,I)) (tc:=some ((0:Int),(8:Int),c,g,q,u,z,E,I)) (xs:=[.i 0,.i 8]) (v := .tuple [.i 0,.i 8]) (fi:=28) (args:=[.ptr 4 4 0,.ptr 0 1 0,.ptr 1 7 0]) (λ(a:Ri3) => .tuple []) (λ(a:Ri3)=>(mkH [⟨[.i o],1,false⟩,⟨[.i a.1,.str a.2.2.1,q29 a.2.2.2.1,.bool a.2.2.2.2.1,.bool a.2.2.2.2.2.1,w9 a.2.2.2.2.2.2.1,w9 a.2.2.2.2.2.2.2],7,false⟩,⟨[.i 0],0,false⟩,⟨[.i 0],0,false⟩,⟨[.str a0,w34 j,.i a.2.1,.i b],4,false⟩])) (atN 3 (ctl1 i0p7)) (λa=>[(35,.tuple []),(34,.ptr 4 4 0),(33,.func 28 [] [.ptr 0 1 0,.ptr 1 7 0]),(32,.func 46 [] [.ptr 2 1 0,.ptr 3 1 0]),(4,.func 28 [] [.ptr 0 1 0,.ptr 1 7 0]),(10,.ptr 2 1 0),(11,.ptr 3 1 0),(12,.ptr 4 4 0)]) K3 [⟨[.i o],1,false⟩,J] [⟨[.i 0],1,false⟩,⟨[.i 8],1,false⟩,Q] [(10,.ptr 2 1 0),(11,.ptr 3 1 0)] [10,11] 4 rfl rfl Kr (λh=>frS 0 (M:=K3) (rs:=[0,1,4]) (ms:=[]) (mv:=[]) (mm:=[]) (D:=[4]) (xs':=[.ptr 4 4 0,.ptr 0 1 0,.ptr 1 7 0]) (.refl) ((i3_ok k o q u z E I c g a0 j n b).2 h) trivial trivial Kr) Kr Kr Kr Kr (qF6 (⟨Try.prog,cx,Try.f46,λ_ => .tuple [],5,λ_=>(mkH K4),cxTi,cxOrd,λ_=>none,false⟩:Fx Unit) 5 2 (x := .iface 72 (.agg [])) qGp Kr Kr Kr rfl rfl rfl rfl ?_) rfl Kr Kr Kr (.pures Kr) ⟨Kr,⟨Kr,trivial⟩⟩ Kr Kr (λa h=>frW 0 K3 (rs:=[0,1,4]) (ms:=[]) (ms':=[]) (mv:=[]) (xs':=[.ptr 4 4 0,.ptr 0 1 0,.ptr 1 7 0]) (.refl) ((i3_ok k o q u z E I c g a0 j n b).1 a h) trivial trivial Kr) (λ_=>by kernel_rfl) (λa b1=>?_)
   ·refine oE [(2,.iface 72 (.agg [])),(5,.iface 72 (.agg [])),(0,.ptr 2 1 0),(1,.ptr 3 1 0)] ?_
    let N:Env:=[(4,.bool true),(3,.ptr 5 0 0),(12,.bool true),(11,.agg []),(8,.tuple [.agg [],.bool true]),(10,.tuple [.agg [],.bool true]),(9,.iface 72 (.agg [])),(7,.bool true),(6,.iface 72 (.agg [])),(2,.iface 72 (.agg [])),(5,.iface 72 (.agg [])),(0,.ptr 2 1 0),(1,.ptr 3 1 0)]
    let Z:Env:=[(0,.ptr 2 1 0),(1,.ptr 3 1 0),(2,.iface 72 (.agg [])),(4,.bool true)]
    refine oLH 19 (nav [0,0,0] (nav [1,0,0] (nav [0,0] (nav [0] (restAt Try.f46))))) Z (mkH [⟨[.i o],1,false⟩,J,⟨[.i 0],0,false⟩,⟨[.i 0],0,false⟩,Q,⟨[],0,false⟩]) ?_
    refine oH 10 .fin ((14,.bool false)::(13,.bool true)::Z) (mkH [⟨[.i o],1,false⟩,J,⟨[.i 0],1,false⟩,⟨[.i 8],1,false⟩,Q,⟨[],0,false⟩]) ?_
    refine qAf K4 [⟨[],0,false⟩] Kr rfl Kr ⟨Kr,⟨Kr,⟨Kr,⟨Kr,⟨Kr,trivial⟩⟩⟩⟩⟩ ?_
    exact qI8 (r:=()) (xs:=[]) Kr Kr Kr Kr
   ·let Q4:Blk:=⟨[.i a.1,.str a.2.2.1,q29 a.2.2.2.1,.bool a.2.2.2.2.1,.bool a.2.2.2.2.2.1,w9 a.2.2.2.2.2.2.1,w9 a.2.2.2.2.2.2.2],7,false⟩
    let Q5:Blk:=⟨[.i a.2.1],1,false⟩
    let Q6:Blk:=⟨[.str a0,w34 j,.i a.2.1,.i b],4,false⟩
    let Y:List Blk:=[⟨[.i o],1,false⟩,Q4,Q5,⟨[.i 0],1,false⟩,Q6]
    refine qFl 11 (p' := .fin) (eE:=((39,.i a.2.1)::(38,.ptr 4 4 2)::(37,.ptr 4 4 0)::(36,.ptr 4 4 0)::(35,.tuple [])::(34,.ptr 4 4 0)::(33,.func 28 [] [.ptr 0 1 0,.ptr 1 7 0])::(32,.func 46 [] [.ptr 2 1 0,.ptr 3 1 0])::U)) (H':=(mkH Y)) Kr ?_
    refine qQ6 (r:=(a.2.1,(0:Int),a.2.2.2.2.2.2.1,a.2.2.2.2.2.2.2,a.1,a.2.2.1,a.2.2.2.1,a.2.2.2.2.1,a.2.2.2.2.2.1)) (xs:=[.i a.2.1,.i 0]) (v := .tuple [.i a.2.1,.i 0]) Y [⟨[.i o],1,false⟩,Q4] [Q5,⟨[.i 0],1,false⟩,Q6] rfl rfl (qF6 (⟨Try.prog,cx,Try.f46,λ_ => .tuple [],5,λ_=>(mkH Y),cxTi,cxOrd,λ_=>none,false⟩:Fx Unit) 5 2 (x := .nili) qM Kr Kr Kr rfl rfl rfl rfl ?_) Kr Kr Kr Kr (.pures Kr) ⟨Kr,⟨Kr,trivial⟩⟩ Kr Kr
    let N:Env:=[(7,.bool false),(6,.nili),(2,.nili),(5,.nili),(0,.ptr 2 1 0),(1,.ptr 3 1 0)]
    refine oH 7 .fin N (mkH Y) ?_
    exact qI8 (r:=()) (xs:=[]) Kr Kr Kr Kr
 ·refine oS 15 (λO=>?_) (λO=>?_)
  ·refine oLH 11 i0p2 [(0,.str a0),(1,w34 j),(2,.i n),(3,.i b),(4,.func 28 [] [.ptr 0 1 0,.ptr 1 7 0]),(10,.ptr 2 1 0),(11,.ptr 3 1 0),(25,.bool true)] (mkH S) ?_
   exact K true
  ·let E8:Env:=((21,.bool (decide ((j.length:Int) < b)))::(20,.bool (decide ((j.length:Int) < b)))::(19,.bool (decide ((j.length:Int) < b)))::(18,.i (j.length:Int))::(17,w34 j)::(16,.i b)::(15,.bool false)::N)
   refine oH 6 (atN 9 (ctl1 i0p1)) E8 (mkH S) ?_
   refine oS 21 (λO=>?_) (λO=>?_)
   ·refine oR 5 i0p2 ((25,.bool true)::(24,.tuple [])::(23,.tuple [])::(22,.tuple [])::(21,.bool true)::E8) ?_
    refine oK [0,1,2,3,4,10,11,25] [(0,.str a0),(1,w34 j),(2,.i n),(3,.i b),(4,.func 28 [] [.ptr 0 1 0,.ptr 1 7 0]),(10,.ptr 2 1 0),(11,.ptr 3 1 0),(25,.bool true)] ?_
    exact K true
   ·refine oL 5 i0p2 [(0,.str a0),(1,w34 j),(2,.i n),(3,.i b),(4,.func 28 [] [.ptr 0 1 0,.ptr 1 7 0]),(10,.ptr 2 1 0),(11,.ptr 3 1 0),(25,.bool (decide (b < n)))] ?_
    exact K (decide (b < n))
theorem i0_ok (k:Nat):Pi0 (i0 k):=λa0 c g j n o q u z D a b=>λx h=>i0_all k a0 c g j n o q u z D a b x h
def Xg14:Fx (S28×Int×Int):=⟨Try.prog,cx,Try.f14,λr => .tuple [.agg [.i r.1.f0,.str r.1.f1,q29 r.1.f2,.bool r.1.f3,.bool r.1.f4,w9 r.1.f5,w9 r.1.f6],.i r.2.1,.i r.2.2],0,λ_=>H0,cxTi,cxOrd,λ_=>none,false⟩
def g14p2:Pt:=nav [0,0,0] (nav [0,0,0] (nav [0] (bodyAt Try.f14)))
def g14p3:Pt:=nav [0,0,0] g14p2
def g14 (k:Nat) (a0:LN) (c:List S33) (g:Int) (h:Int) (j:Int):Option (S28×Int×Int) :=
 (i0 k a0 c g h j (0:Int) ([]:LN) (⟨(([]:List S28)).length,(([]:List S28)).flatMap e29⟩:Raw) false false ([]:LL) ([]:LL)).bind λa=>(g30 k (⟨a.2.2.2.2.1,a.2.2.2.2.2.1,a.2.2.2.2.2.2.1,a.2.2.2.2.2.2.2.1,a.2.2.2.2.2.2.2.2,a.2.2.1,a.2.2.2.1⟩:S28) a.2.1).bind λb=>some (b,a.1,a.2.1)
theorem qS2 (k:Nat) (a0:LN) (c:List S33) (g:Int) (j:Int) (b:Int) (r:(S28×Int×Int)) (h:g14 k a0 c g j b=some r):PureOk Try.prog 14 [.str a0,w34 c,.i g,.i j,.i b] (.tuple [.agg [.i r.1.f0,.str r.1.f1,q29 r.1.f2,.bool r.1.f3,.bool r.1.f4,w9 r.1.f5,w9 r.1.f6],.i r.2.1,.i r.2.2]):=by
 refine qA4 Xg14 (λ_=>⟨rfl,rfl⟩) Try.func14 (by decide +kernel) Kr (t:=g14 k a0 c g j b) ?_ h
 unfold g14
 refine qA (eE:=[(0,.str a0),(1,w34 c),(2,.i g),(3,.i j),(4,.i b)]) Kr ?_
 let x:Env:=[(13,.ptr 2 7 0),(12,.i 0),(11,.i 0),(10,.ptr 1 7 0),(9,.ptr 0 1 0),(0,.str a0),(1,w34 c),(2,.i g),(3,.i j),(4,.i b)]
 let n:Blk:=⟨[.i 0,.str [],.nils,.bool false,.bool false,.nils,.nils],0,false⟩
 refine oH 12 g14p2 x (mkH [⟨[.i b],0,false⟩,n,n]) ?_
 refine qDv [⟨[.i b],0,false⟩,n,n] 2 0 [.i 0,.str [],.nils,.bool false,.bool false,.nils,.nils] [.i 0,.str [],w29 ([]:List S28),.bool false,.bool false,w9 ([]:LL),w9 ([]:LL)] Kr rfl (.cons (.cons (.nil (.cons (.cons (.nil (.nil (.refl)))))))) ?_
 let z:Env:=((21,.func 28 [] [.ptr 0 1 0,.ptr 2 7 0])::(20,.i j)::(19,.i g)::(18,w34 c)::(17,.str a0)::x)
 refine oH 6 (atN 5 (ctl1 g14p2)) z (mkH [⟨[.i b],0,false⟩,n,⟨[.i 0,.str [],w29 ([]:List S28),.bool false,.bool false,w9 ([]:LL),w9 ([]:LL)],0,false⟩]) ?_
 refine qIa (λ(a:Ri0) => .tuple [.i a.1,.i a.2.1]) (λ(a:Ri0)=>(mkH [⟨[.i b],1,false⟩,n,⟨[.i a.2.2.2.2.1,.str a.2.2.2.2.2.1,q29 a.2.2.2.2.2.2.1,.bool a.2.2.2.2.2.2.2.1,.bool a.2.2.2.2.2.2.2.2,w9 a.2.2.1,w9 a.2.2.2.1],7,false⟩])) (atN 6 (ctl1 g14p2)) (λa=>((22,.tuple [.i a.1,.i a.2.1])::z)) (fi:=27) (args:=[.str a0,w34 c,.i g,.i j,.func 28 [] [.ptr 0 1 0,.ptr 2 7 0]]) Kr (λa h=>frW 0 [⟨[.i b],1,false⟩,n,⟨[.i 0,.str [],w29 ([]:List S28),.bool false,.bool false,w9 ([]:LL),w9 ([]:LL)],7,false⟩] (rs:=[0,2]) (ms:=[]) (ms':=[]) (mv:=[]) (xs':=[.str a0,w34 c,.i g,.i j,.func 28 [] [.ptr 0 1 0,.ptr 2 7 0]]) (.refl) (i0_ok k a0 c g j b (0:Int) ([]:LN) (⟨(([]:List S28)).length,(([]:List S28)).flatMap e29⟩:Raw) false false ([]:LL) ([]:LL) a h) trivial trivial Kr) (λ_=>by kernel_rfl) (λa q=>?_)
 let D:Env:=[(10,.ptr 1 7 0),(13,.ptr 2 7 0),(14,.i a.1),(15,.i a.2.1)]
 refine oLH 7 g14p3 D (mkH [⟨[.i b],1,false⟩,n,⟨[.i a.2.2.2.2.1,.str a.2.2.2.2.2.1,q29 a.2.2.2.2.2.2.1,.bool a.2.2.2.2.2.2.2.1,.bool a.2.2.2.2.2.2.2.2,w9 a.2.2.1,w9 a.2.2.2.1],7,false⟩]) ?_
 refine oR 3 (atN 2 (ctl1 g14p3)) ((26,.i a.2.1)::(25,.agg [.i a.2.2.2.2.1,.str a.2.2.2.2.2.1,q29 a.2.2.2.2.2.2.1,.bool a.2.2.2.2.2.2.2.1,.bool a.2.2.2.2.2.2.2.2,w9 a.2.2.1,w9 a.2.2.2.1])::D) ?_
 refine oA (λ(o:S28)=>n29 o) (atN 3 (ctl1 g14p3)) 27 [.agg [.i a.2.2.2.2.1,.str a.2.2.2.2.2.1,q29 a.2.2.2.2.2.2.1,.bool a.2.2.2.2.2.2.2.1,.bool a.2.2.2.2.2.2.2.2,w9 a.2.2.1,w9 a.2.2.2.1],.i a.2.1] (g30_ok k (⟨a.2.2.2.2.1,a.2.2.2.2.2.1,a.2.2.2.2.2.2.1,a.2.2.2.2.2.2.2.1,a.2.2.2.2.2.2.2.2,a.2.2.1,a.2.2.2.1⟩:S28) a.2.1) λo u=>?_
 exact oQ 7
end
def Ne (rest:LN):Prop:=rest=[]∨∃ d q,rest=d::q∧inrN d=false∧¬ d=46∧¬ d=35
theorem qSj {k:Nat} {s:LN} {L:List S33} {to:Int} {W:(List Tkn)} (hv:Vw k s L to W) {F:Fns0} {C:Cns} (Z:SimC s L to W F C)  (a0:Int) (I:List Tkn):∀ (n:Nat) (c:Int) (a:List Tkn) (b:S28),a <:+ W→SimN (Option.map (λx=>(x.1,pos to x.2))) (oTh (λx=>x.2 <:+ W)) (qQs k F a0 s L (pos to I) to n c (pos to a) b) (qIl k C a0 I n c a b):=by
 intro n
 induction n with
 | zero=>intro c a b _; exact sZ
 | succ n ih =>
  intro c a b hy
  show SimN (Option.map (λx=>(x.1,pos to x.2))) (oTh (λx=>x.2 <:+ W)) (qJd k F a0 s L (pos to I) to (qQs k F a0 s L (pos to I) to n) c (pos to a) b) (qEy k C a0 I (qIl k C a0 I n) c a b)
  unfold qJd qEy
  exact sJ (α:=((List Tkn)×S28)) (λx=>(pos to x.1,x.2)) (λx=>x.1 <:+ W) (λJ K=>sR (x:=(J.2,J.1)) K) (λa1 T o=>sI (sB (qHr hv a hy) λq Q=>sE λM=>sB (qGh hv q.f1 a hy) λU S=>sJ (α:=(Bool×(List Tkn)×S28)) (λx=>(x.1,pos to x.2.1,x.2.2)) (λx=>x.2.1 <:+ W) (λg u=>sI (o (g.2.1,g.2.2) u) (sT (qEq hv g.2.1 u) λN z=>sE λO=>sT (Z.c5 O N z) λh D=>ih M h.2 (⟨14,q.f1,(⟨(([g.2.2,h.1]:List S28)).length,(([g.2.2,h.1]:List S28)).flatMap e29⟩:Raw),false,false,([]:LL),([]:LL)⟩:S28) D)) (λa2 Y j=>sI (j (true,a,b) hy) (sI (j (true,a,b) hy) (sE λE=>j (decide (c < E),a,b) hy)))) (o (a,b) hy))
theorem c5B_sim {k:Nat} {s:LN} {L:List S33} {to:Int} {W:(List Tkn)} (hv:Vw k s L to W) {F:Fns0} {C:Cns} (z:SimC s L to W F C) (a0:Int) (o:List Tkn) (h:o <:+ W):SimN (Option.map (λx=>(x.1,pos to x.2))) (oTh (λx=>x.2 <:+ W)) (i5B k F a0 s L (pos to o) to) (c5B k C a0 o):=by
 unfold i5B c5B
 exact sJ (α:=(Bool×(List Tkn))) (λx=>(x.1,pos to x.2)) (λx=>x.2 <:+ W) (λD q=>sI (sT (z.c5 (0:Int) D.2 q) λa g=>sR (x:=((⟨(13:Int),([99,97,116,99,104]:LN),⟨(([a.1]:List S28)).length,(([a.1]:List S28)).flatMap e29⟩,false,false,([]:LL),([]:LL)⟩:S28),a.2)) g) (sT (z.c8 D.2 q) λb j=>qSj hv z a0 o k b.2.1 b.2.2 b.1 j)) (λI E u=>sI (sT (qAa hv ([99,97,116,99,104]:LN) o h) λc n=>u (c.1,c.2) n) (u (false,o) h))
theorem qSh {k:Nat} {s:LN} {L:List S33} {to:Int} {W:(List Tkn)} (hv:Vw k s L to W) {F:Fns0} {C:Cns} (J:SimC s L to W F C)   : ∀ (n:Nat) (a:List Tkn) (b:List S28),a <:+ W→SimN (Option.map (λx=>(x.1,pos to x.2))) (oTh (λx=>x.2 <:+ W)) (qQq k F s L to n (pos to a) b) (qIk k C  n a b):=by
 intro n
 induction n with
 | zero=>intro a b _; exact sZ
 | succ n ih =>
  intro a b hy
  show SimN (Option.map (λx=>(x.1,pos to x.2))) (oTh (λx=>x.2 <:+ W)) (qJc k F s L to (qQq k F s L to n) (pos to a) b) (qEx k C  (qIk k C  n) a b)
  unfold qJc qEx
  exact sJ (α:=(Bool×(List Tkn)×(List S28))) (λx=>(x.1,pos to x.2.1,x.2.2)) (λx=>x.2.1 <:+ W) (λK I=>sB (qAc hv K.2.1 I) λu j=>sT (J.c5 (0:Int) u.2 j) λz o=>sE λc=>sT (qAa hv ([44]:LN) z.2 o) λh g=>sI (ih h.2 c g) (sR (x:=((⟨(25:Int),([]:LN),⟨(c).length,(c).flatMap e29⟩,false,false,([]:LL),([]:LL)⟩:S28),h.2)) g)) (λN M D=>sI (sB (qSq hv hy) λq E=>D (q,a,b) hy) (D (false,a,b) hy))
theorem c6B_sim {k:Nat} {s:LN} {L:List S33} {to:Int} {W:(List Tkn)} (hv:Vw k s L to W) {F:Fns0} {C:Cns} (b:SimC s L to W F C) (a:List Tkn) (h:a <:+ W):SimN (Option.map (λx=>(x.1,pos to x.2))) (oTh (λx=>x.2 <:+ W)) (i6B k F s L (pos to a) to) (c6B k C a):=by
 unfold i6B c6B
 exact qSh hv b  k a ([]:List S28) h
theorem c8B_sim {k:Nat} {s:LN} {L:List S33} {to:Int} {W:(List Tkn)} (hv:Vw k s L to W) {F:Fns0} {C:Cns} (J:SimC s L to W F C) (j:List Tkn) (h:j <:+ W):SimN (Option.map (λx=>(x.1,x.2.1,pos to x.2.2))) (oTh (λx=>x.2.2 <:+ W)) (i8B k F s L (pos to j) to) (c8B k C j):=by
 unfold i8B c8B
 exact sB (qHr hv j h) λc K=>sB (qGh hv c.f1 j h) λN M=>sJ (α:=Bool) (λx=>x) (λ_=>True) (λS O=>sI (sT (qEq hv j h) λz n=>sT (J.c8 z n) λa o=>sE λD=>sR (x:=((⟨(13:Int),c.f1,⟨(([a.1]:List S28)).length,(([a.1]:List S28)).flatMap e29⟩,false,false,([]:LL),([]:LL)⟩:S28),D,a.2.2)) o) (sT (J.c13 j h) λb q=>sT (J.c14 b.1 b.2.1 b.2.2 q) λg u=>sR (x:=(g.1,(11:Int),g.2)) u)) (λT Q E=>sI (sE λI=>E (decide (0 < I)) trivial) (E false trivial))
theorem c13B_sim {k:Nat} {s:LN} {L:List S33} {to:Int} {W:(List Tkn)} (hv:Vw k s L to W) {F:Fns0} {C:Cns} (hF:SimC s L to W F C) (a2:List Tkn) (h:a2 <:+ W):SimN (Option.map (λx=>(x.1,x.2.1,pos to x.2.2))) (oTh (λx=>x.2.2 <:+ W)) (i13B k F s L (pos to a2) to) (c13B k C a2):=by
 unfold i13B c13B
 exact sB (qHr hv a2 h) λb0 b2=>sE λb3=>sI (sT (qEq hv a2 h) λb1 a4=>sR (x:=((⟨(1:Int),b0.f1,⟨0,[]⟩,false,false,([]:LL),([]:LL)⟩:S28),false,b1)) a4) (sT (qAa hv ([40]:LN) a2 h) λT o=>sI (sT (hF.c17 T.2 o) λU a5=>sR (x:=(U.1,true,U.2)) a5) (sT (qAa hv ([123]:LN) T.2 o) λY q=>sI (sT (hF.c18 (4:Int) ([]:LN) false false ([]:LL) ([]:LL) ([125]:LN) Y.2 ([]:List S28) q) λg a6=>sR (x:=((⟨g.1,g.2.1,⟨(g.2.2.2.2.2.2.2).length,(g.2.2.2.2.2.2.2).flatMap e29⟩,g.2.2.1,g.2.2.2.1,g.2.2.2.2.1,g.2.2.2.2.2.1⟩:S28),false,g.2.2.2.2.2.2.1)) a6) (sT (qAa hv ([91]:LN) Y.2 q) λZ u=>sI (sT (hF.c19 Z.2 u) λa0 a7=>sR (x:=(a0.1,false,a0.2)) a7) (sT (qAa hv ([60,60]:LN) Z.2 u) λa1 z=>sI (sT (hF.c20 (6:Int) ([]:LN) false false ([]:LL) ([]:LL) ([62,62]:LN) a1.2 ([]:List S28) z) λa K=>sR (x:=((⟨a.1,a.2.1,⟨(a.2.2.2.2.2.2.2).length,(a.2.2.2.2.2.2.2).flatMap e29⟩,a.2.2.1,a.2.2.2.1,a.2.2.2.2.1,a.2.2.2.2.2.1⟩:S28),false,a.2.2.2.2.2.2.1)) K) (sT (qAa hv ([35]:LN) a1.2 z) λD j=>sI (sT (qAa hv ([123]:LN) D.2 j) λE n=>sI (sT (hF.c21 (8:Int) ([]:LN) false false ([]:LL) ([]:LL) ([125]:LN) E.2 ([]:List S28) n) λb M=>sR (x:=((⟨b.1,b.2.1,⟨(b.2.2.2.2.2.2.2).length,(b.2.2.2.2.2.2.2).flatMap e29⟩,b.2.2.1,b.2.2.2.1,b.2.2.2.2.1,b.2.2.2.2.2.1⟩:S28),false,b.2.2.2.2.2.2.1)) M) (sT (qGg hv E.2 n) λI N=>sT (qAl hv ([123]:LN) I.2 N) λa8 O=>sT (hF.c18 (10:Int) I.1 false false ([]:LL) ([]:LL) ([125]:LN) a8 ([]:List S28) O) λc Q=>sR (x:=((⟨c.1,c.2.1,⟨(c.2.2.2.2.2.2.2).length,(c.2.2.2.2.2.2.2).flatMap e29⟩,c.2.2.1,c.2.2.2.1,c.2.2.2.2.1,c.2.2.2.2.2.1⟩:S28),false,c.2.2.2.2.2.2.1)) Q)) (sT (hF.c24 D.2 j) λJ S=>sR (x:=(J.1,false,J.2)) S))))))
theorem qOy {k:Nat} {s:LN} {L:List S33} {to:Int} {W:(List Tkn)} (hv:Vw k s L to W) {F:Fns0} {C:Cns} (hF:SimC s L to W F C)  (T:List Tkn):∀ (n:Nat) (c:Bool) (a:List Tkn) (g:S28),a <:+ W→SimN (Option.map (λx=>(x.1,pos to x.2))) (oTh (λx=>x.2 <:+ W)) (qJo k F s L (pos to T) to n c (pos to a) g) (qDk k C T n c a g):=by
 intro n
 induction n with
 | zero=>intro c a g _; exact sZ
 | succ n ih =>
  intro c a g hy
  show SimN (Option.map (λx=>(x.1,pos to x.2))) (oTh (λx=>x.2 <:+ W)) (qG4 k F s L (pos to T) to (qJo k F s L (pos to T) to n) c (pos to a) g) (qD4 k C T (qDk k C T n) c a g)
  unfold qG4 qD4
  exact sJ (α:=(Bool×Bool×(List Tkn)×S28)) (λx=>(x.1,x.2.1,pos to x.2.2.1,x.2.2.2)) (λx=>x.2.2.1 <:+ W) (λI U=>sI (sR (x:=(I.2.2.2,I.2.2.1)) U) (sT (qAa hv ([40]:LN) I.2.2.1 U) λq h=>sJ (α:=((List Tkn)×S28)) (λx=>(pos to x.1,x.2)) (λx=>x.1 <:+ W) (λz9 a1=>ih false z9.1 z9.2 a1) (λj9 a5 N=>sI (sT (hF.c18 (2:Int) ([]:LN) false false ([]:LL) ([]:LL) ([41]:LN) q.2 ([I.2.2.2]:List S28) h) λb O=>N (b.2.2.2.2.2.2.1,(⟨b.1,b.2.1,(⟨(b.2.2.2.2.2.2.2).length,(b.2.2.2.2.2.2.2).flatMap e29⟩:Raw),b.2.2.1,b.2.2.2.1,b.2.2.2.2.1,b.2.2.2.2.2.1⟩:S28)) O) (sJ (α:=(Bool×(List Tkn)×S28)) (λx=>(x.1,pos to x.2.1,x.2.2)) (λx=>x.2.1 <:+ W) (λz J=>sI (sT (hF.c25 z.2.1 J) λD Q=>N (D.2,(⟨3,([]:LN),(⟨(([z.2.2,D.1]:List S28)).length,(([z.2.2,D.1]:List S28)).flatMap e29⟩:Raw),false,false,([]:LL),([]:LL)⟩:S28)) Q) (sT (qAa hv ([35]:LN) z.2.1 J) λK E=>sI (sT (hF.c26 z.2.2 K.2 E) λM S=>N (M.2,M.1) S) (sR (x:=(z.2.2,K.2)) E))) (λa6 a3 u=>sI (sI (sT (qAa hv ([58]:LN) q.2 h) λj o=>u (j.1,j.2,I.2.2.2) o) (sI (sT (qAa hv ([58]:LN) q.2 h) λj o=>u (j.1,j.2,I.2.2.2) o) (u (false,q.2,I.2.2.2) h))) (u (false,q.2,I.2.2.2) h)))))) (λj8 a7 Y=>sI (sE λZ=>Y (!Z,c,a,g) hy) (Y (false,c,a,g) hy))
theorem c14B_sim {k:Nat} {s:LN} {L:List S33} {to:Int} {W:(List Tkn)} (hv:Vw k s L to W) {F:Fns0} {C:Cns} (c:SimC s L to W F C) (a0:S28) (b:Bool) (a:List Tkn) (h:a <:+ W):SimN (Option.map (λx=>(x.1,pos to x.2))) (oTh (λx=>x.2 <:+ W)) (i14B k F a0 b s L (pos to a) to) (c14B k C a0 b a):=by
 unfold i14B c14B
 exact qOy hv c a k b a a0 h
theorem c17B_sim {k:Nat} {s:LN} {L:List S33} {to:Int} {W:(List Tkn)} (hv:Vw k s L to W) {F:Fns0} {C:Cns} (n:SimC s L to W F C) (j:List Tkn) (h:j <:+ W):SimN (Option.map (λx=>(x.1,pos to x.2))) (oTh (λx=>x.2 <:+ W)) (i17B k F s L (pos to j) to) (c17B k C j):=by
 unfold i17B c17B
 exact sT (n.c5 (0:Int) j h) λa b=>sT (qAl hv ([41]:LN) a.2 b) λg c=>sR (x:=(a.1,g)) c
theorem qLe {k:Nat} {s:LN} {L:List S33} {to:Int} {W:(List Tkn)} (hv:Vw k s L to W) {F:Fns0} {C:Cns} (U:SimC s L to W F C)  (a0:Int) (z:LN) (D:Bool) (E:LL) (O:LL) (I:LN) (g:Bool):∀ (n:Nat) (b:LL) (a:List Tkn) (c:List S28),a <:+ W→SimN (Option.map (λx=>(x.1,x.2.1,x.2.2.1,x.2.2.2.1,x.2.2.2.2.1,x.2.2.2.2.2.1,pos to x.2.2.2.2.2.2.1,x.2.2.2.2.2.2.2))) (oTh (λx=>x.2.2.2.2.2.2.1 <:+ W)) (qG3 k F a0 z D E O I s L to g n b (pos to a) c) (qCl k C a0 z D E O I g n b a c):=by
 intro n
 induction n with
 | zero=>intro b a c _; exact sZ
 | succ n ih =>
  intro b a c hy
  show SimN (Option.map (λx=>(x.1,x.2.1,x.2.2.1,x.2.2.2.1,x.2.2.2.2.1,x.2.2.2.2.2.1,pos to x.2.2.2.2.2.2.1,x.2.2.2.2.2.2.2))) (oTh (λx=>x.2.2.2.2.2.2.1 <:+ W)) (qE1 k F a0 z D E O I s L to g (qG3 k F a0 z D E O I s L to g n) b (pos to a) c) (qC2 k C a0 z D E O I g (qCl k C a0 z D E O I g n) b a c)
  unfold qE1 qC2
  exact sT (U.c29 a hy) λQ J=>sE λj=>sB (qAc hv Q.2 J) λo K=>sT (qAa hv I o.2 K) λq h=>sI (sR (x:=(a0,z,g,D,E,o.1,q.2,j)) h) (sTE λT=>sT (qAl hv ([44]:LN) q.2 h) λS M=>sB (qAc hv S M) λu N=>ih u.1 u.2 j N)
theorem c18B_sim {k:Nat} {s:LN} {L:List S33} {to:Int} {W:(List Tkn)} (hv:Vw k s L to W) {F:Fns0} {C:Cns} (K:SimC s L to W F C) (a0:Int) (o:LN) (J:Bool) (q:Bool) (u:LL) (E:LL) (z:LN) (n:List Tkn) (D:List S28) (h:n <:+ W):SimN (Option.map (λx=>(x.1,x.2.1,x.2.2.1,x.2.2.2.1,x.2.2.2.2.1,x.2.2.2.2.2.1,pos to x.2.2.2.2.2.2.1,x.2.2.2.2.2.2.2))) (oTh (λx=>x.2.2.2.2.2.2.1 <:+ W)) (i18B k F a0 o J q u E z s L (pos to n) to D) (c18B k C a0 o J q u E z n D):=by
 unfold i18B c18B
 exact sB (qGf hv n h) λc I=>sB (qAc hv n h) λa j=>sT (qAa hv z a.2 j) λg b=>sI (sR (x:=(a0,o,c,q,u,a.1,g.2,D)) b) (qLe hv K a0 o q u E z c k a.1 g.2 D b)
theorem qLd {k:Nat} {s:LN} {L:List S33} {to:Int} {W:(List Tkn)} (hv:Vw k s L to W) {F:Fns0} {C:Cns} (hF:SimC s L to W F C)  (a2:List Tkn) (h:Bool):∀ (n:Nat) (b:LL) (a:List Tkn) (c:List S28) (g:S28),a <:+ W→SimN (Option.map (λx=>(x.1,pos to x.2))) (oTh (λx=>x.2 <:+ W)) (qG2 k F s L (pos to a2) to h n b (pos to a) c g) (qCk k C a2 h n b a c g):=by
 intro n
 induction n with
 | zero=>intro b a c g _; exact sZ
 | succ n ih =>
  intro b a c g hy
  show SimN (Option.map (λx=>(x.1,pos to x.2))) (oTh (λx=>x.2 <:+ W)) (qE0 k F s L (pos to a2) to h (qG2 k F s L (pos to a2) to h n) b (pos to a) c g) (qC1 k C a2 h (qCk k C a2 h n) b a c g)
  unfold qE0 qC1
  exact sE λo=>sT (qAa hv ([124]:LN) a hy) λO q=>sI (sT (hF.c5 (3:Int) O.2 q) λa1 T=>sE λQ=>sB (qAc hv a1.2 T) λS U=>sT (qAl hv ([93]:LN) S.2 U) λY I=>sR (x:=((⟨(5:Int),([124]:LN),⟨(Q).length,(Q).flatMap e29⟩,h,false,([]:LL),S.1⟩:S28),Y)) I) (sB (qAc hv O.2 q) λu J=>sT (qAa hv ([93]:LN) u.2 J) λz j=>sI (sR (x:=((⟨(5:Int),([]:LN),⟨(o).length,(o).flatMap e29⟩,h,false,([]:LL),u.1⟩:S28),z.2)) j) (sTE λa3=>sT (qAl hv ([44]:LN) z.2 j) λZ K=>sB (qAc hv Z K) λD M=>sT (hF.c5 (3:Int) D.2 M) λE N=>ih D.1 E.2 o E.1 N))
theorem c19B_sim {k:Nat} {s:LN} {L:List S33} {to:Int} {W:(List Tkn)} (hv:Vw k s L to W) {F:Fns0} {C:Cns} (M:SimC s L to W F C) (J:List Tkn) (h:J <:+ W):SimN (Option.map (λx=>(x.1,pos to x.2))) (oTh (λx=>x.2 <:+ W)) (i19B k F s L (pos to J) to) (c19B k C J):=by
 unfold i19B c19B
 exact sB (qGf hv J h) λc N=>sB (qAc hv J h) λg D=>sT (qAa hv ([93]:LN) g.2 D) λo j=>sI (sR (x:=((⟨(5:Int),([]:LN),⟨(([]:List S28)).length,(([]:List S28)).flatMap e29⟩,c,false,([]:LL),g.1⟩:S28),o.2)) j) (sT (M.c5 (3:Int) o.2 j) λb n=>sJ (α:=(Bool×(List Tkn))) (λx=>(x.1,pos to x.2)) (λx=>x.2 <:+ W) (λK q=>sI (sT (M.c30 (15:Int) ([]:LN) c false ([]:LL) ([]:LL) K.2 ([b.1]:List S28) q) λa E=>sR (x:=((⟨a.1,a.2.1,⟨(a.2.2.2.2.2.2.2).length,(a.2.2.2.2.2.2.2).flatMap e29⟩,a.2.2.1,a.2.2.2.1,a.2.2.2.2.1,a.2.2.2.2.2.1⟩:S28),a.2.2.2.2.2.2.1)) E) (qLd hv M J c k g.1 K.2 ([]:List S28) b.1 q)) (λQ O u=>sI (sT (qAa hv ([124,124]:LN) b.2 n) λz I=>u (z.1,z.2) I) (u (false,b.2) n)))
theorem qLc {k:Nat} {s:LN} {L:List S33} {to:Int} {W:(List Tkn)} (hv:Vw k s L to W) {F:Fns0} {C:Cns} (U:SimC s L to W F C)  (a0:Int) (z:LN) (D:Bool) (E:LL) (O:LL) (I:LN) (g:Bool):∀ (n:Nat) (b:LL) (a:List Tkn) (c:List S28),a <:+ W→SimN (Option.map (λx=>(x.1,x.2.1,x.2.2.1,x.2.2.2.1,x.2.2.2.2.1,x.2.2.2.2.2.1,pos to x.2.2.2.2.2.2.1,x.2.2.2.2.2.2.2))) (oTh (λx=>x.2.2.2.2.2.2.1 <:+ W)) (qG1 k F a0 z D E O I s L to g n b (pos to a) c) (qCj k C a0 z D E O I g n b a c):=by
 intro n
 induction n with
 | zero=>intro b a c _; exact sZ
 | succ n ih =>
  intro b a c hy
  show SimN (Option.map (λx=>(x.1,x.2.1,x.2.2.1,x.2.2.2.1,x.2.2.2.2.1,x.2.2.2.2.2.1,pos to x.2.2.2.2.2.2.1,x.2.2.2.2.2.2.2))) (oTh (λx=>x.2.2.2.2.2.2.1 <:+ W)) (qE k F a0 z D E O I s L to g (qG1 k F a0 z D E O I s L to g n) b (pos to a) c) (qC0 k C a0 z D E O I g (qCj k C a0 z D E O I g n) b a c)
  unfold qE qC0
  exact sT (U.c31 a hy) λQ J=>sE λj=>sB (qAc hv Q.2 J) λo K=>sT (qAa hv I o.2 K) λq h=>sI (sR (x:=(a0,z,g,D,E,o.1,q.2,j)) h) (sTE λT=>sT (qAl hv ([44]:LN) q.2 h) λS M=>sB (qAc hv S M) λu N=>ih u.1 u.2 j N)
theorem c20B_sim {k:Nat} {s:LN} {L:List S33} {to:Int} {W:(List Tkn)} (hv:Vw k s L to W) {F:Fns0} {C:Cns} (K:SimC s L to W F C) (a0:Int) (o:LN) (J:Bool) (q:Bool) (u:LL) (E:LL) (z:LN) (n:List Tkn) (D:List S28) (h:n <:+ W):SimN (Option.map (λx=>(x.1,x.2.1,x.2.2.1,x.2.2.2.1,x.2.2.2.2.1,x.2.2.2.2.2.1,pos to x.2.2.2.2.2.2.1,x.2.2.2.2.2.2.2))) (oTh (λx=>x.2.2.2.2.2.2.1 <:+ W)) (i20B k F a0 o J q u E z s L (pos to n) to D) (c20B k C a0 o J q u E z n D):=by
 unfold i20B c20B
 exact sB (qGf hv n h) λc I=>sB (qAc hv n h) λa j=>sT (qAa hv z a.2 j) λg b=>sI (sR (x:=(a0,o,c,q,u,a.1,g.2,D)) b) (qLc hv K a0 o q u E z c k a.1 g.2 D b)
theorem qLb {k:Nat} {s:LN} {L:List S33} {to:Int} {W:(List Tkn)} (hv:Vw k s L to W) {F:Fns0} {C:Cns} (U:SimC s L to W F C)  (a0:Int) (z:LN) (D:Bool) (E:LL) (O:LL) (I:LN) (g:Bool):∀ (n:Nat) (b:LL) (a:List Tkn) (c:List S28),a <:+ W→SimN (Option.map (λx=>(x.1,x.2.1,x.2.2.1,x.2.2.2.1,x.2.2.2.2.1,x.2.2.2.2.2.1,pos to x.2.2.2.2.2.2.1,x.2.2.2.2.2.2.2))) (oTh (λx=>x.2.2.2.2.2.2.1 <:+ W)) (qG0 k F a0 z D E O I s L to g n b (pos to a) c) (qCi k C a0 z D E O I g n b a c):=by
 intro n
 induction n with
 | zero=>intro b a c _; exact sZ
 | succ n ih =>
  intro b a c hy
  show SimN (Option.map (λx=>(x.1,x.2.1,x.2.2.1,x.2.2.2.1,x.2.2.2.2.1,x.2.2.2.2.2.1,pos to x.2.2.2.2.2.2.1,x.2.2.2.2.2.2.2))) (oTh (λx=>x.2.2.2.2.2.2.1 <:+ W)) (qDz k F a0 z D E O I s L to g (qG0 k F a0 z D E O I s L to g n) b (pos to a) c) (qC k C a0 z D E O I g (qCi k C a0 z D E O I g n) b a c)
  unfold qDz qC
  exact sT (U.c32 a hy) λQ J=>sE λj=>sB (qAc hv Q.2 J) λo K=>sT (qAa hv I o.2 K) λq h=>sI (sR (x:=(a0,z,g,D,E,o.1,q.2,j)) h) (sTE λT=>sT (qAl hv ([44]:LN) q.2 h) λS M=>sB (qAc hv S M) λu N=>ih u.1 u.2 j N)
theorem c21B_sim {k:Nat} {s:LN} {L:List S33} {to:Int} {W:(List Tkn)} (hv:Vw k s L to W) {F:Fns0} {C:Cns} (K:SimC s L to W F C) (a0:Int) (o:LN) (J:Bool) (q:Bool) (u:LL) (E:LL) (z:LN) (n:List Tkn) (D:List S28) (h:n <:+ W):SimN (Option.map (λx=>(x.1,x.2.1,x.2.2.1,x.2.2.2.1,x.2.2.2.2.1,x.2.2.2.2.2.1,pos to x.2.2.2.2.2.2.1,x.2.2.2.2.2.2.2))) (oTh (λx=>x.2.2.2.2.2.2.1 <:+ W)) (i21B k F a0 o J q u E z s L (pos to n) to D) (c21B k C a0 o J q u E z n D):=by
 unfold i21B c21B
 exact sB (qGf hv n h) λc I=>sB (qAc hv n h) λa j=>sT (qAa hv z a.2 j) λg b=>sI (sR (x:=(a0,o,c,q,u,a.1,g.2,D)) b) (qLb hv K a0 o q u E z c k a.1 g.2 D b)
theorem c24B_sim {k:Nat} {s:LN} {L:List S33} {to:Int} {W:(List Tkn)} (hv:Vw k s L to W) {F:Fns0} {C:Cns} (hF:SimC s L to W F C) (a2:List Tkn) (h:a2 <:+ W):SimN (Option.map (λx=>(x.1,pos to x.2))) (oTh (λx=>x.2 <:+ W)) (i24B k F s L (pos to a2) to) (c24B k C a2):=by
 unfold i24B c24B
 exact sT (qAa hv ([102,117,110]:LN) a2 h) λj c=>sI (sB (qGh hv ([40]:LN) j.2 c) λb0 a9=>sI (sT (hF.c34 j.2 c) λN U=>sR (x:=(N.1,N.2)) U) (sT (c35_sim hv j.2 c) λO Y=>sR (x:=(O.1,O.2)) Y)) (sT (qAa hv ([99,97,115,101]:LN) j.2 c) λQ o=>sI (sT (hF.c5 (0:Int) Q.2 o) λS Z=>sT (qAl hv ([111,102]:LN) S.2 Z) λa7 a0=>sT (hF.c36 (18:Int) ([]:LN) false false ([]:LL) ([]:LL) a7 ([S.1]:List S28) a0) λa a1=>sR (x:=((⟨a.1,a.2.1,⟨(a.2.2.2.2.2.2.2).length,(a.2.2.2.2.2.2.2).flatMap e29⟩,a.2.2.1,a.2.2.2.1,a.2.2.2.2.1,a.2.2.2.2.2.1⟩:S28),a.2.2.2.2.2.2.1)) a1) (sT (qAa hv ([105,102]:LN) Q.2 o) λT q=>sI (sT (hF.c37 (19:Int) ([]:LN) false false ([]:LL) ([]:LL) T.2 ([]:List S28) q) λb a3=>sR (x:=((⟨b.1,b.2.1,⟨(b.2.2.2.2.2.2.2).length,(b.2.2.2.2.2.2.2).flatMap e29⟩,b.2.2.1,b.2.2.2.1,b.2.2.2.2.1,b.2.2.2.2.2.1⟩:S28),b.2.2.2.2.2.2.1)) a3) (sT (qAa hv i24c0 T.2 q) λu n=>sI (sT (hF.c38 u.2 n) λz E=>sR (x:=(z.1,z.2)) E) (sT (qAl hv i24c1 u.2 n) λa4 I=>sT (hF.c6 a4 I) λg J=>sB (qAc hv g.2 J) λD K=>sT (qAl hv ([101,110,100]:LN) D.2 K) λa5 M=>sR (x:=((⟨(21:Int),([]:LN),⟨(([g.1]:List S28)).length,(([g.1]:List S28)).flatMap e29⟩,false,false,([]:LL),D.1⟩:S28),a5)) M))))
theorem c25B_sim {k:Nat} {s:LN} {L:List S33} {to:Int} {W:(List Tkn)} (hv:Vw k s L to W) {F:Fns0} {C:Cns} (q:SimC s L to W F C) (o:List Tkn) (h:o <:+ W):SimN (Option.map (λx=>(x.1,pos to x.2))) (oTh (λx=>x.2 <:+ W)) (i25B k F s L (pos to o) to) (c25B k C o):=by
 unfold i25B c25B
 exact sT (qAa hv ([40]:LN) o h) λb a=>sI (sT (q.c17 b.2 a) λc j=>sR (x:=(c.1,c.2)) j) (sT (qGg hv b.2 a) λg n=>sR (x:=((⟨(1:Int),g.1,⟨0,[]⟩,false,false,([]:LL),([]:LL)⟩:S28),g.2)) n)
theorem c26B_sim {k:Nat} {s:LN} {L:List S33} {to:Int} {W:(List Tkn)} (hv:Vw k s L to W) {F:Fns0} {C:Cns} (N:SimC s L to W F C) (a0:S28) (M:List Tkn) (h:M <:+ W):SimN (Option.map (λx=>(x.1,pos to x.2))) (oTh (λx=>x.2 <:+ W)) (i26B k F a0 s L (pos to M) to) (c26B k C a0 M):=by
 unfold i26B c26B
 exact sT (qAa hv ([123]:LN) M h) λj c=>sI (sT (N.c21 (9:Int) ([]:LN) false false ([]:LL) ([]:LL) ([125]:LN) j.2 ([a0]:List S28) c) λa q=>sR (x:=((⟨a.1,a.2.1,⟨(a.2.2.2.2.2.2.2).length,(a.2.2.2.2.2.2.2).flatMap e29⟩,a.2.2.1,a.2.2.2.1,a.2.2.2.2.1,a.2.2.2.2.2.1⟩:S28),a.2.2.2.2.2.2.1)) q) (sT (qGg hv j.2 c) λn u=>sT (qAa hv ([46]:LN) n.2 u) λo g=>sI (sE λO=>sT (qGe hv ([(1:Int)]:List Int) o.2 g) λI z=>sE λJ=>sR (x:=((⟨(12:Int),J,⟨(([a0]:List S28)).length,(([a0]:List S28)).flatMap e29⟩,false,false,([]:LL),([]:LL)⟩:S28),I.2)) z) (sT (qAl hv ([123]:LN) o.2 g) λK D=>sT (N.c18 (11:Int) n.1 false false ([]:LL) ([]:LL) ([125]:LN) K ([a0]:List S28) D) λb E=>sR (x:=((⟨b.1,b.2.1,⟨(b.2.2.2.2.2.2.2).length,(b.2.2.2.2.2.2.2).flatMap e29⟩,b.2.2.1,b.2.2.2.1,b.2.2.2.2.1,b.2.2.2.2.2.1⟩:S28),b.2.2.2.2.2.2.1)) E))
theorem c29B_sim {k:Nat} {s:LN} {L:List S33} {to:Int} {W:(List Tkn)} (hv:Vw k s L to W) {F:Fns0} {C:Cns} (g:SimC s L to W F C) (c:List Tkn) (h:c <:+ W):SimN (Option.map (λx=>(x.1,pos to x.2))) (oTh (λx=>x.2 <:+ W)) (i29B k F s L (pos to c) to) (c29B k C c):=by
 unfold i29B c29B
 exact sT (g.c5 (0:Int) c h) λa b=>sR (x:=(a.1,a.2)) b
theorem qOw {k:Nat} {s:LN} {L:List S33} {to:Int} {W:(List Tkn)} (hv:Vw k s L to W) {F:Fns0} {C:Cns} (hF:SimC s L to W F C) {u:Int→(List S28)→Option (Option Ri30)} {h:(List Tkn)→(List S28)→Option (Option (Int×LN×Bool×Bool×LL×LL×(List Tkn)×(List S28)))} (hkj7:∀ (v0:List Tkn) (v1:List S28),v0 <:+ W→SimN (Option.map (λx=>(x.1,x.2.1,x.2.2.1,x.2.2.2.1,x.2.2.2.2.1,x.2.2.2.2.2.1,pos to x.2.2.2.2.2.2.1,x.2.2.2.2.2.2.2))) (oTh (λx=>x.2.2.2.2.2.2.1 <:+ W)) (u (pos to v0) v1) (h v0 v1)) (a0:Int) (K:LN) (M:Bool) (N:Bool) (O:LL) (Q:LL) (U:List Tkn) (Y:List S28) (a:(S28×(List Tkn))):∀ (n:Nat) (g:Int) (b:List Tkn) (c:List S28),b <:+ W→SimN (Option.map (λx=>(x.1,x.2.1,x.2.2.1,x.2.2.2.1,x.2.2.2.2.1,x.2.2.2.2.2.1,pos to x.2.2.2.2.2.2.1,x.2.2.2.2.2.2.2))) (oTh (λx=>x.2.2.2.2.2.2.1 <:+ W)) (qJl k F u a0 K M N O Q s L (pos to U) to Y ((λx=>(x.1,pos to x.2)) a) n g (pos to b) c) (qDj k C h a0 K M N O Q U Y a n g b c):=by
 intro n
 induction n with
 | zero=>intro g b c _; exact sZ
 | succ n ih =>
  intro g b c hy
  show SimN (Option.map (λx=>(x.1,x.2.1,x.2.2.1,x.2.2.2.1,x.2.2.2.2.1,x.2.2.2.2.2.1,pos to x.2.2.2.2.2.2.1,x.2.2.2.2.2.2.2))) (oTh (λx=>x.2.2.2.2.2.2.1 <:+ W)) (qFz k F u a0 K M N O Q s L (pos to U) to Y ((λx=>(x.1,pos to x.2)) a) (qJl k F u a0 K M N O Q s L (pos to U) to Y ((λx=>(x.1,pos to x.2)) a) n) g (pos to b) c) (qD2 k C h a0 K M N O Q U Y a (qDj k C h a0 K M N O Q U Y a n) g b c)
  unfold qFz qD2
  exact sJ (α:=((List Tkn)×S28×(List S28))) (λx=>(pos to x.1,x.2.1,x.2.2)) (λx=>x.1 <:+ W) (λa9 Z=>sE λz=>sT (qAa hv ([93]:LN) a9.1 Z) λD j=>sI (sR (x:=(a0,K,M,N,O,Q,D.2,z)) j) (sT (qAl hv ([44]:LN) D.2 j) λa6 S=>hkj7 a6 z S)) (λb5 b3 E=>sI (sE λI=>sT (qAa hv I b hy) λJ o=>sJ (α:=List S28) (λx=>x) (λ_=>True) (λz9 b7=>sT (hF.c5 (3:Int) J.2 o) λq T=>E (q.2,(⟨14,I,(⟨(([a.1,q.1]:List S28)).length,(([a.1,q.1]:List S28)).flatMap e29⟩:Raw),false,false,([]:LL),([]:LL)⟩:S28),z9) T) (λj9 b8 b0=>sI (b0 c trivial) (ih (fW .i64 (g+1)) J.2 c o))) (E (b,a.1,c) hy))
theorem qOx {k:Nat} {s:LN} {L:List S33} {to:Int} {W:(List Tkn)} (hv:Vw k s L to W) {F:Fns0} {C:Cns} (E:SimC s L to W F C)  (a0:Int) (g:LN) (h:Bool) (j:Bool) (o:LL) (q:LL) (u:List Tkn) (z:List S28):∀ (n:Nat) (a:List Tkn) (b:List S28),a <:+ W→SimN (Option.map (λx=>(x.1,x.2.1,x.2.2.1,x.2.2.2.1,x.2.2.2.2.1,x.2.2.2.2.2.1,pos to x.2.2.2.2.2.2.1,x.2.2.2.2.2.2.2))) (oTh (λx=>x.2.2.2.2.2.2.1 <:+ W)) (qH7 k F a0 g h j o q s L (pos to u) to z n (pos to a) b) (qE9 k C a0 g h j o q u z n a b):=by
 intro n
 induction n with
 | zero=>intro a b _; exact sZ
 | succ n ih =>
  intro a b hy
  show SimN (Option.map (λx=>(x.1,x.2.1,x.2.2.1,x.2.2.2.1,x.2.2.2.2.1,x.2.2.2.2.2.1,pos to x.2.2.2.2.2.2.1,x.2.2.2.2.2.2.2))) (oTh (λx=>x.2.2.2.2.2.2.1 <:+ W)) (qG k F a0 g h j o q s L (pos to u) to z (qH7 k F a0 g h j o q s L (pos to u) to z n) (pos to a) b) (qD3 k C a0 g h j o q u z (qE9 k C a0 g h j o q u z n) a b)
  unfold qG qD3
  exact sT (E.c5 (3:Int) a hy) λc D=>qOw hv E ih a0 g h j o q u z c k 0 c.2 b D
theorem c30B_sim {k:Nat} {s:LN} {L:List S33} {to:Int} {W:(List Tkn)} (hv:Vw k s L to W) {F:Fns0} {C:Cns} (q:SimC s L to W F C) (a0:Int) (c:LN) (g:Bool) (j:Bool) (n:LL) (o:LL) (a:List Tkn) (b:List S28) (h:a <:+ W):SimN (Option.map (λx=>(x.1,x.2.1,x.2.2.1,x.2.2.2.1,x.2.2.2.2.1,x.2.2.2.2.2.1,pos to x.2.2.2.2.2.2.1,x.2.2.2.2.2.2.2))) (oTh (λx=>x.2.2.2.2.2.2.1 <:+ W)) (i30B k F a0 c g j n o s L (pos to a) to b) (c30B k C a0 c g j n o a b):=by
 unfold i30B c30B
 exact qOx hv q a0 c g j n o a b k a b h
theorem qLa {k:Nat} {s:LN} {L:List S33} {to:Int} {W:(List Tkn)} (hv:Vw k s L to W) {F:Fns0} {C:Cns} (E:SimC s L to W F C) {g:LN×Int→Option (Option (S28×Int))} {c:(LN×(List Tkn))→Option (Option (S28×(List Tkn)))} (hkj16:∀ (x:(LN×(List Tkn))),x.2 <:+ W→SimN (Option.map (λx=>(x.1,pos to x.2))) (oTh (λx=>x.2 <:+ W)) (g ((λx=>(x.1,pos to x.2)) x)) (c x)) (j:((List Tkn)×S28)):∀ (n:Nat) (b:LN) (a:List Tkn),a <:+ W→SimN (Option.map (λx=>(x.1,pos to x.2))) (oTh (λx=>x.2 <:+ W)) (qFy k F g s L to ((λx=>(pos to x.1,x.2)) j) n b (pos to a)) (qCh k C c j n b a):=by
 intro n
 induction n with
 | zero=>intro b a _; exact sZ
 | succ n ih =>
  intro b a hy
  show SimN (Option.map (λx=>(x.1,pos to x.2))) (oTh (λx=>x.2 <:+ W)) (qDy k F g s L to ((λx=>(pos to x.1,x.2)) j) (qFy k F g s L to ((λx=>(pos to x.1,x.2)) j) n) b (pos to a)) (qBz k C c j (qCh k C c j n) b a)
  unfold qDy qBz
  exact sT (qAa hv ([45]:LN) a hy) λo h=>sI (sE λD=>sT (qGe hv ([(1:Int)]:List Int) o.2 h) λu q=>sE λz=>ih z u.2 q) (hkj16 (b,o.2) h)
theorem c31B_sim {k:Nat} {s:LN} {L:List S33} {to:Int} {W:(List Tkn)} (hv:Vw k s L to W) {F:Fns0} {C:Cns} (hF:SimC s L to W F C) (Y:List Tkn) (h:Y <:+ W):SimN (Option.map (λx=>(x.1,pos to x.2))) (oTh (λx=>x.2 <:+ W)) (i31B k F s L (pos to Y) to) (c31B k C Y):=by
 unfold i31B c31B
 exact sB (qHr hv Y h) λZ a9=>sE λb1=>sJ (α:=((List Tkn)×S28)) (λx=>(pos to x.1,x.2)) (λx=>x.1 <:+ W) (λb a0=>sT (qAa hv ([58]:LN) b.1 a0) λq c=>sJ (α:=(LN×(List Tkn))) (λx=>(x.1,pos to x.2)) (λx=>x.2 <:+ W) (λa1 a3=>sT (qAa hv ([47]:LN) a1.2 a3) λu g=>sJ (α:=(LN×(List Tkn))) (λx=>(x.1,pos to x.2)) (λx=>x.2 <:+ W) (λK z=>sI (sR (x:=(b.2,K.2)) z) (sR (x:=((⟨(7:Int),K.1,⟨(([b.2]:List S28)).length,(([b.2]:List S28)).flatMap e29⟩,false,false,([]:LL),([]:LL)⟩:S28),K.2)) z)) (λb5 b2 D=>sI (sE λb0=>sT (qGe hv ([(1:Int)]:List Int) u.2 g) λM o=>sE λN=>qLa hv hF D b k N M.2 o) (D (a1.1,u.2) g))) (λb6 b3 E=>sI (sT (qSl hv q.2 c) λa4 O=>sE λa5=>E (a5,a4.2) O) (E (([]:LN),q.2) c))) (λb7 b4 j=>sI (sT (qEq hv Y h) λa6 Q=>j (a6,(⟨1,Z.f1,(⟨(([]:List S28)).length,(([]:List S28)).flatMap e29⟩:Raw),false,false,([]:LL),([]:LL)⟩:S28)) Q) (sT (qAa hv ([40]:LN) Y h) λI n=>sI (sT (hF.c17 I.2 n) λJ S=>j (J.2,J.1) S) (sT (qAl hv ([60,60]:LN) I.2 n) λa7 T=>sT (hF.c20 (6:Int) ([]:LN) false false ([]:LL) ([]:LL) ([62,62]:LN) a7 ([]:List S28) T) λa U=>j (a.2.2.2.2.2.2.1,(⟨a.1,a.2.1,(⟨(a.2.2.2.2.2.2.2).length,(a.2.2.2.2.2.2.2).flatMap e29⟩:Raw),a.2.2.1,a.2.2.2.1,a.2.2.2.2.1,a.2.2.2.2.2.1⟩:S28)) U)))
theorem qOv {k:Nat} {s:LN} {L:List S33} {to:Int} {W:(List Tkn)} (hv:Vw k s L to W) {F:Fns0} {C:Cns} (z:SimC s L to W F C)  (u:List Tkn) (a:(S28×(List Tkn))):∀ (n:Nat) (c:Int) (b:List Tkn),b <:+ W→SimN (Option.map (λx=>(x.1,pos to x.2))) (oTh (λx=>x.2 <:+ W)) (qJk k F s L (pos to u) to ((λx=>(x.1,pos to x.2)) a) n c (pos to b)) (qDi k C u a n c b):=by
 intro n
 induction n with
 | zero=>intro c b _; exact sZ
 | succ n ih =>
  intro c b hy
  show SimN (Option.map (λx=>(x.1,pos to x.2))) (oTh (λx=>x.2 <:+ W)) (qFx k F s L (pos to u) to ((λx=>(x.1,pos to x.2)) a) (qJk k F s L (pos to u) to ((λx=>(x.1,pos to x.2)) a) n) c (pos to b)) (qD1 k C u a (qDi k C u a n) c b)
  unfold qFx qD1
  exact sI (sE λj=>sT (qAa hv j b hy) λo g=>sI (sT (z.c5 (1:Int) o.2 g) λh q=>sR (x:=((⟨(14:Int),j,⟨(([a.1,h.1]:List S28)).length,(([a.1,h.1]:List S28)).flatMap e29⟩,false,false,([]:LL),([]:LL)⟩:S28),h.2)) q) (ih (fW .i64 (c+1)) o.2 g)) (sR (x:=(a.1,b)) hy)
theorem c32B_sim {k:Nat} {s:LN} {L:List S33} {to:Int} {W:(List Tkn)} (hv:Vw k s L to W) {F:Fns0} {C:Cns} (g:SimC s L to W F C) (c:List Tkn) (h:c <:+ W):SimN (Option.map (λx=>(x.1,pos to x.2))) (oTh (λx=>x.2 <:+ W)) (i32B k F s L (pos to c) to) (c32B k C c):=by
 unfold i32B c32B
 exact sT (g.c5 (1:Int) c h) λa b=>qOv hv g c a k 0 a.2 b
theorem c34B_sim {k:Nat} {s:LN} {L:List S33} {to:Int} {W:(List Tkn)} (hv:Vw k s L to W) {F:Fns0} {C:Cns} (q:SimC s L to W F C) (o:List Tkn) (h:o <:+ W):SimN (Option.map (λx=>(x.1,pos to x.2))) (oTh (λx=>x.2 <:+ W)) (i34B k F s L (pos to o) to) (c34B k C o):=by
 unfold i34B c34B
 exact sT (q.c40 ([]:LL) o h) λa c=>sB (qAc hv a.2 c) λb g=>sT (qAl hv ([101,110,100]:LN) b.2 g) λn j=>sR (x:=((⟨(17:Int),([]:LN),⟨(a.1).length,(a.1).flatMap e29⟩,false,false,([]:LL),b.1⟩:S28),n)) j
theorem c36B_sim {k:Nat} {s:LN} {L:List S33} {to:Int} {W:(List Tkn)} (hv:Vw k s L to W) {F:Fns0} {C:Cns} (N:SimC s L to W F C) (a0:Int) (D:LN) (E:Bool) (I:Bool) (J:LL) (K:LL) (z:List Tkn) (M:List S28) (h:z <:+ W):SimN (Option.map (λx=>(x.1,x.2.1,x.2.2.1,x.2.2.2.1,x.2.2.2.2.1,x.2.2.2.2.2.1,pos to x.2.2.2.2.2.2.1,x.2.2.2.2.2.2.2))) (oTh (λx=>x.2.2.2.2.2.2.1 <:+ W)) (i36B k F a0 D E I J K s L (pos to z) to M) (c36B k C a0 D E I J K z M):=by
 unfold i36B c36B
 exact sB (qAc hv z h) λa c=>sT (N.c41 a.1 a.2 c) λo g=>sE λq=>sB (qAc hv o.2 g) λb j=>sT (qAl hv ([101,110,100]:LN) b.2 j) λu n=>sR (x:=(a0,D,E,I,J,b.1,u,q)) n
theorem c37B_sim {k:Nat} {s:LN} {L:List S33} {to:Int} {W:(List Tkn)} (hv:Vw k s L to W) {F:Fns0} {C:Cns} (N:SimC s L to W F C) (a0:Int) (D:LN) (E:Bool) (I:Bool) (J:LL) (K:LL) (z:List Tkn) (M:List S28) (h:z <:+ W):SimN (Option.map (λx=>(x.1,x.2.1,x.2.2.1,x.2.2.2.1,x.2.2.2.2.1,x.2.2.2.2.2.1,pos to x.2.2.2.2.2.2.1,x.2.2.2.2.2.2.2))) (oTh (λx=>x.2.2.2.2.2.2.1 <:+ W)) (i37B k F a0 D E I J K s L (pos to z) to M) (c37B k C a0 D E I J K z M):=by
 unfold i37B c37B
 exact sB (qAc hv z h) λa c=>sT (N.c42 a.1 a.2 c) λo g=>sE λq=>sB (qAc hv o.2 g) λb j=>sT (qAl hv ([101,110,100]:LN) b.2 j) λu n=>sR (x:=(a0,D,E,I,J,b.1,u,q)) n
theorem c38B_sim {k:Nat} {s:LN} {L:List S33} {to:Int} {W:(List Tkn)} (hv:Vw k s L to W) {F:Fns0} {C:Cns} (O:SimC s L to W F C) (Q:List Tkn) (h:Q <:+ W):SimN (Option.map (λx=>(x.1,pos to x.2))) (oTh (λx=>x.2 <:+ W)) (i38B k F s L (pos to Q) to) (c38B k C Q):=by
 unfold i38B c38B
 exact sB (qAc hv Q h) λj u=>sB (qGh hv i38c0 j.2 u) λT S=>sI (sT (O.c43 j.1 j.2 u) λI M=>sB (qAc hv I.1 M) λK N=>sT (qAa hv i38c0 K.2 N) λn b=>sI (sT (O.c5 (1:Int) n.2 b) λc z=>sT (O.c47 ([]:LN) (⟨23,([]:LN),(⟨(([c.1]:List S28)).length,(([c.1]:List S28)).flatMap e29⟩:Raw),false,false,([]:LL),([]:LL)⟩:S28) (⟨24,([]:LN),(⟨(([]:List S28)).length,(([]:List S28)).flatMap e29⟩:Raw),false,false,([]:LL),([]:LL)⟩:S28) c.2 z) λJ D=>sE λo=>sB (qAc hv J.2 D) λq E=>sT (qAl hv ([101,110,100]:LN) q.2 E) λg a=>sR (x:=((⟨(20:Int),i38c0,⟨(o).length,(o).flatMap e29⟩,false,false,([]:LL),q.1⟩:S28),g)) a) (sT (qAl hv ([101,110,100]:LN) n.2 b) λg a=>sR (x:=((⟨(20:Int),([]:LN),⟨(I.2).length,(I.2).flatMap e29⟩,false,false,([]:LL),K.1⟩:S28),g)) a)) (sT (qAa hv i38c0 j.2 u) λn b=>sI (sT (O.c5 (1:Int) n.2 b) λc z=>sT (O.c47 ([]:LN) (⟨23,([]:LN),(⟨(([c.1]:List S28)).length,(([c.1]:List S28)).flatMap e29⟩:Raw),false,false,([]:LL),([]:LL)⟩:S28) (⟨24,([]:LN),(⟨(([]:List S28)).length,(([]:List S28)).flatMap e29⟩:Raw),false,false,([]:LL),([]:LL)⟩:S28) c.2 z) λJ D=>sE λo=>sB (qAc hv J.2 D) λq E=>sT (qAl hv ([101,110,100]:LN) q.2 E) λg a=>sR (x:=((⟨(20:Int),i38c0,⟨(o).length,(o).flatMap e29⟩,false,false,([]:LL),q.1⟩:S28),g)) a) (sT (qAl hv ([101,110,100]:LN) n.2 b) λg a=>sR (x:=((⟨(20:Int),([]:LN),⟨(([]:List S28)).length,(([]:List S28)).flatMap e29⟩,false,false,([]:LL),j.1⟩:S28),g)) a))
theorem qOu {k:Nat} {s:LN} {L:List S33} {to:Int} {W:(List Tkn)} (hv:Vw k s L to W) {F:Fns0} {C:Cns} (D:SimC s L to W F C)   : ∀ (n:Nat) (b:LL) (a:List Tkn) (c:List S28),a <:+ W→SimN (Option.map (λx=>(x.1,pos to x.2))) (oTh (λx=>x.2 <:+ W)) (qJj k F s L to n b (pos to a) c) (qE8 k C  n b a c):=by
 intro n
 induction n with
 | zero=>intro b a c _; exact sZ
 | succ n ih =>
  intro b a c hy
  show SimN (Option.map (λx=>(x.1,pos to x.2))) (oTh (λx=>x.2 <:+ W)) (qFw k F s L to (qJj k F s L to n) b (pos to a) c) (qD0 k C  (qE8 k C  n) b a c)
  unfold qFw qD0
  exact sT (D.c44 a hy) λz q=>sE λh=>sT (qAa hv ([59]:LN) z.2 q) λj g=>sI (sB (qAc hv j.2 g) λo u=>ih o.1 o.2 h u) (sR (x:=(h,j.2)) g)
theorem c40B_sim {k:Nat} {s:LN} {L:List S33} {to:Int} {W:(List Tkn)} (hv:Vw k s L to W) {F:Fns0} {C:Cns} (b:SimC s L to W F C) (a0:LL) (a:List Tkn) (h:a <:+ W):SimN (Option.map (λx=>(x.1,pos to x.2))) (oTh (λx=>x.2 <:+ W)) (i40B k F a0 s L (pos to a) to) (c40B k C a0 a):=by
 unfold i40B c40B
 exact qOu hv b  k a0 a ([]:List S28) h
theorem qOt {k:Nat} {s:LN} {L:List S33} {to:Int} {W:(List Tkn)} (hv:Vw k s L to W) {F:Fns0} {C:Cns} (D:SimC s L to W F C)   : ∀ (n:Nat) (b:LL) (a:List Tkn) (c:List S28),a <:+ W→SimN (Option.map (λx=>(x.1,pos to x.2))) (oTh (λx=>x.2 <:+ W)) (qJi k F s L to n b (pos to a) c) (qE7 k C  n b a c):=by
 intro n
 induction n with
 | zero=>intro b a c _; exact sZ
 | succ n ih =>
  intro b a c hy
  show SimN (Option.map (λx=>(x.1,pos to x.2))) (oTh (λx=>x.2 <:+ W)) (qFv k F s L to (qJi k F s L to n) b (pos to a) c) (qD k C  (qE7 k C  n) b a c)
  unfold qFv qD
  exact sT (D.c45 a hy) λz q=>sE λh=>sT (qAa hv ([59]:LN) z.2 q) λj g=>sI (sB (qAc hv j.2 g) λo u=>ih o.1 o.2 h u) (sR (x:=(h,j.2)) g)
theorem c41B_sim {k:Nat} {s:LN} {L:List S33} {to:Int} {W:(List Tkn)} (hv:Vw k s L to W) {F:Fns0} {C:Cns} (b:SimC s L to W F C) (a0:LL) (a:List Tkn) (h:a <:+ W):SimN (Option.map (λx=>(x.1,pos to x.2))) (oTh (λx=>x.2 <:+ W)) (i41B k F a0 s L (pos to a) to) (c41B k C a0 a):=by
 unfold i41B c41B
 exact qOt hv b  k a0 a ([]:List S28) h
theorem qOs {k:Nat} {s:LN} {L:List S33} {to:Int} {W:(List Tkn)} (hv:Vw k s L to W) {F:Fns0} {C:Cns} (D:SimC s L to W F C)   : ∀ (n:Nat) (b:LL) (a:List Tkn) (c:List S28),a <:+ W→SimN (Option.map (λx=>(x.1,pos to x.2))) (oTh (λx=>x.2 <:+ W)) (qJh k F s L to n b (pos to a) c) (qE6 k C  n b a c):=by
 intro n
 induction n with
 | zero=>intro b a c _; exact sZ
 | succ n ih =>
  intro b a c hy
  show SimN (Option.map (λx=>(x.1,pos to x.2))) (oTh (λx=>x.2 <:+ W)) (qFu k F s L to (qJh k F s L to n) b (pos to a) c) (qCz k C  (qE6 k C  n) b a c)
  unfold qFu qCz
  exact sT (D.c46 a hy) λz q=>sE λh=>sT (qAa hv ([59]:LN) z.2 q) λj g=>sI (sB (qAc hv j.2 g) λo u=>ih o.1 o.2 h u) (sR (x:=(h,j.2)) g)
theorem c42B_sim {k:Nat} {s:LN} {L:List S33} {to:Int} {W:(List Tkn)} (hv:Vw k s L to W) {F:Fns0} {C:Cns} (b:SimC s L to W F C) (a0:LL) (a:List Tkn) (h:a <:+ W):SimN (Option.map (λx=>(x.1,pos to x.2))) (oTh (λx=>x.2 <:+ W)) (i42B k F a0 s L (pos to a) to) (c42B k C a0 a):=by
 unfold i42B c42B
 exact qOs hv b  k a0 a ([]:List S28) h
theorem qOr {k:Nat} {s:LN} {L:List S33} {to:Int} {W:(List Tkn)} (hv:Vw k s L to W) {F:Fns0} {C:Cns} (D:SimC s L to W F C)   : ∀ (n:Nat) (b:LL) (a:List Tkn) (c:List S28),a <:+ W→SimN (Option.map (λx=>(pos to x.1,x.2))) (oTh (λx=>x.1 <:+ W)) (qJg k F s L to n b (pos to a) c) (qE5 k C  n b a c):=by
 intro n
 induction n with
 | zero=>intro b a c _; exact sZ
 | succ n ih =>
  intro b a c hy
  show SimN (Option.map (λx=>(pos to x.1,x.2))) (oTh (λx=>x.1 <:+ W)) (qFt k F s L to (qJg k F s L to n) b (pos to a) c) (qCy k C  (qE5 k C  n) b a c)
  unfold qFt qCy
  exact sT (D.c45 a hy) λz q=>sE λh=>sT (qAa hv ([59]:LN) z.2 q) λj g=>sI (sB (qAc hv j.2 g) λo u=>ih o.1 o.2 h u) (sR (x:=(j.2,h)) g)
theorem c43B_sim {k:Nat} {s:LN} {L:List S33} {to:Int} {W:(List Tkn)} (hv:Vw k s L to W) {F:Fns0} {C:Cns} (b:SimC s L to W F C) (a0:LL) (a:List Tkn) (h:a <:+ W):SimN (Option.map (λx=>(pos to x.1,x.2))) (oTh (λx=>x.1 <:+ W)) (i43B k F a0 s L (pos to a) to) (c43B k C a0 a):=by
 unfold i43B c43B
 exact qOr hv b  k a0 a ([]:List S28) h
theorem c44B_sim {k:Nat} {s:LN} {L:List S33} {to:Int} {W:(List Tkn)} (hv:Vw k s L to W) {F:Fns0} {C:Cns} (g:SimC s L to W F C) (c:List Tkn) (h:c <:+ W):SimN (Option.map (λx=>(x.1,pos to x.2))) (oTh (λx=>x.2 <:+ W)) (i44B k F s L (pos to c) to) (c44B k C c):=by
 unfold i44B c44B
 exact sT (g.c48 ([]:LN) c h) λa b=>sR (x:=(a.1,a.2)) b
theorem c45B_sim {k:Nat} {s:LN} {L:List S33} {to:Int} {W:(List Tkn)} (hv:Vw k s L to W) {F:Fns0} {C:Cns} (q:SimC s L to W F C) (o:List Tkn) (h:o <:+ W):SimN (Option.map (λx=>(x.1,pos to x.2))) (oTh (λx=>x.2 <:+ W)) (i45B k F s L (pos to o) to) (c45B k C o):=by
 unfold i45B c45B
 exact sT (q.c5 (1:Int) o h) λa g=>sT (q.c49 a.2 g) λb j=>sT (q.c47 ([]:LN) (⟨23,([]:LN),(⟨(([a.1]:List S28)).length,(([a.1]:List S28)).flatMap e29⟩:Raw),false,false,([]:LL),([]:LL)⟩:S28) b.1 b.2 j) λc n=>sR (x:=(c.1,c.2)) n
theorem c46B_sim {k:Nat} {s:LN} {L:List S33} {to:Int} {W:(List Tkn)} (hv:Vw k s L to W) {F:Fns0} {C:Cns} (n:SimC s L to W F C) (j:List Tkn) (h:j <:+ W):SimN (Option.map (λx=>(x.1,pos to x.2))) (oTh (λx=>x.2 <:+ W)) (i46B k F s L (pos to j) to) (c46B k C j):=by
 unfold i46B c46B
 exact sT (n.c50 j h) λa c=>sT (n.c47 ([]:LN) (⟨23,([]:LN),(⟨(([]:List S28)).length,(([]:List S28)).flatMap e29⟩:Raw),false,false,([]:LL),([]:LL)⟩:S28) a.1 a.2 c) λb g=>sR (x:=(b.1,b.2)) g
theorem c47B_sim {k:Nat} {s:LN} {L:List S33} {to:Int} {W:(List Tkn)} (hv:Vw k s L to W) {F:Fns0} {C:Cns} (z:SimC s L to W F C) (a0:LN) (n:S28) (o:S28) (q:List Tkn) (h:q <:+ W):SimN (Option.map (λx=>(x.1,pos to x.2))) (oTh (λx=>x.2 <:+ W)) (i47B k F a0 n o s L (pos to q) to) (c47B k C a0 n o q):=by
 unfold i47B c47B
 exact sT (qAl hv ([45,62]:LN) q h) λc a=>sB (qGf hv c a) λj u=>sT (z.c6 c a) λb g=>sR (x:=((⟨(22:Int),a0,⟨(([n,o,b.1]:List S28)).length,(([n,o,b.1]:List S28)).flatMap e29⟩,j,false,([]:LL),([]:LL)⟩:S28),b.2)) g
theorem c48B_sim {k:Nat} {s:LN} {L:List S33} {to:Int} {W:(List Tkn)} (hv:Vw k s L to W) {F:Fns0} {C:Cns} (q:SimC s L to W F C) (a0:LN) (o:List Tkn) (h:o <:+ W):SimN (Option.map (λx=>(x.1,pos to x.2))) (oTh (λx=>x.2 <:+ W)) (i48B k F a0 s L (pos to o) to) (c48B k C a0 o):=by
 unfold i48B c48B
 exact sT (q.c51 o h) λa g=>sT (q.c49 a.2 g) λb j=>sT (q.c47 a0 a.1 b.1 b.2 j) λc n=>sR (x:=(c.1,c.2)) n
theorem c49B_sim {k:Nat} {s:LN} {L:List S33} {to:Int} {W:(List Tkn)} (hv:Vw k s L to W) {F:Fns0} {C:Cns} (n:SimC s L to W F C) (j:List Tkn) (h:j <:+ W):SimN (Option.map (λx=>(x.1,pos to x.2))) (oTh (λx=>x.2 <:+ W)) (i49B k F s L (pos to j) to) (c49B k C j):=by
 unfold i49B c49B
 exact sT (qAa hv ([119,104,101,110]:LN) j h) λb a=>sI (sT (n.c50 b.2 a) λc g=>sR (x:=(c.1,c.2)) g) (sR (x:=((⟨(24:Int),([]:LN),⟨0,[]⟩,false,false,([]:LL),([]:LL)⟩:S28),b.2)) a)
theorem qOq {k:Nat} {s:LN} {L:List S33} {to:Int} {W:(List Tkn)} (hv:Vw k s L to W) {F:Fns0} {C:Cns} (u:SimC s L to W F C)  (j:List Tkn):∀ (n:Nat) (a:List Tkn) (b:List S28),a <:+ W→SimN (Option.map (λx=>(x.1,pos to x.2))) (oTh (λx=>x.2 <:+ W)) (qJf k F s L (pos to j) to n (pos to a) b) (qE4 k C j n a b):=by
 intro n
 induction n with
 | zero=>intro a b _; exact sZ
 | succ n ih =>
  intro a b hy
  show SimN (Option.map (λx=>(x.1,pos to x.2))) (oTh (λx=>x.2 <:+ W)) (qFs k F s L (pos to j) to (qJf k F s L (pos to j) to n) (pos to a) b) (qCx k C j (qE4 k C j n) a b)
  unfold qFs qCx
  exact sT (qAa hv ([59]:LN) a hy) λg c=>sI (sT (u.c52 g.2 c) λo h=>sE λq=>ih o.2 q h) (sR (x:=((⟨(24:Int),([]:LN),⟨(b).length,(b).flatMap e29⟩,false,false,([]:LL),([]:LL)⟩:S28),g.2)) c)
theorem c50B_sim {k:Nat} {s:LN} {L:List S33} {to:Int} {W:(List Tkn)} (hv:Vw k s L to W) {F:Fns0} {C:Cns} (g:SimC s L to W F C) (c:List Tkn) (h:c <:+ W):SimN (Option.map (λx=>(x.1,pos to x.2))) (oTh (λx=>x.2 <:+ W)) (i50B k F s L (pos to c) to) (c50B k C c):=by
 unfold i50B c50B
 exact sT (g.c52 c h) λa b=>qOq hv g c k a.2 ([a.1]:List S28) b
theorem c51B_sim {k:Nat} {s:LN} {L:List S33} {to:Int} {W:(List Tkn)} (hv:Vw k s L to W) {F:Fns0} {C:Cns} (n:SimC s L to W F C) (j:List Tkn) (h:j <:+ W):SimN (Option.map (λx=>(x.1,pos to x.2))) (oTh (λx=>x.2 <:+ W)) (i51B k F s L (pos to j) to) (c51B k C j):=by
 unfold i51B c51B
 exact sT (qAl hv ([40]:LN) j h) λg b=>sT (n.c18 (23:Int) ([]:LN) false false ([]:LL) ([]:LL) ([41]:LN) g ([]:List S28) b) λa c=>sR (x:=((⟨a.1,a.2.1,⟨(a.2.2.2.2.2.2.2).length,(a.2.2.2.2.2.2.2).flatMap e29⟩,a.2.2.1,a.2.2.2.1,a.2.2.2.2.1,a.2.2.2.2.2.1⟩:S28),a.2.2.2.2.2.2.1)) c
theorem qOo {k:Nat} {s:LN} {L:List S33} {to:Int} {W:(List Tkn)} (hv:Vw k s L to W) {F:Fns0} {C:Cns} (u:SimC s L to W F C)  (j:List Tkn):∀ (n:Nat) (a:List Tkn) (b:List S28),a <:+ W→SimN (Option.map (λx=>(x.1,pos to x.2))) (oTh (λx=>x.2 <:+ W)) (qJe k F s L (pos to j) to n (pos to a) b) (qE3 k C j n a b):=by
 intro n
 induction n with
 | zero=>intro a b _; exact sZ
 | succ n ih =>
  intro a b hy
  show SimN (Option.map (λx=>(x.1,pos to x.2))) (oTh (λx=>x.2 <:+ W)) (qFr k F s L (pos to j) to (qJe k F s L (pos to j) to n) (pos to a) b) (qCw k C j (qE3 k C j n) a b)
  unfold qFr qCw
  exact sT (qAa hv ([44]:LN) a hy) λg c=>sI (sT (u.c5 (1:Int) g.2 c) λo h=>sE λq=>ih o.2 q h) (sR (x:=((⟨(25:Int),([]:LN),⟨(b).length,(b).flatMap e29⟩,false,false,([]:LL),([]:LL)⟩:S28),g.2)) c)
theorem c52B_sim {k:Nat} {s:LN} {L:List S33} {to:Int} {W:(List Tkn)} (hv:Vw k s L to W) {F:Fns0} {C:Cns} (g:SimC s L to W F C) (c:List Tkn) (h:c <:+ W):SimN (Option.map (λx=>(x.1,pos to x.2))) (oTh (λx=>x.2 <:+ W)) (i52B k F s L (pos to c) to) (c52B k C c):=by
 unfold i52B c52B
 exact sT (g.c5 (1:Int) c h) λa b=>qOo hv g c k a.2 ([a.1]:List S28) b
theorem qA8 {k : Nat} {s : LN} {L : List S33} {to : Int} {W : (List Tkn)} (hv : ∀ j, Vw (k + j) s L to W) : ∀ n, SimC s L to W (par0 (k + n)) (cpar k n)
 | 0=>⟨(λ_ _ _=>sZ),(λ_ _=>sZ),(λ_ _=>sZ),(λ_ _=>sZ),(λ_ _ _ _=>sZ),(λ_ _=>sZ),(λ_ _ _ _ _ _ _ _ _ _=>sZ),(λ_ _=>sZ),(λ_ _ _ _ _ _ _ _ _ _=>sZ),(λ_ _ _ _ _ _ _ _ _ _=>sZ),(λ_ _=>sZ),(λ_ _=>sZ),(λ_ _ _=>sZ),(λ_ _=>sZ),(λ_ _ _ _ _ _ _ _ _=>sZ),(λ_ _=>sZ),(λ_ _=>sZ),(λ_ _=>sZ),(λ_ _ _ _ _ _ _ _ _=>sZ),(λ_ _ _ _ _ _ _ _ _=>sZ),(λ_ _=>sZ),(λ_ _ _=>sZ),(λ_ _ _=>sZ),(λ_ _ _=>sZ),(λ_ _ _=>sZ),(λ_ _=>sZ),(λ_ _=>sZ),(λ_ _=>sZ),(λ_ _ _ _ _=>sZ),(λ_ _ _=>sZ),(λ_ _=>sZ),(λ_ _=>sZ),(λ_ _=>sZ),(λ_ _=>sZ)⟩
 | n+1=>⟨c5B_sim (hv n) (qA8 hv n),c6B_sim (hv n) (qA8 hv n),c8B_sim (hv n) (qA8 hv n),c13B_sim (hv n) (qA8 hv n),c14B_sim (hv n) (qA8 hv n),c17B_sim (hv n) (qA8 hv n),c18B_sim (hv n) (qA8 hv n),c19B_sim (hv n) (qA8 hv n),c20B_sim (hv n) (qA8 hv n),c21B_sim (hv n) (qA8 hv n),c24B_sim (hv n) (qA8 hv n),c25B_sim (hv n) (qA8 hv n),c26B_sim (hv n) (qA8 hv n),c29B_sim (hv n) (qA8 hv n),c30B_sim (hv n) (qA8 hv n),c31B_sim (hv n) (qA8 hv n),c32B_sim (hv n) (qA8 hv n),c34B_sim (hv n) (qA8 hv n),c36B_sim (hv n) (qA8 hv n),c37B_sim (hv n) (qA8 hv n),c38B_sim (hv n) (qA8 hv n),c40B_sim (hv n) (qA8 hv n),c41B_sim (hv n) (qA8 hv n),c42B_sim (hv n) (qA8 hv n),c43B_sim (hv n) (qA8 hv n),c44B_sim (hv n) (qA8 hv n),c45B_sim (hv n) (qA8 hv n),c46B_sim (hv n) (qA8 hv n),c47B_sim (hv n) (qA8 hv n),c48B_sim (hv n) (qA8 hv n),c49B_sim (hv n) (qA8 hv n),c50B_sim (hv n) (qA8 hv n),c51B_sim (hv n) (qA8 hv n),c52B_sim (hv n) (qA8 hv n)⟩
end Go.Proofs.Ythpplbkobokghaa.Am
set_option maxRecDepth 100000
set_option linter.unusedVariables false
namespace Go.Proofs.Ythpplbkobokghaa.Am
noncomputable section
open Go
abbrev Ri4:Type:=(Int×LN×Raw×Bool×Bool×LL×LL×Int)
abbrev Ti4:Type:=Int→LN→Raw→Bool→Bool→LL→LL→LN→(List S33)→Int→Int→Option (Option Ri4)
def Xi4 (a0:Int) (g:LN) (h:Raw) (j:Bool) (n:Bool) (o:LL) (q:LL) (b:LN) (c:List S33) (u:Int) (a:Int):Fx (Option Ri4):=⟨Try.prog,cx,Try.f34,λr=>match r with | some r => .tuple [] | none => .top,2,λr=>match r with | some r=>(mkH [⟨[.i r.1,.str r.2.1,q29 r.2.2.1,.bool r.2.2.2.1,.bool r.2.2.2.2.1,w9 r.2.2.2.2.2.1,w9 r.2.2.2.2.2.2.1],7,false⟩,⟨[.str b,w34 c,.i r.2.2.2.2.2.2.2,.i a],4,false⟩]) | none=>(mkH [⟨[.i a0,.str g,q29 h,.bool j,.bool n,w9 o,w9 q],7,false⟩,⟨[.str b,w34 c,.i u,.i a],4,false⟩]),cxTi,cxOrd,λr=>match r with | some _=>none | none=>some (thrown,[1]),false⟩
def Pi4 (f:Ti4):Prop := ∀ a0 b c g h j n o q u a,PQh (Xi4 a0 b c g h j n o q u a) 34 [.ptr 1 4 0,.ptr 0 7 0] (f a0 b c g h j n o q u a)
def i4p0:Pt:=nav [] (bodyAt Try.f34)
def i4 (k:Nat) (a0:Int) (j:LN) (n:Raw) (o:Bool) (q:Bool) (u:LL) (x:LL) (c:LN) (g:List S33) (h:Int) (b:Int):Option (Option Ri4) :=
 bT (i6 k c g h b) λa=>some (some (a.1.f0,a.1.f1,a.1.f2,a.1.f3,a.1.f4,a.1.f5,a.1.f6,a.2))
theorem i4_all (k:Nat):∀ a0 n o q u x z c g j a r,i4 k a0 n o q u x z c g j a=some r→CallT Try.prog 34 [.ptr 1 4 0,.ptr 0 7 0] (mkH [⟨[.i a0,.str n,q29 o,.bool q,.bool u,w9 x,w9 z],7,false⟩,⟨[.str c,w34 g,.i j,.i a],4,false⟩]) ((Xi4 a0 n o q u x z c g j a).thr r) ((Xi4 a0 n o q u x z c g j a).enc r) ((Xi4 a0 n o q u x z c g j a).fin r):=by
 intro a0 n o q u x z c g j a r h
 refine qA2 (Xi4 a0 n o q u x z c g j a) Try.func34 Kr Kr rfl (t:=i4 k a0 n o q u x z c g j a) ?_ h
 unfold i4
 refine qA (eE:=[(0,.ptr 1 4 0),(1,.ptr 0 7 0)]) Kr ?_
 let E:Blk:=⟨[.i a0,.str n,q29 o,.bool q,.bool u,w9 x,w9 z],7,false⟩
 refine oH 2 (atN 1 (ctl1 i4p0)) [(3,.ptr 1 4 0),(0,.ptr 1 4 0),(1,.ptr 0 7 0)] (mkH [E,⟨[.str c,w34 g,.i j,.i a],4,false⟩]) ?_
 refine oX (λ(b:(S28×Int))=>n29 b.1) (λb=>[E,⟨[.str c,w34 g,.i b.2,.i a],4,false⟩]) (atN 2 (ctl1 i4p0)) 4 [1] [] [] [1] [] [.ptr 1 4 0] (i6_ok k c g j a) trivial (λ_=>trivial) trivial λb D=>?_
 exact oQF 2 [⟨e29 b.1,7,false⟩,⟨[.str c,w34 g,.i b.2,.i a],4,false⟩] 2 [] [] (.tuple []) .ps trivial
theorem i4_ok (k:Nat):Pi4 (i4 k):=λa0 b c g j n o q u z a=>⟨λx h=>i4_all k a0 b c g j n o q u z a (some x) h,λh=>⟨_,i4_all k a0 b c g j n o q u z a none h⟩⟩
abbrev Ri1:Type:=(Int×Int×LL×Int×LN×Raw×Bool×Bool×LL)
abbrev Ti1:Type:=LN→(List S33)→Int→Int→Int→LN→Raw→Bool→Bool→LL→LL→Option Ri1
def Xi1 (a0:LN) (b:List S33) (c:Int) (g:Int) (h:Int) (j:LN) (n:Raw) (o:Bool) (q:Bool) (u:LL) (a:LL):Fx Ri1:=⟨Try.prog,cx,Try.f27,λr => .tuple [.i r.1,.i r.2.1],1,λr=>(mkH [⟨[.i r.2.2.2.1,.str r.2.2.2.2.1,q29 r.2.2.2.2.2.1,.bool r.2.2.2.2.2.2.1,.bool r.2.2.2.2.2.2.2.1,w9 r.2.2.2.2.2.2.2.2,w9 r.2.2.1],7,false⟩]),cxTi,cxOrd,λ_=>none,true⟩
def Pi1 (f:Ti1):Prop := ∀ a0 b c g h j n o q u a,PNh (Xi1 a0 b c g h j n o q u a) 27 [.str a0,w34 b,.i c,.i g,.func 34 [] [.ptr 0 7 0]] (mkH [⟨[.i h,.str j,q29 n,.bool o,.bool q,w9 u,w9 a],7,false⟩]) (f a0 b c g h j n o q u a)
def i1p1:Pt:=nav [0,0,0,0] (nav [0] (bodyAt Try.f27))
def i1p2:Pt:=nav [0,0] i1p1
def i1p6:Pt:=nav [0,0,0] (nav [2,0,0] i1p2)
def i1p7:Pt:=nav [0,0,0] i1p6
def i1 (k:Nat) (a0:LN) (z:List S33) (c:Int) (g:Int) (h:Int) (j:LN) (n:Raw) (o:Bool) (q:Bool) (u:LL) (b:LL):Option Ri1 :=
 jn (λ(D:Bool)=>if D then (some ((0:Int),(8:Int),b,h,j,n,o,q,u)) else (cT (i4 k h j n o q u b a0 z c g) (some ((0:Int),(8:Int),b,h,j,n,o,q,u)) λa=>some (a.2.2.2.2.2.2.2,(0:Int),a.2.2.2.2.2.2.1,a.1,a.2.1,a.2.2.1,a.2.2.2.1,a.2.2.2.2.1,a.2.2.2.2.2.1))) (λx=>if (decide (c < 0)) then (x true) else (if (decide ((z.length:Int) < g)) then (x true) else (x (decide (g < c)))))
theorem i1_all (k:Nat):∀ a0 g j b n o q u z E c r,i1 k a0 g j b n o q u z E c=some r→CallT Try.prog 27 [.str a0,w34 g,.i j,.i b,.func 34 [] [.ptr 0 7 0]] (mkH [⟨[.i n,.str o,q29 q,.bool u,.bool z,w9 E,w9 c],7,false⟩]) ((Xi1 a0 g j b n o q u z E c).thr r) ((Xi1 a0 g j b n o q u z E c).enc r) ((Xi1 a0 g j b n o q u z E c).fin r):=by
 intro a0 g j b n o q u z E c r h
 refine qA2 (Xi1 a0 g j b n o q u z E c) Try.func27 Kr Kr rfl (t:=i1 k a0 g j b n o q u z E c) ?_ h
 unfold i1
 refine qA (eE:=[(0,.str a0),(1,w34 g),(2,.i j),(3,.i b),(4,.func 34 [] [.ptr 0 7 0])]) Kr ?_
 let K:Env:=[(15,.bool (decide (j < 0))),(14,.bool (decide (j < 0))),(13,.i j),(11,.ptr 2 1 0),(10,.ptr 1 1 0),(0,.str a0),(1,w34 g),(2,.i j),(3,.i b),(4,.func 34 [] [.ptr 0 7 0])]
 let I:Blk:=⟨[.i n,.str o,q29 q,.bool u,.bool z,w9 E,w9 c],7,false⟩
 let U:List Blk:=[I,⟨[.i 0],0,false⟩,⟨[.i 0],0,false⟩]
 refine oH 11 (atN 3 (ctl1 i1p1)) K (mkH U) ?_
 refine oJ i1p2 (λ(Y:Bool)=>[(0,.str a0),(1,w34 g),(2,.i j),(3,.i b),(4,.func 34 [] [.ptr 0 7 0]),(10,.ptr 1 1 0),(11,.ptr 2 1 0),(25,.bool Y)]) (λ(Y:Bool)=>(mkH U)) (λY=>?_) (λj1 J=>?_)
 ·refine oS 25 (λN=>?_) (λN=>?_)
  ·let E2:Env:=[(25,.bool true),(0,.str a0),(1,w34 g),(2,.i j),(3,.i b),(4,.func 34 [] [.ptr 0 7 0]),(10,.ptr 1 1 0),(11,.ptr 2 1 0),(25,.bool Y)]
   exact oQF 7 [I,⟨[.i 0],1,false⟩,⟨[.i 8],1,false⟩] 1 [] [.i 0,.i 8] (.tuple [.i 0,.i 8]) .ps trivial
  ·let Z:Env:=[(4,.func 34 [] [.ptr 0 7 0]),(10,.ptr 1 1 0),(11,.ptr 2 1 0),(12,.ptr 3 4 0)]
   let K2:List Blk:=[I,⟨[.i 0],0,false⟩,⟨[.i 0],0,false⟩,⟨[.str a0,w34 g,.i j,.i b],0,false⟩]
   refine oLH 13 i1p6 Z (mkH K2) ?_
   refine oR 2 (atN 1 (ctl1 i1p6)) ((32,.func 46 [] [.ptr 1 1 0,.ptr 2 1 0])::Z) ?_
   refine qLv (f:=46) (caps:=[.ptr 1 1 0,.ptr 2 1 0]) Kr ?_
   refine okD_at (p':=(atN 2 (ctl1 i1p6))) Kr ?_
   refine qFl 5 (p':=(atN 2 (ctl1 i1p7))) (eE:=((34,.ptr 3 4 0)::(33,.func 34 [] [.ptr 0 7 0])::(32,.func 46 [] [.ptr 1 1 0,.ptr 2 1 0])::Z)) (H':=(mkH K2)) Kr ?_
   let O:Blk:=⟨[.str a0,w34 g,.i j,.i b],4,false⟩
   let K3:List Blk:=[I,⟨[.i 0],0,false⟩,⟨[.i 0],0,false⟩,O]
   let K4:List Blk:=[I,⟨[.i 0],1,false⟩,⟨[.i 8],1,false⟩,O]
   refine qLx (tv:=thrown) (D:=[3]) (rc:=((0:Int),(8:Int),c,n,o,q,u,z,E)) (tc:=some ((0:Int),(8:Int),c,n,o,q,u,z,E)) (xs:=[.i 0,.i 8]) (v := .tuple [.i 0,.i 8]) (fi:=34) (args:=[.ptr 3 4 0,.ptr 0 7 0]) (λ(a:Ri4) => .tuple []) (λ(a:Ri4)=>(mkH [⟨[.i a.1,.str a.2.1,q29 a.2.2.1,.bool a.2.2.2.1,.bool a.2.2.2.2.1,w9 a.2.2.2.2.2.1,w9 a.2.2.2.2.2.2.1],7,false⟩,⟨[.i 0],0,false⟩,⟨[.i 0],0,false⟩,⟨[.str a0,w34 g,.i a.2.2.2.2.2.2.2,.i b],4,false⟩])) (atN 3 (ctl1 i1p7)) (λa=>[(35,.tuple []),(34,.ptr 3 4 0),(33,.func 34 [] [.ptr 0 7 0]),(32,.func 46 [] [.ptr 1 1 0,.ptr 2 1 0]),(4,.func 34 [] [.ptr 0 7 0]),(10,.ptr 1 1 0),(11,.ptr 2 1 0),(12,.ptr 3 4 0)]) K3 [I] [⟨[.i 0],1,false⟩,⟨[.i 8],1,false⟩,O] [(10,.ptr 1 1 0),(11,.ptr 2 1 0)] [10,11] 3 rfl rfl Kr (λh=>frS 0 (M:=K3) (rs:=[0,3]) (ms:=[]) (mv:=[]) (mm:=[]) (D:=[3]) (xs':=[.ptr 3 4 0,.ptr 0 7 0]) (.refl) ((i4_ok k n o q u z E c a0 g j b).2 h) trivial trivial Kr) Kr Kr Kr Kr (qF6 (⟨Try.prog,cx,Try.f46,λ_ => .tuple [],4,λ_=>(mkH K4),cxTi,cxOrd,λ_=>none,false⟩:Fx Unit) 5 2 (x := .iface 72 (.agg [])) qGp Kr Kr Kr rfl rfl rfl rfl ?_) rfl Kr Kr Kr (.pures Kr) ⟨Kr,trivial⟩ Kr Kr (λa h=>frW 0 K3 (rs:=[0,3]) (ms:=[]) (ms':=[]) (mv:=[]) (xs':=[.ptr 3 4 0,.ptr 0 7 0]) (.refl) ((i4_ok k n o q u z E c a0 g j b).1 a h) trivial trivial Kr) (λ_=>by kernel_rfl) (λa b2=>?_)
   ·refine oE [(2,.iface 72 (.agg [])),(5,.iface 72 (.agg [])),(0,.ptr 1 1 0),(1,.ptr 2 1 0)] ?_
    let K:Env:=[(4,.bool true),(3,.ptr 4 0 0),(12,.bool true),(11,.agg []),(8,.tuple [.agg [],.bool true]),(10,.tuple [.agg [],.bool true]),(9,.iface 72 (.agg [])),(7,.bool true),(6,.iface 72 (.agg [])),(2,.iface 72 (.agg [])),(5,.iface 72 (.agg [])),(0,.ptr 1 1 0),(1,.ptr 2 1 0)]
    let E2:Env:=[(0,.ptr 1 1 0),(1,.ptr 2 1 0),(2,.iface 72 (.agg [])),(4,.bool true)]
    refine oLH 19 (nav [0,0,0] (nav [1,0,0] (nav [0,0] (nav [0] (restAt Try.f46))))) E2 (mkH [I,⟨[.i 0],0,false⟩,⟨[.i 0],0,false⟩,O,⟨[],0,false⟩]) ?_
    refine oH 10 .fin ((14,.bool false)::(13,.bool true)::E2) (mkH [I,⟨[.i 0],1,false⟩,⟨[.i 8],1,false⟩,O,⟨[],0,false⟩]) ?_
    refine qAf K4 [⟨[],0,false⟩] Kr rfl Kr ⟨Kr,⟨Kr,⟨Kr,⟨Kr,trivial⟩⟩⟩⟩ ?_
    exact qI8 (r:=()) (xs:=[]) Kr Kr Kr Kr
   ·let Q:Blk:=⟨[.i a.1,.str a.2.1,q29 a.2.2.1,.bool a.2.2.2.1,.bool a.2.2.2.2.1,w9 a.2.2.2.2.2.1,w9 a.2.2.2.2.2.2.1],7,false⟩
    let S:Blk:=⟨[.i a.2.2.2.2.2.2.2],1,false⟩
    let T:Blk:=⟨[.str a0,w34 g,.i a.2.2.2.2.2.2.2,.i b],4,false⟩
    refine qFl 11 (p' := .fin) (eE:=((39,.i a.2.2.2.2.2.2.2)::(38,.ptr 3 4 2)::(37,.ptr 3 4 0)::(36,.ptr 3 4 0)::(35,.tuple [])::(34,.ptr 3 4 0)::(33,.func 34 [] [.ptr 0 7 0])::(32,.func 46 [] [.ptr 1 1 0,.ptr 2 1 0])::Z)) (H':=(mkH [Q,S,⟨[.i 0],1,false⟩,T])) Kr ?_
    refine qQ6 (r:=(a.2.2.2.2.2.2.2,(0:Int),a.2.2.2.2.2.2.1,a.1,a.2.1,a.2.2.1,a.2.2.2.1,a.2.2.2.2.1,a.2.2.2.2.2.1)) (xs:=[.i a.2.2.2.2.2.2.2,.i 0]) (v := .tuple [.i a.2.2.2.2.2.2.2,.i 0]) [Q,S,⟨[.i 0],1,false⟩,T] [Q] [S,⟨[.i 0],1,false⟩,T] rfl rfl (qF6 (⟨Try.prog,cx,Try.f46,λ_ => .tuple [],4,λ_=>(mkH [Q,S,⟨[.i 0],1,false⟩,T]),cxTi,cxOrd,λ_=>none,false⟩:Fx Unit) 5 2 (x := .nili) qM Kr Kr Kr rfl rfl rfl rfl ?_) Kr Kr Kr Kr (.pures Kr) ⟨Kr,trivial⟩ Kr Kr
    let K:Env:=[(7,.bool false),(6,.nili),(2,.nili),(5,.nili),(0,.ptr 1 1 0),(1,.ptr 2 1 0)]
    refine oH 7 .fin K (mkH [Q,S,⟨[.i 0],1,false⟩,T]) ?_
    exact qI8 (r:=()) (xs:=[]) Kr Kr Kr Kr
 ·refine oS 15 (λN=>?_) (λN=>?_)
  ·refine oLH 11 i1p2 [(0,.str a0),(1,w34 g),(2,.i j),(3,.i b),(4,.func 34 [] [.ptr 0 7 0]),(10,.ptr 1 1 0),(11,.ptr 2 1 0),(25,.bool true)] (mkH U) ?_
   exact J true
  ·let E8:Env:=((21,.bool (decide ((g.length:Int) < b)))::(20,.bool (decide ((g.length:Int) < b)))::(19,.bool (decide ((g.length:Int) < b)))::(18,.i (g.length:Int))::(17,w34 g)::(16,.i b)::(15,.bool false)::K)
   refine oH 6 (atN 9 (ctl1 i1p1)) E8 (mkH U) ?_
   refine oS 21 (λN=>?_) (λN=>?_)
   ·refine oR 5 i1p2 ((25,.bool true)::(24,.tuple [])::(23,.tuple [])::(22,.tuple [])::(21,.bool true)::E8) ?_
    refine oK [0,1,2,3,4,10,11,25] [(0,.str a0),(1,w34 g),(2,.i j),(3,.i b),(4,.func 34 [] [.ptr 0 7 0]),(10,.ptr 1 1 0),(11,.ptr 2 1 0),(25,.bool true)] ?_
    exact J true
   ·refine oL 5 i1p2 [(0,.str a0),(1,w34 g),(2,.i j),(3,.i b),(4,.func 34 [] [.ptr 0 7 0]),(10,.ptr 1 1 0),(11,.ptr 2 1 0),(25,.bool (decide (b < j)))] ?_
    exact J (decide (b < j))
theorem i1_ok (k:Nat):Pi1 (i1 k):=λa0 b c g j n o q u z a=>λx h=>i1_all k a0 b c g j n o q u z a x h
def Xg23:Fx (S28×Int×Int):=⟨Try.prog,cx,Try.f23,λr => .tuple [.agg [.i r.1.f0,.str r.1.f1,q29 r.1.f2,.bool r.1.f3,.bool r.1.f4,w9 r.1.f5,w9 r.1.f6],.i r.2.1,.i r.2.2],0,λ_=>H0,cxTi,cxOrd,λ_=>none,false⟩
def g23p2:Pt:=nav [0,0,0] (nav [0,0,0] (nav [0] (bodyAt Try.f23)))
def g23p3:Pt:=nav [0,0,0] g23p2
def g23 (k:Nat) (a0:LN) (c:List S33) (g:Int) (h:Int):Option (S28×Int×Int) :=
 (i1 k a0 c g h (0:Int) ([]:LN) (⟨(([]:List S28)).length,(([]:List S28)).flatMap e29⟩:Raw) false false ([]:LL) ([]:LL)).bind λa=>(g30 k (⟨a.2.2.2.1,a.2.2.2.2.1,a.2.2.2.2.2.1,a.2.2.2.2.2.2.1,a.2.2.2.2.2.2.2.1,a.2.2.2.2.2.2.2.2,a.2.2.1⟩:S28) a.2.1).bind λb=>some (b,a.1,a.2.1)
theorem g23_ok (k:Nat) (a0:LN) (b:List S33) (c:Int) (g:Int) (r:(S28×Int×Int)) (h:g23 k a0 b c g=some r):PureOk Try.prog 23 [.str a0,w34 b,.i c,.i g] (.tuple [.agg [.i r.1.f0,.str r.1.f1,q29 r.1.f2,.bool r.1.f3,.bool r.1.f4,w9 r.1.f5,w9 r.1.f6],.i r.2.1,.i r.2.2]):=by
 refine qA4 Xg23 (λ_=>⟨rfl,rfl⟩) Try.func23 (by decide +kernel) Kr (t:=g23 k a0 b c g) ?_ h
 unfold g23
 refine qA (eE:=[(0,.str a0),(1,w34 b),(2,.i c),(3,.i g)]) Kr ?_
 let u:Env:=[(11,.ptr 1 7 0),(10,.i 0),(9,.i 0),(8,.ptr 0 7 0),(0,.str a0),(1,w34 b),(2,.i c),(3,.i g)]
 let j:Blk:=⟨[.i 0,.str [],.nils,.bool false,.bool false,.nils,.nils],0,false⟩
 refine oH 11 g23p2 u (mkH [j,j]) ?_
 refine qDv [j,j] 1 0 [.i 0,.str [],.nils,.bool false,.bool false,.nils,.nils] [.i 0,.str [],w29 ([]:List S28),.bool false,.bool false,w9 ([]:LL),w9 ([]:LL)] Kr rfl (.cons (.cons (.nil (.cons (.cons (.nil (.nil (.refl)))))))) ?_
 let x:Env:=((19,.func 34 [] [.ptr 1 7 0])::(18,.i g)::(17,.i c)::(16,w34 b)::(15,.str a0)::u)
 refine oH 6 (atN 5 (ctl1 g23p2)) x (mkH [j,⟨[.i 0,.str [],w29 ([]:List S28),.bool false,.bool false,w9 ([]:LL),w9 ([]:LL)],0,false⟩]) ?_
 refine qIa (λ(a:Ri1) => .tuple [.i a.1,.i a.2.1]) (λ(a:Ri1)=>(mkH [j,⟨[.i a.2.2.2.1,.str a.2.2.2.2.1,q29 a.2.2.2.2.2.1,.bool a.2.2.2.2.2.2.1,.bool a.2.2.2.2.2.2.2.1,w9 a.2.2.2.2.2.2.2.2,w9 a.2.2.1],7,false⟩])) (atN 6 (ctl1 g23p2)) (λa=>((20,.tuple [.i a.1,.i a.2.1])::x)) (fi:=27) (args:=[.str a0,w34 b,.i c,.i g,.func 34 [] [.ptr 1 7 0]]) Kr (λa h=>frW 0 [j,⟨[.i 0,.str [],w29 ([]:List S28),.bool false,.bool false,w9 ([]:LL),w9 ([]:LL)],7,false⟩] (rs:=[1]) (ms:=[]) (ms':=[]) (mv:=[]) (xs':=[.str a0,w34 b,.i c,.i g,.func 34 [] [.ptr 1 7 0]]) (.refl) (i1_ok k a0 b c g (0:Int) ([]:LN) (⟨(([]:List S28)).length,(([]:List S28)).flatMap e29⟩:Raw) false false ([]:LL) ([]:LL) a h) trivial trivial Kr) (λ_=>by kernel_rfl) (λa o=>?_)
 let z:Env:=[(8,.ptr 0 7 0),(11,.ptr 1 7 0),(12,.i a.1),(13,.i a.2.1)]
 refine oLH 7 g23p3 z (mkH [j,⟨[.i a.2.2.2.1,.str a.2.2.2.2.1,q29 a.2.2.2.2.2.1,.bool a.2.2.2.2.2.2.1,.bool a.2.2.2.2.2.2.2.1,w9 a.2.2.2.2.2.2.2.2,w9 a.2.2.1],7,false⟩]) ?_
 refine oR 3 (atN 2 (ctl1 g23p3)) ((24,.i a.2.1)::(23,.agg [.i a.2.2.2.1,.str a.2.2.2.2.1,q29 a.2.2.2.2.2.1,.bool a.2.2.2.2.2.2.1,.bool a.2.2.2.2.2.2.2.1,w9 a.2.2.2.2.2.2.2.2,w9 a.2.2.1])::z) ?_
 refine oA (λ(n:S28)=>n29 n) (atN 3 (ctl1 g23p3)) 25 [.agg [.i a.2.2.2.1,.str a.2.2.2.2.1,q29 a.2.2.2.2.2.1,.bool a.2.2.2.2.2.2.1,.bool a.2.2.2.2.2.2.2.1,w9 a.2.2.2.2.2.2.2.2,w9 a.2.2.1],.i a.2.1] (g30_ok k (⟨a.2.2.2.1,a.2.2.2.2.1,a.2.2.2.2.2.1,a.2.2.2.2.2.2.1,a.2.2.2.2.2.2.2.1,a.2.2.2.2.2.2.2.2,a.2.2.1⟩:S28) a.2.1) λn q=>?_
 exact oQ 7
end
theorem qPr {L:List S33} {W:List Tkn} {k:Nat} {s:LN} (hv:Vw k s L (L.length:Int) W):pos (L.length:Int) W=0:=by
 have:=hv.len
 unfold pos
 omega
theorem cT_some {α R:Type} {m:Option (Option α)} {x:α} {d r:Option R} {f:α→Option R} (h:m=some (some x)) (k:f x=r):cT m d f=r:=by rw [h]; exact k
theorem cT_none {α R:Type} {m:Option (Option α)} {d r:Option R} {f:α→Option R} (h:m=some none) (k:d=r):cT m d f=r:=by rw [h]; exact k
theorem expr_top {k n:Nat} {s:LN} {L:List S33} {W:List Tkn} {lv:Int} {nd:S28} {r:List Tkn} (hv:∀ j,Vw (k+j) s L (L.length:Int) W) (h:(cpar k n).c5 lv W=some (some (nd,r))):g14 (k+n) s L 0 (L.length:Int) lv=some (nd,pos (L.length:Int) r,0):=by
 obtain ⟨h1,-⟩:=(qA8 hv n).c5 lv W (List.suffix_refl W) _ h
 rw [qPr (hv 0)] at h1
 have h2:i3 (k+n) lv 0 [] ⟨0,[]⟩ false false [] [] s L 0 (L.length:Int)=some (some (nd.f0,pos (L.length:Int) r,nd.f1,nd.f2,nd.f3,nd.f4,nd.f5,nd.f6)):=by
  unfold i3
  refine (congrArg (λm=>bT m _) h1).trans rfl
 unfold g14
 refine bS (a:=(pos (L.length:Int) r,0,nd.f5,nd.f6,nd.f0,nd.f1,nd.f2,nd.f3,nd.f4)) ?_ (bS rfl rfl)
 unfold i0
 exact (jS (v:=false) (λj=>iF (by decide) (iF (dF (by omega)) (by rw [dF (by omega)])))).trans (iF rfl (cT_some h2 rfl))
def dgN (c:Nat):Nat:=if 48≤c∧c≤57 then c - 48 else if 97≤c∧c≤122 then c - 87 else if 65≤c∧c≤90 then c - 55 else 99
def isD (b:Nat) (s:LN):Bool:=match s with | d::_=>decide (dgN d < b) | []=>false
theorem isD_nil (b:Nat):isD b []=false:=rfl
theorem qM5 (b d:Nat) (r:LN):isD b (d::r)=decide (dgN d < b):=rfl
def runN (b : Nat) : Bool → LN → Nat
 | _,[]=>0
 | p,c::r=>if dgN c < b then runN b true r+1 else if p && decide (c=95) && isD b r then runN b false r+1 else 0
theorem qBo (b:Nat) (p:Bool) (c:Nat) (r:LN):runN b p (c::r)=if dgN c < b then runN b true r+1 else if p && decide (c=95) && isD b r then runN b false r+1 else 0:=rfl
def barN (b : Nat) : LN → Nat
 | []=>0
 | c::r=>if dgN c < b then barN b r+1 else 0
theorem dg_le (c:Nat):dgN c≤99:=by
 unfold dgN; repeat' split
 all_goals omega
theorem qBn (b : Nat) : ∀ (p : Bool) (s : LN), runN b p s ≤ s.length
 | _,[]=>Nat.le_refl _
 | p,c::r=>by
  have h1:=qBn b true r
  have h2:=qBn b false r
  simp only [runN,List.length_cons]
  repeat' split
  all_goals omega
theorem qSr (b : Nat) : ∀ (s : LN), barN b s ≤ s.length
 | []=>Nat.le_refl _
 | c::r=>by
  have h1:=qSr b r
  simp only [barN,List.length_cons]
  split <;> omega
theorem dg_95:dgN 95=99:=by decide
theorem qB5 (k:Nat) {c b:Nat} (h:c < 256) (hb:b≤99):g92 k (c:Int) (b:Int)=some (if dgN c < b then ((dgN c:Nat):Int) else -1):=by
 have w:=byteAll (f:=λc=>decide (g92 0 (c:Int) 99=some (if dgN c < 99 then ((dgN c:Nat):Int) else -1))) (by decide +kernel) h
 have w:g92 k (c:Int) 99=some (if dgN c < 99 then ((dgN c:Nat):Int) else -1):=of_decide_eq_true w
 have hd:=dg_le c
 unfold g92 at w ⊢
 revert w
 generalize g60 k (c:Int)=D
 generalize fW .i64 (fW .u8 ((c:Int) - 48))=A
 generalize fW .i64 (fW .i64 (fW .u8 ((c:Int) - 97))+10)=B
 generalize fW .i64 (fW .i64 (fW .u8 ((c:Int) - 65))+10)=C
 have key:∀ x:Int,(if decide ((99:Int)≤x) then some (-1:Int) else some x)=some (if dgN c < 99 then ((dgN c:Nat):Int) else -1)→(if decide ((b:Int)≤x) then some (-1:Int) else some x)=some (if dgN c < b then ((dgN c:Nat):Int) else -1):=by
  intro x hx
  by_cases h1:(99:Int)≤x
  ·rw [decide_eq_true h1,if_pos rfl] at hx
   have:=Option.some.inj hx
   rw [decide_eq_true (by omega:(b:Int)≤x),if_pos rfl]
   split at this
   ·omega
   ·rw [if_neg (by omega)]
  ·rw [decide_eq_false h1,if_neg (by decide)] at hx
   have:=Option.some.inj hx
   by_cases h2:(b:Int)≤x
   ·rw [decide_eq_true h2,if_pos rfl]
    split at this
    ·rw [if_neg (by omega)]
    ·omega
   ·rw [decide_eq_false h2,if_neg (by decide),this]
    split at this
    ·rw [if_pos (by omega),if_pos (by omega)]
    ·rw [if_neg (by omega),if_neg (by omega)]
 cases D with
 | none=>intro w; cases w
 | some d =>
  have m1:=key (-1)
  have m2:=key A
  have m3:=key B
  have m4:=key C
  simp only [Option.bind_some,jn]
  generalize decide (65≤(c:Int))=p1
  generalize decide ((c:Int)≤90)=p2
  generalize decide (97≤(c:Int))=p3
  generalize decide ((c:Int)≤122)=p4
  cases d <;> cases p1 <;> cases p2 <;> cases p3 <;> cases p4 <;> first | exact m1 | exact m2 | exact m3 | exact m4
theorem rrun_l (k : Nat) {s : LN} (hs : By s) (hl : Sz s) {b : Nat} (hb : b ≤ 99) (a : Nat) : ∀ (f i : Nat), s.length < i + f → i ≤ s.length → a ≤ i → ∀ p : Bool, (p = true ↔ a < i ∧ ∃ c r, s.drop (i - 1) = c :: r ∧ c ≠ 95) →
 qG5 k s (a:Int) (b:Int) true f (i:Int)=some ((i - a+runN b p (s.drop i):Nat):Int)
 | 0,i,h,h2,h3,p,hp=>by omega
 | f+1,i,h,h2,h3,p,hp=>by
  unfold Sz at hl
  rw [qN4]
  rcases Nat.lt_or_ge i s.length with hi | hi
  ·obtain ⟨c,r,hc,hr,hm,hrl⟩:=dcons hi
   have ih:=rrun_l k hs hl hb a f (i+1) (by omega) (by omega) (by omega)
   rw [hr] at ih
   have e:((i:Int)+1)=((i+1:Nat):Int):=by push_cast; rfl
   by_cases hd:dgN c < b
   ·have c95:c ≠ 95:=by intro h; rw [h,dg_95] at hd; omega
    have:=ih true ⟨λ_=>⟨by omega,c,r,by simpa using hc,c95⟩,λ_=>rfl⟩
    simp (disch:=omega) only [↓reduceIte,↓jn,gsL,nthX rfl hc,qB5 k (hs c hm) hb,hc,qBo,hd,e,this]
    exact sn (by omega)
   ·have out:∀ x:Nat,x=0→some ((i:Int) - (a:Int))=some (((i - a+x:Nat)):Int):=by
     intro x hx; subst hx; congr 1; omega
    by_cases h95:c=95
    ·subst h95
     cases p with
     | true =>
      obtain ⟨ha,c',r',hc',hne⟩:=hp.1 rfl
      have hx:(i:Int) - 1=((i - 1:Nat):Int):=by omega
      have hne':¬ ((c':Int)=95):=by omega
      cases r with
      | nil =>
       simp only [List.length_nil] at hrl
       simp (disch:=omega) only [↓reduceIte,↓jn,gsL,nthX rfl hc,qB5 k (hs _ hm) hb,hc,qBo,hd,nthX hx hc',hne',isD_nil]
       exact out _ rfl
      | cons d r =>
       simp only [List.length_cons] at hrl
       have d256:d < 256:=by
        have:=hs.drop i; rw [hc] at this; exact this d (by simp)
       by_cases hdd:dgN d < b
       ·have hq:false=true ↔ a < i+1∧∃ c r,s.drop (i+1 - 1)=c::r∧c ≠ 95:=by
         constructor
         ·intro h; cases h
         ·rintro ⟨-,c,r,h1,h2⟩
          rw [Nat.add_sub_cancel,hc] at h1
          exact absurd (List.cons.inj h1).1.symm h2
        have:=ih false hq
        simp (disch:=omega) only [↓reduceIte,↓jn,gsL,nthX rfl hc,qB5 k (hs _ hm) hb,qB5 k d256 hb,hc,qBo,hd,nthX hx hc',nthX e hr,nthX rfl hr,hne',qM5,hdd,e,this]
        exact sn (by omega)
       ·simp (disch:=omega) only [↓reduceIte,↓jn,gsL,nthX rfl hc,qB5 k (hs _ hm) hb,qB5 k d256 hb,hc,qBo,hd,nthX hx hc',nthX e hr,nthX rfl hr,hne',qM5,hdd]
        exact out _ rfl
     | false =>
      by_cases ha:a < i
      ·obtain ⟨c',r',hc',hr',hm',-⟩:=dcons (s:=s) (i:=i - 1) (by omega)
       have hx:(i:Int) - 1=((i - 1:Nat):Int):=by omega
       have h95':c'=95:=by
        rcases Nat.lt_or_ge c' 95 with h | h
        ·exact absurd (hp.2 ⟨ha,c',r',hc',by omega⟩) (by decide)
        ·rcases Nat.lt_or_ge 95 c' with h | h
         ·exact absurd (hp.2 ⟨ha,c',r',hc',by omega⟩) (by decide)
         ·omega
       subst h95'
       simp (disch:=omega) only [↓reduceIte,↓jn,gsL,nthX rfl hc,qB5 k (hs _ hm) hb,hc,qBo,hd,nthX hx hc']
       exact out _ rfl
      ·simp (disch:=omega) only [↓reduceIte,↓jn,gsL,nthX rfl hc,qB5 k (hs _ hm) hb,hc,qBo,hd]
       exact out _ rfl
    ·simp (disch:=omega) only [↓reduceIte,↓jn,gsL,nthX rfl hc,qB5 k (hs _ hm) hb,hc,qBo,hd]
     exact out _ rfl
  ·simp (disch:=omega) only [↓reduceIte,↓jn,gsL,dnil hi,runN]
   congr 1; omega
theorem qK6 {k:Nat} {s:LN} (hk:s.length < k) (hs:By s) (hl:Sz s) {b:Nat} (hb:b≤99) {a:Nat} (ha:a≤s.length):g73 k s (a:Int) (b:Int) true=some ((runN b false (s.drop a):Nat):Int):=by
 have:=rrun_l k hs hl hb a k a (by omega) ha (Nat.le_refl _) false ⟨λh=>(by cases h),λ⟨h,_⟩=>absurd h (Nat.lt_irrefl _)⟩
 rw [Nat.sub_self,Nat.zero_add] at this
 exact this
theorem rbar_l (k : Nat) {s : LN} (hs : By s) (hl : Sz s) (a : Nat) : ∀ (f i : Nat), s.length < i + f → i ≤ s.length → a ≤ i →
 qG5 k s (a:Int) 10 false f (i:Int)=some ((i - a+barN 10 (s.drop i):Nat):Int)
 | 0,i,h,h2,h3=>by omega
 | f+1,i,h,h2,h3=>by
  unfold Sz at hl
  rw [qN4]
  rcases Nat.lt_or_ge i s.length with hi | hi
  ·obtain ⟨c,r,hc,hr,hm,hrl⟩:=dcons hi
   have ih:=rbar_l k hs hl a f (i+1) (by omega) (by omega) (by omega)
   rw [hr] at ih
   have e:((i:Int)+1)=((i+1:Nat):Int):=by push_cast; rfl
   have v:=qB5 k (b:=10) (hs c hm) (by decide)
   have v:g92 k (c:Int) 10=some (if dgN c < 10 then ((dgN c:Nat):Int) else -1):=v
   by_cases hd:dgN c < 10
   ·simp (disch:=omega) only [↓reduceIte,↓jn,gsL,nthX rfl hc,v,hc,barN,hd,e,ih]
    exact sn (by omega)
   ·simp (disch:=omega) only [↓reduceIte,↓jn,gsL,nthX rfl hc,v,hc,barN,hd]
    congr 1; omega
  ·simp (disch:=omega) only [↓reduceIte,↓jn,gsL,dnil hi,barN]
   congr 1; omega
theorem rbar_at {k:Nat} {s:LN} (hk:s.length < k) (hs:By s) (hl:Sz s) {a:Nat} (ha:a≤s.length):g73 k s (a:Int) 10 false=some ((barN 10 (s.drop a):Nat):Int):=by
 have:=rbar_l k hs hl a k a (by omega) ha (Nat.le_refl _)
 rw [Nat.sub_self,Nat.zero_add] at this
 exact this
def frontN : LN → Nat × Nat
 | a::b::r=>if dgN a < 10 then (if b=35 then (if 2≤dgN a then (2,dgN a) else (0,10)) else if dgN b < 10 then (match r with | c::_=>if c=35∧2≤10 * dgN a+dgN b∧10 * dgN a+dgN b≤36 then (3,10 * dgN a+dgN b) else (0,10) | []=>(0,10)) else (0,10)) else (0,10)
 | _=>(0,10)
def wholeN (s:LN):Nat:=if 0 < (frontN s).1∧0 < runN (frontN s).2 false (s.drop (frontN s).1) then (frontN s).1+runN (frontN s).2 false (s.drop (frontN s).1) else runN 10 false s
def sgn (s:LN):Nat:=match s with | c::_=>if c=43∨c=45 then 1 else 0 | []=>0
def expN (s:LN):Nat:=match s with | e::q=>if e=101∨e=69 then (if 0 < runN 10 false (q.drop (sgn q)) then 1+sgn q+runN 10 false (q.drop (sgn q)) else 0) else 0 | []=>0
def fracN (n:Nat) (s:LN):Nat:=match s with | c::r=>if c=46 then (if runN 10 false r=0 then 0 else n+1+runN 10 false r+expN (r.drop (runN 10 false r))) else 0 | []=>0
def partN (s:LN):Nat:=if runN 10 false s=0 then 0 else fracN (runN 10 false s) (s.drop (runN 10 false s))
theorem dg_35:¬ dgN 35 < 10:=by decide
theorem qS7 (s:LN):(frontN s).1≤s.length∧(frontN s).2≤36:=by
 unfold frontN
 repeat' split
 all_goals simp only [List.length_cons]
 all_goals omega
theorem sgn_le (q:LN):sgn q≤q.length:=by
 unfold sgn; split
 ·split <;> simp
 ·simp
theorem qQ7 {s:LN} {i b:Nat} {r:LN} (h:s.drop i=b::r):nthS s (i:Int)=some (b:Int):=by
 have e:s[i]? = some b:=by
  have:=List.getElem?_drop (xs:=s) (i:=i) (j:=0)
  rw [h] at this
  simpa using this.symm
 unfold nthS
 rw [if_pos (by omega)]
 simp [e]
theorem qGd {s:LN} {i:Nat} (h:i < s.length):∃ b r,s.drop i=b::r∧s.drop (i+1)=r∧b ∈ s:=by
 refine ⟨s[i],s.drop (i+1),?_,rfl,List.getElem_mem h⟩
 exact List.drop_eq_getElem_cons h
def byteOk (b:Nat):Bool:=decide (andI .u8 (b:Int) 63=((b % 64:Nat):Int)) && decide (andI .u8 (b:Int) 31=((b % 32:Nat):Int)) && decide (andI .u8 (b:Int) 15=((b % 16:Nat):Int)) && decide (andI .u8 (b:Int) 7=((b % 8:Nat):Int)) && (decide (andI .u8 (b:Int) 192=128) == decide (b / 64=2))
theorem qOz:((List.range 256).all byteOk)=true:=by decide +kernel
theorem byte_ok {b:Nat} (h:b < 256):andI .u8 (b:Int) 63=((b % 64:Nat):Int)∧andI .u8 (b:Int) 31=((b % 32:Nat):Int)∧andI .u8 (b:Int) 15=((b % 16:Nat):Int)∧andI .u8 (b:Int) 7=((b % 8:Nat):Int)∧(andI .u8 (b:Int) 192=128 ↔ b / 64=2):=by
 have w:=List.all_eq_true.1 qOz b (List.mem_range.2 h)
 simp only [byteOk,Bool.and_eq_true,decide_eq_true_eq,beq_iff_eq] at w
 obtain ⟨⟨⟨⟨w1,w2⟩,w3⟩,w4⟩,w5⟩:=w
 refine ⟨w1,w2,w3,w4,?_⟩
 constructor
 ·intro h
  rw [decide_eq_true h] at w5
  exact of_decide_eq_true w5.symm
 ·intro h
  rw [decide_eq_true h] at w5
  exact of_decide_eq_true w5
theorem fwn (x:Nat) (h:x≤9223372036854775807):fW .i64 (x:Int)=x:=fw64 _ (by omega) (by omega)
def leadN (c:Nat):Nat×Nat:=if c < 128 then (1,c) else if c / 32=6 then (2,c % 32) else if c / 16=14 then (3,c % 16) else if c / 8=30 then (4,c % 8) else (0,0)
def moreN : Nat → Nat → LN → Option Nat
 | 0,c,_=>some c
 | _+1,_,[]=>none
 | n+1,c,b::r=>if b / 64=2 then moreN n (c * 64+b % 64) r else none
def leastN (n:Nat):Nat:=if n=2 then 128 else if n=3 then 2048 else if n=4 then 65536 else 0
def cpN (c:Nat):Bool:=decide (c≤1114111) && !(decide (55296≤c) && decide (c≤57343))
def fitN (n : Nat) : Option Nat → Int × Int
 | none=>(-1,1)
 | some y=>if leastN n≤y∧cpN y=true then ((y:Int),(n:Int)) else (-1,1)
def dec : LN → Int × Int
 | []=>(0,0)
 | c::r=>if (leadN c).1=0 then (-1,1) else fitN (leadN c).1 (moreN ((leadN c).1 - 1) (leadN c).2 r)
theorem qEj : ∀ (n c : Nat) (r : LN), r.length < n → moreN n c r = none
 | 0,c,r,h=>by omega
 | n+1,c,[],h=>rfl
 | n+1,c,b::r,h=>by
  unfold moreN
  split
  ·exact qEj n _ r (by simp at h; omega)
  ·rfl
theorem qLt {k c:Nat}:g59 k (c:Int)=some (cpN c):=by
 unfold g59 cpN
 by_cases h1:c≤1114111
 ·by_cases h2:c < 55296
  ·have:¬ 55296≤c:=by omega
   have e2:decide ((c:Int)≤1114111)=true:=by simp; omega
   have e3:decide ((c:Int) < 55296)=true:=by simp; omega
   simp [e2,e3,h1,this]
  ·have:55296≤c:=by omega
   have e2:decide ((c:Int)≤1114111)=true:=by simp; omega
   have e3:decide ((c:Int) < 55296)=false:=by simp; omega
   simp [e2,e3,h1,this]
   rw [Bool.eq_iff_iff]; simp; omega
 ·have e2:decide ((c:Int)≤1114111)=false:=by simp; omega
  simp [e2,h1]
theorem pow64_le {i:Nat} (h:i≤3):64 ^ i≤262144:=by
 have:i=0∨i=1∨i=2∨i=3:=by omega
 obtain rfl | rfl | rfl | rfl:=this <;> decide
theorem qO8 {y i b:Nat} (h:y < 64 ^ i):y * 64+b % 64 < 64 ^ (i+1):=by
 rw [Nat.pow_succ]
 have:=Nat.mod_lt b (by decide:0 < 64)
 generalize 64 ^ i=P at h ⊢
 omega
theorem qPj (k : Nat) (s : LN) (hs : ∀ b ∈ s, b < 256) (hl : s.length ≤ 140737488351232) (at' n q : Nat) (hn : n ≤ 4) (hat : at' + n ≤ s.length) : ∀ (d m i y : Nat), i + d = n → 1 ≤ i → y < 64 ^ i →
 qG9 k s (at':Int) ((q:Int),(n:Int),((leastN n:Nat):Int)) (d+1+m) (y:Int) (i:Int)=some (fitN n (moreN d y (s.drop (at'+i))))
 | 0,m,i,y,hi,h1,hy=>by
  rw [show 0+1+m=m+1 from by omega,qNd]
  have e1:decide ((i:Int) < (n:Int))=false:=by simp; omega
  simp only [e1,qLt,moreN,fitN,Option.bind_some,jn]
  by_cases h:leastN n≤y
  ·have e2:decide ((y:Int) < ((leastN n:Nat):Int))=false:=by simp; omega
   cases hc:cpN y <;> simp [e2,h,hc]
  ·have e2:decide ((y:Int) < ((leastN n:Nat):Int))=true:=by simp; omega
   simp [e2,h]
 | d+1,m,i,y,hi,h1,hy=>by
  rw [show d+1+1+m=(d+1+m)+1 from by omega,qNd]
  have e1:decide ((i:Int) < (n:Int))=true:=by simp; omega
  obtain ⟨b,r,hb,hr,hm⟩:=qGd (s:=s) (i:=at'+i) (by omega)
  have e2:fW .i64 ((at':Int)+(i:Int))=((at'+i:Nat):Int):=by
   have:(at':Int)+(i:Int)=((at'+i:Nat):Int):=by push_cast; rfl
   rw [this,fwn _ (by omega)]
  obtain ⟨b63,-,-,-,b192⟩:=byte_ok (hs b hm)
  have hi4:i≤3:=by omega
  have a1:i+1+d=n:=by rw [← hi]; exact Nat.add_right_comm i 1 d
  have a2:1≤i+1:=Nat.le_add_left 1 i
  have a3:y * 64+b % 64 < 64 ^ (i+1):=qO8 hy
  have hp:64 ^ i≤262144:=pow64_le hi4
  have e3:fW .i64 ((i:Int)+1)=((i+1:Nat):Int):=by
   have:(i:Int)+1=((i+1:Nat):Int):=by push_cast; rfl
   rw [this,fwn _ (by omega)]
  have e5:fW .i64 (fW .i64 ((y:Int) * 64)+((b % 64:Nat):Int))=((y * 64+b % 64:Nat):Int):=by
   have:(y:Int) * 64=((y * 64:Nat):Int):=by push_cast; rfl
   rw [this,fwn _ (by omega)]
   have:((y * 64:Nat):Int)+((b % 64:Nat):Int)=((y * 64+b % 64:Nat):Int):=by push_cast; rfl
   rw [this,fwn _ (by omega)]
  simp only [e1,e2,qQ7 hb,Option.bind_some,b63,if_true]
  by_cases h:b / 64=2
  ·have e4:decide (andI .u8 (b:Int) 192=128)=true:=decide_eq_true (b192.2 h)
   have ih:=qPj k s hs hl at' n q hn hat d m (i+1) (y * 64+b % 64) a1 a2 a3
   rw [e4,fwn _ (by omega:b % 64≤9223372036854775807),e5,e3,ih,hb,show at'+(i+1)=at'+i+1 from by omega,hr]
   simp [moreN,h]
  ·have e4:decide (andI .u8 (b:Int) 192=128)=false:=decide_eq_false (λw=>h (b192.1 w))
   rw [e4,hb]
   simp [moreN,h,fitN]
theorem lead_le (c:Nat):(leadN c).1≤4:=by
 unfold leadN; repeat' split
 all_goals simp
theorem qDs {k:Nat} (hk:6≤k) {s:LN} (hs:∀ b ∈ s,b < 256) (hl:s.length≤140737488351232) (i:Nat):g36 k s (i:Int)=some (dec (s.drop i)):=by
 unfold g36
 have e0:decide ((i:Int) < 0)=false:=decide_eq_false (by omega)
 by_cases hi:i < s.length
 ·have e1:decide ((s.length:Int)≤(i:Int))=false:=by simp; omega
  obtain ⟨c,r,hc,hr,hm⟩:=qGd hi
  have hc':=hs c hm
  have hrl:r.length+i+1=s.length:=by rw [← hr,List.length_drop]; omega
  have e2:fW .i64 ((s.length:Int) - (i:Int))=((r.length+1:Nat):Int):=by
   have:(s.length:Int) - (i:Int)=((r.length+1:Nat):Int):=by omega
   rw [this,fwn _ (by omega)]
  have a31:andI .i64 (c:Int) 31=((c % 32:Nat):Int):=by have:=andI64 (c:Int) 5 (by decide); exact this
  have a15:andI .i64 (c:Int) 15=((c % 16:Nat):Int):=by have:=andI64 (c:Int) 4 (by decide); exact this
  have a7:andI .i64 (c:Int) 7=((c % 8:Nat):Int):=by have:=andI64 (c:Int) 3 (by decide); exact this
  simp only [e0,e1,qQ7 hc,Option.bind_some,jn,e2,hc,dec,fwn c (by omega),a31,a15,a7]
  have step : ∀ (n q : Nat), 2 ≤ n → n ≤ 4 → q < 64 ^ 1 → leadN c = (n, q) →
   (if decide (((r.length+1:Nat):Int) < (n:Int)) then some ((-1:Int),(1:Int)) else qG9 k s (i:Int) ((q:Int),(n:Int),((leastN n:Nat):Int)) k (q:Int) 1)=some (fitN n (moreN (n - 1) q r)):=by
   intro n q hn hn4 hq hlead
   by_cases h1:r.length+1 < n
   ·rw [if_pos (by simp only [decide_eq_true_eq]; omega),qEj _ _ _ (by omega)]
    rfl
   ·rw [if_neg (by simp only [decide_eq_true_eq]; omega)]
    have w:=qPj k s hs hl i n q hn4 (by omega) (n - 1) (k - n) 1 q (by omega) (by decide) hq
    rw [show n - 1+1+(k - n)=k from by omega,hr] at w
    exact w
  by_cases c1:c < 128
  ·have:leadN c=(1,c):=by unfold leadN; rw [if_pos c1]
   have hcp:cpN c=true:=by unfold cpN; simp; omega
   rw [this,decide_eq_true (show (c:Int) < 128 by omega)]
   simp [moreN,fitN,leastN,hcp]
  ·rw [decide_eq_false (show ¬ (c:Int) < 128 by omega)]
   simp only [Bool.false_eq_true,if_false]
   by_cases c2:192≤c∧c < 224
   ·have hL:leadN c=(2,c % 32):=by unfold leadN; rw [if_neg c1,if_pos (by omega)]
    rw [decide_eq_true (show (192:Int)≤(c:Int) by omega),decide_eq_true (show (c:Int) < 224 by omega),hL]
    exact step 2 (c % 32) (by decide) (by decide) (by omega) hL
   ·have n1:¬ c / 32=6:=by omega
    by_cases c3:224≤c∧c < 240
    ·have hL:leadN c=(3,c % 16):=by unfold leadN; rw [if_neg c1,if_neg n1,if_pos (by omega)]
     rw [decide_eq_true (show (192:Int)≤(c:Int) by omega),decide_eq_false (show ¬ (c:Int) < 224 by omega),decide_eq_true (show (224:Int)≤(c:Int) by omega),decide_eq_true (show (c:Int) < 240 by omega),hL]
     exact step 3 (c % 16) (by decide) (by decide) (by omega) hL
    ·have n2:¬ c / 16=14:=by omega
     by_cases c4:240≤c∧c < 248
     ·have hL:leadN c=(4,c % 8):=by unfold leadN; rw [if_neg c1,if_neg n1,if_neg n2,if_pos (by omega)]
      rw [decide_eq_true (show (192:Int)≤(c:Int) by omega),decide_eq_false (show ¬ (c:Int) < 224 by omega),decide_eq_true (show (224:Int)≤(c:Int) by omega),decide_eq_false (show ¬ (c:Int) < 240 by omega),decide_eq_true (show (240:Int)≤(c:Int) by omega),decide_eq_true (show (c:Int) < 248 by omega),hL]
      exact step 4 (c % 8) (by decide) (by decide) (by omega) hL
     ·have n3:¬ c / 8=30:=by omega
      have hL:leadN c=(0,0):=by unfold leadN; rw [if_neg c1,if_neg n1,if_neg n2,if_neg n3]
      rw [hL]
      by_cases d1:192≤c
      ·rw [decide_eq_true (show (192:Int)≤(c:Int) by omega),decide_eq_false (show ¬ (c:Int) < 224 by omega),decide_eq_true (show (224:Int)≤(c:Int) by omega),decide_eq_false (show ¬ (c:Int) < 240 by omega),decide_eq_true (show (240:Int)≤(c:Int) by omega),decide_eq_false (show ¬ (c:Int) < 248 by omega)]
       rfl
      ·rw [decide_eq_false (show ¬ (192:Int)≤(c:Int) by omega),decide_eq_false (show ¬ (224:Int)≤(c:Int) by omega),decide_eq_false (show ¬ (240:Int)≤(c:Int) by omega)]
       rfl
 ·have e1:decide ((s.length:Int)≤(i:Int))=true:=by simp; omega
  rw [e0,e1,List.drop_eq_nil_of_le (by omega)]
  rfl
theorem qDe {s:LN} (h:s ≠ []):∃ n:Nat,(dec s).2=(n:Int)∧1≤n∧n≤4∧n≤s.length∧((dec s).1 < 0→n=1):=by
 cases s with
 | nil=>exact absurd rfl h
 | cons c r =>
  have hd:dec (c::r)=if (leadN c).1=0 then (-1,1) else fitN (leadN c).1 (moreN ((leadN c).1 - 1) (leadN c).2 r):=rfl
  rw [hd]
  by_cases h0:(leadN c).1=0
  ·rw [if_pos h0]
   exact ⟨1,rfl,by decide,by decide,by simp,λ_=>rfl⟩
  ·rw [if_neg h0]
   cases hm:moreN ((leadN c).1 - 1) (leadN c).2 r with
   | none=>exact ⟨1,rfl,by decide,by decide,by simp,λ_=>rfl⟩
   | some y =>
    unfold fitN
    simp only []
    split
    ·have:=lead_le c
     refine ⟨(leadN c).1,rfl,by omega,this,?_,?_⟩
     ·rcases Nat.lt_or_ge r.length ((leadN c).1 - 1) with hlt | hge
      ·rw [qEj _ _ _ hlt] at hm; cases hm
      ·simp; omega
     ·intro hneg
      simp at hneg
      omega
    ·exact ⟨1,rfl,by decide,by decide,by simp,λ_=>rfl⟩
def vld : Nat → LN → Bool
 | _,[]=>true
 | 0,_=>false
 | n+1,s=>if (dec s).1 < 0 then false else vld n (s.drop (dec s).2.toNat)
theorem drop_lt {s:LN} {i:Nat} (h:i < s.length):s.drop i ≠ []:=by
 intro e
 have:=congrArg List.length e
 simp at this
 omega
theorem qP3 {k:Nat} (hk:6≤k) {s:LN} (hs:∀ b ∈ s,b < 256) (hl:s.length≤140737488351232):∀ (d m i:Nat),s.length≤i+d→i≤s.length→qHj k s (d+1+m) (i:Int)=some (vld d (s.drop i)):=by
 intro d
 induction d with
 | zero =>
  intro m i h1 h2
  have e:s.drop i=[]:=List.drop_eq_nil_of_le (by omega)
  rw [show 0+1+m=m+1 from by omega,qNe,e,decide_eq_false (show ¬ (i:Int) < (s.length:Int) by omega)]
  rfl
 | succ d ih =>
  intro m i h1 h2
  rw [show d+1+1+m=(d+1+m)+1 from by omega,qNe]
  by_cases hi:i < s.length
  ·rw [decide_eq_true (show (i:Int) < (s.length:Int) by omega)]
   obtain ⟨c,r,hc,-,-⟩:=qGd hi
   obtain ⟨n,n1,n2,n3,n4,n5⟩:=qDe (drop_lt hi)
   rw [List.length_drop] at n4
   have b1:s.length≤i+n+d:=by clear n1; omega
   have b2:i+n≤s.length:=by clear n1; omega
   simp only [qDs hk hs hl,Option.bind_some,if_true]
   have hv:vld (d+1) (s.drop i)=if (dec (s.drop i)).1 < 0 then false else vld d ((s.drop i).drop (dec (s.drop i)).2.toNat):=by
    rw [hc]; rfl
   rw [hv]
   by_cases hneg:(dec (s.drop i)).1 < 0
   ·rw [decide_eq_true hneg,if_pos hneg]
    rfl
   ·rw [decide_eq_false hneg,if_neg hneg,n1,List.drop_drop]
    have e3:fW .i64 ((i:Int)+(n:Int))=((i+n:Nat):Int):=by
     have:(i:Int)+(n:Int)=((i+n:Nat):Int):=by omega
     rw [this,fwn _ (by omega)]
    rw [e3]
    exact ih m (i+n) b1 b2
  ·have e:s.drop i=[]:=List.drop_eq_nil_of_le (by omega)
   rw [e,decide_eq_false (show ¬ (i:Int) < (s.length:Int) by omega)]
   rfl
theorem qO1 {k:Nat} {s:LN} (hk:s.length+6≤k) (hs:∀ b ∈ s,b < 256) (hl:s.length≤140737488351232):g24 k s=some (vld s.length s):=by
 have h:=qP3 (k:=k) (by omega) hs hl s.length (k - (s.length+1)) 0 (by omega) (by omega)
 rw [show s.length+1+(k - (s.length+1))=k from by omega] at h
 exact h
def enc (c:Nat):LN:=if c < 128 then [c] else if c < 2048 then [192+c / 64,128+c % 64] else if c < 65536 then [224+c / 4096,128+c / 64 % 64,128+c % 64] else [240+c / 262144,128+c / 4096 % 64,128+c / 64 % 64,128+c % 64]
def put (n:Int):LN:=if 0≤n∧cpN n.toNat=true then enc n.toNat else []
def digV (b : Nat) : Nat → Nat → LN → Nat × Nat
 | 0,v,_=>(v,0)
 | _+1,v,[]=>(v,0)
 | m+1,v,c::r=>if dgN c < b then ((digV b m (v * b+dgN c) r).1,(digV b m (v * b+dgN c) r).2+1) else (v,0)
def hexBr (q:LN):Int×Int:=if (digV 16 6 0 q).2=0 then (-1,0) else match q.drop (digV 16 6 0 q).2 with | c::_=>if c=125∧cpN (digV 16 6 0 q).1=true then (((digV 16 6 0 q).1:Int),((4+(digV 16 6 0 q).2:Nat):Int)) else (-1,0) | []=>(-1,0)
def hex2 (r:LN):Int×Int:=if (digV 16 2 0 r).2 < 2 then (-1,0) else (((digV 16 2 0 r).1:Int),4)
def hexN (r:LN):Int×Int:=match r with | c::q=>if c=123 then hexBr q else hex2 (c::q) | []=>(-1,0)
def ctlN (r:LN):Int×Int:=match r with | c::_=>if c < 64∨95 < c∧(c < 97∨122 < c) then (-1,0) else (((c % 32:Nat):Int),3) | []=>(-1,0)
def nameN (c:Nat):Nat:=if c=98 then 8 else if c=100 then 127 else if c=101 then 27 else if c=102 then 12 else if c=110 then 10 else if c=114 then 13 else if c=115 then 32 else if c=116 then 9 else if c=118 then 11 else 0
def uniN (s:LN):Int×Int:=if (dec s).1 < 32 then (-1,0) else ((dec s).1,(dec s).2+1)
def octN (s:LN):Int×Int:=(((digV 8 3 0 s).1:Int),((1+(digV 8 3 0 s).2:Nat):Int))
def escB (c:Nat) (r:LN):Int×Int:=if c=120 then hexN r else if c=94 then ctlN r else if 48≤c∧c≤55 then octN (c::r) else if nameN c=0 then uniN (c::r) else ((nameN c:Int),2)
def escN (s:LN):Int×Int:=match s with | a::c::r=>if a=92 then escB c r else (-1,0) | _=>(-1,0)
theorem qEn (b : Nat) : ∀ (m v : Nat) (s : LN), (digV b m v s).2 ≤ m ∧ (digV b m v s).2 ≤ s.length
 | 0,v,s=>⟨Nat.le_refl _,Nat.zero_le _⟩
 | m+1,v,[]=>⟨Nat.zero_le _,Nat.le_refl _⟩
 | m+1,v,c::r=>by
  have:=qEn b m (v * b+dgN c) r
  simp only [digV]
  split
  ·simp only [List.length_cons]; omega
  ·exact ⟨Nat.zero_le _,Nat.zero_le _⟩
theorem and31 {c:Nat} (h:c < 256):andI .u8 (c:Int) 31=((c % 32:Nat):Int)∧andI .i64 (c:Int) 31=((c % 32:Nat):Int):=by
 have w:=byteAll (f:=λc=>decide (andI .u8 (c:Int) 31=((c % 32:Nat):Int)) && decide (andI .i64 (c:Int) 31=((c % 32:Nat):Int))) (by decide +kernel) h
 simpa using w
def skipN : LN → Nat
 | []=>0
 | c::r=>if blkN c then skipN r+1 else 0
def innN : LN → Nat
 | []=>0
 | c::r=>if inrN c then innN r+1 else 0
def shwN (s:LN):Nat:=if (dec s).1 < 32∨(dec s).1=127 then 0 else (dec s).2.toNat
def bmp (n m:Nat):Nat:=if m=0 then 0 else n+m
def quoN (q : Nat) : Nat → LN → Nat
 | 0,_=>0
 | _+1,[]=>0
 | f+1,c::r=>if c=q then 1 else if c=92 then bmp (1+shwN r) (if shwN r=0 then 0 else quoN q f (r.drop (shwN r))) else bmp (shwN (c::r)) (if shwN (c::r)=0 then 0 else quoN q f ((c::r).drop (shwN (c::r))))
def qtdN (s:LN):Nat:=match s with | q::r=>bmp 1 (quoN q r.length r) | []=>0
def chrN (s:LN):Nat:=match s with | _::c::r=>if c=92 then (if 0 < (escN (c::r)).2 then (escN (c::r)).2.toNat+1 else 0) else if shwN (c::r) ≠ 0∧c ≠ 32 then shwN (c::r)+1 else 0 | _=>0
def endN (s:LN) (n kind:Nat):Nat×Nat:=match s.drop n with | c::_=>if inrN c then (0,0) else (n,kind) | []=>(n,kind)
def hashN (s:LN) (w:Nat):Bool:=match s.drop w with | c::_=>decide (c=35) && (decide ((frontN s).1=0) || decide (w < (frontN s).1)) | []=>false
def numN (s:LN):Nat×Nat:=if partN s=0 then (if hashN s (wholeN s) then (0,0) else endN s (wholeN s) 3) else endN s (partN s) 4
def lineN : LN → Nat
 | []=>0
 | c::r=>if c=10 then 0 else lineN r+1
def trmN (s : LN) : Nat → Nat
 | 0=>0
 | i+1=>match s.drop i with | c::_=>if blkN c then trmN s i else i+1 | []=>i+1
def cmtN (s:LN):Nat:=trmN s (lineN s)
def mac1 (n:Nat) (t:LN):Nat:=match t with | c::_=>if begN c=1∨begN c=2 then n+innN t else 0 | []=>0
def macN (s:LN):Nat:=match s with | _::c::r=>if c=63 then mac1 2 r else mac1 1 (c::r) | _=>0
def dotN (r:LN):Bool:=match r with | []=>true | c::_=>blkN c || decide (c=37)
def oneN (s:LN):Nat×Nat:=match s with
 | []=>(0,0)
 | c :: r => if c = 37 then (cmtN s, 11) else if c = 46 ∧ dotN r = true then (1, 10) else if c = 39 then (qtdN s, 1) else if c = 34 then (qtdN s, 6) else if c = 36 then (chrN s, 5) else if c = 63 then (macN s, 7)
  else if begN c=3 then numN s else if begN c=1∨begN c=2 then (innN s,if rsvN (s.take (innN s)) then 8 else begN c) else (lngN s,9)
theorem qLk : ∀ s : LN, skipN s ≤ s.length
 | []=>Nat.le_refl _
 | c::r=>by simp only [skipN,List.length_cons]; have:=qLk r; split <;> omega
theorem qEk : ∀ s : LN, innN s ≤ s.length
 | []=>Nat.le_refl _
 | c::r=>by simp only [innN,List.length_cons]; have:=qEk r; split <;> omega
theorem qIe : ∀ s : LN, lineN s ≤ s.length
 | []=>Nat.le_refl _
 | c::r=>by simp only [lineN,List.length_cons]; have:=qIe r; split <;> omega
theorem qK4 (s : LN) : ∀ i, trmN s i ≤ i
 | 0=>Nat.le_refl _
 | i+1=>by
  simp only [trmN]
  have:=qK4 s i
  split
  ·split <;> omega
  ·omega
theorem qK5 (s:LN):shwN s≤s.length∧shwN s≤4:=by
 unfold shwN
 split
 ·omega
 ·cases s with
  | nil=>exact ⟨Nat.le_refl _,Nat.zero_le _⟩
  | cons c r =>
   obtain ⟨n,n1,n2,n3,n4,-⟩:=qDe (s:=c::r) (by simp)
   rw [n1,Int.toNat_natCast]; exact ⟨n4,n3⟩
theorem qSp {n m k:Nat} (h:n+m≤k):bmp n m≤k:=by unfold bmp; split <;> omega
theorem qKc (q : Nat) : ∀ (f : Nat) (s : LN), quoN q f s ≤ s.length
 | 0,s=>Nat.zero_le _
 | f+1,[]=>Nat.zero_le _
 | f+1,c::r=>by
  have h1:=(qK5 r).1
  have h2:=(qK5 (c::r)).1
  have h3:=qKc q f (r.drop (shwN r))
  have h4:=qKc q f ((c::r).drop (shwN (c::r)))
  rw [List.length_drop] at h3 h4
  simp only [List.length_cons] at h2 h4 ⊢
  simp only [quoN]
  split
  ·omega
  ·split
   ·by_cases h:shwN r=0
    ·rw [if_pos h]; simp [bmp]
    ·rw [if_neg h]; exact qSp (by omega)
   ·by_cases h:shwN (c::r)=0
    ·rw [if_pos h]; simp [bmp]
    ·rw [if_neg h]; exact qSp (by omega)
theorem qPo (s:LN):qtdN s≤s.length:=by
 unfold qtdN
 split
 ·rename_i q r
  have:=qKc q r.length r
  simp only [List.length_cons]
  exact qSp (by omega)
 ·exact Nat.zero_le _
theorem qJw {c:Nat} (r:LN) (h:c < 128):dec (c::r)=((c:Int),1):=by
 have hl:leadN c=(1,c):=by unfold leadN; rw [if_pos h]
 have hc:cpN c=true:=by unfold cpN; simp; omega
 have hm:moreN 0 c r=some c:=by cases r <;> rfl
 simp only [dec,hl]
 rw [if_neg (by decide)]
 show fitN 1 (moreN 0 c r)=_
 rw [hm]
 show (if leastN 1≤c∧cpN c=true then _ else _)=_
 rw [if_pos ⟨Nat.zero_le _,hc⟩]
 rfl
theorem dec_big {c:Nat} (r:LN) (h:¬ c < 128):(dec (c::r)).1 = -1∨128≤(dec (c::r)).1:=by
 simp only [dec]
 split
 ·exact .inl rfl
 ·rename_i h0
  unfold fitN
  split
  ·exact .inl rfl
  ·split
   ·rename_i y hy hh
    right
    have:(leadN c).1=2∨(leadN c).1=3∨(leadN c).1=4:=by
     unfold leadN at h0 ⊢
     rw [if_neg h] at h0 ⊢
     split
     ·simp
     ·split
      ·simp
      ·split
       ·simp
       ·rename_i a b c; rw [if_neg a,if_neg b,if_neg c] at h0; exact absurd rfl h0
    have h1:=hh.1
    rcases this with e | e | e <;> rw [e] at h1 <;> simp [leastN] at h1 <;> (show (128:Int)≤(_:Int); omega)
   ·exact .inl rfl
theorem qHo (s:LN):escN s=(-1,0)∨∃ v n:Nat,escN s=((v:Int),(n:Int))∧2≤n∧n≤s.length:=by
 match s with
 | []=>exact .inl rfl
 | [a]=>exact .inl rfl
 | a::c::r =>
  simp only [escN]
  split
  ·unfold escB
   split
   ·
    unfold hexN
    cases r with
    | nil=>exact .inl rfl
    | cons d q =>
     simp only []
     split
     ·unfold hexBr
      split
      ·exact .inl rfl
      ·have h1:=(qEn 16 6 0 q).2
       split
       ·rename_i hz
        split
        ·right
         refine ⟨_,_,rfl,by omega,?_⟩
         have:=congrArg List.length hz
         simp only [List.length_drop,List.length_cons] at this ⊢
         omega
        ·exact .inl rfl
       ·exact .inl rfl
     ·unfold hex2
      split
      ·exact .inl rfl
      ·have h1:=qEn 16 2 0 (d::q)
       right
       refine ⟨_,4,rfl,by omega,?_⟩
       simp only [List.length_cons] at h1 ⊢
       omega
   ·split
    ·unfold ctlN
     split
     ·split
      ·exact .inl rfl
      ·right; exact ⟨_,3,rfl,by omega,by simp⟩
     ·exact .inl rfl
    ·split
     ·right
      rename_i h8
      have h1:=qEn 8 3 0 (c::r)
      refine ⟨_,_,rfl,?_,?_⟩
      ·have:dgN c < 8:=by unfold dgN; rw [if_pos (by omega)]; omega
       simp only [digV,this,if_true]; omega
      ·simp only [List.length_cons] at h1 ⊢; omega
     ·split
      ·unfold uniN
       split
       ·exact .inl rfl
       ·rename_i h32
        obtain ⟨n,n1,n2,n3,n4,-⟩:=qDe (s:=c::r) (by simp)
        right
        refine ⟨(dec (c::r)).1.toNat,n+1,?_,by omega,?_⟩
        ·rw [n1]; refine Prod.ext ?_ ?_
         ·simp only []; omega
         ·simp only []; push_cast; rfl
        ·simp only [List.length_cons] at n4 ⊢; omega
      ·right; exact ⟨_,2,rfl,by omega,by simp⟩
  ·exact .inl rfl
theorem chrN_le (s:LN):chrN s≤s.length:=by
 unfold chrN
 split
 ·rename_i a c r
  have h1:=(qK5 (c::r)).1
  split
  ·rcases qHo (c::r) with h | ⟨v,n,h,h2,h3⟩
   ·rw [h]; simp
   ·rw [h]; simp only [List.length_cons] at h3 ⊢
    split
    ·rw [Int.toNat_natCast]; omega
    ·omega
  ·split
   ·simp only [List.length_cons] at h1 ⊢; omega
   ·omega
 ·omega
theorem expN_le (s:LN):expN s≤s.length:=by
 unfold expN
 split
 ·rename_i e q
  split
  ·have h1:=qBn 10 false (q.drop (sgn q))
   have h2:=sgn_le q
   rw [List.length_drop] at h1
   simp only [List.length_cons]
   split <;> omega
  ·omega
 ·omega
theorem qLu (s:LN):partN s≤s.length:=by
 unfold partN
 split
 ·omega
 ·have h0:=qBn 10 false s
  unfold fracN
  split
  ·rename_i c r hc
   have hl:=qBy hc
   split
   ·split
    ·omega
    ·have h1:=qBn 10 false r
     have h2:=expN_le (r.drop (runN 10 false r))
     rw [List.length_drop] at h2
     omega
   ·omega
  ·omega
theorem qIp (s:LN):wholeN s≤s.length:=by
 unfold wholeN
 have h0:=qBn 10 false s
 have h1:=qBn (frontN s).2 false (s.drop (frontN s).1)
 have h2:=(qS7 s).1
 rw [List.length_drop] at h1
 split <;> omega
theorem qSd {s:LN} {n kind:Nat} (h:n≤s.length):(endN s n kind).1≤s.length:=by
 unfold endN
 split
 ·split
  ·exact Nat.zero_le _
  ·exact h
 ·exact h
theorem numN_le (s:LN):(numN s).1≤s.length:=by
 unfold numN
 split
 ·split
  ·exact Nat.zero_le _
  ·exact qSd (qIp s)
 ·exact qSd (qLu s)
theorem qQe (n:Nat) (t:LN):mac1 n t≤n+t.length:=by
 unfold mac1
 split
 ·rename_i c r
  have:=qEk (c::r)
  split <;> omega
 ·omega
theorem macN_le (s:LN):macN s≤s.length:=by
 unfold macN
 split
 ·rename_i a c r
  have h1:=qQe 2 r
  have h2:=qQe 1 (c::r)
  simp only [List.length_cons] at h2 ⊢
  split <;> omega
 ·omega
theorem qI7 (s:LN):(oneN s).1≤s.length:=by
 unfold oneN
 split
 ·exact Nat.le_refl _
 ·rename_i c r
  repeat' split
  ·exact Nat.le_trans (qK4 _ _) (qIe _)
  ·simp
  ·exact qPo (c::r)
  ·exact qPo (c::r)
  ·exact chrN_le (c::r)
  ·exact macN_le (c::r)
  ·exact numN_le (c::r)
  ·exact qEk (c::r)
  ·exact qEk (c::r)
  ·exact qS5 _ _
def mkTok (s:LN) (x:Nat×Nat×Nat):S33:=⟨(x.1:Int),(s.drop x.2.1).take x.2.2,(x.2.1:Int)⟩
def toksN (s : LN) : Nat → Nat → Option (List (Nat × Nat × Nat))
 | 0,_=>some []
 | f+1,a=>if s.length≤a+skipN (s.drop a) then some [] else if (oneN (s.drop (a+skipN (s.drop a)))).1=0 then none else (toksN s f (a+skipN (s.drop a)+(oneN (s.drop (a+skipN (s.drop a)))).1)).map λl=>((oneN (s.drop (a+skipN (s.drop a)))).2,a+skipN (s.drop a),(oneN (s.drop (a+skipN (s.drop a)))).1)::l
def scanN (s:LN):List S33×Int:=if 65536 < s.length then ([],3) else if vld s.length s=false then ([],2) else match toksN s (s.length+1) 0 with | some l=>(l.map (mkTok s),0) | none=>([],4)
def tok0:S33:=⟨0,[],0⟩
def oneAt (s:LN) (a:Nat):S33×Int:=if (oneN (s.drop a)).1=0 then (tok0,4) else (mkTok s ((oneN (s.drop a)).2,a,(oneN (s.drop a)).1),0)
theorem qHu (s : LN) : ∀ (f a : Nat) (l : List (Nat × Nat × Nat)), toksN s f a = some l → a ≤ s.length → l.length + a ≤ s.length
 | 0,a,l,h,ha=>by cases h; simpa using ha
 | f+1,a,l,h,ha=>by
  unfold toksN at h
  split at h
  ·cases h; simpa using ha
  ·split at h
   ·cases h
   ·rename_i h1 h2
    cases hx:toksN s f (a+skipN (s.drop a)+(oneN (s.drop (a+skipN (s.drop a)))).1) with
    | none=>rw [hx] at h; cases h
    | some l' =>
     rw [hx] at h
     cases h
     have ol:=qI7 (s.drop (a+skipN (s.drop a)))
     rw [List.length_drop] at ol
     have:=qHu s f _ l' hx (by omega)
     simp only [List.length_cons]
     omega
theorem escN_no {a:Nat} {r:LN} (h:a ≠ 92):escN (a::r)=(-1,0):=by
 cases r with
 | nil=>rfl
 | cons c r=>simp only [escN,h,if_false]
theorem qPg (k : Nat) {s : LN} (hs : By s) (hl : Sz s) {p b M : Nat} (hb : b ≤ 16) (hpl : p ≤ s.length + 10) (hM : M ≤ 6) : ∀ (d f n v : Nat), n + d = M → d < f → (v + 1) * 16 ^ d ≤ 16777216 →
 qHb k s (p:Int) (b:Int) (M:Int) f (v:Int) (n:Int)=some (((digV b d v (s.drop (p+n))).1:Int),((n+(digV b d v (s.drop (p+n))).2:Nat):Int))
 | 0,f,n,v,hn,hf,hv=>by
  unfold Sz at hl
  obtain ⟨f,rfl⟩:∃ f',f=f'+1:=⟨f - 1,by omega⟩
  rw [qN3]
  refine (jS (v:=(false,(v:Int),(n:Int))) (λj=>?_)).trans ?_
  ·clear hv; simp (disch:=omega) only [↓reduceIte,↓jn,gsL]
  ·rfl
 | d+1,f,n,v,hn,hf,hv=>by
  have hl':=hl
  unfold Sz at hl
  obtain ⟨f,rfl⟩:∃ f',f=f'+1:=⟨f - 1,by omega⟩
  rw [qN3]
  rcases Nat.lt_or_ge (p+n) s.length with h | h
  ·obtain ⟨c,r,hc,hr,hm,hrl⟩:=dcons h
   have nc:nthS s ((p:Int)+n)=some (c:Int):=nthX (by omega) hc
   have vc:=qB5 k (b:=b) (hs c hm) (by omega)
   by_cases hd:dgN c < b
   ·rw [if_pos hd] at vc
    have e:=λ_:Unit=>fw_s (n:=n) (by clear hv; omega)
    refine (jS (v:=(true,(v:Int),(n:Int))) (λj=>?_)).trans ?_
    ·clear hv; simp (disch:=omega) only [↓reduceIte,↓jn,gsL,nc,vc]
    ·refine iT (by first | (simp (disch:=omega) only [↓reduceIte,↓jn,gsL]; done) | rfl) ?_
     refine bS (by (try simp (disch:=omega) only [fwI]); exact nc) ?_
     refine bS (by (try simp (disch:=omega) only [fwI]); exact vc) ?_
     have h16:1≤16 ^ d:=Nat.one_le_pow _ _ (by decide)
     have hvb:v * b≤v * 16:=Nat.mul_le_mul_left _ hb
     have hv':(v * b+dgN c+1) * 16 ^ d≤16777216:=by
      refine Nat.le_trans ?_ hv
      rw [Nat.pow_succ 16 d,Nat.mul_comm (16 ^ d) 16,← Nat.mul_assoc]
      exact Nat.mul_le_mul_right _ (by omega)
     have hv1:v * b+dgN c+1≤16777216:=Nat.le_trans (Nat.le_mul_of_pos_right _ h16) hv'
     have ih:=qPg k hs hl' (p:=p) (b:=b) (M:=M) hb hpl hM d f (n+1) (v * b+dgN c) (by omega) (by omega) hv'
     rw [e (),show (v:Int) * (b:Int)=((v * b:Nat):Int) from by push_cast; rfl,fwI (n:=((v * b:Nat):Int)) (by omega) (by omega),fw_a (by omega) (by omega)]
     refine ih.trans ?_
     rw [show p+(n+1)=p+n+1 from rfl,hr,hc]
     simp only [digV,hd,if_true]
     rw [Nat.add_assoc n 1,Nat.add_comm 1]
   ·rw [if_neg hd] at vc
    refine (jS (v:=(false,(v:Int),(n:Int))) (λj=>?_)).trans ?_
    ·clear hv; simp (disch:=omega) only [↓reduceIte,↓jn,gsL,nc,vc]
    ·rw [hc]; simp only [digV,hd,if_false]; rfl
  ·refine (jS (v:=(false,(v:Int),(n:Int))) (λj=>?_)).trans ?_
   ·clear hv; simp (disch:=omega) only [↓reduceIte,↓jn,gsL]
   ·rw [dnil h]; simp only [digV]; rfl
theorem qF3 {k:Nat} {s:LN} (hs:By s) (hl:Sz s) {p b M:Nat} (hb:b≤16) (hpl:p≤s.length+10) (hM:M≤6) (hk:7≤k):g74 k s (p:Int) (b:Int) (M:Int)=some (((digV b M 0 (s.drop p)).1:Int),((digV b M 0 (s.drop p)).2:Int)):=by
 have hp:16 ^ M≤16777216:=Nat.pow_le_pow_right (n:=16) (by decide) hM
 have:=qPg k hs hl (p:=p) (b:=b) (M:=M) hb hpl hM M k 0 0 (by omega) (by omega) (by omega)
 rw [Nat.zero_add] at this
 exact this
theorem rname_no (k:Nat) (s:LN) (a:Int) {d:Nat} (hd:nameN d=0) (f:Nat):qC4 k s a (d:Int) (f+10) 0=qC4 k s a (d:Int) (f+1) 9:=by
 have ne:d ≠ 98∧d ≠ 100∧d ≠ 101∧d ≠ 102∧d ≠ 110∧d ≠ 114∧d ≠ 115∧d ≠ 116∧d ≠ 118:=by
  refine ⟨?_,?_,?_,?_,?_,?_,?_,?_,?_⟩ <;> (intro h; subst h; revert hd; decide)
 obtain ⟨e1,e2,e3,e4,e5,e6,e7,e8,e9⟩:=ne
 have st:∀ (i b f:Nat),i < 9→nthS g64c1 (i:Int)=some (b:Int)→d ≠ b→qC4 k s a (d:Int) (f+1) (i:Int)=qC4 k s a (d:Int) f ((i+1:Nat):Int):=by
  intro i b f hi hn hb
  rw [qJr]
  refine iT (by first | (simp (disch:=omega) only [↓reduceIte,↓jn,gsL]; done) | rfl) ?_
  refine bS (by (try simp (disch:=omega) only [fwI]); exact hn) ?_
  rw [dF (show ¬ (b:Int)=(d:Int) by omega),fw_s (by omega)]
  rfl
 exact (st 0 98 (f+9) (by decide) rfl e1).trans <| (st 1 100 (f+8) (by decide) rfl e2).trans <| (st 2 101 (f+7) (by decide) rfl e3).trans <| (st 3 102 (f+6) (by decide) rfl e4).trans <| (st 4 110 (f+5) (by decide) rfl e5).trans <| (st 5 114 (f+4) (by decide) rfl e6).trans <| (st 6 115 (f+3) (by decide) rfl e7).trans <| (st 7 116 (f+2) (by decide) rfl e8).trans (st 8 118 (f+1) (by decide) rfl e9)
theorem qPl {k : Nat} (hk : 10 ≤ k) {s : LN} (hs : By s) (hl : Sz s) {a d f : Nat} {q : LN} (hr : s.drop (a + 1) = d :: q) (hd : nameN d = 0) :
 qC4 k s (a:Int) (d:Int) (f+1) 9=some (escB d q):=by
 have hl':=hl
 unfold Sz at hl
 have d256:=hs d (qBj hr)
 have dq:s.drop (a+2)=q:=qBr hr
 have ql:=qBy hr
 rw [qJr]
 refine iF rfl ?_
 unfold escB
 by_cases h8:48≤d∧d≤55
 ·refine (jS (v:=true) (λj=>?_)).trans ?_
  ·simp (disch:=omega) only [↓reduceIte,↓jn,gsL]
  ·refine iT (by first | (simp (disch:=omega) only [↓reduceIte,↓jn,gsL]; done) | rfl) ?_
   rw [fw_s (by omega)]
   have r:=qF3 (k:=k) hs hl' (p:=a+1) (b:=8) (M:=3) (by decide) (by omega) (by decide) (by omega)
   rw [hr] at r
   refine bS (by (try simp (disch:=omega) only [fwI]); exact r) ?_
   have:=(qEn 8 3 0 (d::q)).1
   rw [show (1:Int)=((1:Nat):Int) from rfl,fw_a (by omega) (by omega)]
   rw [if_neg (show ¬ d=120 by omega),if_neg (show ¬ d=94 by omega),if_pos h8]
   rfl
 ·refine (jS (v:=false) (λj=>?_)).trans ?_
  ·by_cases h1:48≤d
   ·simp (disch:=omega) only [↓reduceIte,↓jn,gsL]
   ·simp (disch:=omega) only [↓reduceIte,↓jn,gsL]
  ·refine iF (by first | (simp (disch:=omega) only [↓reduceIte,↓jn,gsL]; done) | rfl) ?_
   by_cases h120:d=120
   ·subst h120
    rw [if_pos rfl]
    cases q with
    | nil =>
     simp only [List.length_nil] at ql
     refine (jS (v:=false) (λj=>?_)).trans ?_
     ·simp (disch:=omega) only [↓reduceIte,↓jn,gsL]
     ·refine iF (by first | (simp (disch:=omega) only [↓reduceIte,↓jn,gsL]; done) | rfl) ?_
      refine iT (by first | (simp (disch:=omega) only [↓reduceIte,↓jn,gsL]; done) | rfl) ?_
      have r:=qF3 (k:=k) hs hl' (p:=a+2) (b:=16) (M:=2) (by decide) (by omega) (by decide) (by omega)
      rw [dq] at r
      rw [show fW .i64 ((a:Int)+2)=((a+2:Nat):Int) from fw_a (m:=2) (by omega) (by omega)]
      refine bS (by (try simp (disch:=omega) only [fwI]); exact r) ?_
      rfl
    | cons c r =>
     have hc:=dq
     have c256:=hs c (qBj hc)
     simp only [List.length_cons] at ql
     have nc:nthS s ((a:Int)+2)=some (c:Int):=nthX (i:=a+2) (by omega) hc
     have dr:s.drop (a+3)=r:=qBr hc
     by_cases h123:c=123
     ·subst h123
      refine (jS (v:=true) (λj=>?_)).trans ?_
      ·simp (disch:=omega) only [↓reduceIte,↓jn,gsL,nc]
      ·refine iT (by first | (simp (disch:=omega) only [↓reduceIte,↓jn,gsL]; done) | rfl) ?_
       have rr:=qF3 (k:=k) hs hl' (p:=a+3) (b:=16) (M:=6) (by decide) (by omega) (by decide) (by omega)
       rw [dr] at rr
       rw [show fW .i64 ((a:Int)+3)=((a+3:Nat):Int) from fw_a (m:=3) (by omega) (by omega)]
       refine bS (by (try simp (disch:=omega) only [fwI]); exact rr) ?_
       have hvl:=qEn 16 6 0 r
       simp only [hexN,if_true]
       unfold hexBr
       by_cases h0:(digV 16 6 0 r).2=0
       ·rw [if_pos h0]
        refine (jS (v:=true) (λj=>?_)).trans rfl
        rw [h0]; rfl
       ·rw [if_neg h0]
        have ee:=λ_:Unit=>fw_a (n:=a+3) (m:=(digV 16 6 0 r).2) (by omega) (by omega)
        have dz:s.drop (a+3+(digV 16 6 0 r).2)=r.drop (digV 16 6 0 r).2:=by rw [← List.drop_drop,dr]
        cases hz:r.drop (digV 16 6 0 r).2 with
        | nil =>
         have:s.length≤a+3+(digV 16 6 0 r).2:=by
          have:=congrArg List.length (dz.trans hz)
          rw [List.length_drop,List.length_nil] at this
          omega
         refine (jS (v:=true) (λj=>?_)).trans rfl
         rw [ee ()]
         simp (disch:=omega) only [↓reduceIte,↓jn,gsL,h0]
        | cons z qq =>
         rw [hz] at dz
         have nz:=nthX (x:=((a+3+(digV 16 6 0 r).2:Nat):Int)) rfl dz
         have zl:=qBy dz
         by_cases h125:z=125
         ·subst h125
          simp only [true_and]
          refine (jS (v := !cpN (digV 16 6 0 r).1) (λj=>?_)).trans ?_
          ·rw [ee ()]
           simp (disch:=omega) only [↓reduceIte,↓jn,gsL,h0,nz,qLt]
          ·cases cpN (digV 16 6 0 r).1 with
           | false=>rfl
           | true =>
            refine iF (by first | (simp (disch:=omega) only [↓reduceIte,↓jn,gsL]; done) | rfl) ?_
            rw [show (4:Int)=((4:Nat):Int) from rfl,fw_a (by omega) (by omega)]
            rfl
         ·simp only [h125,false_and,if_false]
          refine (jS (v:=true) (λj=>?_)).trans rfl
          rw [ee ()]
          have:¬ (z:Int)=125:=by omega
          simp (disch:=omega) only [↓reduceIte,↓jn,gsL,h0,nz,this]
     ·refine (jS (v:=false) (λj=>?_)).trans ?_
      ·have:¬ (c:Int)=123:=by omega
       simp (disch:=omega) only [↓reduceIte,↓jn,gsL,nc,this]
      ·refine iF (by first | (simp (disch:=omega) only [↓reduceIte,↓jn,gsL]; done) | rfl) ?_
       refine iT (by first | (simp (disch:=omega) only [↓reduceIte,↓jn,gsL]; done) | rfl) ?_
       have rr:=qF3 (k:=k) hs hl' (p:=a+2) (b:=16) (M:=2) (by decide) (by omega) (by decide) (by omega)
       rw [dq] at rr
       rw [show fW .i64 ((a:Int)+2)=((a+2:Nat):Int) from fw_a (m:=2) (by omega) (by omega)]
       refine bS (by (try simp (disch:=omega) only [fwI]); exact rr) ?_
       simp only [hexN,h123,if_false]
       unfold hex2
       by_cases h2:(digV 16 2 0 (c::r)).2 < 2
       ·rw [if_pos h2]; refine iT (by first | (simp (disch:=omega) only [↓reduceIte,↓jn,gsL]; done) | rfl) ?_; rfl
       ·rw [if_neg h2]; refine iF (by first | (simp (disch:=omega) only [↓reduceIte,↓jn,gsL]; done) | rfl) ?_; rfl
   ·rw [if_neg h120]
    refine (jS (v:=false) (λj=>?_)).trans ?_
    ·simp (disch:=omega) only [↓reduceIte,↓jn,gsL]
    ·refine iF (by first | (simp (disch:=omega) only [↓reduceIte,↓jn,gsL]; done) | rfl) ?_
     refine iF (by first | (simp (disch:=omega) only [↓reduceIte,↓jn,gsL]; done) | rfl) ?_
     by_cases h94:d=94
     ·subst h94
      rw [if_pos rfl]
      refine iT (by first | (simp (disch:=omega) only [↓reduceIte,↓jn,gsL]; done) | rfl) ?_
      cases q with
      | nil =>
       simp only [List.length_nil] at ql
       refine (jS (v:=true) (λj=>?_)).trans ?_
       ·simp (disch:=omega) only [↓reduceIte,↓jn,gsL]
       ·rfl
      | cons c r =>
       have hc:=dq
       have c256:=hs c (qBj hc)
       simp only [List.length_cons] at ql
       have nc:nthS s ((a:Int)+2)=some (c:Int):=nthX (i:=a+2) (by omega) hc
       by_cases h0:c < 64∨95 < c∧(c < 97∨122 < c)
       ·simp only [ctlN,h0,if_true]
        refine (jS (v:=true) (λj=>?_)).trans rfl
        by_cases h1:c < 64
        ·simp (disch:=omega) only [↓reduceIte,↓jn,gsL,nc]
        ·by_cases h2:c < 97
         ·simp (disch:=omega) only [↓reduceIte,↓jn,gsL,nc]
         ·simp (disch:=omega) only [↓reduceIte,↓jn,gsL,nc]
       ·simp only [ctlN,h0,if_false]
        refine (jS (v:=false) (λj=>?_)).trans ?_
        ·by_cases h1:95 < c
         ·simp (disch:=omega) only [↓reduceIte,↓jn,gsL,nc]
         ·simp (disch:=omega) only [↓reduceIte,↓jn,gsL,nc]
        ·refine iF (by first | (simp (disch:=omega) only [↓reduceIte,↓jn,gsL]; done) | rfl) ?_
         refine bS (by (try simp (disch:=omega) only [fwI]); exact nc) ?_
         rw [fwI (n:=(c:Int)) (by omega) (by omega),(and31 c256).2]
     ·rw [if_neg h94,if_neg h8,if_pos hd]
      refine iF (by first | (simp (disch:=omega) only [↓reduceIte,↓jn,gsL]; done) | rfl) ?_
      have nx:=qDs (k:=k) (by omega) hs hl' (a+1)
      rw [hr] at nx
      rw [fw_s (by omega)]
      refine bS (by (try simp (disch:=omega) only [fwI]); exact nx) ?_
      unfold uniN
      obtain ⟨n,n1,n2,n3,n4,-⟩:=qDe (s:=d::q) (by simp)
      by_cases h32:(dec (d::q)).1 < 32
      ·rw [if_pos h32]; refine iT (by first | (simp (disch:=omega) only [↓reduceIte,↓jn,gsL,h32]; done) | rfl) ?_; rfl
      ·rw [if_neg h32]; refine iF (by first | (simp (disch:=omega) only [↓reduceIte,↓jn,gsL,h32]; done) | rfl) ?_; rw [n1,show (1:Int)=((1:Nat):Int) from rfl,fw_a (by clear n1; omega) (by clear n1; omega),Nat.add_comm]; rfl
theorem qO5 {k:Nat} (hk:10≤k) {s:LN} (hs:By s) (hl:Sz s) (a:Nat):g64 k s (a:Int)=some (escN (s.drop a)):=by
 have hl':=hl
 unfold Sz at hl
 unfold g64
 have fail:∀ (f:Bool→Option (Int×Int)) (g:(Bool→Option (Int×Int))→Option (Int×Int)),f true=some (-1,0)→(∀ j,g j=j true)→escN (s.drop a)=(-1,0)→jn f g=some (escN (s.drop a)):=by
  intro f g hf hg he
  rw [he]; exact (hg f).trans hf
 rcases Nat.lt_or_ge a s.length with h | h
 ·obtain ⟨c,r,hc,hr,hm,hrl⟩:=dcons h
  have nc:=nthX (x:=(a:Int)) rfl hc
  cases hr2:r with
  | nil =>
   rw [hr2] at hrl hc
   simp only [List.length_nil] at hrl
   refine fail _ _ rfl (λj=>?_) (by rw [hc]; rfl)
   simp (disch:=omega) only [↓reduceIte,↓jn,gsL]
  | cons d q =>
   rw [hr2] at hr hrl hc
   have d256:=hs d (qBj hr)
   simp only [List.length_cons] at hrl
   by_cases h92:c=92
   ·subst h92
    have nd:nthS s ((a:Int)+1)=some (d:Int):=nthX (i:=a+1) (by omega) hr
    refine (jS (v:=false) (λj=>?_)).trans ?_
    ·simp (disch:=omega) only [↓reduceIte,↓jn,gsL,nc]
    ·refine iF (by first | (simp (disch:=omega) only [↓reduceIte,↓jn,gsL]; done) | rfl) ?_
     refine bS (by (try simp (disch:=omega) only [fwI]); exact nd) ?_
     rw [hc]
     simp only [escN,if_true]
     obtain ⟨k',rfl⟩:∃ k',k=k'+10:=⟨k - 10,by omega⟩
     by_cases hd:nameN d=0
     ·rw [rname_no _ _ _ hd]
      exact qPl hk hs hl' hr hd
     ·unfold nameN at hd
      by_cases e1:d=98
      ·subst e1; rfl
      by_cases e2:d=100
      ·subst e2; rfl
      by_cases e3:d=101
      ·subst e3; rfl
      by_cases e4:d=102
      ·subst e4; rfl
      by_cases e5:d=110
      ·subst e5; rfl
      by_cases e6:d=114
      ·subst e6; rfl
      by_cases e7:d=115
      ·subst e7; rfl
      by_cases e8:d=116
      ·subst e8; rfl
      by_cases e9:d=118
      ·subst e9; rfl
      simp only [e1,e2,e3,e4,e5,e6,e7,e8,e9,if_false] at hd
      exact absurd trivial hd
   ·refine fail _ _ rfl (λj=>?_) (by rw [hc]; exact escN_no h92)
    have h92':¬ (c:Int)=92:=by omega
    simp (disch:=omega) only [↓reduceIte,↓jn,gsL,nc,h92']
 ·refine fail _ _ rfl (λj=>?_) (by rw [dnil h]; rfl)
  simp (disch:=omega) only [↓reduceIte,↓jn,gsL]
theorem dg10 {c:Nat} (hc:c < 256) (h:dgN c < 10):fW .i64 (fW .u8 ((c:Int) - 48))=((dgN c:Nat):Int):=by
 have w:=byteAll (f:=λc => !decide (dgN c < 10) || decide (fW .i64 (fW .u8 ((c:Int) - 48))=((dgN c:Nat):Int))) (by decide +kernel) hc
 simpa [h] using w
theorem qLl (k : Nat) {s : LN} (hk : s.length < k) (hs : By s) (hl : Sz s) (c8 : Unit → Option Int) {a m V n f : Nat} (hV : V ≤ 99) (h : a + m + 1 ≤ s.length) :
 qEt k c8 s (a:Int) (n:Int) (m:Int) (f+1) (V:Int) ((a+m:Nat):Int)=if (2≤V∧V≤36)∧0 < runN V false (s.drop (a+m+1)) then some ((m+1+runN V false (s.drop (a+m+1)):Nat):Int) else c8 ():=by
 rw [qN6]
 have r:=qK6 hk hs hl hV h
 unfold Sz at hl
 have l:=qBn V false (s.drop (a+m+1))
 rw [List.length_drop] at l
 have e:((a:Int)+(m:Int))=((a+m:Nat):Int):=by omega
 have e1:(((a+m:Nat):Int)+1)=((a+m+1:Nat):Int):=by omega
 refine iF (by first | (simp (disch:=omega) only [↓reduceIte,↓jn,gsL]; done) | rfl) ?_
 rw [fwI (n:=(a:Int)+(m:Int)) (by omega) (by omega),e,fwI (n:=((a+m:Nat):Int)+1) (by omega) (by omega),e1]
 refine bS (by (try simp (disch:=omega) only [fwI]); exact r) ?_
 generalize runN V false (s.drop (a+m+1))=K at *
 clear r
 refine (jS (v:=decide ((2≤V∧V≤36)∧0 < K)) (λj=>?_)).trans ?_
 ·by_cases h1:2≤V
  ·by_cases h2:V≤36
   ·by_cases h3:0 < K
    ·simp (disch:=omega) only [↓reduceIte,↓jn,gsL,h1,h2,h3,and_self]
    ·simp (disch:=omega) only [↓reduceIte,↓jn,gsL,h1,h2,h3,and_self,and_false]
   ·simp (disch:=omega) only [↓reduceIte,↓jn,gsL,h1,h2,and_false,false_and]
  ·simp (disch:=omega) only [↓reduceIte,↓jn,gsL,h1,false_and]
 ·by_cases h0:(2≤V∧V≤36)∧0 < K
  ·rw [if_pos h0]
   refine iT (by first | (simp (disch:=omega) only [↓reduceIte,↓jn,gsL,h0]; done) | rfl) ?_
   simp (disch:=omega) only [↓reduceIte,↓jn,gsL]
   exact congrArg some (by omega)
  ·rw [if_neg h0]
   refine iF (by first | (simp (disch:=omega) only [↓reduceIte,↓jn,gsL,h0]; done) | rfl) ?_
   rfl
theorem qHx (k : Nat) {s : LN} (hs : By s) (hl : Sz s) (c8 : Unit → Option Int) {a m V n f i c : Nat} {r : LN} (hc : s.drop i = c :: r) (hd : dgN c < 10) (hi : i < a + m) (ha : a + m ≤ s.length) (hV : V ≤ 9) :
 qEt k c8 s (a:Int) (n:Int) (m:Int) (f+1) (V:Int) (i:Int)=qEt k c8 s (a:Int) (n:Int) (m:Int) f ((10 * V+dgN c:Nat):Int) ((i+1:Nat):Int):=by
 unfold Sz at hl
 rw [qN6]
 have c256:=hs c (qBj hc)
 refine iT (by first | (simp (disch:=omega) only [↓reduceIte,↓jn,gsL]; done) | rfl) ?_
 refine bS (by (try simp (disch:=omega) only [fwI]); exact nthX rfl hc) ?_
 rw [dg10 c256 hd]
 have e1:((V:Int) * 10+(dgN c:Nat))=((10 * V+dgN c:Nat):Int):=by omega
 have e2:((i:Int)+1)=((i+1:Nat):Int):=by omega
 simp (disch:=omega) only [fwI]
 rw [e1,e2]
theorem qPe {k:Nat} {s:LN} (hk:s.length < k) (hk3:4≤k) (hs:By s) (hl:Sz s) {a:Nat} (ha:a≤s.length):g62 k s (a:Int)=some ((wholeN (s.drop a):Nat):Int):=by
 have r1:g73 k s (a:Int) 10 true=some ((runN 10 false (s.drop a):Nat):Int):=qK6 hk hs hl (b:=10) (by decide) ha
 have r2:=rbar_at hk hs hl ha
 have hl':=hl
 unfold Sz at hl
 unfold g62
 refine bS (by (try simp (disch:=omega) only [fwI]); exact r1) ?_
 refine bS (by (try simp (disch:=omega) only [fwI]); exact r2) ?_
 obtain ⟨k',rfl⟩:∃ k',k=k'+4:=⟨k - 4,by omega⟩
 have bl:=qSr 10 (s.drop a)
 rw [List.length_drop] at bl
 have no:frontN (s.drop a)=(0,10)→wholeN (s.drop a)=runN 10 false (s.drop a):=by
  intro h; unfold wholeN; rw [h]; rfl
 have yes:∀ m V,frontN (s.drop a)=(m+1,V)→wholeN (s.drop a)=if 0 < runN V false (s.drop (a+m+1)) then m+1+runN V false (s.drop (a+m+1)) else runN 10 false (s.drop a):=by
  intro m V h; unfold wholeN; rw [h]; simp only [List.drop_drop,Nat.add_assoc,Nat.succ_pos,true_and]
 clear r1 r2
 generalize hn:runN 10 false (s.drop a)=n at *
 cases ht:s.drop a with
 | nil =>
  rw [ht] at no
  rw [no rfl]
  refine (jS (v:=false) (λj=>rfl)).trans ?_
  rfl
 | cons p r =>
  have hp:=hs p (qBj ht)
  have tl:=qBy ht
  have dr:=qBr ht
  by_cases h1:dgN p < 10
  ·cases hr:r with
   | nil =>
    rw [hr] at ht tl dr
    rw [ht] at no
    have e3:barN 10 [p]=1:=by simp only [barN,h1,if_true]
    rw [no rfl,e3]
    simp only [List.length_nil] at tl
    refine (jS (v:=false) (λj=>by simp (disch:=omega) only [↓reduceIte,↓jn,gsL])).trans ?_
    rfl
   | cons q r' =>
    rw [hr] at ht tl dr
    have hq:=hs q (qBj dr)
    have dr':=qBr dr
    have tl':=qBy dr
    by_cases h2:dgN q < 10
    ·have hq35:¬ q=35:=by intro h; rw [h] at h2; exact dg_35 h2
     cases hr':r' with
     | nil =>
      rw [hr'] at ht tl dr dr'
      rw [ht] at no
      have e3:barN 10 [p,q]=2:=by simp only [barN,h1,h2,if_true]
      have e4:frontN [p,q]=(0,10):=by simp only [frontN,h1,h2,hq35,if_true,if_false]
      rw [no e4,e3]
      simp only [List.length_cons,List.length_nil] at tl
      refine (jS (v:=false) (λj=>by simp (disch:=omega) only [↓reduceIte,↓jn,gsL])).trans ?_
      rfl
     | cons c r'' =>
      rw [hr'] at ht tl dr dr'
      have hc:=hs c (qBj dr')
      by_cases h3:dgN c < 10
      ·have hc35:¬ c=35:=by intro h; rw [h] at h3; exact dg_35 h3
       have e3:barN 10 (p::q::c::r'')=barN 10 r''+3:=by simp only [barN,h1,h2,h3,if_true]
       have e4:frontN (p::q::c::r'')=(0,10):=by simp only [frontN,h1,h2,hq35,hc35,if_true,if_false,false_and]
       rw [ht] at no
       rw [no e4,e3]
       refine (jS (v:=false) (λj=>by simp (disch:=omega) only [↓reduceIte,↓jn,gsL])).trans ?_
       rfl
      ·have e3:barN 10 (p::q::c::r'')=2:=by simp only [barN,h1,h2,h3,if_true,if_false]
       have nc:nthS s ((a:Int)+((2:Nat):Int))=some (c:Int):=nthX (by omega) dr'
       simp only [List.length_cons] at tl
       by_cases hc35:c=35
       ·subst hc35
        have go:=qLl (k'+4) hk hs hl' (n:=n) (a:=a) (m:=2) (f:=k'+1) (V:=10 * (10 * 0+dgN p)+dgN q)
        have st1:=λc8=>qHx (k'+4) hs hl' c8 (n:=n) (a:=a) (m:=2) (f:=k'+3) (V:=0) ht h1 (by omega) (by omega) (by omega)
        have st2:=λc8=>qHx (k'+4) hs hl' c8 (n:=n) (a:=a) (m:=2) (f:=k'+2) (V:=10 * 0+dgN p) dr h2 (by omega) (by omega) (by omega)
        rw [show 10 * 0+dgN p=dgN p by omega] at *
        rw [e3]
        refine (jS (v:=true) (λj=>?_)).trans ?_
        ·simp (disch:=omega) only [↓reduceIte,↓jn,gsL,nc]
        ·by_cases hf:2≤10 * dgN p+dgN q∧10 * dgN p+dgN q≤36
         ·have e4:frontN (p::q::35::r'')=(2+1,10 * dgN p+dgN q):=by simp only [frontN,h1,h2,hq35,hf,if_true,if_false,and_self]
          rw [ht] at yes
          rw [yes 2 _ e4]
          by_cases hK:0 < runN (10 * dgN p+dgN q) false (s.drop (a+2+1))
          ·refine jC λj=>?_
           refine iT (by first | (simp (disch:=omega) only [↓reduceIte,↓jn,gsL]; done) | rfl) ?_
           refine (st1 j).trans ((st2 j).trans ((go j (by omega) (by omega)).trans ?_))
           rw [if_pos ⟨hf,hK⟩,if_pos hK]
          ·refine (jS (v:=()) (λj=>?_)).trans ?_
           ·refine iT (by first | (simp (disch:=omega) only [↓reduceIte,↓jn,gsL]; done) | rfl) ?_
            refine (st1 j).trans ((st2 j).trans ((go j (by omega) (by omega)).trans ?_))
            rw [if_neg (λh=>hK h.2)]
           ·rw [if_neg hK]
         ·have e4:frontN (p::q::35::r'')=(0,10):=by simp only [frontN,h1,h2,hq35,if_true,if_false,true_and,hf]
          rw [ht] at no
          rw [no e4]
          refine (jS (v:=()) (λj=>?_)).trans rfl
          refine iT (by first | (simp (disch:=omega) only [↓reduceIte,↓jn,gsL]; done) | rfl) ?_
          refine (st1 j).trans ((st2 j).trans ((go j (by omega) (by omega)).trans ?_))
          rw [if_neg (λh=>hf h.1)]
       ·have e4:frontN (p::q::c::r'')=(0,10):=by simp only [frontN,h1,h2,hq35,hc35,if_true,if_false,false_and]
        rw [ht] at no
        rw [no e4,e3]
        refine (jS (v:=false) (λj=>by simp (disch:=omega) only [↓reduceIte,↓jn,gsL,nc])).trans ?_
        rfl
    ·have e3:barN 10 (p::q::r')=1:=by simp only [barN,h1,h2,if_true,if_false]
     have nc:nthS s ((a:Int)+((1:Nat):Int))=some (q:Int):=nthX (by omega) dr
     simp only [List.length_cons] at tl
     by_cases hq35:q=35
     ·subst hq35
      have go:=qLl (k'+4) hk hs hl' (n:=n) (a:=a) (m:=1) (f:=k'+2) (V:=10 * 0+dgN p)
      have st1:=λc8=>qHx (k'+4) hs hl' c8 (n:=n) (a:=a) (m:=1) (f:=k'+3) (V:=0) ht h1 (by omega) (by omega) (by omega)
      rw [show 10 * 0+dgN p=dgN p by omega] at *
      rw [e3]
      refine (jS (v:=true) (λj=>?_)).trans ?_
      ·simp (disch:=omega) only [↓reduceIte,↓jn,gsL,nc]
      ·by_cases hf:2≤dgN p
       ·have e4:frontN (p::35::r')=(1+1,dgN p):=by simp only [frontN,h1,hf,if_true]
        rw [ht] at yes
        rw [yes 1 _ e4]
        by_cases hK:0 < runN (dgN p) false (s.drop (a+1+1))
        ·refine jC λj=>?_
         refine iT (by first | (simp (disch:=omega) only [↓reduceIte,↓jn,gsL]; done) | rfl) ?_
         refine (st1 j).trans ((go j (by omega) (by omega)).trans ?_)
         rw [if_pos ⟨⟨hf,by omega⟩,hK⟩,if_pos hK]
        ·refine (jS (v:=()) (λj=>?_)).trans ?_
         ·refine iT (by first | (simp (disch:=omega) only [↓reduceIte,↓jn,gsL]; done) | rfl) ?_
          refine (st1 j).trans ((go j (by omega) (by omega)).trans ?_)
          rw [if_neg (λh=>hK h.2)]
         ·rw [if_neg hK]
       ·have e4:frontN (p::35::r')=(0,10):=by simp only [frontN,h1,hf,if_true,if_false]
        rw [ht] at no
        rw [no e4]
        refine (jS (v:=()) (λj=>?_)).trans rfl
        refine iT (by first | (simp (disch:=omega) only [↓reduceIte,↓jn,gsL]; done) | rfl) ?_
        refine (st1 j).trans ((go j (by omega) (by omega)).trans ?_)
        rw [if_neg (λh=>hf h.1.1)]
     ·have e4:frontN (p::q::r')=(0,10):=by simp only [frontN,h1,h2,hq35,if_true,if_false]
      rw [ht] at no
      rw [no e4,e3]
      refine (jS (v:=false) (λj=>by simp (disch:=omega) only [↓reduceIte,↓jn,gsL,nc])).trans ?_
      rfl
  ·have e4:frontN (p::r)=(0,10):=by cases r <;> simp only [frontN,h1,if_false]
   have e3:barN 10 (p::r)=0:=by simp only [barN,h1,if_false]
   rw [ht] at no
   rw [no e4,e3]
   refine (jS (v:=false) (λj=>rfl)).trans rfl
theorem qO7 {k:Nat} {s:LN} (hk:s.length < k) (hs:By s) (hl:Sz s) {a:Nat} (ha:a≤s.length):g61 k s (a:Int)=some ((partN (s.drop a):Nat):Int):=by
 have R:∀ i,i≤s.length→g73 k s (i:Int) 10 true=some ((runN 10 false (s.drop i):Nat):Int):=λi hi=>qK6 hk hs hl (b:=10) (by decide) hi
 unfold Sz at hl
 unfold g61 partN
 have r0:=R a ha
 have l0:=qBn 10 false (s.drop a)
 rw [List.length_drop] at l0
 refine bS (by (try simp (disch:=omega) only [fwI]); exact r0) ?_
 rw [List.drop_drop]
 generalize runN 10 false (s.drop a)=n at *
 clear r0
 by_cases h0:n=0
 ·subst h0
  refine (jS (v:=true) (λj=>?_)).trans rfl
  have e:fW .i64 ((a:Int)+((0:Nat):Int))=(a:Int):=by rw [fwI (by omega) (by omega)]; omega
  rw [e]
  simp (disch:=omega) only [↓reduceIte,↓jn,gsL]
 rcases Nat.lt_or_ge (a+n) s.length with hn | hn
 ·obtain ⟨c,r,hc,hr,hm,hrl⟩:=dcons hn
  have nc:nthS s ((a:Int)+(n:Int))=some (c:Int):=nthX (by omega) hc
  have na:¬ (a:Int)+(n:Int)=a:=by omega
  by_cases h46:c=46
  ·subst h46
   refine (jS (v:=false) (λj=>by simp (disch:=omega) only [↓reduceIte,↓jn,gsL,nc,na])).trans ?_
   refine iF (by first | (simp (disch:=omega) only [↓reduceIte,↓jn,gsL]; done) | rfl) ?_
   have r1:=R (a+n+1) (by omega)
   have l1:=qBn 10 false r
   rw [hr] at r1
   have a1:∀ j,s.drop (a+n+1+j)=r.drop j:=by intro j; rw [← List.drop_drop,hr]
   have e1:fW .i64 (fW .i64 ((a:Int)+(n:Int))+1)=((a+n+1:Nat):Int):=by rw [fwI (n:=(a:Int)+(n:Int)) (by omega) (by omega),fwI (by omega) (by omega)]; omega
   simp only [hc,fracN,h0,if_true,if_false]
   rw [e1]
   refine bS (by (try simp (disch:=omega) only [fwI]); exact r1) ?_
   generalize runN 10 false r=m at *
   by_cases m0:m=0
   ·refine iT (by first | (simp (disch:=omega) only [↓reduceIte,↓jn,gsL,m0]; done) | rfl) ?_
    rw [if_pos m0]; rfl
   ·refine iF (by first | (simp (disch:=omega) only [↓reduceIte,↓jn,gsL]; done) | rfl) ?_
    rw [if_neg m0]
    rcases Nat.lt_or_ge (a+n+1+m) s.length with h1 | h1
    ·obtain ⟨e,q,he,hq,hem,hql⟩:=dcons h1
     have he':=he
     rw [a1] at he'
     have ne:nthS s (((a+n+1:Nat):Int)+m)=some (e:Int):=nthX (by omega) he
     rw [he']
     by_cases hE:e=101∨e=69
     ·simp only [expN,hE,if_true]
      refine (jS (v:=true) (λj=>?_)).trans ?_
      ·rcases hE with rfl | rfl <;> simp (disch:=omega) only [↓reduceIte,↓jn,gsL,ne]
      have hs':=sgn_le q
      have dd:s.drop (a+n+1+m+1+sgn q)=q.drop (sgn q):=by rw [← List.drop_drop,hq]
      have o1:=R (a+n+1+m+1+sgn q) (by omega)
      rw [dd] at o1
      have o3:runN 10 false (q.drop (sgn q))≤q.length - sgn q:=by
       have:=qBn 10 false (q.drop (sgn q))
       rwa [List.length_drop] at this
      generalize hz:runN 10 false (q.drop (sgn q))=z at *
      have fin:∀ (x y:Int) (j:Int→Option Int),x=((a+n+1+m+1+sgn q:Nat):Int)→((g73 k s x 10 true).bind λx5_2=>if decide (0 < x5_2) then j (fW .i64 (x+x5_2)) else j y)=if 0 < z then j (x+z) else j y:=by
       intro x y j hx
       subst hx
       refine bS (by (try simp (disch:=omega) only [fwI]); exact o1) ?_
       by_cases h:0 < z
       ·rw [if_pos h]; refine iT (by first | (simp (disch:=omega) only [↓reduceIte,↓jn,gsL]; done) | rfl) ?_; rw [fwI (by omega) (by omega)]
       ·rw [if_neg h]; refine iF (by first | (simp (disch:=omega) only [↓reduceIte,↓jn,gsL]; done) | rfl) ?_; rfl
      refine (jS (v:=if 0 < z then ((a+n+1+m+1+sgn q+z:Nat):Int) else ((a+n+1+m:Nat):Int)) (λj=>?_)).trans ?_
      ·refine iT (by first | (simp (disch:=omega) only [↓reduceIte,↓jn,gsL]; done) | rfl) ?_
       have key:∀ b:Nat,b=sgn q→(jn (λ(z10:Int)=>(g73 k s z10 10 true).bind λx5_2=>if (decide (0 < x5_2)) then (j (fW .i64 (z10+x5_2))) else (j (fW .i64 (((a+n+1:Nat):Int)+m)))) (λj10=>if decide (b=1) then (j10 (fW .i64 (fW .i64 (fW .i64 (((a+n+1:Nat):Int)+m)+1)+1))) else (j10 (fW .i64 (fW .i64 (((a+n+1:Nat):Int)+m)+1)))))=j (if 0 < z then ((a+n+1+m+1+sgn q+z:Nat):Int) else ((a+n+1+m:Nat):Int)):=by
        intro b hb
        refine (jS (v:=((a+n+1+m+1+sgn q:Nat):Int)) (λj=>?_)).trans ?_
        ·have hb01:b=0∨b=1:=by
          rw [hb]; unfold sgn; split
          ·split <;> simp
          ·simp
         rcases hb01 with rfl | rfl
         ·simp (disch:=omega) only [↓reduceIte,↓jn,gsL]
          exact congrArg j (by omega)
         ·simp (disch:=omega) only [↓reduceIte,↓jn,gsL]
          exact congrArg j (by omega)
        ·refine (fin _ _ j rfl).trans ?_
         by_cases h:0 < z
         ·rw [if_pos h,if_pos h]; exact congrArg j (by omega)
         ·rw [if_neg h,if_neg h]; rw [fwI (by omega) (by omega)]; exact congrArg j (by omega)
       cases q with
       | nil =>
        simp only [List.length_nil] at hql
        refine (jS (v:=false) (λj=>?_)).trans ?_
        ·simp (disch:=omega) only [↓reduceIte,↓jn,gsL]
        ·exact key 0 rfl
       | cons d q =>
        simp only [List.length_cons] at hql
        have nd:nthS s (((a+n+1:Nat):Int)+m+1)=some (d:Int):=nthX (i:=a+n+1+m+1) (by omega) hq
        by_cases hd:d=43∨d=45
        ·refine (jS (v:=true) (λj=>?_)).trans ?_
         ·rcases hd with rfl | rfl <;> simp (disch:=omega) only [↓reduceIte,↓jn,gsL,nd]
         ·exact key 1 (by simp only [sgn,hd,if_true])
        ·have d1:¬ (d:Int)=43:=by omega
         have d2:¬ (d:Int)=45:=by omega
         refine (jS (v:=false) (λj=>?_)).trans ?_
         ·simp (disch:=omega) only [↓reduceIte,↓jn,gsL,nd,d1,d2]
         ·exact key 0 (by simp only [sgn,hd,if_false])
      ·by_cases h:0 < z
       ·rw [if_pos h,if_pos h]; simp (disch:=omega) only [↓reduceIte,↓jn,gsL]; exact congrArg some (by omega)
       ·rw [if_neg h,if_neg h]; simp (disch:=omega) only [↓reduceIte,↓jn,gsL]; exact congrArg some (by omega)
     ·have e1:¬ (e:Int)=101:=by omega
      have e2:¬ (e:Int)=69:=by omega
      simp only [expN,hE,if_false]
      refine (jS (v:=false) (λj=>by simp (disch:=omega) only [↓reduceIte,↓jn,gsL,ne,e1,e2])).trans ?_
      refine (jS (v:=((a+n+1+m:Nat):Int)) (λj=>?_)).trans ?_
      ·refine iF (by first | (simp (disch:=omega) only [↓reduceIte,↓jn,gsL]; done) | rfl) ?_
       rw [fwI (by omega) (by omega)]; exact congrArg j (by omega)
      ·simp (disch:=omega) only [↓reduceIte,↓jn,gsL]
       exact congrArg some (by omega)
    ·have he:r.drop m=[]:=by rw [← a1]; exact dnil h1
     simp only [he,expN]
     refine (jS (v:=false) (λj=>by simp (disch:=omega) only [↓reduceIte,↓jn,gsL])).trans ?_
     refine (jS (v:=((a+n+1+m:Nat):Int)) (λj=>?_)).trans ?_
     ·refine iF (by first | (simp (disch:=omega) only [↓reduceIte,↓jn,gsL]; done) | rfl) ?_
      rw [fwI (by omega) (by omega)]; exact congrArg j (by omega)
     ·simp (disch:=omega) only [↓reduceIte,↓jn,gsL]
      exact congrArg some (by omega)
  ·have c46:¬ (c:Int)=46:=by omega
   refine (jS (v:=true) (λj=>by simp (disch:=omega) only [↓reduceIte,↓jn,gsL,nc,na,c46])).trans ?_
   refine iT (by first | (simp (disch:=omega) only [↓reduceIte,↓jn,gsL]; done) | rfl) ?_
   rw [hc]
   simp only [fracN,h0,h46,if_false]; rfl
 ·refine (jS (v:=true) (λj=>by simp (disch:=omega) only [↓reduceIte,↓jn,gsL])).trans ?_
  refine iT (by first | (simp (disch:=omega) only [↓reduceIte,↓jn,gsL]; done) | rfl) ?_
  rw [dnil hn]
  simp only [fracN,h0,if_false]; rfl
theorem qLp (k : Nat) {s : LN} (hs : By s) (hl : Sz s) : ∀ (f i : Nat), s.length < i + f → i ≤ s.length → qHi k s f (i : Int) = some ((i + skipN (s.drop i) : Nat) : Int)
 | 0,i,h,h2=>by omega
 | f+1,i,h,h2=>by
  have hl':=hl
  unfold Sz at hl
  rw [g25_l1_s]
  rcases Nat.lt_or_ge i s.length with hi | hi
  ·obtain ⟨c,r,hc,hr,hm,hrl⟩:=dcons hi
   have ih:=qLp k hs hl' f (i+1) (by omega) (by omega)
   rw [hr] at ih
   have nc:=nthX (x:=(i:Int)) rfl hc
   refine (jS (v:=(blkN c,(i:Int))) (λj=>?_)).trans ?_
   ·refine iT (by first | (simp (disch:=omega) only [↓reduceIte,↓jn,gsL]; done) | rfl) ?_
    refine bS (by (try simp (disch:=omega) only [fwI]); exact nc) ?_
    unfold blkN
    by_cases h1:c=32
    ·refine iT (dT (by omega)) ?_
     rw [decide_eq_true h1]; rfl
    refine iF (dF (by omega)) ?_
    refine bS (by (try simp (disch:=omega) only [fwI]); exact nc) ?_
    rw [decide_eq_false h1]
    by_cases h2:c=9
    ·refine iT (dT (by omega)) ?_
     rw [decide_eq_true h2]; rfl
    refine iF (dF (by omega)) ?_
    refine bS (by (try simp (disch:=omega) only [fwI]); exact nc) ?_
    rw [decide_eq_false h2]
    by_cases h3:c=10
    ·refine iT (dT (by omega)) ?_
     rw [decide_eq_true h3]; rfl
    refine iF (dF (by omega)) ?_
    refine bS (by (try simp (disch:=omega) only [fwI]); exact nc) ?_
    rw [decide_eq_false h3]
    have:decide ((c:Int)=13)=decide (c=13):=by rw [Bool.eq_iff_iff]; simp; omega
    rw [this]; rfl
   ·rw [hc]
    simp only [skipN]
    cases blkN c with
    | true =>
     refine iT rfl ?_
     rw [fw_s (by omega)]
     refine ih.trans (sn ?_)
     simp only [if_true]; omega
    | false =>
     refine iF rfl ?_
     simp only [Bool.false_eq_true,if_false]; rfl
  ·refine (jS (v:=(false,(i:Int))) (λj=>?_)).trans ?_
   ·simp (disch:=omega) only [↓reduceIte,↓jn,gsL]
   ·refine iF rfl ?_
    rw [dnil hi]; rfl
theorem qFb {k:Nat} {s:LN} (hk:s.length < k) (hs:By s) (hl:Sz s) {a:Nat} (ha:a≤s.length):g25 k s (a:Int)=some ((a+skipN (s.drop a):Nat):Int):=qLp k hs hl k a (by omega) ha
theorem qLm (k : Nat) {s : LN} (hs : By s) (hl : Sz s) : ∀ (f i : Nat), s.length < i + f → i ≤ s.length → qHh k s f (i : Int) = some ((i + innN (s.drop i) : Nat) : Int)
 | 0,i,h,h2=>by omega
 | f+1,i,h,h2=>by
  have hl':=hl
  unfold Sz at hl
  rw [g40_l1_s]
  rcases Nat.lt_or_ge i s.length with hi | hi
  ·obtain ⟨c,r,hc,hr,hm,hrl⟩:=dcons hi
   have ih:=qLm k hs hl' f (i+1) (by omega) (by omega)
   rw [hr] at ih
   have nc:=nthX (x:=(i:Int)) rfl hc
   have bc:=qH5 k (hs c hm)
   refine (jS (v:=(inrN c,(i:Int))) (λj=>?_)).trans ?_
   ·refine iT (by first | (simp (disch:=omega) only [↓reduceIte,↓jn,gsL]; done) | rfl) ?_
    refine bS (by (try simp (disch:=omega) only [fwI]); exact nc) ?_
    refine bS (by (try simp (disch:=omega) only [fwI]); exact bc) ?_
    rfl
   ·rw [hc]
    simp only [innN]
    cases inrN c with
    | true =>
     refine iT rfl ?_
     rw [fw_s (by omega)]
     refine ih.trans (sn ?_)
     simp only [if_true]; omega
    | false =>
     refine iF rfl ?_
     simp only [Bool.false_eq_true,if_false]; rfl
  ·refine (jS (v:=(false,(i:Int))) (λj=>?_)).trans ?_
   ·simp (disch:=omega) only [↓reduceIte,↓jn,gsL]
   ·refine iF rfl ?_
    rw [dnil hi]; rfl
theorem qIx {k:Nat} {s:LN} (hk:s.length < k) (hs:By s) (hl:Sz s) {a:Nat} (ha:a≤s.length):g40 k s (a:Int)=some ((a+innN (s.drop a):Nat):Int):=qLm k hs hl k a (by omega) ha
theorem qPh {k:Nat} (hk:6≤k) {s:LN} (hs:By s) (hl:Sz s) {a q:Nat} {t:LN} (hq:s.drop a=q::t) (hq2:q=39∨q=34):∀ (d f i:Nat),s.length≤i+d→d < f→i≤s.length→a≤i→qG7 k s (a:Int) f (i:Int)=some ((bmp (i - a) (quoN q d (s.drop i)):Nat):Int):=by
 have na:nthS s (a:Int)=some (q:Int):=nthX rfl hq
 have hl':=hl
 unfold Sz at hl
 intro d
 induction d with
 | zero =>
  intro f i h1 hf h2 hai
  obtain ⟨f,rfl⟩:∃ f',f=f'+1:=⟨f - 1,by omega⟩
  rw [dnil (by omega:s.length≤i),qNa]
  refine (jS (v:=(false,(i:Int))) (λj=>?_)).trans ?_
  ·simp (disch:=omega) only [↓reduceIte,↓jn,gsL]
  ·refine iF rfl ?_
   refine iT (by first | (simp (disch:=omega) only [↓reduceIte,↓jn,gsL]; done) | rfl) ?_
   rfl
 | succ d ih =>
  intro f i h1 hf h2 hai
  obtain ⟨f,rfl⟩:∃ f',f=f'+1:=⟨f - 1,by omega⟩
  rw [qNa]
  rcases Nat.lt_or_ge i s.length with hi | hi
  ·obtain ⟨c,r,hc,hr,hm,hrl⟩:=dcons hi
   have nc:=nthX (x:=(i:Int)) rfl hc
   rw [hc]
   simp only [quoN]
   by_cases hcq:c=q
   ·subst hcq
    rw [if_pos rfl]
    refine (jS (v:=(false,(i:Int))) (λj=>?_)).trans ?_
    ·refine iT (by first | (simp (disch:=omega) only [↓reduceIte,↓jn,gsL]; done) | rfl) ?_
     refine bS (by (try simp (disch:=omega) only [fwI]); exact nc) ?_
     refine bS (by (try simp (disch:=omega) only [fwI]); exact na) ?_
     rw [dT rfl]; rfl
    ·refine iF rfl ?_
     refine iF (by first | (simp (disch:=omega) only [↓reduceIte,↓jn,gsL]; done) | rfl) ?_
     rw [fw_s (by omega),fwI (by omega) (by omega)]
     unfold bmp
     rw [if_neg (by decide)]
     exact congrArg some (by omega)
   ·rw [if_neg hcq]
    refine (jS (v:=(true,(i:Int))) (λj=>?_)).trans ?_
    ·refine iT (by first | (simp (disch:=omega) only [↓reduceIte,↓jn,gsL]; done) | rfl) ?_
     refine bS (by (try simp (disch:=omega) only [fwI]); exact nc) ?_
     refine bS (by (try simp (disch:=omega) only [fwI]); exact na) ?_
     rw [dF (by omega)]; rfl
    ·refine iT rfl ?_
     refine bS (by (try simp (disch:=omega) only [fwI]); exact nc) ?_
     have step : ∀ (p : Nat) (u : LN), p ≤ s.length → s.drop p = u → i ≤ p → p ≤ i + 1 →
      (g36 k s (p:Int)).bind (λx2_2=>jn (λ(z6:Bool)=>if z6 then (some (0:Int)) else (qG7 k s (a:Int) f (fW .i64 ((p:Int)+x2_2.2)))) (λj6=>if (decide (x2_2.1 < 32)) then (j6 true) else (j6 (decide (x2_2.1=127)))))=some ((bmp (i - a) (bmp (p - i+shwN u) (if shwN u=0 then 0 else quoN q d (u.drop (shwN u)))):Nat):Int):=by
      intro p u hp hu hip hip1
      have nx:=qDs hk hs hl' p
      rw [hu] at nx
      refine bS (by (try simp (disch:=omega) only [fwI]); exact nx) ?_
      by_cases h:(dec u).1 < 32∨(dec u).1=127
      ·have sw:shwN u=0:=by unfold shwN; rw [if_pos h]
       rw [sw,if_pos rfl]
       refine (jS (v:=true) (λj=>?_)).trans rfl
       by_cases h1:(dec u).1 < 32
       ·refine iT (dT h1) rfl
       ·refine iF (dF h1) ?_
        rw [dT (by omega)]
      ·have une:u ≠ []:=by intro e; rw [e] at h; exact h (.inl (by decide))
       obtain ⟨n,n1,n2,n3,n4,-⟩:=qDe une
       have sw:shwN u=n:=by unfold shwN; rw [if_neg h,n1,Int.toNat_natCast]
       rw [sw,if_neg (by clear n1; omega),n1]
       refine (jS (v:=false) (λj=>?_)).trans ?_
       ·refine iF (dF (by omega)) ?_
        rw [dF (by omega)]
       ·refine iF rfl ?_
        have ul:u.length=s.length - p:=by rw [← hu,List.length_drop]
        clear n1 nx
        rw [fw_a (by omega) (by omega)]
        refine (ih f (p+n) (by omega) (by omega) (by omega) (by omega)).trans (sn ?_)
        rw [← List.drop_drop,hu]
        unfold bmp
        repeat' split
        all_goals omega
     by_cases h92:c=92
     ·subst h92
      rw [if_pos rfl]
      refine (jS (v:=((i+1:Nat):Int)) (λj=>?_)).trans ?_
      ·refine iT rfl ?_
       rw [fw_s (by omega)]
      ·have:=step (i+1) r (by omega) hr (by omega) (Nat.le_refl _)
       rw [show i+1 - i=1 by omega] at this
       exact this
     ·rw [if_neg h92]
      refine (jS (v:=(i:Int)) (λj=>?_)).trans ?_
      ·refine iF (dF (by omega)) rfl
      ·have:=step i (c::r) (by omega) hc (Nat.le_refl _) (by omega)
       rw [show i - i+shwN (c::r)=shwN (c::r) by omega] at this
       exact this
  ·rw [dnil hi]
   refine (jS (v:=(false,(i:Int))) (λj=>?_)).trans ?_
   ·simp (disch:=omega) only [↓reduceIte,↓jn,gsL]
   ·refine iF rfl ?_
    refine iT (by first | (simp (disch:=omega) only [↓reduceIte,↓jn,gsL]; done) | rfl) ?_
    rfl
theorem qGr {k:Nat} {s:LN} (hk:s.length+6≤k) (hs:By s) (hl:Sz s) {a q:Nat} {t:LN} (hq:s.drop a=q::t) (hq2:q=39∨q=34):g42 k s (a:Int)=some ((qtdN (s.drop a):Nat):Int):=by
 have tl:=qBy hq
 have hl':=hl
 unfold Sz at hl
 unfold g42
 rw [fw_s (by omega)]
 refine (qPh (k:=k) (by omega) hs hl' hq hq2 t.length k (a+1) (by omega) (by omega) (by omega) (by omega)).trans (sn ?_)
 rw [qBr hq,hq,show a+1 - a=1 by omega]
 rfl
theorem rchar_at {k:Nat} (hk:10≤k) {s:LN} (hs:By s) (hl:Sz s) {a q:Nat} {t:LN} (hq:s.drop a=q::t):g43 k s (a:Int)=some ((chrN (s.drop a):Nat):Int):=by
 have tl:=qBy hq
 have dt:=qBr hq
 have hl':=hl
 unfold Sz at hl
 unfold g43
 rw [hq]
 cases t with
 | nil =>
  simp only [List.length_nil] at tl
  refine (jS (v:=false) (λj=>?_)).trans ?_
  ·simp (disch:=omega) only [↓reduceIte,↓jn,gsL]
  ·refine iF rfl ?_
   have nx:=qDs (k:=k) (by omega) hs hl' (a+1)
   rw [dt] at nx
   rw [fw_s (by omega)]
   refine bS (by (try simp (disch:=omega) only [fwI]); exact nx) ?_
   rfl
 | cons c r =>
  simp only [List.length_cons] at tl
  have c256:=hs c (qBj dt)
  have n1:nthS s ((a+1:Nat):Int)=some (c:Int):=nthX rfl dt
  rw [fw_s (by omega)]
  simp only [chrN]
  by_cases h92:c=92
  ·rw [if_pos h92]
   refine (jS (v:=true) (λj=>?_)).trans ?_
   ·refine iT (by first | (simp (disch:=omega) only [↓reduceIte,↓jn,gsL]; done) | rfl) ?_
    refine bS (by (try simp (disch:=omega) only [fwI]); exact n1) ?_
    rw [dT (by omega)]
   ·refine iT rfl ?_
    have ea:=qO5 hk hs hl' (a+1)
    rw [dt] at ea
    refine bS (by (try simp (disch:=omega) only [fwI]); exact ea) ?_
    rcases qHo (c::r) with h | ⟨v,n,h,h2,h3⟩
    ·rw [h]; rfl
    ·rw [h]
     simp only [List.length_cons] at h3
     have:(0:Int) < ((n:Nat):Int):=by omega
     simp only []
     rw [if_pos this]
     refine iT (dT (by omega)) ?_
     rw [fw_s (by omega),Int.toNat_natCast]
  ·rw [if_neg h92]
   refine (jS (v:=false) (λj=>?_)).trans ?_
   ·refine iT (by first | (simp (disch:=omega) only [↓reduceIte,↓jn,gsL]; done) | rfl) ?_
    refine bS (by (try simp (disch:=omega) only [fwI]); exact n1) ?_
    rw [dF (by omega)]
   ·refine iF rfl ?_
    have nx:=qDs (k:=k) (by omega) hs hl' (a+1)
    rw [dt] at nx
    refine bS (by (try simp (disch:=omega) only [fwI]); exact nx) ?_
    by_cases h:(dec (c::r)).1≤32∨(dec (c::r)).1=127
    ·have:¬ (shwN (c::r) ≠ 0∧c ≠ 32):=by
      rintro ⟨h1,h2⟩
      apply h1
      unfold shwN
      rw [if_pos]
      by_cases h3:c < 128
      ·rw [qJw r h3] at h ⊢
       simp only [] at h ⊢
       omega
      ·rcases dec_big r h3 with h4 | h4 <;> omega
     rw [if_neg this]
     refine (jS (v:=true) (λj=>?_)).trans rfl
     by_cases h1:(dec (c::r)).1≤32
     ·refine iT (dT h1) rfl
     ·refine iF (dF h1) ?_
      rw [dT (by omega)]
    ·obtain ⟨n,n1',n2,n3,n4,-⟩:=qDe (s:=c::r) (by simp)
     have sw:shwN (c::r)=n:=by unfold shwN; rw [if_neg (by omega),n1',Int.toNat_natCast]
     have c32:c ≠ 32:=by
      intro e; subst e
      rw [qJw r (by decide)] at h
      exact h (.inl (by decide))
     rw [sw,if_pos (show n ≠ 0∧c ≠ 32 from ⟨by clear n1'; omega,c32⟩),n1']
     simp only [List.length_cons] at n4
     refine (jS (v:=false) (λj=>?_)).trans ?_
     ·refine iF (dF (by omega)) ?_
      rw [dF (by omega)]
     ·refine iF rfl ?_
      clear n1' nx
      rw [fw_s (by omega)]
theorem qHy {b : Nat} (hb : b ≤ 99) : ∀ (p : Bool) (s : LN), 35 ∉ s.take (runN b p s)
 | _,[],h=>by simp at h
 | p,c::r,h=>by
  simp only [runN] at h
  split at h
  ·rename_i hc
   rw [List.take_succ_cons] at h
   rcases List.mem_cons.1 h with e | e
   ·subst e
    have:dgN 35=99:=by decide
    omega
   ·exact qHy hb true r e
  ·split at h
   ·rename_i hc hp
    rw [List.take_succ_cons] at h
    rcases List.mem_cons.1 h with e | e
    ·subst e
     simp at hp
    ·exact qHy hb false r e
   ·simp at h
theorem qNi {s:LN} (h:(frontN s).1 ≠ 0):∃ m r,(frontN s).1=m+1∧s.drop m=35::r∧runN 10 false s=m:=by
 have d35:¬ dgN 35 < 10:=by decide
 revert h
 unfold frontN
 split
 ·rename_i a b r
  split
  ·rename_i ha
   split
   ·rename_i hb
    subst hb
    split
    ·intro _
     refine ⟨1,r,rfl,rfl,?_⟩
     simp [runN,ha,d35]
    ·intro h; exact absurd rfl h
   ·split
    ·rename_i hb
     split
     ·rename_i c r'
      split
      ·rename_i hc
       obtain ⟨rfl,-⟩:=hc
       intro _
       refine ⟨2,r',rfl,rfl,?_⟩
       simp [runN,ha,hb,d35]
      ·intro h; exact absurd rfl h
     ·intro h; exact absurd rfl h
    ·intro h; exact absurd rfl h
  ·intro h; exact absurd rfl h
 ·intro h; exact absurd rfl h
theorem hash_iff (s:LN):(35 ∈ s.take (wholeN s)) ↔ ¬ ((frontN s).1=0∨wholeN s < (frontN s).1):=by
 by_cases h:0 < (frontN s).1∧0 < runN (frontN s).2 false (s.drop (frontN s).1)
 ·have hw:wholeN s=(frontN s).1+runN (frontN s).2 false (s.drop (frontN s).1):=by unfold wholeN; rw [if_pos h]
  obtain ⟨m,r,h1,h2,-⟩:=qNi (s:=s) (by omega)
  constructor
  ·intro _; omega
  ·intro _
   rw [hw,h1]
   have dl:=qBy h2
   have:s.take (m+1+runN (frontN s).2 false (s.drop (m+1)))=s.take m++(35::r.take (runN (frontN s).2 false (s.drop (m+1)))):=by
    rw [Nat.add_assoc,List.take_add,h2,Nat.add_comm 1,List.take_succ_cons]
   rw [this]
   simp
 ·have hw:wholeN s=runN 10 false s:=by unfold wholeN; rw [if_neg h]
  rw [hw]
  constructor
  ·intro hm; exact absurd hm (qHy (by decide) false s)
  ·intro hn
   exfalso
   apply hn
   by_cases h0:(frontN s).1=0
   ·exact .inl h0
   ·right
    obtain ⟨m,r,h1,h2,h3⟩:=qNi h0
    omega
theorem rnum_l (k : Nat) {s : LN} (hl : Sz s) (c11 : Unit → Option (S33 × Int)) {a w : Nat} (ha : a + w ≤ s.length) (kind : Int) : ∀ (f i : Nat) (b : Bool), a + w < i + f → i ≤ a + w →
 qEu k c11 s (a:Int) (kind,(w:Int)) f b (i:Int)=if b=true∨35 ∈ (s.drop i).take (a+w - i) then c11 () else some (tok0,4)
 | 0,i,b,h,h2=>by omega
 | f+1,i,b,h,h2=>by
  have hl':=hl
  unfold Sz at hl
  rw [g39_l9_s]
  show (if decide ((i:Int) < fW .i64 ((a:Int)+(w:Int))) then _ else _)=_
  rw [fw_a (by omega) (by omega)]
  rcases Nat.lt_or_ge i (a+w) with hi | hi
  ·obtain ⟨c,r,hc,hr,hm,hrl⟩:=dcons (s:=s) (i:=i) (by omega)
   have nc:=nthX (x:=(i:Int)) rfl hc
   refine iT (dT (by omega)) ?_
   have ih:=rnum_l k hl' c11 ha kind f (i+1) (b || decide (c=35)) (by omega) (by omega)
   refine (jS (v:=(b || decide (c=35),(i:Int))) (λj=>?_)).trans ?_
   ·cases b with
    | true=>rfl
    | false =>
     refine iF rfl ?_
     refine bS (by (try simp (disch:=omega) only [fwI]); exact nc) ?_
     congr 2
     rw [Bool.eq_iff_iff]; simp; omega
   ·show qEu k c11 s (a:Int) (kind,(w:Int)) f (b || decide (c=35)) (fW .i64 ((i:Int)+1))=_
    rw [fw_s (by omega)]
    refine ih.trans ?_
    rw [hr,hc,show a+w - i=(a+w - (i+1))+1 by omega,List.take_succ_cons]
    have:((b || decide (c=35))=true∨35 ∈ r.take (a+w - (i+1))) ↔ (b=true∨35 ∈ c::r.take (a+w - (i+1))):=by
     rw [List.mem_cons,Bool.or_eq_true,decide_eq_true_eq]
     constructor
     ·rintro ((h | h) | h)
      ·exact .inl h
      ·exact .inr (.inl h.symm)
      ·exact .inr (.inr h)
     ·rintro (h | h | h)
      ·exact .inl (.inl h)
      ·exact .inl (.inr h.symm)
      ·exact .inr h
    simp only [this]
  ·refine iF (dF (by omega)) ?_
   rw [show a+w - i=0 by omega,List.take_zero]
   cases b <;> simp <;> rfl
theorem qO4 {k:Nat} {s:LN} (hk:s.length+4 < k) (hs:By s) (hl:Sz s) {a:Nat} (ha:a≤s.length):g39 k s (a:Int)=some (if (numN (s.drop a)).1=0 then (tok0,4) else (mkTok s ((numN (s.drop a)).2,a,(numN (s.drop a)).1),0)):=by
 have hl':=hl
 unfold Sz at hl
 unfold g39
 refine bS (by (try simp (disch:=omega) only [fwI]); exact qO7 (by omega) hs hl' ha) ?_
 have pl:=qLu (s.drop a)
 have wl:=qIp (s.drop a)
 rw [List.length_drop] at pl wl
 have hi:=hash_iff (s.drop a)
 have key : ∀ (n kind : Nat), n ≤ s.length - a → (kind = 4 ∧ n ≠ 0 ∨ kind = 3 ∧ n = wholeN (s.drop a)) →
  (jn (λ(z7:Bool)=>if z7 then (some ((⟨(0:Int),([]:LN),(0:Int)⟩:S33),(4:Int))) else (jn (λ(z8:Bool)=>jn (λ(z11:Unit)=>(subL s (some (a:Int)) (some (fW .i64 ((a:Int)+(n:Int))))).bind λx4_4=>some ((⟨(kind:Int),x4_4,(a:Int)⟩:S33),(0:Int))) (λj11=>if z8 then (qEu k j11 s (a:Int) ((kind:Int),(n:Int)) k false (a:Int)) else (j11 ()))) (λj8=>if (decide ((kind:Int)=3)) then (if (decide (fW .i64 ((a:Int)+(n:Int)) < (s.length:Int))) then ((nthS s (fW .i64 ((a:Int)+(n:Int)))).bind λx3_11=>j8 (decide (x3_11=35))) else (j8 false)) else (j8 false)))) (λj7=>if (decide ((n:Int)=0)) then (j7 true) else (if (decide (fW .i64 ((a:Int)+(n:Int)) < (s.length:Int))) then ((nthS s (fW .i64 ((a:Int)+(n:Int)))).bind λx2_10=>(g63 k x2_10).bind λx2_11=>j7 x2_11) else (j7 false))))
  = some (if (if kind=3∧hashN (s.drop a) n=true then (0,0) else endN (s.drop a) n kind).1=0 then (tok0,4) else (mkTok s ((if kind=3∧hashN (s.drop a) n=true then (0,0) else endN (s.drop a) n kind).2,a,(if kind=3∧hashN (s.drop a) n=true then (0,0) else endN (s.drop a) n kind).1),0)):=by
  intro n kind hn hkind
  rw [fw_a (n:=a) (m:=n) (by omega) (by omega)]
  have out:(subL s (some (a:Int)) (some ((a+n:Nat):Int))).bind (λx4_4=>some ((⟨(kind:Int),x4_4,(a:Int)⟩:S33),(0:Int)))=some (mkTok s (kind,a,n),0):=by
   refine bS (by (try simp (disch:=omega) only [fwI]); exact subMid (s:=s) (i:=a) (j:=a+n) rfl rfl (by omega) (by omega)) ?_
   rw [List.drop_take,Nat.add_sub_cancel_left]; rfl
  by_cases h0:n=0
  ·subst h0
   refine (jS (v:=true) (λj=>rfl)).trans ?_
   refine iT rfl ?_
   rw [if_pos]
   ·rfl
   ·by_cases hh:kind=3∧hashN (s.drop a) 0=true
    ·rw [if_pos hh]
    ·rw [if_neg hh]; unfold endN; split
     ·split <;> rfl
     ·rfl
  ·rcases Nat.lt_or_ge (a+n) s.length with h | h
   ·obtain ⟨c,r,hc,hr,hm,hrl⟩:=dcons h
    have nc:=nthX (x:=((a+n:Nat):Int)) rfl hc
    have hc':(s.drop a).drop n=c::r:=by rw [List.drop_drop]; exact hc
    refine (jS (v:=inrN c) (λj=>?_)).trans ?_
    ·refine iF (dF (by omega)) ?_
     refine iT (dT (by omega)) ?_
     refine bS (by (try simp (disch:=omega) only [fwI]); exact nc) ?_
     refine bS (by (try simp (disch:=omega) only [fwI]); exact qH5 k (hs c hm)) ?_
     rfl
    ·cases hin:inrN c with
     | true =>
      refine iT rfl ?_
      rw [if_pos]
      ·rfl
      ·by_cases hh:kind=3∧hashN (s.drop a) n=true
       ·rw [if_pos hh]
       ·rw [if_neg hh]; unfold endN; rw [hc']; simp only [hin,if_true]
     | false =>
      refine iF rfl ?_
      have he:endN (s.drop a) n kind=(n,kind):=by unfold endN; rw [hc']; simp only [hin,Bool.false_eq_true,if_false]
      rw [he]
      by_cases h35:kind=3∧c=35
      ·obtain ⟨rfl,rfl⟩:=h35
       have hw:n=wholeN (s.drop a):=by
        rcases hkind with h | h
        ·omega
        ·exact h.2
       refine (jS (v:=true) (λj=>?_)).trans ?_
       ·refine iT rfl ?_
        refine iT (dT (by omega)) ?_
        refine bS (by (try simp (disch:=omega) only [fwI]); exact nc) ?_
        rfl
       ·have hh:hashN (s.drop a) n=decide ((frontN (s.drop a)).1=0∨n < (frontN (s.drop a)).1):=by
         unfold hashN; rw [hc']; rw [Bool.eq_iff_iff]; simp
        rw [← hw] at hi
        have lp:=λc11=>rnum_l k hl' c11 (a:=a) (w:=n) (by omega) 3 k a false (by omega) (by omega)
        rw [show a+n - a=n by omega] at lp
        by_cases hb:35 ∈ (s.drop a).take n
        ·have:hashN (s.drop a) n=false:=by rw [hh]; exact decide_eq_false (hi.1 hb)
         rw [this]
         refine (jS (v:=()) (λj=>?_)).trans ?_
         ·refine iT rfl ?_
          refine (lp j).trans ?_
          rw [if_pos (.inr hb)]
         ·refine out.trans ?_
          simp only [Bool.false_eq_true,and_false,if_false]
          rw [if_neg h0]
        ·have:hashN (s.drop a) n=true:=by
          rw [hh]; refine decide_eq_true ?_
          by_cases h1:(frontN (s.drop a)).1=0∨n < (frontN (s.drop a)).1
          ·exact h1
          ·exact absurd (hi.2 h1) hb
         rw [this]
         refine jC λj=>?_
         refine iT rfl ?_
         refine (lp j).trans ?_
         rw [if_neg (by rintro (h | h); exact absurd h (by decide); exact hb h)]
         rfl
      ·have hnh:¬ (kind=3∧hashN (s.drop a) n=true):=by
        rintro ⟨h1,h2⟩
        unfold hashN at h2
        rw [hc'] at h2
        simp only [Bool.and_eq_true,decide_eq_true_eq] at h2
        exact h35 ⟨h1,h2.1⟩
       rw [if_neg hnh]
       refine (jS (v:=false) (λj=>?_)).trans ?_
       ·rcases hkind with ⟨rfl,-⟩ | ⟨rfl,-⟩
        ·rfl
        ·refine iT rfl ?_
         refine iT (dT (by omega)) ?_
         refine bS (by (try simp (disch:=omega) only [fwI]); exact nc) ?_
         rw [dF (by omega)]
       ·refine (jS (v:=()) (λj=>rfl)).trans ?_
        refine out.trans ?_
        rw [if_neg h0]
   ·have hc':(s.drop a).drop n=[]:=by rw [List.drop_drop]; exact dnil h
    have he:endN (s.drop a) n kind=(n,kind):=by unfold endN; rw [hc']
    have hh:hashN (s.drop a) n=false:=by unfold hashN; rw [hc']
    rw [he,hh]
    simp only [Bool.false_eq_true,and_false,if_false]
    rw [if_neg h0]
    refine (jS (v:=false) (λj=>?_)).trans ?_
    ·refine iF (dF (by omega)) ?_
     refine iF (dF (by omega)) rfl
    ·refine iF rfl ?_
     refine (jS (v:=false) (λj=>?_)).trans ?_
     ·rcases hkind with ⟨rfl,-⟩ | ⟨rfl,-⟩
      ·rfl
      ·refine iT rfl ?_
       refine iF (dF (by omega)) rfl
     ·exact (jS (v:=()) (λj=>rfl)).trans out
 unfold numN
 by_cases h0:partN (s.drop a)=0
 ·rw [if_pos h0]
  refine (jS (v:=((3:Int),(wholeN (s.drop a):Int))) (λj=>?_)).trans ?_
  ·refine iT (dT (by omega)) ?_
   refine bS (by (try simp (disch:=omega) only [fwI]); exact qPe (by omega) (by omega) hs hl' ha) ?_
   rfl
  ·refine (key (wholeN (s.drop a)) 3 wl (.inr ⟨rfl,rfl⟩)).trans ?_
   simp only [true_and]
 ·rw [if_neg h0]
  refine (jS (v:=((4:Int),(partN (s.drop a):Int))) (λj=>?_)).trans ?_
  ·refine iF (dF (by omega)) rfl
  ·refine (key (partN (s.drop a)) 4 pl (.inl ⟨rfl,h0⟩)).trans ?_
   rfl
def V (s:LN):Bool:=vld s.length s
def Toks (s : LN) : Nat → List (Nat × Nat × Nat) → Prop
 | a,[]=>s.length≤a+skipN (s.drop a)
 | a,x::l=>x.2.1=a+skipN (s.drop a)∧x.2.1 < s.length∧oneN (s.drop x.2.1)=(x.2.2,x.1)∧x.2.2 ≠ 0∧Toks s (x.2.1+x.2.2) l
theorem qF1 (s : LN) : ∀ (f a : Nat) (l : List (Nat × Nat × Nat)), s.length < a + f → (toksN s f a = some l ↔ Toks s a l)
 | 0,a,l,h=>by
  have hd:s.drop a=[]:=dnil (by omega)
  simp only [toksN]
  cases l with
  | nil=>simp only [Toks,hd,skipN]; simp; omega
  | cons x l =>
   simp only [Toks,hd,skipN]
   constructor
   ·intro h; cases h
   ·rintro ⟨h1,h2,-⟩; omega
 | f+1,a,l,h=>by
  have ih:=λa' l' hh=>qF1 s f a' l' hh
  unfold toksN
  by_cases hb:s.length≤a+skipN (s.drop a)
  ·rw [if_pos hb]
   cases l with
   | nil=>simp only [Toks]; simp [hb]
   | cons x l =>
    simp only [Toks]
    constructor
    ·intro h; cases h
    ·rintro ⟨h1,h2,-⟩; omega
  ·rw [if_neg hb]
   by_cases h0:(oneN (s.drop (a+skipN (s.drop a)))).1=0
   ·rw [if_pos h0]
    cases l with
    | nil=>simp only [Toks]; simp; omega
    | cons x l =>
     simp only [Toks]
     constructor
     ·intro h; cases h
     ·rintro ⟨h1,h2,h3,h4,-⟩
      rw [← h1,h3] at h0
      exact absurd h0 h4
   ·rw [if_neg h0]
    cases l with
    | nil =>
     simp only [Toks]
     constructor
     ·intro h
      cases ht:toksN s f (a+skipN (s.drop a)+(oneN (s.drop (a+skipN (s.drop a)))).1) with
      | none=>rw [ht] at h; cases h
      | some l=>rw [ht] at h; cases h
     ·intro h; exact absurd h hb
    | cons x l =>
     obtain ⟨k,b,n⟩:=x
     simp only [Toks]
     constructor
     ·intro h
      cases ht:toksN s f (a+skipN (s.drop a)+(oneN (s.drop (a+skipN (s.drop a)))).1) with
      | none=>rw [ht] at h; cases h
      | some l' =>
       rw [ht] at h
       cases h
       refine ⟨rfl,by omega,rfl,h0,?_⟩
       exact (ih _ _ (by have:=Nat.pos_of_ne_zero h0; omega)).1 ht
     ·rintro ⟨rfl,h2,h3,h4,h5⟩
      have e1:(oneN (s.drop (a+skipN (s.drop a)))).1=n:=by rw [h3]
      have e2:(oneN (s.drop (a+skipN (s.drop a)))).2=k:=by rw [h3]
      rw [e1,e2,(ih _ _ (by have:=Nat.pos_of_ne_zero h4; omega)).2 h5]
      rfl
theorem qC9 {s : LN} : ∀ {l : List (Nat × Nat × Nat)} {a : Nat}, Toks s a l → a ≤ s.length → ∀ x ∈ l, a ≤ x.2.1 ∧ x.2.1 + x.2.2 ≤ s.length ∧ x.2.2 ≠ 0
 | [],a,h,ha,x,hx=>by cases hx
 | y::l,a,h,ha,x,hx=>by
  obtain ⟨h1,h2,h3,h4,h5⟩:=h
  have ol:=qI7 (s.drop y.2.1)
  rw [h3,List.length_drop] at ol
  rcases List.mem_cons.1 hx with rfl | hx
  ·exact ⟨by omega,by simp only [] at ol; omega,h4⟩
  ·have:=qC9 h5 (by simp only [] at ol; omega) x hx
   omega
theorem scan_ok {s:LN} (h:(scanN s).2=0):∃ l,Toks s 0 l∧scanN s=(l.map (mkTok s),0)∧V s=true∧s.length≤65536:=by
 unfold scanN at h ⊢
 by_cases h1:65536 < s.length
 ·rw [if_pos h1] at h; cases h
 ·rw [if_neg h1] at h ⊢
  by_cases h2:vld s.length s=false
  ·rw [if_pos h2] at h; cases h
  ·rw [if_neg h2] at h ⊢
   cases ht:toksN s (s.length+1) 0 with
   | none=>rw [ht] at h; cases h
   | some l =>
    exact ⟨l,(qF1 s (s.length+1) 0 l (by omega)).1 ht,rfl,by unfold V; cases hv:vld s.length s with | true=>rfl | false=>exact absurd hv h2,by omega⟩
def macB (t:LN):Bool:=match t with | c::_=>decide (begN c=1∨begN c=2) | []=>false
theorem begN_le (c:Nat):begN c≤3:=by
 unfold begN; repeat' split
 all_goals omega
theorem qIq (t : LN) (n : Nat) : ∀ i, i ≤ n → trmN (t.take n) i = trmN t i
 | 0,_=>rfl
 | i+1,h=>by
  have ih:=qIq t n i (by omega)
  simp only [trmN,ih]
  rcases Nat.lt_or_ge i t.length with hi | hi
  ·obtain ⟨c,r,hc,hr,hm,hrl⟩:=dcons hi
   rw [hc,List.drop_take,hc,show n - i=(n - i - 1)+1 by omega,List.take_succ_cons]
  ·rw [dnil hi,dnil (by rw [List.length_take]; omega)]
theorem qLi {c : Nat} {r : LN} (h : blkN c = false) : ∀ i, 1 ≤ i → 1 ≤ trmN (c :: r) i
 | 0,h1=>absurd h1 (by decide)
 | i+1,_=>by
  simp only [trmN]
  cases i with
  | zero=>simp only [List.drop_zero,h,Bool.false_eq_true,if_false]; exact Nat.le_refl _
  | succ i =>
   have:=qLi (r:=r) h (i+1) (by omega)
   split
   ·split <;> omega
   ·omega
theorem qH2 : ∀ s : LN, 10 ∉ s.take (lineN s)
 | [],h=>by simp at h
 | c::r,h=>by
  simp only [lineN] at h
  split at h
  ·simp at h
  ·rw [List.take_succ_cons] at h
   rcases List.mem_cons.1 h with e | e
   ·rename_i hc; exact hc e.symm
   ·exact qH2 r e
theorem cmtN_pos (r:LN):1≤cmtN (37::r):=by
 unfold cmtN
 exact qLi (by decide) _ (by simp [lineN])
theorem rtrm_l (k : Nat) {u : LN} (hl : Sz u) (h10 : 10 ∉ u) : ∀ (i f : Nat), i < f → i ≤ u.length → qG8 k u f (i : Int) = some (u.take (trmN u i))
 | 0,f,hf,hi=>by
  obtain ⟨f,rfl⟩:∃ f',f=f'+1:=⟨f - 1,by omega⟩
  rw [qNb]
  refine (jS (v:=(false,(0:Int))) (λj=>rfl)).trans ?_
  refine iF rfl ?_
  refine bS (by (try simp (disch:=omega) only [fwI]); exact subTo (s:=u) (x:=(0:Int)) (i:=0) rfl (Nat.zero_le _)) ?_
  rfl
 | i+1,f,hf,hi=>by
  have hl':=hl
  unfold Sz at hl
  obtain ⟨f,rfl⟩:∃ f',f=f'+1:=⟨f - 1,by omega⟩
  rw [qNb]
  obtain ⟨c,r,hc,hr,hm,hrl⟩:=dcons (s:=u) (i:=i) (by omega)
  have nc:=nthX (x:=(i:Int)) rfl hc
  have c10:c ≠ 10:=λh=>h10 (h ▸ hm)
  have ih:=rtrm_l k hl' h10 i f (by omega) (by omega)
  rw [fw_p (by omega)]
  refine (jS (v:=(blkN c,((i+1:Nat):Int))) (λj=>?_)).trans ?_
  ·refine iT (dT (by omega)) ?_
   refine bS (by (try simp (disch:=omega) only [fwI]); exact nc) ?_
   unfold blkN
   rw [decide_eq_false c10]
   by_cases h1:c=32
   ·refine iT (dT (by omega)) ?_
    rw [decide_eq_true h1]; rfl
   refine iF (dF (by omega)) ?_
   refine bS (by (try simp (disch:=omega) only [fwI]); exact nc) ?_
   rw [decide_eq_false h1]
   by_cases h2:c=9
   ·refine iT (dT (by omega)) ?_
    rw [decide_eq_true h2]; rfl
   refine iF (dF (by omega)) ?_
   refine bS (by (try simp (disch:=omega) only [fwI]); exact nc) ?_
   rw [decide_eq_false h2]
   have:decide ((c:Int)=13)=decide (c=13):=by rw [Bool.eq_iff_iff]; simp; omega
   rw [this]; rfl
  ·simp only [trmN,hc]
   cases blkN c with
   | true =>
    refine iT rfl ?_
    show qG8 k u f (fW .i64 (((i+1:Nat):Int) - 1))=_
    rw [fw_p (by omega)]
    exact ih
   | false =>
    refine iF rfl ?_
    refine bS (by (try simp (disch:=omega) only [fwI]); exact subTo (s:=u) (x:=((i+1:Nat):Int)) (i:=i+1) rfl hi) ?_
    rfl
theorem rtrm_at {k:Nat} {u:LN} (hk:u.length < k) (hl:Sz u) (h10:10 ∉ u):g37 k u=some (u.take (trmN u u.length)):=rtrm_l k hl h10 u.length k hk (Nat.le_refl _)
theorem qPi {k : Nat} {s : LN} (hk : s.length < k) (hs : By s) (hl : Sz s) {a : Nat} {t : LN} (ha : s.drop a = 37 :: t) : ∀ (f i : Nat), s.length < i + f → i ≤ s.length → i + lineN (s.drop i) = a + lineN (s.drop a) → a ≤ i → qDo k s (a : Int) f (i : Int) = some (mkTok s (11, a, cmtN (s.drop a)), 0)
 | 0,i,h,h2,h3,h4=>by omega
 | f+1,i,h,h2,h3,h4=>by
  have hl':=hl
  unfold Sz at hl
  rw [qRw]
  have fin:i=a+lineN (s.drop a)→(subL s (some (a:Int)) (some (i:Int))).bind (λx16_3=>(g37 k x16_3).bind λx16_4=>some ((⟨(11:Int),x16_4,(a:Int)⟩:S33),(0:Int)))=some (mkTok s (11,a,cmtN (s.drop a)),0):=by
   intro hi
   have ll:=qIe (s.drop a)
   rw [List.length_drop] at ll
   refine bS (by (try simp (disch:=omega) only [fwI]); exact subMid (s:=s) (i:=a) (j:=i) rfl rfl h4 h2) ?_
   rw [List.drop_take,show i - a=lineN (s.drop a) by omega]
   have ul:((s.drop a).take (lineN (s.drop a))).length=lineN (s.drop a):=by rw [List.length_take,List.length_drop]; omega
   refine bS (by (try simp (disch:=omega) only [fwI]); exact rtrm_at (k:=k) (u:=(s.drop a).take (lineN (s.drop a))) (by rw [ul]; omega) (by unfold Sz; rw [ul]; omega) (qH2 _)) ?_
   rw [ul,qIq _ _ _ (Nat.le_refl _),List.take_take,Nat.min_eq_left (qK4 _ _)]
   rfl
  rcases Nat.lt_or_ge i s.length with hi | hi
  ·obtain ⟨c,r,hc,hr,hm,hrl⟩:=dcons hi
   have nc:=nthX (x:=(i:Int)) rfl hc
   have h3':=h3
   rw [hc] at h3
   simp only [lineN] at h3
   refine (jS (v:=(!decide (c=10),(i:Int))) (λj=>?_)).trans ?_
   ·refine iT (dT (by omega)) ?_
    refine bS (by (try simp (disch:=omega) only [fwI]); exact nc) ?_
    congr 2
    rw [Bool.eq_iff_iff]; simp; omega
   ·by_cases h10:c=10
    ·rw [decide_eq_true h10]
     rw [if_pos h10] at h3
     refine iF rfl ?_
     exact fin (by omega)
    ·rw [decide_eq_false h10]
     rw [if_neg h10] at h3
     refine iT rfl ?_
     have e:∀ _:Unit,fW .i64 ((i:Int)+1)=((i+1:Nat):Int):=λ_=>fw_s (by omega)
     have ih:=qPi hk hs hl' ha f (i+1) (by omega) (by omega) (by rw [hr]; omega) (by omega)
     show qDo k s (a:Int) f (fW .i64 ((i:Int)+1))=_
     rw [e ()]
     exact ih
  ·refine (jS (v:=(false,(i:Int))) (λj=>?_)).trans ?_
   ·refine iF (dF (by omega)) rfl
   ·refine iF rfl ?_
    rw [dnil hi] at h3
    exact fin (by simpa [lineN] using h3)
theorem rOne_at {k:Nat} {s:LN} (hk:s.length+40 < k) (hs:By s) (hl:Sz s) {a:Nat} (ha:a < s.length):g26 k s (a:Int)=some (oneAt s a):=by
 have hl':=hl
 unfold Sz at hl
 unfold g26 oneAt
 refine (jS (v:=false) (λj=>by simp (disch:=omega) only [↓reduceIte,↓jn,gsL])).trans ?_
 refine iF rfl ?_
 obtain ⟨c,r,hc,hr,hm,hrl⟩:=dcons ha
 have c256:=hs c hm
 have nc:=nthX (x:=(a:Int)) rfl hc
 have ol:=qI7 (s.drop a)
 rw [List.length_drop] at ol
 refine bS (by (try simp (disch:=omega) only [fwI]); exact nc) ?_
 by_cases h37:c=37
 ·subst h37
  refine iT rfl ?_
  have e:oneN (s.drop a)=(cmtN (s.drop a),11):=by rw [hc]; rfl
  rw [e,if_neg (by rw [hc]; have:=cmtN_pos r; show ¬ cmtN (37::r)=0; omega)]
  exact qPi (by omega) hs hl' hc k a (by omega) (by omega) rfl (Nat.le_refl _)
 refine iF (dF (by omega)) ?_
 have out:∀ (n kind:Nat),n≤s.length - a→(if decide ((n:Int)=0) then some (tok0,(4:Int)) else (subL s (some (a:Int)) (some (fW .i64 ((a:Int)+(n:Int))))).bind λx14_6=>some ((⟨(kind:Int),x14_6,(a:Int)⟩:S33),(0:Int)))=some (if n=0 then (tok0,4) else (mkTok s (kind,a,n),0)):=by
  intro n kind hn
  by_cases h0:n=0
  ·rw [if_pos h0]
   refine iT (dT (by omega)) rfl
  ·rw [if_neg h0]
   refine iF (dF (by omega)) ?_
   rw [fw_a (by omega) (by omega)]
   refine bS (by (try simp (disch:=omega) only [fwI]); exact subMid (s:=s) (i:=a) (j:=a+n) rfl rfl (by omega) (by omega)) ?_
   rw [List.drop_take,Nat.add_sub_cancel_left]; rfl
 have isD:∀ _:Unit,(∀ (j:Bool→Option (S33×Int)),(if (decide ((c:Int)=46)) then (if (decide (fW .i64 ((a:Int)+1)=(s.length:Int))) then (j true) else ((nthS s (fW .i64 ((a:Int)+1))).bind λx1_12=>if (decide (x1_12=37)) then (j true) else ((g25 k s (fW .i64 ((a:Int)+1))).bind λx1_19=>j (decide (fW .i64 ((a:Int)+1) < x1_19))))) else (j false))=j (decide (c=46) && dotN r)):=by
  intro _ j
  by_cases h46:c=46
  ·rw [decide_eq_true h46,Bool.true_and]
   refine iT (dT (by omega)) ?_
   rw [fw_s (by omega)]
   cases r with
   | nil =>
    simp only [List.length_nil] at hrl
    refine iT (dT (by omega)) rfl
   | cons d q =>
    simp only [List.length_cons] at hrl
    have nd:=nthX (x:=((a+1:Nat):Int)) rfl hr
    refine iF (dF (by omega)) ?_
    refine bS (by (try simp (disch:=omega) only [fwI]); exact nd) ?_
    simp only [dotN]
    by_cases h37:d=37
    ·refine iT (dT (by omega)) ?_
     rw [decide_eq_true h37,Bool.or_true]
    ·refine iF (dF (by omega)) ?_
     have rb:=qFb (k:=k) (by omega) hs hl' (a:=a+1) (by omega)
     rw [hr] at rb
     refine bS (by (try simp (disch:=omega) only [fwI]); exact rb) ?_
     rw [decide_eq_false h37,Bool.or_false]
     refine congrArg j ?_
     by_cases hb:blkN d=true
     ·have e:skipN (d::q)=skipN q+1:=by simp only [skipN,hb,if_true]
      rw [hb]; exact decide_eq_true (by omega)
     ·have e:skipN (d::q)=0:=by simp only [skipN,if_neg hb]
      rw [Bool.eq_false_iff.2 hb]; exact decide_eq_false (by omega)
  ·rw [decide_eq_false h46,Bool.false_and]
   refine iF (dF (by omega)) rfl
 have eo : oneN (s.drop a) = if c = 46 ∧ dotN r = true then (1, 10) else if c = 39 then (qtdN (s.drop a), 1) else if c = 34 then (qtdN (s.drop a), 6) else if c = 36 then (chrN (s.drop a), 5) else if c = 63 then (macN (s.drop a), 7)
  else if begN c=3 then numN (s.drop a) else if begN c=1∨begN c=2 then (innN (s.drop a),if rsvN ((s.drop a).take (innN (s.drop a))) then 8 else begN c) else (lngN (s.drop a),9):=by
  rw [hc]; simp only [oneN]; rw [if_neg h37]
 refine (jS (v:=decide (c=46) && dotN r) (λj=>isD () j)).trans ?_
 clear isD
 have il:=qEk (s.drop a)
 rw [List.length_drop] at il
 by_cases h46:c=46∧dotN r=true
 ·rw [if_pos h46] at eo
  rw [eo] at ol ⊢
  obtain ⟨h1,h2⟩:=h46
  rw [decide_eq_true h1,h2]
  refine (jS (v:=(((10:Nat):Int),((1:Nat):Int))) (λj=>iT (Bool.and_self true) (congrArg j (Prod.ext rfl rfl)))).trans ?_
  exact out 1 10 ol
 ·rw [if_neg h46] at eo
  have:(decide (c=46) && dotN r)=false:=by
   rw [Bool.and_eq_false_iff]
   by_cases h:c=46
   ·right
    cases hd:dotN r with
    | true=>exact absurd ⟨h,hd⟩ h46
    | false=>rfl
   ·left; exact decide_eq_false h
  rw [this]
  have bg:=qLf k c256
  have nodig:(c=39∨c=34∨c=36∨c=63)→begN c=0:=by rintro (rfl | rfl | rfl | rfl) <;> decide
  by_cases h39:c=39
  ·rw [if_pos h39] at eo
   rw [eo] at ol ⊢
   subst h39
   refine (jS (v:=(((1:Nat):Int),(qtdN (s.drop a):Int))) (λj=>?_)).trans ?_
   ·refine iF rfl ?_
    refine bS (by (try simp (disch:=omega) only [fwI]); exact bg) ?_
    refine iF rfl ?_
    refine bS (by (try simp (disch:=omega) only [fwI]); exact bg) ?_
    refine iF rfl ?_
    refine iT rfl ?_
    refine bS (by (try simp (disch:=omega) only [fwI]); exact qGr (by omega) hs hl' hc (.inl rfl)) ?_
    rfl
   ·exact out _ 1 ol
  rw [if_neg h39] at eo
  by_cases h34:c=34
  ·rw [if_pos h34] at eo
   rw [eo] at ol ⊢
   subst h34
   refine (jS (v:=(((6:Nat):Int),(qtdN (s.drop a):Int))) (λj=>?_)).trans ?_
   ·refine iF rfl ?_
    refine bS (by (try simp (disch:=omega) only [fwI]); exact bg) ?_
    refine iF rfl ?_
    refine bS (by (try simp (disch:=omega) only [fwI]); exact bg) ?_
    refine iF rfl ?_
    refine iF rfl ?_
    refine iT rfl ?_
    refine bS (by (try simp (disch:=omega) only [fwI]); exact qGr (by omega) hs hl' hc (.inr rfl)) ?_
    rfl
   ·exact out _ 6 ol
  rw [if_neg h34] at eo
  by_cases h36:c=36
  ·rw [if_pos h36] at eo
   rw [eo] at ol ⊢
   subst h36
   refine (jS (v:=(((5:Nat):Int),(chrN (s.drop a):Int))) (λj=>?_)).trans ?_
   ·refine iF rfl ?_
    refine bS (by (try simp (disch:=omega) only [fwI]); exact bg) ?_
    refine iF rfl ?_
    refine bS (by (try simp (disch:=omega) only [fwI]); exact bg) ?_
    refine iF rfl ?_
    refine iF rfl ?_
    refine iF rfl ?_
    refine iT rfl ?_
    refine bS (by (try simp (disch:=omega) only [fwI]); exact rchar_at (by omega) hs hl' hc) ?_
    rfl
   ·exact out _ 5 ol
  rw [if_neg h36] at eo
  by_cases h63:c=63
  ·rw [if_pos h63] at eo
   rw [eo] at ol ⊢
   subst h63
   have mac : ∀ (n : Nat) (t : LN) (j : Int × Int → Option (S33 × Int)), a + n ≤ s.length → s.drop (a + n) = t →
    jn (λ(z23:Bool)=>if z23 then ((g40 k s ((a+n:Nat):Int)).bind λx13_2=>j (7,fW .i64 (x13_2 - (a:Int)))) else (j (0,0))) (λj23=>if (decide (((a+n:Nat):Int) < (s.length:Int))) then ((nthS s ((a+n:Nat):Int)).bind λx12_7=>(g44 k x12_7).bind λx12_8=>if x12_8 then (j23 true) else ((nthS s ((a+n:Nat):Int)).bind λx12_12=>j23 (decide (x12_12=95)))) else (j23 false))=j (if macB t then (7,(mac1 n t:Int)) else (0,0)):=by
    intro n t j hn ht
    rcases Nat.lt_or_ge (a+n) s.length with h | h
    ·obtain ⟨d,q,hd,hq,hdm,hql⟩:=dcons h
     rw [ht] at hd
     subst hd
     have nd:=nthX (x:=((a+n:Nat):Int)) rfl ht
     have lt:=qQk k (hs d hdm)
     have lb:(letN d || decide (d=95))=decide (begN d=1∨begN d=2):=by
      have w:=byteAll (f:=λd=>(letN d || decide (d=95)) == decide (begN d=1∨begN d=2)) (by decide +kernel) (hs d hdm)
      exact eq_of_beq w
     refine (jS (v:=decide (begN d=1∨begN d=2)) (λj23=>?_)).trans ?_
     ·refine iT (dT (by omega)) ?_
      refine bS (by (try simp (disch:=omega) only [fwI]); exact nd) ?_
      refine bS (by (try simp (disch:=omega) only [fwI]); exact lt) ?_
      rw [← lb]
      cases letN d with
      | true=>rfl
      | false =>
       refine iF rfl ?_
       refine bS (by (try simp (disch:=omega) only [fwI]); exact nd) ?_
       rw [Bool.false_or]
       refine congrArg j23 ?_
       rw [Bool.eq_iff_iff]; simp; omega
     ·by_cases hb:begN d=1∨begN d=2
      ·have mb:macB (d::q)=true:=decide_eq_true hb
       rw [decide_eq_true hb,mb]
       refine iT rfl ?_
       have ri:=qIx (k:=k) (by omega) hs hl' (a:=a+n) hn
       rw [ht] at ri
       refine bS (by (try simp (disch:=omega) only [fwI]); exact ri) ?_
       have il:=qEk (d::q)
       simp only [List.length_cons] at il
       rw [fwI (by omega) (by omega)]
       simp only [mac1,if_pos hb,if_true]
       refine congrArg j (Prod.ext rfl ?_)
       show ((_:Nat):Int) - (a:Int)=((_:Nat):Int)
       omega
      ·have mb:macB (d::q)=false:=decide_eq_false hb
       rw [decide_eq_false hb,mb]
       rfl
    ·rw [dnil h] at ht
     subst ht
     refine (jS (v:=false) (λj23=>?_)).trans ?_
     ·refine iF (dF (by omega)) rfl
     ·rfl
   have fin : ∀ (n : Nat) (t : LN) (X : (Int × Int → Option (S33 × Int)) → Option (S33 × Int)), macN (s.drop a) = mac1 n t → (∀ j, X j = j (if macB t then (7, (mac1 n t : Int)) else (0, 0))) →
    jn (λ(z20:Int×Int)=>if (decide (z20.2=0)) then (some ((⟨(0:Int),([]:LN),(0:Int)⟩:S33),(4:Int))) else ((subL s (some (a:Int)) (some (fW .i64 ((a:Int)+z20.2)))).bind λx14_6=>some ((⟨z20.1,x14_6,(a:Int)⟩:S33),(0:Int)))) X=some (if (macN (s.drop a),7).1=0 then (tok0,4) else (mkTok s ((macN (s.drop a),7).2,a,(macN (s.drop a),7).1),0)):=by
    intro n t X hm hX
    rw [hm] at ol ⊢
    cases h:macB t with
    | false =>
     rw [h] at hX
     have m0:mac1 n t=0:=by
      cases t with
      | nil=>rfl
      | cons d q=>simp only [mac1,if_neg (of_decide_eq_false h)]
     refine (jS hX).trans ?_
     rw [m0]; rfl
    | true =>
     rw [h] at hX
     refine (jS hX).trans ?_
     exact out _ 7 ol
   cases r with
   | nil =>
    simp only [List.length_nil] at hrl
    refine fin 1 [] _ (by rw [hc]; rfl) (λj=>?_)
    refine iF rfl ?_
    refine bS (by (try simp (disch:=omega) only [fwI]); exact bg) ?_
    refine iF rfl ?_
    refine bS (by (try simp (disch:=omega) only [fwI]); exact bg) ?_
    refine iF rfl ?_
    refine iF rfl ?_
    refine iF rfl ?_
    refine iF rfl ?_
    refine iT rfl ?_
    refine (jS (v:=false) (λj=>?_)).trans ?_
    ·refine iF (dF (by rw [fw_s (by omega)]; omega)) rfl
    ·refine (jS (v:=((a+1:Nat):Int)) (λj=>?_)).trans ?_
     ·refine iF rfl ?_
      rw [fw_s (by omega)]
     ·exact mac 1 [] j (by omega) hr
   | cons d q =>
    simp only [List.length_cons] at hrl
    have nd:=nthX (x:=((a+1:Nat):Int)) rfl hr
    by_cases hd:d=63
    ·refine fin 2 q _ (by rw [hc]; simp only [macN,hd,if_true]) (λj=>?_)
     refine iF rfl ?_
     refine bS (by (try simp (disch:=omega) only [fwI]); exact bg) ?_
     refine iF rfl ?_
     refine bS (by (try simp (disch:=omega) only [fwI]); exact bg) ?_
     refine iF rfl ?_
     refine iF rfl ?_
     refine iF rfl ?_
     refine iF rfl ?_
     refine iT rfl ?_
     refine (jS (v:=true) (λj=>?_)).trans ?_
     ·rw [fw_s (by omega)]
      refine iT (dT (by omega)) ?_
      refine bS (by (try simp (disch:=omega) only [fwI]); exact nd) ?_
      rw [dT (by omega)]
     ·refine (jS (v:=((a+2:Nat):Int)) (λj=>?_)).trans ?_
      ·refine iT rfl ?_
       rw [fw_s (by omega),fw_s (by omega)]
      ·exact mac 2 q j (by omega) (qBr hr)
    ·refine fin 1 (d::q) _ (by rw [hc]; simp only [macN,hd,if_false]) (λj=>?_)
     refine iF rfl ?_
     refine bS (by (try simp (disch:=omega) only [fwI]); exact bg) ?_
     refine iF rfl ?_
     refine bS (by (try simp (disch:=omega) only [fwI]); exact bg) ?_
     refine iF rfl ?_
     refine iF rfl ?_
     refine iF rfl ?_
     refine iF rfl ?_
     refine iT rfl ?_
     refine (jS (v:=false) (λj=>?_)).trans ?_
     ·rw [fw_s (by omega)]
      refine iT (dT (by omega)) ?_
      refine bS (by (try simp (disch:=omega) only [fwI]); exact nd) ?_
      rw [dF (by omega)]
     ·refine (jS (v:=((a+1:Nat):Int)) (λj=>?_)).trans ?_
      ·refine iF rfl ?_
       rw [fw_s (by omega)]
      ·exact mac 1 (d::q) j (by omega) hr
  rw [if_neg h63] at eo
  by_cases h3:begN c=3
  ·rw [if_pos h3] at eo
   rw [eo] at ol ⊢
   refine jC λj=>?_
   refine iF rfl ?_
   refine bS (by (try simp (disch:=omega) only [fwI]); exact bg) ?_
   refine iT (dT (by omega)) ?_
   refine bS (by (try simp (disch:=omega) only [fwI]); exact qO4 (by omega) hs hl' (a:=a) (by omega)) ?_
   by_cases h0:(numN (s.drop a)).1=0
   ·rw [if_pos h0]
   ·rw [if_neg h0]
  rw [if_neg h3] at eo
  by_cases h12:begN c=1∨begN c=2
  ·rw [if_pos h12] at eo
   rw [eo] at ol ⊢
   refine (jS (v:=(((if rsvN ((s.drop a).take (innN (s.drop a))) then 8 else begN c:Nat):Int),(innN (s.drop a):Int))) (λj=>?_)).trans ?_
   ·refine iF rfl ?_
    refine bS (by (try simp (disch:=omega) only [fwI]); exact bg) ?_
    refine iF (dF (by omega)) ?_
    refine bS (by (try simp (disch:=omega) only [fwI]); exact bg) ?_
    refine iT (dT (by omega)) ?_
    refine bS (by (try simp (disch:=omega) only [fwI]); exact bg) ?_
    refine bS (by (try simp (disch:=omega) only [fwI]); exact qIx (k:=k) (by omega) hs hl' (a:=a) (by omega)) ?_
    rw [fw_d (n:=a+innN (s.drop a)) (m:=a) (by omega) (by omega),Nat.add_sub_cancel_left,fw_a (by omega) (by omega)]
    refine bS (by (try simp (disch:=omega) only [fwI]); exact subMid (s:=s) (i:=a) (j:=a+innN (s.drop a)) rfl rfl (by omega) (by omega)) ?_
    rw [List.drop_take,Nat.add_sub_cancel_left]
    refine bS (by (try simp (disch:=omega) only [fwI]); exact qIw (by omega) _) ?_
    cases rsvN ((s.drop a).take (innN (s.drop a))) <;> rfl
   ·exact out _ _ il
  ·rw [if_neg h12] at eo
   rw [eo] at ol ⊢
   refine (jS (v:=(((9:Nat):Int),(lngN (s.drop a):Int))) (λj=>?_)).trans ?_
   ·refine iF rfl ?_
    refine bS (by (try simp (disch:=omega) only [fwI]); exact bg) ?_
    refine iF (dF (by omega)) ?_
    refine bS (by (try simp (disch:=omega) only [fwI]); exact bg) ?_
    refine iF (dF (by have:=begN_le c; omega)) ?_
    refine iF (dF (by omega)) ?_
    refine iF (dF (by omega)) ?_
    refine iF (dF (by omega)) ?_
    refine iF (dF (by omega)) ?_
    refine bS (by (try simp (disch:=omega) only [fwI]); exact qK7 (k:=k) (by omega) hl' (a:=a) (by omega)) ?_
    rfl
   ·exact out _ 9 ol
theorem qPf (k : Nat) {s : LN} (hk : s.length + 40 < k) (hs : By s) (hl : Sz s) (h16 : s.length ≤ 65536) : ∀ (d f a : Nat) (acc : List S33), s.length < a + d → d < f → a ≤ s.length → acc.length ≤ a → qHl k s f ((a + skipN (s.drop a) : Nat) : Int) acc = some (match toksN s d a with | some l => (acc ++ l.map (mkTok s), 0) | none => ([], 4))
 | 0,f,a,acc,h,hf,ha,hacc=>by omega
 | d+1,f,a,acc,h,hf,ha,hacc=>by
  have hl':=hl
  unfold Sz at hl
  obtain ⟨f,rfl⟩:∃ f',f=f'+1:=⟨f - 1,by omega⟩
  rw [g13_l5_s]
  have sl:=qLk (s.drop a)
  rw [List.length_drop] at sl
  unfold toksN
  have hab:a≤a+skipN (s.drop a):=Nat.le_add_right _ _
  have hbl:a+skipN (s.drop a)≤s.length:=by omega
  generalize a+skipN (s.drop a)=b at *
  by_cases hb:s.length≤b
  ·rw [if_pos hb]
   refine iF (dF (by omega)) ?_
   simp only [List.map_nil,List.append_nil]
  ·rw [if_neg hb]
   refine iT (dT (by omega)) ?_
   refine bS (by (try simp (disch:=omega) only [fwI]); exact rOne_at hk hs hl' (a:=b) (by omega)) ?_
   have ol:=qI7 (s.drop b)
   rw [List.length_drop] at ol
   unfold oneAt
   by_cases h0:(oneN (s.drop b)).1=0
   ·rw [if_pos h0,if_pos h0]; rfl
   ·rw [if_neg h0,if_neg h0]
    refine iF rfl ?_
    have ap:appS 32 acc [mkTok s ((oneN (s.drop b)).2,b,(oneN (s.drop b)).1)]=some (acc++[mkTok s ((oneN (s.drop b)).2,b,(oneN (s.drop b)).1)]):=by
     unfold appS
     rw [if_pos (by simp only [List.length_cons,List.length_nil]; omega)]
    refine bS (by (try simp (disch:=omega) only [fwI]); exact ap) ?_
    have tl:((s.drop b).take (oneN (s.drop b)).1).length=(oneN (s.drop b)).1:=by
     rw [List.length_take,List.length_drop]; omega
    show (g25 k s (fW .i64 ((b:Int)+(((s.drop b).take (oneN (s.drop b)).1).length:Int)))).bind _=_
    rw [tl,fw_a (by omega) (by omega)]
    have hpos:0 < (oneN (s.drop b)).1:=Nat.pos_of_ne_zero h0
    refine bS (by (try simp (disch:=omega) only [fwI]); exact qFb (by omega) hs hl' (a:=b+(oneN (s.drop b)).1) (by omega)) ?_
    refine (qPf k hk hs hl' h16 d f (b+(oneN (s.drop b)).1) _ (by omega) (by omega) (by omega) (by rw [List.length_append]; simp only [List.length_cons,List.length_nil]; omega)).trans ?_
    cases toksN s d (b+(oneN (s.drop b)).1) with
    | none=>rfl
    | some l=>simp only [Option.map_some,List.map_cons,List.append_assoc,List.singleton_append]
theorem rscan_at {k:Nat} {s:LN} (hk:s.length+40 < k) (hs:By s) (hl:Sz s):g13 k s=some (scanN s):=by
 have hl':=hl
 unfold Sz at hl
 unfold g13 scanN
 by_cases h16:65536 < s.length
 ·rw [if_pos h16]
  refine iT (dT (by omega)) rfl
 ·rw [if_neg h16]
  refine iF (dF (by omega)) ?_
  refine bS (by (try simp (disch:=omega) only [fwI]); exact qO1 (by omega) hs hl') ?_
  cases hv:vld s.length s with
  | false=>rfl
  | true =>
   refine iF rfl ?_
   have rb:=qFb (k:=k) (by omega) hs hl' (a:=0) (by omega)
   refine bS (by (try simp (disch:=omega) only [fwI]); exact rb) ?_
   refine (qPf k hk hs hl' (by omega) (s.length+1) k 0 [] (by omega) (by omega) (by omega) (Nat.le_refl _)).trans ?_
   simp only [Bool.true_eq_false,if_false]
   cases toksN s (s.length+1) 0 <;> rfl
def nlF (s : LN) (e : Nat) : Nat → Nat → Nat
 | 0,_=>0
 | d+1,i=>if e≤i then 0 else (match s.drop i with | c::_=>if c=10 then 1 else 0 | []=>0)+nlF s e d (i+1)
def gapN (s:LN) (l:List (Nat×Nat×Nat)) (k:Nat):Nat:=match l.drop (k - 1) with | x::y::_=>nlF s y.2.1 (y.2.1 - (x.2.1+x.2.2)) (x.2.1+x.2.2) | _=>0
def gapI (s:LN) (l:List (Nat×Nat×Nat)) (k:Int):Nat:=if 1≤k∧k < l.length then gapN s l k.toNat else 0
theorem qIs {s : LN} : ∀ {l : List (Nat × Nat × Nat)} {a i : Nat} {x y : Nat × Nat × Nat} {r : List (Nat × Nat × Nat)}, Toks s a l → l.drop i = x :: y :: r → x.2.1 + x.2.2 ≤ y.2.1
 | [],a,i,x,y,r,h,hd=>by simp at hd
 | z::l,a,0,x,y,r,h,hd=>by
  rw [List.drop_zero] at hd
  obtain ⟨rfl,rfl⟩:=List.cons.inj hd
  simp only [Toks] at h
  omega
 | z::l,a,i+1,x,y,r,h,hd=>by
  rw [List.drop_succ_cons] at hd
  simp only [Toks] at h
  exact qIs h.2.2.2.2 hd
theorem qC7 {α β:Type} {f:α→β} {l:List α} {i:Nat} {x:α} {r:List α} (h:l.drop i=x::r):nthL (l.map f) (i:Int)=some (f x):=by
 refine qIb (r:=r.map f) ?_
 rw [← List.map_drop,h]; rfl
theorem pair_at {l:List (Nat×Nat×Nat)} {k:Nat} (g:1≤k) (a:k < l.length):∃ x y r,l.drop (k - 1)=x::y::r∧l.drop k=y::r∧x ∈ l∧y ∈ l:=by
 obtain ⟨x,r,b,hr,hxm,-⟩:=dconsL (s:=l) (i:=k - 1) (by omega)
 obtain ⟨y,c,hy,-,hym,-⟩:=dconsL (s:=l) (i:=k) a
 rw [show k - 1+1=k by omega,hy] at hr
 exact ⟨x,y,c,by rw [b,← hr],hy,hxm,hym⟩
theorem tok_end {s:LN} {x:Nat×Nat×Nat} (h:x.2.1+x.2.2≤s.length):(mkTok s x).f2+((mkTok s x).f1.length:Int)=((x.2.1+x.2.2:Nat):Int):=by
 have:((s.drop x.2.1).take x.2.2).length=x.2.2:=by rw [List.length_take,List.length_drop]; omega
 show (x.2.1:Int)+(((s.drop x.2.1).take x.2.2).length:Int)=_
 rw [this]; push_cast; rfl
theorem ends_l (k : Nat) {s : LN} (hl : s.length ≤ 2000) {L : List S33} {kk : Int} {y : Nat × Nat × Nat} (hk : nthL L kk = some (mkTok s y)) (hy : y.2.1 ≤ s.length) : ∀ (d f i c : Nat), i + d = y.2.1 → d < f → c ≤ i →
 qHd k s L kk f (i:Int) (c:Int)=some ((c+nlF s y.2.1 d i:Nat):Int)
 | 0,f,i,c,h,hf,hc=>by
  obtain ⟨f,rfl⟩:∃ g,f=g+1:=⟨f - 1,by omega⟩
  rw [qN5]
  refine bS (by (try simp (disch:=omega) only [fwI]); exact hk) ?_
  refine iF (dF (show ¬ (i:Int) < (y.2.1:Int) by omega)) ?_
  rfl
 | d+1,f,i,c,h,hf,hc=>by
  obtain ⟨f,rfl⟩:∃ g,f=g+1:=⟨f - 1,by omega⟩
  rw [qN5]
  refine bS (by (try simp (disch:=omega) only [fwI]); exact hk) ?_
  obtain ⟨b,r,j,-,-,-⟩:=dcons (s:=s) (i:=i) (by omega)
  have nb:=nthX (x:=(i:Int)) rfl j
  refine iT (dT (show (i:Int) < (y.2.1:Int) by omega)) ?_
  refine bS (by (try simp (disch:=omega) only [fwI]); exact nb) ?_
  have gc:i2 k (b:Int) (c:Int)=some ((c+(if b=10 then 1 else 0):Nat):Int):=by
   unfold i2
   by_cases a:b=10
   ·rw [if_pos a]
    refine iT (dT (by omega)) ?_
    rw [fw_s (by omega)]
   ·rw [if_neg a]
    exact iF (dF (by omega)) rfl
  refine bS (by (try simp (disch:=omega) only [fwI]); exact gc) ?_
  simp only [nlF]
  rw [if_neg (show ¬ y.2.1≤i by omega),j,fw_s (n:=i) (by omega)]
  simp only []
  clear gc
  have hle:(if b=10 then 1 else 0)≤1:=by split <;> omega
  generalize (if b=10 then 1 else 0)=z at *
  have ih:=ends_l k hl hk hy d f (i+1) (c+z) (by omega) (by omega) (by omega)
  exact ih.trans (sn (by omega))
theorem in_at {k:Nat} {s:LN} (hl:s.length≤2000) {x:Nat×Nat×Nat} (h:x.2.1+x.2.2≤s.length):g89 k s (⟨(mkTok s x).f0,(mkTok s x).f1,(mkTok s x).f2⟩:S33)=some true:=by
 have tl:((s.drop x.2.1).take x.2.2).length=x.2.2:=by rw [List.length_take,List.length_drop]; omega
 unfold g89
 refine iT (dT (show (0:Int)≤(x.2.1:Int) by omega)) ?_
 refine iT (dT (show (x.2.1:Int)≤(s.length:Int) by omega)) ?_
 show some (decide ((((s.drop x.2.1).take x.2.2).length:Int)≤fW .i64 ((s.length:Int) - (x.2.1:Int))))=_
 rw [tl,fw_d (by omega) (by omega),dT (by omega)]
theorem qRd {k:Nat} {s:LN} (hl:s.length≤2000) {x:Nat×Nat×Nat} (h:x.2.1+x.2.2≤s.length):g90 k (⟨(mkTok s x).f0,(mkTok s x).f1,(mkTok s x).f2⟩:S33)=some ((x.2.1+x.2.2:Nat):Int):=by
 unfold g90
 show some (fW .i64 ((mkTok s x).f2+((mkTok s x).f1.length:Int)))=_
 rw [tok_end h,fwI (by omega) (by omega)]
theorem qSc {k:Nat} {s:LN} (hk:s.length+10≤k) (hl:s.length≤2000) {l:List (Nat×Nat×Nat)} (ht:Toks s 0 l) (kk:Int):g72 k s (l.map (mkTok s)) kk=some ((gapI s l kk:Nat):Int):=by
 unfold g72 gapI
 have ll:((l.map (mkTok s)).length:Int)=(l.length:Int):=by simp
 by_cases h:1≤kk∧kk < l.length
 ·rw [if_pos h]
  obtain ⟨n,rfl⟩:∃ n:Nat,kk=(n:Int):=⟨kk.toNat,by omega⟩
  obtain ⟨x,y,r,a,b,g,o⟩:=pair_at (l:=l) (k:=n) (by omega) (by omega)
  have bx:=qC9 ht (Nat.zero_le _) x g
  have bY:=qC9 ht (Nat.zero_le _) y o
  have cl:l.length≤s.length:=qHu s (s.length+1) 0 l ((qF1 s (s.length+1) 0 l (by omega)).2 ht) (Nat.zero_le _)
  have pr:=qIs ht a
  have c:=λ_:Unit=>(show fW .i64 ((n:Int) - 1)=((n - 1:Nat):Int) from by rw [fwI (by omega) (by omega)]; omega)
  refine (jS (v:=false) (λj=>?_)).trans ?_
  ·refine iF (dF (by omega)) ?_
   refine iF (dF (by omega)) ?_
   rw [c ()]
   refine bS (by (try simp (disch:=omega) only [fwI]); exact qC7 a) ?_
   refine bS (by (try simp (disch:=omega) only [fwI]); exact in_at hl bx.2.1) ?_
   refine iF rfl ?_
   refine bS (by (try simp (disch:=omega) only [fwI]); exact qC7 b) ?_
   refine bS (by (try simp (disch:=omega) only [fwI]); exact in_at hl bY.2.1) ?_
   refine iF rfl ?_
   refine bS (by (try simp (disch:=omega) only [fwI]); exact qC7 a) ?_
   refine bS (by (try simp (disch:=omega) only [fwI]); exact qRd hl bx.2.1) ?_
   refine bS (by (try simp (disch:=omega) only [fwI]); exact qC7 b) ?_
   rw [show (mkTok s y).f2=(y.2.1:Int) from rfl,dF (show ¬ (y.2.1:Int) < ((x.2.1+x.2.2:Nat):Int) by omega)]
  ·refine iF rfl ?_
   rw [c ()]
   refine bS (by (try simp (disch:=omega) only [fwI]); exact qC7 a) ?_
   refine bS (by (try simp (disch:=omega) only [fwI]); exact qRd hl bx.2.1) ?_
   refine (ends_l k hl (qC7 b) (by omega) (y.2.1 - (x.2.1+x.2.2)) k (x.2.1+x.2.2) 0 (by omega) (by omega) (by omega)).trans ?_
   rw [Int.toNat_natCast]
   unfold gapN
   rw [a,Nat.zero_add]
 ·rw [if_neg h]
  refine (jS (v:=true) (λj=>?_)).trans rfl
  by_cases a:kk < 1
  ·exact iT (dT a) rfl
  ·refine iF (dF a) ?_
   exact iT (dT (by omega)) rfl
end Go.Proofs.Ythpplbkobokghaa.Am
set_option maxRecDepth 100000
set_option linter.unusedVariables false
namespace Go.Proofs.Ythpplbkobokghaa.Am
noncomputable section
open Go
def Xg16:Fx Bool:=⟨Try.prog,cx,Try.f16,λr => .bool r,0,λ_=>H0,cxTi,cxOrd,λ_=>none,false⟩
def g16c0:LN:=[97,32,43,32,98,32,42,32,99]
def g16c1:List S33:=[(⟨(1:Int),([120]:LN),(0:Int)⟩:S33),(⟨(9:Int),([44]:LN),(1:Int)⟩:S33),(⟨(1:Int),([121]:LN),(4:Int)⟩:S33)]
def g16p2:Pt:=nav [0,0,0] (nav [0,0,0] (nav [0] (bodyAt Try.f16)))
def g16p3:Pt:=nav [0,0,0] g16p2
def g16p4:Pt:=nav [0,0,0] g16p3
def g16p5:Pt:=nav [0,0,0] g16p4
def g16p6:Pt:=nav [0,0,0] g16p5
def g16 (k:Nat)  : Option Bool :=
 (g13 k g16c0).bind λb=>(g14 k g16c0 b.1 (0:Int) (b.1.length:Int) (0:Int)).bind λa=>(g14 k g16c0 b.1 (0:Int) (2:Int) (0:Int)).bind λj=>(g23 k ([120,44,10,10,121]:LN) g16c1 (0:Int) (3:Int)).bind λc=>if (decide (b.2=0)) then (if (decide (a.2.2=0)) then (if (decide (a.2.1=5)) then (if (decide (a.1.f0=14)) then (if (eqL a.1.f1 [43]) then (if (decide ((a.1.f2.n:Int)=2)) then ((nthR d29 7 a.1.f2.n a.1.f2.cells 1).bind λg=>if (eqL g.f1 [42]) then (if (decide (j.2.2=8)) then (if (decide (c.2.2=0)) then (if (decide ((c.1.f2.n:Int)=2)) then ((nthR d29 7 c.1.f2.n c.1.f2.cells 1).bind λh=>some h.f4) else (some false)) else (some false)) else (some false)) else (some false)) else (some false)) else (some false)) else (some false)) else (some false)) else (some false)) else (some false)
end
end Go.Proofs.Ythpplbkobokghaa.Am
