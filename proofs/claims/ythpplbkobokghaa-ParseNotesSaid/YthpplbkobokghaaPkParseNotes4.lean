/- LawParseNotes, part 4: whatever the input, the law comes out true: our texts, joined by a tool, without what the claim does not name. -/
import Derived.Test.YthpplbkobokghaaPkParseNotes3
set_option maxRecDepth 100000
set_option linter.unusedVariables false
set_option linter.unusedSimpArgs false
set_option maxRecDepth 100000
set_option linter.unusedVariables false
namespace Go.Proofs.Ythpplbkobokghaa.Am
noncomputable section
open Go
def i49B (k:Nat) (F:Fns0) (a0:LN) (c:List S33) (h:Int) (g:Int):Option (Option (S28×Int)) :=
 bT (i7 k ([119,104,101,110]:LN) a0 c h g) λa=>if a.1 then (bT (F.i50 a0 c a.2 g) λb=>some (some (b.1,b.2))) else (some (some ((⟨(24:Int),([]:LN),⟨0,[]⟩,false,false,([]:LL),([]:LL)⟩:S28),a.2)))
theorem qM9 (k:Nat) (F:Fns0) (u:FnsOk0 F):∀ a0 c j g r,i49B k F a0 c j g=some r→CallT Try.prog 109 [.ptr 0 4 0] (mkH [⟨[.str a0,w34 c,.i j,.i g],4,false⟩]) ((Xi49 a0 c j g).thr r) ((Xi49 a0 c j g).enc r) ((Xi49 a0 c j g).fin r):=by
 intro a0 c j g r h
 refine qA2 (Xi49 a0 c j g) Try.func109 Kr Kr rfl (t:=i49B k F a0 c j g) ?_ h
 unfold i49B
 refine qA (eE:=[(0,.ptr 0 4 0)]) Kr ?_
 let n:Blk:=⟨[.i 0,.str [],.nils,.bool false,.bool false,.nils,.nils],0,false⟩
 refine oH 8 (atN 1 (ctl1 i49p1)) [(3,.ptr 0 4 0),(2,.ptr 1 7 0),(0,.ptr 0 4 0)] (mkH [⟨[.str a0,w34 c,.i j,.i g],4,false⟩,n]) ?_
 refine oX (λ(a:(Bool×Int)) => .bool a.1) (λa=>[⟨[.str a0,w34 c,.i a.2,.i g],4,false⟩,n]) (atN 2 (ctl1 i49p1)) 4 [0] [] [] [] [] [.ptr 0 4 0,.str [119,104,101,110]] (qAj k ([119,104,101,110]:LN) a0 c j g) trivial (λ_=>trivial) trivial λa o=>?_
 refine oR 1 i49p2 [(4,.bool a.1),(3,.ptr 0 4 0),(2,.ptr 1 7 0),(0,.ptr 0 4 0)] ?_
 refine oS 4 (λx=>?_) (λx=>?_)
 ·refine oR 4 (atN 1 (ctl1 i49p3)) [(5,.ptr 0 4 0),(4,.bool true),(4,.bool a.1),(3,.ptr 0 4 0),(2,.ptr 1 7 0),(0,.ptr 0 4 0)] ?_
  refine oX (λ(b:(S28×Int))=>n29 b.1) (λb=>[⟨[.str a0,w34 c,.i b.2,.i g],4,false⟩,n]) (atN 2 (ctl1 i49p3)) 6 [0] [] [] [0] [] [.ptr 0 4 0] (u.i50_ok a0 c a.2 g) trivial (λ_=>trivial) trivial λb q=>?_
  exact oQF 3 [⟨[.str a0,w34 c,.i b.2,.i g],4,false⟩,⟨e29 b.1,7,false⟩] 1 [] [n29 b.1] (n29 b.1) .ps trivial
 ·exact oQF 8 [⟨[.str a0,w34 c,.i a.2,.i g],4,false⟩,⟨[.i 24,.str [],.nils,.bool false,.bool false,.nils,.nils],7,false⟩] 1 [] [.agg [.i 24,.str [],.nils,.bool false,.bool false,.nils,.nils]] (.agg [.i 24,.str [],.vec 0 7 [],.bool false,.bool false,.vec 0 1 [],.vec 0 1 []]) (.agg (.cs (.cs (.nil (.cs (.cs (.nil (.nil .ps))))))) .ps) trivial
theorem i49B_ok (k:Nat) (F:Fns0) (a:FnsOk0 F):Pi49 (i49B k F):=λa0 b c g=>⟨λx h=>qM9 k F a a0 b c g (some x) h,λh=>⟨_,qM9 k F a a0 b c g none h⟩⟩
def i5p1:Pt:=nav [0,0,0,0] (nav [0] (bodyAt Try.f29))
def i5p2:Pt:=nav [0,0] i5p1
def i5p3:Pt:=nav [1,0] i5p2
def i5p4:Pt:=nav [2,0,0] i5p2
def i5p6:Pt:=nav [0,0,0,0,0] i5p4
def i5p8:Pt:=nav [0,0] (nav [0,0,0] i5p6)
def i5p9:Pt:=nav [1,0,0,0] i5p8
def i5p10:Pt:=nav [2,0,0] i5p8
def i5p11:Pt:=nav [0,0,0] i5p9
def i5p12:Pt:=nav [0,0,0,0] i5p11
def i5p13:Pt:=nav [0,0] i5p12
def i5p14:Pt:=nav [2,0,0] i5p13
def i5p15:Pt:=nav [0,0] i5p14
def i5d0:DP:=⟨[59],[(0,0,0),(1,0,2),(0,0,2),(0,0,0),(0,0,0),(16,0,0),(48,0,0),(120,0,0),(252,0,0),(511,0,0),(0,0,0),(1023,0,0),(4095,0,0)],13,thrown,[],H0⟩
def qJd (k:Nat) (F:Fns0)  (a0:Int) (I:LN) (J:List S33) (M:Int) (K:Int) (ih:Int→Int→S28→Option (Option (S28×Int))):Int→Int→S28→Option (Option (S28×Int)) :=
 λ(q:Int) (a:Int) (c:S28)=>jn (λ(u:Int×S28)=>some (some (u.2,u.1))) (λx=>if (decide (a0≤9)) then ((i9 k I J a K).bind λb=>(g50 k b.f1).bind λj=>(i10 k b.f1 I J a K).bind λz=>jn (λ(g:Bool×Int×S28)=>if g.1 then (x (g.2.1,g.2.2)) else (bT (i11 k I J g.2.1 K) λD=>(g54 k b.f1).bind λE=>bT (F.i5 E I J D K) λh=>ih j h.2 (⟨14,b.f1,(⟨(([g.2.2,h.1]:List S28)).length,(([g.2.2,h.1]:List S28)).flatMap e29⟩:Raw),false,false,([]:LL),([]:LL)⟩:S28))) (λn=>if (!z) then (n (true,a,c)) else (if (decide (j < maxI a0 1)) then (n (true,a,c)) else ((g52 k b.f1).bind λo=>n (decide (q < o),a,c))))) else (x (a,c)))
def qQs (k:Nat) (F:Fns0)  (a0:Int) (a:LN) (b:List S33) (c:Int) (g:Int) (n:Nat):Int→Int→S28→Option (Option (S28×Int)):=lp (λ_ _ _=>none) (qJd k F a0 a b c g) n
theorem i5_l9_ok (k:Nat) (F:Fns0) (hF:FnsOk0 F) (a0:Int) (E:LN) (I:List S33) (a3:Int) (J:Int)    : ∀ (n:Nat) (u:Int) (q:Int) (c:S28),Ok (Xi5 a0 E I a3 J) i5p6 [(0,.ptr 0 4 0),(1,.i a0),(4,.ptr 1 7 0),(5,.ptr 2 7 0),(6,.i u)] (mkH [⟨[.str E,w34 I,.i q,.i J],4,false⟩,⟨[.i 0,.str [],.nils,.bool false,.bool false,.nils,.nils],0,false⟩,⟨[.i c.f0,.str c.f1,q29 c.f2,.bool c.f3,.bool c.f4,w9 c.f5,w9 c.f6],7,false⟩]) (qQs k F a0 E I a3 J n u q c):=by
 intro n
 induction n with
 | zero=>intro u q c; exact ok_none
 | succ n ih =>
  intro u q c
  show Ok _ _ _ _ (qJd k F a0 E I a3 J (qQs k F a0 E I a3 J n) u q c)
  unfold qJd
  refine qAi (p':=nav [0] i5p6) Kr ?_
  let E6:Env:=[(25,.bool (decide (a0≤9))),(24,.i a0),(0,.ptr 0 4 0),(1,.i a0),(4,.ptr 1 7 0),(5,.ptr 2 7 0),(6,.i u)]
  let Q1:Blk:=⟨[.str E,w34 I,.i q,.i J],4,false⟩
  let K:Blk:=⟨[.i 0,.str [],.nils,.bool false,.bool false,.nils,.nils],0,false⟩
  refine oH 6 i5p8 E6 (mkH [Q1,K,⟨e29 c,7,false⟩]) ?_
  refine oJ i5p10 (λ(O:Int×S28)=>[(4,.ptr 1 7 0),(5,.ptr 2 7 0)]) (λ(O:Int×S28)=>(mkH [⟨[.str E,w34 I,.i O.1,.i J],4,false⟩,K,⟨e29 O.2,7,false⟩])) (λO=>?_) (λd1 Z=>?_)
  ·exact oQF 5 [⟨[.str E,w34 I,.i O.1,.i J],4,false⟩,⟨e29 O.2,7,false⟩,⟨e29 O.2,7,false⟩] 1 [] [n29 O.2] (n29 O.2) .ps trivial
  ·refine oS 25 (λhb=>?_) (λhb=>?_)
   ·refine oH 6 (atN 1 (ctl1 i5p9)) ((26,.ptr 0 4 0)::(25,.bool true)::E6) (mkH [Q1,K,⟨e29 c,7,false⟩]) ?_
    refine oN (λ(a:S33)=>n34 a) (λa=>[Q1,K,⟨e29 c,7,false⟩]) (atN 2 (ctl1 i5p9)) 27 [0] [] [] [.ptr 0 4 0] (qOb k E I q J) trivial (λ_=>trivial) λa b7=>?_
    let E7:Env:=((29,.str a.f1)::(28,.ptr 3 3 1)::(7,.ptr 3 3 0)::(27,n34 a)::(26,.ptr 0 4 0)::(25,.bool true)::E6)
    let K1:List Blk:=[Q1,K,⟨e29 c,7,false⟩,⟨e34 a,3,false⟩]
    refine oH 7 (atN 2 (ctl1 i5p11)) E7 (mkH K1) ?_
    refine oA (λ(b:Int) => .i b) (atN 3 (ctl1 i5p11)) 30 [.str a.f1] (qHe k a.f1) λb b9=>?_
    refine oR 4 i5p12 ((8,.i b)::(30,.i b)::E7) ?_
    refine oK0 [0,1,4,5,6,7,8] ?_
    let E8:Env:=keepOnly ((8,.i b)::(30,.i b)::E7) [0,1,4,5,6,7,8]
    refine oR 4 (atN 3 (ctl1 i5p12)) ((33,.str a.f1)::(32,.ptr 3 3 1)::(31,.ptr 0 4 0)::E8) ?_
    refine oN (λ(N:Bool) => .bool N) (λN=>K1) (atN 4 (ctl1 i5p12)) 34 [0] [] [] [.ptr 0 4 0,.str a.f1] (qJp k a.f1 E I q J) trivial (λ_=>trivial) λN c0=>?_
    let E9:Env:=((36,.bool (!N))::(35,.bool (!N))::(34,.bool N)::(33,.str a.f1)::(32,.ptr 3 3 1)::(31,.ptr 0 4 0)::E8)
    refine oR 2 (atN 6 (ctl1 i5p12)) E9 ?_
    refine oJ i5p13 (λ(g:Bool×Int×S28)=>[(0,.ptr 0 4 0),(1,.i a0),(4,.ptr 1 7 0),(5,.ptr 2 7 0),(7,.ptr 3 3 0),(8,.i b),(48,.bool g.1)]) (λ(g:Bool×Int×S28)=>(mkH [⟨[.str E,w34 I,.i g.2.1,.i J],4,false⟩,K,⟨e29 g.2.2,7,false⟩,⟨e34 a,3,false⟩])) (λg=>?_) (λd2 S=>?_)
    ·refine oS 48 (λhb=>?_) (λhb=>?_)
     ·let Q3:Blk:=⟨[.str E,w34 I,.i g.2.1,.i J],4,false⟩
      refine oLH 3 i5p10 [(4,.ptr 1 7 0),(5,.ptr 2 7 0)] (mkH [Q3,K,⟨e29 g.2.2,7,false⟩,⟨e34 a,3,false⟩]) ?_
      refine qAf [Q3,K,⟨e29 g.2.2,7,false⟩] [⟨e34 a,3,false⟩] Kr rfl Kr ⟨Kr,⟨Kr,⟨Kr,trivial⟩⟩⟩ ?_
      exact Z (g.2.1,g.2.2)
     ·let b0:Env:=[(49,.ptr 0 4 0),(48,.bool false),(0,.ptr 0 4 0),(1,.i a0),(4,.ptr 1 7 0),(5,.ptr 2 7 0),(7,.ptr 3 3 0),(8,.i b),(48,.bool g.1)]
      refine oH 5 (atN 1 (ctl1 i5p14)) b0 (mkH [⟨[.str E,w34 I,.i g.2.1,.i J],4,false⟩,K,⟨e29 g.2.2,7,false⟩,⟨e34 a,3,false⟩]) ?_
      refine oX (λ(x:Int) => .tuple []) (λx=>[⟨[.str E,w34 I,.i x,.i J],4,false⟩,K,⟨e29 g.2.2,7,false⟩,⟨e34 a,3,false⟩]) (atN 2 (ctl1 i5p14)) 50 [0] [] [] [] [] [.ptr 0 4 0] (qH9 k E I g.2.1 J) trivial (λ_=>trivial) trivial λx c1=>?_
      refine oR 1 i5p15 ((50,.tuple [])::b0) ?_
      refine qA9 (λj T=>?_)
      refine qCp (λh=>?_) (λo a7=>?_)
      ·let z:Env:=[(56,.str a.f1),(55,.ptr 3 3 1),(54,.ptr 0 4 0),(53,n29 g.2.2),(52,.str a.f1),(51,.ptr 3 3 1),(50,.tuple []),(49,.ptr 0 4 0),(48,.bool false),(0,.ptr 0 4 0),(1,.i a0),(4,.ptr 1 7 0),(5,.ptr 2 7 0),(7,.ptr 3 3 0),(8,.i b),(48,.bool g.1)]
       let Y:Env:=((61,.i b)::(60,.top)::(59,.top)::(58,.top)::(57,.i j)::z)
       let U:List Blk:=[⟨[.str E,w34 I,.i x,.i J],4,false⟩,K,⟨e29 g.2.2,7,false⟩,⟨e34 a,3,false⟩]
       exact qAo (eE:=((6,.top)::Y)) (i5d0.th 7 thrown [0] (mkH U)) (hs:=[(mkH U),(mkH U),(mkH U)]) (LX:=[⟨[.str E,w34 I,.i a3,.i J],4,false⟩]) (L:=U) rfl rfl rfl Kr rfl ⟨.inl rfl,trivial⟩ Kr Kr Kr Kr (qA7 6 (l':=(opsAt i5p15).toList.drop 6) (eE:=z) (H':=(mkH U)) (hs:=[]) Kr (qAu (l':=(opsAt i5p15).toList.drop 7) (eE:=((57,.i j)::z)) (hs:=[(mkH U)]) (fi:=54) (args:=[.str a.f1]) (v := .i j) Kr Kr Kr (g54_ok k a.f1 j T) Kr (qAn (l':=(opsAt i5p15).toList.drop 8) (eE:=((58,.top)::(57,.i j)::z)) (hs:=[(mkH U)]) (fi:=29) (args:=[.ptr 0 4 0,.i j]) Kr Kr (frS 0 (M:=U) (rs:=[0]) (ms:=[]) (mv:=[]) (mm:=[]) (D:=[0]) (xs':=[.ptr 0 4 0,.i j]) (.refl) ((hF.i5_ok j E I x J).2 h) trivial trivial Kr) Kr (qA1 (l':=(opsAt i5p15).toList.drop 9) (eE:=((59,.top)::(58,.top)::(57,.i j)::z)) (hs:=[]) Kr Kr (qA1 (l':=(opsAt i5p15).toList.drop 10) (eE:=((60,.top)::(59,.top)::(58,.top)::(57,.i j)::z)) (hs:=[]) Kr Kr (qA7 1 (l':=(opsAt i5p15).toList.drop 11) (eE:=Y) (H':=(mkH U)) (hs:=[]) Kr (qA1 (l':=(opsAt i5p15).toList.drop 12) (eE:=Y) (hs:=[(mkH U)]) Kr Kr (qA1 (l':=(opsAt i5p15).toList.drop 13) (eE:=((6,.top)::Y)) (hs:=[]) Kr Kr (.nil))))))))) Kr Kr
      ·let z:Env:=[(56,.str a.f1),(55,.ptr 3 3 1),(54,.ptr 0 4 0),(53,n29 g.2.2),(52,.str a.f1),(51,.ptr 3 3 1),(50,.tuple []),(49,.ptr 0 4 0),(48,.bool false),(0,.ptr 0 4 0),(1,.i a0),(4,.ptr 1 7 0),(5,.ptr 2 7 0),(7,.ptr 3 3 0),(8,.i b),(48,.bool g.1)]
       let b1:Env:=((6,.i b)::(61,.i b)::(60,.agg [.i 14,.str a.f1,w29 ([g.2.2,o.1]:List S28),.bool false,.bool false,.nils,.nils])::(59,w29 ([g.2.2,o.1]:List S28))::(58,n29 o.1)::(57,.i j)::z)
       let Q5:Blk:=⟨[.str E,w34 I,.i o.2,.i J],4,false⟩
       let Q6:Blk:=⟨[.i 14,.str a.f1,w29 ([g.2.2,o.1]:List S28),.bool false,.bool false,.nils,.nils],7,false⟩
       let K3:List Blk:=[⟨[.str E,w34 I,.i x,.i J],4,false⟩,K,⟨e29 g.2.2,7,false⟩,⟨e34 a,3,false⟩]
       let K4:List Blk:=[Q5,K,⟨e29 g.2.2,7,false⟩,⟨e34 a,3,false⟩]
       refine oD (H':=(mkH [Q5,K,Q6,⟨e34 a,3,false⟩])) (nav [0] i5p15) b1 [(mkH K3),(mkH K4),(mkH [Q5,K,Q6,⟨e34 a,3,false⟩])] i5d0 (oDr 6 6 z (qAu (l':=(opsAt i5p15).toList.drop 7) (eE:=((57,.i j)::z)) (hs:=[(mkH K3)]) (fi:=54) (args:=[.str a.f1]) (v := .i j) Kr Kr Kr (g54_ok k a.f1 j T) Kr (qA5 (l':=(opsAt i5p15).toList.drop 8) (eE:=((58,n29 o.1)::(57,.i j)::z)) (hs:=[(mkH K4)]) (H':=(mkH K4)) (fi:=29) (args:=[.ptr 0 4 0,.i j]) (v:=n29 o.1) Kr (frC (rs:=[0]) (ms:=[]) (ms':=[]) ((hF.i5_ok j E I x J).1 o a7) trivial trivial Kr) Kr (oDh 5 13 b1 (mkH [Q5,K,Q6,⟨e34 a,3,false⟩]) [(mkH [Q5,K,Q6,⟨e34 a,3,false⟩])] .nil)))) ?_
       refine qDv [Q5,K,Q6,⟨e34 a,3,false⟩] 2 7 [.i 14,.str a.f1,w29 ([g.2.2,o.1]:List S28),.bool false,.bool false,.nils,.nils] [.i 14,.str a.f1,w29 ([g.2.2,o.1]:List S28),.bool false,.bool false,w9 ([]:LL),w9 ([]:LL)] Kr rfl (.cons (.cons (.cons (.cons (.cons (.nil (.nil (.refl)))))))) ?_
       let Q8:Blk:=⟨[.i 14,.str a.f1,w29 ([g.2.2,o.1]:List S28),.bool false,.bool false,w9 ([]:LL),w9 ([]:LL)],7,false⟩
       refine oHp (mkH [Q5,K,Q8,⟨e34 a,3,false⟩]) ?_
       refine oK [0,1,4,5,6] [(0,.ptr 0 4 0),(1,.i a0),(4,.ptr 1 7 0),(5,.ptr 2 7 0),(6,.i b)] ?_
       refine qAf [Q5,K,Q8] [⟨e34 a,3,false⟩] Kr rfl Kr ⟨Kr,⟨Kr,⟨Kr,trivial⟩⟩⟩ ?_
       exact ih b o.2 (⟨14,a.f1,(⟨(([g.2.2,o.1]:List S28)).length,(([g.2.2,o.1]:List S28)).flatMap e29⟩:Raw),false,false,([]:LL),([]:LL)⟩:S28)
    ·refine oS 36 (λhb=>?_) (λhb=>?_)
     ·refine oLH 13 i5p13 [(0,.ptr 0 4 0),(1,.i a0),(4,.ptr 1 7 0),(5,.ptr 2 7 0),(7,.ptr 3 3 0),(8,.i b),(48,.bool true)] (mkH K1) ?_
      exact S (true,q,c)
     ·let b3:Env:=((42,.bool (decide (b < maxI a0 1)))::(41,.bool (decide (b < maxI a0 1)))::(40,.bool (decide (b < maxI a0 1)))::(39,.i (maxI a0 1))::(38,.i a0)::(37,.i b)::(36,.bool false)::E9)
      refine oH 6 (atN 12 (ctl1 i5p12)) b3 (mkH K1) ?_
      refine oS 42 (λhb=>?_) (λhb=>?_)
      ·refine oL 7 i5p13 [(0,.ptr 0 4 0),(1,.i a0),(4,.ptr 1 7 0),(5,.ptr 2 7 0),(7,.ptr 3 3 0),(8,.i b),(48,.bool true)] ?_
       exact S (true,q,c)
      ·refine oR 3 (atN 15 (ctl1 i5p12)) ((45,.str a.f1)::(44,.ptr 3 3 1)::(43,.i u)::(42,.bool false)::b3) ?_
       refine oA (λ(Q:Int) => .i Q) (atN 16 (ctl1 i5p12)) 46 [.str a.f1] (g52_ok k a.f1) λQ b5=>?_
       refine oL 3 i5p13 [(0,.ptr 0 4 0),(1,.i a0),(4,.ptr 1 7 0),(5,.ptr 2 7 0),(7,.ptr 3 3 0),(8,.i b),(48,.bool (decide (u < Q)))] ?_
       exact S (decide (u < Q),q,c)
   ·refine oLH 3 i5p10 [(4,.ptr 1 7 0),(5,.ptr 2 7 0)] (mkH [Q1,K,⟨e29 c,7,false⟩]) ?_
    exact Z (q,c)
def i5B (k:Nat) (F:Fns0) (a0:Int) (g:LN) (h:List S33) (n:Int) (j:Int):Option (Option (S28×Int)) :=
 jn (λ(o:Bool×Int)=>if o.1 then (bT (F.i5 (0:Int) g h o.2 j) λa=>some (some ((⟨(13:Int),([99,97,116,99,104]:LN),⟨(([a.1]:List S28)).length,(([a.1]:List S28)).flatMap e29⟩,false,false,([]:LL),([]:LL)⟩:S28),a.2))) else (bT (F.i8 g h o.2 j) λb=>qQs k F a0 g h n j k b.2.1 b.2.2 b.1)) (λq=>if (decide (a0≤0)) then (bT (i7 k ([99,97,116,99,104]:LN) g h n j) λc=>q (c.1,c.2)) else (q (false,n)))
theorem qQt (k:Nat) (F:Fns0) (z:FnsOk0 F):∀ a0 g j o n r,i5B k F a0 g j o n=some r→CallT Try.prog 29 [.ptr 0 4 0,.i a0] (mkH [⟨[.str g,w34 j,.i o,.i n],4,false⟩]) ((Xi5 a0 g j o n).thr r) ((Xi5 a0 g j o n).enc r) ((Xi5 a0 g j o n).fin r):=by
 intro a0 g j o n r h
 refine qA2 (Xi5 a0 g j o n) Try.func29 Kr Kr rfl (t:=i5B k F a0 g j o n) ?_ h
 unfold i5B
 refine qA (eE:=[(0,.ptr 0 4 0),(1,.i a0)]) Kr ?_
 let M:Env:=[(11,.bool (decide (a0≤0))),(10,.bool (decide (a0≤0))),(9,.i a0),(4,.ptr 1 7 0),(0,.ptr 0 4 0),(1,.i a0)]
 let D:Blk:=⟨[.str g,w34 j,.i o,.i n],4,false⟩
 let q:Blk:=⟨[.i 0,.str [],.nils,.bool false,.bool false,.nils,.nils],0,false⟩
 refine oH 10 (atN 3 (ctl1 i5p1)) M (mkH [D,q]) ?_
 refine oJ i5p2 (λ(u:Bool×Int)=>[(0,.ptr 0 4 0),(1,.i a0),(4,.ptr 1 7 0),(14,.bool u.1)]) (λ(u:Bool×Int)=>(mkH [⟨[.str g,w34 j,.i u.2,.i n],4,false⟩,q])) (λu=>?_) (λQ x=>?_)
 ·refine oS 14 (λE=>?_) (λE=>?_)
  ·let N:Env:=[(15,.ptr 0 4 0),(14,.bool true),(0,.ptr 0 4 0),(1,.i a0),(4,.ptr 1 7 0),(14,.bool u.1)]
   refine oH 4 (atN 1 (ctl1 i5p3)) N (mkH [⟨[.str g,w34 j,.i u.2,.i n],4,false⟩,q]) ?_
   refine oX (λ(a:(S28×Int))=>n29 a.1) (λa=>[⟨[.str g,w34 j,.i a.2,.i n],4,false⟩,q]) (atN 2 (ctl1 i5p3)) 16 [0] [] [] [0] [] [.ptr 0 4 0,.i 0] (z.i5_ok (0:Int) g j u.2 n) trivial (λ_=>trivial) trivial λa I=>?_
   let O:Blk:=⟨[.str g,w34 j,.i a.2,.i n],4,false⟩
   refine oH 1 (atN 3 (ctl1 i5p3)) ((17,.slice 2 7 0 1 7)::(16,n29 a.1)::N) (mkH [O,q,⟨e29 a.1,0,false⟩]) ?_
   refine oZ 17 2 1 7 [.i a.1.f0,.str a.1.f1,q29 a.1.f2,.bool a.1.f3,.bool a.1.f4,w9 a.1.f5,w9 a.1.f6] [0,1,4,14,15,16] [] trivial ?_
   exact oQF 4 [O,⟨[.i 13,.str [99,97,116,99,104],w29 ([a.1]:List S28),.bool false,.bool false,.nils,.nils],7,false⟩,⟨[],0,false⟩] 1 [] [.agg [.i 13,.str [99,97,116,99,104],w29 ([a.1]:List S28),.bool false,.bool false,.nils,.nils]] (.agg [.i 13,.str [99,97,116,99,104],w29 ([a.1]:List S28),.bool false,.bool false,.vec 0 1 [],.vec 0 1 []]) (.agg (.cs (.cs (.cs (.cs (.cs (.nil (.nil .ps))))))) .ps) trivial
  ·refine oH 5 (atN 1 (ctl1 i5p4)) [(20,.ptr 0 4 0),(14,.bool false),(0,.ptr 0 4 0),(1,.i a0),(4,.ptr 1 7 0),(14,.bool u.1)] (mkH [⟨[.str g,w34 j,.i u.2,.i n],4,false⟩,q]) ?_
   refine oX (λ(b:Ri8) => .tuple [n29 b.1,.i b.2.1]) (λb=>[⟨[.str g,w34 j,.i b.2.2,.i n],4,false⟩,q]) (atN 2 (ctl1 i5p4)) 21 [0] [] [] [0] [] [.ptr 0 4 0] (z.i8_ok g j u.2 n) trivial (λ_=>trivial) trivial λb J=>?_
   refine oLH 10 i5p6 [(0,.ptr 0 4 0),(1,.i a0),(4,.ptr 1 7 0),(5,.ptr 2 7 0),(6,.i b.2.1)] (mkH [⟨[.str g,w34 j,.i b.2.2,.i n],4,false⟩,q,⟨e29 b.1,7,false⟩]) ?_
   exact (i5_l9_ok k F z a0 g j o n k) b.2.1 b.2.2 b.1
 ·refine oS 11 (λE=>?_) (λE=>?_)
  ·refine oH 1 (atN 4 (ctl1 i5p1)) ((12,.ptr 0 4 0)::(11,.bool true)::M) (mkH [D,q]) ?_
   refine oX (λ(c:(Bool×Int)) => .bool c.1) (λc=>[⟨[.str g,w34 j,.i c.2,.i n],4,false⟩,q]) (atN 5 (ctl1 i5p1)) 13 [0] [] [] [] [] [.ptr 0 4 0,.str [99,97,116,99,104]] (qAj k ([99,97,116,99,104]:LN) g j o n) trivial (λ_=>trivial) trivial λc K=>?_
   refine oL 2 i5p2 [(0,.ptr 0 4 0),(1,.i a0),(4,.ptr 1 7 0),(14,.bool c.1)] ?_
   exact x (c.1,c.2)
  ·refine oLH 4 i5p2 [(0,.ptr 0 4 0),(1,.i a0),(4,.ptr 1 7 0),(14,.bool false)] (mkH [D,q]) ?_
   exact x (false,o)
theorem i5B_ok (k:Nat) (F:Fns0) (a:FnsOk0 F):Pi5 (i5B k F):=λa0 b c g j=>⟨λx h=>qQt k F a a0 b c g j (some x) h,λh=>⟨_,qQt k F a a0 b c g j none h⟩⟩
def i50p1:Pt:=nav [0,0,0] (nav [0] (bodyAt Try.f110))
def i50p2:Pt:=nav [0,0,0,0,0] i50p1
def i50p3:Pt:=nav [0,0,0] i50p2
def i50p4:Pt:=nav [0,0] i50p3
def i50p5:Pt:=nav [1,0,0] i50p4
def i50d0:DP:=⟨[14],[(0,0,0),(1,0,1),(0,0,0),(4,0,0),(12,0,0),(31,0,0),(63,0,0),(127,0,0)],8,thrown,[],H0⟩
def qFs (k:Nat) (F:Fns0)  (a0:LN) (j:List S33) (o:Int) (n:Int) (ih:Int→(List S28)→Option (Option (S28×Int))):Int→(List S28)→Option (Option (S28×Int)) :=
 λ(g:Int) (a:List S28)=>bT (i7 k ([59]:LN) a0 j g n) λb=>if b.1 then (bT (F.i52 a0 j b.2 n) λc=>(appS 104 a ([c.1]:List S28)).bind λh=>ih c.2 h) else (some (some ((⟨(24:Int),([]:LN),⟨(a).length,(a).flatMap e29⟩,false,false,([]:LL),([]:LL)⟩:S28),b.2)))
def qJf (k:Nat) (F:Fns0)  (a0:LN) (a:List S33) (b:Int) (c:Int) (n:Nat):Int→(List S28)→Option (Option (S28×Int)):=lp (λ_ _=>none) (qFs k F a0 a b c) n
theorem qQv (k:Nat) (F:Fns0) (T:FnsOk0 F) (a0:LN) (z:List S33) (Q:Int) (E:Int)    : ∀ (n:Nat) (j:Int) (c:List S28),Ok (Xi50 a0 z Q E) i50p2 [(0,.ptr 0 4 0),(2,.ptr 1 7 0),(3,.ptr 3 7 0)] (mkH [⟨[.str a0,w34 z,.i j,.i E],4,false⟩,⟨[.i 0,.str [],.nils,.bool false,.bool false,.nils,.nils],0,false⟩,⟨(c).flatMap e29,0,false⟩,⟨[.i 24,.str [],.own 2 (c).length 7,.bool false,.bool false,.nils,.nils],7,false⟩]) (qJf k F a0 z Q E n j c):=by
 intro n
 induction n with
 | zero=>intro j c; exact ok_none
 | succ n ih =>
  intro j c
  show Ok _ _ _ _ (qFs k F a0 z Q E (qJf k F a0 z Q E n) j c)
  unfold qFs
  refine qAi (p':=nav [0] i50p2) Kr ?_
  let o:Blk:=⟨[.i 0,.str [],.nils,.bool false,.bool false,.nils,.nils],0,false⟩
  let u:Blk:=⟨(c).flatMap e29,0,false⟩
  let q:Blk:=⟨[.i 24,.str [],.own 2 (c).length 7,.bool false,.bool false,.nils,.nils],7,false⟩
  refine oH 4 (atN 1 (ctl1 i50p3)) [(8,.ptr 0 4 0),(0,.ptr 0 4 0),(2,.ptr 1 7 0),(3,.ptr 3 7 0)] (mkH [⟨[.str a0,w34 z,.i j,.i E],4,false⟩,o,u,q]) ?_
  refine oX (λ(g:(Bool×Int)) => .bool g.1) (λg=>[⟨[.str a0,w34 z,.i g.2,.i E],4,false⟩,o,u,q]) (atN 2 (ctl1 i50p3)) 9 [0] [] [] [3] [0,0,1] [.ptr 0 4 0,.str [59]] (qAj k ([59]:LN) a0 z j E) trivial (λ_=>trivial) ⟨u29 _,trivial⟩ λg S=>?_
  let U:Env:=[(9,.bool g.1),(8,.ptr 0 4 0),(0,.ptr 0 4 0),(2,.ptr 1 7 0),(3,.ptr 3 7 0)]
  refine oR 1 i50p4 U ?_
  refine oS 9 (λY=>?_) (λY=>?_)
  ·refine oR 3 i50p5 ((9,.bool true)::U) ?_
   refine qCp (λh=>?_) (λb N=>?_)
   ·let I:Env:=[(12,.ptr 0 4 0),(11,.own 2 (c).length 7),(10,.ptr 3 7 2),(9,.bool true),(9,.bool g.1),(8,.ptr 0 4 0),(0,.ptr 0 4 0),(2,.ptr 1 7 0),(3,.ptr 3 7 0)]
    let K:Blk:=⟨[.str a0,w34 z,.i g.2,.i E],4,false⟩
    exact qAo (eE:=((16,.top)::(15,.top)::(14,.top)::(13,.top)::I)) (i50d0.th 3 thrown [0,3] (mkH [K,o,u,q])) (hs:=[(mkH [K,o,u,q]),(mkH [K,o,u,q]),(mkH [K,o,u,q])]) (LX:=[⟨[.str a0,w34 z,.i Q,.i E],4,false⟩]) (L:=[K,o,u,q]) rfl rfl rfl Kr rfl ⟨.inl rfl,trivial⟩ Kr Kr Kr Kr (qA7 3 (l':=(opsAt i50p5).toList.drop 3) (eE:=I) (H':=(mkH [K,o,u,q])) (hs:=[]) Kr (qAn (l':=(opsAt i50p5).toList.drop 4) (eE:=((13,.top)::I)) (hs:=[(mkH [K,o,u,q])]) (fi:=113) (args:=[.ptr 0 4 0]) Kr Kr (frS 0 (M:=[K,o,u,q]) (rs:=[0]) (ms:=[]) (mv:=[0,0,1]) (mm:=[0,0,1]) (D:=[0,3]) (xs':=[.ptr 0 4 0]) (.refl) ((T.i52_ok a0 z g.2 E).2 h) trivial ⟨u29 _,trivial⟩ Kr) Kr (qA1 (l':=(opsAt i50p5).toList.drop 5) (eE:=((14,.top)::(13,.top)::I)) (hs:=[]) Kr Kr (qA1 (l':=(opsAt i50p5).toList.drop 6) (eE:=((15,.top)::(14,.top)::(13,.top)::I)) (hs:=[(mkH [K,o,u,q])]) Kr Kr (qA1 (l':=(opsAt i50p5).toList.drop 7) (eE:=((16,.top)::(15,.top)::(14,.top)::(13,.top)::I)) (hs:=[]) Kr Kr (qA1 (l':=(opsAt i50p5).toList.drop 8) (eE:=((16,.top)::(15,.top)::(14,.top)::(13,.top)::I)) (hs:=[(mkH [K,o,u,q])]) Kr Kr (.nil))))))) Kr Kr
   ·refine qA9 (λa O=>?_)
    let I:Env:=[(12,.ptr 0 4 0),(11,.own 2 (c).length 7),(10,.ptr 3 7 2),(9,.bool true),(9,.bool g.1),(8,.ptr 0 4 0),(0,.ptr 0 4 0),(2,.ptr 1 7 0),(3,.ptr 3 7 0)]
    let J:Blk:=⟨[.str a0,w34 z,.i b.2,.i E],4,false⟩
    refine oD (H':=(mkH [J,o,⟨(a).flatMap e29,0,false⟩,⟨[.i 24,.str [],.own 2 (a).length 7,.bool false,.bool false,.nils,.nils],7,false⟩])) (nav [0] i50p5) ((16,.ptr 3 7 2)::(15,.own 2 (a).length 7)::(14,w29 ([b.1]:List S28))::(13,n29 b.1)::I) [(mkH [J,o,u,q]),(mkH [J,o,⟨(a).flatMap e29,0,false⟩,q]),(mkH [J,o,⟨(a).flatMap e29,0,false⟩,⟨[.i 24,.str [],.own 2 (a).length 7,.bool false,.bool false,.nils,.nils],7,false⟩])] i50d0 (oDr 3 3 I (qA5 (l':=(opsAt i50p5).toList.drop 4) (eE:=((13,n29 b.1)::I)) (hs:=[(mkH [J,o,u,q])]) (H':=(mkH [J,o,u,q])) (fi:=113) (args:=[.ptr 0 4 0]) (v:=n29 b.1) Kr (frC (rs:=[0]) (ms:=[]) (ms':=[]) ((T.i52_ok a0 z g.2 E).1 b N) trivial trivial Kr) Kr (oDr 1 5 ((14,w29 ([b.1]:List S28))::(13,n29 b.1)::I) (qAb (l':=(opsAt i50p5).toList.drop 6) (eE:=((15,.own 2 (a).length 7)::(14,w29 ([b.1]:List S28))::(13,n29 b.1)::I)) (hs:=[(mkH [J,o,⟨(a).flatMap e29,0,false⟩,q])]) (x:=a) (λ(a:List S28)=>(.own 2 (a).length 7,(mkH [J,o,⟨(a).flatMap e29,0,false⟩,q]))) (appHV (sz:=7) qA6 rfl qAx [J,o,u,q] 2 104 c ([b.1]:List S28) rfl rfl Kr) O Kr (oDh 2 8 ((16,.ptr 3 7 2)::(15,.own 2 (a).length 7)::(14,w29 ([b.1]:List S28))::(13,n29 b.1)::I) (mkH [J,o,⟨(a).flatMap e29,0,false⟩,⟨[.i 24,.str [],.own 2 (a).length 7,.bool false,.bool false,.nils,.nils],7,false⟩]) [(mkH [J,o,⟨(a).flatMap e29,0,false⟩,⟨[.i 24,.str [],.own 2 (a).length 7,.bool false,.bool false,.nils,.nils],7,false⟩])] .nil))))) ?_
    refine oK [0,2,3] [(0,.ptr 0 4 0),(2,.ptr 1 7 0),(3,.ptr 3 7 0)] ?_
    exact ih b.2 a
  ·exact oQF 8 [⟨[.str a0,w34 z,.i g.2,.i E],4,false⟩,q,u,q] 1 [] [.agg [.i 24,.str [],.own 2 (c).length 7,.bool false,.bool false,.nils,.nils]] (.agg [.i 24,.str [],w29 c,.bool false,.bool false,.vec 0 1 [],.vec 0 1 []]) (.agg (.cs (.cs (qAr qA6 qAh rfl rfl rfl (.cs (.cs (.nil (.nil .ps))))))) .ps) trivial
def i50B (k:Nat) (F:Fns0) (a0:LN) (b:List S33) (c:Int) (g:Int):Option (Option (S28×Int)) :=
 bT (F.i52 a0 b c g) λa=>qJf k F a0 b c g k a.2 ([a.1]:List S28)
theorem qM8 (k:Nat) (F:Fns0) (o:FnsOk0 F):∀ a0 b g c r,i50B k F a0 b g c=some r→CallT Try.prog 110 [.ptr 0 4 0] (mkH [⟨[.str a0,w34 b,.i g,.i c],4,false⟩]) ((Xi50 a0 b g c).thr r) ((Xi50 a0 b g c).enc r) ((Xi50 a0 b g c).fin r):=by
 intro a0 b g c r h
 refine qA2 (Xi50 a0 b g c) Try.func110 Kr Kr rfl (t:=i50B k F a0 b g c) ?_ h
 unfold i50B
 refine qA (eE:=[(0,.ptr 0 4 0)]) Kr ?_
 let j:Blk:=⟨[.i 0,.str [],.nils,.bool false,.bool false,.nils,.nils],0,false⟩
 refine oH 7 (atN 1 (ctl1 i50p1)) [(4,.ptr 0 4 0),(2,.ptr 1 7 0),(0,.ptr 0 4 0)] (mkH [⟨[.str a0,w34 b,.i g,.i c],4,false⟩,j]) ?_
 refine oX (λ(a:(S28×Int))=>n29 a.1) (λa=>[⟨[.str a0,w34 b,.i a.2,.i c],4,false⟩,j]) (atN 2 (ctl1 i50p1)) 5 [0] [] [] [0] [] [.ptr 0 4 0] (o.i52_ok a0 b g c) trivial (λ_=>trivial) trivial λa n=>?_
 let q:Blk:=⟨[.str a0,w34 b,.i a.2,.i c],4,false⟩
 refine oH 1 (atN 3 (ctl1 i50p1)) [(6,.slice 2 7 0 1 7),(5,n29 a.1),(4,.ptr 0 4 0),(2,.ptr 1 7 0),(0,.ptr 0 4 0)] (mkH [q,j,⟨e29 a.1,0,false⟩]) ?_
 refine qCo 6 2 7 1 7 Kr rfl ?_
 refine oLH 7 i50p2 [(0,.ptr 0 4 0),(2,.ptr 1 7 0),(3,.ptr 3 7 0)] (mkH [q,j,⟨(([a.1]:List S28)).flatMap e29,0,false⟩,⟨[.i 24,.str [],.own 2 (([a.1]:List S28)).length 7,.bool false,.bool false,.nils,.nils],7,false⟩]) ?_
 exact (qQv k F o a0 b g c k) a.2 ([a.1]:List S28)
theorem i50B_ok (k:Nat) (F:Fns0) (a:FnsOk0 F):Pi50 (i50B k F):=λa0 b c g=>⟨λx h=>qM8 k F a a0 b c g (some x) h,λh=>⟨_,qM8 k F a a0 b c g none h⟩⟩
def i51p1:Pt:=nav [0,0,0] (nav [0] (bodyAt Try.f112))
def i51p2:Pt:=nav [0,0,0] i51p1
def i51B (k:Nat) (F:Fns0) (a0:LN) (c:List S33) (h:Int) (g:Int):Option (Option (S28×Int)) :=
 bT (i23 k ([40]:LN) a0 c h g) λb=>bT (F.i18 (23:Int) ([]:LN) false false ([]:LL) ([]:LL) ([41]:LN) a0 c b g ([]:List S28)) λa=>some (some ((⟨a.1,a.2.1,⟨(a.2.2.2.2.2.2.2).length,(a.2.2.2.2.2.2.2).flatMap e29⟩,a.2.2.1,a.2.2.2.1,a.2.2.2.2.1,a.2.2.2.2.2.1⟩:S28),a.2.2.2.2.2.2.1))
theorem qM7 (k:Nat) (F:Fns0) (u:FnsOk0 F):∀ a0 c j g r,i51B k F a0 c j g=some r→CallT Try.prog 112 [.ptr 0 4 0] (mkH [⟨[.str a0,w34 c,.i j,.i g],4,false⟩]) ((Xi51 a0 c j g).thr r) ((Xi51 a0 c j g).enc r) ((Xi51 a0 c j g).fin r):=by
 intro a0 c j g r h
 refine qA2 (Xi51 a0 c j g) Try.func112 Kr Kr rfl (t:=i51B k F a0 c j g) ?_ h
 unfold i51B
 refine qA (eE:=[(0,.ptr 0 4 0)]) Kr ?_
 let n:Blk:=⟨[.i 0,.str [],.nils,.bool false,.bool false,.nils,.nils],0,false⟩
 refine oH 7 (atN 1 (ctl1 i51p1)) [(3,.ptr 0 4 0),(2,.ptr 1 7 0),(0,.ptr 0 4 0)] (mkH [⟨[.str a0,w34 c,.i j,.i g],4,false⟩,n]) ?_
 refine oX (λ(b:Int) => .tuple []) (λb=>[⟨[.str a0,w34 c,.i b,.i g],4,false⟩,n]) (atN 2 (ctl1 i51p1)) 4 [0] [] [] [0] [] [.ptr 0 4 0,.str [40]] (qAw k ([40]:LN) a0 c j g) trivial (λ_=>trivial) trivial λb o=>?_
 refine oR 7 (atN 4 (ctl1 i51p2)) [(8,.func 78 [.ptr 0 4 0] []),(7,.ptr 0 4 0),(6,.agg [.i 23,.str [],.nils,.bool false,.bool false,.nils,.nils]),(5,.ptr 0 4 0),(4,.tuple []),(3,.ptr 0 4 0),(2,.ptr 1 7 0),(0,.ptr 0 4 0)] ?_
 refine oXW 1 [⟨[.str a0,w34 c,.i b,.i g],4,false⟩,n,⟨(([]:List S28)).flatMap e29,0,false⟩] (λ(a:Ri18) => .agg [.i a.1,.str a.2.1,.own 2 (a.2.2.2.2.2.2.2).length 7,.bool a.2.2.1,.bool a.2.2.2.1,w9 a.2.2.2.2.1,w9 a.2.2.2.2.2.1]) (λa=>[⟨[.str a0,w34 c,.i a.2.2.2.2.2.2.1,.i g],4,false⟩,n,⟨(a.2.2.2.2.2.2.2).flatMap e29,0,false⟩]) (atN 5 (ctl1 i51p2)) 9 [0,2] [0,1] [0,1] [0,2] [] [0,0,1] [.ptr 0 4 0,.agg [.i 23,.str [],.nils,.bool false,.bool false,.nils,.nils],.str [41],.func 78 [.ptr 0 4 0] []] [.ptr 0 4 0,.agg [.i 23,.str [],.own 2 (([]:List S28)).length 7,.bool false,.bool false,w9 ([]:LL),w9 ([]:LL)],.str [41],.func 78 [.ptr 0 4 0] []] (.cons (.agg (.cons (.cons (.none (.cons (.cons (.nil (.nil (.refl)))))))) (.refl))) (u.i18_ok (23:Int) ([]:LN) false false ([]:LL) ([]:LL) ([41]:LN) a0 c b g ([]:List S28)) ⟨u29 _,trivial⟩ (λ_=>⟨u29 _,trivial⟩) trivial λa q=>?_
 exact oQF 3 [⟨[.str a0,w34 c,.i a.2.2.2.2.2.2.1,.i g],4,false⟩,⟨[.i a.1,.str a.2.1,.own 2 (a.2.2.2.2.2.2.2).length 7,.bool a.2.2.1,.bool a.2.2.2.1,w9 a.2.2.2.2.1,w9 a.2.2.2.2.2.1],7,false⟩,⟨(a.2.2.2.2.2.2.2).flatMap e29,0,false⟩] 1 [] [.agg [.i a.1,.str a.2.1,.own 2 (a.2.2.2.2.2.2.2).length 7,.bool a.2.2.1,.bool a.2.2.2.1,w9 a.2.2.2.2.1,w9 a.2.2.2.2.2.1]] (.agg [.i a.1,.str a.2.1,w29 a.2.2.2.2.2.2.2,.bool a.2.2.1,.bool a.2.2.2.1,w9 a.2.2.2.2.1,w9 a.2.2.2.2.2.1]) (.agg (.cs (.cs (qAr qA6 qAh rfl rfl rfl .ps))) .ps) trivial
theorem i51B_ok (k:Nat) (F:Fns0) (a:FnsOk0 F):Pi51 (i51B k F):=λa0 b c g=>⟨λx h=>qM7 k F a a0 b c g (some x) h,λh=>⟨_,qM7 k F a a0 b c g none h⟩⟩
def i52p1:Pt:=nav [0,0,0] (nav [0] (bodyAt Try.f113))
def i52p2:Pt:=nav [0,0,0,0,0] i52p1
def i52p3:Pt:=nav [0,0,0] i52p2
def i52p4:Pt:=nav [0,0] i52p3
def i52p5:Pt:=nav [1,0,0] i52p4
def i52d0:DP:=⟨[14],[(0,0,0),(1,0,1),(0,0,0),(4,0,0),(12,0,0),(31,0,0),(63,0,0),(127,0,0)],8,thrown,[],H0⟩
def qFr (k:Nat) (F:Fns0)  (a0:LN) (j:List S33) (o:Int) (n:Int) (ih:Int→(List S28)→Option (Option (S28×Int))):Int→(List S28)→Option (Option (S28×Int)) :=
 λ(g:Int) (a:List S28)=>bT (i7 k ([44]:LN) a0 j g n) λb=>if b.1 then (bT (F.i5 (1:Int) a0 j b.2 n) λc=>(appS 104 a ([c.1]:List S28)).bind λh=>ih c.2 h) else (some (some ((⟨(25:Int),([]:LN),⟨(a).length,(a).flatMap e29⟩,false,false,([]:LL),([]:LL)⟩:S28),b.2)))
def qJe (k:Nat) (F:Fns0)  (a0:LN) (a:List S33) (b:Int) (c:Int) (n:Nat):Int→(List S28)→Option (Option (S28×Int)):=lp (λ_ _=>none) (qFr k F a0 a b c) n
theorem qQu (k:Nat) (F:Fns0) (T:FnsOk0 F) (a0:LN) (z:List S33) (Q:Int) (E:Int)    : ∀ (n:Nat) (j:Int) (c:List S28),Ok (Xi52 a0 z Q E) i52p2 [(0,.ptr 0 4 0),(2,.ptr 1 7 0),(3,.ptr 3 7 0)] (mkH [⟨[.str a0,w34 z,.i j,.i E],4,false⟩,⟨[.i 0,.str [],.nils,.bool false,.bool false,.nils,.nils],0,false⟩,⟨(c).flatMap e29,0,false⟩,⟨[.i 25,.str [],.own 2 (c).length 7,.bool false,.bool false,.nils,.nils],7,false⟩]) (qJe k F a0 z Q E n j c):=by
 intro n
 induction n with
 | zero=>intro j c; exact ok_none
 | succ n ih =>
  intro j c
  show Ok _ _ _ _ (qFr k F a0 z Q E (qJe k F a0 z Q E n) j c)
  unfold qFr
  refine qAi (p':=nav [0] i52p2) Kr ?_
  let o:Blk:=⟨[.i 0,.str [],.nils,.bool false,.bool false,.nils,.nils],0,false⟩
  let u:Blk:=⟨(c).flatMap e29,0,false⟩
  let q:Blk:=⟨[.i 25,.str [],.own 2 (c).length 7,.bool false,.bool false,.nils,.nils],7,false⟩
  refine oH 4 (atN 1 (ctl1 i52p3)) [(8,.ptr 0 4 0),(0,.ptr 0 4 0),(2,.ptr 1 7 0),(3,.ptr 3 7 0)] (mkH [⟨[.str a0,w34 z,.i j,.i E],4,false⟩,o,u,q]) ?_
  refine oX (λ(g:(Bool×Int)) => .bool g.1) (λg=>[⟨[.str a0,w34 z,.i g.2,.i E],4,false⟩,o,u,q]) (atN 2 (ctl1 i52p3)) 9 [0] [] [] [3] [0,0,1] [.ptr 0 4 0,.str [44]] (qAj k ([44]:LN) a0 z j E) trivial (λ_=>trivial) ⟨u29 _,trivial⟩ λg S=>?_
  let U:Env:=[(9,.bool g.1),(8,.ptr 0 4 0),(0,.ptr 0 4 0),(2,.ptr 1 7 0),(3,.ptr 3 7 0)]
  refine oR 1 i52p4 U ?_
  refine oS 9 (λY=>?_) (λY=>?_)
  ·refine oR 3 i52p5 ((9,.bool true)::U) ?_
   refine qCp (λh=>?_) (λb N=>?_)
   ·let I:Env:=[(12,.ptr 0 4 0),(11,.own 2 (c).length 7),(10,.ptr 3 7 2),(9,.bool true),(9,.bool g.1),(8,.ptr 0 4 0),(0,.ptr 0 4 0),(2,.ptr 1 7 0),(3,.ptr 3 7 0)]
    let K:Blk:=⟨[.str a0,w34 z,.i g.2,.i E],4,false⟩
    exact qAo (eE:=((16,.top)::(15,.top)::(14,.top)::(13,.top)::I)) (i52d0.th 3 thrown [0,3] (mkH [K,o,u,q])) (hs:=[(mkH [K,o,u,q]),(mkH [K,o,u,q]),(mkH [K,o,u,q])]) (LX:=[⟨[.str a0,w34 z,.i Q,.i E],4,false⟩]) (L:=[K,o,u,q]) rfl rfl rfl Kr rfl ⟨.inl rfl,trivial⟩ Kr Kr Kr Kr (qA7 3 (l':=(opsAt i52p5).toList.drop 3) (eE:=I) (H':=(mkH [K,o,u,q])) (hs:=[]) Kr (qAn (l':=(opsAt i52p5).toList.drop 4) (eE:=((13,.top)::I)) (hs:=[(mkH [K,o,u,q])]) (fi:=29) (args:=[.ptr 0 4 0,.i 1]) Kr Kr (frS 0 (M:=[K,o,u,q]) (rs:=[0]) (ms:=[]) (mv:=[0,0,1]) (mm:=[0,0,1]) (D:=[0,3]) (xs':=[.ptr 0 4 0,.i 1]) (.refl) ((T.i5_ok (1:Int) a0 z g.2 E).2 h) trivial ⟨u29 _,trivial⟩ Kr) Kr (qA1 (l':=(opsAt i52p5).toList.drop 5) (eE:=((14,.top)::(13,.top)::I)) (hs:=[]) Kr Kr (qA1 (l':=(opsAt i52p5).toList.drop 6) (eE:=((15,.top)::(14,.top)::(13,.top)::I)) (hs:=[(mkH [K,o,u,q])]) Kr Kr (qA1 (l':=(opsAt i52p5).toList.drop 7) (eE:=((16,.top)::(15,.top)::(14,.top)::(13,.top)::I)) (hs:=[]) Kr Kr (qA1 (l':=(opsAt i52p5).toList.drop 8) (eE:=((16,.top)::(15,.top)::(14,.top)::(13,.top)::I)) (hs:=[(mkH [K,o,u,q])]) Kr Kr (.nil))))))) Kr Kr
   ·refine qA9 (λa O=>?_)
    let I:Env:=[(12,.ptr 0 4 0),(11,.own 2 (c).length 7),(10,.ptr 3 7 2),(9,.bool true),(9,.bool g.1),(8,.ptr 0 4 0),(0,.ptr 0 4 0),(2,.ptr 1 7 0),(3,.ptr 3 7 0)]
    let J:Blk:=⟨[.str a0,w34 z,.i b.2,.i E],4,false⟩
    refine oD (H':=(mkH [J,o,⟨(a).flatMap e29,0,false⟩,⟨[.i 25,.str [],.own 2 (a).length 7,.bool false,.bool false,.nils,.nils],7,false⟩])) (nav [0] i52p5) ((16,.ptr 3 7 2)::(15,.own 2 (a).length 7)::(14,w29 ([b.1]:List S28))::(13,n29 b.1)::I) [(mkH [J,o,u,q]),(mkH [J,o,⟨(a).flatMap e29,0,false⟩,q]),(mkH [J,o,⟨(a).flatMap e29,0,false⟩,⟨[.i 25,.str [],.own 2 (a).length 7,.bool false,.bool false,.nils,.nils],7,false⟩])] i52d0 (oDr 3 3 I (qA5 (l':=(opsAt i52p5).toList.drop 4) (eE:=((13,n29 b.1)::I)) (hs:=[(mkH [J,o,u,q])]) (H':=(mkH [J,o,u,q])) (fi:=29) (args:=[.ptr 0 4 0,.i 1]) (v:=n29 b.1) Kr (frC (rs:=[0]) (ms:=[]) (ms':=[]) ((T.i5_ok (1:Int) a0 z g.2 E).1 b N) trivial trivial Kr) Kr (oDr 1 5 ((14,w29 ([b.1]:List S28))::(13,n29 b.1)::I) (qAb (l':=(opsAt i52p5).toList.drop 6) (eE:=((15,.own 2 (a).length 7)::(14,w29 ([b.1]:List S28))::(13,n29 b.1)::I)) (hs:=[(mkH [J,o,⟨(a).flatMap e29,0,false⟩,q])]) (x:=a) (λ(a:List S28)=>(.own 2 (a).length 7,(mkH [J,o,⟨(a).flatMap e29,0,false⟩,q]))) (appHV (sz:=7) qA6 rfl qAx [J,o,u,q] 2 104 c ([b.1]:List S28) rfl rfl Kr) O Kr (oDh 2 8 ((16,.ptr 3 7 2)::(15,.own 2 (a).length 7)::(14,w29 ([b.1]:List S28))::(13,n29 b.1)::I) (mkH [J,o,⟨(a).flatMap e29,0,false⟩,⟨[.i 25,.str [],.own 2 (a).length 7,.bool false,.bool false,.nils,.nils],7,false⟩]) [(mkH [J,o,⟨(a).flatMap e29,0,false⟩,⟨[.i 25,.str [],.own 2 (a).length 7,.bool false,.bool false,.nils,.nils],7,false⟩])] .nil))))) ?_
    refine oK [0,2,3] [(0,.ptr 0 4 0),(2,.ptr 1 7 0),(3,.ptr 3 7 0)] ?_
    exact ih b.2 a
  ·exact oQF 8 [⟨[.str a0,w34 z,.i g.2,.i E],4,false⟩,q,u,q] 1 [] [.agg [.i 25,.str [],.own 2 (c).length 7,.bool false,.bool false,.nils,.nils]] (.agg [.i 25,.str [],w29 c,.bool false,.bool false,.vec 0 1 [],.vec 0 1 []]) (.agg (.cs (.cs (qAr qA6 qAh rfl rfl rfl (.cs (.cs (.nil (.nil .ps))))))) .ps) trivial
def i52B (k:Nat) (F:Fns0) (a0:LN) (b:List S33) (c:Int) (g:Int):Option (Option (S28×Int)) :=
 bT (F.i5 (1:Int) a0 b c g) λa=>qJe k F a0 b c g k a.2 ([a.1]:List S28)
theorem qM6 (k:Nat) (F:Fns0) (o:FnsOk0 F):∀ a0 b g c r,i52B k F a0 b g c=some r→CallT Try.prog 113 [.ptr 0 4 0] (mkH [⟨[.str a0,w34 b,.i g,.i c],4,false⟩]) ((Xi52 a0 b g c).thr r) ((Xi52 a0 b g c).enc r) ((Xi52 a0 b g c).fin r):=by
 intro a0 b g c r h
 refine qA2 (Xi52 a0 b g c) Try.func113 Kr Kr rfl (t:=i52B k F a0 b g c) ?_ h
 unfold i52B
 refine qA (eE:=[(0,.ptr 0 4 0)]) Kr ?_
 let j:Blk:=⟨[.i 0,.str [],.nils,.bool false,.bool false,.nils,.nils],0,false⟩
 refine oH 7 (atN 1 (ctl1 i52p1)) [(4,.ptr 0 4 0),(2,.ptr 1 7 0),(0,.ptr 0 4 0)] (mkH [⟨[.str a0,w34 b,.i g,.i c],4,false⟩,j]) ?_
 refine oX (λ(a:(S28×Int))=>n29 a.1) (λa=>[⟨[.str a0,w34 b,.i a.2,.i c],4,false⟩,j]) (atN 2 (ctl1 i52p1)) 5 [0] [] [] [0] [] [.ptr 0 4 0,.i 1] (o.i5_ok (1:Int) a0 b g c) trivial (λ_=>trivial) trivial λa n=>?_
 let q:Blk:=⟨[.str a0,w34 b,.i a.2,.i c],4,false⟩
 refine oH 1 (atN 3 (ctl1 i52p1)) [(6,.slice 2 7 0 1 7),(5,n29 a.1),(4,.ptr 0 4 0),(2,.ptr 1 7 0),(0,.ptr 0 4 0)] (mkH [q,j,⟨e29 a.1,0,false⟩]) ?_
 refine qCo 6 2 7 1 7 Kr rfl ?_
 refine oLH 7 i52p2 [(0,.ptr 0 4 0),(2,.ptr 1 7 0),(3,.ptr 3 7 0)] (mkH [q,j,⟨(([a.1]:List S28)).flatMap e29,0,false⟩,⟨[.i 25,.str [],.own 2 (([a.1]:List S28)).length 7,.bool false,.bool false,.nils,.nils],7,false⟩]) ?_
 exact (qQu k F o a0 b g c k) a.2 ([a.1]:List S28)
theorem i52B_ok (k:Nat) (F:Fns0) (a:FnsOk0 F):Pi52 (i52B k F):=λa0 b c g=>⟨λx h=>qM6 k F a a0 b c g (some x) h,λh=>⟨_,qM6 k F a a0 b c g none h⟩⟩
def i6p2:Pt:=nav [0,0,0,0,0] (nav [0,0,0,0] (nav [0] (bodyAt Try.f35)))
def i6p3:Pt:=nav [0,0] i6p2
def i6p4:Pt:=nav [0,0,0] i6p3
def i6p6:Pt:=nav [0,0,0] (nav [0,0,0] i6p4)
def i6p7:Pt:=nav [0,0,0,0] i6p6
def i6d0:DP:=⟨[],[(0,0,0),(1,0,0),(3,0,0),(7,0,0),(15,0,0),(31,0,0),(63,0,0),(127,0,0),(255,0,0),(31,0,0),(543,0,0),(1567,0,0),(3615,0,0),(31,0,0),(8223,0,0),(24607,0,0),(57375,0,0),(131071,0,0),(262143,0,0),(524287,0,0)],20,thrown,[],H0⟩
def qJc (k:Nat) (F:Fns0)  (a0:LN) (o:List S33) (q:Int) (ih:Int→(List S28)→Option (Option (S28×Int))):Int→(List S28)→Option (Option (S28×Int)) :=
 λ(b:Int) (c:List S28)=>jn (λ(u:Bool×Int×(List S28))=>(i12 k a0 o u.2.1 q).bind λj=>bT (F.i5 (0:Int) a0 o j.2 q) λa=>(appS 104 u.2.2 ([(⟨a.1.f0,a.1.f1,a.1.f2,a.1.f3,u.1,j.1,a.1.f6⟩:S28)]:List S28)).bind λg=>bT (i7 k ([44]:LN) a0 o a.2 q) λh=>if h.1 then (ih h.2 g) else (some (some ((⟨(25:Int),([]:LN),⟨(g).length,(g).flatMap e29⟩,false,false,([]:LL),([]:LL)⟩:S28),h.2)))) (λx=>if (decide (0 < (c.length:Int))) then ((g57 k a0 o b).bind λn=>x (n,b,c)) else (x (false,b,c)))
def qQq (k:Nat) (F:Fns0)  (a0:LN) (a:List S33) (b:Int) (n:Nat):Int→(List S28)→Option (Option (S28×Int)):=lp (λ_ _=>none) (qJc k F a0 a b) n
theorem i6_l5_ok (k:Nat) (F:Fns0) (hF:FnsOk0 F) (a0:LN) (q:List S33) (a2:Int) (u:Int)    : ∀ (n:Nat) (g:Int) (a:List S28),Ok (Xi6 a0 q a2 u) i6p2 [(0,.ptr 0 4 0),(2,.ptr 1 7 0),(3,.ptr 2 7 0)] (mkH [⟨[.str a0,w34 q,.i g,.i u],4,false⟩,⟨[.i 0,.str [],.nils,.bool false,.bool false,.nils,.nils],0,false⟩,⟨[.i 25,.str [],.own 3 (a).length 7,.bool false,.bool false,.nils,.nils],7,false⟩,⟨(a).flatMap e29,0,false⟩]) (qQq k F a0 q u n g a):=by
 intro n
 induction n with
 | zero=>intro g a; exact ok_none
 | succ n ih =>
  intro g a
  show Ok _ _ _ _ (qJc k F a0 q u (qQq k F a0 q u n) g a)
  unfold qJc
  let x:Blk:=⟨[.i 0,.str [],.nils,.bool false,.bool false,.nils,.nils],0,false⟩
  refine oJ i6p3 (λ(D:Bool×Int×(List S28))=>[(0,.ptr 0 4 0),(2,.ptr 1 7 0),(3,.ptr 2 7 0),(4,.bool D.1)]) (λ(D:Bool×Int×(List S28))=>(mkH [⟨[.str a0,w34 q,.i D.2.1,.i u],4,false⟩,x,⟨[.i 25,.str [],.own 3 (D.2.2).length 7,.bool false,.bool false,.nils,.nils],7,false⟩,⟨(D.2.2).flatMap e29,0,false⟩])) (λD=>?_) (λj6 Y=>?_)
  ·let E1:Env:=[(27,.ptr 0 4 0),(0,.ptr 0 4 0),(2,.ptr 1 7 0),(3,.ptr 2 7 0),(4,.bool D.1)]
   let N:Blk:=⟨[.i 25,.str [],.own 3 (D.2.2).length 7,.bool false,.bool false,.nils,.nils],7,false⟩
   let U:Blk:=⟨(D.2.2).flatMap e29,0,false⟩
   refine oH 2 (atN 1 (ctl1 i6p3)) E1 (mkH [⟨[.str a0,w34 q,.i D.2.1,.i u],4,false⟩,x,N,U]) ?_
   refine oN (λ(h:Ri12)=>w9 h.1) (λh=>[⟨[.str a0,w34 q,.i h.2,.i u],4,false⟩,x,N,U]) (atN 2 (ctl1 i6p3)) 28 [0] [] [] [.ptr 0 4 0] (qAm k a0 q D.2.1 u) trivial (λ_=>trivial) λh a8=>?_
   refine oR 5 (atN 1 (ctl1 i6p4)) ((29,.ptr 0 4 0)::(5,w9 h.1)::(28,w9 h.1)::E1) ?_
   refine oX (λ(b:(S28×Int))=>n29 b.1) (λb=>[⟨[.str a0,w34 q,.i b.2,.i u],4,false⟩,x,N,U]) (atN 2 (ctl1 i6p4)) 30 [0] [] [] [0,2] [0,0,0,1] [.ptr 0 4 0,.i 0] (hF.i5_ok (0:Int) a0 q h.2 u) trivial (λ_=>trivial) ⟨u29 _,trivial⟩ λb a9=>?_
   let E3:Env:=[(0,.ptr 0 4 0),(2,.ptr 1 7 0),(3,.ptr 2 7 0),(6,.ptr 4 7 0)]
   let Z:Blk:=⟨[.str a0,w34 q,.i b.2,.i u],4,false⟩
   let M:Blk:=⟨[.i b.1.f0,.str b.1.f1,q29 b.1.f2,.bool b.1.f3,.bool D.1,w9 h.1,w9 b.1.f6],7,false⟩
   refine oLH 13 i6p6 E3 (mkH [Z,x,N,U,M]) ?_
   let O:Blk:=⟨[.i b.1.f0,.str b.1.f1,q29 b.1.f2,.bool b.1.f3,.bool D.1,w9 h.1,w9 b.1.f6],0,false⟩
   refine oH 5 (atN 4 (ctl1 i6p6)) ((38,.slice 5 7 0 1 7)::(37,.agg [.i b.1.f0,.str b.1.f1,q29 b.1.f2,.bool b.1.f3,.bool D.1,w9 h.1,w9 b.1.f6])::(36,.own 3 (D.2.2).length 7)::(35,.ptr 2 7 2)::E3) (mkH [Z,x,N,U,M,O]) ?_
   refine oC (λ(j:List S28)=>(.own 3 (j).length 7,(mkH [Z,x,N,⟨(j).flatMap e29,0,false⟩,M,O]))) (atN 5 (ctl1 i6p6)) 39 (appH (sz:=7) qA6 rfl qAx [Z,x,N,U,M,O] 3 104 D.2.2 ([(⟨b.1.f0,b.1.f1,b.1.f2,b.1.f3,D.1,h.1,b.1.f6⟩:S28)]:List S28) rfl rfl Kr) λj b0=>?_
   let E5:Env:=[(0,.ptr 0 4 0),(2,.ptr 1 7 0),(3,.ptr 2 7 0)]
   let Q7:Blk:=⟨[.i 25,.str [],.own 3 (j).length 7,.bool false,.bool false,.nils,.nils],7,false⟩
   let Q8:Blk:=⟨(j).flatMap e29,0,false⟩
   refine oLH 5 i6p7 E5 (mkH [Z,x,Q7,Q8,M,O]) ?_
   refine oR 2 (atN 1 (ctl1 i6p7)) ((41,.ptr 0 4 0)::E5) ?_
   refine oX (λ(o:(Bool×Int)) => .bool o.1) (λo=>[⟨[.str a0,w34 q,.i o.2,.i u],4,false⟩,x,Q7,Q8,M,O]) (atN 2 (ctl1 i6p7)) 42 [0] [] [] [2] [0,0,0,1] [.ptr 0 4 0,.str [44]] (qAj k ([44]:LN) a0 q b.2 u) trivial (λ_=>trivial) ⟨u29 _,trivial⟩ λo b2=>?_
   refine oR 1 (nav [0,0] i6p7) ((42,.bool o.1)::(41,.ptr 0 4 0)::E5) ?_
   refine oS 42 (λhb=>?_) (λhb=>?_)
   ·refine oL 5 i6p2 [(0,.ptr 0 4 0),(2,.ptr 1 7 0),(3,.ptr 2 7 0)] ?_
    refine qAf [⟨[.str a0,w34 q,.i o.2,.i u],4,false⟩,x,Q7,Q8] [M,O] Kr rfl Kr ⟨Kr,⟨Kr,⟨Kr,⟨(qA3 _ (u29 _)),trivial⟩⟩⟩⟩ ?_
    exact ih o.2 j
   ·exact oQF 8 [⟨[.str a0,w34 q,.i o.2,.i u],4,false⟩,Q7,Q7,Q8,M,O] 1 [] [.agg [.i 25,.str [],.own 3 (j).length 7,.bool false,.bool false,.nils,.nils]] (.agg [.i 25,.str [],w29 j,.bool false,.bool false,.vec 0 1 [],.vec 0 1 []]) (.agg (.cs (.cs (qAr qA6 qAh rfl rfl rfl (.cs (.cs (.nil (.nil .ps))))))) .ps) trivial
  ·refine qGn (λQ=>?_) (λQ=>?_)
   ·refine qA9 (λc E=>?_)
    let E7:Env:=[(12,.bool (decide (0 < (a.length:Int)))),(11,.bool (decide (0 < (a.length:Int)))),(10,.i (a.length:Int)),(9,.own 3 (a).length 7),(8,.ptr 2 7 2),(0,.ptr 0 4 0),(2,.ptr 1 7 0),(3,.ptr 2 7 0)]
    let E8:Env:=[(24,.i g),(23,.ptr 0 4 2),(22,.ptr 0 4 0),(21,.ptr 0 4 0),(20,w34 q),(19,.ptr 0 4 1),(18,.ptr 0 4 0),(17,.ptr 0 4 0),(16,.str a0),(15,.ptr 0 4 0),(14,.ptr 0 4 0),(13,.ptr 0 4 0),(12,.bool true),(11,.bool true),(10,.i (a.length:Int)),(9,.own 3 (a).length 7),(8,.ptr 2 7 2),(0,.ptr 0 4 0),(2,.ptr 1 7 0),(3,.ptr 2 7 0)]
    let Q9:Blk:=⟨[.str a0,w34 q,.i g,.i u],4,false⟩
    let S:Blk:=⟨[.i 25,.str [],.own 3 (a).length 7,.bool false,.bool false,.nils,.nils],7,false⟩
    let T:Blk:=⟨(a).flatMap e29,0,false⟩
    refine oD (H':=(mkH [Q9,x,S,T])) (nav [0] i6p2) ((4,.bool c)::(26,.bool c)::(25,.bool c)::E8) [(mkH [Q9,x,S,T])] i6d0 (oDr 5 5 E7 (oDe (λz=>[(12,.bool z),(11,.bool z),(10,.i (a.length:Int)),(9,.own 3 (a).length 7),(8,.ptr 2 7 2),(0,.ptr 0 4 0),(2,.ptr 1 7 0),(3,.ptr 2 7 0)]) Q (oDr 12 17 E8 (qAu (l':=(opsAt i6p2).toList.drop 18) (eE:=((25,.bool c)::E8)) (hs:=[(mkH [Q9,x,S,T])]) (fi:=57) (args:=[.str a0,w34 q,.i g]) (v := .bool c) Kr Kr Kr (g57_ok k a0 q g c E) Kr (oDr 2 20 ((4,.bool c)::(26,.bool c)::(25,.bool c)::E8) .nil))))) ?_
    refine oL 1 i6p3 [(0,.ptr 0 4 0),(2,.ptr 1 7 0),(3,.ptr 2 7 0),(4,.bool c)] ?_
    exact Y (c,g,a)
   ·let E7:Env:=[(12,.bool (decide (0 < (a.length:Int)))),(11,.bool (decide (0 < (a.length:Int)))),(10,.i (a.length:Int)),(9,.own 3 (a).length 7),(8,.ptr 2 7 2),(0,.ptr 0 4 0),(2,.ptr 1 7 0),(3,.ptr 2 7 0)]
    let a5:Env:=[(4,.bool false),(26,.bool false),(25,.tuple []),(24,.tuple []),(23,.tuple []),(22,.tuple []),(21,.tuple []),(20,.tuple []),(19,.tuple []),(18,.tuple []),(17,.tuple []),(16,.tuple []),(15,.tuple []),(14,.tuple []),(13,.tuple []),(12,.bool false),(11,.bool false),(10,.i (a.length:Int)),(9,.own 3 (a).length 7),(8,.ptr 2 7 2),(0,.ptr 0 4 0),(2,.ptr 1 7 0),(3,.ptr 2 7 0)]
    let I:Blk:=⟨[.str a0,w34 q,.i g,.i u],4,false⟩
    let J:Blk:=⟨[.i 25,.str [],.own 3 (a).length 7,.bool false,.bool false,.nils,.nils],7,false⟩
    let K:Blk:=⟨(a).flatMap e29,0,false⟩
    refine oD (H':=(mkH [I,x,J,K])) (nav [0] i6p2) a5 [(mkH [I,x,J,K])] i6d0 (oDr 5 5 E7 (oDe (λz=>[(12,.bool z),(11,.bool z),(10,.i (a.length:Int)),(9,.own 3 (a).length 7),(8,.ptr 2 7 2),(0,.ptr 0 4 0),(2,.ptr 1 7 0),(3,.ptr 2 7 0)]) Q (oDh 15 20 a5 (mkH [I,x,J,K]) [(mkH [I,x,J,K])] .nil))) ?_
    refine oL 1 i6p3 [(0,.ptr 0 4 0),(2,.ptr 1 7 0),(3,.ptr 2 7 0),(4,.bool false)] ?_
    exact Y (false,g,a)
def i6B (k:Nat) (F:Fns0) (a0:LN) (a:List S33) (b:Int) (c:Int):Option (Option (S28×Int)) :=
 qQq k F a0 a c k b ([]:List S28)
theorem qQr (k:Nat) (F:Fns0) (q:FnsOk0 F):∀ a0 b a c r,i6B k F a0 b a c=some r→CallT Try.prog 35 [.ptr 0 4 0] (mkH [⟨[.str a0,w34 b,.i a,.i c],4,false⟩]) ((Xi6 a0 b a c).thr r) ((Xi6 a0 b a c).enc r) ((Xi6 a0 b a c).fin r):=by
 intro a0 b a c r h
 refine qA2 (Xi6 a0 b a c) Try.func35 Kr Kr rfl (t:=i6B k F a0 b a c) ?_ h
 unfold i6B
 refine qA (eE:=[(0,.ptr 0 4 0)]) Kr ?_
 let g:Blk:=⟨[.str a0,w34 b,.i a,.i c],4,false⟩
 let j:Blk:=⟨[.i 0,.str [],.nils,.bool false,.bool false,.nils,.nils],0,false⟩
 let n:Blk:=⟨[.i 25,.str [],.nils,.bool false,.bool false,.nils,.nils],7,false⟩
 refine oH 14 i6p2 [(3,.ptr 2 7 0),(7,.agg [.i 25,.str [],.nils,.bool false,.bool false,.nils,.nils]),(2,.ptr 1 7 0),(0,.ptr 0 4 0)] (mkH [g,j,n]) ?_
 refine qI9 [g,j,n] Kr ?_
 let o:Blk:=⟨(([]:List S28)).flatMap e29,0,false⟩
 refine oHp (mkH [g,j,n,o]) ?_
 refine qDv [g,j,n,o] 2 7 [.i 25,.str [],.nils,.bool false,.bool false,.nils,.nils] [.i 25,.str [],.own 3 (([]:List S28)).length 7,.bool false,.bool false,.nils,.nils] Kr rfl (.cons (.cons (.none (.refl)))) ?_
 refine oHp (mkH [g,j,⟨[.i 25,.str [],.own 3 (([]:List S28)).length 7,.bool false,.bool false,.nils,.nils],7,false⟩,o]) ?_
 refine oK [0,2,3] [(0,.ptr 0 4 0),(2,.ptr 1 7 0),(3,.ptr 2 7 0)] ?_
 exact (i6_l5_ok k F q a0 b a c k) a ([]:List S28)
theorem i6B_ok (k:Nat) (F:Fns0) (a:FnsOk0 F):Pi6 (i6B k F):=λa0 b c g=>⟨λx h=>qQr k F a a0 b c g (some x) h,λh=>⟨_,qQr k F a a0 b c g none h⟩⟩
def i8p1:Pt:=nav [0,0,0] (nav [0] (bodyAt Try.f48))
def i8p2:Pt:=nav [0,0,0,0] i8p1
def i8p3:Pt:=nav [0,0] i8p2
def i8p4:Pt:=nav [1,0] i8p3
def i8p5:Pt:=nav [2,0,0] i8p3
def i8p6:Pt:=nav [0,0,0] i8p4
def i8p7:Pt:=nav [0,0,0] i8p5
def i8p8:Pt:=nav [0,0,0] i8p6
def i8d0:DP:=⟨[31],[(0,0,0),(1,0,1),(0,0,1),(4,0,0),(15,0,0),(0,0,0),(32,0,0),(96,0,0),(255,0,0),(511,0,0)],10,thrown,[],H0⟩
def i8B (k:Nat) (F:Fns0) (a0:LN) (h:List S33) (x:Int) (j:Int):Option (Option Ri8) :=
 (i9 k a0 h x j).bind λa=>(i10 k a.f1 a0 h x j).bind λn=>jn (λ(D:Bool)=>if D then (bT (i11 k a0 h x j) λo=>bT (F.i8 a0 h o j) λb=>(g65 k a.f1).bind λq=>some (some ((⟨(13:Int),a.f1,⟨(([b.1]:List S28)).length,(([b.1]:List S28)).flatMap e29⟩,false,false,([]:LL),([]:LL)⟩:S28),q,b.2.2))) else (bT (F.i13 a0 h x j) λc=>bT (F.i14 c.1 c.2.1 a0 h c.2.2 j) λg=>some (some (g.1,(11:Int),g.2)))) (λz=>if n then ((g65 k a.f1).bind λu=>z (decide (0 < u))) else (z false))
theorem qQp (k:Nat) (F:Fns0) (O:FnsOk0 F):∀ a0 o D q r,i8B k F a0 o D q=some r→CallT Try.prog 48 [.ptr 0 4 0] (mkH [⟨[.str a0,w34 o,.i D,.i q],4,false⟩]) ((Xi8 a0 o D q).thr r) ((Xi8 a0 o D q).enc r) ((Xi8 a0 o D q).fin r):=by
 intro a0 o D q r h
 refine qA2 (Xi8 a0 o D q) Try.func48 Kr Kr rfl (t:=i8B k F a0 o D q) ?_ h
 unfold i8B
 refine qA (eE:=[(0,.ptr 0 4 0)]) Kr ?_
 let E:Blk:=⟨[.str a0,w34 o,.i D,.i q],4,false⟩
 let u:Blk:=⟨[.i 0,.str [],.nils,.bool false,.bool false,.nils,.nils],0,false⟩
 refine oH 8 (atN 1 (ctl1 i8p1)) [(9,.ptr 0 4 0),(3,.i 0),(2,.ptr 1 7 0),(0,.ptr 0 4 0)] (mkH [E,u]) ?_
 refine oN (λ(a:S33)=>n34 a) (λa=>[E,u]) (atN 2 (ctl1 i8p1)) 10 [0] [] [] [.ptr 0 4 0] (qOb k a0 o D q) trivial (λ_=>trivial) λa Q=>?_
 let S:Env:=[(13,.str a.f1),(12,.ptr 2 3 1),(11,.ptr 0 4 0),(4,.ptr 2 3 0),(10,n34 a),(9,.ptr 0 4 0),(3,.i 0),(2,.ptr 1 7 0),(0,.ptr 0 4 0)]
 refine oH 9 (atN 3 (ctl1 i8p2)) S (mkH [E,u,⟨e34 a,3,false⟩]) ?_
 refine oN (λ(n:Bool) => .bool n) (λn=>[E,u,⟨e34 a,3,false⟩]) (atN 4 (ctl1 i8p2)) 14 [0] [] [] [.ptr 0 4 0,.str a.f1] (qJp k a.f1 a0 o D q) trivial (λ_=>trivial) λn T=>?_
 refine oR 1 (atN 5 (ctl1 i8p2)) ((15,.bool n)::(14,.bool n)::S) ?_
 refine oJ i8p3 (λ(J:Bool)=>[(0,.ptr 0 4 0),(2,.ptr 1 7 0),(4,.ptr 2 3 0),(20,.bool J)]) (λ(J:Bool)=>(mkH [E,u,⟨e34 a,3,false⟩])) (λJ=>?_) (λj7 K=>?_)
 ·refine oS 20 (λU=>?_) (λU=>?_)
  ·let E2:Env:=[(21,.ptr 0 4 0),(20,.bool true),(0,.ptr 0 4 0),(2,.ptr 1 7 0),(4,.ptr 2 3 0),(20,.bool J)]
   refine oH 4 (atN 1 (ctl1 i8p4)) E2 (mkH [E,u,⟨e34 a,3,false⟩]) ?_
   refine oX (λ(x:Int) => .tuple []) (λx=>[⟨[.str a0,w34 o,.i x,.i q],4,false⟩,u,⟨e34 a,3,false⟩]) (atN 2 (ctl1 i8p4)) 22 [0] [] [] [] [] [.ptr 0 4 0] (qH9 k a0 o D q) trivial (λ_=>trivial) trivial λx Y=>?_
   refine oR 4 (atN 1 (ctl1 i8p6)) ((24,.ptr 0 4 0)::(22,.tuple [])::E2) ?_
   refine oX (λ(c:Ri8) => .tuple [n29 c.1,.i c.2.1]) (λc=>[⟨[.str a0,w34 o,.i c.2.2,.i q],4,false⟩,u,⟨e34 a,3,false⟩]) (atN 2 (ctl1 i8p6)) 25 [0] [] [] [0] [] [.ptr 0 4 0] (O.i8_ok a0 o x q) trivial (λ_=>trivial) trivial λc Z=>?_
   let Q3:Blk:=⟨[.str a0,w34 o,.i c.2.2,.i q],4,false⟩
   let K1:List Blk:=[Q3,u,⟨e34 a,3,false⟩,⟨e29 c.1,7,false⟩]
   refine oLH 8 i8p8 [(2,.ptr 1 7 0),(4,.ptr 2 3 0),(5,.ptr 3 7 0)] (mkH K1) ?_
   refine qA9 (λg I=>?_)
   let N:Env:=[(34,.str a.f1),(33,.ptr 2 3 1),(32,.agg [.i 13,.str a.f1,w29 ([c.1]:List S28),.bool false,.bool false,.nils,.nils]),(31,w29 ([c.1]:List S28)),(30,n29 c.1),(29,.str a.f1),(28,.ptr 2 3 1),(2,.ptr 1 7 0),(4,.ptr 2 3 0),(5,.ptr 3 7 0)]
   let M:List Blk:=[Q3,⟨[.i 13,.str a.f1,w29 ([c.1]:List S28),.bool false,.bool false,.nils,.nils],7,false⟩,⟨e34 a,3,false⟩,⟨e29 c.1,7,false⟩]
   refine oD (H':=(mkH M)) (nav [0] i8p8) ((3,.i g)::(35,.i g)::N) [(mkH K1),(mkH M)] i8d0 (oDr 7 7 N (qAu (l':=(opsAt i8p8).toList.drop 8) (eE:=((35,.i g)::N)) (hs:=[(mkH K1)]) (fi:=65) (args:=[.str a.f1]) (v := .i g) Kr Kr Kr (g65_ok k a.f1 g I) Kr (oDh 2 10 ((3,.i g)::(35,.i g)::N) (mkH M) [(mkH M)] .nil))) ?_
   exact oQF 1 M 1 [] [.agg [.i 13,.str a.f1,w29 ([c.1]:List S28),.bool false,.bool false,.nils,.nils],.i g] (.tuple [.agg [.i 13,.str a.f1,w29 ([c.1]:List S28),.bool false,.bool false,.vec 0 1 [],.vec 0 1 []],.i g]) (.tuple (.agg (.cs (.cs (.cs (.cs (.cs (.nil (.nil .ps))))))) .ps) .ps) trivial
  ·refine oH 5 (atN 1 (ctl1 i8p5)) [(37,.ptr 0 4 0),(20,.bool false),(0,.ptr 0 4 0),(2,.ptr 1 7 0),(4,.ptr 2 3 0),(20,.bool J)] (mkH [E,u,⟨e34 a,3,false⟩]) ?_
   refine oX (λ(b:Ri13) => .tuple [n29 b.1,.bool b.2.1]) (λb=>[⟨[.str a0,w34 o,.i b.2.2,.i q],4,false⟩,u,⟨e34 a,3,false⟩]) (atN 2 (ctl1 i8p5)) 38 [0] [] [] [0] [] [.ptr 0 4 0] (O.i13_ok a0 o D q) trivial (λ_=>trivial) trivial λb a5=>?_
   let E8:Env:=[(0,.ptr 0 4 0),(2,.ptr 1 7 0),(7,.ptr 3 7 0),(8,.bool b.2.1)]
   refine oLH 8 i8p7 E8 (mkH [⟨[.str a0,w34 o,.i b.2.2,.i q],4,false⟩,u,⟨e34 a,3,false⟩,⟨e29 b.1,7,false⟩]) ?_
   refine oR 4 (atN 3 (ctl1 i8p7)) ((43,.bool b.2.1)::(42,n29 b.1)::(41,.ptr 0 4 0)::E8) ?_
   refine oX (λ(j:(S28×Int))=>n29 j.1) (λj=>[⟨[.str a0,w34 o,.i j.2,.i q],4,false⟩,u,⟨e34 a,3,false⟩,⟨e29 b.1,7,false⟩]) (atN 4 (ctl1 i8p7)) 44 [0] [] [] [0] [] [.ptr 0 4 0,n29 b.1,.bool b.2.1] (O.i14_ok b.1 b.2.1 a0 o b.2.2 q) trivial (λ_=>trivial) trivial λj a6=>?_
   exact oQF 4 [⟨[.str a0,w34 o,.i j.2,.i q],4,false⟩,⟨e29 j.1,7,false⟩,⟨e34 a,3,false⟩,⟨e29 b.1,7,false⟩] 1 [] [n29 j.1,.i 11] (.tuple [n29 j.1,.i 11]) .ps trivial
 ·refine oS 15 (λU=>?_) (λU=>?_)
  ·refine oH 2 (atN 7 (ctl1 i8p2)) ((17,.str a.f1)::(16,.ptr 2 3 1)::(15,.bool true)::(15,.bool n)::(14,.bool n)::S) (mkH [E,u,⟨e34 a,3,false⟩]) ?_
   refine oA (λ(z:Int) => .i z) (atN 8 (ctl1 i8p2)) 18 [.str a.f1] (g65_ok k a.f1) λz a7=>?_
   refine oL 3 i8p3 [(0,.ptr 0 4 0),(2,.ptr 1 7 0),(4,.ptr 2 3 0),(20,.bool (decide (0 < z)))] ?_
   exact K (decide (0 < z))
  ·refine oLH 6 i8p3 [(0,.ptr 0 4 0),(2,.ptr 1 7 0),(4,.ptr 2 3 0),(20,.bool false)] (mkH [E,u,⟨e34 a,3,false⟩]) ?_
   exact K false
theorem i8B_ok (k:Nat) (F:Fns0) (a:FnsOk0 F):Pi8 (i8B k F):=λa0 b c g=>⟨λx h=>qQp k F a a0 b c g (some x) h,λh=>⟨_,qQp k F a a0 b c g none h⟩⟩
def par0 (n:Nat):Fns0:=Nat.rec (motive:=λ_=>Fns0) ⟨λ_ _ _ _ _=>none,λ_ _ _ _=>none,λ_ _ _ _=>none,λ_ _ _ _=>none,λ_ _ _ _ _ _=>none,λ_ _ _ _=>none,λ_ _ _ _ _ _ _ _ _ _ _ _=>none,λ_ _ _ _=>none,λ_ _ _ _ _ _ _ _ _ _ _ _=>none,λ_ _ _ _ _ _ _ _ _ _ _ _=>none,λ_ _ _ _=>none,λ_ _ _ _=>none,λ_ _ _ _ _=>none,λ_ _ _ _=>none,λ_ _ _ _ _ _ _ _ _ _ _=>none,λ_ _ _ _=>none,λ_ _ _ _=>none,λ_ _ _ _=>none,λ_ _ _ _ _ _ _ _ _ _ _=>none,λ_ _ _ _ _ _ _ _ _ _ _=>none,λ_ _ _ _=>none,λ_ _ _ _ _=>none,λ_ _ _ _ _=>none,λ_ _ _ _ _=>none,λ_ _ _ _ _=>none,λ_ _ _ _=>none,λ_ _ _ _=>none,λ_ _ _ _=>none,λ_ _ _ _ _ _ _=>none,λ_ _ _ _ _=>none,λ_ _ _ _=>none,λ_ _ _ _=>none,λ_ _ _ _=>none,λ_ _ _ _=>none⟩ (λk F=>⟨i5B k F,i6B k F,i8B k F,i13B k F,i14B k F,i17B k F,i18B k F,i19B k F,i20B k F,i21B k F,i24B k F,i25B k F,i26B k F,i29B k F,i30B k F,i31B k F,i32B k F,i34B k F,i36B k F,i37B k F,i38B k F,i40B k F,i41B k F,i42B k F,i43B k F,i44B k F,i45B k F,i46B k F,i47B k F,i48B k F,i49B k F,i50B k F,i51B k F,i52B k F⟩) n
theorem qA0 : ∀ k, FnsOk0 (par0 k)
 | 0=>⟨(λ_ _ _ _ _=>⟨λ_ h=>(nomatch h),λh=>(nomatch h)⟩),(λ_ _ _ _=>⟨λ_ h=>(nomatch h),λh=>(nomatch h)⟩),(λ_ _ _ _=>⟨λ_ h=>(nomatch h),λh=>(nomatch h)⟩),(λ_ _ _ _=>⟨λ_ h=>(nomatch h),λh=>(nomatch h)⟩),(λ_ _ _ _ _ _=>⟨λ_ h=>(nomatch h),λh=>(nomatch h)⟩),(λ_ _ _ _=>⟨λ_ h=>(nomatch h),λh=>(nomatch h)⟩),(λ_ _ _ _ _ _ _ _ _ _ _ _=>⟨λ_ h=>(nomatch h),λh=>(nomatch h)⟩),(λ_ _ _ _=>⟨λ_ h=>(nomatch h),λh=>(nomatch h)⟩),(λ_ _ _ _ _ _ _ _ _ _ _ _=>⟨λ_ h=>(nomatch h),λh=>(nomatch h)⟩),(λ_ _ _ _ _ _ _ _ _ _ _ _=>⟨λ_ h=>(nomatch h),λh=>(nomatch h)⟩),(λ_ _ _ _=>⟨λ_ h=>(nomatch h),λh=>(nomatch h)⟩),(λ_ _ _ _=>⟨λ_ h=>(nomatch h),λh=>(nomatch h)⟩),(λ_ _ _ _ _=>⟨λ_ h=>(nomatch h),λh=>(nomatch h)⟩),(λ_ _ _ _=>⟨λ_ h=>(nomatch h),λh=>(nomatch h)⟩),(λ_ _ _ _ _ _ _ _ _ _ _=>⟨λ_ h=>(nomatch h),λh=>(nomatch h)⟩),(λ_ _ _ _=>⟨λ_ h=>(nomatch h),λh=>(nomatch h)⟩),(λ_ _ _ _=>⟨λ_ h=>(nomatch h),λh=>(nomatch h)⟩),(λ_ _ _ _=>⟨λ_ h=>(nomatch h),λh=>(nomatch h)⟩),(λ_ _ _ _ _ _ _ _ _ _ _=>⟨λ_ h=>(nomatch h),λh=>(nomatch h)⟩),(λ_ _ _ _ _ _ _ _ _ _ _=>⟨λ_ h=>(nomatch h),λh=>(nomatch h)⟩),(λ_ _ _ _=>⟨λ_ h=>(nomatch h),λh=>(nomatch h)⟩),(λ_ _ _ _ _=>⟨λ_ h=>(nomatch h),λh=>(nomatch h)⟩),(λ_ _ _ _ _=>⟨λ_ h=>(nomatch h),λh=>(nomatch h)⟩),(λ_ _ _ _ _=>⟨λ_ h=>(nomatch h),λh=>(nomatch h)⟩),(λ_ _ _ _ _=>⟨λ_ h=>(nomatch h),λh=>(nomatch h)⟩),(λ_ _ _ _=>⟨λ_ h=>(nomatch h),λh=>(nomatch h)⟩),(λ_ _ _ _=>⟨λ_ h=>(nomatch h),λh=>(nomatch h)⟩),(λ_ _ _ _=>⟨λ_ h=>(nomatch h),λh=>(nomatch h)⟩),(λ_ _ _ _ _ _ _=>⟨λ_ h=>(nomatch h),λh=>(nomatch h)⟩),(λ_ _ _ _ _=>⟨λ_ h=>(nomatch h),λh=>(nomatch h)⟩),(λ_ _ _ _=>⟨λ_ h=>(nomatch h),λh=>(nomatch h)⟩),(λ_ _ _ _=>⟨λ_ h=>(nomatch h),λh=>(nomatch h)⟩),(λ_ _ _ _=>⟨λ_ h=>(nomatch h),λh=>(nomatch h)⟩),(λ_ _ _ _=>⟨λ_ h=>(nomatch h),λh=>(nomatch h)⟩)⟩
 | k+1=>⟨i5B_ok k (par0 k) (qA0 k),i6B_ok k (par0 k) (qA0 k),i8B_ok k (par0 k) (qA0 k),i13B_ok k (par0 k) (qA0 k),i14B_ok k (par0 k) (qA0 k),i17B_ok k (par0 k) (qA0 k),i18B_ok k (par0 k) (qA0 k),i19B_ok k (par0 k) (qA0 k),i20B_ok k (par0 k) (qA0 k),i21B_ok k (par0 k) (qA0 k),i24B_ok k (par0 k) (qA0 k),i25B_ok k (par0 k) (qA0 k),i26B_ok k (par0 k) (qA0 k),i29B_ok k (par0 k) (qA0 k),i30B_ok k (par0 k) (qA0 k),i31B_ok k (par0 k) (qA0 k),i32B_ok k (par0 k) (qA0 k),i34B_ok k (par0 k) (qA0 k),i36B_ok k (par0 k) (qA0 k),i37B_ok k (par0 k) (qA0 k),i38B_ok k (par0 k) (qA0 k),i40B_ok k (par0 k) (qA0 k),i41B_ok k (par0 k) (qA0 k),i42B_ok k (par0 k) (qA0 k),i43B_ok k (par0 k) (qA0 k),i44B_ok k (par0 k) (qA0 k),i45B_ok k (par0 k) (qA0 k),i46B_ok k (par0 k) (qA0 k),i47B_ok k (par0 k) (qA0 k),i48B_ok k (par0 k) (qA0 k),i49B_ok k (par0 k) (qA0 k),i50B_ok k (par0 k) (qA0 k),i51B_ok k (par0 k) (qA0 k),i52B_ok k (par0 k) (qA0 k)⟩
def i5 (k:Nat):Ti5:=(par0 k).i5
theorem i5_ok (k:Nat):Pi5 (i5 k):=(qA0 k).i5_ok
def i6 (k:Nat):Ti6:=(par0 k).i6
theorem i6_ok (k:Nat):Pi6 (i6 k):=(qA0 k).i6_ok
def i8 (k:Nat):Ti8:=(par0 k).i8
theorem i8_ok (k:Nat):Pi8 (i8 k):=(qA0 k).i8_ok
def i13 (k:Nat):Ti13:=(par0 k).i13
theorem i13_ok (k:Nat):Pi13 (i13 k):=(qA0 k).i13_ok
def i14 (k:Nat):Ti14:=(par0 k).i14
theorem i14_ok (k:Nat):Pi14 (i14 k):=(qA0 k).i14_ok
def i17 (k:Nat):Ti17:=(par0 k).i17
theorem i17_ok (k:Nat):Pi17 (i17 k):=(qA0 k).i17_ok
def i18 (k:Nat):Ti18:=(par0 k).i18
theorem i18_ok (k:Nat):Pi18 (i18 k):=(qA0 k).i18_ok
def i19 (k:Nat):Ti19:=(par0 k).i19
theorem i19_ok (k:Nat):Pi19 (i19 k):=(qA0 k).i19_ok
def i20 (k:Nat):Ti20:=(par0 k).i20
theorem i20_ok (k:Nat):Pi20 (i20 k):=(qA0 k).i20_ok
def i21 (k:Nat):Ti21:=(par0 k).i21
theorem i21_ok (k:Nat):Pi21 (i21 k):=(qA0 k).i21_ok
def i24 (k:Nat):Ti24:=(par0 k).i24
theorem i24_ok (k:Nat):Pi24 (i24 k):=(qA0 k).i24_ok
def i25 (k:Nat):Ti25:=(par0 k).i25
theorem i25_ok (k:Nat):Pi25 (i25 k):=(qA0 k).i25_ok
def i26 (k:Nat):Ti26:=(par0 k).i26
theorem i26_ok (k:Nat):Pi26 (i26 k):=(qA0 k).i26_ok
def i29 (k:Nat):Ti29:=(par0 k).i29
theorem i29_ok (k:Nat):Pi29 (i29 k):=(qA0 k).i29_ok
def i30 (k:Nat):Ti30:=(par0 k).i30
theorem i30_ok (k:Nat):Pi30 (i30 k):=(qA0 k).i30_ok
def i31 (k:Nat):Ti31:=(par0 k).i31
theorem i31_ok (k:Nat):Pi31 (i31 k):=(qA0 k).i31_ok
def i32 (k:Nat):Ti32:=(par0 k).i32
theorem i32_ok (k:Nat):Pi32 (i32 k):=(qA0 k).i32_ok
def i34 (k:Nat):Ti34:=(par0 k).i34
theorem i34_ok (k:Nat):Pi34 (i34 k):=(qA0 k).i34_ok
def i36 (k:Nat):Ti36:=(par0 k).i36
theorem i36_ok (k:Nat):Pi36 (i36 k):=(qA0 k).i36_ok
def i37 (k:Nat):Ti37:=(par0 k).i37
theorem i37_ok (k:Nat):Pi37 (i37 k):=(qA0 k).i37_ok
def i38 (k:Nat):Ti38:=(par0 k).i38
theorem i38_ok (k:Nat):Pi38 (i38 k):=(qA0 k).i38_ok
def i40 (k:Nat):Ti40:=(par0 k).i40
theorem i40_ok (k:Nat):Pi40 (i40 k):=(qA0 k).i40_ok
def i41 (k:Nat):Ti41:=(par0 k).i41
theorem i41_ok (k:Nat):Pi41 (i41 k):=(qA0 k).i41_ok
def i42 (k:Nat):Ti42:=(par0 k).i42
theorem i42_ok (k:Nat):Pi42 (i42 k):=(qA0 k).i42_ok
def i43 (k:Nat):Ti43:=(par0 k).i43
theorem i43_ok (k:Nat):Pi43 (i43 k):=(qA0 k).i43_ok
def i44 (k:Nat):Ti44:=(par0 k).i44
theorem i44_ok (k:Nat):Pi44 (i44 k):=(qA0 k).i44_ok
def i45 (k:Nat):Ti45:=(par0 k).i45
theorem i45_ok (k:Nat):Pi45 (i45 k):=(qA0 k).i45_ok
def i46 (k:Nat):Ti46:=(par0 k).i46
theorem i46_ok (k:Nat):Pi46 (i46 k):=(qA0 k).i46_ok
def i47 (k:Nat):Ti47:=(par0 k).i47
theorem i47_ok (k:Nat):Pi47 (i47 k):=(qA0 k).i47_ok
def i48 (k:Nat):Ti48:=(par0 k).i48
theorem i48_ok (k:Nat):Pi48 (i48 k):=(qA0 k).i48_ok
def i49 (k:Nat):Ti49:=(par0 k).i49
theorem i49_ok (k:Nat):Pi49 (i49 k):=(qA0 k).i49_ok
def i50 (k:Nat):Ti50:=(par0 k).i50
theorem i50_ok (k:Nat):Pi50 (i50 k):=(qA0 k).i50_ok
def i51 (k:Nat):Ti51:=(par0 k).i51
theorem i51_ok (k:Nat):Pi51 (i51 k):=(qA0 k).i51_ok
def i52 (k:Nat):Ti52:=(par0 k).i52
theorem i52_ok (k:Nat):Pi52 (i52 k):=(qA0 k).i52_ok
end
abbrev Tkn:Type:=S33×Int
def pos (to:Int) (ts:List Tkn):Int:=to - (ts.length:Int)
structure Vw (k:Nat) (s:LN) (L:List S33) (to:Int) (W:List Tkn):Prop where
 len:(W.length:Int)=to
 get:∀ (i:Nat) t,W[i]? = some t→nthL L (i:Int)=some t.1∧g72 k s L (i:Int)=some t.2
 fin:g72 k s L to=some 0
 sm:W.length < 1000000
 fu:W.length < k
def SimN {α β:Type} (tr:α→β) (ok:α→Prop) (a:Option β) (b:Option α):Prop := ∀ x,b=some x→a=some (tr x)∧ok x
def oTh {α:Type} (ok:α→Prop):Option α→Prop:=λo => ∀ y,o=some y→ok y
section
variable {α β γ δ:Type} {tr:α→β} {ok:α→Prop} {tr1:γ→δ} {ok1:γ→Prop}
theorem sB {b:Option δ} {a:Option γ} {f1:δ→Option β} {f2:γ→Option α} (h:SimN tr1 ok1 b a) (k:∀ x,ok1 x→SimN tr ok (f1 (tr1 x)) (f2 x)):SimN tr ok (b.bind f1) (a.bind f2):=by
 intro y hy
 cases a with
 | none=>cases hy
 | some x =>
  obtain ⟨c,g⟩:=h x rfl
  rw [c]
  exact k x g y hy
theorem sE {m:Option γ} {f1:γ→Option β} {f2:γ→Option α} (k:∀ x,SimN tr ok (f1 x) (f2 x)):SimN tr ok (m.bind f1) (m.bind f2):=by
 intro y hy
 cases m with
 | none=>cases hy
 | some x=>exact k x y hy
theorem sT {b:Option (Option δ)} {a:Option (Option γ)} {f1:δ→Option (Option β)} {f2:γ→Option (Option α)} (h:SimN (Option.map tr1) (oTh ok1) b a) (k:∀ x,ok1 x→SimN (Option.map tr) (oTh ok) (f1 (tr1 x)) (f2 x)):SimN (Option.map tr) (oTh ok) (bT b f1) (bT a f2):=by
 intro y hy
 cases a with
 | none=>cases hy
 | some o =>
  obtain ⟨c,g⟩:=h o rfl
  rw [c]
  cases o with
  | none=>cases hy; exact ⟨rfl,λz hz=>by cases hz⟩
  | some x=>exact k x (g x rfl) y hy
theorem sTE {m:Option (Option γ)} {f1:γ→Option (Option β)} {f2:γ→Option (Option α)} (k:∀ x,SimN (Option.map tr) (oTh ok) (f1 x) (f2 x)):SimN (Option.map tr) (oTh ok) (bT m f1) (bT m f2):=by
 intro y hy
 cases m with
 | none=>cases hy
 | some o=>cases o with
  | none=>cases hy; exact ⟨rfl,λz hz=>by cases hz⟩
  | some x=>exact k x y hy
theorem sI {c:Prop} [Decidable c] {a b:Option β} {g j:Option α} (h:SimN tr ok a g) (k:SimN tr ok b j):SimN tr ok (if c then a else b) (if c then g else j):=by
 by_cases hc:c
 ·rw [if_pos hc,if_pos hc]; exact h
 ·rw [if_neg hc,if_neg hc]; exact k
theorem sR {x:α} (h:ok x):SimN (Option.map tr) (oTh ok) (some (some (tr x))) (some (some x)):=λy hy=>by cases hy; exact ⟨rfl,λz hz=>by cases hz; exact h⟩
theorem sRN {x:α} (h:ok x):SimN tr ok (some (tr x)) (some x):=λy hy=>by cases hy; exact ⟨rfl,h⟩
theorem sTh:SimN (Option.map tr) (oTh ok) (some none) (some none):=λy hy=>by cases hy; exact ⟨rfl,λz hz=>by cases hz⟩
theorem sZ {m:Option β}:SimN tr ok m (none:Option α):=λy hy=>by cases hy
end
theorem sJ {α β γ δ : Type} {tr : γ → δ} {ok : γ → Prop} (tz : α → β) (okz : α → Prop) {a : β → Option δ} {b : α → Option γ} {c : (β → Option δ) → Option δ} {g : (α → Option γ) → Option γ} (hK : ∀ z, okz z → SimN tr ok (a (tz z)) (b z))
 (n:∀ (h:β→Option δ) (j:α→Option γ),(∀ z,okz z→SimN tr ok (h (tz z)) (j z))→SimN tr ok (c h) (g j)):SimN tr ok (jn a c) (jn b g):=n a b hK
section
variable {k:Nat} {s:List Nat} {L:List S33} {to:Int} {W:List Tkn}
theorem Vw.at_ (hv:Vw k s L to W) {ts:List Tkn} (h:ts <:+ W):∃ i:Nat,pos to ts=(i:Int)∧i+ts.length=W.length:=by
 obtain ⟨p,rfl⟩:=h
 have:=hv.len
 rw [List.length_append] at this
 exact ⟨p.length,by unfold pos; omega,by rw [List.length_append]⟩
theorem Vw.hd (hv:Vw k s L to W) {t:Tkn} {r:List Tkn} (h:t::r <:+ W):nthL L (pos to (t::r))=some t.1∧g72 k s L (pos to (t::r))=some t.2∧pos to (t::r) < to∧fW .i64 (pos to (t::r)+1)=pos to r:=by
 obtain ⟨p,rfl⟩:=h
 have hl:=hv.len
 have hs:=hv.sm
 rw [List.length_append,List.length_cons] at hl hs
 have e:pos to (t::r)=(p.length:Int):=by unfold pos; rw [List.length_cons]; omega
 obtain ⟨a,b⟩:=hv.get p.length t (by simp)
 rw [e]
 refine ⟨a,b,by omega,?_⟩
 rw [fw_s (by omega)]
 unfold pos
 omega
theorem qP6 {t:Tkn} {r:List Tkn} (h:t::r <:+ W):r <:+ W:=List.IsSuffix.trans (List.suffix_cons t r) h
theorem qI1:pos to []=to:=by unfold pos; simp
def cCur : List Tkn → S33
 | []=>⟨0,[],0⟩
 | t::r=>if t.1.f0=11 then cCur r else t.1
noncomputable def c9 (k:Nat) (ts:List Tkn):Option S33:=some (cCur ts)
theorem cur_l (hv : Vw k s L to W) (a : Int) : ∀ (ts : List Tkn) (n : Nat), ts <:+ W → ts.length < n → qOc k s L a to n (pos to ts) = some (cCur ts)
 | [],n,h,b=>by
  obtain ⟨n,rfl⟩:∃ m,n=m+1:=⟨n - 1,by omega⟩
  rw [qQn,qI1]
  exact iF (dF (by omega)) rfl
 | t::r,n,h,b=>by
  obtain ⟨n,rfl⟩:∃ m,n=m+1:=⟨n - 1,by omega⟩
  obtain ⟨c,o,g,j⟩:=hv.hd h
  rw [qQn]
  refine iT (dT g) (bS c ?_)
  by_cases hc:t.1.f0=11
  ·rw [dT hc,j]
   simp only [cCur,hc,if_true,Bool.not_true,Bool.false_eq_true,if_false]
   exact cur_l hv a r n (qP6 h) (by simp at b; omega)
  ·rw [dF hc]
   simp only [cCur,hc,if_false,Bool.not_false,if_true]
   exact bS c rfl
theorem Vw.fu' (hv:Vw k s L to W) {ts:List Tkn} (h:ts <:+ W):ts.length < k:=Nat.lt_of_le_of_lt h.length_le hv.fu
theorem qHr (hv:Vw k s L to W) (ts:List Tkn) (h:ts <:+ W):SimN (λx=>x) (λ_=>True) (i9 k s L (pos to ts) to) (c9 k ts):=by
 unfold i9 c9
 rw [cur_l hv _ ts k h (hv.fu' h)]
 exact sRN (x:=cCur ts) trivial
def cNoted : List Tkn → Bool
 | []=>false
 | t::_=>decide (t.1.f0=11)
theorem qF5 (hv:Vw k s L to W) {ts:List Tkn} (h:ts <:+ W):i15 k s L (pos to ts) to=some (cNoted ts):=by
 unfold i15
 cases ts with
 | nil=>rw [qI1]; exact iF (dF (by omega)) rfl
 | cons t r =>
  obtain ⟨a,c,b,g⟩:=hv.hd h
  exact iT (dT b) (bS a rfl)
def cNext : List Tkn → Option (List Tkn)
 | []=>none
 | t::r=>if t.1.f0=11 then none else some r
noncomputable def c11 (k:Nat) (ts:List Tkn):Option (Option (List Tkn)):=some (cNext ts)
theorem must_t (k:Nat):i16 k true=some (some ()):=rfl
theorem qQb (k:Nat):i16 k false=some none:=rfl
theorem qEq (hv:Vw k s L to W) (ts:List Tkn) (h:ts <:+ W):SimN (Option.map (λx=>pos to x)) (oTh (λx=>x <:+ W)) (i11 k s L (pos to ts) to) (c11 k ts):=by
 unfold i11 c11
 cases ts with
 | nil =>
  rw [show (jn (λ(a:Unit)=>some (some (fW .i64 (pos to []+1)))) _:Option (Option Int))=some none from jC (λj=>by rw [qI1]; exact iF (dF (by omega)) (by rw [qQb]; rfl))]
  exact sTh
 | cons t r =>
  obtain ⟨g,n,b,c⟩:=hv.hd h
  by_cases hc:t.1.f0=11
  ·rw [show (jn (λ(a:Unit)=>some (some (fW .i64 (pos to (t::r)+1)))) _:Option (Option Int))=some none from jC (λj=>iT (dT b) (bS (qF5 hv h) (by rw [show cNoted (t::r)=true by simp [cNoted,hc],show (!true)=false from rfl,qQb]; rfl)))]
   rw [show cNext (t::r)=none by simp [cNext,hc]]
   exact sTh
  ·rw [show (jn (λ(a:Unit)=>some (some (fW .i64 (pos to (t::r)+1)))) _:Option (Option Int))=some (some (pos to r)) from (jS (v:=()) (λj=>iT (dT b) (bS (qF5 hv h) (by rw [show cNoted (t::r)=false by simp [cNoted,hc],show (!false)=true from rfl,must_t]; rfl)))).trans (by rw [c])]
   rw [show cNext (t::r)=some r by simp [cNext,hc]]
   exact sR (x:=r) (qP6 h)
def cNotes : List Tkn → LL × List Tkn
 | []=>([],[])
 | t::r=>if t.1.f0=11 then (t.1.f1::(cNotes r).1,(cNotes r).2) else ([],t::r)
noncomputable def c12 (k:Nat) (ts:List Tkn):Option (LL×List Tkn):=some (cNotes ts)
theorem qHq : ∀ ts : List Tkn, (cNotes ts).2 <:+ ts
 | []=>List.suffix_refl _
 | t::r=>by
  unfold cNotes
  split
  ·exact List.IsSuffix.trans (qHq r) (List.suffix_cons t r)
  ·exact List.suffix_refl _
theorem qQ8 (hv : Vw k s L to W) : ∀ (ts : List Tkn) (n : Nat) (acc : LL), ts <:+ W → ts.length < n → acc.length + ts.length < 1000000 → qH8 k s L to n (pos to ts) acc = some (acc ++ (cNotes ts).1, pos to (cNotes ts).2)
 | [],n,acc,h,b,ha=>by
  obtain ⟨n,rfl⟩:∃ m,n=m+1:=⟨n - 1,by omega⟩
  rw [qN0]
  refine bS (qF5 hv h) (iF rfl ?_)
  simp [cNotes]
 | t::r,n,acc,h,b,ha=>by
  obtain ⟨n,rfl⟩:∃ m,n=m+1:=⟨n - 1,by omega⟩
  obtain ⟨c,j,o,g⟩:=hv.hd h
  rw [qN0]
  refine bS (qF5 hv h) ?_
  by_cases hc:t.1.f0=11
  ·rw [show cNoted (t::r)=true by simp [cNoted,hc]]
   refine iT rfl (bS c (bS (a:=acc++[t.1.f1]) ?_ ?_))
   ·unfold appS; rw [if_pos ⟨by simp at ha ⊢; omega,by simp at ha ⊢; omega⟩]
   ·rw [g,qQ8 hv r n (acc++[t.1.f1]) (qP6 h) (by simp at b; omega) (by simp at ha ⊢; omega)]
    simp [cNotes,hc]
  ·rw [show cNoted (t::r)=false by simp [cNoted,hc]]
   refine iF rfl ?_
   simp [cNotes,hc]
theorem qAc (hv:Vw k s L to W) (ts:List Tkn) (h:ts <:+ W):SimN (λx=>(x.1,pos to x.2)) (λx=>x.2 <:+ W) (i12 k s L (pos to ts) to) (c12 k ts):=by
 unfold i12 c12
 rw [qQ8 hv ts k [] h (hv.fu' h) (by have:=h.length_le; have:=hv.sm; simp; omega)]
 exact sRN (x:=cNotes ts) ((qHq ts).trans h)
def cNl : List Tkn → Int
 | []=>0
 | t::_=>t.2
theorem qSb (hv:Vw k s L to W) {ts:List Tkn} (h:ts <:+ W):g72 k s L (pos to ts)=some (cNl ts):=by
 cases ts with
 | nil=>rw [qI1]; exact hv.fin
 | cons t r=>exact (hv.hd h).2.1
noncomputable def c28 (k:Nat) (ts:List Tkn):Option Bool:=some (decide (0 < cNl ts))
theorem qGf (hv:Vw k s L to W) (ts:List Tkn) (h:ts <:+ W):SimN (λx=>x) (λ_=>True) (i28 k s L (pos to ts) to) (c28 k ts):=by
 unfold i28 c28 g103
 rw [qSb hv h]
 exact sRN (x:=decide (0 < cNl ts)) trivial
noncomputable def cBlank (ts:List Tkn):Option Bool:=some (decide (1 < cNl ts))
theorem qSq (hv:Vw k s L to W) {ts:List Tkn} (h:ts <:+ W):SimN (λx=>x) (λ_=>True) (g57 k s L (pos to ts)) (cBlank ts):=by
 unfold g57 cBlank
 rw [qSb hv h]
 exact sRN (x:=decide (1 < cNl ts)) trivial
end
end Go.Proofs.Ythpplbkobokghaa.Am
set_option maxRecDepth 100000
set_option linter.unusedVariables false
set_option linter.unusedSimpArgs false
namespace Go.Proofs.Ythpplbkobokghaa.Am
noncomputable section
open Go
def c10 (k:Nat) (a0:LN) (b:List Tkn):Option Bool :=
 (c9 k b).bind λa=>if (decide (a.f0=9)) then (some (eqL a.f1 a0)) else (if (decide (a.f0=8)) then (some (eqL a.f1 a0)) else (some false))
def c33 (k:Nat) (a0:List Int) (g:List Tkn):Option (Option (LN×(List Tkn))) :=
 (c9 k g).bind λa=>(g104 k a0 a.f0).bind λb=>bT (i16 k b) λh=>bT (c11 k g) λc=>some (some (a.f1,c))
def c22 (k:Nat) (b:List Tkn):Option (Option (LN×(List Tkn))) :=
 bT (c33 k i22c0 b) λa=>some (some (a.1,a.2))
def c7 (k:Nat) (a0:LN) (c:List Tkn):Option (Option (Bool×(List Tkn))) :=
 (c10 k a0 c).bind λa=>if (!a) then (some (some (false,c))) else (bT (c11 k c) λb=>some (some (true,b)))
def c23 (k:Nat) (a0:LN) (c:List Tkn):Option (Option (List Tkn)) :=
 bT (c7 k a0 c) λa=>bT (i16 k a.1) λb=>some (some a.2)
def c39 (k:Nat) (b:List Tkn):Option (Option (LN×(List Tkn))) :=
 bT (c33 k i39c0 b) λa=>some (some (a.1,a.2))
def c35 (k:Nat) (z:List Tkn):Option (Option (S28×(List Tkn))) :=
 bT (c22 k z) λa=>bT (c7 k ([58]:LN) a.2) λb=>jn (λ(u:LN×(List Tkn))=>bT (c23 k ([47]:LN) u.2) λh=>(catS u.1 ([47]:LN)).bind λj=>bT (c39 k h) λc=>(catS j c.1).bind λn=>some (some ((⟨(16:Int),n,⟨0,[]⟩,false,false,([]:LL),([]:LL)⟩:S28),c.2))) (λx=>if b.1 then ((catS a.1 ([58]:LN)).bind λo=>bT (c22 k b.2) λg=>(catS o g.1).bind λq=>x (q,g.2)) else (x (a.1,b.2)))
theorem qGh {k:Nat} {s:LN} {L:List S33} {to:Int} {W:(List Tkn)} (hv:Vw k s L to W)  (a0:LN) (b:List Tkn) (h:b <:+ W):SimN (λx=>x) (λ_=>True) (i10 k a0 s L (pos to b) to) (c10 k a0 b):=by
 unfold i10 c10
 exact sB (qHr hv b h) λa c=>sI (sRN (x:=(eqL a.f1 a0)) trivial) (sI (sRN (x:=(eqL a.f1 a0)) trivial) (sRN (x:=false) trivial))
theorem qGe {k:Nat} {s:LN} {L:List S33} {to:Int} {W:(List Tkn)} (hv:Vw k s L to W)  (a0:List Int) (b:List Tkn) (h:b <:+ W):SimN (Option.map (λx=>(x.1,pos to x.2))) (oTh (λx=>x.2 <:+ W)) (i33 k a0 s L (pos to b) to) (c33 k a0 b):=by
 unfold i33 c33
 exact sB (qHr hv b h) λc j=>sE λn=>sTE λo=>sT (qEq hv b h) λg a=>sR (x:=(c.f1,g)) a
theorem qGg {k:Nat} {s:LN} {L:List S33} {to:Int} {W:(List Tkn)} (hv:Vw k s L to W)  (c:List Tkn) (h:c <:+ W):SimN (Option.map (λx=>(x.1,pos to x.2))) (oTh (λx=>x.2 <:+ W)) (i22 k s L (pos to c) to) (c22 k c):=by
 unfold i22 c22
 exact sT (qGe hv i22c0 c h) λa b=>sR (x:=(a.1,a.2)) b
theorem qAa {k:Nat} {s:LN} {L:List S33} {to:Int} {W:(List Tkn)} (hv:Vw k s L to W)  (a0:LN) (b:List Tkn) (h:b <:+ W):SimN (Option.map (λx=>(x.1,pos to x.2))) (oTh (λx=>x.2 <:+ W)) (i7 k a0 s L (pos to b) to) (c7 k a0 b):=by
 unfold i7 c7
 exact sB (qGh hv a0 b h) λj g=>sI (sR (x:=(false,b)) h) (sT (qEq hv b h) λc a=>sR (x:=(true,c)) a)
theorem qAl {k:Nat} {s:LN} {L:List S33} {to:Int} {W:(List Tkn)} (hv:Vw k s L to W)  (a0:LN) (c:List Tkn) (h:c <:+ W):SimN (Option.map (λx=>pos to x)) (oTh (λx=>x <:+ W)) (i23 k a0 s L (pos to c) to) (c23 k a0 c):=by
 unfold i23 c23
 exact sT (qAa hv a0 c h) λb a=>sTE λg=>sR (x:=b.2) a
theorem qSl {k:Nat} {s:LN} {L:List S33} {to:Int} {W:(List Tkn)} (hv:Vw k s L to W)  (c:List Tkn) (h:c <:+ W):SimN (Option.map (λx=>(x.1,pos to x.2))) (oTh (λx=>x.2 <:+ W)) (i39 k s L (pos to c) to) (c39 k c):=by
 unfold i39 c39
 exact sT (qGe hv i39c0 c h) λa b=>sR (x:=(a.1,a.2)) b
theorem c35_sim {k:Nat} {s:LN} {L:List S33} {to:Int} {W:(List Tkn)} (hv:Vw k s L to W)  (J:List Tkn) (h:J <:+ W):SimN (Option.map (λx=>(x.1,pos to x.2))) (oTh (λx=>x.2 <:+ W)) (i35 k s L (pos to J) to) (c35 k J):=by
 unfold i35 c35
 exact sT (qGg hv J h) λb g=>sT (qAa hv ([58]:LN) b.2 g) λc a=>sJ (α:=(LN×(List Tkn))) (λx=>(x.1,pos to x.2)) (λx=>x.2 <:+ W) (λO K=>sT (qAl hv ([47]:LN) O.2 K) λq j=>sE λM=>sT (qSl hv q j) λu n=>sE λz=>sR (x:=((⟨(16:Int),z,⟨0,[]⟩,false,false,([]:LL),([]:LL)⟩:S28),u.2)) n) (λS Q D=>sI (sE λN=>sT (qGg hv c.2 a) λE o=>sE λI=>D (I,E.2) o) (D (b.1,c.2) a))
structure Cns where
 c5:Int→(List Tkn)→Option (Option (S28×(List Tkn)))
 c6:(List Tkn)→Option (Option (S28×(List Tkn)))
 c8:(List Tkn)→Option (Option (S28×Int×(List Tkn)))
 c13:(List Tkn)→Option (Option (S28×Bool×(List Tkn)))
 c14:S28→Bool→(List Tkn)→Option (Option (S28×(List Tkn)))
 c17:(List Tkn)→Option (Option (S28×(List Tkn)))
 c18:Int→LN→Bool→Bool→LL→LL→LN→(List Tkn)→(List S28)→Option (Option (Int×LN×Bool×Bool×LL×LL×(List Tkn)×(List S28)))
 c19:(List Tkn)→Option (Option (S28×(List Tkn)))
 c20:Int→LN→Bool→Bool→LL→LL→LN→(List Tkn)→(List S28)→Option (Option (Int×LN×Bool×Bool×LL×LL×(List Tkn)×(List S28)))
 c21:Int→LN→Bool→Bool→LL→LL→LN→(List Tkn)→(List S28)→Option (Option (Int×LN×Bool×Bool×LL×LL×(List Tkn)×(List S28)))
 c24:(List Tkn)→Option (Option (S28×(List Tkn)))
 c25:(List Tkn)→Option (Option (S28×(List Tkn)))
 c26:S28→(List Tkn)→Option (Option (S28×(List Tkn)))
 c29:(List Tkn)→Option (Option (S28×(List Tkn)))
 c30:Int→LN→Bool→Bool→LL→LL→(List Tkn)→(List S28)→Option (Option (Int×LN×Bool×Bool×LL×LL×(List Tkn)×(List S28)))
 c31:(List Tkn)→Option (Option (S28×(List Tkn)))
 c32:(List Tkn)→Option (Option (S28×(List Tkn)))
 c34:(List Tkn)→Option (Option (S28×(List Tkn)))
 c36:Int→LN→Bool→Bool→LL→LL→(List Tkn)→(List S28)→Option (Option (Int×LN×Bool×Bool×LL×LL×(List Tkn)×(List S28)))
 c37:Int→LN→Bool→Bool→LL→LL→(List Tkn)→(List S28)→Option (Option (Int×LN×Bool×Bool×LL×LL×(List Tkn)×(List S28)))
 c38:(List Tkn)→Option (Option (S28×(List Tkn)))
 c40:LL→(List Tkn)→Option (Option ((List S28)×(List Tkn)))
 c41:LL→(List Tkn)→Option (Option ((List S28)×(List Tkn)))
 c42:LL→(List Tkn)→Option (Option ((List S28)×(List Tkn)))
 c43:LL→(List Tkn)→Option (Option ((List Tkn)×(List S28)))
 c44:(List Tkn)→Option (Option (S28×(List Tkn)))
 c45:(List Tkn)→Option (Option (S28×(List Tkn)))
 c46:(List Tkn)→Option (Option (S28×(List Tkn)))
 c47:LN→S28→S28→(List Tkn)→Option (Option (S28×(List Tkn)))
 c48:LN→(List Tkn)→Option (Option (S28×(List Tkn)))
 c49:(List Tkn)→Option (Option (S28×(List Tkn)))
 c50:(List Tkn)→Option (Option (S28×(List Tkn)))
 c51:(List Tkn)→Option (Option (S28×(List Tkn)))
 c52:(List Tkn)→Option (Option (S28×(List Tkn)))
structure SimC (s:LN) (L:List S33) (to:Int) (W:List Tkn) (F:Fns0) (C:Cns):Prop where
 c5:∀ (a0:Int) (a3:List Tkn),a3 <:+ W→SimN (Option.map (λx=>(x.1,pos to x.2))) (oTh (λx=>x.2 <:+ W)) (F.i5 a0 s L (pos to a3) to) (C.c5 a0 a3)
 c6:∀ (a2:List Tkn),a2 <:+ W→SimN (Option.map (λx=>(x.1,pos to x.2))) (oTh (λx=>x.2 <:+ W)) (F.i6 s L (pos to a2) to) (C.c6 a2)
 c8:∀ (a2:List Tkn),a2 <:+ W→SimN (Option.map (λx=>(x.1,x.2.1,pos to x.2.2))) (oTh (λx=>x.2.2 <:+ W)) (F.i8 s L (pos to a2) to) (C.c8 a2)
 c13:∀ (a2:List Tkn),a2 <:+ W→SimN (Option.map (λx=>(x.1,x.2.1,pos to x.2.2))) (oTh (λx=>x.2.2 <:+ W)) (F.i13 s L (pos to a2) to) (C.c13 a2)
 c14:∀ (a0:S28) (a1:Bool) (a4:List Tkn),a4 <:+ W→SimN (Option.map (λx=>(x.1,pos to x.2))) (oTh (λx=>x.2 <:+ W)) (F.i14 a0 a1 s L (pos to a4) to) (C.c14 a0 a1 a4)
 c17:∀ (a2:List Tkn),a2 <:+ W→SimN (Option.map (λx=>(x.1,pos to x.2))) (oTh (λx=>x.2 <:+ W)) (F.i17 s L (pos to a2) to) (C.c17 a2)
 c18:∀ (a0:Int) (a1:LN) (a2:Bool) (a3:Bool) (a4:LL) (a5:LL) (a6:LN) (a9:List Tkn) (b1:List S28),a9 <:+ W→SimN (Option.map (λx=>(x.1,x.2.1,x.2.2.1,x.2.2.2.1,x.2.2.2.2.1,x.2.2.2.2.2.1,pos to x.2.2.2.2.2.2.1,x.2.2.2.2.2.2.2))) (oTh (λx=>x.2.2.2.2.2.2.1 <:+ W)) (F.i18 a0 a1 a2 a3 a4 a5 a6 s L (pos to a9) to b1) (C.c18 a0 a1 a2 a3 a4 a5 a6 a9 b1)
 c19:∀ (a2:List Tkn),a2 <:+ W→SimN (Option.map (λx=>(x.1,pos to x.2))) (oTh (λx=>x.2 <:+ W)) (F.i19 s L (pos to a2) to) (C.c19 a2)
 c20:∀ (a0:Int) (a1:LN) (a2:Bool) (a3:Bool) (a4:LL) (a5:LL) (a6:LN) (a9:List Tkn) (b1:List S28),a9 <:+ W→SimN (Option.map (λx=>(x.1,x.2.1,x.2.2.1,x.2.2.2.1,x.2.2.2.2.1,x.2.2.2.2.2.1,pos to x.2.2.2.2.2.2.1,x.2.2.2.2.2.2.2))) (oTh (λx=>x.2.2.2.2.2.2.1 <:+ W)) (F.i20 a0 a1 a2 a3 a4 a5 a6 s L (pos to a9) to b1) (C.c20 a0 a1 a2 a3 a4 a5 a6 a9 b1)
 c21:∀ (a0:Int) (a1:LN) (a2:Bool) (a3:Bool) (a4:LL) (a5:LL) (a6:LN) (a9:List Tkn) (b1:List S28),a9 <:+ W→SimN (Option.map (λx=>(x.1,x.2.1,x.2.2.1,x.2.2.2.1,x.2.2.2.2.1,x.2.2.2.2.2.1,pos to x.2.2.2.2.2.2.1,x.2.2.2.2.2.2.2))) (oTh (λx=>x.2.2.2.2.2.2.1 <:+ W)) (F.i21 a0 a1 a2 a3 a4 a5 a6 s L (pos to a9) to b1) (C.c21 a0 a1 a2 a3 a4 a5 a6 a9 b1)
 c24:∀ (a2:List Tkn),a2 <:+ W→SimN (Option.map (λx=>(x.1,pos to x.2))) (oTh (λx=>x.2 <:+ W)) (F.i24 s L (pos to a2) to) (C.c24 a2)
 c25:∀ (a2:List Tkn),a2 <:+ W→SimN (Option.map (λx=>(x.1,pos to x.2))) (oTh (λx=>x.2 <:+ W)) (F.i25 s L (pos to a2) to) (C.c25 a2)
 c26:∀ (a0:S28) (a3:List Tkn),a3 <:+ W→SimN (Option.map (λx=>(x.1,pos to x.2))) (oTh (λx=>x.2 <:+ W)) (F.i26 a0 s L (pos to a3) to) (C.c26 a0 a3)
 c29:∀ (a2:List Tkn),a2 <:+ W→SimN (Option.map (λx=>(x.1,pos to x.2))) (oTh (λx=>x.2 <:+ W)) (F.i29 s L (pos to a2) to) (C.c29 a2)
 c30:∀ (a0:Int) (a1:LN) (a2:Bool) (a3:Bool) (a4:LL) (a5:LL) (a8:List Tkn) (b1:List S28),a8 <:+ W→SimN (Option.map (λx=>(x.1,x.2.1,x.2.2.1,x.2.2.2.1,x.2.2.2.2.1,x.2.2.2.2.2.1,pos to x.2.2.2.2.2.2.1,x.2.2.2.2.2.2.2))) (oTh (λx=>x.2.2.2.2.2.2.1 <:+ W)) (F.i30 a0 a1 a2 a3 a4 a5 s L (pos to a8) to b1) (C.c30 a0 a1 a2 a3 a4 a5 a8 b1)
 c31:∀ (a2:List Tkn),a2 <:+ W→SimN (Option.map (λx=>(x.1,pos to x.2))) (oTh (λx=>x.2 <:+ W)) (F.i31 s L (pos to a2) to) (C.c31 a2)
 c32:∀ (a2:List Tkn),a2 <:+ W→SimN (Option.map (λx=>(x.1,pos to x.2))) (oTh (λx=>x.2 <:+ W)) (F.i32 s L (pos to a2) to) (C.c32 a2)
 c34:∀ (a2:List Tkn),a2 <:+ W→SimN (Option.map (λx=>(x.1,pos to x.2))) (oTh (λx=>x.2 <:+ W)) (F.i34 s L (pos to a2) to) (C.c34 a2)
 c36:∀ (a0:Int) (a1:LN) (a2:Bool) (a3:Bool) (a4:LL) (a5:LL) (a8:List Tkn) (b1:List S28),a8 <:+ W→SimN (Option.map (λx=>(x.1,x.2.1,x.2.2.1,x.2.2.2.1,x.2.2.2.2.1,x.2.2.2.2.2.1,pos to x.2.2.2.2.2.2.1,x.2.2.2.2.2.2.2))) (oTh (λx=>x.2.2.2.2.2.2.1 <:+ W)) (F.i36 a0 a1 a2 a3 a4 a5 s L (pos to a8) to b1) (C.c36 a0 a1 a2 a3 a4 a5 a8 b1)
 c37:∀ (a0:Int) (a1:LN) (a2:Bool) (a3:Bool) (a4:LL) (a5:LL) (a8:List Tkn) (b1:List S28),a8 <:+ W→SimN (Option.map (λx=>(x.1,x.2.1,x.2.2.1,x.2.2.2.1,x.2.2.2.2.1,x.2.2.2.2.2.1,pos to x.2.2.2.2.2.2.1,x.2.2.2.2.2.2.2))) (oTh (λx=>x.2.2.2.2.2.2.1 <:+ W)) (F.i37 a0 a1 a2 a3 a4 a5 s L (pos to a8) to b1) (C.c37 a0 a1 a2 a3 a4 a5 a8 b1)
 c38:∀ (a2:List Tkn),a2 <:+ W→SimN (Option.map (λx=>(x.1,pos to x.2))) (oTh (λx=>x.2 <:+ W)) (F.i38 s L (pos to a2) to) (C.c38 a2)
 c40:∀ (a0:LL) (a3:List Tkn),a3 <:+ W→SimN (Option.map (λx=>(x.1,pos to x.2))) (oTh (λx=>x.2 <:+ W)) (F.i40 a0 s L (pos to a3) to) (C.c40 a0 a3)
 c41:∀ (a0:LL) (a3:List Tkn),a3 <:+ W→SimN (Option.map (λx=>(x.1,pos to x.2))) (oTh (λx=>x.2 <:+ W)) (F.i41 a0 s L (pos to a3) to) (C.c41 a0 a3)
 c42:∀ (a0:LL) (a3:List Tkn),a3 <:+ W→SimN (Option.map (λx=>(x.1,pos to x.2))) (oTh (λx=>x.2 <:+ W)) (F.i42 a0 s L (pos to a3) to) (C.c42 a0 a3)
 c43:∀ (a0:LL) (a3:List Tkn),a3 <:+ W→SimN (Option.map (λx=>(pos to x.1,x.2))) (oTh (λx=>x.1 <:+ W)) (F.i43 a0 s L (pos to a3) to) (C.c43 a0 a3)
 c44:∀ (a2:List Tkn),a2 <:+ W→SimN (Option.map (λx=>(x.1,pos to x.2))) (oTh (λx=>x.2 <:+ W)) (F.i44 s L (pos to a2) to) (C.c44 a2)
 c45:∀ (a2:List Tkn),a2 <:+ W→SimN (Option.map (λx=>(x.1,pos to x.2))) (oTh (λx=>x.2 <:+ W)) (F.i45 s L (pos to a2) to) (C.c45 a2)
 c46:∀ (a2:List Tkn),a2 <:+ W→SimN (Option.map (λx=>(x.1,pos to x.2))) (oTh (λx=>x.2 <:+ W)) (F.i46 s L (pos to a2) to) (C.c46 a2)
 c47:∀ (a0:LN) (a1:S28) (a2:S28) (a5:List Tkn),a5 <:+ W→SimN (Option.map (λx=>(x.1,pos to x.2))) (oTh (λx=>x.2 <:+ W)) (F.i47 a0 a1 a2 s L (pos to a5) to) (C.c47 a0 a1 a2 a5)
 c48:∀ (a0:LN) (a3:List Tkn),a3 <:+ W→SimN (Option.map (λx=>(x.1,pos to x.2))) (oTh (λx=>x.2 <:+ W)) (F.i48 a0 s L (pos to a3) to) (C.c48 a0 a3)
 c49:∀ (a2:List Tkn),a2 <:+ W→SimN (Option.map (λx=>(x.1,pos to x.2))) (oTh (λx=>x.2 <:+ W)) (F.i49 s L (pos to a2) to) (C.c49 a2)
 c50:∀ (a2:List Tkn),a2 <:+ W→SimN (Option.map (λx=>(x.1,pos to x.2))) (oTh (λx=>x.2 <:+ W)) (F.i50 s L (pos to a2) to) (C.c50 a2)
 c51:∀ (a2:List Tkn),a2 <:+ W→SimN (Option.map (λx=>(x.1,pos to x.2))) (oTh (λx=>x.2 <:+ W)) (F.i51 s L (pos to a2) to) (C.c51 a2)
 c52:∀ (a2:List Tkn),a2 <:+ W→SimN (Option.map (λx=>(x.1,pos to x.2))) (oTh (λx=>x.2 <:+ W)) (F.i52 s L (pos to a2) to) (C.c52 a2)
def qEy (k:Nat) (F:Cns) (a0:Int) (I:List Tkn) (ih:Int→(List Tkn)→S28→Option (Option (S28×(List Tkn)))):Int→(List Tkn)→S28→Option (Option (S28×(List Tkn))) :=
 λ(q:Int) (a:List Tkn) (c:S28)=>jn (λ(u:(List Tkn)×S28)=>some (some (u.2,u.1))) (λx=>if (decide (a0≤9)) then ((c9 k a).bind λb=>(g50 k b.f1).bind λj=>(c10 k b.f1 a).bind λz=>jn (λ(g:Bool×(List Tkn)×S28)=>if g.1 then (x (g.2.1,g.2.2)) else (bT (c11 k g.2.1) λD=>(g54 k b.f1).bind λE=>bT (F.c5 E D) λh=>ih j h.2 (⟨14,b.f1,(⟨(([g.2.2,h.1]:List S28)).length,(([g.2.2,h.1]:List S28)).flatMap e29⟩:Raw),false,false,([]:LL),([]:LL)⟩:S28))) (λn=>if (!z) then (n (true,a,c)) else (if (decide (j < maxI a0 1)) then (n (true,a,c)) else ((g52 k b.f1).bind λo=>n (decide (q < o),a,c))))) else (x (a,c)))
def qIl (k:Nat) (F:Cns) (a0:Int) (a:List Tkn) (n:Nat):Int→(List Tkn)→S28→Option (Option (S28×(List Tkn))):=lp (λ_ _ _=>none) (qEy k F a0 a) n
def c5B (k:Nat) (F:Cns) (a0:Int) (g:List Tkn):Option (Option (S28×(List Tkn))) :=
 jn (λ(h:Bool×(List Tkn))=>if h.1 then (bT (F.c5 (0:Int) h.2) λa=>some (some ((⟨(13:Int),([99,97,116,99,104]:LN),⟨(([a.1]:List S28)).length,(([a.1]:List S28)).flatMap e29⟩,false,false,([]:LL),([]:LL)⟩:S28),a.2))) else (bT (F.c8 h.2) λb=>qIl k F a0 g k b.2.1 b.2.2 b.1)) (λj=>if (decide (a0≤0)) then (bT (c7 k ([99,97,116,99,104]:LN) g) λc=>j (c.1,c.2)) else (j (false,g)))
def qEx (k:Nat) (F:Cns)  (ih:(List Tkn)→(List S28)→Option (Option (S28×(List Tkn)))):(List Tkn)→(List S28)→Option (Option (S28×(List Tkn))) :=
 λ(b:List Tkn) (c:List S28)=>jn (λ(o:Bool×(List Tkn)×(List S28))=>(c12 k o.2.1).bind λj=>bT (F.c5 (0:Int) j.2) λa=>(appS 104 o.2.2 ([(⟨a.1.f0,a.1.f1,a.1.f2,a.1.f3,o.1,j.1,a.1.f6⟩:S28)]:List S28)).bind λg=>bT (c7 k ([44]:LN) a.2) λh=>if h.1 then (ih h.2 g) else (some (some ((⟨(25:Int),([]:LN),⟨(g).length,(g).flatMap e29⟩,false,false,([]:LL),([]:LL)⟩:S28),h.2)))) (λq=>if (decide (0 < (c.length:Int))) then ((cBlank b).bind λn=>q (n,b,c)) else (q (false,b,c)))
def qIk (k:Nat) (F:Cns)  (n:Nat):(List Tkn)→(List S28)→Option (Option (S28×(List Tkn))):=lp (λ_ _=>none) (qEx k F ) n
def c6B (k:Nat) (F:Cns) (a:List Tkn):Option (Option (S28×(List Tkn))) :=
 qIk k F  k a ([]:List S28)
def c8B (k:Nat) (F:Cns) (q:List Tkn):Option (Option (S28×Int×(List Tkn))) :=
 (c9 k q).bind λa=>(c10 k a.f1 q).bind λh=>jn (λ(x:Bool)=>if x then (bT (c11 k q) λj=>bT (F.c8 j) λb=>(g65 k a.f1).bind λn=>some (some ((⟨(13:Int),a.f1,⟨(([b.1]:List S28)).length,(([b.1]:List S28)).flatMap e29⟩,false,false,([]:LL),([]:LL)⟩:S28),n,b.2.2))) else (bT (F.c13 q) λc=>bT (F.c14 c.1 c.2.1 c.2.2) λg=>some (some (g.1,(11:Int),g.2)))) (λu=>if h then ((g65 k a.f1).bind λo=>u (decide (0 < o))) else (u false))
def c13B (k:Nat) (F:Cns) (N:List Tkn):Option (Option (S28×Bool×(List Tkn))) :=
 (c9 k N).bind λD=>(g75 k D.f0).bind λK=>if K then (bT (c11 k N) λM=>some (some ((⟨(1:Int),D.f1,⟨0,[]⟩,false,false,([]:LL),([]:LL)⟩:S28),false,M))) else (bT (c7 k ([40]:LN) N) λn=>if n.1 then (bT (F.c17 n.2) λE=>some (some (E.1,true,E.2))) else (bT (c7 k ([123]:LN) n.2) λo=>if o.1 then (bT (F.c18 (4:Int) ([]:LN) false false ([]:LL) ([]:LL) ([125]:LN) o.2 ([]:List S28)) λg=>some (some ((⟨g.1,g.2.1,⟨(g.2.2.2.2.2.2.2).length,(g.2.2.2.2.2.2.2).flatMap e29⟩,g.2.2.1,g.2.2.2.1,g.2.2.2.2.1,g.2.2.2.2.2.1⟩:S28),false,g.2.2.2.2.2.2.1))) else (bT (c7 k ([91]:LN) o.2) λq=>if q.1 then (bT (F.c19 q.2) λI=>some (some (I.1,false,I.2))) else (bT (c7 k ([60,60]:LN) q.2) λu=>if u.1 then (bT (F.c20 (6:Int) ([]:LN) false false ([]:LL) ([]:LL) ([62,62]:LN) u.2 ([]:List S28)) λa=>some (some ((⟨a.1,a.2.1,⟨(a.2.2.2.2.2.2.2).length,(a.2.2.2.2.2.2.2).flatMap e29⟩,a.2.2.1,a.2.2.2.1,a.2.2.2.2.1,a.2.2.2.2.2.1⟩:S28),false,a.2.2.2.2.2.2.1))) else (bT (c7 k ([35]:LN) u.2) λh=>if h.1 then (bT (c7 k ([123]:LN) h.2) λj=>if j.1 then (bT (F.c21 (8:Int) ([]:LN) false false ([]:LL) ([]:LL) ([125]:LN) j.2 ([]:List S28)) λb=>some (some ((⟨b.1,b.2.1,⟨(b.2.2.2.2.2.2.2).length,(b.2.2.2.2.2.2.2).flatMap e29⟩,b.2.2.1,b.2.2.2.1,b.2.2.2.2.1,b.2.2.2.2.2.1⟩:S28),false,b.2.2.2.2.2.2.1))) else (bT (c22 k j.2) λx=>bT (c23 k ([123]:LN) x.2) λJ=>bT (F.c18 (10:Int) x.1 false false ([]:LL) ([]:LL) ([125]:LN) J ([]:List S28)) λc=>some (some ((⟨c.1,c.2.1,⟨(c.2.2.2.2.2.2.2).length,(c.2.2.2.2.2.2.2).flatMap e29⟩,c.2.2.1,c.2.2.2.1,c.2.2.2.2.1,c.2.2.2.2.2.1⟩:S28),false,c.2.2.2.2.2.2.1)))) else (bT (F.c24 h.2) λz=>some (some (z.1,false,z.2))))))))
def qD4 (k:Nat) (F:Cns) (K:List Tkn) (ih:Bool→(List Tkn)→S28→Option (Option (S28×(List Tkn)))):Bool→(List Tkn)→S28→Option (Option (S28×(List Tkn))) :=
 λ(j:Bool) (x:List Tkn) (n:S28)=>jn (λ(h:Bool×Bool×(List Tkn)×S28)=>if h.1 then (some (some (h.2.2.2,h.2.2.1))) else (bT (c7 k ([40]:LN) h.2.2.1) λc=>jn (λ(I:(List Tkn)×S28)=>ih false I.1 I.2) (λE=>if c.1 then (bT (F.c18 (2:Int) ([]:LN) false false ([]:LL) ([]:LL) ([41]:LN) c.2 ([h.2.2.2]:List S28)) λa=>E (a.2.2.2.2.2.2.1,(⟨a.1,a.2.1,(⟨(a.2.2.2.2.2.2.2).length,(a.2.2.2.2.2.2.2).flatMap e29⟩:Raw),a.2.2.1,a.2.2.2.1,a.2.2.2.2.1,a.2.2.2.2.2.1⟩:S28))) else (jn (λ(g:Bool×(List Tkn)×S28)=>if g.1 then (bT (F.c25 g.2.1) λo=>E (o.2,(⟨3,([]:LN),(⟨(([g.2.2,o.1]:List S28)).length,(([g.2.2,o.1]:List S28)).flatMap e29⟩:Raw),false,false,([]:LL),([]:LL)⟩:S28))) else (bT (c7 k ([35]:LN) g.2.1) λq=>if q.1 then (bT (F.c26 g.2.2 q.2) λz=>E (z.2,z.1)) else (some (some (g.2.2,q.2))))) (λu=>if (!decide (h.2.2.2.f0=3)) then (if h.2.1 then (bT (c7 k ([58]:LN) c.2) λb=>u (b.1,b.2,h.2.2.2)) else (if (decide (h.2.2.2.f0=1)) then (bT (c7 k ([58]:LN) c.2) λb=>u (b.1,b.2,h.2.2.2)) else (u (false,c.2,h.2.2.2)))) else (u (false,c.2,h.2.2.2))))))) (λJ=>if (!j) then ((g85 k n).bind λD=>J (!D,j,x,n)) else (J (false,j,x,n)))
def qDk (k:Nat) (F:Cns) (a:List Tkn) (n:Nat):Bool→(List Tkn)→S28→Option (Option (S28×(List Tkn))):=lp (λ_ _ _=>none) (qD4 k F a) n
def c14B (k:Nat) (F:Cns) (a0:S28) (b:Bool) (a:List Tkn):Option (Option (S28×(List Tkn))) :=
 qDk k F a k b a a0
def c17B (k:Nat) (F:Cns) (c:List Tkn):Option (Option (S28×(List Tkn))) :=
 bT (F.c5 (0:Int) c) λa=>bT (c23 k ([41]:LN) a.2) λb=>some (some (a.1,b))
def qC2 (k:Nat) (F:Cns) (a0:Int) (z:LN) (D:Bool) (E:LL) (J:LL) (I:LN) (q:Bool) (ih:LL→(List Tkn)→(List S28)→Option (Option (Int×LN×Bool×Bool×LL×LL×(List Tkn)×(List S28)))):LL→(List Tkn)→(List S28)→Option (Option (Int×LN×Bool×Bool×LL×LL×(List Tkn)×(List S28))) :=
 λ(j:LL) (n:List Tkn) (o:List S28)=>bT (F.c29 n) λa=>(appS 104 o ([(⟨a.1.f0,a.1.f1,a.1.f2,a.1.f3,a.1.f4,j,a.1.f6⟩:S28)]:List S28)).bind λg=>(c12 k a.2).bind λb=>bT (c7 k I b.2) λc=>if c.1 then (some (some (a0,z,q,D,E,b.1,c.2,g))) else (bT (i16 k (decide ((b.1.length:Int)=0))) λx=>bT (c23 k ([44]:LN) c.2) λu=>(c12 k u).bind λh=>ih h.1 h.2 g)
def qCl (k:Nat) (F:Cns) (a0:Int) (b:LN) (c:Bool) (g:LL) (h:LL) (j:LN) (a:Bool) (n:Nat):LL→(List Tkn)→(List S28)→Option (Option (Int×LN×Bool×Bool×LL×LL×(List Tkn)×(List S28))):=lp (λ_ _ _=>none) (qC2 k F a0 b c g h j a) n
def c18B (k:Nat) (F:Cns) (a0:Int) (g:LN) (x:Bool) (h:Bool) (j:LL) (u:LL) (n:LN) (o:List Tkn) (q:List S28):Option (Option (Int×LN×Bool×Bool×LL×LL×(List Tkn)×(List S28))) :=
 (c28 k o).bind λc=>(c12 k o).bind λa=>bT (c7 k n a.2) λb=>if b.1 then (some (some (a0,g,c,h,j,a.1,b.2,q))) else (qCl k F a0 g h j u n  c k a.1 b.2 q)
def qC1 (k:Nat) (F:Cns) (M:List Tkn) (o:Bool) (ih:LL→(List Tkn)→(List S28)→S28→Option (Option (S28×(List Tkn)))):LL→(List Tkn)→(List S28)→S28→Option (Option (S28×(List Tkn))) :=
 λ(z:LL) (D:List Tkn) (E:List S28) (a:S28)=>(appS 104 E ([(⟨a.f0,a.f1,a.f2,a.f3,a.f4,z,a.f6⟩:S28)]:List S28)).bind λg=>bT (c7 k ([124]:LN) D) λh=>if h.1 then (bT (F.c5 (3:Int) h.2) λq=>(appS 104 g ([q.1]:List S28)).bind λu=>(c12 k q.2).bind λx=>bT (c23 k ([93]:LN) x.2) λI=>some (some ((⟨(5:Int),([124]:LN),⟨(u).length,(u).flatMap e29⟩,o,false,([]:LL),x.1⟩:S28),I))) else ((c12 k h.2).bind λb=>bT (c7 k ([93]:LN) b.2) λc=>if c.1 then (some (some ((⟨(5:Int),([]:LN),⟨(g).length,(g).flatMap e29⟩,o,false,([]:LL),b.1⟩:S28),c.2))) else (bT (i16 k (decide ((b.1.length:Int)=0))) λK=>bT (c23 k ([44]:LN) c.2) λJ=>(c12 k J).bind λj=>bT (F.c5 (3:Int) j.2) λn=>ih j.1 n.2 g n.1))
def qCk (k:Nat) (F:Cns) (b:List Tkn) (a:Bool) (n:Nat):LL→(List Tkn)→(List S28)→S28→Option (Option (S28×(List Tkn))):=lp (λ_ _ _ _=>none) (qC1 k F b a) n
def c19B (k:Nat) (F:Cns) (q:List Tkn):Option (Option (S28×(List Tkn))) :=
 (c28 k q).bind λg=>(c12 k q).bind λb=>bT (c7 k ([93]:LN) b.2) λh=>if h.1 then (some (some ((⟨(5:Int),([]:LN),⟨(([]:List S28)).length,(([]:List S28)).flatMap e29⟩,g,false,([]:LL),b.1⟩:S28),h.2))) else (bT (F.c5 (3:Int) h.2) λc=>jn (λ(n:Bool×(List Tkn))=>if n.1 then (bT (F.c30 (15:Int) ([]:LN) g false ([]:LL) ([]:LL) n.2 ([c.1]:List S28)) λa=>some (some ((⟨a.1,a.2.1,⟨(a.2.2.2.2.2.2.2).length,(a.2.2.2.2.2.2.2).flatMap e29⟩,a.2.2.1,a.2.2.2.1,a.2.2.2.2.1,a.2.2.2.2.2.1⟩:S28),a.2.2.2.2.2.2.1))) else (qCk k F q g k b.1 n.2 ([]:List S28) c.1)) (λo=>if (decide ((b.1.length:Int)=0)) then (bT (c7 k ([124,124]:LN) c.2) λj=>o (j.1,j.2)) else (o (false,c.2))))
def qC0 (k:Nat) (F:Cns) (a0:Int) (z:LN) (D:Bool) (E:LL) (J:LL) (I:LN) (q:Bool) (ih:LL→(List Tkn)→(List S28)→Option (Option (Int×LN×Bool×Bool×LL×LL×(List Tkn)×(List S28)))):LL→(List Tkn)→(List S28)→Option (Option (Int×LN×Bool×Bool×LL×LL×(List Tkn)×(List S28))) :=
 λ(j:LL) (n:List Tkn) (o:List S28)=>bT (F.c31 n) λa=>(appS 104 o ([(⟨a.1.f0,a.1.f1,a.1.f2,a.1.f3,a.1.f4,j,a.1.f6⟩:S28)]:List S28)).bind λg=>(c12 k a.2).bind λb=>bT (c7 k I b.2) λc=>if c.1 then (some (some (a0,z,q,D,E,b.1,c.2,g))) else (bT (i16 k (decide ((b.1.length:Int)=0))) λx=>bT (c23 k ([44]:LN) c.2) λu=>(c12 k u).bind λh=>ih h.1 h.2 g)
def qCj (k:Nat) (F:Cns) (a0:Int) (b:LN) (c:Bool) (g:LL) (h:LL) (j:LN) (a:Bool) (n:Nat):LL→(List Tkn)→(List S28)→Option (Option (Int×LN×Bool×Bool×LL×LL×(List Tkn)×(List S28))):=lp (λ_ _ _=>none) (qC0 k F a0 b c g h j a) n
def c20B (k:Nat) (F:Cns) (a0:Int) (g:LN) (x:Bool) (h:Bool) (j:LL) (u:LL) (n:LN) (o:List Tkn) (q:List S28):Option (Option (Int×LN×Bool×Bool×LL×LL×(List Tkn)×(List S28))) :=
 (c28 k o).bind λc=>(c12 k o).bind λa=>bT (c7 k n a.2) λb=>if b.1 then (some (some (a0,g,c,h,j,a.1,b.2,q))) else (qCj k F a0 g h j u n  c k a.1 b.2 q)
def qC (k:Nat) (F:Cns) (a0:Int) (z:LN) (D:Bool) (E:LL) (J:LL) (I:LN) (q:Bool) (ih:LL→(List Tkn)→(List S28)→Option (Option (Int×LN×Bool×Bool×LL×LL×(List Tkn)×(List S28)))):LL→(List Tkn)→(List S28)→Option (Option (Int×LN×Bool×Bool×LL×LL×(List Tkn)×(List S28))) :=
 λ(j:LL) (n:List Tkn) (o:List S28)=>bT (F.c32 n) λa=>(appS 104 o ([(⟨a.1.f0,a.1.f1,a.1.f2,a.1.f3,a.1.f4,j,a.1.f6⟩:S28)]:List S28)).bind λg=>(c12 k a.2).bind λb=>bT (c7 k I b.2) λc=>if c.1 then (some (some (a0,z,q,D,E,b.1,c.2,g))) else (bT (i16 k (decide ((b.1.length:Int)=0))) λx=>bT (c23 k ([44]:LN) c.2) λu=>(c12 k u).bind λh=>ih h.1 h.2 g)
def qCi (k:Nat) (F:Cns) (a0:Int) (b:LN) (c:Bool) (g:LL) (h:LL) (j:LN) (a:Bool) (n:Nat):LL→(List Tkn)→(List S28)→Option (Option (Int×LN×Bool×Bool×LL×LL×(List Tkn)×(List S28))):=lp (λ_ _ _=>none) (qC k F a0 b c g h j a) n
def c21B (k:Nat) (F:Cns) (a0:Int) (g:LN) (x:Bool) (h:Bool) (j:LL) (u:LL) (n:LN) (o:List Tkn) (q:List S28):Option (Option (Int×LN×Bool×Bool×LL×LL×(List Tkn)×(List S28))) :=
 (c28 k o).bind λc=>(c12 k o).bind λa=>bT (c7 k n a.2) λb=>if b.1 then (some (some (a0,g,c,h,j,a.1,b.2,q))) else (qCi k F a0 g h j u n  c k a.1 b.2 q)
def c24B (k:Nat) (F:Cns) (K:List Tkn):Option (Option (S28×(List Tkn))) :=
 bT (c7 k ([102,117,110]:LN) K) λc=>if c.1 then ((c10 k ([40]:LN) c.2).bind λI=>if I then (bT (F.c34 c.2) λu=>some (some (u.1,u.2))) else (bT (c35 k c.2) λx=>some (some (x.1,x.2)))) else (bT (c7 k ([99,97,115,101]:LN) c.2) λj=>if j.1 then (bT (F.c5 (0:Int) j.2) λz=>bT (c23 k ([111,102]:LN) z.2) λJ=>bT (F.c36 (18:Int) ([]:LN) false false ([]:LL) ([]:LL) J ([z.1]:List S28)) λa=>some (some ((⟨a.1,a.2.1,⟨(a.2.2.2.2.2.2.2).length,(a.2.2.2.2.2.2.2).flatMap e29⟩,a.2.2.1,a.2.2.2.1,a.2.2.2.2.1,a.2.2.2.2.2.1⟩:S28),a.2.2.2.2.2.2.1))) else (bT (c7 k ([105,102]:LN) j.2) λn=>if n.1 then (bT (F.c37 (19:Int) ([]:LN) false false ([]:LL) ([]:LL) n.2 ([]:List S28)) λb=>some (some ((⟨b.1,b.2.1,⟨(b.2.2.2.2.2.2.2).length,(b.2.2.2.2.2.2.2).flatMap e29⟩,b.2.2.1,b.2.2.2.1,b.2.2.2.2.1,b.2.2.2.2.2.1⟩:S28),b.2.2.2.2.2.2.1))) else (bT (c7 k i24c0 n.2) λg=>if g.1 then (bT (F.c38 g.2) λo=>some (some (o.1,o.2))) else (bT (c23 k i24c1 g.2) λD=>bT (F.c6 D) λh=>(c12 k h.2).bind λq=>bT (c23 k ([101,110,100]:LN) q.2) λE=>some (some ((⟨(21:Int),([]:LN),⟨(([h.1]:List S28)).length,(([h.1]:List S28)).flatMap e29⟩,false,false,([]:LL),q.1⟩:S28),E))))))
def c25B (k:Nat) (F:Cns) (g:List Tkn):Option (Option (S28×(List Tkn))) :=
 bT (c7 k ([40]:LN) g) λa=>if a.1 then (bT (F.c17 a.2) λb=>some (some (b.1,b.2))) else (bT (c22 k a.2) λc=>some (some ((⟨(1:Int),c.1,⟨0,[]⟩,false,false,([]:LL),([]:LL)⟩:S28),c.2)))
def c26B (k:Nat) (F:Cns) (a0:S28) (u:List Tkn):Option (Option (S28×(List Tkn))) :=
 bT (c7 k ([123]:LN) u) λc=>if c.1 then (bT (F.c21 (9:Int) ([]:LN) false false ([]:LL) ([]:LL) ([125]:LN) c.2 ([a0]:List S28)) λa=>some (some ((⟨a.1,a.2.1,⟨(a.2.2.2.2.2.2.2).length,(a.2.2.2.2.2.2.2).flatMap e29⟩,a.2.2.1,a.2.2.2.1,a.2.2.2.2.1,a.2.2.2.2.2.1⟩:S28),a.2.2.2.2.2.2.1))) else (bT (c22 k c.2) λg=>bT (c7 k ([46]:LN) g.2) λh=>if h.1 then ((catS g.1 ([46]:LN)).bind λn=>bT (c33 k ([(1:Int)]:List Int) h.2) λj=>(catS n j.1).bind λo=>some (some ((⟨(12:Int),o,⟨(([a0]:List S28)).length,(([a0]:List S28)).flatMap e29⟩,false,false,([]:LL),([]:LL)⟩:S28),j.2))) else (bT (c23 k ([123]:LN) h.2) λq=>bT (F.c18 (11:Int) g.1 false false ([]:LL) ([]:LL) ([125]:LN) q ([a0]:List S28)) λb=>some (some ((⟨b.1,b.2.1,⟨(b.2.2.2.2.2.2.2).length,(b.2.2.2.2.2.2.2).flatMap e29⟩,b.2.2.1,b.2.2.2.1,b.2.2.2.2.1,b.2.2.2.2.2.1⟩:S28),b.2.2.2.2.2.2.1))))
def c29B (k:Nat) (F:Cns) (b:List Tkn):Option (Option (S28×(List Tkn))) :=
 bT (F.c5 (0:Int) b) λa=>some (some (a.1,a.2))
def qD2 (k:Nat) (F:Cns) (D:(List Tkn)→(List S28)→Option (Option (Int×LN×Bool×Bool×LL×LL×(List Tkn)×(List S28)))) (a0:Int) (E:LN) (I:Bool) (J:Bool) (K:LL) (M:LL) (Q:List Tkn) (S:List S28) (a:(S28×(List Tkn))) (ih:Int→(List Tkn)→(List S28)→Option (Option (Int×LN×Bool×Bool×LL×LL×(List Tkn)×(List S28)))):Int→(List Tkn)→(List S28)→Option (Option (Int×LN×Bool×Bool×LL×LL×(List Tkn)×(List S28))) :=
 λ(b:Int) (n:List Tkn) (c:List S28)=>jn (λ(u:(List Tkn)×S28×(List S28))=>(appS 104 u.2.2 ([u.2.1]:List S28)).bind λo=>bT (c7 k ([93]:LN) u.1) λg=>if g.1 then (some (some (a0,E,I,J,K,M,g.2,o))) else (bT (c23 k ([44]:LN) g.2) λx=>D x o)) (λz=>if (decide (b < (i30c0.length:Int))) then ((nthL i30c0 b).bind λq=>bT (c7 k q n) λh=>jn (λ(N:List S28)=>bT (F.c5 (3:Int) h.2) λj=>z (j.2,(⟨14,q,(⟨(([a.1,j.1]:List S28)).length,(([a.1,j.1]:List S28)).flatMap e29⟩:Raw),false,false,([]:LL),([]:LL)⟩:S28),N)) (λO=>if h.1 then (O c) else (ih (fW .i64 (b+1)) h.2 c))) else (z (n,a.1,c)))
def qDj (k:Nat) (F:Cns) (b:(List Tkn)→(List S28)→Option (Option (Int×LN×Bool×Bool×LL×LL×(List Tkn)×(List S28)))) (a0:Int) (c:LN) (g:Bool) (h:Bool) (j:LL) (o:LL) (q:List Tkn) (u:List S28) (a:(S28×(List Tkn))) (n:Nat):Int→(List Tkn)→(List S28)→Option (Option (Int×LN×Bool×Bool×LL×LL×(List Tkn)×(List S28))):=lp (λ_ _ _=>none) (qD2 k F b a0 c g h j o q u a) n
def qD3 (k:Nat) (F:Cns) (a0:Int) (g:LN) (h:Bool) (j:Bool) (n:LL) (o:LL) (q:List Tkn) (u:List S28) (ih:(List Tkn)→(List S28)→Option (Option (Int×LN×Bool×Bool×LL×LL×(List Tkn)×(List S28)))):(List Tkn)→(List S28)→Option (Option (Int×LN×Bool×Bool×LL×LL×(List Tkn)×(List S28))) :=
 λ(b:List Tkn) (c:List S28)=>bT (F.c5 (3:Int) b) λa=>qDj k F ih a0 g h j n o q u a k 0 a.2 c
def qE9 (k:Nat) (F:Cns) (a0:Int) (a:LN) (b:Bool) (c:Bool) (g:LL) (h:LL) (j:List Tkn) (o:List S28) (n:Nat):(List Tkn)→(List S28)→Option (Option (Int×LN×Bool×Bool×LL×LL×(List Tkn)×(List S28))):=lp (λ_ _=>none) (qD3 k F a0 a b c g h j o) n
def c30B (k:Nat) (F:Cns) (a0:Int) (c:LN) (g:Bool) (h:Bool) (j:LL) (n:LL) (a:List Tkn) (b:List S28):Option (Option (Int×LN×Bool×Bool×LL×LL×(List Tkn)×(List S28))) :=
 qE9 k F a0 c g h j n a b k a b
def qBz (k:Nat) (F:Cns) (n:(LN×(List Tkn))→Option (Option (S28×(List Tkn)))) (o:((List Tkn)×S28)) (ih:LN→(List Tkn)→Option (Option (S28×(List Tkn)))):LN→(List Tkn)→Option (Option (S28×(List Tkn))) :=
 λ(b:LN) (g:List Tkn)=>bT (c7 k ([45]:LN) g) λa=>if a.1 then ((catS b ([45]:LN)).bind λh=>bT (c33 k ([(1:Int)]:List Int) a.2) λc=>(catS h c.1).bind λj=>ih j c.2) else (n (b,a.2))
def qCh (k:Nat) (F:Cns) (a:(LN×(List Tkn))→Option (Option (S28×(List Tkn)))) (b:((List Tkn)×S28)) (n:Nat):LN→(List Tkn)→Option (Option (S28×(List Tkn))):=lp (λ_ _=>none) (qBz k F a b) n
def c31B (k:Nat) (F:Cns) (Q:List Tkn):Option (Option (S28×(List Tkn))) :=
 (c9 k Q).bind λo=>(g75 k o.f0).bind λI=>jn (λ(b:(List Tkn)×S28)=>bT (c7 k ([58]:LN) b.1) λc=>jn (λ(x:LN×(List Tkn))=>bT (c7 k ([47]:LN) x.2) λg=>jn (λ(n:LN×(List Tkn))=>if (eqL n.1 []) then (some (some (b.2,n.2))) else (some (some ((⟨(7:Int),n.1,⟨(([b.2]:List S28)).length,(([b.2]:List S28)).flatMap e29⟩,false,false,([]:LL),([]:LL)⟩:S28),n.2)))) (λJ=>if g.1 then ((catS x.1 ([47]:LN)).bind λz=>bT (c33 k ([(1:Int)]:List Int) g.2) λh=>(catS z h.1).bind λD=>qCh k F J  b k D h.2) else (J (x.1,g.2)))) (λK=>if c.1 then (bT (c39 k c.2) λq=>(catS ([58]:LN) q.1).bind λM=>K (M,q.2)) else (K (([]:LN),c.2)))) (λE=>if I then (bT (c11 k Q) λN=>E (N,(⟨1,o.f1,(⟨(([]:List S28)).length,(([]:List S28)).flatMap e29⟩:Raw),false,false,([]:LL),([]:LL)⟩:S28))) else (bT (c7 k ([40]:LN) Q) λj=>if j.1 then (bT (F.c17 j.2) λu=>E (u.2,u.1)) else (bT (c23 k ([60,60]:LN) j.2) λO=>bT (F.c20 (6:Int) ([]:LN) false false ([]:LL) ([]:LL) ([62,62]:LN) O ([]:List S28)) λa=>E (a.2.2.2.2.2.2.1,(⟨a.1,a.2.1,(⟨(a.2.2.2.2.2.2.2).length,(a.2.2.2.2.2.2.2).flatMap e29⟩:Raw),a.2.2.1,a.2.2.2.1,a.2.2.2.2.1,a.2.2.2.2.2.1⟩:S28)))))
def qD1 (k:Nat) (F:Cns) (n:List Tkn) (a:(S28×(List Tkn))) (ih:Int→(List Tkn)→Option (Option (S28×(List Tkn)))):Int→(List Tkn)→Option (Option (S28×(List Tkn))) :=
 λ(b:Int) (h:List Tkn)=>if (decide (b < (i32c0.length:Int))) then ((nthL i32c0 b).bind λj=>bT (c7 k j h) λc=>if c.1 then (bT (F.c5 (1:Int) c.2) λg=>some (some ((⟨(14:Int),j,⟨(([a.1,g.1]:List S28)).length,(([a.1,g.1]:List S28)).flatMap e29⟩,false,false,([]:LL),([]:LL)⟩:S28),g.2))) else (ih (fW .i64 (b+1)) c.2)) else (some (some (a.1,h)))
def qDi (k:Nat) (F:Cns) (b:List Tkn) (a:(S28×(List Tkn))) (n:Nat):Int→(List Tkn)→Option (Option (S28×(List Tkn))):=lp (λ_ _=>none) (qD1 k F b a) n
def c32B (k:Nat) (F:Cns) (b:List Tkn):Option (Option (S28×(List Tkn))) :=
 bT (F.c5 (1:Int) b) λa=>qDi k F b a k 0 a.2
def c34B (k:Nat) (F:Cns) (g:List Tkn):Option (Option (S28×(List Tkn))) :=
 bT (F.c40 ([]:LL) g) λa=>(c12 k a.2).bind λb=>bT (c23 k ([101,110,100]:LN) b.2) λc=>some (some ((⟨(17:Int),([]:LN),⟨(a.1).length,(a.1).flatMap e29⟩,false,false,([]:LL),b.1⟩:S28),c))
def c36B (k:Nat) (F:Cns) (a0:Int) (j:LN) (n:Bool) (o:Bool) (q:LL) (z:LL) (u:List Tkn) (x:List S28):Option (Option (Int×LN×Bool×Bool×LL×LL×(List Tkn)×(List S28))) :=
 (c12 k u).bind λa=>bT (F.c41 a.1 a.2) λb=>(appS 104 x b.1).bind λg=>(c12 k b.2).bind λc=>bT (c23 k ([101,110,100]:LN) c.2) λh=>some (some (a0,j,n,o,q,c.1,h,g))
def c37B (k:Nat) (F:Cns) (a0:Int) (j:LN) (n:Bool) (o:Bool) (q:LL) (z:LL) (u:List Tkn) (x:List S28):Option (Option (Int×LN×Bool×Bool×LL×LL×(List Tkn)×(List S28))) :=
 (c12 k u).bind λa=>bT (F.c42 a.1 a.2) λb=>(appS 104 x b.1).bind λg=>(c12 k b.2).bind λc=>bT (c23 k ([101,110,100]:LN) c.2) λh=>some (some (a0,j,n,o,q,c.1,h,g))
def c38B (k:Nat) (F:Cns) (x:List Tkn):Option (Option (S28×(List Tkn))) :=
 (c12 k x).bind λh=>(c10 k i38c0 h.2).bind λu=>if (!u) then (bT (F.c43 h.1 h.2) λo=>(c12 k o.1).bind λq=>bT (c7 k i38c0 q.2) λb=>if b.1 then (bT (F.c5 (1:Int) b.2) λc=>bT (F.c47 ([]:LN) (⟨23,([]:LN),(⟨(([c.1]:List S28)).length,(([c.1]:List S28)).flatMap e29⟩:Raw),false,false,([]:LL),([]:LL)⟩:S28) (⟨24,([]:LN),(⟨(([]:List S28)).length,(([]:List S28)).flatMap e29⟩:Raw),false,false,([]:LL),([]:LL)⟩:S28) c.2) λa=>(appS 104 o.2 ([(⟨a.1.f0,a.1.f1,a.1.f2,a.1.f3,a.1.f4,q.1,a.1.f6⟩:S28)]:List S28)).bind λj=>(c12 k a.2).bind λn=>bT (c23 k ([101,110,100]:LN) n.2) λg=>some (some ((⟨(20:Int),i38c0,⟨(j).length,(j).flatMap e29⟩,false,false,([]:LL),n.1⟩:S28),g))) else (bT (c23 k ([101,110,100]:LN) b.2) λg=>some (some ((⟨(20:Int),([]:LN),⟨(o.2).length,(o.2).flatMap e29⟩,false,false,([]:LL),q.1⟩:S28),g)))) else (bT (c7 k i38c0 h.2) λb=>if b.1 then (bT (F.c5 (1:Int) b.2) λc=>bT (F.c47 ([]:LN) (⟨23,([]:LN),(⟨(([c.1]:List S28)).length,(([c.1]:List S28)).flatMap e29⟩:Raw),false,false,([]:LL),([]:LL)⟩:S28) (⟨24,([]:LN),(⟨(([]:List S28)).length,(([]:List S28)).flatMap e29⟩:Raw),false,false,([]:LL),([]:LL)⟩:S28) c.2) λa=>(appS 104 ([]:List S28) ([(⟨a.1.f0,a.1.f1,a.1.f2,a.1.f3,a.1.f4,h.1,a.1.f6⟩:S28)]:List S28)).bind λj=>(c12 k a.2).bind λn=>bT (c23 k ([101,110,100]:LN) n.2) λg=>some (some ((⟨(20:Int),i38c0,⟨(j).length,(j).flatMap e29⟩,false,false,([]:LL),n.1⟩:S28),g))) else (bT (c23 k ([101,110,100]:LN) b.2) λg=>some (some ((⟨(20:Int),([]:LN),⟨(([]:List S28)).length,(([]:List S28)).flatMap e29⟩,false,false,([]:LL),h.1⟩:S28),g))))
def qD0 (k:Nat) (F:Cns)  (ih:LL→(List Tkn)→(List S28)→Option (Option ((List S28)×(List Tkn)))):LL→(List Tkn)→(List S28)→Option (Option ((List S28)×(List Tkn))) :=
 λ(h:LL) (j:List Tkn) (n:List S28)=>bT (F.c44 j) λa=>(appS 104 n ([(⟨a.1.f0,a.1.f1,a.1.f2,a.1.f3,a.1.f4,h,a.1.f6⟩:S28)]:List S28)).bind λc=>bT (c7 k ([59]:LN) a.2) λb=>if b.1 then ((c12 k b.2).bind λg=>ih g.1 g.2 c) else (some (some (c,b.2)))
def qE8 (k:Nat) (F:Cns)  (n:Nat):LL→(List Tkn)→(List S28)→Option (Option ((List S28)×(List Tkn))):=lp (λ_ _ _=>none) (qD0 k F ) n
def c40B (k:Nat) (F:Cns) (a0:LL) (a:List Tkn):Option (Option ((List S28)×(List Tkn))) :=
 qE8 k F  k a0 a ([]:List S28)
def qD (k:Nat) (F:Cns)  (ih:LL→(List Tkn)→(List S28)→Option (Option ((List S28)×(List Tkn)))):LL→(List Tkn)→(List S28)→Option (Option ((List S28)×(List Tkn))) :=
 λ(h:LL) (j:List Tkn) (n:List S28)=>bT (F.c45 j) λa=>(appS 104 n ([(⟨a.1.f0,a.1.f1,a.1.f2,a.1.f3,a.1.f4,h,a.1.f6⟩:S28)]:List S28)).bind λc=>bT (c7 k ([59]:LN) a.2) λb=>if b.1 then ((c12 k b.2).bind λg=>ih g.1 g.2 c) else (some (some (c,b.2)))
def qE7 (k:Nat) (F:Cns)  (n:Nat):LL→(List Tkn)→(List S28)→Option (Option ((List S28)×(List Tkn))):=lp (λ_ _ _=>none) (qD k F ) n
def c41B (k:Nat) (F:Cns) (a0:LL) (a:List Tkn):Option (Option ((List S28)×(List Tkn))) :=
 qE7 k F  k a0 a ([]:List S28)
def qCz (k:Nat) (F:Cns)  (ih:LL→(List Tkn)→(List S28)→Option (Option ((List S28)×(List Tkn)))):LL→(List Tkn)→(List S28)→Option (Option ((List S28)×(List Tkn))) :=
 λ(h:LL) (j:List Tkn) (n:List S28)=>bT (F.c46 j) λa=>(appS 104 n ([(⟨a.1.f0,a.1.f1,a.1.f2,a.1.f3,a.1.f4,h,a.1.f6⟩:S28)]:List S28)).bind λc=>bT (c7 k ([59]:LN) a.2) λb=>if b.1 then ((c12 k b.2).bind λg=>ih g.1 g.2 c) else (some (some (c,b.2)))
def qE6 (k:Nat) (F:Cns)  (n:Nat):LL→(List Tkn)→(List S28)→Option (Option ((List S28)×(List Tkn))):=lp (λ_ _ _=>none) (qCz k F ) n
def c42B (k:Nat) (F:Cns) (a0:LL) (a:List Tkn):Option (Option ((List S28)×(List Tkn))) :=
 qE6 k F  k a0 a ([]:List S28)
def qCy (k:Nat) (F:Cns)  (ih:LL→(List Tkn)→(List S28)→Option (Option ((List Tkn)×(List S28)))):LL→(List Tkn)→(List S28)→Option (Option ((List Tkn)×(List S28))) :=
 λ(h:LL) (j:List Tkn) (n:List S28)=>bT (F.c45 j) λa=>(appS 104 n ([(⟨a.1.f0,a.1.f1,a.1.f2,a.1.f3,a.1.f4,h,a.1.f6⟩:S28)]:List S28)).bind λc=>bT (c7 k ([59]:LN) a.2) λb=>if b.1 then ((c12 k b.2).bind λg=>ih g.1 g.2 c) else (some (some (b.2,c)))
def qE5 (k:Nat) (F:Cns)  (n:Nat):LL→(List Tkn)→(List S28)→Option (Option ((List Tkn)×(List S28))):=lp (λ_ _ _=>none) (qCy k F ) n
def c43B (k:Nat) (F:Cns) (a0:LL) (a:List Tkn):Option (Option ((List Tkn)×(List S28))) :=
 qE5 k F  k a0 a ([]:List S28)
def c44B (k:Nat) (F:Cns) (b:List Tkn):Option (Option (S28×(List Tkn))) :=
 bT (F.c48 ([]:LN) b) λa=>some (some (a.1,a.2))
def c45B (k:Nat) (F:Cns) (g:List Tkn):Option (Option (S28×(List Tkn))) :=
 bT (F.c5 (1:Int) g) λa=>bT (F.c49 a.2) λb=>bT (F.c47 ([]:LN) (⟨23,([]:LN),(⟨(([a.1]:List S28)).length,(([a.1]:List S28)).flatMap e29⟩:Raw),false,false,([]:LL),([]:LL)⟩:S28) b.1 b.2) λc=>some (some (c.1,c.2))
def c46B (k:Nat) (F:Cns) (c:List Tkn):Option (Option (S28×(List Tkn))) :=
 bT (F.c50 c) λa=>bT (F.c47 ([]:LN) (⟨23,([]:LN),(⟨(([]:List S28)).length,(([]:List S28)).flatMap e29⟩:Raw),false,false,([]:LL),([]:LL)⟩:S28) a.1 a.2) λb=>some (some (b.1,b.2))
def c47B (k:Nat) (F:Cns) (a0:LN) (g:S28) (h:S28) (j:List Tkn):Option (Option (S28×(List Tkn))) :=
 bT (c23 k ([45,62]:LN) j) λb=>(c28 k b).bind λc=>bT (F.c6 b) λa=>some (some ((⟨(22:Int),a0,⟨(([g,h,a.1]:List S28)).length,(([g,h,a.1]:List S28)).flatMap e29⟩,c,false,([]:LL),([]:LL)⟩:S28),a.2))
def c48B (k:Nat) (F:Cns) (a0:LN) (g:List Tkn):Option (Option (S28×(List Tkn))) :=
 bT (F.c51 g) λa=>bT (F.c49 a.2) λb=>bT (F.c47 a0 a.1 b.1 b.2) λc=>some (some (c.1,c.2))
def c49B (k:Nat) (F:Cns) (c:List Tkn):Option (Option (S28×(List Tkn))) :=
 bT (c7 k ([119,104,101,110]:LN) c) λa=>if a.1 then (bT (F.c50 a.2) λb=>some (some (b.1,b.2))) else (some (some ((⟨(24:Int),([]:LN),⟨0,[]⟩,false,false,([]:LL),([]:LL)⟩:S28),a.2)))
def qCx (k:Nat) (F:Cns) (j:List Tkn) (ih:(List Tkn)→(List S28)→Option (Option (S28×(List Tkn)))):(List Tkn)→(List S28)→Option (Option (S28×(List Tkn))) :=
 λ(g:List Tkn) (a:List S28)=>bT (c7 k ([59]:LN) g) λb=>if b.1 then (bT (F.c52 b.2) λc=>(appS 104 a ([c.1]:List S28)).bind λh=>ih c.2 h) else (some (some ((⟨(24:Int),([]:LN),⟨(a).length,(a).flatMap e29⟩,false,false,([]:LL),([]:LL)⟩:S28),b.2)))
def qE4 (k:Nat) (F:Cns) (a:List Tkn) (n:Nat):(List Tkn)→(List S28)→Option (Option (S28×(List Tkn))):=lp (λ_ _=>none) (qCx k F a) n
def c50B (k:Nat) (F:Cns) (b:List Tkn):Option (Option (S28×(List Tkn))) :=
 bT (F.c52 b) λa=>qE4 k F b k a.2 ([a.1]:List S28)
def c51B (k:Nat) (F:Cns) (c:List Tkn):Option (Option (S28×(List Tkn))) :=
 bT (c23 k ([40]:LN) c) λb=>bT (F.c18 (23:Int) ([]:LN) false false ([]:LL) ([]:LL) ([41]:LN) b ([]:List S28)) λa=>some (some ((⟨a.1,a.2.1,⟨(a.2.2.2.2.2.2.2).length,(a.2.2.2.2.2.2.2).flatMap e29⟩,a.2.2.1,a.2.2.2.1,a.2.2.2.2.1,a.2.2.2.2.2.1⟩:S28),a.2.2.2.2.2.2.1))
def qCw (k:Nat) (F:Cns) (j:List Tkn) (ih:(List Tkn)→(List S28)→Option (Option (S28×(List Tkn)))):(List Tkn)→(List S28)→Option (Option (S28×(List Tkn))) :=
 λ(g:List Tkn) (a:List S28)=>bT (c7 k ([44]:LN) g) λb=>if b.1 then (bT (F.c5 (1:Int) b.2) λc=>(appS 104 a ([c.1]:List S28)).bind λh=>ih c.2 h) else (some (some ((⟨(25:Int),([]:LN),⟨(a).length,(a).flatMap e29⟩,false,false,([]:LL),([]:LL)⟩:S28),b.2)))
def qE3 (k:Nat) (F:Cns) (a:List Tkn) (n:Nat):(List Tkn)→(List S28)→Option (Option (S28×(List Tkn))):=lp (λ_ _=>none) (qCw k F a) n
def c52B (k:Nat) (F:Cns) (b:List Tkn):Option (Option (S28×(List Tkn))) :=
 bT (F.c5 (1:Int) b) λa=>qE3 k F b k a.2 ([a.1]:List S28)
def cpar (K n:Nat):Cns:=Nat.rec (motive:=λ_=>Cns) ⟨λ_ _=>none,λ_=>none,λ_=>none,λ_=>none,λ_ _ _=>none,λ_=>none,λ_ _ _ _ _ _ _ _ _=>none,λ_=>none,λ_ _ _ _ _ _ _ _ _=>none,λ_ _ _ _ _ _ _ _ _=>none,λ_=>none,λ_=>none,λ_ _=>none,λ_=>none,λ_ _ _ _ _ _ _ _=>none,λ_=>none,λ_=>none,λ_=>none,λ_ _ _ _ _ _ _ _=>none,λ_ _ _ _ _ _ _ _=>none,λ_=>none,λ_ _=>none,λ_ _=>none,λ_ _=>none,λ_ _=>none,λ_=>none,λ_=>none,λ_=>none,λ_ _ _ _=>none,λ_ _=>none,λ_=>none,λ_=>none,λ_=>none,λ_=>none⟩ (λj F=>⟨c5B (K+j) F,c6B (K+j) F,c8B (K+j) F,c13B (K+j) F,c14B (K+j) F,c17B (K+j) F,c18B (K+j) F,c19B (K+j) F,c20B (K+j) F,c21B (K+j) F,c24B (K+j) F,c25B (K+j) F,c26B (K+j) F,c29B (K+j) F,c30B (K+j) F,c31B (K+j) F,c32B (K+j) F,c34B (K+j) F,c36B (K+j) F,c37B (K+j) F,c38B (K+j) F,c40B (K+j) F,c41B (K+j) F,c42B (K+j) F,c43B (K+j) F,c44B (K+j) F,c45B (K+j) F,c46B (K+j) F,c47B (K+j) F,c48B (K+j) F,c49B (K+j) F,c50B (K+j) F,c51B (K+j) F,c52B (K+j) F⟩) n
end
def Tot {α:Type} (m:Option (Option α)) (P:α→Prop):Prop := ∃ r,m=some r∧∀ x,r=some x→P x
def Val {α:Type} (m:Option α) (P:α→Prop):Prop := ∃ a,m=some a∧P a
theorem tR {α:Type} {x:α} {P:α→Prop} (h:P x):Tot (some (some x)) P:=⟨some x,rfl,λy e=>by cases e; exact h⟩
theorem tN {α:Type} {P:α→Prop}:Tot (some none) P:=⟨none,rfl,λy e=>by cases e⟩
theorem tT {α β:Type} {m:Option (Option α)} {f:α→Option (Option β)} {Q:α→Prop} {P:β→Prop} (h:Tot m Q) (k:∀ x,Q x→Tot (f x) P):Tot (bT m f) P:=by
 obtain ⟨r,e,hr⟩:=h
 rw [e]
 cases r with
 | none=>exact tN
 | some x=>exact k x (hr x rfl)
theorem tB {α β:Type} {m:Option α} {f:α→Option (Option β)} {Q:α→Prop} {P:β→Prop} (h:Val m Q) (k:∀ x,Q x→Tot (f x) P):Tot (m.bind f) P:=by
 obtain ⟨a,e,ha⟩:=h
 rw [e]
 exact k a ha
theorem tI {α:Type} {c:Bool} {a b:Option (Option α)} {P:α→Prop} (h1:c=true→Tot a P) (h2:c=false→Tot b P):Tot (if c then a else b) P:=by
 cases c with
 | true=>exact h1 rfl
 | false=>exact h2 rfl
theorem tJ {α β:Type} {f:α→Option (Option β)} {g:(α→Option (Option β))→Option (Option β)} {J:α→Prop} {P:β→Prop} (hf:∀ z,J z→Tot (f z) P) (hg:∀ j:α→Option (Option β),(∀ z,J z→Tot (j z) P)→Tot (g j) P):Tot (jn f g) P:=hg f hf
theorem tW {α:Type} {m:Option (Option α)} {P Q:α→Prop} (h:Tot m P) (k:∀ x,P x→Q x):Tot m Q:=by
 obtain ⟨r,e,hr⟩:=h
 exact ⟨r,e,λx ex=>k x (hr x ex)⟩
theorem vS {α:Type} {a:α} {P:α→Prop} (h:P a):Val (some a) P:=⟨a,rfl,h⟩
theorem vB {α β:Type} {m:Option α} {f:α→Option β} {Q:α→Prop} {P:β→Prop} (h:Val m Q) (k:∀ x,Q x→Val (f x) P):Val (m.bind f) P:=by
 obtain ⟨a,e,ha⟩:=h
 rw [e]
 exact k a ha
def Nx (W W':List Tkn) (t:Tkn):Prop:=W=t::W'∧¬ t.1.f0=11
theorem qJ8 {W W':List Tkn} {t:Tkn} (h:Nx W W' t):cCur W=t.1:=by
 obtain ⟨rfl,h⟩:=h
 simp [cCur,h]
theorem qM0 (k:Nat) (W:List Tkn):Tot (c11 k W) λW' => ∃ t,Nx W W' t:=by
 unfold c11
 refine ⟨_,rfl,λx e=>?_⟩
 cases W with
 | nil=>cases e
 | cons t r =>
  have e':(if t.1.f0=11 then none else some r)=some x:=e
  by_cases h:t.1.f0=11
  ·rw [if_pos h] at e'; cases e'
  ·rw [if_neg h] at e'; cases e'; exact ⟨t,rfl,h⟩
theorem is_V (k:Nat) (s:LN) (W:List Tkn):Val (c10 k s W) λb=>b=true→((cCur W).f0=9∨(cCur W).f0=8)∧(cCur W).f1=s:=by
 unfold c10 c9
 by_cases h9:(cCur W).f0=9
 ·exact ⟨_,iT (decide_eq_true h9) rfl,λe=>⟨.inl h9,(qCv _ _).1 e⟩⟩
 ·by_cases h8:(cCur W).f0=8
  ·exact ⟨_,iF (decide_eq_false h9) (iT (decide_eq_true h8) rfl),λe=>⟨.inr h8,(qCv _ _).1 e⟩⟩
  ·exact ⟨_,iF (decide_eq_false h9) (iF (decide_eq_false h8) rfl),λe=>by cases e⟩
def Sg (s:LN) (W W':List Tkn):Prop := ∃ t,Nx W W' t∧(t.1.f0=9∨t.1.f0=8)∧t.1.f1=s
theorem qP5 (k:Nat) (s:LN) (W:List Tkn):Tot (c7 k s W) λx=>(x.1=true∧Sg s W x.2)∨(x.1=false∧x.2=W):=by
 unfold c7
 refine tB (is_V k s W) λb hb=>?_
 cases b with
 | false=>exact tI (λ_=>tR (.inr ⟨rfl,rfl⟩)) (λe=>by cases e)
 | true =>
  refine tI (λe=>by cases e) λ_=>tT (qM0 k W) λW' ⟨t,ht⟩=>tR (.inl ⟨rfl,t,ht,?_⟩)
  have:=hb rfl
  rw [qJ8 ht] at this
  exact this
theorem qQc (k:Nat) (b:Bool):Tot (i16 k b) λ_=>b=true:=by
 cases b with
 | true=>exact ⟨_,must_t k,λx e=>rfl⟩
 | false=>exact ⟨_,qQb k,λx e=>by cases e⟩
theorem need_T (k:Nat) (s:LN) (W:List Tkn):Tot (c23 k s W) λW'=>Sg s W W':=by
 unfold c23
 refine tT (qP5 k s W) λx hx=>tT (qQc k x.1) λu hu=>tR ?_
 rcases hx with ⟨-,h⟩ | ⟨h,-⟩
 ·exact h
 ·rw [h] at hu; cases hu
inductive Nds (nd:S28→LL→Prop):List S28→LL→Prop where
 | nil:Nds nd [] []
 | cons:∀ {x xs l ls},nd x l→Nds nd xs ls→Nds nd (x::xs) (l++ls)
structure Lg where
 rel:List Tkn→LL→Prop
 dark:List Tkn→LL→Prop
 nd:S28→LL→Prop
 own:LN→LL
 no:LL→LL
 nil:rel [] []
 app:∀ {a b la lb},rel a la→rel b lb→rel (a++b) (la++lb)
 sign:∀ {t:Tkn},t.1.f0=9∨t.1.f0=8→rel [t] []
 lit:∀ {t:Tkn},1≤t.1.f0→t.1.f0≤7→rel [t] (own t.1.f1)
 note:∀ {t:Tkn},t.1.f0=11→rel [t] (no [t.1.f1])
 dim:∀ {a la},rel a la→dark a la
 dapp:∀ {a b la lb},dark a la→dark b lb→dark (a++b) (la++lb)
 skip:∀ {t:Tkn},1≤t.1.f0→t.1.f0≤7→dark [t] []
 enter:∀ {t:Tkn} {a la},(t.1.f0=9∨t.1.f0=8)→t.1.f1=[35]∨t.1.f1=[102,117,110]∨t.1.f1=[60,60]→dark a la→rel (t::a) la
 noNil:no []=[]
 noApp:∀ a b,no (a++b)=no a++no b
 leaf:∀ t,t ≠ []→nd ⟨1,t,⟨0,[]⟩,false,false,[],[]⟩ (own t)
 lf:∀ {x l},nd x l→x.f0=1→x.f1 ≠ []
 node:∀ {kd:Int} {t:LN} {L:List S28} {ls:LL} {br bl:Bool} {n ta:LL},¬ kd=1→L.length < 100000000→Nds nd L ls→nd ⟨kd,t,⟨L.length,L.flatMap e29⟩,br,bl,n,ta⟩ (no n++(ls++no ta))
 renote:∀ {x:S28} {l n:LL} {bl:Bool},x.f5=[]→nd x l→nd ⟨x.f0,x.f1,x.f2,x.f3,bl,n,x.f6⟩ (no n++l)
theorem qGw (G : Lg) : ∀ W : List Tkn, ∃ s, W = s ++ (cNotes W).2 ∧ G.rel s (G.no (cNotes W).1)
 | []=>⟨[],rfl,by show G.rel [] (G.no []); rw [G.noNil]; exact G.nil⟩
 | t::r=>by
  obtain ⟨s,h1,h2⟩:=qGw G r
  by_cases h:t.1.f0=11
  ·refine ⟨t::s,?_,?_⟩
   ·have e:(cNotes (t::r)).2=(cNotes r).2:=by show (if t.1.f0=11 then _ else _:LL×List Tkn).2=_; rw [if_pos h]
    rw [e,List.cons_append,← h1]
   ·have e:(cNotes (t::r)).1=[t.1.f1]++(cNotes r).1:=by
     show (if t.1.f0=11 then _ else _:LL×List Tkn).1=_
     rw [if_pos h]; rfl
    rw [e,G.noApp]
    exact G.app (G.note h) h2
  ·refine ⟨[],?_,?_⟩
   ·have e:(cNotes (t::r)).2=t::r:=by show (if t.1.f0=11 then _ else _:LL×List Tkn).2=_; rw [if_neg h]
    rw [e]; rfl
   ·have e:(cNotes (t::r)).1=[]:=by show (if t.1.f0=11 then _ else _:LL×List Tkn).1=_; rw [if_neg h]
    rw [e,G.noNil]; exact G.nil
theorem nthIn {l:List Int} {j:Nat} (h:j < l.length):nthL l (j:Int)=some l[j]:=by
 unfold nthL
 rw [if_pos (by omega),Int.toNat_natCast,List.getElem?_eq_getElem h]
theorem idx_V (k : Nat) (l : List Int) (y : Int) (hl : l.length < 1000) : ∀ (n j : Nat), l.length - j < n → j ≤ l.length → Val (qBq k l y n (j : Int)) λr => 0 ≤ r → y ∈ l
 | 0,j,h,hj=>by omega
 | n+1,j,h,hj=>by
  rw [qS4]
  by_cases hlt:j < l.length
  ·by_cases he:y=l[j]
   ·exact ⟨_,iT (dT (by omega)) (bS (nthIn hlt) (iT (decide_eq_true he) rfl)),λ_=>by rw [he]; exact List.getElem_mem hlt⟩
   ·obtain ⟨r,e,hr⟩:=idx_V k l y hl n (j+1) (by omega) hlt
    refine ⟨r,iT (dT (by omega)) (bS (nthIn hlt) (iF (decide_eq_false he) ?_)),hr⟩
    show qBq k l y n (fW .i64 ((j:Int)+1))=_
    rw [fw_s (by omega)]
    exact e
  ·exact ⟨_,iF (dF (by omega)) rfl,λh=>by omega⟩
theorem cont_V (k:Nat) (l:List Int) (y:Int) (hl:l.length < 1000) (hk:l.length < k):Val (g104 k l y) λb=>b=true→y ∈ l:=by
 unfold g104
 obtain ⟨r,e,hr⟩:=idx_V k l y hl k 0 (by omega) (by omega)
 have e':g111 k l y=some r:=e
 exact ⟨_,bS e' rfl,λh=>hr (of_decide_eq_true h)⟩
theorem one_T (k:Nat) (l:List Int) (W:List Tkn) (hl:l.length < 1000) (hk:l.length < k):Tot (c33 k l W) λx => ∃ t,Nx W x.2 t∧t.1.f1=x.1∧t.1.f0 ∈ l:=by
 unfold c33 c9
 refine tB (vS (P:=λt=>t=cCur W) rfl) λt ht=>tB (cont_V k l t.f0 hl hk) λb hb=>tT (qQc k b) λu hu=>tT (qM0 k W) λW' ⟨t',h⟩=>tR ⟨t',h,?_,?_⟩
 ·rw [ht,qJ8 h]
 ·have:=hb hu
  rw [ht,qJ8 h] at this
  exact this
theorem name_T (k:Nat) (W:List Tkn) (hk:3 < k):Tot (c22 k W) λx => ∃ t,Nx W x.2 t∧t.1.f1=x.1∧1≤t.1.f0∧t.1.f0≤7:=by
 unfold c22
 refine tT (one_T k _ W (by decide) hk) λx ⟨t,h1,h2,h3⟩=>tR ⟨t,h1,h2,?_⟩
 have h3:t.1.f0 ∈ [(1:Int),2,7]:=h3
 simp at h3
 omega
theorem size_T (k:Nat) (W:List Tkn) (hk:3 < k):Tot (c39 k W) λx => ∃ t,Nx W x.2 t∧t.1.f1=x.1∧1≤t.1.f0∧t.1.f0≤7:=by
 unfold c39
 refine tT (one_T k _ W (by decide) hk) λx ⟨t,h1,h2,h3⟩=>tR ⟨t,h1,h2,?_⟩
 have h3:t.1.f0 ∈ [(3:Int),2,7]:=h3
 simp at h3
 omega
theorem Om {p:Prop} (h:p:=by first | omega | (dsimp only at *; omega)):p:=h
theorem So {p:Prop} (h:p:=by first | omega | (simp; done) | (simp; omega) | (dsimp only at *; simp; omega) | (simp at *; omega)):p:=h
theorem qAy {nd : S28 → LL → Prop} {x : S28} {l : LL} (hx : nd x l) : ∀ {a : List S28} {la : LL}, Nds nd a la → Nds nd (a ++ [x]) (la ++ l)
 | _,_,.nil=>by have:=Nds.cons hx Nds.nil; simpa using this
 | _,_,.cons h hs=>by
  have:=Nds.cons h (qAy hx hs)
  simpa using this
theorem qKi {nd : S28 → LL → Prop} {b : List S28} {lb : LL} (hx : Nds nd b lb) : ∀ {a : List S28} {la : LL}, Nds nd a la → Nds nd (a ++ b) (la ++ lb)
 | _,_,.nil=>hx
 | _,_,.cons h hs=>by
  have:=Nds.cons h (qKi hx hs)
  simpa using this
def Gud (W:List Tkn):Prop := ∀ t ∈ W,t.1.f1 ≠ []∧t.1.f1.length < 1000
def Lg.r (G : Lg) : Bool → List Tkn → LL → Prop
 | false=>G.rel
 | true=>G.dark
def Seg (G:Lg) (d:Bool) (W W':List Tkn) (l:LL):Prop := ∃ s,W=s++W'∧G.r d s l
variable {G:Lg} {d:Bool} {A B C W W':List Tkn} {l m la lb:List (List Nat)}
theorem Seg.nil:Seg G d W W []:=⟨[],rfl,by cases d; exact G.nil; exact G.dim G.nil⟩
theorem Seg.tr (h1:Seg G d A B l) (h2:Seg G d B C m):Seg G d A C (l++m):=by
 obtain ⟨s,rfl,r1⟩:=h1
 obtain ⟨t,rfl,r2⟩:=h2
 refine ⟨s++t,by simp,?_⟩
 cases d with
 | false=>exact G.app r1 r2
 | true=>exact G.dapp r1 r2
theorem Seg.dim (h:Seg G false A B l):Seg G d A B l:=by
 obtain ⟨s,e,r⟩:=h
 cases d with
 | false=>exact ⟨s,e,r⟩
 | true=>exact ⟨s,e,G.dim r⟩
theorem Seg.to (h:Seg G d A B l) (e:l=m):Seg G d A B m:=e ▸ h
theorem Seg.le (h:Seg G d A B l):B.length≤A.length:=by obtain ⟨s,rfl,_⟩:=h; simp
theorem Seg.good (h:Seg G d A B l) (g:Gud A):Gud B:=by
 obtain ⟨s,rfl,_⟩:=h
 exact λt ht=>g t (List.mem_append_right _ ht)
def Uk (d:Bool) (G:Lg) (la:LL) (W:List Tkn) (x:S28×List Tkn):Prop:=x.1.f5=[]∧x.2.length < W.length∧∃ l,G.nd x.1 (la++l)∧Seg G d W x.2 l
def Uz (G:Lg) (la:LL) (W:List Tkn) (x:S28×List Tkn):Prop:=x.1.f5=[]∧x.2.length≤W.length∧∃ l,G.nd x.1 (la++l)∧Seg G false W x.2 l
def Ui (d:Bool) (G:Lg) (kd:Int) (t:LN) (lb:LL) (W:List Tkn) (x:Int×LN×Bool×Bool×LL×LL×List Tkn×List S28):Prop :=
 ∃ br tl L W' l,x=(kd,t,br,false,[],tl,W',L)∧G.nd ⟨kd,t,⟨L.length,L.flatMap e29⟩,br,false,[],tl⟩ (lb++l)∧Seg G d W W' l∧W'.length < W.length
def Um (G:Lg) (m:Nat) (la:LL) (W:List Tkn) (x:List S28×List Tkn):Prop:=x.2.length < W.length∧x.1.length≤m∧∃ l,Nds G.nd x.1 (la++l)∧Seg G false W x.2 l
def Upp (G:Lg) (W:List Tkn) (x:S28×Bool×List Tkn):Prop:=x.1.f5=[]∧x.2.2.length < W.length∧∃ l,G.nd x.1 l∧Seg G false W x.2.2 l
def Uo (G:Lg) (W:List Tkn) (x:S28×Int×List Tkn):Prop:=x.1.f5=[]∧x.2.2.length < W.length∧∃ l,G.nd x.1 l∧Seg G false W x.2.2 l
theorem Uk.mono {x} (h:Uk d G lb B x) (s:Seg G d W B l) (e:lb=la++l):Uk d G la W x:=by
 obtain ⟨f,b,l',n,s'⟩:=h
 have:=s.le
 exact ⟨f,by omega,l++l',by rw [← List.append_assoc,← e]; exact n,s.tr s'⟩
theorem Uz.mono {x} (h:Uz G lb B x) (s:Seg G false W B l) (e:lb=la++l):Uz G la W x:=by
 obtain ⟨f,b,l',n,s'⟩:=h
 have:=s.le
 exact ⟨f,by omega,l++l',by rw [← List.append_assoc,← e]; exact n,s.tr s'⟩
theorem Uz.tk {x} (h:Uz G lb B x) (b:B.length < W.length) (s:Seg G false W B l) (e:lb=la++l):Uk false G la W x:=by
 obtain ⟨f,b,l',n,s'⟩:=h
 exact ⟨f,by omega,l++l',by rw [← List.append_assoc,← e]; exact n,s.tr s'⟩
theorem Ui.mono {kd t x} (h:Ui d G kd t lb B x) (s:Seg G d W B l) (e:lb=la++l):Ui d G kd t la W x:=by
 obtain ⟨br,tl,L,W',l',e1,n,s',b⟩:=h
 have:=s.le
 exact ⟨br,tl,L,W',l++l',e1,by rw [← List.append_assoc,← e]; exact n,s.tr s',by omega⟩
theorem Um.mono {x m} (h:Um G m lb B x) (s:Seg G false W B l) (e:lb=la++l):Um G m la W x:=by
 obtain ⟨b,c,l',n,s'⟩:=h
 have:=s.le
 exact ⟨by omega,c,l++l',by rw [← List.append_assoc,← e]; exact n,s.tr s'⟩
theorem nodeT {kd:Int} {t:LN} {L:List S28} {ls m ta:LL} {br:Bool} (hk:¬ kd=1) (h:Nds G.nd L ls) (e:ls++G.no ta=m) (hL:L.length < 100000000:=by exact So):G.nd ⟨kd,t,⟨L.length,L.flatMap e29⟩,br,false,[],ta⟩ m:=by
 have:=G.node (t:=t) (br:=br) (bl:=false) (n:=[]) (ta:=ta) hk hL h
 rw [G.noNil,List.nil_append,e] at this
 exact this
theorem node0 {kd:Int} {t:LN} {L:List S28} {ls m:LL} {br:Bool} (hk:¬ kd=1) (h:Nds G.nd L ls) (e:ls=m) (hL:L.length < 100000000:=by exact So):G.nd ⟨kd,t,⟨L.length,L.flatMap e29⟩,br,false,[],[]⟩ m:=nodeT hk h (by rw [G.noNil,List.append_nil,e]) hL
theorem nd1 {x:S28} (h:G.nd x l):Nds G.nd [x] l:=by have:=Nds.cons h Nds.nil; simpa using this
theorem nd2 {x y:S28} (h:G.nd x l) (h':G.nd y m):Nds G.nd [x,y] (l++m):=by have:=Nds.cons h (nd1 h'); simpa using this
section
variable {α β γ:Type} {P:γ→Prop}
theorem sCur {f:_→Option (Option γ)} (k:Nat) (h:Tot (f (cCur W)) P):Tot ((c9 k W).bind f) P:=h
theorem sV {m:Option α} {f:α→Option (Option γ)} (h:∃ b,m=some b) (k:∀ b,Tot (f b) P):Tot (m.bind f) P:=by
 obtain ⟨b,e⟩:=h
 rw [e]; exact k b
theorem sBr {f:Bool→Option (Option γ)} (k:Nat) (h:∀ b,Tot (f b) P):Tot ((c28 k W).bind f) P:=h _
theorem sNotes {f:LL×List Tkn→Option (Option γ)} (G:Lg) (k:Nat) (g:Gud W) (h:∀ n W',Seg G false W W' (G.no n)→W'.length≤W.length→Gud W'→Tot (f (n,W')) P):Tot ((c12 k W).bind f) P:=by
 obtain ⟨s,e,r⟩:=qGw G W
 have S:Seg G false W (cNotes W).2 (G.no (cNotes W).1):=⟨s,e,r⟩
 exact h _ _ S S.le (S.good g)
theorem sTakeV {f:Bool×List Tkn→Option (Option γ)} {s:LN} (G:Lg) (k:Nat) (g:Gud W) (h1:∀ W',Seg G false W W' []→W'.length < W.length→Gud W'→Tot (f (true,W')) P) (h2:Tot (f (false,W)) P):Tot (bT (c7 k s W) f) P:=by
 refine tT (qP5 k s W) λx hx=>?_
 obtain ⟨b,W'⟩:=x
 rcases hx with ⟨e,t,⟨e2,-⟩,hk,-⟩ | ⟨e,e2⟩
 ·cases e
  have e2:W=[t]++W':=e2
  have S:Seg G false W W' []:=⟨[t],e2,G.sign hk⟩
  exact h1 W' S (by rw [e2]; simp) (S.good g)
 ·cases e; cases e2; exact h2
theorem sTake {f1 f2:Bool×List Tkn→Option (Option γ)} {s:LN} (G:Lg) (k:Nat) (g:Gud W) (h1:∀ W',Seg G false W W' []→W'.length < W.length→Gud W'→Tot (f1 (true,W')) P) (h2:Tot (f2 (false,W)) P):Tot (bT (c7 k s W) λx=>if x.1 then f1 x else f2 x) P:=by
 refine sTakeV G k g (λW' S b g'=>?_) ?_
 ·exact tI (λ_=>h1 W' S b g') (λe=>by cases e)
 ·exact tI (λe=>by cases e) (λ_=>h2)
def En (G:Lg) (W W':List Tkn):Prop := ∀ {W'' l},Seg G true W' W'' l→Seg G false W W'' l
def Dk (s:LN):Prop:=s=[35]∨s=[102,117,110]∨s=[60,60]
theorem en_of {t:Tkn} (hk:t.1.f0=9∨t.1.f0=8) (h:Dk t.1.f1) (e:W=[t]++W'):En G W W':=by
 intro W'' l ⟨s,e',r⟩
 exact ⟨t::s,by rw [e,e']; rfl,G.enter hk h r⟩
theorem sTakeX {f1 f2:Bool×List Tkn→Option (Option γ)} {s:LN} (hs:Dk s) (G:Lg) (k:Nat) (g:Gud W) (h1:∀ W',En G W W'→Seg G false W W' []→W'.length < W.length→Gud W'→Tot (f1 (true,W')) P) (h2:Tot (f2 (false,W)) P):Tot (bT (c7 k s W) λx=>if x.1 then f1 x else f2 x) P:=by
 refine tT (qP5 k s W) λx hx=>?_
 obtain ⟨b,W'⟩:=x
 rcases hx with ⟨e,t,⟨e2,-⟩,hk,ht⟩ | ⟨e,e2⟩
 ·cases e
  have e2:W=[t]++W':=e2
  have S:Seg G false W W' []:=⟨[t],e2,G.sign hk⟩
  exact tI (λ_=>h1 W' (en_of hk (by rw [ht]; exact hs) e2) S (by rw [e2]; simp) (S.good g)) (λe=>by cases e)
 ·cases e; cases e2; exact tI (λe=>by cases e) (λ_=>h2)
theorem sNeed {f:List Tkn→Option (Option γ)} {s:LN} (G:Lg) (k:Nat) (g:Gud W) (h:∀ W',Seg G false W W' []→W'.length < W.length→Gud W'→Tot (f W') P):Tot (bT (c23 k s W) f) P:=by
 refine tT (need_T k s W) λW' ⟨t,⟨e2,_⟩,hk,_⟩=>?_
 have e2:W=[t]++W':=e2
 have S:Seg G false W W' []:=⟨[t],e2,G.sign hk⟩
 exact h W' S (by rw [e2]; simp) (S.good g)
theorem sNeedX {f:List Tkn→Option (Option γ)} {s:LN} (hs:Dk s) (G:Lg) (k:Nat) (g:Gud W) (h:∀ W',En G W W'→W'.length < W.length→Gud W'→Tot (f W') P):Tot (bT (c23 k s W) f) P:=by
 refine tT (need_T k s W) λW' ⟨t,⟨e2,_⟩,hk,ht⟩=>?_
 have e2:W=[t]++W':=e2
 have S:Seg G false W W' []:=⟨[t],e2,G.sign hk⟩
 exact h W' (en_of hk (by rw [ht]; exact hs) e2) (by rw [e2]; simp) (S.good g)
theorem sIs {f:Bool→Option (Option γ)} {s:LN} (k:Nat) (h1:((cCur W).f0=9∨(cCur W).f0=8)∧(cCur W).f1=s→Tot (f true) P) (h2:Tot (f false) P):Tot ((c10 k s W).bind f) P:=by
 refine tB (is_V k s W) λb hb=>?_
 cases b with
 | true=>exact h1 (hb rfl)
 | false=>exact h2
theorem sNext {f:List Tkn→Option (Option γ)} (G:Lg) (k:Nat) (g:Gud W) (hk:(cCur W).f0=9∨(cCur W).f0=8) (h:∀ W',Seg G false W W' []→W'.length < W.length→Gud W'→Tot (f W') P):Tot (bT (c11 k W) f) P:=by
 refine tT (qM0 k W) λW' ⟨t,ht⟩=>?_
 rw [qJ8 ht] at hk
 have e2:W=[t]++W':=ht.1
 have S:Seg G false W W' []:=⟨[t],e2,G.sign hk⟩
 exact h W' S (by rw [e2]; simp) (S.good g)
theorem sNextL {f:List Tkn→Option (Option γ)} (G:Lg) (k:Nat) (g:Gud W) (h1:1≤(cCur W).f0) (h7:(cCur W).f0≤7) (h:∀ W',Seg G false W W' (G.own (cCur W).f1)→(cCur W).f1 ≠ []→W'.length < W.length→Gud W'→Tot (f W') P):Tot (bT (c11 k W) f) P:=by
 refine tT (qM0 k W) λW' ⟨t,ht⟩=>?_
 have ec:=qJ8 ht
 have e2:W=[t]++W':=ht.1
 have S:Seg G false W W' (G.own t.1.f1):=⟨[t],e2,G.lit (by rw [← ec]; exact h1) (by rw [← ec]; exact h7)⟩
 have:=(g t (by rw [e2]; simp)).1
 exact h W' (by rw [ec]; exact S) (by rw [ec]; exact this) (by rw [e2]; simp) (S.good g)
def Wd (G:Lg) (P:γ→Prop) (W:List Tkn) (f:LN×List Tkn→Option (Option γ)):Prop := ∀ t W',Seg G false W W' (G.own t)→Seg G true W W' []→t.length < 1000→W'.length < W.length→Gud W'→Tot (f (t,W')) P
theorem wd_of {f:LN×List Tkn→Option (Option γ)} {m:Option (Option (LN×List Tkn))} (g:Gud W) (hm:Tot m λx => ∃ t,Nx W x.2 t∧t.1.f1=x.1∧1≤t.1.f0∧t.1.f0≤7) (h:Wd G P W f):Tot (bT m f) P:=by
 refine tT hm λx ⟨t,ht,e1,k1,k7⟩=>?_
 obtain ⟨s,W'⟩:=x
 have e1:t.1.f1=s:=e1
 subst e1
 have e2:W=[t]++W':=ht.1
 have S:Seg G false W W' (G.own t.1.f1):=⟨[t],e2,G.lit k1 k7⟩
 exact h _ W' S ⟨[t],e2,G.skip k1 k7⟩ (g t (by rw [e2]; simp)).2 (by rw [e2]; simp) (S.good g)
theorem sName {f:LN×List Tkn→Option (Option γ)} (G:Lg) {k:Nat} (hk:3 < k) (g:Gud W) (h:Wd G P W f):Tot (bT (c22 k W) f) P:=wd_of g (name_T k W hk) h
theorem sNameN {f:LN×List Tkn→Option (Option γ)} (G:Lg) {k:Nat} (hk:3 < k) (g:Gud W) (h:∀ t W',Seg G false W W' (G.own t)→t ≠ []→W'.length < W.length→Gud W'→Tot (f (t,W')) P):Tot (bT (c22 k W) f) P:=by
 refine tT (name_T k W hk) λx ⟨t,ht,e1,k1,k7⟩=>?_
 obtain ⟨s,W'⟩:=x
 have e1:t.1.f1=s:=e1
 subst e1
 have e2:W=[t]++W':=ht.1
 have S:Seg G false W W' (G.own t.1.f1):=⟨[t],e2,G.lit k1 k7⟩
 exact h _ W' S (g t (by rw [e2]; simp)).1 (by rw [e2]; simp) (S.good g)
theorem sSize {f:LN×List Tkn→Option (Option γ)} (G:Lg) {k:Nat} (hk:3 < k) (g:Gud W) (h:Wd G P W f):Tot (bT (c39 k W) f) P:=wd_of g (size_T k W hk) h
theorem sOne {f:LN×List Tkn→Option (Option γ)} (G:Lg) {k:Nat} (hk:3 < k) (g:Gud W) (h:Wd G P W f):Tot (bT (c33 k [1] W) f) P:=by
 refine wd_of g ?_ h
 refine tW (one_T k [1] W (by decide) (by simp; omega)) λx ⟨t,h1,h2,h3⟩=>⟨t,h1,h2,?_⟩
 simp at h3
 omega
theorem sM {f:S28×List Tkn→Option (Option γ)} {m:Option (Option (S28×List Tkn))} (g:Gud W) (h:Tot m (Uk d G la W)) (k:∀ x W' l,x.f5=[]→G.nd x (la++l)→Seg G d W W' l→W'.length < W.length→Gud W'→Tot (f (x,W')) P):Tot (bT m f) P:=by
 refine tT h λx ⟨e,b,l,n,s⟩=>?_
 obtain ⟨x,W'⟩:=x
 exact k x W' l e n s b (s.good g)
theorem sZ' {f:S28×List Tkn→Option (Option γ)} {m:Option (Option (S28×List Tkn))} (g:Gud W) (h:Tot m (Uz G la W)) (k:∀ x W' l,x.f5=[]→G.nd x (la++l)→Seg G false W W' l→W'.length≤W.length→Gud W'→Tot (f (x,W')) P):Tot (bT m f) P:=by
 refine tT h λx ⟨e,b,l,n,s⟩=>?_
 obtain ⟨x,W'⟩:=x
 exact k x W' l e n s b (s.good g)
theorem sI' {kd t} {f:Int×LN×Bool×Bool×LL×LL×List Tkn×List S28→Option (Option γ)} {m:Option (Option (Int×LN×Bool×Bool×LL×LL×List Tkn×List S28))} (g:Gud W) (h:Tot m (Ui d G kd t lb W)) (k:∀ br tl L W' l,G.nd ⟨kd,t,⟨L.length,L.flatMap e29⟩,br,false,[],tl⟩ (lb++l)→Seg G d W W' l→W'.length < W.length→Gud W'→Tot (f (kd,t,br,false,[],tl,W',L)) P):Tot (bT m f) P:=by
 refine tT h λx ⟨br,tl,L,W',l,e,n,s,b⟩=>?_
 subst e
 exact k br tl L W' l n s b (s.good g)
theorem sApp {f:List S28→Option (Option γ)} {acc xs:List S28} (h:acc.length+xs.length < 9000) (k:Tot (f (acc++xs)) P):Tot ((appS 104 acc xs).bind f) P:=by
 have e:appS 104 acc xs=some (acc++xs):=by
  unfold appS
  rw [if_pos ⟨by omega,by omega⟩]
 rw [e]; exact k
theorem sCat {f:LN→Option (Option γ)} {a b:LN} (h:a.length+b.length < 1000000000) (k:Tot (f (a++b)) P):Tot ((catS a b).bind f) P:=by
 have e:catS a b=some (a++b):=by
  unfold catS
  rw [if_pos (by omega)]
 rw [e]; exact k
theorem sMust {f:_→Option (Option γ)} {b:Bool} (k:Nat) (h:b=true→∀ u,Tot (f u) P):Tot (bT (i16 k b) f) P:=tT (qQc k b) λu hb=>h hb u
theorem sF {x:S28} (e:x.f5=[]) (n:G.nd x (la++l)) (s:Seg G d W W' l) (b:W'.length < W.length):Tot (some (some (x,W'))) (Uk d G la W):=tR ⟨e,b,l,n,s⟩
theorem sFz {x:S28} (e:x.f5=[]) (n:G.nd x (la++l)) (s:Seg G false W W' l) (b:W'.length≤W.length):Tot (some (some (x,W'))) (Uz G la W):=tR ⟨e,b,l,n,s⟩
theorem sFi {kd:Int} {t:LN} {br:Bool} {tl:LL} {L:List S28} (n:G.nd ⟨kd,t,⟨L.length,L.flatMap e29⟩,br,false,[],tl⟩ (lb++l)) (s:Seg G d W W' l) (b:W'.length < W.length):Tot (some (some (kd,t,br,false,[],tl,W',L))) (Ui d G kd t lb W):=tR ⟨br,tl,L,W',l,rfl,n,s,b⟩
theorem sFo {x:S28} {i:Int} (e:x.f5=[]) (n:G.nd x l) (s:Seg G false W W' l) (b:W'.length < W.length):Tot (some (some (x,i,W'))) (Uo G W):=tR ⟨e,b,l,n,s⟩
theorem sFp {x:S28} {i:Bool} (e:x.f5=[]) (n:G.nd x l) (s:Seg G false W W' l) (b:W'.length < W.length):Tot (some (some (x,i,W'))) (Upp G W):=tR ⟨e,b,l,n,s⟩
end
variable {G:Lg} {d:Bool} {k:Nat} {F:Cns} {W:List Tkn} {l la lb:List (List Nat)}
def Le (d:Bool) (G:Lg) (W:List Tkn) (m:List Tkn→Option (Option (S28×List Tkn))):Prop := ∀ W',W'.length≤W.length→Gud W'→Tot (m W') (Uk d G [] W')
def Lt (d:Bool) (G:Lg) (W:List Tkn) (m:List Tkn→Option (Option (S28×List Tkn))):Prop := ∀ W',W'.length < W.length→Gud W'→Tot (m W') (Uk d G [] W')
theorem m_at0 (g:Gud W) (h:Tot (F.c5 0 W) (Uk false G [] W)):Tot (c29B k F W) (Uk false G [] W):=by
 unfold c29B
 exact sM g h λx W1 l f n s b g1=>sF f n s b
theorem m_closed (g:Gud W) (h:Tot (F.c5 0 W) (Uk false G [] W)):Tot (c17B k F W) (Uk false G [] W):=by
 unfold c17B
 refine sM g h λx W1 l f n s b g1=>?_
 refine sNeed G k g1 λW2 s2 b2 g2=>?_
 exact sF f n ((s.tr s2).to (by simp)) Om
theorem m_right (hk3:3 < k) (g:Gud W) (h:Lt false G W F.c17):Tot (c25B k F W) (Uk false G [] W):=by
 unfold c25B
 refine sTake G k g (λW1 s1 b1 g1=>?_) ?_
 ·exact sM g1 (h W1 b1 g1) λx W2 l f n s b g2=>sF f n ((s1.tr s).to (by simp)) Om
 ·exact sNameN G hk3 g λt W1 s1 ht b1 g1=>sF rfl (G.leaf _ ht) s1 b1
theorem m_clause {a0:LN} {a1 a2:S28} {l1 l2:LL} (h1:G.nd a1 l1) (h2:G.nd a2 l2) (g:Gud W) (h:Lt false G W F.c6):Tot (c47B k F a0 a1 a2 W) (Uk false G (l1++l2) W):=by
 unfold c47B
 refine sNeed G k g λW1 s1 b1 g1=>sBr k λbr=>sM g1 (h W1 b1 g1) λx W2 l f n s b g2=>?_
 exact sF rfl (node0 (ls:=l1++(l2++l)) (by decide) (by have:=Nds.cons h1 (Nds.cons h2 (nd1 n)); simpa using this) (by simp)) (s1.tr s) Om
theorem m_guard (g:Gud W) (h:Lt false G W F.c50):Tot (c49B k F W) (Uz G [] W):=by
 unfold c49B
 refine sTake G k g (λW1 s1 b1 g1=>?_) ?_
 ·exact sM g1 (h W1 b1 g1) λx W2 l f n s b g2=>sFz f n ((s1.tr s).to (by simp)) Om
 ·exact sFz rfl (node0 (L:=[]) (by decide) .nil rfl) Seg.nil (Nat.le_refl _)
def Lc (G:Lg) (W:List Tkn) (m:S28→S28→List Tkn→Option (Option (S28×List Tkn))):Prop := ∀ W' a1 a2 l1 l2,W'.length < W.length→Gud W'→G.nd a1 l1→G.nd a2 l2→Tot (m a1 a2 W') (Uk false G (l1++l2) W')
def Lz (G:Lg) (W:List Tkn) (m:List Tkn→Option (Option (S28×List Tkn))):Prop := ∀ W',W'.length < W.length→Gud W'→Tot (m W') (Uz G [] W')
theorem qQi (g:Gud W) (he:Tot (F.c5 1 W) (Uk false G [] W)) (hg:Lz G W F.c49) (hc:Lc G W (F.c47 [])):Tot (c45B k F W) (Uk false G [] W):=by
 unfold c45B
 refine sM g he λx W1 l f n s b g1=>sZ' g1 (hg W1 b g1) λy W2 l2 f2 n2 s2 b2 g2=>?_
 refine sM g2 (hc W2 _ _ _ _ Om g2 (node0 (kd:=23) (t:=[]) (br:=false) (L:=[x]) (by decide) (nd1 n) rfl) n2) λz W3 l3 f3 n3 s3 b3 g3=>?_
 exact sF f3 n3 ((s.tr (s2.tr s3)).to (by simp)) Om
theorem m_asked (g:Gud W) (h:Tot (F.c50 W) (Uk false G [] W)) (hc:Lc G W (F.c47 [])):Tot (c46B k F W) (Uk false G [] W):=by
 unfold c46B
 refine sM g h λx W1 l f n s b g1=>?_
 refine sM g1 (hc W1 _ _ _ _ b g1 (node0 (kd:=23) (t:=[]) (br:=false) (L:=[]) (by decide) .nil rfl) n) λz W3 l3 f3 n3 s3 b3 g3=>?_
 exact sF f3 n3 (s.tr s3) Om
theorem m_called {a0:LN} (g:Gud W) (h:Tot (F.c51 W) (Uk false G [] W)) (hg:Lz G W F.c49) (hc:Lc G W (F.c47 a0)):Tot (c48B k F a0 W) (Uk false G [] W):=by
 unfold c48B
 refine sM g h λx W1 l f n s b g1=>sZ' g1 (hg W1 b g1) λy W2 l2 f2 n2 s2 b2 g2=>?_
 refine sM g2 (hc W2 _ _ _ _ Om g2 n n2) λz W3 l3 f3 n3 s3 b3 g3=>?_
 exact sF f3 n3 ((s.tr (s2.tr s3)).to (by simp)) Om
theorem m_funcl (g:Gud W) (h:Tot (F.c48 [] W) (Uk false G [] W)):Tot (c44B k F W) (Uk false G [] W):=by
 unfold c44B
 exact sM g h λx W1 l f n s b g1=>sF f n s b
theorem body_l : ∀ (n : Nat) (W : List Tkn) (acc : List S28) (la : LL), W.length < n → acc.length + W.length < 5000 → Gud W → Nds G.nd acc la → Le false G W (F.c5 0) → Tot (qIk k F n W acc) (Uk false G la W)
 | 0,W,acc,la,h1,h2,g,ha,h=>by omega
 | n+1,W,acc,la,h1,h2,g,ha,h=>by
  show Tot (qEx k F (qIk k F n) W acc) _
  unfold qEx
  refine tJ (J:=λz=>z.2=(W,acc)) (λz hz=>?_) (λj hj=>tI (λ_=>sV ⟨_,rfl⟩ λb=>hj _ rfl) (λ_=>hj _ rfl))
  obtain ⟨bl,W',acc'⟩:=z
  cases hz
  refine sNotes G k g λn0 W1 s1 b1 g1=>sM g1 (h W1 b1 g1) λx W2 l f nn s b g2=>?_
  refine sApp So ?_
  have hL:=qAy (G.renote (bl:=bl) (n:=n0) f nn) ha
  refine sTake G k g2 (λW3 s3 b3 g3=>?_) ?_
  ·refine tW (body_l n W3 _ _ Om So g3 hL (λW' hW g'=>h W' Om g')) λy hy=>hy.mono (s1.tr (s.tr s3)) (by simp)
  ·exact sF rfl (node0 (by decide) hL (by simp)) (s1.tr s) Om
theorem m_body (g:Gud W) (hk:W.length < k) (hW:W.length < 4000) (h:Le false G W (F.c5 0)):Tot (c6B k F W) (Uk false G [] W):=by
 unfold c6B
 exact body_l k W [] [] hk So g .nil h
theorem row_l (a2 : List Tkn) : ∀ (n : Nat) (W : List Tkn) (acc : List S28) (la : LL), W.length < n → acc.length + W.length < 5000 → Gud W → Nds G.nd acc la → Lt false G W (F.c5 1) → Tot (qE3 k F a2 n W acc) (Uz G la W)
 | 0,W,acc,la,h1,h2,g,ha,h=>by omega
 | n+1,W,acc,la,h1,h2,g,ha,h=>by
  show Tot (qCw k F a2 (qE3 k F a2 n) W acc) _
  unfold qCw
  refine sTake G k g (λW1 s1 b1 g1=>?_) ?_
  ·refine sM g1 (h W1 b1 g1) λx W2 l f nn s b g2=>sApp So ?_
   exact tW (row_l a2 n W2 _ _ Om So g2 (qAy nn ha) (λW' hW g'=>h W' Om g')) λy hy=>hy.mono (s1.tr s) (by simp)
  ·exact sFz rfl (node0 (by decide) ha (by simp)) Seg.nil (Nat.le_refl _)
theorem m_row (g:Gud W) (hk:W.length < k) (hW:W.length < 4000) (h:Le false G W (F.c5 1)):Tot (c52B k F W) (Uk false G [] W):=by
 unfold c52B
 refine sM g (h W (Nat.le_refl _) g) λx W1 l f nn s b g1=>?_
 exact tW (row_l W k W1 [x] _ Om So g1 (nd1 nn) (λW' hW g'=>h W' Om g')) λy hy=>hy.tk b s (by simp)
theorem alts_l (a2 : List Tkn) : ∀ (n : Nat) (W : List Tkn) (acc : List S28) (la : LL), W.length < n → acc.length + W.length < 5000 → Gud W → Nds G.nd acc la → Lt false G W F.c52 → Tot (qE4 k F a2 n W acc) (Uz G la W)
 | 0,W,acc,la,h1,h2,g,ha,h=>by omega
 | n+1,W,acc,la,h1,h2,g,ha,h=>by
  show Tot (qCx k F a2 (qE4 k F a2 n) W acc) _
  unfold qCx
  refine sTake G k g (λW1 s1 b1 g1=>?_) ?_
  ·refine sM g1 (h W1 b1 g1) λx W2 l f nn s b g2=>sApp So ?_
   exact tW (alts_l a2 n W2 _ _ Om So g2 (qAy nn ha) (λW' hW g'=>h W' Om g')) λy hy=>hy.mono (s1.tr s) (by simp)
  ·exact sFz rfl (node0 (by decide) ha (by simp)) Seg.nil (Nat.le_refl _)
theorem m_alts (g:Gud W) (hk:W.length < k) (hW:W.length < 4000) (h:Le false G W F.c52):Tot (c50B k F W) (Uk false G [] W):=by
 unfold c50B
 refine sM g (h W (Nat.le_refl _) g) λx W1 l f nn s b g1=>?_
 exact tW (alts_l W k W1 [x] _ Om So g1 (nd1 nn) (λW' hW g'=>h W' Om g')) λy hy=>hy.tk b s (by simp)
def Li (d:Bool) (G:Lg) (W:List Tkn) (m:Int→LN→Bool→Bool→LL→LL→LN→List Tkn→List S28→Option (Option (Int×LN×Bool×Bool×LL×LL×List Tkn×List S28))):Prop := ∀ kd t e b1 lb W',¬ kd=1→b1.length < 3→Nds G.nd b1 lb→W'.length < W.length→Gud W'→Tot (m kd t false false [] [] e W' b1) (Ui d G kd t lb W')
theorem m_args (g:Gud W) (h:Li false G W F.c18):Tot (c51B k F W) (Uk false G [] W):=by
 unfold c51B
 refine sNeed G k g λW1 s1 b1 g1=>sI' g1 (h 23 [] [41] [] [] W1 (by decide) (by decide) .nil b1 g1) λbr tl L W2 l n s b g2=>?_
 exact sF rfl n ((s1.tr s).to (by simp)) Om
theorem qFq {kd : Int} {t e : LN} {br : Bool} (hkd : ¬ kd = 1) : ∀ (n : Nat) (W : List Tkn) (notes : LL) (acc : List S28) (la : LL), W.length < n → acc.length + W.length < 5000 → Gud W → Nds G.nd acc la → Le d G W F.c29 → Tot (qCl k F kd t false [] [] e br n notes W acc) (Ui d G kd t (la ++ G.no notes) W)
 | 0,W,notes,acc,la,h1,h2,g,ha,h=>by omega
 | n+1,W,notes,acc,la,h1,h2,g,ha,h=>by
  show Tot (qC2 k F kd t false [] [] e br (qCl k F kd t false [] [] e br n) notes W acc) _
  unfold qC2
  refine sM g (h W (Nat.le_refl _) g) λx W1 l f nn s b g1=>sApp So ?_
  have hL:=qAy (G.renote (bl:=x.f4) (n:=notes) f nn) ha
  refine sNotes G k g1 λn2 W2 s2 b2 g2=>sTake G k g2 (λW3 s3 b3 g3=>?_) ?_
  ·exact sFi (nodeT hkd hL (by simp)) (s.tr (s2.tr s3).dim) Om
  ·refine sMust k λhm u=>sNeed G k g2 λW4 s4 b4 g4=>sNotes G k g4 λn5 W5 s5 b5 g5=>?_
   have e0:n2=[]:=List.eq_nil_of_length_eq_zero (by have h0:=of_decide_eq_true hm; dsimp only at h0; omega)
   subst e0
   refine tW (qFq hkd n W5 n5 _ _ Om So g5 hL (λW' hW g'=>h W' Om g')) λy hy=>hy.mono (s.tr (s2.tr (s4.tr s5)).dim) (by simp [G.noNil])
theorem m_c18 {kd:Int} {t e:LN} {b1:List S28} (hkd:¬ kd=1) (hb:b1.length < 3) (hn:Nds G.nd b1 lb) (g:Gud W) (hk:W.length < k) (hW:W.length < 4000) (h:Le d G W F.c29):Tot (c18B k F kd t false false [] [] e W b1) (Ui d G kd t lb W):=by
 unfold c18B
 refine sBr k λbr=>sNotes G k g λn1 W1 s1 b1 g1=>sTake G k g1 (λW2 s2 b2 g2=>?_) ?_
 ·exact sFi (nodeT hkd hn rfl) ((s1.tr s2).dim.to (by simp)) Om
 ·exact tW (qFq hkd k W1 n1 _ _ Om Om g1 hn (λW' hW g'=>h W' Om g')) λy hy=>hy.mono s1.dim (by simp)
theorem qFp {kd : Int} {t e : LN} {br : Bool} (hkd : ¬ kd = 1) : ∀ (n : Nat) (W : List Tkn) (notes : LL) (acc : List S28) (la : LL), W.length < n → acc.length + W.length < 5000 → Gud W → Nds G.nd acc la → Le d G W F.c31 → Tot (qCj k F kd t false [] [] e br n notes W acc) (Ui d G kd t (la ++ G.no notes) W)
 | 0,W,notes,acc,la,h1,h2,g,ha,h=>by omega
 | n+1,W,notes,acc,la,h1,h2,g,ha,h=>by
  show Tot (qC0 k F kd t false [] [] e br (qCj k F kd t false [] [] e br n) notes W acc) _
  unfold qC0
  refine sM g (h W (Nat.le_refl _) g) λx W1 l f nn s b g1=>sApp So ?_
  have hL:=qAy (G.renote (bl:=x.f4) (n:=notes) f nn) ha
  refine sNotes G k g1 λn2 W2 s2 b2 g2=>sTake G k g2 (λW3 s3 b3 g3=>?_) ?_
  ·exact sFi (nodeT hkd hL (by simp)) (s.tr (s2.tr s3).dim) Om
  ·refine sMust k λhm u=>sNeed G k g2 λW4 s4 b4 g4=>sNotes G k g4 λn5 W5 s5 b5 g5=>?_
   have e0:n2=[]:=List.eq_nil_of_length_eq_zero (by have h0:=of_decide_eq_true hm; dsimp only at h0; omega)
   subst e0
   refine tW (qFp hkd n W5 n5 _ _ Om So g5 hL (λW' hW g'=>h W' Om g')) λy hy=>hy.mono (s.tr (s2.tr (s4.tr s5)).dim) (by simp [G.noNil])
theorem m_c20 {kd:Int} {t e:LN} {b1:List S28} (hkd:¬ kd=1) (hb:b1.length < 3) (hn:Nds G.nd b1 lb) (g:Gud W) (hk:W.length < k) (hW:W.length < 4000) (h:Le d G W F.c31):Tot (c20B k F kd t false false [] [] e W b1) (Ui d G kd t lb W):=by
 unfold c20B
 refine sBr k λbr=>sNotes G k g λn1 W1 s1 b1 g1=>sTake G k g1 (λW2 s2 b2 g2=>?_) ?_
 ·exact sFi (nodeT hkd hn rfl) ((s1.tr s2).dim.to (by simp)) Om
 ·exact tW (qFp hkd k W1 n1 _ _ Om Om g1 hn (λW' hW g'=>h W' Om g')) λy hy=>hy.mono s1.dim (by simp)
theorem qFo {kd : Int} {t e : LN} {br : Bool} (hkd : ¬ kd = 1) : ∀ (n : Nat) (W : List Tkn) (notes : LL) (acc : List S28) (la : LL), W.length < n → acc.length + W.length < 5000 → Gud W → Nds G.nd acc la → Le d G W F.c32 → Tot (qCi k F kd t false [] [] e br n notes W acc) (Ui d G kd t (la ++ G.no notes) W)
 | 0,W,notes,acc,la,h1,h2,g,ha,h=>by omega
 | n+1,W,notes,acc,la,h1,h2,g,ha,h=>by
  show Tot (qC k F kd t false [] [] e br (qCi k F kd t false [] [] e br n) notes W acc) _
  unfold qC
  refine sM g (h W (Nat.le_refl _) g) λx W1 l f nn s b g1=>sApp So ?_
  have hL:=qAy (G.renote (bl:=x.f4) (n:=notes) f nn) ha
  refine sNotes G k g1 λn2 W2 s2 b2 g2=>sTake G k g2 (λW3 s3 b3 g3=>?_) ?_
  ·exact sFi (nodeT hkd hL (by simp)) (s.tr (s2.tr s3).dim) Om
  ·refine sMust k λhm u=>sNeed G k g2 λW4 s4 b4 g4=>sNotes G k g4 λn5 W5 s5 b5 g5=>?_
   have e0:n2=[]:=List.eq_nil_of_length_eq_zero (by have h0:=of_decide_eq_true hm; dsimp only at h0; omega)
   subst e0
   refine tW (qFo hkd n W5 n5 _ _ Om So g5 hL (λW' hW g'=>h W' Om g')) λy hy=>hy.mono (s.tr (s2.tr (s4.tr s5)).dim) (by simp [G.noNil])
theorem m_c21 {kd:Int} {t e:LN} {b1:List S28} (hkd:¬ kd=1) (hb:b1.length < 3) (hn:Nds G.nd b1 lb) (g:Gud W) (hk:W.length < k) (hW:W.length < 4000) (h:Le d G W F.c32):Tot (c21B k F kd t false false [] [] e W b1) (Ui d G kd t lb W):=by
 unfold c21B
 refine sBr k λbr=>sNotes G k g λn1 W1 s1 b1 g1=>sTake G k g1 (λW2 s2 b2 g2=>?_) ?_
 ·exact sFi (nodeT hkd hn rfl) ((s1.tr s2).dim.to (by simp)) Om
 ·exact tW (qFo hkd k W1 n1 _ _ Om Om g1 hn (λW' hW g'=>h W' Om g')) λy hy=>hy.mono s1.dim (by simp)
theorem qH : ∀ (n m : Nat) (W : List Tkn) (notes : LL) (acc : List S28) (la : LL), W.length < n → acc.length + W.length ≤ m → m < 5000 → Gud W → Nds G.nd acc la → Le false G W F.c44 → Tot (qE8 k F n notes W acc) (Um G m (la ++ G.no notes) W)
 | 0,m,W,notes,acc,la,h1,h2,h3,g,ha,h=>by omega
 | n+1,m,W,notes,acc,la,h1,h2,h3,g,ha,h=>by
  show Tot (qD0 k F (qE8 k F n) notes W acc) _
  unfold qD0
  refine sM g (h W (Nat.le_refl _) g) λx W1 l f nn s b g1=>sApp So ?_
  have hL:=qAy (G.renote (bl:=x.f4) (n:=notes) f nn) ha
  refine sTake G k g1 (λW2 s2 b2 g2=>?_) ?_
  ·refine sNotes G k g2 λn3 W3 s3 b3 g3=>?_
   exact tW (qH n m W3 n3 _ _ Om So h3 g3 hL (λW' hW g'=>h W' Om g')) λy hy=>hy.mono (s.tr (s2.tr s3)) (by simp)
  ·exact tR ⟨b,So,l,by simpa using hL,s⟩
theorem m_c40 {notes:LL} (g:Gud W) (hk:W.length < k) (hW:W.length < 4000) (h:Le false G W F.c44):Tot (c40B k F notes W) (Um G W.length (G.no notes) W):=by
 unfold c40B
 exact qH k W.length W notes [] [] hk (by simp) Om g .nil h
theorem qGz : ∀ (n m : Nat) (W : List Tkn) (notes : LL) (acc : List S28) (la : LL), W.length < n → acc.length + W.length ≤ m → m < 5000 → Gud W → Nds G.nd acc la → Le false G W F.c45 → Tot (qE7 k F n notes W acc) (Um G m (la ++ G.no notes) W)
 | 0,m,W,notes,acc,la,h1,h2,h3,g,ha,h=>by omega
 | n+1,m,W,notes,acc,la,h1,h2,h3,g,ha,h=>by
  show Tot (qD k F (qE7 k F n) notes W acc) _
  unfold qD
  refine sM g (h W (Nat.le_refl _) g) λx W1 l f nn s b g1=>sApp So ?_
  have hL:=qAy (G.renote (bl:=x.f4) (n:=notes) f nn) ha
  refine sTake G k g1 (λW2 s2 b2 g2=>?_) ?_
  ·refine sNotes G k g2 λn3 W3 s3 b3 g3=>?_
   exact tW (qGz n m W3 n3 _ _ Om So h3 g3 hL (λW' hW g'=>h W' Om g')) λy hy=>hy.mono (s.tr (s2.tr s3)) (by simp)
  ·exact tR ⟨b,So,l,by simpa using hL,s⟩
theorem m_c41 {notes:LL} (g:Gud W) (hk:W.length < k) (hW:W.length < 4000) (h:Le false G W F.c45):Tot (c41B k F notes W) (Um G W.length (G.no notes) W):=by
 unfold c41B
 exact qGz k W.length W notes [] [] hk (by simp) Om g .nil h
theorem qGy : ∀ (n m : Nat) (W : List Tkn) (notes : LL) (acc : List S28) (la : LL), W.length < n → acc.length + W.length ≤ m → m < 5000 → Gud W → Nds G.nd acc la → Le false G W F.c46 → Tot (qE6 k F n notes W acc) (Um G m (la ++ G.no notes) W)
 | 0,m,W,notes,acc,la,h1,h2,h3,g,ha,h=>by omega
 | n+1,m,W,notes,acc,la,h1,h2,h3,g,ha,h=>by
  show Tot (qCz k F (qE6 k F n) notes W acc) _
  unfold qCz
  refine sM g (h W (Nat.le_refl _) g) λx W1 l f nn s b g1=>sApp So ?_
  have hL:=qAy (G.renote (bl:=x.f4) (n:=notes) f nn) ha
  refine sTake G k g1 (λW2 s2 b2 g2=>?_) ?_
  ·refine sNotes G k g2 λn3 W3 s3 b3 g3=>?_
   exact tW (qGy n m W3 n3 _ _ Om So h3 g3 hL (λW' hW g'=>h W' Om g')) λy hy=>hy.mono (s.tr (s2.tr s3)) (by simp)
  ·exact tR ⟨b,So,l,by simpa using hL,s⟩
theorem m_c42 {notes:LL} (g:Gud W) (hk:W.length < k) (hW:W.length < 4000) (h:Le false G W F.c46):Tot (c42B k F notes W) (Um G W.length (G.no notes) W):=by
 unfold c42B
 exact qGy k W.length W notes [] [] hk (by simp) Om g .nil h
theorem qGx : ∀ (n m : Nat) (W : List Tkn) (notes : LL) (acc : List S28) (la : LL), W.length < n → acc.length + W.length ≤ m → m < 5000 → Gud W → Nds G.nd acc la → Le false G W F.c45 → Tot (qE5 k F n notes W acc) (λx => Um G m (la ++ G.no notes) W (x.2, x.1))
 | 0,m,W,notes,acc,la,h1,h2,h3,g,ha,h=>by omega
 | n+1,m,W,notes,acc,la,h1,h2,h3,g,ha,h=>by
  show Tot (qCy k F (qE5 k F n) notes W acc) _
  unfold qCy
  refine sM g (h W (Nat.le_refl _) g) λx W1 l f nn s b g1=>sApp So ?_
  have hL:=qAy (G.renote (bl:=x.f4) (n:=notes) f nn) ha
  refine sTake G k g1 (λW2 s2 b2 g2=>?_) ?_
  ·refine sNotes G k g2 λn3 W3 s3 b3 g3=>?_
   exact tW (qGx n m W3 n3 _ _ Om So h3 g3 hL (λW' hW g'=>h W' Om g')) λy hy=>hy.mono (s.tr (s2.tr s3)) (by simp)
  ·exact tR ⟨b,So,l,by simpa using hL,s⟩
theorem m_c43 {notes:LL} (g:Gud W) (hk:W.length < k) (hW:W.length < 4000) (h:Le false G W F.c45):Tot (c43B k F notes W) (λx=>Um G W.length (G.no notes) W (x.2,x.1)):=by
 unfold c43B
 exact qGx k W.length W notes [] [] hk (by simp) Om g .nil h
variable {G:Lg} {d:Bool} {k:Nat} {F:Cns} {W:List Tkn} {l la lb:List (List Nat)}
theorem sMm {γ:Type} {P:γ→Prop} {m:Nat} {f:List S28×List Tkn→Option (Option γ)} {q:Option (Option (List S28×List Tkn))} (g:Gud W) (h:Tot q (Um G m la W)) (k:∀ L W' l,L.length≤m→Nds G.nd L (la++l)→Seg G false W W' l→W'.length < W.length→Gud W'→Tot (f (L,W')) P):Tot (bT q f) P:=by
 refine tT h λx ⟨b,c,l,n,s⟩=>?_
 obtain ⟨L,W'⟩:=x
 exact k L W' l c n s b (s.good g)
theorem sMw {γ:Type} {P:γ→Prop} {m:Nat} {f:List Tkn×List S28→Option (Option γ)} {q:Option (Option (List Tkn×List S28))} (g:Gud W) (h:Tot q (λx=>Um G m la W (x.2,x.1))) (k:∀ L W' l,L.length≤m→Nds G.nd L (la++l)→Seg G false W W' l→W'.length < W.length→Gud W'→Tot (f (W',L)) P):Tot (bT q f) P:=by
 refine tT h λx ⟨b,c,l,n,s⟩=>?_
 obtain ⟨W',L⟩:=x
 exact k L W' l c n s b (s.good g)
def Lm (G:Lg) (W:List Tkn) (m:LL→List Tkn→Option (Option (List S28×List Tkn))):Prop := ∀ n W',W'.length≤W.length→Gud W'→Tot (m n W') (Um G W'.length (G.no n) W')
def Lw (G:Lg) (W:List Tkn) (m:LL→List Tkn→Option (Option (List Tkn×List S28))):Prop := ∀ n W',W'.length≤W.length→Gud W'→Tot (m n W') (λx=>Um G W'.length (G.no n) W' (x.2,x.1))
theorem m_c36 {kd:Int} {t:LN} {b1:List S28} (hkd:¬ kd=1) (hb:b1.length < 3) (hn:Nds G.nd b1 lb) (g:Gud W) (hW:W.length < 4000) (h:Lm G W F.c41):Tot (c36B k F kd t false false [] [] W b1) (Ui false G kd t lb W):=by
 unfold c36B
 refine sNotes G k g λn1 W1 s1 b1' g1=>sMm g1 (h n1 W1 b1' g1) λL W2 l c n s b g2=>sApp So (sNotes G k g2 λn3 W3 s3 b3 g3=>sNeed G k g3 λW4 s4 b4 g4=>?_)
 exact sFi (nodeT hkd (qKi n hn) (by simp)) (s1.tr (s.tr (s3.tr s4))) Om
theorem m_c37 {kd:Int} {t:LN} {b1:List S28} (hkd:¬ kd=1) (hb:b1.length < 3) (hn:Nds G.nd b1 lb) (g:Gud W) (hW:W.length < 4000) (h:Lm G W F.c42):Tot (c37B k F kd t false false [] [] W b1) (Ui false G kd t lb W):=by
 unfold c37B
 refine sNotes G k g λn1 W1 s1 b1' g1=>sMm g1 (h n1 W1 b1' g1) λL W2 l c n s b g2=>sApp So (sNotes G k g2 λn3 W3 s3 b3 g3=>sNeed G k g3 λW4 s4 b4 g4=>?_)
 exact sFi (nodeT hkd (qKi n hn) (by simp)) (s1.tr (s.tr (s3.tr s4))) Om
theorem m_fun (g:Gud W) (hW:W.length < 4000) (h:Lm G W F.c40):Tot (c34B k F W) (Uk false G [] W):=by
 unfold c34B
 refine sMm g (h [] W (Nat.le_refl _) g) λL W2 l c n s b g2=>sNotes G k g2 λn3 W3 s3 b3 g3=>sNeed G k g3 λW4 s4 b4 g4=>?_
 exact sF rfl (nodeT (by decide) n (by simp [G.noNil])) (s.tr (s3.tr s4)) Om
theorem qQg (g:Gud W) (hW:W.length < 4000) (h:Lw G W F.c43) (hE:Lt false G W (F.c5 1)) (hc:Lc G W (F.c47 [])):Tot (c38B k F W) (Uk false G [] W):=by
 unfold c38B
 refine sNotes G k g λn1 W1 s1 b1 g1=>sIs k (λ_=>?_) ?_
 ·refine tI (λe=>by cases e) λ_=>sTake G k g1 (λW4 s4 b4 g4=>?_) ?_
  ·refine sM g4 (hE W4 Om g4) λx5 W5 l5 f5 n5 s5 b5 g5=>?_
   refine sM g5 (hc W5 _ _ _ _ Om g5 (node0 (kd:=23) (t:=[]) (br:=false) (L:=[x5]) (by decide) (nd1 n5) rfl) (node0 (kd:=24) (t:=[]) (br:=false) (L:=[]) (by decide) .nil rfl)) λx6 W6 l6 f6 n6 s6 b6 g6=>?_
   refine sApp So (sNotes G k g6 λn8 W8 s8 b8 g8=>sNeed G k g8 λW9 s9 b9 g9=>?_)
   exact sF rfl (nodeT (by decide) (nd1 (G.renote (bl:=x6.f4) (n:=n1) f6 n6)) (by simp)) (s1.tr (s4.tr (s5.tr (s6.tr (s8.tr s9))))) Om
  ·refine sNeed G k g1 λW9 s9 b9 g9=>sF rfl (nodeT (L:=[]) (by decide) .nil (by simp)) (s1.tr s9) Om
 ·refine tI (λ_=>?_) λe=>by cases e
  refine sMw g1 (h n1 W1 b1 g1) λL W2 l c n s b g2=>sNotes G k g2 λn3 W3 s3 b3 g3=>sTake G k g3 (λW4 s4 b4 g4=>?_) ?_
  ·refine sM g4 (hE W4 Om g4) λx5 W5 l5 f5 n5 s5 b5 g5=>?_
   refine sM g5 (hc W5 _ _ _ _ Om g5 (node0 (kd:=23) (t:=[]) (br:=false) (L:=[x5]) (by decide) (nd1 n5) rfl) (node0 (kd:=24) (t:=[]) (br:=false) (L:=[]) (by decide) .nil rfl)) λx6 W6 l6 f6 n6 s6 b6 g6=>?_
   refine sApp So (sNotes G k g6 λn8 W8 s8 b8 g8=>sNeed G k g8 λW9 s9 b9 g9=>?_)
   exact sF rfl (nodeT (by decide) (qAy (G.renote (bl:=x6.f4) (n:=n3) f6 n6) n) (by simp)) (s1.tr (s.tr (s3.tr (s4.tr (s5.tr (s6.tr (s8.tr s9))))))) Om
  ·refine sNeed G k g3 λW9 s9 b9 g9=>sF rfl (nodeT (by decide) n (by simp)) (s1.tr (s.tr (s3.tr s9))) Om
theorem m_ref (hk:3 < k) (g:Gud W):Tot (c35 k W) (Uk true G [] W):=by
 unfold c35
 refine sName G hk g λt1 W1 _ s1 c1 b1 g1=>sTakeV G k g1 (λW2 s2 b2 g2=>?_) ?_
 all_goals refine tJ (J:=λz=>Gud z.2∧z.1.length < 3000∧z.2.length < W.length∧Seg G true W z.2 []) (λz ⟨g3,c3,b3,s3⟩=>?_) (λj hj=>?_)
 any_goals
  obtain ⟨t,W3⟩:=z
  exact sNeed G k g3 λW4 s4 b4 g4=>sCat So (sSize G hk g4 λt5 W5 _ s5 c5 b5 g5=>sCat So (sF rfl (node0 (L:=[]) (by decide) .nil rfl) (s3.tr (s4.dim.tr s5)) Om))
 ·refine tI (λ_=>sCat So (sName G hk g2 λt3 W3 _ s3 c3 b3 g3=>sCat So (hj _ ⟨g3,So,Om,s1.tr (s2.dim.tr s3)⟩))) λe=>by cases e
 ·exact tI (λe=>by cases e) λ_=>hj _ ⟨g1,So,Om,s1⟩
def Ur (G:Lg) (la:LL) (W:List Tkn) (x:S28×List Tkn):Prop := ¬ x.1.f0=1∧Uk true G la W x
theorem m_record {a0:S28} (hk:3 < k) (hn:G.nd a0 la) (g:Gud W) (h21:Li false G W F.c21) (h18:Li false G W F.c18):Tot (c26B k F a0 W) (Ur G la W):=by
 unfold c26B
 refine sTake G k g (λW1 s1 b1 g1=>?_) ?_
 ·refine sI' g1 (h21 9 [] [125] [a0] _ W1 (by decide) (by decide:1 < 3) (nd1 hn) b1 g1) λbr tl L W2 l n s b g2=>?_
  exact tR ⟨by show ¬ (9:Int)=1; decide,rfl,Om,_,n,(s1.tr s).dim⟩
 ·refine sName G hk g λt1 W1 _ s1 c1 b1 g1=>sTake G k g1 (λW2 s2 b2 g2=>?_) ?_
  ·refine sCat So (sOne G hk g2 λt3 W3 _ s3 c3 b3 g3=>sCat So ?_)
   exact tR ⟨by show ¬ (12:Int)=1; decide,rfl,Om,[]++([]++[]),node0 (L:=[a0]) (by decide) (nd1 hn) (by simp),s1.tr (s2.dim.tr s3)⟩
  ·refine sNeed G k g1 λW2 s2 b2 g2=>sI' g2 (h18 11 t1 [125] [a0] _ W2 (by decide) (by decide:1 < 3) (nd1 hn) Om g2) λbr tl L W3 l n s b g3=>?_
   exact tR ⟨by show ¬ (11:Int)=1; decide,rfl,Om,_,n,(s1.tr (s2.tr s).dim).to (by simp)⟩
theorem seg_l {γ : Type} {P : S28 × List Tkn → Prop} {j16 : LN × List Tkn → Option (Option (S28 × List Tkn))} {z13} (hk : 3 < k) : ∀ (n : Nat) (t : LN) (W : List Tkn), W.length < n → t.length + W.length * 2000 < 100000000 → Gud W → (∀ t W', Seg G true W W' [] → W'.length ≤ W.length → Gud W' → Tot (j16 (t, W')) P) → Tot (qCh k F j16 z13 n t W) P
 | 0,t,W,h1,h2,g,h=>by omega
 | n+1,t,W,h1,h2,g,h=>by
  show Tot (qBz k F j16 z13 (qCh k F j16 z13 n) t W) _
  unfold qBz
  refine sTake G k g (λW1 s1 b1 g1=>?_) ?_
  ·refine sCat So (sOne G hk g1 λt3 W3 _ s3 c3 b3 g3=>sCat So ?_)
   exact seg_l (γ:=γ) hk n _ W3 Om So g3 λt' W' s' b' g'=>h t' W' ((s1.dim.tr (s3.tr s')).to (by simp)) Om g'
  ·exact h _ _ Seg.nil (Nat.le_refl _) g
theorem g75_V (k:Nat) (a:Int):Val (g75 k a) λb=>b=true→1≤a∧a≤7:=by
 unfold g75
 by_cases h:1≤a
 ·exact ⟨_,iT (decide_eq_true h) rfl,λe=>⟨h,of_decide_eq_true e⟩⟩
 ·exact ⟨_,iF (decide_eq_false h) rfl,λe=>by cases e⟩
theorem qQf (hk:3 < k) (hW:W.length < k) (hW4:W.length < 4000) (g:Gud W) (h17:Lt false G W F.c17) (h20:Li true G W F.c20):Tot (c31B k F W) (Uk true G [] W):=by
 unfold c31B
 refine sCur k (tB (g75_V k _) λb hb=>?_)
 refine tJ (J:=λz=>z.2.f5=[]∧z.1.length < W.length∧Gud z.1∧∃ l,G.nd z.2 l∧Seg G true W z.1 l) (λz ⟨f,bb,g1,l,n,s⟩=>?_) (λj hj=>?_)
 ·obtain ⟨W1,x⟩:=z
  have fin:∀ t W3,Seg G true W1 W3 []→W3.length≤W1.length→Tot (if (eqL t []) then (some (some (x,W3))) else (some (some ((⟨(7:Int),t,⟨(([x]:List S28)).length,(([x]:List S28)).flatMap e29⟩,false,false,([]:LL),([]:LL)⟩:S28),W3)))) (Uk true G [] W):=λt W3 s3 b3=>tI (λ_=>sF f n ((s.tr s3).to (by simp)) Om) (λ_=>sF rfl (node0 (L:=[x]) (by decide) (nd1 n) rfl) ((s.tr s3).to (by simp)) Om)
  refine sTakeV G k g1 (λW2 s2 b2 g2=>?_) ?_
  all_goals refine tJ (J:=λz=>z.1.length < 3000∧Gud z.2∧z.2.length≤W1.length∧Seg G true W1 z.2 []) (λz ⟨c3,g3,b3,s3⟩=>?_) (λj hj=>?_)
  any_goals
   obtain ⟨t3,W3⟩:=z
   refine sTakeV G k g3 (λW4 s4 b4 g4=>?_) ?_
   all_goals refine tJ (J:=λz=>z.2.length≤W1.length∧Seg G true W1 z.2 []) (λz ⟨b5,s5⟩=>fin z.1 z.2 s5 b5) (λj hj=>?_)
   ·refine tI (λ_=>sCat So (sOne G hk g4 λt5 W5 _ s5 c5 b5 g5=>sCat So ?_)) λe=>by cases e
    exact seg_l (γ:=Unit) hk k _ W5 Om So g5 λt' W' s' b' g'=>hj _ ⟨Om,(s3.tr (s4.dim.tr (s5.tr s'))).to (by simp)⟩
   ·exact tI (λe=>by cases e) λ_=>hj _ ⟨b3,s3⟩
  ·refine tI (λ_=>sSize G hk g2 λt3 W3 _ s3 c3 b3 g3=>sCat So (hj _ ⟨So,g3,Om,s2.dim.tr s3⟩)) λe=>by cases e
  ·exact tI (λe=>by cases e) λ_=>hj _ ⟨So,g1,Nat.le_refl _,Seg.nil⟩
 ·refine tI (λe=>?_) (λ_=>?_)
  ·exact sNextL G k g (hb e).1 (hb e).2 λW1 s1 ht b1 g1=>hj _ ⟨rfl,b1,g1,_,G.leaf _ ht,s1.dim⟩
  ·refine sTake G k g (λW1 s1 b1 g1=>?_) ?_
   ·exact sM g1 (h17 W1 b1 g1) λx W2 l f n s b g2=>hj _ ⟨f,Om,g2,l,n,((s1.tr s).dim).to (by simp)⟩
   ·refine sNeedX (.inr (.inr rfl)) G k g λW1 en b1 g1=>sI' g1 (h20 6 [] [62,62] [] [] W1 (by decide) (by decide) .nil b1 g1) λbr tl L W2 l n s b g2=>?_
    exact hj _ ⟨rfl,Om,g2,_,n,(en s).dim⟩
theorem nthLi {α:Type} {l:List α} {j:Nat} (h:j < l.length):nthL l (j:Int)=some l[j]:=by
 unfold nthL
 rw [if_pos (by omega),Int.toNat_natCast,List.getElem?_eq_getElem h]
theorem pair_l {a2 : List Tkn} {x0 : S28 × List Tkn} {l0 : LL} (hf : x0.1.f5 = []) (hn : G.nd x0.1 l0) : ∀ (n j : Nat) (W : List Tkn), 2 - j < n → j ≤ 2 → Gud W → Lt false G W (F.c5 1) → Tot (qDi k F a2 x0 n (j : Int) W) (Uz G l0 W)
 | 0,j,W,h1,h2,g,h=>by omega
 | n+1,j,W,h1,h2,g,h=>by
  show Tot (qD1 k F a2 x0 (qDi k F a2 x0 n) (j:Int) W) _
  unfold qD1
  have hlen:i32c0.length=2:=rfl
  refine tI (λe=>?_) (λe=>?_)
  ·have hj:j < i32c0.length:=by have:=of_decide_eq_true e; omega
   refine sV ⟨_,nthLi hj⟩ λs=>sTake G k g (λW1 s1 b1 g1=>?_) ?_
   ·exact sM g1 (h W1 b1 g1) λx W2 l f nn s b g2=>sFz rfl (node0 (L:=[x0.1,x]) (by decide) (nd2 hn nn) rfl) ((s1.tr s).to (by simp)) Om
   ·show Tot (qDi k F a2 x0 n (fW .i64 ((j:Int)+1)) W) _
    rw [fw_s (by omega)]
    exact pair_l hf hn n (j+1) W (by omega) (by omega) g h
  ·exact sFz hf (by simpa using hn) Seg.nil (Nat.le_refl _)
theorem m_pair (hk:3 < k) (g:Gud W) (h:Le false G W (F.c5 1)):Tot (c32B k F W) (Uk false G [] W):=by
 unfold c32B
 refine sM g (h W (Nat.le_refl _) g) λx W1 l f n s b g1=>?_
 exact tW (pair_l (x0:=(x,W1)) f n k 0 W1 (by omega) (by omega) g1 (λW' hW g'=>h W' (by omega) g')) λy hy=>hy.tk b s (by simp)
theorem qual_j {P : Int × LN × Bool × Bool × LL × LL × List Tkn × List S28 → Prop} {kj7} {a0 a1 a2 a3 a4 a5 a8 b1} {x0 : S28 × List Tkn} {l0 : LL} (hf : x0.1.f5 = []) (hn : G.nd x0.1 l0) (L : List S28) : ∀ (n j : Nat) (W : List Tkn), 2 - j < n → j ≤ 2 → Gud W → L.length + W.length < 5000 → Lt false G W (F.c5 3) →
 (∀ x W' l W'',Seg G false W W' l→W'.length≤W.length→G.nd x (l0++l)→Seg G false W' W'' []→W''.length < W'.length→P (a0,a1,a2,a3,a4,a5,W'',L++[x])) →
 (∀ x W' l W'',Seg G false W W' l→W'.length≤W.length→G.nd x (l0++l)→Seg G false W' W'' []→W''.length < W'.length→Gud W''→Tot (kj7 W'' (L++[x])) P) →
 Tot (qDj k F kj7 a0 a1 a2 a3 a4 a5 a8 b1 x0 n (j:Int) W L) P
 | 0,j,W,h1,h2,g,hl,h,hp,hq=>by omega
 | n+1,j,W,h1,h2,g,hl,h,hp,hq=>by
  show Tot (qD2 k F kj7 a0 a1 a2 a3 a4 a5 a8 b1 x0 (qDj k F kj7 a0 a1 a2 a3 a4 a5 a8 b1 x0 n) (j:Int) W L) _
  unfold qD2
  have hlen:i30c0.length=2:=rfl
  refine tJ (J:=λz=>z.2.2=L∧Gud z.1∧z.1.length≤W.length∧∃ l,G.nd z.2.1 (l0++l)∧Seg G false W z.1 l) (λz ⟨e,g1,b1,l,nn,s⟩=>?_) (λj10 hj=>?_)
  ·obtain ⟨W1,x,L'⟩:=z
   cases e
   refine sApp So (sTake G k g1 (λW2 s2 b2 g2=>?_) ?_)
   ·exact tR (hp x W1 l W2 s b1 nn s2 b2)
   ·exact sNeed G k g1 λW2 s2 b2 g2=>hq x W1 l W2 s b1 nn s2 b2 g2
  ·refine tI (λe=>?_) (λe=>?_)
   ·have hj':j < i30c0.length:=by have:=of_decide_eq_true e; omega
    refine sV ⟨_,nthLi hj'⟩ λs=>sTakeV G k g (λW1 s1 b1 g1=>?_) ?_
    ·refine tJ (J:=λz=>z=L) (λz hz=>?_) (λj9 hj9=>tI (λ_=>hj9 _ rfl) (λe=>by cases e))
     cases hz
     exact sM g1 (h W1 b1 g1) λx W2 l f nn s b g2=>hj _ ⟨rfl,g2,Om,l,node0 (L:=[x0.1,x]) (by decide) (nd2 hn nn) rfl,(s1.tr s).to (by simp)⟩
    ·refine tJ (J:=λ_=>False) (λz hz=>hz.elim) (λj9 hj9=>tI (λe=>by cases e) λ_=>?_)
     show Tot (qDj k F kj7 a0 a1 a2 a3 a4 a5 a8 b1 x0 n (fW .i64 ((j:Int)+1)) W L) _
     rw [fw_s (by omega)]
     exact qual_j hf hn L n (j+1) W (by omega) (by omega) g hl h hp hq
   ·exact hj _ ⟨rfl,g,Nat.le_refl _,[],by simpa using hn,Seg.nil⟩
variable {G:Lg} {d:Bool} {k:Nat} {F:Cns} {W:List Tkn} {l la lb:List (List Nat)}
theorem qPn {kd : Int} {t : LN} {br : Bool} {a8 b1} (hkd : ¬ kd = 1) (hk : 3 < k) : ∀ (n : Nat) (W : List Tkn) (acc : List S28) (la : LL), W.length < n → acc.length + W.length < 5000 → Gud W → Nds G.nd acc la → Le false G W (F.c5 3) → Tot (qE9 k F kd t br false [] [] a8 b1 n W acc) (Ui false G kd t la W)
 | 0,W,acc,la,h1,h2,g,ha,h=>by omega
 | n+1,W,acc,la,h1,h2,g,ha,h=>by
  show Tot (qD3 k F kd t br false [] [] a8 b1 (qE9 k F kd t br false [] [] a8 b1 n) W acc) _
  unfold qD3
  refine sM g (h W (Nat.le_refl _) g) λx W1 l f nn s b g1=>?_
  refine qual_j (x0:=(x,W1)) f nn acc k 0 W1 (by omega) (by omega) g1 Om (λW' hW g'=>h W' (by omega) g') (λy W2 l2 W3 s2 b2 n2 s3 b3=>⟨br,[],_,W3,l++(l2++[]),rfl,node0 hkd (qAy n2 ha) (by simp),s.tr (s2.tr s3),by omega⟩) (λy W2 l2 W3 s2 b2 n2 s3 b3 g3=>?_)
  exact tW (qPn hkd hk n W3 _ _ (by omega) So g3 (qAy n2 ha) (λW' hW g'=>h W' (by omega) g')) λy hy=>hy.mono (s.tr (s2.tr s3)) (by simp)
theorem m_quals {kd:Int} {t:LN} {br:Bool} {b1:List S28} (hkd:¬ kd=1) (hb:b1.length < 3) (hn:Nds G.nd b1 lb) (hk3:3 < k) (g:Gud W) (hk:W.length < k) (hW:W.length < 4000) (h:Le false G W (F.c5 3)):Tot (c30B k F kd t br false [] [] W b1) (Ui false G kd t lb W):=by
 unfold c30B
 exact qPn hkd hk3 k W b1 lb hk (by omega) g hn h
theorem list_l {a2 : List Tkn} {br : Bool} : ∀ (n : Nat) (W : List Tkn) (notes : LL) (acc : List S28) (x : S28) (la l0 : LL), W.length < n → acc.length + W.length < 5000 → Gud W → Nds G.nd acc la → x.f5 = [] → G.nd x l0 → Lt false G W (F.c5 3) → Tot (qCk k F a2 br n notes W acc x) (Uk false G (la ++ (G.no notes ++ l0)) W)
 | 0,W,notes,acc,x,la,l0,h1,h2,g,ha,hf,hx,h=>by omega
 | n+1,W,notes,acc,x,la,l0,h1,h2,g,ha,hf,hx,h=>by
  show Tot (qC1 k F a2 br (qCk k F a2 br n) notes W acc x) _
  unfold qC1
  have hL:=qAy (G.renote (bl:=x.f4) (n:=notes) hf hx) ha
  refine sApp So (sTake G k g (λW1 s1 b1 g1=>?_) ?_)
  ·refine sM g1 (h W1 b1 g1) λy W2 l f nn s b g2=>sApp So (sNotes G k g2 λn3 W3 s3 b3 g3=>sNeed G k g3 λW4 s4 b4 g4=>?_)
   exact sF rfl (nodeT (by decide) (qAy nn hL) (by simp)) (s1.tr (s.tr (s3.tr s4))) Om
  ·refine sNotes G k g λn2 W2 s2 b2 g2=>sTake G k g2 (λW3 s3 b3 g3=>?_) ?_
   ·exact sF rfl (nodeT (by decide) hL (by simp)) (s2.tr s3) Om
   ·refine sMust k λhm u=>sNeed G k g2 λW4 s4 b4 g4=>sNotes G k g4 λn5 W5 s5 b5 g5=>?_
    have e0:n2=[]:=List.eq_nil_of_length_eq_zero (by have h0:=of_decide_eq_true hm; dsimp only at h0; omega)
    subst e0
    refine sM g5 (h W5 Om g5) λy W6 l f nn s b g6=>?_
    exact tW (list_l n W6 n5 _ y _ _ Om So g6 hL f nn (λW' hW g'=>h W' Om g')) λz hz=>hz.mono (s2.tr (s4.tr (s5.tr s))) (by simp [G.noNil])
def Lq (G:Lg) (W:List Tkn) (m:Int→LN→Bool→Bool→LL→LL→List Tkn→List S28→Option (Option (Int×LN×Bool×Bool×LL×LL×List Tkn×List S28))):Prop := ∀ kd t br b1 lb W',¬ kd=1→b1.length < 3→Nds G.nd b1 lb→W'.length < W.length→Gud W'→Tot (m kd t br false [] [] W' b1) (Ui false G kd t lb W')
theorem m_list (g:Gud W) (hk:W.length < k) (hW:W.length < 4000) (h:Le false G W (F.c5 3)) (hq:Lq G W F.c30):Tot (c19B k F W) (Uk false G [] W):=by
 unfold c19B
 refine sBr k λbr=>sNotes G k g λn1 W1 s1 b1 g1=>sTake G k g1 (λW2 s2 b2 g2=>?_) ?_
 ·exact sF rfl (nodeT (L:=[]) (by decide) .nil rfl) ((s1.tr s2).to (by simp)) Om
 ·refine sM g1 (h W1 b1 g1) λx W2 l f nn s b g2=>?_
  refine tJ (J:=λz=>(z.1=true→n1=[]∧Seg G false W2 z.2 []∧z.2.length < W2.length∧Gud z.2)∧(z.1=false→z.2=W2)) (λz hz=>?_) (λj hj=>?_)
  ·obtain ⟨c,W3⟩:=z
   refine tI (λe=>?_) (λe=>?_)
   ·obtain ⟨e0,s3,b3,g3⟩:=hz.1 e
    subst e0
    refine sI' g3 (hq 15 [] br [x] _ W3 (by decide) (by decide:1 < 3) (nd1 nn) Om g3) λbr' tl L W4 l4 n4 s4 b4 g4=>?_
    exact sF rfl n4 ((s1.tr (s.tr (s3.tr s4))).to (by simp [G.noNil])) Om
   ·have e1:=hz.2 e
    cases e1
    exact tW (list_l k W3 n1 [] x [] _ Om So g2 .nil f nn (λW' hW g'=>h W' Om g')) λz hz=>hz.mono (s1.tr s) (by simp)
  ·refine tI (λe=>?_) (λe=>hj _ ⟨λe=>(by cases e),λ_=>rfl⟩)
   have e0:n1=[]:=List.eq_nil_of_length_eq_zero (by have h0:=of_decide_eq_true e; dsimp only at h0; omega)
   exact sTakeV G k g2 (λW3 s3 b3 g3=>hj _ ⟨λ_=>⟨e0,s3,b3,g3⟩,λe=>(by cases e)⟩) (hj _ ⟨λe=>(by cases e),λ_=>rfl⟩)
def Ld (G:Lg) (W:List Tkn) (m:Int→LN→Bool→Bool→LL→LL→List Tkn→List S28→Option (Option (Int×LN×Bool×Bool×LL×LL×List Tkn×List S28))):Prop := ∀ kd t b1 lb W',¬ kd=1→b1.length < 3→Nds G.nd b1 lb→W'.length < W.length→Gud W'→Tot (m kd t false false [] [] W' b1) (Ui false G kd t lb W')
theorem m_worded (hk:3 < k) (g:Gud W) (h34:Lt false G W F.c34) (h5:Lt false G W (F.c5 0)) (h36:Ld G W F.c36) (h37:Ld G W F.c37) (h38:Lt false G W F.c38) (h6:Lt false G W F.c6):Tot (c24B k F W) (Uk false G [] W):=by
 unfold c24B
 refine sTakeX (.inr (.inl rfl)) G k g (λW1 en s1 b1 g1=>?_) ?_
 ·refine sIs k (λ_=>tI (λ_=>?_) (λe=>by cases e)) (tI (λe=>by cases e) λ_=>?_)
  ·exact sM g1 (h34 W1 b1 g1) λx W2 l f nn s b g2=>sF f nn ((s1.tr s).to (by simp)) Om
  ·exact sM g1 (m_ref hk g1) λx W2 l f nn s b g2=>sF f nn (en s) Om
 ·refine sTake G k g (λW1 s1 b1 g1=>?_) ?_
  ·refine sM g1 (h5 W1 b1 g1) λx W2 l f nn s b g2=>sNeed G k g2 λW3 s3 b3 g3=>?_
   refine sI' g3 (h36 18 [] [x] _ W3 (by decide) (by decide:1 < 3) (nd1 nn) Om g3) λbr tl L W4 l4 n4 s4 b4 g4=>?_
   exact sF rfl n4 ((s1.tr (s.tr (s3.tr s4))).to (by simp)) Om
  ·refine sTake G k g (λW1 s1 b1 g1=>?_) ?_
   ·refine sI' g1 (h37 19 [] [] _ W1 (by decide) (by decide) .nil Om g1) λbr tl L W4 l4 n4 s4 b4 g4=>?_
    exact sF rfl n4 ((s1.tr s4).to (by simp)) Om
   ·refine sTake G k g (λW1 s1 b1 g1=>?_) ?_
    ·exact sM g1 (h38 W1 b1 g1) λx W2 l f nn s b g2=>sF f nn ((s1.tr s).to (by simp)) Om
    ·refine sNeed G k g λW1 s1 b1 g1=>sM g1 (h6 W1 b1 g1) λx W2 l f nn s b g2=>sNotes G k g2 λn3 W3 s3 b3 g3=>sNeed G k g3 λW4 s4 b4 g4=>?_
     exact sF rfl (nodeT (L:=[x]) (by decide) (nd1 nn) (by simp)) (s1.tr (s.tr (s3.tr s4))) Om
theorem g85_V (k:Nat) {x:S28} (h:x.f0=1→x.f1 ≠ []):Val (g85 k x) λ_=>True:=by
 unfold g85
 have vI:∀ {c:Bool} {a b:Option Bool},Val a (λ_=>True)→Val b (λ_=>True)→Val (if c then a else b) (λ_=>True):=λ{c} _ _ h1 h2=>by cases c; exact h2; exact h1
 have vJ:∀ {α:Type} {f:α→Option Bool} {g:(α→Option Bool)→Option Bool},(∀ z,Val (f z) λ_=>True)→(∀ j:α→Option Bool,(∀ z,Val (j z) λ_=>True)→Val (g j) λ_=>True)→Val (jn f g) λ_=>True:=λhf hg=>hg _ hf
 by_cases h1:x.f0=1
 ·have hx:=h h1
  obtain ⟨b,r,e⟩:=List.exists_cons_of_ne_nil hx
  have en:nthS x.f1 0=some (b:Int):=by rw [e]; rfl
  rw [en,h1]
  refine (?_:Val (if (!decide ((b:Int)=36)) then _ else _) _)
  exact vI (vI (vI (vS trivial) (vS trivial)) (vS trivial)) (vS trivial)
 ·have e1:decide (x.f0=1)=false:=decide_eq_false h1
  rw [e1]
  have vF:∀ {a b:Option Bool},Val b (λ_=>True)→Val (if false=true then a else b) (λ_=>True):=λh=>h
  refine vF (vJ (λz=>vI (vS trivial) (vS trivial)) λj hj=>?_)
  exact vI (hj _) (vI (hj _) (vI (hj _) (vI (hj _) (vI (hj _) (vI (hj _) (hj _))))))
def Lr (G:Lg) (W:List Tkn) (m:S28→List Tkn→Option (Option (S28×List Tkn))):Prop := ∀ x la W',W'.length < W.length→Gud W'→G.nd x la→Tot (m x W') (Ur G la W')
theorem qNx {a4 : List Tkn} : ∀ (n : Nat) (free : Bool) (W : List Tkn) (x : S28) (la : LL), W.length < n → Gud W → x.f5 = [] → G.nd x la → Li false G W F.c18 → Lt false G W F.c25 → Lr G W F.c26 → Tot (qDk k F a4 n free W x) (Uz G la W)
 | 0,free,W,x,la,h1,g,hf,hn,h18,h25,h26=>by omega
 | n+1,free,W,x,la,h1,g,hf,hn,h18,h25,h26=>by
  show Tot (qD4 k F a4 (qDk k F a4 n) free W x) _
  unfold qD4
  refine tJ (J:=λz=>z.2=(free,W,x)) (λz hz=>?_) (λj hj=>?_)
  ·obtain ⟨c,fr,W0,x0⟩:=z
   cases hz
   refine tI (λ_=>sFz hf (by simpa using hn) Seg.nil (Nat.le_refl _)) (λ_=>?_)
   have fin:∀ z:List Tkn×S28,(z.1.length < W.length∧Gud z.1∧z.2.f5=[]∧¬ z.2.f0=1∧∃ l,G.nd z.2 (la++l)∧Seg G false W z.1 l)→Tot (qDk k F a4 n false z.1 z.2) (Uz G la W):=λz ⟨b,g1,f1,ne,l,nn,s⟩ =>
    tW (qNx n false z.1 z.2 _ (by omega) g1 f1 nn (λkd t e b1 lb W' a b c d' e'=>h18 kd t e b1 lb W' a b c (by omega) e') (λW' hW g'=>h25 W' (by omega) g') (λy l' W' hW g'=>h26 y l' W' (by omega) g')) λy hy=>hy.mono s rfl
   refine sTakeV G k g (λW1 s1 b1 g1=>?_) ?_
   ·refine tJ (J:=_) fin λj9 hj9=>tI (λ_=>?_) (λe=>by cases e)
    refine sI' g1 (h18 2 [] [41] [x] _ W1 (by decide) (by decide:1 < 3) (nd1 hn) b1 g1) λbr tl L W4 l4 n4 s4 b4 g4=>?_
    exact hj9 _ ⟨Om,g4,rfl,by show ¬ (2:Int)=1; decide,l4,n4,(s1.tr s4).to (by simp)⟩
   ·refine tJ (J:=_) fin λj9 hj9=>tI (λe=>by cases e) (λ_=>?_)
    refine tJ (J:=λz=>z.2.2=x∧(z.1=true→Seg G false W z.2.1 []∧z.2.1.length < W.length∧Gud z.2.1)∧(z.1=false→z.2.1=W)) (λz hz=>?_) (λj10 hj10=>?_)
    ·obtain ⟨c,W2,x2⟩:=z
     obtain ⟨e2,ht,hf'⟩:=hz
     cases e2
     refine tI (λe=>?_) (λe=>?_)
     ·obtain ⟨s2,b2,g2⟩:=ht e
      exact sM g2 (h25 W2 b2 g2) λy W3 l f nn s b g3=>hj9 _ ⟨Om,g3,rfl,by show ¬ (3:Int)=1; decide,l,node0 (L:=[x2,y]) (by decide) (nd2 hn nn) rfl,(s2.tr s).to (by simp)⟩
     ·have e2:=hf' e
      cases e2
      refine sTakeX (.inl rfl) G k g (λW3 en s3 b3 g3=>?_) ?_
      ·refine tT (h26 x2 la W3 b3 g3 hn) λy ⟨ne,f,b,l,nn,s⟩=>?_
       exact hj9 _ ⟨Om,s.good g3,f,ne,l,nn,en s⟩
      ·exact sFz hf (by simpa using hn) Seg.nil (Nat.le_refl _)
    ·have tk:Tot (bT (c7 k [58] W) λx3=>j10 (x3.1,x3.2,x)) (Uz G la W):=sTakeV G k g (λW3 s3 b3 g3=>hj10 _ ⟨rfl,λ_=>⟨s3,b3,g3⟩,λe=>(by cases e)⟩) (hj10 _ ⟨rfl,λe=>(by cases e),λ_=>rfl⟩)
     have no:Tot (j10 (false,W,x)) (Uz G la W):=hj10 _ ⟨rfl,λe=>(by cases e),λ_=>rfl⟩
     exact tI (λ_=>tI (λ_=>tk) (λ_=>tI (λ_=>tk) (λ_=>no))) (λ_=>no)
  ·cases free with
   | true=>exact tI (λe=>by cases e) (λ_=>hj _ rfl)
   | false=>exact tI (λ_=>tB (g85_V k (G.lf hn)) λb _=>hj _ rfl) (λe=>by cases e)
theorem m_behind {a0:S28} {a1:Bool} (hk:W.length < k) (g:Gud W) (hf:a0.f5=[]) (hn:G.nd a0 la) (h18:Li false G W F.c18) (h25:Lt false G W F.c25) (h26:Lr G W F.c26):Tot (c14B k F a0 a1 W) (Uz G la W):=by
 unfold c14B
 exact qNx k a1 W a0 la hk g hf hn h18 h25 h26
theorem vI {α:Type} {P:α→Prop} {c:Bool} {a b:Option α} (h1:c=true→Val a P) (h2:c=false→Val b P):Val (if c then a else b) P:=by
 cases c with
 | true=>exact h1 rfl
 | false=>exact h2 rfl
theorem vJ {α β:Type} {P:β→Prop} {f:α→Option β} {g:(α→Option β)→Option β} {J:α→Prop} (hf:∀ z,J z→Val (f z) P) (hg:∀ j:α→Option β,(∀ z,J z→Val (j z) P)→Val (g j) P):Val (jn f g) P:=hg f hf
theorem vE {α β:Type} {P:β→Prop} {m:Option α} {a:α} {f:α→Option β} (e:m=some a) (h:Val (f a) P):Val (m.bind f) P:=by rw [e]; exact h
theorem lev_l {P : Int → Prop} {k : Nat} {c3 : Int → Option Int} {a0 : LN} {x0 : List LL} {y3 : Int} {x1 : LL} {y1 y2 : Int} (hl : x1.length < 1000) (hc : Val (c3 (fW .i64 (y2 + 1))) P) (hp : P (fW .i64 (y1 + 1))) : ∀ n j : Nat, x1.length - j < n → j ≤ x1.length → Val (qCs k c3 a0 x0 y3 x1 n (j : Int) y1 y2) P
 | 0,j,h,hj=>by omega
 | n+1,j,h,hj=>by
  rw [g50_l4_s]
  refine vJ (J:=λz=>z=y2) (λz hz=>by subst hz; exact hc) λj5 hj5=>vI (λe=>?_) (λ_=>hj5 _ rfl)
  have hj':j < x1.length:=by have:=of_decide_eq_true e; omega
  refine vE (nthLi hj') (vI (λ_=>vS hp) λ_=>?_)
  rw [fw_s (by omega)]
  exact lev_l hl hc hp n (j+1) (by omega) (by omega)
theorem lev_len:(g68c7.all λx=>decide (x.length < 50))=true:=by decide +kernel
theorem g50_l {k : Nat} (hk : 60 ≤ k) (a : LN) : ∀ n j : Nat, 9 - j < n → j ≤ 9 → Val (qCt k a g68c7 n (j : Int)) λv => 0 ≤ v ∧ v ≤ 9
 | 0,j,h,hj=>by omega
 | n+1,j,h,hj=>by
  rw [g50_l3_s]
  refine vI (λe=>?_) (λ_=>vS ⟨by omega,by omega⟩)
  have h9:g68c7.length=9:=rfl
  have hj':j < 9:=by have:=of_decide_eq_true e; omega
  have en:nthA g68c7 9 (j:Int)=some (g68c7[j]'(by omega)):=by
   unfold nthA
   rw [if_pos ⟨by omega,by omega⟩,Int.toNat_natCast,List.getElem?_eq_getElem (by omega)]
  have hm:(g68c7[j]'(by omega)).length < 50:=of_decide_eq_true (List.all_eq_true.1 lev_len _ (List.getElem_mem (by omega)))
  refine vE en (lev_l (by omega) ?_ ?_ k 0 (by omega) (by omega))
  ·rw [fw_s (by omega)]
   exact g50_l hk a n (j+1) (by omega) (by omega)
  ·rw [fw_s (by omega)]
   exact ⟨by omega,by omega⟩
theorem g50_V {k:Nat} (hk:60≤k) (a:LN):∃ v,g50 k a=some v∧0≤v∧v≤9:=by
 have:Val (g50 k a) λv=>0≤v∧v≤9:=by
  unfold g50
  exact vE (a:=g68c7) rfl (g50_l hk a k 0 (by omega) (by omega))
 exact this
theorem g69_V {k:Nat} (hk:60≤k) (a:LN):∃ v,g69 k a=some v:=by
 obtain ⟨v,e,h0,h9⟩:=g50_V hk a
 unfold g69
 have:v=0∨v=1∨v=2∨v=3∨v=4∨v=5∨v=6∨v=7∨v=8∨v=9:=by omega
 rcases this with rfl | rfl | rfl | rfl | rfl | rfl | rfl | rfl | rfl | rfl <;> exact ⟨_,bS e rfl⟩
theorem g52_V {k:Nat} (hk:60≤k) (a:LN):∃ v,g52 k a=some v:=by
 obtain ⟨v,e,-⟩:=g50_V hk a
 obtain ⟨u,e2⟩:=g69_V hk a
 unfold g52
 by_cases h:1 < u
 ·exact ⟨_,bS e2 (iT (decide_eq_true h) (bS e rfl))⟩
 ·exact ⟨_,bS e2 (iF (decide_eq_false h) (bS e rfl))⟩
theorem g54_V {k:Nat} (hk:60≤k) (a:LN):∃ v,g54 k a=some v:=by
 obtain ⟨v,e,-⟩:=g50_V hk a
 obtain ⟨u,e2⟩:=g69_V hk a
 unfold g54
 by_cases h:andI .i64 u 1=1
 ·exact ⟨_,bS e2 (iT (decide_eq_true h) (bS e rfl))⟩
 ·exact ⟨_,bS e2 (iF (decide_eq_false h) (bS e rfl))⟩
theorem g65_V (k:Nat) (a:LN):∃ v,g65 k a=some v:=by
 unfold g65
 have vI:∀ {c:Bool} {a b:Option Int},(∃ v,a=some v)→(∃ v,b=some v)→∃ v,(if c then a else b)=some v:=λ{c} _ _ h1 h2=>by cases c; exact h2; exact h1
 have vJ:∀ {α:Type} {f:α→Option Int} {g:(α→Option Int)→Option Int},(∀ z,∃ v,f z=some v)→(∀ j:α→Option Int,(∀ z,∃ v,j z=some v)→∃ v,g j=some v)→∃ v,jn f g=some v:=λhf hg=>hg _ hf
 exact vJ (λz=>vI ⟨_,rfl⟩ ⟨_,rfl⟩) λj hj=>vI (hj _) (vI (hj _) (vI (hj _) (hj _)))
variable {G:Lg} {d:Bool} {k:Nat} {F:Cns} {W:List Tkn} {l la lb:List (List Nat)}
theorem qQh (hk:3 < k) (g:Gud W) (h17:Lt false G W F.c17) (h18:Li false G W F.c18) (h19:Lt false G W F.c19) (h20:Li true G W F.c20) (h21:Li false G W F.c21) (h24:Tot (F.c24 W) (Uk false G [] W)):Tot (c13B k F W) (Upp G W):=by
 unfold c13B
 refine sCur k (tB (g75_V k _) λb hb=>tI (λe=>?_) (λ_=>?_))
 ·exact sNextL G k g (hb e).1 (hb e).2 λW1 s1 ht b1 g1=>sFp rfl (G.leaf _ ht) s1 b1
 ·refine sTake G k g (λW1 s1 b1 g1=>?_) ?_
  ·exact sM g1 (h17 W1 b1 g1) λx W2 l f n s b g2=>sFp f n ((s1.tr s).to (by simp)) Om
  ·refine sTake G k g (λW1 s1 b1 g1=>?_) ?_
   ·exact sI' g1 (h18 4 [] [125] [] _ W1 (by decide) (by decide) .nil b1 g1) λbr tl L W4 l4 n4 s4 b4 g4=>sFp rfl n4 ((s1.tr s4).to (by simp)) Om
   ·refine sTake G k g (λW1 s1 b1 g1=>?_) ?_
    ·exact sM g1 (h19 W1 b1 g1) λx W2 l f n s b g2=>sFp f n ((s1.tr s).to (by simp)) Om
    ·refine sTakeX (.inr (.inr rfl)) G k g (λW1 en s1 b1 g1=>?_) ?_
     ·exact sI' g1 (h20 6 [] [62,62] [] _ W1 (by decide) (by decide) .nil b1 g1) λbr tl L W4 l4 n4 s4 b4 g4=>sFp rfl n4 (en s4) Om
     ·refine sTakeX (.inl rfl) G k g (λW1 en s1 b1 g1=>?_) ?_
      ·refine sTake G k g1 (λW2 s2 b2 g2=>?_) ?_
       ·exact sI' g2 (h21 8 [] [125] [] _ W2 (by decide) (by decide) .nil Om g2) λbr tl L W4 l4 n4 s4 b4 g4=>sFp rfl n4 ((s1.tr (s2.tr s4)).to (by simp)) Om
       ·refine sName G hk g1 λt W2 _ s2 c2 b2 g2=>sNeed G k g2 λW3 s3 b3 g3=>?_
        exact sI' g3 (h18 10 t [125] [] _ W3 (by decide) (by decide) .nil Om g3) λbr tl L W4 l4 n4 s4 b4 g4=>sFp rfl n4 (en ((s2.tr (s3.tr s4).dim).to (by simp))) Om
      ·exact sM g h24 λx W2 l f n s b g2=>sFp f n s Om
def Lb (G:Lg) (W:List Tkn) (m:S28→Bool→List Tkn→Option (Option (S28×List Tkn))):Prop := ∀ x free W' la,W'.length < W.length→Gud W'→x.f5=[]→G.nd x la→Tot (m x free W') (Uz G la W')
theorem qQj (g:Gud W) (h8:∀ W',W'.length < W.length→Gud W'→Tot (F.c8 W') (Uo G W')) (h13:Tot (F.c13 W) (Upp G W)) (h14:Lb G W F.c14):Tot (c8B k F W) (Uo G W):=by
 unfold c8B
 refine sCur k (sIs k (λhs=>?_) ?_)
 all_goals refine tJ (J:=λb=>b=true→(cCur W).f0=9∨(cCur W).f0=8) (λz hz=>tI (λe=>?_) (λe=>?_)) (λj hj=>?_)
 any_goals
  refine tT h13 λx ⟨f,b,l,n,s⟩=>?_
  obtain ⟨x,fr,W1⟩:=x
  exact sZ' (s.good g) (h14 x fr W1 l b (s.good g) f n) λy W2 l2 f2 n2 s2 b2 g2=>sFo f2 n2 (s.tr s2) Om
 any_goals
  refine sNext G k g (hz e) λW1 s1 b1 g1=>tT (h8 W1 b1 g1) λx ⟨f,b,l,n,s⟩=>?_
  obtain ⟨x,fr,W2⟩:=x
  exact sV (g65_V k _) λv=>sFo rfl (node0 (L:=[x]) (by decide) (nd1 n) rfl) ((s1.tr s).to (by simp)) Om
 ·exact tI (λ_=>sV (g65_V k _) λv=>hj _ λ_=>hs.1) (λe=>by cases e)
 ·exact tI (λe=>by cases e) (λ_=>hj _ λe=>by cases e)
theorem expr_l {a0 : Int} {a3 : List Tkn} (hk : 60 ≤ k) : ∀ (n : Nat) (i : Int) (W : List Tkn) (x : S28) (la : LL), W.length < n → Gud W → x.f5 = [] → G.nd x la → (∀ a, Lt false G W (F.c5 a)) → Tot (qIl k F a0 a3 n i W x) (Uz G la W)
 | 0,i,W,x,la,h1,g,hf,hn,h=>by omega
 | n+1,i,W,x,la,h1,g,hf,hn,h=>by
  show Tot (qEy k F a0 a3 (qIl k F a0 a3 n) i W x) _
  unfold qEy
  refine tJ (J:=λz=>z=(W,x)) (λz hz=>?_) (λj11 hj=>?_)
  ·cases hz
   exact sFz hf (by simpa using hn) Seg.nil (Nat.le_refl _)
  ·refine tI (λ_=>?_) (λ_=>hj _ rfl)
   obtain ⟨v,ev,-⟩:=g50_V hk (cCur W).f1
   refine sCur k (sV ⟨v,ev⟩ λv=>sIs k (λhs=>?_) ?_)
   all_goals refine tJ (J:=λz=>z.2=(W,x)∧(z.1=false→(cCur W).f0=9∨(cCur W).f0=8)) (λz ⟨hz,hz2⟩=>?_) (λj hj10=>?_)
   any_goals
    obtain ⟨c,W1,x1⟩:=z
    cases hz
    refine tI (λ_=>hj _ rfl) (λe=>?_)
    refine sNext G k g (hz2 e) λW1 s1 b1 g1=>sV (g54_V hk _) λr=>sM g1 (h r W1 b1 g1) λy W2 l f nn s b g2=>?_
    exact tW (expr_l hk n v W2 _ _ Om g2 rfl (node0 (kd:=14) (t:=(cCur W).f1) (br:=false) (L:=[x,y]) (by decide) (nd2 hn nn) rfl) (λa W' hW g'=>h a W' Om g')) λz hz=>hz.mono (s1.tr s) (by simp)
   ·refine tI (λe=>by cases e) (λ_=>tI (λ_=>hj10 _ ⟨rfl,λe=>by cases e⟩) (λ_=>sV (g52_V hk _) λu=>hj10 _ ⟨rfl,λ_=>hs.1⟩))
   ·exact tI (λ_=>hj10 _ ⟨rfl,λe=>by cases e⟩) (λe=>by cases e)
theorem m_expr {a0:Int} (hk:60≤k) (hW:W.length < k) (g:Gud W) (h8:Tot (F.c8 W) (Uo G W)) (h:∀ a,Lt false G W (F.c5 a)):Tot (c5B k F a0 W) (Uk false G [] W):=by
 unfold c5B
 refine tJ (J:=λz=>(z.1=true→Seg G false W z.2 []∧z.2.length < W.length∧Gud z.2)∧(z.1=false→z.2=W)) (λz hz=>?_) (λj hj=>?_)
 ·obtain ⟨c,W1⟩:=z
  refine tI (λe=>?_) (λe=>?_)
  ·obtain ⟨s1,b1,g1⟩:=hz.1 e
   exact sM g1 (h 0 W1 b1 g1) λx W2 l f n s b g2=>sF rfl (node0 (L:=[x]) (by decide) (nd1 n) rfl) ((s1.tr s).to (by simp)) Om
  ·have e1:W1=W:=hz.2 e
   subst e1
   refine tT h8 λx ⟨f,b,l,n,s⟩=>?_
   obtain ⟨x,i,W2⟩:=x
   exact tW (expr_l hk k i W2 x _ Om (s.good g) f n (λa W' hW g'=>h a W' Om g')) λy hy=>hy.tk b s (by simp)
 ·exact tI (λ_=>sTakeV G k g (λW1 s1 b1 g1=>hj _ ⟨λ_=>⟨s1,b1,g1⟩,λe=>(by cases e)⟩) (hj _ ⟨λe=>(by cases e),λ_=>rfl⟩)) (λ_=>hj _ ⟨λe=>(by cases e),λ_=>rfl⟩)
structure Al (G:Lg) (K n:Nat):Prop where
 c5:∀ (a:Int) (W:List Tkn),W.length≤400→Gud W→W.length * 10+4 < n→Tot ((cpar K n).c5 a W) (Uk false G [] W)
 c8:∀ (W:List Tkn),W.length≤400→Gud W→W.length * 10+3 < n→Tot ((cpar K n).c8 W) (Uo G W)
 c13:∀ (W:List Tkn),W.length≤400→Gud W→W.length * 10+2 < n→Tot ((cpar K n).c13 W) (Upp G W)
 c14:∀ (x:S28) (fr:Bool) (la:LL) (W:List Tkn),W.length≤400→Gud W→W.length * 10+0 < n→x.f5=[]→G.nd x la→Tot ((cpar K n).c14 x fr W) (Uz G la W)
 c18:∀ (kd:Int) (t e:LN) (b1:List S28) (lb:LL) (W:List Tkn),W.length≤400→Gud W→W.length * 10+6 < n→¬ kd=1→b1.length < 3→Nds G.nd b1 lb→Tot ((cpar K n).c18 kd t false false [] [] e W b1) (Ui false G kd t lb W)
 c20:∀ (kd:Int) (t e:LN) (b1:List S28) (lb:LL) (W:List Tkn),W.length≤400→Gud W→W.length * 10+6 < n→¬ kd=1→b1.length < 3→Nds G.nd b1 lb→Tot ((cpar K n).c20 kd t false false [] [] e W b1) (Ui true G kd t lb W)
 c21:∀ (kd:Int) (t e:LN) (b1:List S28) (lb:LL) (W:List Tkn),W.length≤400→Gud W→W.length * 10+6 < n→¬ kd=1→b1.length < 3→Nds G.nd b1 lb→Tot ((cpar K n).c21 kd t false false [] [] e W b1) (Ui false G kd t lb W)
 c26:∀ (x:S28) (la:LL) (W:List Tkn),W.length≤400→Gud W→W.length * 10+0 < n→G.nd x la→Tot ((cpar K n).c26 x W) (Ur G la W)
 c30:∀ (kd:Int) (t:LN) (br:Bool) (b1:List S28) (lb:LL) (W:List Tkn),W.length≤400→Gud W→W.length * 10+5 < n→¬ kd=1→b1.length < 3→Nds G.nd b1 lb→Tot ((cpar K n).c30 kd t br false [] [] W b1) (Ui false G kd t lb W)
 c31:∀ (W:List Tkn),W.length≤400→Gud W→W.length * 10+0 < n→Tot ((cpar K n).c31 W) (Uk true G [] W)
 c36:∀ (kd:Int) (t:LN) (b1:List S28) (lb:LL) (W:List Tkn),W.length≤400→Gud W→W.length * 10+9 < n→¬ kd=1→b1.length < 3→Nds G.nd b1 lb→Tot ((cpar K n).c36 kd t false false [] [] W b1) (Ui false G kd t lb W)
 c37:∀ (kd:Int) (t:LN) (b1:List S28) (lb:LL) (W:List Tkn),W.length≤400→Gud W→W.length * 10+9 < n→¬ kd=1→b1.length < 3→Nds G.nd b1 lb→Tot ((cpar K n).c37 kd t false false [] [] W b1) (Ui false G kd t lb W)
 c40:∀ (no:LL) (W:List Tkn),W.length≤400→Gud W→W.length * 10+3 < n→Tot ((cpar K n).c40 no W) (Um G W.length (G.no no) W)
 c41:∀ (no:LL) (W:List Tkn),W.length≤400→Gud W→W.length * 10+6 < n→Tot ((cpar K n).c41 no W) (Um G W.length (G.no no) W)
 c42:∀ (no:LL) (W:List Tkn),W.length≤400→Gud W→W.length * 10+8 < n→Tot ((cpar K n).c42 no W) (Um G W.length (G.no no) W)
 c43:∀ (no:LL) (W:List Tkn),W.length≤400→Gud W→W.length * 10+6 < n→Tot ((cpar K n).c43 no W) (λx=>Um G W.length (G.no no) W (x.2,x.1))
 c47:∀ (t:LN) (a1 a2:S28) (l1 l2:LL) (W:List Tkn),W.length≤400→Gud W→W.length * 10+0 < n→G.nd a1 l1→G.nd a2 l2→Tot ((cpar K n).c47 t a1 a2 W) (Uk false G (l1++l2) W)
 c48:∀ (t:LN) (W:List Tkn),W.length≤400→Gud W→W.length * 10+1 < n→Tot ((cpar K n).c48 t W) (Uk false G [] W)
 c49:∀ (W:List Tkn),W.length≤400→Gud W→W.length * 10+0 < n→Tot ((cpar K n).c49 W) (Uz G [] W)
 c6:∀ (W:List Tkn),W.length≤400→Gud W→W.length * 10+5 < n→Tot ((cpar K n).c6 W) (Uk false G [] W)
 c17:∀ (W:List Tkn),W.length≤400→Gud W→W.length * 10+5 < n→Tot ((cpar K n).c17 W) (Uk false G [] W)
 c19:∀ (W:List Tkn),W.length≤400→Gud W→W.length * 10+5 < n→Tot ((cpar K n).c19 W) (Uk false G [] W)
 c24:∀ (W:List Tkn),W.length≤400→Gud W→W.length * 10+1 < n→Tot ((cpar K n).c24 W) (Uk false G [] W)
 c25:∀ (W:List Tkn),W.length≤400→Gud W→W.length * 10+0 < n→Tot ((cpar K n).c25 W) (Uk false G [] W)
 c29:∀ (W:List Tkn),W.length≤400→Gud W→W.length * 10+5 < n→Tot ((cpar K n).c29 W) (Uk false G [] W)
 c32:∀ (W:List Tkn),W.length≤400→Gud W→W.length * 10+5 < n→Tot ((cpar K n).c32 W) (Uk false G [] W)
 c34:∀ (W:List Tkn),W.length≤400→Gud W→W.length * 10+4 < n→Tot ((cpar K n).c34 W) (Uk false G [] W)
 c38:∀ (W:List Tkn),W.length≤400→Gud W→W.length * 10+7 < n→Tot ((cpar K n).c38 W) (Uk false G [] W)
 c44:∀ (W:List Tkn),W.length≤400→Gud W→W.length * 10+2 < n→Tot ((cpar K n).c44 W) (Uk false G [] W)
 c45:∀ (W:List Tkn),W.length≤400→Gud W→W.length * 10+5 < n→Tot ((cpar K n).c45 W) (Uk false G [] W)
 c46:∀ (W:List Tkn),W.length≤400→Gud W→W.length * 10+7 < n→Tot ((cpar K n).c46 W) (Uk false G [] W)
 c50:∀ (W:List Tkn),W.length≤400→Gud W→W.length * 10+6 < n→Tot ((cpar K n).c50 W) (Uk false G [] W)
 c51:∀ (W:List Tkn),W.length≤400→Gud W→W.length * 10+0 < n→Tot ((cpar K n).c51 W) (Uk false G [] W)
 c52:∀ (W:List Tkn),W.length≤400→Gud W→W.length * 10+5 < n→Tot ((cpar K n).c52 W) (Uk false G [] W)
theorem al_0 (G:Lg) (K:Nat):Al G K 0:=by
 constructor <;> intros <;> omega
theorem al_s {G:Lg} {K n:Nat} (hK:1000≤K) (A:Al G K n):Al G K (n+1) where
 c5:=λa W hW g h=>m_expr (k:=K+n) (F:=cpar K n) (by omega) (by omega) g (A.c8 W hW g (by omega)) (λa W' q g'=>A.c5 a W' (by omega) g' (by omega))
 c8:=λW hW g h=>qQj (k:=K+n) (F:=cpar K n) g (λW' q g'=>A.c8 W' (by omega) g' (by omega)) (A.c13 W hW g (by omega)) (λx fr W' la q g' f1 o=>A.c14 x fr la W' (by omega) g' (by omega) f1 o)
 c13:=λW hW g h=>qQh (k:=K+n) (F:=cpar K n) (by omega) g (λW' q g'=>A.c17 W' (by omega) g' (by omega)) (λkd t e j lb W' a b c q g'=>A.c18 kd t e j lb W' (by omega) g' (by omega) a b c) (λW' q g'=>A.c19 W' (by omega) g' (by omega)) (λkd t e j lb W' a b c q g'=>A.c20 kd t e j lb W' (by omega) g' (by omega) a b c) (λkd t e j lb W' a b c q g'=>A.c21 kd t e j lb W' (by omega) g' (by omega) a b c) (A.c24 W hW g (by omega))
 c14:=λx fr la W hW g h f1 o=>m_behind (k:=K+n) (F:=cpar K n) (by omega) g f1 o (λkd t e j lb W' a b c q g'=>A.c18 kd t e j lb W' (by omega) g' (by omega) a b c) (λW' q g'=>A.c25 W' (by omega) g' (by omega)) (λx la W' q g' o=>A.c26 x la W' (by omega) g' (by omega) o)
 c18:=λkd t e j lb W hW g h a b c=>m_c18 (k:=K+n) (F:=cpar K n) a b c g (by omega) (by omega) (λW' q g'=>A.c29 W' (by omega) g' (by omega))
 c20:=λkd t e j lb W hW g h a b c=>m_c20 (k:=K+n) (F:=cpar K n) a b c g (by omega) (by omega) (λW' q g'=>A.c31 W' (by omega) g' (by omega))
 c21:=λkd t e j lb W hW g h a b c=>m_c21 (k:=K+n) (F:=cpar K n) a b c g (by omega) (by omega) (λW' q g'=>A.c32 W' (by omega) g' (by omega))
 c26:=λx la W hW g h o=>m_record (k:=K+n) (F:=cpar K n) (by omega) o g (λkd t e j lb W' a b c q g'=>A.c21 kd t e j lb W' (by omega) g' (by omega) a b c) (λkd t e j lb W' a b c q g'=>A.c18 kd t e j lb W' (by omega) g' (by omega) a b c)
 c30:=λkd t br j lb W hW g h a b c=>m_quals (k:=K+n) (F:=cpar K n) a b c (by omega) g (by omega) (by omega) (λW' q g'=>A.c5 3 W' (by omega) g' (by omega))
 c31:=λW hW g h=>qQf (k:=K+n) (F:=cpar K n) (by omega) (by omega) (by omega) g (λW' q g'=>A.c17 W' (by omega) g' (by omega)) (λkd t e j lb W' a b c q g'=>A.c20 kd t e j lb W' (by omega) g' (by omega) a b c)
 c36:=λkd t j lb W hW g h a b c=>m_c36 (k:=K+n) (F:=cpar K n) a b c g (by omega) (λno W' q g'=>A.c41 no W' (by omega) g' (by omega))
 c37:=λkd t j lb W hW g h a b c=>m_c37 (k:=K+n) (F:=cpar K n) a b c g (by omega) (λno W' q g'=>A.c42 no W' (by omega) g' (by omega))
 c40:=λno W hW g h=>m_c40 (k:=K+n) (F:=cpar K n) g (by omega) (by omega) (λW' q g'=>A.c44 W' (by omega) g' (by omega))
 c41:=λno W hW g h=>m_c41 (k:=K+n) (F:=cpar K n) g (by omega) (by omega) (λW' q g'=>A.c45 W' (by omega) g' (by omega))
 c42:=λno W hW g h=>m_c42 (k:=K+n) (F:=cpar K n) g (by omega) (by omega) (λW' q g'=>A.c46 W' (by omega) g' (by omega))
 c43:=λno W hW g h=>m_c43 (k:=K+n) (F:=cpar K n) g (by omega) (by omega) (λW' q g'=>A.c45 W' (by omega) g' (by omega))
 c47:=λt z D E I W hW g h o u=>m_clause (k:=K+n) (F:=cpar K n) o u g (λW' q g'=>A.c6 W' (by omega) g' (by omega))
 c48:=λt W hW g h=>m_called (k:=K+n) (F:=cpar K n) g (A.c51 W hW g (by omega)) (λW' q g'=>A.c49 W' (by omega) g' (by omega)) (λW' z D E I q g' o u=>A.c47 t z D E I W' (by omega) g' (by omega) o u)
 c49:=λW hW g h=>m_guard (k:=K+n) (F:=cpar K n) g (λW' q g'=>A.c50 W' (by omega) g' (by omega))
 c6:=λW hW g h=>m_body (k:=K+n) (F:=cpar K n) g (by omega) (by omega) (λW' q g'=>A.c5 0 W' (by omega) g' (by omega))
 c17:=λW hW g h=>m_closed (k:=K+n) (F:=cpar K n) g (A.c5 0 W hW g (by omega))
 c19:=λW hW g h=>m_list (k:=K+n) (F:=cpar K n) g (by omega) (by omega) (λW' q g'=>A.c5 3 W' (by omega) g' (by omega)) (λkd t br j lb W' a b c q g'=>A.c30 kd t br j lb W' (by omega) g' (by omega) a b c)
 c24:=λW hW g h=>m_worded (k:=K+n) (F:=cpar K n) (by omega) g (λW' q g'=>A.c34 W' (by omega) g' (by omega)) (λW' q g'=>A.c5 0 W' (by omega) g' (by omega)) (λkd t j lb W' a b c q g'=>A.c36 kd t j lb W' (by omega) g' (by omega) a b c) (λkd t j lb W' a b c q g'=>A.c37 kd t j lb W' (by omega) g' (by omega) a b c) (λW' q g'=>A.c38 W' (by omega) g' (by omega)) (λW' q g'=>A.c6 W' (by omega) g' (by omega))
 c25:=λW hW g h=>m_right (k:=K+n) (F:=cpar K n) (by omega) g (λW' q g'=>A.c17 W' (by omega) g' (by omega))
 c29:=λW hW g h=>m_at0 (k:=K+n) (F:=cpar K n) g (A.c5 0 W hW g (by omega))
 c32:=λW hW g h=>m_pair (k:=K+n) (F:=cpar K n) (by omega) g (λW' q g'=>A.c5 1 W' (by omega) g' (by omega))
 c34:=λW hW g h=>m_fun (k:=K+n) (F:=cpar K n) g (by omega) (λno W' q g'=>A.c40 no W' (by omega) g' (by omega))
 c38:=λW hW g h=>qQg (k:=K+n) (F:=cpar K n) g (by omega) (λno W' q g'=>A.c43 no W' (by omega) g' (by omega)) (λW' q g'=>A.c5 1 W' (by omega) g' (by omega)) (λW' z D E I q g' o u=>A.c47 [] z D E I W' (by omega) g' (by omega) o u)
 c44:=λW hW g h=>m_funcl (k:=K+n) (F:=cpar K n) g (A.c48 [] W hW g (by omega))
 c45:=λW hW g h=>qQi (k:=K+n) (F:=cpar K n) g (A.c5 1 W hW g (by omega)) (λW' q g'=>A.c49 W' (by omega) g' (by omega)) (λW' z D E I q g' o u=>A.c47 [] z D E I W' (by omega) g' (by omega) o u)
 c46:=λW hW g h=>m_asked (k:=K+n) (F:=cpar K n) g (A.c50 W hW g (by omega)) (λW' z D E I q g' o u=>A.c47 [] z D E I W' (by omega) g' (by omega) o u)
 c50:=λW hW g h=>m_alts (k:=K+n) (F:=cpar K n) g (by omega) (by omega) (λW' q g'=>A.c52 W' (by omega) g' (by omega))
 c51:=λW hW g h=>m_args (k:=K+n) (F:=cpar K n) g (λkd t e j lb W' a b c q g'=>A.c18 kd t e j lb W' (by omega) g' (by omega) a b c)
 c52:=λW hW g h=>m_row (k:=K+n) (F:=cpar K n) g (by omega) (by omega) (λW' q g'=>A.c5 1 W' (by omega) g' (by omega))
theorem al (G : Lg) {K : Nat} (hK : 1000 ≤ K) : ∀ n, Al G K n
 | 0=>al_0 G K
 | n+1=>al_s hK (al G hK n)
structure Fns3 where
 g22:S28→Option LL
structure FnsOk3 (F:Fns3):Prop where
 g22_ok:∀ (a0:S28),∀ (r:LL),F.g22 a0=some r→PureOk Try.prog 22 [.agg [.i a0.f0,.str a0.f1,q29 a0.f2,.bool a0.f3,.bool a0.f4,w9 a0.f5,w9 a0.f6]] (w9 r)
end Go.Proofs.Ythpplbkobokghaa.Am
set_option maxRecDepth 100000
set_option linter.unusedVariables false
namespace Go.Proofs.Ythpplbkobokghaa.Am
noncomputable section
open Go
def Xg22:Fx LL:=⟨Try.prog,cx,Try.f22,λr=>w9 r,0,λ_=>H0,cxTi,cxOrd,λ_=>none,false⟩
def g22p1:Pt:=nav [0,0,0] (nav [0] (bodyAt Try.f22))
def g22p2:Pt:=nav [0,0,0,0] g22p1
def g22p3:Pt:=nav [0,0,0,0] g22p2
def g22p5:Pt:=nav [0,0] (nav [0,0,0] g22p3)
def g22p6:Pt:=nav [1,0,0,0] g22p5
def g22p7:Pt:=nav [2,0,0] g22p5
def qL (k:Nat) (F:Fns3)  (a0:S28) (ih:Int→LL→Option LL):Int→LL→Option LL :=
 λ(a:Int) (b:LL)=>if (decide (a < (a0.f2.n:Int))) then ((nthR d29 7 a0.f2.n a0.f2.cells a).bind λc=>(F.g22 c).bind λg=>(appS 16 b g).bind λh=>ih (fW .i64 (a+1)) h) else ((appS 16 b a0.f6).bind λj=>some j)
def qHk (k:Nat) (F:Fns3)  (a0:S28) (n:Nat):Int→LL→Option LL:=lp (λ_ _=>none) (qL k F a0) n
theorem qNf (k:Nat) (F:Fns3)  (a0:S28) (n:Nat) (a:Int) (b:LL):qHk k F a0 (n+1) a b=(if (decide (a < (a0.f2.n:Int))) then ((nthR d29 7 a0.f2.n a0.f2.cells a).bind λc=>(F.g22 c).bind λg=>(appS 16 b g).bind λh=>(qHk k F a0 n) (fW .i64 (a+1)) h) else ((appS 16 b a0.f6).bind λj=>some j)):=rfl
theorem qS0 (k:Nat) (F:Fns3) (I:FnsOk3 F)   (a0:S28)  : ∀ (n:Nat) (c:Int) (b:LL),Ok Xg22 g22p3 [(1,.ptr 0 7 0),(3,.own 1 (b).length 1),(4,.i c)] (mkH [⟨[.i a0.f0,.str a0.f1,q29 a0.f2,.bool a0.f3,.bool a0.f4,w9 a0.f5,w9 a0.f6],0,false⟩,⟨(b).flatMap e9,0,false⟩]) (qHk k F a0 n c b):=by
 intro n
 induction n with
 | zero=>intro c b; exact ok_none
 | succ n ih =>
  intro c b
  show Ok _ _ _ _ (qL k F a0 (qHk k F a0 n) c b)
  unfold qL
  refine qAi (p':=nav [0] g22p3) Kr ?_
  let q:Env:=[(13,.bool (decide (c < (a0.f2.n:Int)))),(12,.i (a0.f2.n:Int)),(11,q29 a0.f2),(10,.ptr 0 7 2),(9,.i c),(1,.ptr 0 7 0),(3,.own 1 (b).length 1),(4,.i c)]
  let o:Blk:=⟨(b).flatMap e9,0,false⟩
  refine oH 9 g22p5 q (mkH [⟨e29 a0,0,false⟩,o]) ?_
  refine oS 13 (λJ=>?_) (λJ=>?_)
  ·let u:Env:=((19,.i c)::(18,q29 a0.f2)::(17,.ptr 0 7 2)::(16,.own 1 (b).length 1)::(13,.bool true)::q)
   refine oR 9 (atN 4 (ctl1 g22p6)) u ?_
   refine qKh (λ(a:S28)=>(.vptr [.i a.f0,.str a.f1,q29 a.f2,.bool a.f3,.bool a.f4,w9 a.f5,w9 a.f6],(mkH [⟨e29 a0,0,false⟩,o]))) (atN 5 (ctl1 g22p6)) (λa=>((20,.vptr [.i a.f0,.str a.f1,q29 a.f2,.bool a.f3,.bool a.f4,w9 a.f5,w9 a.f6])::u)) (λ_ K=>vidxR (sz:=7) qSf K Kr) (λ_=>by kernel_rfl) (λa x=>?_)
   refine oH 1 (atN 6 (ctl1 g22p6)) ((21,n29 a)::(20,.vptr [.i a.f0,.str a.f1,q29 a.f2,.bool a.f3,.bool a.f4,w9 a.f5,w9 a.f6])::u) (mkH [⟨e29 a0,0,false⟩,o]) ?_
   refine oA (λ(j:LL)=>w9 j) (atN 7 (ctl1 g22p6)) 22 [n29 a] (I.g22_ok a) λj z=>?_
   refine oC (λ(h:LL)=>(.own 1 (h).length 1,(mkH [⟨e29 a0,0,false⟩,⟨(h).flatMap e9,0,false⟩]))) (atN 8 (ctl1 g22p6)) 23 (appHV (sz:=1) qBx rfl qNj [⟨e29 a0,0,false⟩,o] 1 16 b j rfl rfl Kr) λh D=>?_
   refine oLH 2 (nav [0,0] g22p6) [(1,.ptr 0 7 0),(3,.own 1 (h).length 1),(4,.i c)] (mkH [⟨e29 a0,0,false⟩,⟨(h).flatMap e9,0,false⟩]) ?_
   refine oL 5 g22p3 [(1,.ptr 0 7 0),(3,.own 1 (h).length 1),(4,.i (fW .i64 (c+1)))] ?_
   exact ih (fW .i64 (c+1)) h
  ·refine oR 7 (atN 3 (ctl1 g22p7)) ((26,w9 a0.f6)::(25,.ptr 0 7 6)::(24,.own 1 (b).length 1)::(13,.bool false)::q) ?_
   refine oC (λ(g:LL)=>(.own 1 (g).length 1,(mkH [⟨e29 a0,0,false⟩,⟨(g).flatMap e9,0,false⟩]))) (atN 4 (ctl1 g22p7)) 27 (appHV (sz:=1) qBx rfl qNj [⟨e29 a0,0,false⟩,o] 1 16 b a0.f6 rfl rfl Kr) λg E=>?_
   refine oH 3 .fin ((2,.own 1 (g).length 1)::(27,.own 1 (g).length 1)::(26,w9 a0.f6)::(25,.ptr 0 7 6)::(24,.own 1 (b).length 1)::(13,.bool false)::q) (mkH [⟨e29 a0,0,false⟩,⟨(g).flatMap e9,0,false⟩]) ?_
   exact oT [.own 1 (g).length 1] (w9 g) (qAr qBx e9_pur rfl rfl rfl .ps)
def g22B (k:Nat) (F:Fns3) (a0:S28):Option LL :=
 (appS 16 ([]:LL) a0.f5).bind λa=>qHk k F a0 k 0 a
theorem g22B_ok (k:Nat) (F:Fns3) (g:FnsOk3 F) (a0:S28) (r:LL) (h:g22B k F a0=some r):PureOk Try.prog 22 [.agg [.i a0.f0,.str a0.f1,q29 a0.f2,.bool a0.f3,.bool a0.f4,w9 a0.f5,w9 a0.f6]] (w9 r):=by
 refine qA4 Xg22 (λ_=>⟨rfl,rfl⟩) Try.func22 (by decide +kernel) Kr (t:=g22B k F a0) ?_ h
 unfold g22B
 refine qA (eE:=[(0,.agg [.i a0.f0,.str a0.f1,q29 a0.f2,.bool a0.f3,.bool a0.f4,w9 a0.f5,w9 a0.f6])]) Kr ?_
 refine oH 8 (atN 1 (ctl1 g22p1)) [(5,.slice 1 0 0 0 1),(2,.nils),(1,.ptr 0 7 0),(0,n29 a0)] (mkH [⟨e29 a0,0,false⟩,⟨[],0,false⟩]) ?_
 refine qCo 5 1 0 0 1 Kr rfl ?_
 let c:Blk:=⟨(([]:LL)).flatMap e9,0,false⟩
 refine oH 2 (atN 3 (ctl1 g22p1)) [(7,w9 a0.f5),(6,.ptr 0 7 5),(5,.own 1 (([]:LL)).length 1),(5,.slice 1 0 0 0 1),(2,.nils),(1,.ptr 0 7 0),(0,n29 a0)] (mkH [⟨e29 a0,0,false⟩,c]) ?_
 refine oC (λ(a:LL)=>(.own 1 (a).length 1,(mkH [⟨e29 a0,0,false⟩,⟨(a).flatMap e9,0,false⟩]))) (atN 4 (ctl1 g22p1)) 8 (appHV (sz:=1) qBx rfl qNj [⟨e29 a0,0,false⟩,c] 1 16 ([]:LL) a0.f5 rfl rfl Kr) λa b=>?_
 refine oLH 4 g22p2 [(1,.ptr 0 7 0),(3,.own 1 (a).length 1)] (mkH [⟨e29 a0,0,false⟩,⟨(a).flatMap e9,0,false⟩]) ?_
 refine oL 5 g22p3 [(1,.ptr 0 7 0),(3,.own 1 (a).length 1),(4,.i 0)] ?_
 exact (qS0 k F g a0 k) 0 a
def par3 (n:Nat):Fns3:=Nat.rec (motive:=λ_=>Fns3) ⟨λ_=>none⟩ (λk F=>⟨g22B k F⟩) n
theorem qPt : ∀ k, FnsOk3 (par3 k)
 | 0=>⟨(λ_ _ h=>nomatch h)⟩
 | k+1=>⟨g22B_ok k (par3 k) (qPt k)⟩
def g22 (k:Nat) (a0:S28):Option LL:=(par3 k).g22 a0
theorem g22_s (k:Nat) (a0:S28):g22 (k+1) a0=g22B k (par3 k) a0:=rfl
theorem g22_ok (k:Nat):∀ (a0:S28),∀ (r:LL),g22 k a0=some r→PureOk Try.prog 22 [.agg [.i a0.f0,.str a0.f1,q29 a0.f2,.bool a0.f3,.bool a0.f4,w9 a0.f5,w9 a0.f6]] (w9 r):=(qPt k).g22_ok
theorem pN_s {α:Type} (p:List AV→Option (α×List AV)) (n:Nat) (cs:List AV):pN p (n+1) cs=(match p cs with | some (x,r)=>(match pN p n r with | some (l,r')=>some (x::l,r') | none=>none) | none=>none):=rfl
theorem p9_e (a:LN) (r:List AV):p9 (e9 a++r)=some (a,r):=rfl
theorem pN9 : ∀ l : LL, pN p9 l.length (l.flatMap e9) = some (l, [])
 | []=>rfl
 | a::l=>by
  rw [List.length_cons,pN_s,List.flatMap_cons,p9_e]
  simp [pN9 l]
theorem pV_e {α:Type} (p:List AV→Option (α×List AV)) (sz n:Nat) (c r:List AV) (l:List α) (h:pN p n c=some (l,[])):pV p sz (.vec n sz c::r)=some (l,r):=by
 simp [pV,h]
theorem p22_w (l:LL) (r:List AV):p22 (w9 l::r)=some (l,r):=pV_e p9 1 _ _ r l (pN9 l)
theorem p29_e (x:S28) (r:List AV):p29 (e29 x++r)=some (x,r):=by
 have h3:∀ (i:Int) r,p3 (.int .i64 i::r)=some (i,r):=λi r=>rfl
 have h9:∀ (i:LN) r,p9 (.str i::r)=some (i,r):=λi r=>rfl
 have h4:∀ (i:Bool) r,p4 (.bool i::r)=some (i,r):=λi r=>rfl
 simp [p29,e29,h3,h9,h4,p22_w]
theorem d29_e (x:S28):d29 (e29 x)=some x:=by
 have:=p29_e x []
 rw [List.append_nil] at this
 show pall p29 _=_
 unfold pall
 rw [this]
theorem nthR_at:∀ (l:List S28) (i:Nat) (x:S28),l[i]? = some x→nthR d29 7 l.length (l.flatMap e29) (i:Int)=some x:=by
 intro l i x h
 have hi:=(List.getElem?_eq_some_iff.1 h).1
 unfold nthR
 rw [if_pos ⟨by omega,by omega⟩,Int.toNat_natCast]
 have:∀ (l:List S28) (i:Nat),l[i]? = some x→((l.flatMap e29).drop (i * 7)).take 7=e29 x:=by
  intro l
  induction l with
  | nil=>intro i h; simp at h
  | cons y l ih =>
   intro i h
   cases i with
   | zero =>
    simp only [List.getElem?_cons_zero,Option.some.injEq] at h
    subst h
    rfl
   | succ i =>
    rw [List.getElem?_cons_succ] at h
    rw [List.flatMap_cons,Nat.succ_mul,Nat.add_comm,← List.drop_drop]
    rw [show (7:Nat)=(e29 y).length from rfl,List.drop_left]
    exact ih i h
 rw [this l i h]
 exact d29_e x
theorem qQa {B : Nat} {ev : Nat → S28 → LL → Prop} : ∀ {L : List S28} {ls : LL}, Nds (λx l => l.length ≤ B → ∃ k0, ∀ k, k0 ≤ k → ev k x l) L ls → ls.length ≤ B → ∃ k0, ∀ k, k0 ≤ k → Nds (ev k) L ls
 | _,_,.nil,_=>⟨0,λk _ => .nil⟩
 | _,_,.cons h hs,hb=>by
  rw [List.length_append] at hb
  obtain ⟨k1,h1⟩:=h (by omega)
  obtain ⟨k2,h2⟩:=qQa hs (by omega)
  exact ⟨k1+k2,λk hk => .cons (h1 k (by omega)) (h2 k (by omega))⟩
theorem qQ9 {nd nd' : S28 → LL → Prop} (f : ∀ x l, nd x l → nd' x l) : ∀ {L : List S28} {ls : LL}, Nds nd L ls → Nds nd' L ls
 | _,_,.nil => .nil
 | _,_,.cons h hs => .cons (f _ _ h) (qQ9 f hs)
theorem app16 {l x:LL} (h:l.length+x.length≤2000000):appS 16 l x=some (l++x):=by
 unfold appS
 rw [if_pos ⟨by omega,by omega⟩]
theorem drop_at {α:Type} {L:List α} {j:Nat} {x:α} {r:List α} (h:L.drop j=x::r):L[j]? = some x∧L.drop (j+1)=r∧j < L.length:=by
 have h1:L[j]? = some x:=by have:=congrArg (λq=>q[0]?) h; simpa [List.getElem?_drop] using this
 refine ⟨h1,?_,(List.getElem?_eq_some_iff.1 h1).1⟩
 rw [← List.drop_drop,h]; rfl
def plain (s:List Tkn):Prop := ∀ t ∈ s,¬ (t.1.f1=[35]∨t.1.f1=[102,117,110]∨t.1.f1=[60,60])
theorem qLz {k : Nat} {F : Fns3} {a0 : S28} {L : List S28} (h2 : a0.f2 = ⟨L.length, L.flatMap e29⟩) (hL : L.length < 100000000) : ∀ {rest : List S28} {ls : LL}, Nds (λx l => F.g22 x = some l) rest ls → ∀ (n j : Nat) (acc : LL), L.drop j = rest → rest.length < n → acc.length + (ls.length + a0.f6.length) ≤ 1000000 → qHk k F a0 n (j : Int) acc = some (acc ++ (ls ++ a0.f6))
 | _,_,.nil,0,j,acc,hd,hn,hb=>by omega
 | _,_,.nil,n+1,j,acc,hd,hn,hb=>by
  have:L.length≤j:=by
   have:=congrArg List.length hd
   simp at this; omega
  rw [qNf,h2]
  simp only [List.length_nil] at hb
  exact iF (dF (by show ¬ (j:Int) < (L.length:Int); omega)) (bS (app16 (by omega)) (by simp))
 | _,_,.cons h hs,0,j,acc,hd,hn,hb=>by omega
 | _,_,.cons (x:=x) (l:=l) h hs,n+1,j,acc,hd,hn,hb=>by
  obtain ⟨e1,e2,e3⟩:=drop_at hd
  rw [List.length_append] at hb
  rw [List.length_cons] at hn
  rw [qNf,h2]
  refine iT (dT (by show (j:Int) < (L.length:Int); omega)) (bS (nthR_at L j x e1) (bS h (bS (app16 (by omega)) ?_)))
  rw [fw_s (by omega),qLz h2 hL hs n (j+1) (acc++l) e2 (by omega) (by rw [List.length_append]; omega)]
  simp
def evN (x:S28) (l:LL):Prop:=l.length≤1000000→∃ k0,∀ k,k0≤k→g22 k x=some l
def ndN (x:S28) (l:LL):Prop:=(x.f0=1→x.f1 ≠ [])∧∃ L ls,x.f2=⟨L.length,L.flatMap e29⟩∧L.length < 100000000∧Nds evN L ls∧l=x.f5++(ls++x.f6)
theorem ndN_ev {x:S28} {l:LL} (h:ndN x l):evN x l:=λhb=>by
 obtain ⟨-,L,ls,h2,hL,hs,e⟩:=h
 subst e
 simp only [List.length_append] at hb
 obtain ⟨k0,h0⟩:=qQa (ev:=λk x l=>g22 k x=some l) hs (by omega)
 refine ⟨k0+L.length+2,λk hk'=>?_⟩
 obtain ⟨k,rfl⟩:∃ j,k=j+1:=⟨k - 1,by omega⟩
 rw [g22_s]
 unfold g22B
 refine bS (app16 (l:=[]) (by simp; omega)) ?_
 exact qLz (k:=k) (F:=par3 k) (a0:=x) h2 hL (h0 k (by omega)) k 0 ([]++x.f5) rfl (by omega) (by simp; omega)
def isNote (t:Tkn):Bool:=decide (t.1.f0=11)
def notesOf (s:List Tkn):LL:=(s.filter isNote).map (·.1.f1)
theorem qBb (a b:List Tkn):notesOf (a++b)=notesOf a++notesOf b:=by simp [notesOf]
theorem qDx {t:Tkn} (h:¬ t.1.f0=11):isNote t=false:=dF h
def LgN:Lg where
 rel s l:=notesOf s=l
 dark s l:=notesOf s=l
 nd:=ndN
 own _:=[]
 no l:=l
 nil:=rfl
 app:=λ{a b la lb} h1 h2=>by rw [qBb,h1,h2]
 sign:=λ{t} h=>by
  have:isNote t=false:=qDx (by omega)
  simp [notesOf,this]
 lit:=λ{t} h1 h7=>by
  have:isNote t=false:=qDx (by omega)
  simp [notesOf,this]
 note:=λ{t} h=>by
  have:isNote t=true:=dT h
  simp [notesOf,this]
 dim:=λh=>h
 dapp:=λ{a b la lb} h1 h2=>by rw [qBb,h1,h2]
 skip:=λ{t} h1 h7=>by
  have:isNote t=false:=qDx (by omega)
  simp [notesOf,this]
 enter:=λ{t a la} hk _ h=>by
  have:isNote t=false:=qDx (by omega)
  show notesOf ([t]++a)=la
  rw [qBb,h]
  simp [notesOf,this]
 noNil:=rfl
 noApp:=λ_ _=>rfl
 leaf:=λt ht=>⟨λ_=>ht,[],[],rfl,by decide,.nil,rfl⟩
 lf:=λh=>h.1
 node:=λ{kd t L ls br bl n ta} hk hL h=>⟨λe=>absurd e hk,L,ls,rfl,hL,qQ9 (λx l h=>ndN_ev h) h,rfl⟩
 renote:=λ{x l n bl} hf h=>by
  obtain ⟨h1,L,ls,h2,hL,hs,e⟩:=h
  refine ⟨h1,L,ls,h2,hL,hs,?_⟩
  rw [e,hf]; rfl
end
def Rf {α:Type} (m m':Option α):Prop := ∀ x,m=some x→m'=some x
theorem rfR {α:Type} {m:Option α}:Rf m m:=λ_ h=>h
theorem rfI {α:Type} {c:Bool} {a a' b b':Option α} (g:Rf a a') (h:Rf b b'):Rf (if c then a else b) (if c then a' else b'):=by
 cases c with
 | true=>exact g
 | false=>exact h
theorem rfB {α β:Type} {m m':Option α} {f f':α→Option β} (h:Rf m m') (k:∀ x,Rf (f x) (f' x)):Rf (m.bind f) (m'.bind f'):=by
 intro y hy
 cases e:m with
 | none=>rw [e] at hy; cases hy
 | some x=>rw [e] at hy; rw [h x e]; exact k x y hy
theorem rfT {α β:Type} {m m':Option (Option α)} {f f':α→Option (Option β)} (h:Rf m m') (k:∀ x,Rf (f x) (f' x)):Rf (bT m f) (bT m' f'):=by
 intro y hy
 cases e:m with
 | none=>rw [e] at hy; cases hy
 | some x =>
  rw [e] at hy; rw [h x e]
  cases x with
  | none=>exact hy
  | some x=>exact k x y hy
theorem rfJ {α β:Type} {f f':α→Option β} {g g':(α→Option β)→Option β} (hf:∀ z,Rf (f z) (f' z)) (hg:∀ j j':α→Option β,(∀ z,Rf (j z) (j' z))→Rf (g j) (g' j')):Rf (jn f g) (jn f' g'):=hg _ _ hf
theorem qN8 {k k' : Nat} (hk : k ≤ k') {z q : Int → Option Int} (u : ∀ E, Rf (z E) (q E)) (a0 : LN) (a : (List LL)) (b : Int) (c : LL) : ∀ (n n' : Nat) (g : Int) (j : Int) (o : Int), n ≤ n' → Rf (qCs k z a0 a b c n g j o) (qCs k' q a0 a b c n' g j o)
 | 0,_,_,_,_,_=>λx e=>nomatch (show none=some x from e)
 | n+1,0,_,_,_,h=>by omega
 | n+1,n'+1,g,j,o,h=>by
  have ih:=λJ K w2=>qN8 hk u a0 a b c n n' J K w2 (Nat.le_of_succ_le_succ h)
  show Rf (qEl k z a0 a b c (qCs k z a0 a b c n) g j o) (qEl k' q a0 a b c (qCs k' q a0 a b c n') g j o)
  unfold qEl
  exact rfJ (λN=>u _) (λO M D=>rfI (rfB rfR λI=>rfI (rfR) (ih _ _ _)) (D _))
theorem qN9 {k k' : Nat} (hk : k ≤ k')  (a0 : LN) (a : (List LL)) : ∀ (n n' : Nat) (b : Int), n ≤ n' → Rf (qCt k a0 a n b) (qCt k' a0 a n' b)
 | 0,_,_,_=>λx e=>nomatch (show none=some x from e)
 | n+1,0,_,h=>by omega
 | n+1,n'+1,b,h=>by
  have ih:=λg=>qN9 hk a0 a n n' g (Nat.le_of_succ_le_succ h)
  show Rf (qEm k a0 a (qCt k a0 a n) b) (qEm k' a0 a (qCt k' a0 a n') b)
  unfold qEm
  exact rfI (rfB rfR λc=>qN8 hk ih _ _ _ _ _ _ _ _ _ hk) (rfR)
theorem qOj {k k':Nat} (hk:k≤k') (a0:LN):Rf (g50 k a0) (g50 k' a0):=by
 unfold g50
 exact rfB rfR λa=>qN9 hk  _ _ _ _ _ hk
theorem g69_m {k k':Nat} (hk:k≤k') (a0:LN):Rf (g69 k a0) (g69 k' a0):=by
 unfold g69
 exact rfB (qOj hk _) λa=>rfB rfR λb=>rfR
theorem g52_m {k k':Nat} (hk:k≤k') (a0:LN):Rf (g52 k a0) (g52 k' a0):=by
 unfold g52
 exact rfB (g69_m hk _) λa=>rfI (rfB (qOj hk _) λb=>rfR) (rfB (qOj hk _) λc=>rfR)
theorem g54_m {k k':Nat} (hk:k≤k') (a0:LN):Rf (g54 k a0) (g54 k' a0):=by
 unfold g54
 exact rfB (g69_m hk _) λa=>rfI (rfB (qOj hk _) λb=>rfR) (rfB (qOj hk _) λc=>rfR)
theorem qJs {k k' : Nat} (hk : k ≤ k')  (a0 : (List Int)) (b : Int) : ∀ (n n' : Nat) (a : Int), n ≤ n' → Rf (qBq k a0 b n a) (qBq k' a0 b n' a)
 | 0,_,_,_=>λx e=>nomatch (show none=some x from e)
 | n+1,0,_,h=>by omega
 | n+1,n'+1,a,h=>by
  have ih:=λg=>qJs hk a0 b n n' g (Nat.le_of_succ_le_succ h)
  show Rf (qDc k a0 b (qBq k a0 b n) a) (qDc k' a0 b (qBq k' a0 b n') a)
  unfold qDc
  exact rfI (rfB rfR λc=>rfI (rfR) (ih _)) (rfR)
theorem g111_m {k k':Nat} (hk:k≤k') (a0:List Int) (a:Int):Rf (g111 k a0 a) (g111 k' a0 a):=by
 unfold g111
 exact qJs hk  _ _ _ _ _ hk
theorem g104_m {k k':Nat} (hk:k≤k') (a0:List Int) (a:Int):Rf (g104 k a0 a) (g104 k' a0 a):=by
 unfold g104
 exact rfB (g111_m hk _ _) λb=>rfR
theorem qSo {k k':Nat} (hk:k≤k') (a0:LN) (a:List Tkn):Rf (c10 k a0 a) (c10 k' a0 a):=by
 unfold c10
 exact rfB rfR λb=>rfI (rfR) (rfI (rfR) (rfR))
theorem qSm {k k':Nat} (hk:k≤k') (a0:List Int) (a:List Tkn):Rf (c33 k a0 a) (c33 k' a0 a):=by
 unfold c33
 exact rfB rfR λb=>rfB (g104_m hk _ _) λc=>rfT rfR λg=>rfT rfR λh=>rfR
theorem qSn {k k':Nat} (hk:k≤k') (a:List Tkn):Rf (c22 k a) (c22 k' a):=by
 unfold c22
 exact rfT (qSm hk _ _) λb=>rfR
theorem c7_m {k k':Nat} (hk:k≤k') (a0:LN) (a:List Tkn):Rf (c7 k a0 a) (c7 k' a0 a):=by
 unfold c7
 exact rfB (qSo hk _ _) λb=>rfI (rfR) (rfT rfR λc=>rfR)
theorem qBs {k k':Nat} (hk:k≤k') (a0:LN) (a:List Tkn):Rf (c23 k a0 a) (c23 k' a0 a):=by
 unfold c23
 exact rfT (c7_m hk _ _) λb=>rfT rfR λc=>rfR
theorem c39_m {k k':Nat} (hk:k≤k') (a:List Tkn):Rf (c39 k a) (c39 k' a):=by
 unfold c39
 exact rfT (qSm hk _ _) λb=>rfR
theorem c35_m {k k':Nat} (hk:k≤k') (b:List Tkn):Rf (c35 k b) (c35 k' b):=by
 unfold c35
 exact rfT (qSn hk _) λc=>rfT (c7_m hk _ _) λg=>rfJ (λD=>rfT (qBs hk _ _) λh=>rfB rfR λj=>rfT (c39_m hk _) λn=>rfB rfR λo=>rfR) (λE z a=>rfI (rfB rfR λq=>rfT (qSn hk _) λu=>rfB rfR λx=>a _) (a _))
structure MonoC (F F':Cns):Prop where
 c5:∀ x0 x1,Rf (F.c5 x0 x1) (F'.c5 x0 x1)
 c6:∀ x0,Rf (F.c6 x0) (F'.c6 x0)
 c8:∀ x0,Rf (F.c8 x0) (F'.c8 x0)
 c13:∀ x0,Rf (F.c13 x0) (F'.c13 x0)
 c14:∀ x0 x1 x2,Rf (F.c14 x0 x1 x2) (F'.c14 x0 x1 x2)
 c17:∀ x0,Rf (F.c17 x0) (F'.c17 x0)
 c18:∀ x0 x1 x2 x3 x4 x5 x6 x7 x8,Rf (F.c18 x0 x1 x2 x3 x4 x5 x6 x7 x8) (F'.c18 x0 x1 x2 x3 x4 x5 x6 x7 x8)
 c19:∀ x0,Rf (F.c19 x0) (F'.c19 x0)
 c20:∀ x0 x1 x2 x3 x4 x5 x6 x7 x8,Rf (F.c20 x0 x1 x2 x3 x4 x5 x6 x7 x8) (F'.c20 x0 x1 x2 x3 x4 x5 x6 x7 x8)
 c21:∀ x0 x1 x2 x3 x4 x5 x6 x7 x8,Rf (F.c21 x0 x1 x2 x3 x4 x5 x6 x7 x8) (F'.c21 x0 x1 x2 x3 x4 x5 x6 x7 x8)
 c24:∀ x0,Rf (F.c24 x0) (F'.c24 x0)
 c25:∀ x0,Rf (F.c25 x0) (F'.c25 x0)
 c26:∀ x0 x1,Rf (F.c26 x0 x1) (F'.c26 x0 x1)
 c29:∀ x0,Rf (F.c29 x0) (F'.c29 x0)
 c30:∀ x0 x1 x2 x3 x4 x5 x6 x7,Rf (F.c30 x0 x1 x2 x3 x4 x5 x6 x7) (F'.c30 x0 x1 x2 x3 x4 x5 x6 x7)
 c31:∀ x0,Rf (F.c31 x0) (F'.c31 x0)
 c32:∀ x0,Rf (F.c32 x0) (F'.c32 x0)
 c34:∀ x0,Rf (F.c34 x0) (F'.c34 x0)
 c36:∀ x0 x1 x2 x3 x4 x5 x6 x7,Rf (F.c36 x0 x1 x2 x3 x4 x5 x6 x7) (F'.c36 x0 x1 x2 x3 x4 x5 x6 x7)
 c37:∀ x0 x1 x2 x3 x4 x5 x6 x7,Rf (F.c37 x0 x1 x2 x3 x4 x5 x6 x7) (F'.c37 x0 x1 x2 x3 x4 x5 x6 x7)
 c38:∀ x0,Rf (F.c38 x0) (F'.c38 x0)
 c40:∀ x0 x1,Rf (F.c40 x0 x1) (F'.c40 x0 x1)
 c41:∀ x0 x1,Rf (F.c41 x0 x1) (F'.c41 x0 x1)
 c42:∀ x0 x1,Rf (F.c42 x0 x1) (F'.c42 x0 x1)
 c43:∀ x0 x1,Rf (F.c43 x0 x1) (F'.c43 x0 x1)
 c44:∀ x0,Rf (F.c44 x0) (F'.c44 x0)
 c45:∀ x0,Rf (F.c45 x0) (F'.c45 x0)
 c46:∀ x0,Rf (F.c46 x0) (F'.c46 x0)
 c47:∀ x0 x1 x2 x3,Rf (F.c47 x0 x1 x2 x3) (F'.c47 x0 x1 x2 x3)
 c48:∀ x0 x1,Rf (F.c48 x0 x1) (F'.c48 x0 x1)
 c49:∀ x0,Rf (F.c49 x0) (F'.c49 x0)
 c50:∀ x0,Rf (F.c50 x0) (F'.c50 x0)
 c51:∀ x0,Rf (F.c51 x0) (F'.c51 x0)
 c52:∀ x0,Rf (F.c52 x0) (F'.c52 x0)
theorem qSk {k k' : Nat} (hk : k ≤ k') {F F' : Cns} (u : MonoC F F')  (a0 : Int) (o : (List Tkn)) : ∀ (n n' : Nat) (a : Int) (b : (List Tkn)) (c : S28), n ≤ n' → Rf (qIl k F a0 o n a b c) (qIl k' F' a0 o n' a b c)
 | 0,_,_,_,_,_=>λx e=>nomatch (show none=some x from e)
 | n+1,0,_,_,_,h=>by omega
 | n+1,n'+1,a,b,c,h=>by
  have ih:=λO Q w2=>qSk hk u a0 o n n' O Q w2 (Nat.le_of_succ_le_succ h)
  show Rf (qEy k F a0 o (qIl k F a0 o n) a b c) (qEy k' F' a0 o (qIl k' F' a0 o n') a b c)
  unfold qEy
  exact rfJ (λS=>rfR) (λT z j=>rfI (rfB rfR λD=>rfB (qOj hk _) λE=>rfB (qSo hk _ _) λI=>rfJ (λU=>rfI (j _) (rfT rfR λJ=>rfB (g54_m hk _) λK=>rfT (u.c5 _ _) λM=>ih _ _ _)) (λY N g=>rfI (g _) (rfI (g _) (rfB (g52_m hk _) λq=>g _)))) (j _))
theorem c5B_m {k k':Nat} (hk:k≤k') {F F':Cns} (b:MonoC F F') (a0:Int) (c:List Tkn):Rf (c5B k F a0 c) (c5B k' F' a0 c):=by
 unfold c5B
 exact rfJ (λo=>rfI (rfT (b.c5 _ _) λg=>rfR) (rfT (b.c8 _) λh=>qSk hk b  _ _ _ _ _ _ _ hk)) (λq n a=>rfI (rfT (c7_m hk _ _) λj=>a _) (a _))
theorem qSi {k k' : Nat} (hk : k ≤ k') {F F' : Cns} (j : MonoC F F')   : ∀ (n n' : Nat) (a : (List Tkn)) (b : (List S28)), n ≤ n' → Rf (qIk k F n a b) (qIk k' F' n' a b)
 | 0,_,_,_,_=>λx e=>nomatch (show none=some x from e)
 | n+1,0,_,_,h=>by omega
 | n+1,n'+1,a,b,h=>by
  have ih:=λD E=>qSi hk j  n n' D E (Nat.le_of_succ_le_succ h)
  show Rf (qEx k F (qIk k F n) a b) (qEx k' F' (qIk k' F' n') a b)
  unfold qEx
  exact rfJ (λJ=>rfB rfR λo=>rfT (j.c5 _ _) λq=>rfB rfR λu=>rfT (c7_m hk _ _) λz=>rfI (ih _ _) (rfR)) (λK I c=>rfI (rfB rfR λg=>c _) (c _))
theorem c6B_m {k k':Nat} (hk:k≤k') {F F':Cns} (b:MonoC F F') (a:List Tkn):Rf (c6B k F a) (c6B k' F' a):=by
 unfold c6B
 exact qSi hk b   _ _ _ _ hk
theorem c8B_m {k k':Nat} (hk:k≤k') {F F':Cns} (b:MonoC F F') (c:List Tkn):Rf (c8B k F c) (c8B k' F' c):=by
 unfold c8B
 exact rfB rfR λg=>rfB (qSo hk _ _) λh=>rfJ (λD=>rfI (rfT rfR λj=>rfT (b.c8 _) λn=>rfB rfR λo=>rfR) (rfT (b.c13 _) λq=>rfT (b.c14 _ _ _) λu=>rfR)) (λE z a=>rfI (rfB rfR λx=>a _) (a _))
theorem c13B_m {k k':Nat} (hk:k≤k') {F F':Cns} (a:MonoC F F') (u:List Tkn):Rf (c13B k F u) (c13B k' F' u):=by
 unfold c13B
 exact rfB rfR λx=>rfB rfR λz=>rfI (rfT rfR λD=>rfR) (rfT (c7_m hk _ _) λE=>rfI (rfT (a.c17 _) λI=>rfR) (rfT (c7_m hk _ _) λJ=>rfI (rfT (a.c18 _ _ _ _ _ _ _ _ _) λK=>rfR) (rfT (c7_m hk _ _) λM=>rfI (rfT (a.c19 _) λN=>rfR) (rfT (c7_m hk _ _) λO=>rfI (rfT (a.c20 _ _ _ _ _ _ _ _ _) λb=>rfR) (rfT (c7_m hk _ _) λc=>rfI (rfT (c7_m hk _ _) λg=>rfI (rfT (a.c21 _ _ _ _ _ _ _ _ _) λh=>rfR) (rfT (qSn hk _) λj=>rfT (qBs hk _ _) λn=>rfT (a.c18 _ _ _ _ _ _ _ _ _) λo=>rfR)) (rfT (a.c24 _) λq=>rfR))))))
theorem qNv {k k' : Nat} (hk : k ≤ k') {F F' : Cns} (z : MonoC F F')  (j : (List Tkn)) : ∀ (n n' : Nat) (a : Bool) (b : (List Tkn)) (c : S28), n ≤ n' → Rf (qDk k F j n a b c) (qDk k' F' j n' a b c)
 | 0,_,_,_,_,_=>λx e=>nomatch (show none=some x from e)
 | n+1,0,_,_,_,h=>by omega
 | n+1,n'+1,a,b,c,h=>by
  have ih:=λO Q w2=>qNv hk z j n n' O Q w2 (Nat.le_of_succ_le_succ h)
  show Rf (qD4 k F j (qDk k F j n) a b c) (qD4 k' F' j (qDk k' F' j n') a b c)
  unfold qD4
  exact rfJ (λZ=>rfI (rfR) (rfT (c7_m hk _ _) λD=>rfJ (λz9=>ih _ _ _) (λj9 S o=>rfI (rfT (z.c18 _ _ _ _ _ _ _ _ _) λE=>o _) (rfJ (λT=>rfI (rfT (z.c25 _) λI=>o _) (rfT (c7_m hk _ _) λJ=>rfI (rfT (z.c26 _ _) λK=>o _) (rfR))) (λU M g=>rfI (rfI (rfT (c7_m hk _ _) λq=>g _) (rfI (rfT (c7_m hk _ _) λq=>g _) (g _))) (g _)))))) (λj8 Y u=>rfI (rfB rfR λN=>u _) (u _))
theorem c14B_m {k k':Nat} (hk:k≤k') {F F':Cns} (c:MonoC F F') (a0:S28) (a:Bool) (b:List Tkn):Rf (c14B k F a0 a b) (c14B k' F' a0 a b):=by
 unfold c14B
 exact qNv hk c  _ _ _ _ _ _ hk
theorem c17B_m {k k':Nat} (hk:k≤k') {F F':Cns} (g:MonoC F F') (a:List Tkn):Rf (c17B k F a) (c17B k' F' a):=by
 unfold c17B
 exact rfT (g.c5 _ _) λb=>rfT (qBs hk _ _) λc=>rfR
theorem qK0 {k k' : Nat} (hk : k ≤ k') {F F' : Cns} (D : MonoC F F')  (a0 : Int) (j : LN) (o : Bool) (q : LL) (u : LL) (z : LN) (a : Bool) : ∀ (n n' : Nat) (b : LL) (c : (List Tkn)) (g : (List S28)), n ≤ n' → Rf (qCl k F a0 j o q u z a n b c g) (qCl k' F' a0 j o q u z a n' b c g)
 | 0,_,_,_,_,_=>λx e=>nomatch (show none=some x from e)
 | n+1,0,_,_,_,h=>by omega
 | n+1,n'+1,b,c,g,h=>by
  have ih:=λQ S w2=>qK0 hk D a0 j o q u z a n n' Q S w2 (Nat.le_of_succ_le_succ h)
  show Rf (qC2 k F a0 j o q u z a (qCl k F a0 j o q u z a n) b c g) (qC2 k' F' a0 j o q u z a (qCl k' F' a0 j o q u z a n') b c g)
  unfold qC2
  exact rfT (D.c29 _) λE=>rfB rfR λI=>rfB rfR λJ=>rfT (c7_m hk _ _) λK=>rfI (rfR) (rfT rfR λM=>rfT (qBs hk _ _) λN=>rfB rfR λO=>ih _ _ _)
theorem c18B_m {k k':Nat} (hk:k≤k') {F F':Cns} (z:MonoC F F') (a0:Int) (a:LN) (b:Bool) (c:Bool) (g:LL) (h:LL) (j:LN) (n:List Tkn) (o:List S28):Rf (c18B k F a0 a b c g h j n o) (c18B k' F' a0 a b c g h j n o):=by
 unfold c18B
 exact rfB rfR λq=>rfB rfR λu=>rfT (c7_m hk _ _) λx=>rfI (rfR) (qK0 hk z  _ _ _ _ _ _ _ _ _ _ _ _ hk)
theorem qK {k k' : Nat} (hk : k ≤ k') {F F' : Cns} (q : MonoC F F')  (o : (List Tkn)) (a : Bool) : ∀ (n n' : Nat) (b : LL) (c : (List Tkn)) (g : (List S28)) (j : S28), n ≤ n' → Rf (qCk k F o a n b c g j) (qCk k' F' o a n' b c g j)
 | 0,_,_,_,_,_,_=>λx e=>nomatch (show none=some x from e)
 | n+1,0,_,_,_,_,h=>by omega
 | n+1,n'+1,b,c,g,j,h=>by
  have ih:=λT U w2 w3=>qK hk q o a n n' T U w2 w3 (Nat.le_of_succ_le_succ h)
  show Rf (qC1 k F o a (qCk k F o a n) b c g j) (qC1 k' F' o a (qCk k' F' o a n') b c g j)
  unfold qC1
  exact rfB rfR λM=>rfT (c7_m hk _ _) λN=>rfI (rfT (q.c5 _ _) λO=>rfB rfR λQ=>rfB rfR λS=>rfT (qBs hk _ _) λu=>rfR) (rfB rfR λz=>rfT (c7_m hk _ _) λD=>rfI (rfR) (rfT rfR λE=>rfT (qBs hk _ _) λI=>rfB rfR λJ=>rfT (q.c5 _ _) λK=>ih _ _ _ _))
theorem c19B_m {k k':Nat} (hk:k≤k') {F F':Cns} (b:MonoC F F') (c:List Tkn):Rf (c19B k F c) (c19B k' F' c):=by
 unfold c19B
 exact rfB rfR λg=>rfB rfR λh=>rfT (c7_m hk _ _) λj=>rfI (rfR) (rfT (b.c5 _ _) λn=>rfJ (λx=>rfI (rfT (b.c30 _ _ _ _ _ _ _ _) λo=>rfR) (qK hk b  _ _ _ _ _ _ _ _ hk)) (λz q a=>rfI (rfT (c7_m hk _ _) λu=>a _) (a _)))
theorem qJz {k k' : Nat} (hk : k ≤ k') {F F' : Cns} (D : MonoC F F')  (a0 : Int) (j : LN) (o : Bool) (q : LL) (u : LL) (z : LN) (a : Bool) : ∀ (n n' : Nat) (b : LL) (c : (List Tkn)) (g : (List S28)), n ≤ n' → Rf (qCj k F a0 j o q u z a n b c g) (qCj k' F' a0 j o q u z a n' b c g)
 | 0,_,_,_,_,_=>λx e=>nomatch (show none=some x from e)
 | n+1,0,_,_,_,h=>by omega
 | n+1,n'+1,b,c,g,h=>by
  have ih:=λQ S w2=>qJz hk D a0 j o q u z a n n' Q S w2 (Nat.le_of_succ_le_succ h)
  show Rf (qC0 k F a0 j o q u z a (qCj k F a0 j o q u z a n) b c g) (qC0 k' F' a0 j o q u z a (qCj k' F' a0 j o q u z a n') b c g)
  unfold qC0
  exact rfT (D.c31 _) λE=>rfB rfR λI=>rfB rfR λJ=>rfT (c7_m hk _ _) λK=>rfI (rfR) (rfT rfR λM=>rfT (qBs hk _ _) λN=>rfB rfR λO=>ih _ _ _)
theorem c20B_m {k k':Nat} (hk:k≤k') {F F':Cns} (z:MonoC F F') (a0:Int) (a:LN) (b:Bool) (c:Bool) (g:LL) (h:LL) (j:LN) (n:List Tkn) (o:List S28):Rf (c20B k F a0 a b c g h j n o) (c20B k' F' a0 a b c g h j n o):=by
 unfold c20B
 exact rfB rfR λq=>rfB rfR λu=>rfT (c7_m hk _ _) λx=>rfI (rfR) (qJz hk z  _ _ _ _ _ _ _ _ _ _ _ _ hk)
theorem qJy {k k' : Nat} (hk : k ≤ k') {F F' : Cns} (D : MonoC F F')  (a0 : Int) (j : LN) (o : Bool) (q : LL) (u : LL) (z : LN) (a : Bool) : ∀ (n n' : Nat) (b : LL) (c : (List Tkn)) (g : (List S28)), n ≤ n' → Rf (qCi k F a0 j o q u z a n b c g) (qCi k' F' a0 j o q u z a n' b c g)
 | 0,_,_,_,_,_=>λx e=>nomatch (show none=some x from e)
 | n+1,0,_,_,_,h=>by omega
 | n+1,n'+1,b,c,g,h=>by
  have ih:=λQ S w2=>qJy hk D a0 j o q u z a n n' Q S w2 (Nat.le_of_succ_le_succ h)
  show Rf (qC k F a0 j o q u z a (qCi k F a0 j o q u z a n) b c g) (qC k' F' a0 j o q u z a (qCi k' F' a0 j o q u z a n') b c g)
  unfold qC
  exact rfT (D.c32 _) λE=>rfB rfR λI=>rfB rfR λJ=>rfT (c7_m hk _ _) λK=>rfI (rfR) (rfT rfR λM=>rfT (qBs hk _ _) λN=>rfB rfR λO=>ih _ _ _)
theorem c21B_m {k k':Nat} (hk:k≤k') {F F':Cns} (z:MonoC F F') (a0:Int) (a:LN) (b:Bool) (c:Bool) (g:LL) (h:LL) (j:LN) (n:List Tkn) (o:List S28):Rf (c21B k F a0 a b c g h j n o) (c21B k' F' a0 a b c g h j n o):=by
 unfold c21B
 exact rfB rfR λq=>rfB rfR λu=>rfT (c7_m hk _ _) λx=>rfI (rfR) (qJy hk z  _ _ _ _ _ _ _ _ _ _ _ _ hk)
theorem c24B_m {k k':Nat} (hk:k≤k') {F F':Cns} (a:MonoC F F') (o:List Tkn):Rf (c24B k F o) (c24B k' F' o):=by
 unfold c24B
 exact rfT (c7_m hk _ _) λq=>rfI (rfB (qSo hk _ _) λu=>rfI (rfT (a.c34 _) λx=>rfR) (rfT (c35_m hk _) λz=>rfR)) (rfT (c7_m hk _ _) λD=>rfI (rfT (a.c5 _ _) λE=>rfT (qBs hk _ _) λI=>rfT (a.c36 _ _ _ _ _ _ _ _) λJ=>rfR) (rfT (c7_m hk _ _) λK=>rfI (rfT (a.c37 _ _ _ _ _ _ _ _) λM=>rfR) (rfT (c7_m hk _ _) λb=>rfI (rfT (a.c38 _) λc=>rfR) (rfT (qBs hk _ _) λg=>rfT (a.c6 _) λh=>rfB rfR λj=>rfT (qBs hk _ _) λn=>rfR))))
theorem c25B_m {k k':Nat} (hk:k≤k') {F F':Cns} (h:MonoC F F') (a:List Tkn):Rf (c25B k F a) (c25B k' F' a):=by
 unfold c25B
 exact rfT (c7_m hk _ _) λb=>rfI (rfT (h.c17 _) λc=>rfR) (rfT (qSn hk _) λg=>rfR)
theorem c26B_m {k k':Nat} (hk:k≤k') {F F':Cns} (a:MonoC F F') (a0:S28) (b:List Tkn):Rf (c26B k F a0 b) (c26B k' F' a0 b):=by
 unfold c26B
 exact rfT (c7_m hk _ _) λc=>rfI (rfT (a.c21 _ _ _ _ _ _ _ _ _) λg=>rfR) (rfT (qSn hk _) λh=>rfT (c7_m hk _ _) λj=>rfI (rfB rfR λn=>rfT (qSm hk _ _) λo=>rfB rfR λq=>rfR) (rfT (qBs hk _ _) λu=>rfT (a.c18 _ _ _ _ _ _ _ _ _) λx=>rfR))
theorem c29B_m {k k':Nat} (hk:k≤k') {F F':Cns} (c:MonoC F F') (a:List Tkn):Rf (c29B k F a) (c29B k' F' a):=by
 unfold c29B
 exact rfT (c.c5 _ _) λb=>rfR
theorem qNt {k k' : Nat} (hk : k ≤ k') {F F' : Cns} (N : MonoC F F') {o j : (List Tkn) → (List S28) → Option (Option (Int × LN × Bool × Bool × LL × LL × (List Tkn) × (List S28)))} (hkj7 : ∀ O Q, Rf (o O Q) (j O Q)) (a0 : Int) (u : LN) (z : Bool) (D : Bool) (E : LL) (I : LL) (J : (List Tkn)) (K : (List S28)) (a : (S28 × (List Tkn))) : ∀ (n n' : Nat) (b : Int) (c : (List Tkn)) (g : (List S28)), n ≤ n' → Rf (qDj k F o a0 u z D E I J K a n b c g) (qDj k' F' j a0 u z D E I J K a n' b c g)
 | 0,_,_,_,_,_=>λx e=>nomatch (show none=some x from e)
 | n+1,0,_,_,_,h=>by omega
 | n+1,n'+1,b,c,g,h=>by
  have ih:=λw0 w1 w2=>qNt hk N hkj7 a0 u z D E I J K a n n' w0 w1 w2 (Nat.le_of_succ_le_succ h)
  show Rf (qD2 k F o a0 u z D E I J K a (qDj k F o a0 u z D E I J K a n) b c g) (qD2 k' F' j a0 u z D E I J K a (qDj k' F' j a0 u z D E I J K a n') b c g)
  unfold qD2
  exact rfJ (λb2=>rfB rfR λS=>rfT (c7_m hk _ _) λT=>rfI (rfR) (rfT (qBs hk _ _) λU=>hkj7 _ _)) (λb3 Y q=>rfI (rfB rfR λZ=>rfT (c7_m hk _ _) λa6=>rfJ (λz9=>rfT (N.c5 _ _) λa7=>q _) (λj9 b4 M=>rfI (M _) (ih _ _ _))) (q _))
theorem qNu {k k' : Nat} (hk : k ≤ k') {F F' : Cns} (D : MonoC F F')  (a0 : Int) (c : LN) (g : Bool) (j : Bool) (o : LL) (q : LL) (u : (List Tkn)) (z : (List S28)) : ∀ (n n' : Nat) (a : (List Tkn)) (b : (List S28)), n ≤ n' → Rf (qE9 k F a0 c g j o q u z n a b) (qE9 k' F' a0 c g j o q u z n' a b)
 | 0,_,_,_,_=>λx e=>nomatch (show none=some x from e)
 | n+1,0,_,_,h=>by omega
 | n+1,n'+1,a,b,h=>by
  have ih:=λI J=>qNu hk D a0 c g j o q u z n n' I J (Nat.le_of_succ_le_succ h)
  show Rf (qD3 k F a0 c g j o q u z (qE9 k F a0 c g j o q u z n) a b) (qD3 k' F' a0 c g j o q u z (qE9 k' F' a0 c g j o q u z n') a b)
  unfold qD3
  exact rfT (D.c5 _ _) λE=>qNt hk D ih _ _ _ _ _ _ _ _ _ _ _ _ _ _ hk
theorem c30B_m {k k':Nat} (hk:k≤k') {F F':Cns} (o:MonoC F F') (a0:Int) (a:LN) (b:Bool) (c:Bool) (g:LL) (h:LL) (j:List Tkn) (n:List S28):Rf (c30B k F a0 a b c g h j n) (c30B k' F' a0 a b c g h j n):=by
 unfold c30B
 exact qNu hk o  _ _ _ _ _ _ _ _ _ _ _ _ hk
theorem qJx {k k' : Nat} (hk : k ≤ k') {F F' : Cns} (E : MonoC F F') {j c : (LN × (List Tkn)) → Option (Option (S28 × (List Tkn)))} (hkj16 : ∀ D, Rf (j D) (c D)) (g : ((List Tkn) × S28)) : ∀ (n n' : Nat) (a : LN) (b : (List Tkn)), n ≤ n' → Rf (qCh k F j g n a b) (qCh k' F' c g n' a b)
 | 0,_,_,_,_=>λx e=>nomatch (show none=some x from e)
 | n+1,0,_,_,h=>by omega
 | n+1,n'+1,a,b,h=>by
  have ih:=λI J=>qJx hk E hkj16 g n n' I J (Nat.le_of_succ_le_succ h)
  show Rf (qBz k F j g (qCh k F j g n) a b) (qBz k' F' c g (qCh k' F' c g n') a b)
  unfold qBz
  exact rfT (c7_m hk _ _) λo=>rfI (rfB rfR λq=>rfT (qSm hk _ _) λu=>rfB rfR λz=>ih _ _) (hkj16 _)
theorem c31B_m {k k':Nat} (hk:k≤k') {F F':Cns} (g:MonoC F F') (o:List Tkn):Rf (c31B k F o) (c31B k' F' o):=by
 unfold c31B
 exact rfB rfR λq=>rfB rfR λu=>rfJ (λT=>rfT (c7_m hk _ _) λx=>rfJ (λU=>rfT (c7_m hk _ _) λz=>rfJ (λY=>rfI (rfR) (rfR)) (λZ D b=>rfI (rfB rfR λh=>rfT (qSm hk _ _) λj=>rfB rfR λn=>qJx hk g b _ _ _ _ _ hk) (b _))) (λa0 E c=>rfI (rfT (c39_m hk _) λI=>rfB rfR λJ=>c _) (c _))) (λa1 K a=>rfI (rfT rfR λM=>a _) (rfT (c7_m hk _ _) λN=>rfI (rfT (g.c17 _) λO=>a _) (rfT (qBs hk _ _) λQ=>rfT (g.c20 _ _ _ _ _ _ _ _ _) λS=>a _)))
theorem qNs {k k' : Nat} (hk : k ≤ k') {F F' : Cns} (j : MonoC F F')  (g : (List Tkn)) (a : (S28 × (List Tkn))) : ∀ (n n' : Nat) (b : Int) (c : (List Tkn)), n ≤ n' → Rf (qDi k F g a n b c) (qDi k' F' g a n' b c)
 | 0,_,_,_,_=>λx e=>nomatch (show none=some x from e)
 | n+1,0,_,_,h=>by omega
 | n+1,n'+1,b,c,h=>by
  have ih:=λz D=>qNs hk j g a n n' z D (Nat.le_of_succ_le_succ h)
  show Rf (qD1 k F g a (qDi k F g a n) b c) (qD1 k' F' g a (qDi k' F' g a n') b c)
  unfold qD1
  exact rfI (rfB rfR λo=>rfT (c7_m hk _ _) λq=>rfI (rfT (j.c5 _ _) λu=>rfR) (ih _ _)) (rfR)
theorem c32B_m {k k':Nat} (hk:k≤k') {F F':Cns} (a:MonoC F F') (b:List Tkn):Rf (c32B k F b) (c32B k' F' b):=by
 unfold c32B
 exact rfT (a.c5 _ _) λc=>qNs hk a  _ _ _ _ _ _ hk
theorem c34B_m {k k':Nat} (hk:k≤k') {F F':Cns} (h:MonoC F F') (a:List Tkn):Rf (c34B k F a) (c34B k' F' a):=by
 unfold c34B
 exact rfT (h.c40 _ _) λb=>rfB rfR λc=>rfT (qBs hk _ _) λg=>rfR
theorem c36B_m {k k':Nat} (hk:k≤k') {F F':Cns} (D:MonoC F F') (a0:Int) (a:LN) (b:Bool) (c:Bool) (g:LL) (h:LL) (j:List Tkn) (n:List S28):Rf (c36B k F a0 a b c g h j n) (c36B k' F' a0 a b c g h j n):=by
 unfold c36B
 exact rfB rfR λo=>rfT (D.c41 _ _) λq=>rfB rfR λu=>rfB rfR λx=>rfT (qBs hk _ _) λz=>rfR
theorem c37B_m {k k':Nat} (hk:k≤k') {F F':Cns} (D:MonoC F F') (a0:Int) (a:LN) (b:Bool) (c:Bool) (g:LL) (h:LL) (j:List Tkn) (n:List S28):Rf (c37B k F a0 a b c g h j n) (c37B k' F' a0 a b c g h j n):=by
 unfold c37B
 exact rfB rfR λo=>rfT (D.c42 _ _) λq=>rfB rfR λu=>rfB rfR λx=>rfT (qBs hk _ _) λz=>rfR
theorem c38B_m {k k':Nat} (hk:k≤k') {F F':Cns} (b:MonoC F F') (o:List Tkn):Rf (c38B k F o) (c38B k' F' o):=by
 unfold c38B
 exact rfB rfR λq=>rfB (qSo hk _ _) λu=>rfI (rfT (b.c43 _ _) λx=>rfB rfR λz=>rfT (c7_m hk _ _) λc=>rfI (rfT (b.c5 _ _) λg=>rfT (b.c47 _ _ _ _) λh=>rfB rfR λj=>rfB rfR λn=>rfT (qBs hk _ _) λa=>rfR) (rfT (qBs hk _ _) λa=>rfR)) (rfT (c7_m hk _ _) λc=>rfI (rfT (b.c5 _ _) λg=>rfT (b.c47 _ _ _ _) λh=>rfB rfR λj=>rfB rfR λn=>rfT (qBs hk _ _) λa=>rfR) (rfT (qBs hk _ _) λa=>rfR))
theorem qNr {k k' : Nat} (hk : k ≤ k') {F F' : Cns} (g : MonoC F F')   : ∀ (n n' : Nat) (a : LL) (b : (List Tkn)) (c : (List S28)), n ≤ n' → Rf (qE8 k F n a b c) (qE8 k' F' n' a b c)
 | 0,_,_,_,_,_=>λx e=>nomatch (show none=some x from e)
 | n+1,0,_,_,_,h=>by omega
 | n+1,n'+1,a,b,c,h=>by
  have ih:=λz D w2=>qNr hk g  n n' z D w2 (Nat.le_of_succ_le_succ h)
  show Rf (qD0 k F (qE8 k F n) a b c) (qD0 k' F' (qE8 k' F' n') a b c)
  unfold qD0
  exact rfT (g.c44 _) λj=>rfB rfR λo=>rfT (c7_m hk _ _) λq=>rfI (rfB rfR λu=>ih _ _ _) (rfR)
theorem c40B_m {k k':Nat} (hk:k≤k') {F F':Cns} (b:MonoC F F') (a0:LL) (a:List Tkn):Rf (c40B k F a0 a) (c40B k' F' a0 a):=by
 unfold c40B
 exact qNr hk b   _ _ _ _ _ hk
theorem qNq {k k' : Nat} (hk : k ≤ k') {F F' : Cns} (g : MonoC F F')   : ∀ (n n' : Nat) (a : LL) (b : (List Tkn)) (c : (List S28)), n ≤ n' → Rf (qE7 k F n a b c) (qE7 k' F' n' a b c)
 | 0,_,_,_,_,_=>λx e=>nomatch (show none=some x from e)
 | n+1,0,_,_,_,h=>by omega
 | n+1,n'+1,a,b,c,h=>by
  have ih:=λz D w2=>qNq hk g  n n' z D w2 (Nat.le_of_succ_le_succ h)
  show Rf (qD k F (qE7 k F n) a b c) (qD k' F' (qE7 k' F' n') a b c)
  unfold qD
  exact rfT (g.c45 _) λj=>rfB rfR λo=>rfT (c7_m hk _ _) λq=>rfI (rfB rfR λu=>ih _ _ _) (rfR)
theorem c41B_m {k k':Nat} (hk:k≤k') {F F':Cns} (b:MonoC F F') (a0:LL) (a:List Tkn):Rf (c41B k F a0 a) (c41B k' F' a0 a):=by
 unfold c41B
 exact qNq hk b   _ _ _ _ _ hk
theorem qNp {k k' : Nat} (hk : k ≤ k') {F F' : Cns} (g : MonoC F F')   : ∀ (n n' : Nat) (a : LL) (b : (List Tkn)) (c : (List S28)), n ≤ n' → Rf (qE6 k F n a b c) (qE6 k' F' n' a b c)
 | 0,_,_,_,_,_=>λx e=>nomatch (show none=some x from e)
 | n+1,0,_,_,_,h=>by omega
 | n+1,n'+1,a,b,c,h=>by
  have ih:=λz D w2=>qNp hk g  n n' z D w2 (Nat.le_of_succ_le_succ h)
  show Rf (qCz k F (qE6 k F n) a b c) (qCz k' F' (qE6 k' F' n') a b c)
  unfold qCz
  exact rfT (g.c46 _) λj=>rfB rfR λo=>rfT (c7_m hk _ _) λq=>rfI (rfB rfR λu=>ih _ _ _) (rfR)
theorem c42B_m {k k':Nat} (hk:k≤k') {F F':Cns} (b:MonoC F F') (a0:LL) (a:List Tkn):Rf (c42B k F a0 a) (c42B k' F' a0 a):=by
 unfold c42B
 exact qNp hk b   _ _ _ _ _ hk
theorem qNo {k k' : Nat} (hk : k ≤ k') {F F' : Cns} (g : MonoC F F')   : ∀ (n n' : Nat) (a : LL) (b : (List Tkn)) (c : (List S28)), n ≤ n' → Rf (qE5 k F n a b c) (qE5 k' F' n' a b c)
 | 0,_,_,_,_,_=>λx e=>nomatch (show none=some x from e)
 | n+1,0,_,_,_,h=>by omega
 | n+1,n'+1,a,b,c,h=>by
  have ih:=λz D w2=>qNo hk g  n n' z D w2 (Nat.le_of_succ_le_succ h)
  show Rf (qCy k F (qE5 k F n) a b c) (qCy k' F' (qE5 k' F' n') a b c)
  unfold qCy
  exact rfT (g.c45 _) λj=>rfB rfR λo=>rfT (c7_m hk _ _) λq=>rfI (rfB rfR λu=>ih _ _ _) (rfR)
theorem c43B_m {k k':Nat} (hk:k≤k') {F F':Cns} (b:MonoC F F') (a0:LL) (a:List Tkn):Rf (c43B k F a0 a) (c43B k' F' a0 a):=by
 unfold c43B
 exact qNo hk b   _ _ _ _ _ hk
theorem c44B_m {k k':Nat} (hk:k≤k') {F F':Cns} (c:MonoC F F') (a:List Tkn):Rf (c44B k F a) (c44B k' F' a):=by
 unfold c44B
 exact rfT (c.c48 _ _) λb=>rfR
theorem c45B_m {k k':Nat} (hk:k≤k') {F F':Cns} (a:MonoC F F') (b:List Tkn):Rf (c45B k F b) (c45B k' F' b):=by
 unfold c45B
 exact rfT (a.c5 _ _) λc=>rfT (a.c49 _) λg=>rfT (a.c47 _ _ _ _) λh=>rfR
theorem c46B_m {k k':Nat} (hk:k≤k') {F F':Cns} (a:MonoC F F') (b:List Tkn):Rf (c46B k F b) (c46B k' F' b):=by
 unfold c46B
 exact rfT (a.c50 _) λc=>rfT (a.c47 _ _ _ _) λg=>rfR
theorem c47B_m {k k':Nat} (hk:k≤k') {F F':Cns} (n:MonoC F F') (a0:LN) (a:S28) (b:S28) (c:List Tkn):Rf (c47B k F a0 a b c) (c47B k' F' a0 a b c):=by
 unfold c47B
 exact rfT (qBs hk _ _) λg=>rfB rfR λh=>rfT (n.c6 _) λj=>rfR
theorem c48B_m {k k':Nat} (hk:k≤k') {F F':Cns} (a:MonoC F F') (a0:LN) (b:List Tkn):Rf (c48B k F a0 b) (c48B k' F' a0 b):=by
 unfold c48B
 exact rfT (a.c51 _) λc=>rfT (a.c49 _) λg=>rfT (a.c47 _ _ _ _) λh=>rfR
theorem c49B_m {k k':Nat} (hk:k≤k') {F F':Cns} (g:MonoC F F') (a:List Tkn):Rf (c49B k F a) (c49B k' F' a):=by
 unfold c49B
 exact rfT (c7_m hk _ _) λb=>rfI (rfT (g.c50 _) λc=>rfR) (rfR)
theorem qNn {k k' : Nat} (hk : k ≤ k') {F F' : Cns} (g : MonoC F F')  (c : (List Tkn)) : ∀ (n n' : Nat) (a : (List Tkn)) (b : (List S28)), n ≤ n' → Rf (qE4 k F c n a b) (qE4 k' F' c n' a b)
 | 0,_,_,_,_=>λx e=>nomatch (show none=some x from e)
 | n+1,0,_,_,h=>by omega
 | n+1,n'+1,a,b,h=>by
  have ih:=λu z=>qNn hk g c n n' u z (Nat.le_of_succ_le_succ h)
  show Rf (qCx k F c (qE4 k F c n) a b) (qCx k' F' c (qE4 k' F' c n') a b)
  unfold qCx
  exact rfT (c7_m hk _ _) λj=>rfI (rfT (g.c52 _) λo=>rfB rfR λq=>ih _ _) (rfR)
theorem c50B_m {k k':Nat} (hk:k≤k') {F F':Cns} (a:MonoC F F') (b:List Tkn):Rf (c50B k F b) (c50B k' F' b):=by
 unfold c50B
 exact rfT (a.c52 _) λc=>qNn hk a  _ _ _ _ _ hk
theorem c51B_m {k k':Nat} (hk:k≤k') {F F':Cns} (g:MonoC F F') (a:List Tkn):Rf (c51B k F a) (c51B k' F' a):=by
 unfold c51B
 exact rfT (qBs hk _ _) λb=>rfT (g.c18 _ _ _ _ _ _ _ _ _) λc=>rfR
theorem qNm {k k' : Nat} (hk : k ≤ k') {F F' : Cns} (g : MonoC F F')  (c : (List Tkn)) : ∀ (n n' : Nat) (a : (List Tkn)) (b : (List S28)), n ≤ n' → Rf (qE3 k F c n a b) (qE3 k' F' c n' a b)
 | 0,_,_,_,_=>λx e=>nomatch (show none=some x from e)
 | n+1,0,_,_,h=>by omega
 | n+1,n'+1,a,b,h=>by
  have ih:=λu z=>qNm hk g c n n' u z (Nat.le_of_succ_le_succ h)
  show Rf (qCw k F c (qE3 k F c n) a b) (qCw k' F' c (qE3 k' F' c n') a b)
  unfold qCw
  exact rfT (c7_m hk _ _) λj=>rfI (rfT (g.c5 _ _) λo=>rfB rfR λq=>ih _ _) (rfR)
theorem c52B_m {k k':Nat} (hk:k≤k') {F F':Cns} (a:MonoC F F') (b:List Tkn):Rf (c52B k F b) (c52B k' F' b):=by
 unfold c52B
 exact rfT (a.c5 _ _) λc=>qNm hk a  _ _ _ _ _ hk
theorem cpar_m : ∀ (n n' : Nat) {K K' : Nat}, K ≤ K' → n ≤ n' → MonoC (cpar K n) (cpar K' n')
 | 0,n',K,K',hK,h=>by constructor <;> intros <;> exact λx e=>nomatch (show none=some x from e)
 | n+1,0,K,K',hK,h=>by omega
 | n+1,n'+1,K,K',hK,h=>by
  have a:=cpar_m n n' hK (Nat.le_of_succ_le_succ h)
  have hk:K+n≤K'+n':=by omega
  exact ⟨c5B_m hk a,c6B_m hk a,c8B_m hk a,c13B_m hk a,c14B_m hk a,c17B_m hk a,c18B_m hk a,c19B_m hk a,c20B_m hk a,c21B_m hk a,c24B_m hk a,c25B_m hk a,c26B_m hk a,c29B_m hk a,c30B_m hk a,c31B_m hk a,c32B_m hk a,c34B_m hk a,c36B_m hk a,c37B_m hk a,c38B_m hk a,c40B_m hk a,c41B_m hk a,c42B_m hk a,c43B_m hk a,c44B_m hk a,c45B_m hk a,c46B_m hk a,c47B_m hk a,c48B_m hk a,c49B_m hk a,c50B_m hk a,c51B_m hk a,c52B_m hk a⟩
end Go.Proofs.Ythpplbkobokghaa.Am
set_option maxRecDepth 100000
set_option linter.unusedVariables false
namespace Go.Proofs.Ythpplbkobokghaa.Am
noncomputable section
open Go
def Xg60:Fx Bool:=⟨Try.prog,cx,Try.f60,λr => .bool r,0,λ_=>H0,cxTi,cxOrd,λ_=>none,false⟩
def g60 (k:Nat) (a0:Int):Option Bool :=
 if (decide (48≤a0)) then (some (decide (a0≤57))) else (some false)
theorem qRk (k:Nat) (a0:Int) (r:Bool) (h:g60 k a0=some r):PureOk Try.prog 60 [.y a0] (.bool r):=by
 refine qA4 Xg60 (λ_=>⟨rfl,rfl⟩) Try.func60 (by decide +kernel) Kr (t:=g60 k a0) ?_ h
 unfold g60
 refine qA (eE:=[(0,.y a0)]) Kr ?_
 refine oH 9 (atN 3 (ctl1 (nav [0,0,0] (nav [0] (bodyAt Try.f60))))) [(5,.bool (decide (48≤a0))),(4,.bool (decide (48≤a0))),(3,.y a0),(2,.bool false),(0,.y a0)] (mkH []) ?_
 refine oS 5 (λa=>?_) (λa=>?_)
 ·exact oQ 6
 ·exact oQ 6
def Xg38:Fx Int:=⟨Try.prog,cx,Try.f38,λr => .i r,0,λ_=>H0,cxTi,cxOrd,λ_=>none,false⟩
def g38p1:Pt:=nav [0,0,0,0,0] (nav [0] (bodyAt Try.f38))
def g38p2:Pt:=nav [0,0] g38p1
def g38p4:Pt:=nav [2,0] g38p2
def g38p6:Pt:=nav [0,0] g38p4
def g38p8:Pt:=nav [2,0] g38p6
def g38 (k:Nat) (a0:Int):Option Int :=
 jn (λ(g:Bool)=>if g then (some (1:Int)) else (jn (λ(h:Bool)=>if h then (some (2:Int)) else ((g60 k a0).bind λa=>if a then (some (3:Int)) else (some (0:Int)))) (λb=>if (decide (65≤a0)) then (if (decide (a0≤90)) then (b true) else (b (decide (a0=95)))) else (b (decide (a0=95)))))) (λc=>if (decide (97≤a0)) then (c (decide (a0≤122))) else (c false))
theorem qRt (k:Nat) (a0:Int) (r:Int) (h:g38 k a0=some r):PureOk Try.prog 38 [.y a0] (.i r):=by
 refine qA4 Xg38 (λ_=>⟨rfl,rfl⟩) Try.func38 (by decide +kernel) Kr (t:=g38 k a0) ?_ h
 unfold g38
 refine qA (eE:=[(0,.y a0)]) Kr ?_
 refine oH 11 (atN 3 (ctl1 g38p1)) [(6,.bool (decide (97≤a0))),(5,.bool (decide (97≤a0))),(4,.y a0),(2,.i 0),(0,.y a0)] (mkH []) ?_
 refine oJ g38p2 (λ(n:Bool)=>[(0,.y a0),(3,.bool n)]) (λ(n:Bool)=>(mkH [])) (λn=>?_) (λu g=>?_)
 ·refine oS 3 (λb=>?_) (λb=>?_)
  ·exact oQ 6
  ·let q:Env:=[(13,.bool (decide (65≤a0))),(12,.bool (decide (65≤a0))),(11,.y a0),(3,.bool false),(0,.y a0),(3,.bool n)]
   refine oH 6 (atN 3 (ctl1 g38p4)) q (mkH []) ?_
   refine oJ g38p6 (λ(j:Bool)=>[(0,.y a0),(10,.bool j)]) (λ(j:Bool)=>(mkH [])) (λj=>?_) (λx c=>?_)
   ·refine oS 10 (λb=>?_) (λb=>?_)
    ·exact oQ 6
    ·refine oH 4 (atN 1 (ctl1 g38p8)) [(22,.y a0),(10,.bool false),(0,.y a0),(10,.bool j)] (mkH []) ?_
     refine oA (λ(a:Bool) => .bool a) (atN 2 (ctl1 g38p8)) 23 [.y a0] (qRk k a0) λa o=>?_
     refine oR 2 (nav [0,0] g38p8) [(21,.bool a),(23,.bool a),(22,.y a0),(10,.bool false),(0,.y a0),(10,.bool j)] ?_
     refine oS 21 (λb=>?_) (λb=>?_)
     ·exact oQ 6
     ·exact oQ 7
   ·refine oS 13 (λb=>?_) (λb=>?_)
    ·refine oH 4 (atN 7 (ctl1 g38p4)) ((17,.bool (decide (a0≤90)))::(16,.bool (decide (a0≤90)))::(15,.bool (decide (a0≤90)))::(14,.y a0)::(13,.bool true)::q) (mkH []) ?_
     refine oS 17 (λb=>?_) (λb=>?_)
     ·refine oL 5 g38p6 [(0,.y a0),(10,.bool true)] ?_
      exact c true
     ·refine oL 5 g38p6 [(0,.y a0),(10,.bool (decide (a0=95)))] ?_
      exact c (decide (a0=95))
    ·refine oLH 9 g38p6 [(0,.y a0),(10,.bool (decide (a0=95)))] (mkH []) ?_
     exact c (decide (a0=95))
 ·refine oS 6 (λb=>?_) (λb=>?_)
  ·refine oLH 5 g38p2 [(0,.y a0),(3,.bool (decide (a0≤122)))] (mkH []) ?_
   exact g (decide (a0≤122))
  ·refine oLH 5 g38p2 [(0,.y a0),(3,.bool false)] (mkH []) ?_
   exact g false
def Xg44:Fx Bool:=⟨Try.prog,cx,Try.f44,λr => .bool r,0,λ_=>H0,cxTi,cxOrd,λ_=>none,false⟩
def g44p1:Pt:=nav [0,0,0] (nav [0] (bodyAt Try.f44))
def g44 (k:Nat) (a0:Int):Option Bool :=
 if (decide (97≤a0)) then (if (decide (a0≤122)) then (some true) else (if (decide (65≤a0)) then (some (decide (a0≤90))) else (some false))) else (if (decide (65≤a0)) then (some (decide (a0≤90))) else (some false))
theorem g44_ok (k:Nat) (a0:Int) (r:Bool) (h:g44 k a0=some r):PureOk Try.prog 44 [.y a0] (.bool r):=by
 refine qA4 Xg44 (λ_=>⟨rfl,rfl⟩) Try.func44 (by decide +kernel) Kr (t:=g44 k a0) ?_ h
 unfold g44
 refine qA (eE:=[(0,.y a0)]) Kr ?_
 let b:Env:=[(5,.bool (decide (97≤a0))),(4,.bool (decide (97≤a0))),(3,.y a0),(2,.bool false),(0,.y a0)]
 refine oH 9 (atN 3 (ctl1 g44p1)) b (mkH []) ?_
 refine oS 5 (λa=>?_) (λa=>?_)
 ·let c:Env:=((9,.bool (decide (a0≤122)))::(8,.bool (decide (a0≤122)))::(7,.bool (decide (a0≤122)))::(6,.y a0)::(5,.bool true)::b)
  refine oR 4 (atN 7 (ctl1 g44p1)) c ?_
  refine oS 9 (λa=>?_) (λa=>?_)
  ·exact oQ 10
  ·refine oR 3 (atN 10 (ctl1 g44p1)) ((12,.bool (decide (65≤a0)))::(11,.bool (decide (65≤a0)))::(10,.y a0)::(9,.bool false)::c) ?_
   refine oS 12 (λa=>?_) (λa=>?_)
   ·exact oQ 7
   ·exact oQ 7
 ·refine oR 7 (atN 10 (ctl1 g44p1)) ((12,.bool (decide (65≤a0)))::(11,.bool (decide (65≤a0)))::(10,.y a0)::(9,.bool false)::(8,.bool false)::(7,.tuple [])::(6,.tuple [])::(5,.bool false)::b) ?_
  refine oS 12 (λa=>?_) (λa=>?_)
  ·exact oQ 7
  ·exact oQ 7
def Xg63:Fx Bool:=⟨Try.prog,cx,Try.f63,λr => .bool r,0,λ_=>H0,cxTi,cxOrd,λ_=>none,false⟩
def g63p1:Pt:=nav [0,0,0] (nav [0] (bodyAt Try.f63))
def g63 (k:Nat) (a0:Int):Option Bool :=
 (g44 k a0).bind λa=>if a then (some true) else ((g60 k a0).bind λb=>if b then (some true) else (if (decide (a0=95)) then (some true) else (some (decide (a0=64)))))
theorem g63_ok (k:Nat) (a0:Int) (r:Bool) (h:g63 k a0=some r):PureOk Try.prog 63 [.y a0] (.bool r):=by
 refine qA4 Xg63 (λ_=>⟨rfl,rfl⟩) Try.func63 (by decide +kernel) Kr (t:=g63 k a0) ?_ h
 unfold g63
 refine qA (eE:=[(0,.y a0)]) Kr ?_
 refine oH 7 (atN 1 (ctl1 g63p1)) [(3,.y a0),(2,.bool false),(0,.y a0)] (mkH []) ?_
 refine oA (λ(b:Bool) => .bool b) (atN 2 (ctl1 g63p1)) 4 [.y a0] (g44_ok k a0) λb g=>?_
 let j:Env:=[(5,.bool b),(4,.bool b),(3,.y a0),(2,.bool false),(0,.y a0)]
 refine oR 1 (atN 3 (ctl1 g63p1)) j ?_
 refine oS 5 (λc=>?_) (λc=>?_)
 ·exact oQ 14
 ·refine oR 1 (atN 4 (ctl1 g63p1)) ((6,.y a0)::(5,.bool false)::j) ?_
  refine oA (λ(a:Bool) => .bool a) (atN 5 (ctl1 g63p1)) 7 [.y a0] (qRk k a0) λa n=>?_
  let o:Env:=((9,.bool a)::(8,.bool a)::(7,.bool a)::(6,.y a0)::(5,.bool false)::j)
  refine oR 2 (atN 7 (ctl1 g63p1)) o ?_
  refine oS 9 (λc=>?_) (λc=>?_)
  ·exact oQ 10
  ·refine oR 4 (atN 11 (ctl1 g63p1)) ((13,.bool (decide (a0=95)))::(12,.bool (decide (a0=95)))::(11,.bool (decide (a0=95)))::(10,.y a0)::(9,.bool false)::o) ?_
   refine oS 13 (λc=>?_) (λc=>?_)
   ·exact oQ 6
   ·exact oQ 6
def Xg41:Fx Bool:=⟨Try.prog,cx,Try.f41,λr => .bool r,0,λ_=>H0,cxTi,cxOrd,λ_=>none,false⟩
def g41c0:LN:=[97,102,116,101,114]
def g41c1:LN:=[97,110,100,97,108,115,111]
def g41c2:LN:=[98,101,103,105,110]
def g41c3:LN:=[111,114,101,108,115,101]
def g41c4:LN:=[114,101,99,101,105,118,101]
def g41c5:LL:=[g41c0,([97,110,100]:LN),g41c1,([98,97,110,100]:LN),g41c2,([98,110,111,116]:LN),([98,111,114]:LN),([98,115,108]:LN),([98,115,114]:LN),([98,120,111,114]:LN),([99,97,115,101]:LN),([99,97,116,99,104]:LN),([100,105,118]:LN),([101,110,100]:LN),([102,117,110]:LN),([105,102]:LN),([110,111,116]:LN),([111,102]:LN),([111,114]:LN),g41c3,g41c4,([114,101,109]:LN),([119,104,101,110]:LN),([120,111,114]:LN)]
def g41p1:Pt:=nav [0,0,0] (nav [0] (bodyAt Try.f41))
def g41p3:Pt:=nav [0,0,0,0] (nav [0,0,0,0] g41p1)
def g41p5:Pt:=nav [0,0] (nav [0,0,0] g41p3)
def g41p6:Pt:=nav [1,0,0,0,0] g41p5
def qKt (k:Nat)  (a0:LN) (ih:Int→Option Bool):Int→Option Bool :=
 λ(a:Int)=>if (decide (a < (g41c5.length:Int))) then ((nthL g41c5 a).bind λb=>if (eqL b a0) then (some true) else (ih (fW .i64 (a+1)))) else (some false)
def qHg (k:Nat)  (a0:LN) (n:Nat):Int→Option Bool:=lp (λ_=>none) (qKt k a0) n
theorem g41_l1_s (k:Nat)  (a0:LN) (n:Nat) (a:Int):qHg k a0 (n+1) a=(if (decide (a < (g41c5.length:Int))) then ((nthL g41c5 a).bind λb=>if (eqL b a0) then (some true) else ((qHg k a0 n) (fW .i64 (a+1)))) else (some false)):=rfl
theorem qRq (k:Nat)   (a0:LN)  : ∀ (n:Nat) (a:Int),Ok Xg41 g41p3 [(0,.str a0),(3,w9 g41c5),(4,.i a)] (mkH []) (qHg k a0 n a):=by
 intro n
 induction n with
 | zero=>intro a; exact ok_none
 | succ n ih =>
  intro a
  show Ok _ _ _ _ (qKt k a0 (qHg k a0 n) a)
  unfold qKt
  refine qAi (p':=nav [0] g41p3) Kr ?_
  let h:Env:=[(9,.bool (decide (a < (g41c5.length:Int)))),(8,.i (g41c5.length:Int)),(7,w9 g41c5),(6,.i a),(0,.str a0),(3,w9 g41c5),(4,.i a)]
  refine oH 8 g41p5 h (mkH []) ?_
  refine oS 9 (λc=>?_) (λc=>?_)
  ·refine oR 8 (atN 2 (ctl1 g41p6)) ((13,.i a)::(12,w9 g41c5)::(9,.bool true)::h) ?_
   refine oC (λ(b:LN)=>(.vptr [.str b],(mkH []))) (atN 3 (ctl1 g41p6)) 14 (vidxH (sz:=1) qBx Kr) λb g=>?_
   refine oLH 4 (nav [0,0] g41p6) [(0,.str a0),(3,w9 g41c5),(4,.i a),(17,.bool (eqL b a0))] (mkH []) ?_
   refine oS 17 (λc=>?_) (λc=>?_)
   ·exact oQ 6
   ·refine oL 7 g41p3 [(0,.str a0),(3,w9 g41c5),(4,.i (fW .i64 (a+1)))] ?_
    exact ih (fW .i64 (a+1))
  ·exact oQ 7
def g41 (k:Nat) (a0:LN):Option Bool :=
 qHg k a0 k 0
theorem g41_ok (k:Nat) (a0:LN) (r:Bool) (h:g41 k a0=some r):PureOk Try.prog 41 [.str a0] (.bool r):=by
 refine qA4 Xg41 (λ_=>⟨rfl,rfl⟩) Try.func41 (by decide +kernel) Kr (t:=g41 k a0) ?_ h
 unfold g41
 refine qA (eE:=[(0,.str a0)]) Kr ?_
 refine oH 7 (atN 1 (ctl1 g41p1)) [(5,.slice 0 24 0 24 1),(2,.bool false),(0,.str a0)] (mkH [⟨[.str g41c0,.str [97,110,100],.str g41c1,.str [98,97,110,100],.str g41c2,.str [98,110,111,116],.str [98,111,114],.str [98,115,108],.str [98,115,114],.str [98,120,111,114],.str [99,97,115,101],.str [99,97,116,99,104],.str [100,105,118],.str [101,110,100],.str [102,117,110],.str [105,102],.str [110,111,116],.str [111,102],.str [111,114],.str g41c3,.str g41c4,.str [114,101,109],.str [119,104,101,110],.str [120,111,114]],0,false⟩]) ?_
 refine oZ 5 0 24 1 [.str g41c0,.str [97,110,100],.str g41c1,.str [98,97,110,100],.str g41c2,.str [98,110,111,116],.str [98,111,114],.str [98,115,108],.str [98,115,114],.str [98,120,111,114],.str [99,97,115,101],.str [99,97,116,99,104],.str [100,105,118],.str [101,110,100],.str [102,117,110],.str [105,102],.str [110,111,116],.str [111,102],.str [111,114],.str g41c3,.str g41c4,.str [114,101,109],.str [119,104,101,110],.str [120,111,114]] [0,2] [] trivial ?_
 refine oLH 9 g41p3 [(0,.str a0),(3,w9 g41c5),(4,.i 0)] (mkH [⟨[],0,false⟩]) ?_
 refine qAf [] [⟨[],0,false⟩] Kr rfl Kr trivial ?_
 exact (qRq k a0 k) 0
def Xg45:Fx Int:=⟨Try.prog,cx,Try.f45,λr => .i r,0,λ_=>H0,cxTi,cxOrd,λ_=>none,false⟩
def g45c0:LL:=[([61,58,61]:LN),([61,47,61]:LN),([60,60]:LN),([62,62]:LN),([45,62]:LN),([60,45]:LN),([60,61]:LN),([61,62]:LN),([58,61]:LN),([58,58]:LN),([61,61]:LN),([47,61]:LN),([61,60]:LN),([62,61]:LN),([124,124]:LN),([43,43]:LN),([45,45]:LN),([40]:LN),([41]:LN),([123]:LN),([125]:LN),([91]:LN),([93]:LN),([44]:LN),([59]:LN),([58]:LN),([61]:LN),([124]:LN),([33]:LN),([35]:LN),([43]:LN),([45]:LN),([42]:LN),([47]:LN),([60]:LN),([62]:LN),([46]:LN)]
def g45p1:Pt:=nav [0,0,0] (nav [0] (bodyAt Try.f45))
def g45p2:Pt:=nav [0,0,0,0] g45p1
def g45p3:Pt:=nav [0,0] g45p2
def g45p7:Pt:=nav [0,0,0,0] (nav [2,0,0,0] g45p3)
def g45p9:Pt:=nav [0,0] (nav [0,0,0] g45p7)
def g45p10:Pt:=nav [1,0,0,0,0] g45p9
def g45p12:Pt:=nav [0,0,0] g45p10
def g45d0:DP:=⟨[],[(0,0,0),(1,0,0),(0,0,0),(7,0,0),(0,0,0),(31,0,0),(63,0,0),(127,0,0),(127,0,0),(127,0,0),(127,0,0),(1663,0,0),(4095,0,0),(127,0,0),(127,0,0),(24703,0,0),(57471,0,0),(131071,0,0),(262143,0,0)],19,thrown,[],H0⟩
def qKr (k:Nat)  (a0:LN) (h:Int) (ih:Int→Option Int):Int→Option Int :=
 λ(a:Int)=>if (decide (a < (g45c0.length:Int))) then ((nthL g45c0 a).bind λb=>jn (λ(j:Bool×Int)=>if j.1 then (some (b.length:Int)) else (ih (fW .i64 (j.2+1)))) (λn=>if (decide ((b.length:Int)≤fW .i64 ((a0.length:Int) - h))) then ((subL a0 (some h) (some (fW .i64 (h+(b.length:Int))))).bind λc=>(nthL g45c0 a).bind λg=>n (eqL c g,a)) else (n (false,a)))) else (some (0:Int))
def qHf (k:Nat)  (a0:LN) (a:Int) (n:Nat):Int→Option Int:=lp (λ_=>none) (qKr k a0 a) n
theorem g45_l3_s (k:Nat)  (a0:LN) (h:Int) (n:Nat) (a:Int):qHf k a0 h (n+1) a=(if (decide (a < (g45c0.length:Int))) then ((nthL g45c0 a).bind λb=>jn (λ(j:Bool×Int)=>if j.1 then (some (b.length:Int)) else ((qHf k a0 h n) (fW .i64 (j.2+1)))) (λo=>if (decide ((b.length:Int)≤fW .i64 ((a0.length:Int) - h))) then ((subL a0 (some h) (some (fW .i64 (h+(b.length:Int))))).bind λc=>(nthL g45c0 a).bind λg=>o (eqL c g,a)) else (o (false,a)))) else (some (0:Int))):=rfl
theorem qRo (k:Nat)   (a0:LN) (h:Int)  : ∀ (n:Nat) (b:Int),Ok Xg45 g45p7 [(0,.str a0),(1,.i h),(5,w9 g45c0),(6,.i b)] (mkH []) (qHf k a0 h n b):=by
 intro n
 induction n with
 | zero=>intro b; exact ok_none
 | succ n ih =>
  intro b
  show Ok _ _ _ _ (qKr k a0 h (qHf k a0 h n) b)
  unfold qKr
  refine qAi (p':=nav [0] g45p7) Kr ?_
  let O:Env:=[(20,.bool (decide (b < (g45c0.length:Int)))),(19,.i (g45c0.length:Int)),(18,w9 g45c0),(17,.i b),(0,.str a0),(1,.i h),(5,w9 g45c0),(6,.i b)]
  refine oH 8 g45p9 O (mkH []) ?_
  refine oS 20 (λM=>?_) (λM=>?_)
  ·refine oR 8 (atN 2 (ctl1 g45p10)) ((24,.i b)::(23,w9 g45c0)::(20,.bool true)::O) ?_
   refine oC (λ(a:LN)=>(.vptr [.str a],(mkH []))) (atN 3 (ctl1 g45p10)) 25 (vidxH (sz:=1) qBx Kr) λa N=>?_
   refine oLH 5 g45p12 [(0,.str a0),(1,.i h),(5,w9 g45c0),(6,.i b),(7,.i (a.length:Int))] (mkH []) ?_
   refine oJ (nav [0] g45p12) (λ(E:Bool×Int)=>[(0,.str a0),(1,.i h),(5,w9 g45c0),(6,.i E.2),(7,.i (a.length:Int)),(46,.bool E.1)]) (λ(E:Bool×Int)=>(mkH [])) (λE=>?_) (λQ I=>?_)
   ·refine oS 46 (λM=>?_) (λM=>?_)
    ·exact oQ 7
    ·refine oLH 7 g45p7 [(0,.str a0),(1,.i h),(5,w9 g45c0),(6,.i (fW .i64 (E.2+1)))] (mkH []) ?_
     exact ih (fW .i64 (E.2+1))
   ·refine qGn (λu=>?_) (λu=>?_)
    ·refine qA9 (λc o=>?_)
     refine qA9 (λg q=>?_)
     let D:Env:=[(34,.bool (decide ((a.length:Int)≤fW .i64 ((a0.length:Int) - h)))),(33,.bool (decide ((a.length:Int)≤fW .i64 ((a0.length:Int) - h)))),(32,.i (a.length:Int)),(31,.i (fW .i64 ((a0.length:Int) - h))),(30,.i h),(29,.i (a0.length:Int)),(28,.str a0),(0,.str a0),(1,.i h),(5,w9 g45c0),(6,.i b),(7,.i (a.length:Int))]
     let j:Env:=[(39,.i (fW .i64 (h+(a.length:Int)))),(38,.i (a.length:Int)),(37,.i h),(36,.i h),(35,.str a0),(34,.bool true),(33,.bool true),(32,.i (a.length:Int)),(31,.i (fW .i64 ((a0.length:Int) - h))),(30,.i h),(29,.i (a0.length:Int)),(28,.str a0),(0,.str a0),(1,.i h),(5,w9 g45c0),(6,.i b),(7,.i (a.length:Int))]
     let J:Env:=((46,.bool (eqL c g))::(45,.bool (eqL c g))::(44,.str g)::(43,.vptr [.str g])::(42,.i b)::(41,w9 g45c0)::(40,.str c)::j)
     refine oD (H':=(mkH [])) (nav [0] g45p12) J [] g45d0 (oDr 7 7 D (oDe (λz=>[(34,.bool z),(33,.bool z),(32,.i (a.length:Int)),(31,.i (fW .i64 ((a0.length:Int) - h))),(30,.i h),(29,.i (a0.length:Int)),(28,.str a0),(0,.str a0),(1,.i h),(5,w9 g45c0),(6,.i b),(7,.i (a.length:Int))]) u (oDr 5 12 j (qAb (l':=(opsAt g45p12).toList.drop 13) (eE:=((40,.str c)::j)) (hs:=[]) (x:=c) (λ(c:LN)=>(.str c,(mkH []))) (subH (some h) (some (fW .i64 (h+(a.length:Int)))) Kr) o Kr (oDr 2 15 ((42,.i b)::(41,w9 g45c0)::(40,.str c)::j) (qAb (l':=(opsAt g45p12).toList.drop 16) (eE:=((43,.vptr [.str g])::(42,.i b)::(41,w9 g45c0)::(40,.str c)::j)) (hs:=[]) (x:=g) (λ(g:LN)=>(.vptr [.str g],(mkH []))) (vidxH (sz:=1) qBx Kr) q Kr (oDr 3 19 J .nil))))))) ?_
     refine oK [0,1,5,6,7,46] [(0,.str a0),(1,.i h),(5,w9 g45c0),(6,.i b),(7,.i (a.length:Int)),(46,.bool (eqL c g))] ?_
     exact I (eqL c g,b)
    ·let D:Env:=[(34,.bool (decide ((a.length:Int)≤fW .i64 ((a0.length:Int) - h)))),(33,.bool (decide ((a.length:Int)≤fW .i64 ((a0.length:Int) - h)))),(32,.i (a.length:Int)),(31,.i (fW .i64 ((a0.length:Int) - h))),(30,.i h),(29,.i (a0.length:Int)),(28,.str a0),(0,.str a0),(1,.i h),(5,w9 g45c0),(6,.i b),(7,.i (a.length:Int))]
     let K:Env:=[(46,.bool false),(45,.tuple []),(44,.tuple []),(43,.tuple []),(42,.tuple []),(41,.tuple []),(40,.tuple []),(39,.tuple []),(38,.tuple []),(37,.tuple []),(36,.tuple []),(35,.tuple []),(34,.bool false),(33,.bool false),(32,.i (a.length:Int)),(31,.i (fW .i64 ((a0.length:Int) - h))),(30,.i h),(29,.i (a0.length:Int)),(28,.str a0),(0,.str a0),(1,.i h),(5,w9 g45c0),(6,.i b),(7,.i (a.length:Int))]
     refine oD (H':=(mkH [])) (nav [0] g45p12) K [] g45d0 (oDr 7 7 D (oDe (λz=>[(34,.bool z),(33,.bool z),(32,.i (a.length:Int)),(31,.i (fW .i64 ((a0.length:Int) - h))),(30,.i h),(29,.i (a0.length:Int)),(28,.str a0),(0,.str a0),(1,.i h),(5,w9 g45c0),(6,.i b),(7,.i (a.length:Int))]) u (oDr 12 19 K .nil))) ?_
     refine oK [0,1,5,6,7,46] [(0,.str a0),(1,.i h),(5,w9 g45c0),(6,.i b),(7,.i (a.length:Int)),(46,.bool false)] ?_
     exact I (false,b)
  ·exact oQ 7
def g45 (k:Nat) (a0:LN) (a:Int):Option Int :=
 jn (λ(c:Bool)=>if c then (some (0:Int)) else (qHf k a0 a k 0)) (λb=>if (decide (a < 0)) then (b true) else (b (decide ((a0.length:Int) < a))))
theorem g45_ok (k:Nat) (a0:LN) (a:Int) (r:Int) (h:g45 k a0 a=some r):PureOk Try.prog 45 [.str a0,.i a] (.i r):=by
 refine qA4 Xg45 (λ_=>⟨rfl,rfl⟩) Try.func45 (by decide +kernel) Kr (t:=g45 k a0 a) ?_ h
 unfold g45
 refine qA (eE:=[(0,.str a0),(1,.i a)]) Kr ?_
 refine oH 7 (atN 1 (ctl1 g45p1)) [(8,.slice 0 37 0 37 1),(4,.i 0),(0,.str a0),(1,.i a)] (mkH [⟨[.str [61,58,61],.str [61,47,61],.str [60,60],.str [62,62],.str [45,62],.str [60,45],.str [60,61],.str [61,62],.str [58,61],.str [58,58],.str [61,61],.str [47,61],.str [61,60],.str [62,61],.str [124,124],.str [43,43],.str [45,45],.str [40],.str [41],.str [123],.str [125],.str [91],.str [93],.str [44],.str [59],.str [58],.str [61],.str [124],.str [33],.str [35],.str [43],.str [45],.str [42],.str [47],.str [60],.str [62],.str [46]],0,false⟩]) ?_
 refine oZ 8 0 37 1 [.str [61,58,61],.str [61,47,61],.str [60,60],.str [62,62],.str [45,62],.str [60,45],.str [60,61],.str [61,62],.str [58,61],.str [58,58],.str [61,61],.str [47,61],.str [61,60],.str [62,61],.str [124,124],.str [43,43],.str [45,45],.str [40],.str [41],.str [123],.str [125],.str [91],.str [93],.str [44],.str [59],.str [58],.str [61],.str [124],.str [33],.str [35],.str [43],.str [45],.str [42],.str [47],.str [60],.str [62],.str [46]] [0,1,4] [] trivial ?_
 refine oH 8 (atN 3 (ctl1 g45p2)) [(11,.bool (decide (a < 0))),(10,.bool (decide (a < 0))),(9,.i a),(5,w9 g45c0),(8,w9 g45c0),(0,.str a0),(1,.i a),(4,.i 0)] (mkH [⟨[],0,false⟩]) ?_
 refine oJ g45p3 (λ(c:Bool)=>[(0,.str a0),(1,.i a),(5,w9 g45c0),(16,.bool c)]) (λ(c:Bool)=>(mkH [])) (λc=>?_) (λj b=>?_)
 ·refine oS 16 (λg=>?_) (λg=>?_)
  ·exact oQ 6
  ·refine oLH 9 g45p7 [(0,.str a0),(1,.i a),(5,w9 g45c0),(6,.i 0)] (mkH []) ?_
   exact (qRo k a0 a k) 0
 ·refine oS 11 (λg=>?_) (λg=>?_)
  ·refine oLH 6 g45p3 [(0,.str a0),(1,.i a),(5,w9 g45c0),(16,.bool true)] (mkH [⟨[],0,false⟩]) ?_
   refine qAf [] [⟨[],0,false⟩] Kr rfl Kr trivial ?_
   exact b true
  ·refine oLH 6 g45p3 [(0,.str a0),(1,.i a),(5,w9 g45c0),(16,.bool (decide ((a0.length:Int) < a)))] (mkH [⟨[],0,false⟩]) ?_
   refine qAf [] [⟨[],0,false⟩] Kr rfl Kr trivial ?_
   exact b (decide ((a0.length:Int) < a))
end
def blkN (c:Nat):Bool:=decide (c=32) || decide (c=9) || decide (c=10) || decide (c=13)
def letN (c:Nat):Bool:=decide (97≤c) && decide (c≤122) || decide (65≤c) && decide (c≤90)
def begN (c:Nat):Nat:=if 97≤c∧c≤122 then 1 else if 65≤c∧c≤90∨c=95 then 2 else if 48≤c∧c≤57 then 3 else 0
def inrN (c:Nat):Bool:=decide (begN c ≠ 0) || decide (c=64)
def rsvL:LL:=[[97,102,116,101,114],[97,110,100],[97,110,100,97,108,115,111],[98,97,110,100],[98,101,103,105,110],[98,110,111,116],[98,111,114],[98,115,108],[98,115,114],[98,120,111,114],[99,97,115,101],[99,97,116,99,104],[100,105,118],[101,110,100],[102,117,110],[105,102],[110,111,116],[111,102],[111,114],[111,114,101,108,115,101],[114,101,99,101,105,118,101],[114,101,109],[119,104,101,110],[120,111,114]]
def rsvN (s:LN):Bool:=rsvL.any λw=>eqL s w
theorem eqL_comm (a b:LN):eqL a b=eqL b a:=by
 rw [Bool.eq_iff_iff,qCv,qCv]; exact eq_comm
theorem qLf (k:Nat) {c:Nat} (h:c < 256):g38 k (c:Int)=some ((begN c:Nat):Int):=by
 have w:=byteAll (f:=λc=>decide (g38 0 (c:Int)=some ((begN c:Nat):Int))) (by decide +kernel) h
 exact of_decide_eq_true w
theorem qH5 (k:Nat) {c:Nat} (h:c < 256):g63 k (c:Int)=some (inrN c):=by
 have w:=byteAll (f:=λc=>decide (g63 0 (c:Int)=some (inrN c))) (by decide +kernel) h
 exact of_decide_eq_true w
theorem qQk (k:Nat) {c:Nat} (h:c < 256):g44 k (c:Int)=some (letN c):=by
 have w:=byteAll (f:=λc=>decide (g44 0 (c:Int)=some (letN c))) (by decide +kernel) h
 exact of_decide_eq_true w
theorem qIb {α:Type} {L:List α} {i:Nat} {x:α} {r:List α} (h:L.drop i=x::r):nthL L (i:Int)=some x:=by
 unfold nthL
 rw [if_pos (by omega),Int.toNat_natCast]
 have:=List.getElem?_drop (xs:=L) (i:=i) (j:=0)
 rw [h] at this
 simpa using this.symm
theorem dconsL {α:Type} {s:List α} {i:Nat} (h:i < s.length):∃ b r,s.drop i=b::r∧s.drop (i+1)=r∧b ∈ s∧r.length+i+1=s.length:=by
 refine ⟨s[i],s.drop (i+1),List.drop_eq_getElem_cons h,rfl,List.getElem_mem h,?_⟩
 rw [List.length_drop]; omega
theorem qF9 (k : Nat) (s : LN) : ∀ (f i : Nat), 24 < i + f → i ≤ 24 → qHg k s f (i : Int) = some ((rsvL.drop i).any λw => eqL s w)
 | 0,i,h,h2=>by omega
 | f+1,i,h,h2=>by
  rw [g41_l1_s]
  have e:g41c5=rsvL:=rfl
  rw [e]
  have el:rsvL.length=24:=rfl
  rcases Nat.lt_or_ge i 24 with hi | hi
  ·obtain ⟨x,r,hx,hr,-,-⟩:=dconsL (s:=rsvL) (i:=i) (by rw [el]; exact hi)
   have ih:=qF9 k s f (i+1) (by omega) (by omega)
   rw [el]
   refine iT (by first | (simp (disch:=omega) only [↓reduceIte,↓jn,gsL]; done) | rfl) ?_
   refine bS (by (try simp (disch:=omega) only [fwI]); exact qIb hx) ?_
   rw [fw_s (by omega),ih,hr,hx,List.any_cons,eqL_comm x s]
   cases eqL s x <;> rfl
  ·rw [el]
   refine iF (by first | (simp (disch:=omega) only [↓reduceIte,↓jn,gsL]; done) | rfl) ?_
   rw [List.drop_eq_nil_of_le (by rw [el]; exact hi)]
   rfl
theorem qIw {k:Nat} (hk:25≤k) (s:LN):g41 k s=some (rsvN s):=qF9 k s k 0 (by omega) (by omega)
def signL:LL:=[[61,58,61],[61,47,61],[60,60],[62,62],[45,62],[60,45],[60,61],[61,62],[58,61],[58,58],[61,61],[47,61],[61,60],[62,61],[124,124],[43,43],[45,45],[40],[41],[123],[125],[91],[93],[44],[59],[58],[61],[124],[33],[35],[43],[45],[42],[47],[60],[62],[46]]
def preN : LN → LN → Bool
 | [],_=>true
 | x::l,y::s=>decide (y=x) && preN l s
 | _::_,[]=>false
def fstN : LL → LN → Nat
 | [],_=>0
 | l::L,s=>if preN l s then l.length else fstN L s
def lngN (s:LN):Nat:=fstN signL s
theorem qFf : ∀ (l s : LN), preN l s = (decide (l.length ≤ s.length) && eqL (s.take l.length) l)
 | [],s=>by simp [preN,eqL]
 | x::l,[]=>by simp [preN]
 | x::l,y::s=>by
  simp only [preN,qFf l s,List.length_cons,List.take_succ_cons,eqL]
  by_cases h:l.length≤s.length
  ·have:l.length+1≤s.length+1:=by omega
   simp [h,this]
   rw [Bool.eq_iff_iff]; simp [Nat.beq_eq]
  ·have:¬ l.length+1≤s.length+1:=by omega
   simp [h,this]
theorem preN_len {l s:LN} (h:preN l s=true):l.length≤s.length:=by
 rw [qFf,Bool.and_eq_true,decide_eq_true_eq] at h; exact h.1
theorem qS5 : ∀ (L : LL) (s : LN), fstN L s ≤ s.length
 | [],s=>Nat.zero_le _
 | l::L,s=>by
  simp only [fstN]
  split
  ·rename_i h; exact preN_len h
  ·exact qS5 L s
theorem qGs (k : Nat) {s : LN} (hl : Sz s) {a : Nat} (ha : a ≤ s.length) : ∀ (f i : Nat), 37 < i + f → i ≤ 37 → qHf k s (a : Int) f (i : Int) = some ((fstN (signL.drop i) (s.drop a) : Nat) : Int)
 | 0,i,h,h2=>by omega
 | f+1,i,h,h2=>by
  have hl':=hl
  unfold Sz at hl
  rw [g45_l3_s]
  have e:g45c0=signL:=rfl
  rw [e]
  have el:signL.length=37:=rfl
  rcases Nat.lt_or_ge i 37 with hi | hi
  ·obtain ⟨x,r,hx,hr,hm,-⟩:=dconsL (s:=signL) (i:=i) (by rw [el]; exact hi)
   have ih:=qGs k hl' ha f (i+1) (by omega) (by omega)
   have hx3:x.length≤3:=by
    have:∀ l ∈ signL,l.length≤3:=by decide
    exact this x hm
   rw [el]
   refine iT (by first | (simp (disch:=omega) only [↓reduceIte,↓jn,gsL]; done) | rfl) ?_
   refine bS (by (try simp (disch:=omega) only [fwI]); exact qIb hx) ?_
   rw [hr] at ih
   rw [hx]
   simp only [fstN,qFf,List.length_drop]
   refine (jS (v:=(decide (x.length≤s.length - a) && eqL ((s.drop a).take x.length) x,(i:Int))) (λj=>?_)).trans ?_
   ·by_cases hc:x.length≤s.length - a
    ·have sb:subL s (some (a:Int)) (some ((a:Int)+(x.length:Int)))=some ((s.drop a).take x.length):=by
      rw [subMid (i:=a) (j:=a+x.length) rfl (by push_cast; rfl) (by omega) (by omega),List.drop_take,Nat.add_sub_cancel_left]
     refine iT (by first | (simp (disch:=omega) only [↓reduceIte,↓jn,gsL]; done) | rfl) ?_
     refine bS (by (try simp (disch:=omega) only [fwI]); exact sb) ?_
     refine bS (by (try simp (disch:=omega) only [fwI]); exact qIb hx) ?_
     simp (disch:=omega) only [↓reduceIte,↓jn,gsL,hc]
    ·simp (disch:=omega) only [↓reduceIte,↓jn,gsL,hc]
   ·cases hp:(decide (x.length≤s.length - a) && eqL ((s.drop a).take x.length) x) with
    | true=>rfl
    | false =>
     simp only [Bool.false_eq_true,if_false]
     rw [fw_s (by omega)]
     exact ih
  ·rw [el]
   refine iF (by first | (simp (disch:=omega) only [↓reduceIte,↓jn,gsL]; done) | rfl) ?_
   rw [List.drop_eq_nil_of_le (by rw [el]; exact hi)]
   rfl
theorem qK7 {k:Nat} (hk:38≤k) {s:LN} (hl:Sz s) {a:Nat} (ha:a≤s.length):g45 k s (a:Int)=some ((lngN (s.drop a):Nat):Int):=by
 have hl':=hl
 unfold Sz at hl
 unfold g45
 refine (jS (v:=false) (λj=>by simp (disch:=omega) only [↓reduceIte,↓jn,gsL])).trans ?_
 exact qGs k hl' ha k 0 (by omega) (by omega)
end Go.Proofs.Ythpplbkobokghaa.Am
set_option maxRecDepth 100000
set_option linter.unusedVariables false
namespace Go.Proofs.Ythpplbkobokghaa.Am
noncomputable section
open Go
def Xg59:Fx Bool:=⟨Try.prog,cx,Try.f59,λr => .bool r,0,λ_=>H0,cxTi,cxOrd,λ_=>none,false⟩
def g59p1:Pt:=nav [0,0,0] (nav [0] (bodyAt Try.f59))
def g59 (k:Nat) (a0:Int):Option Bool :=
 if (decide (0≤a0)) then (if (decide (a0≤1114111)) then (if (decide (a0 < 55296)) then (some true) else (some (decide (57343 < a0)))) else (some false)) else (some false)
theorem g59_ok (k:Nat) (a0:Int) (r:Bool) (h:g59 k a0=some r):PureOk Try.prog 59 [.i a0] (.bool r):=by
 refine qA4 Xg59 (λ_=>⟨rfl,rfl⟩) Try.func59 (by decide +kernel) Kr (t:=g59 k a0) ?_ h
 unfold g59
 refine qA (eE:=[(0,.i a0)]) Kr ?_
 let b:Env:=[(5,.bool (decide (0≤a0))),(4,.bool (decide (0≤a0))),(3,.i a0),(2,.bool false),(0,.i a0)]
 refine oH 9 (atN 3 (ctl1 g59p1)) b (mkH []) ?_
 refine oS 5 (λa=>?_) (λa=>?_)
 ·let c:Env:=((9,.bool (decide (a0≤1114111)))::(8,.bool (decide (a0≤1114111)))::(7,.bool (decide (a0≤1114111)))::(6,.i a0)::(5,.bool true)::b)
  refine oR 4 (atN 7 (ctl1 g59p1)) c ?_
  refine oS 9 (λa=>?_) (λa=>?_)
  ·refine oR 3 (atN 10 (ctl1 g59p1)) ((12,.bool (decide (a0 < 55296)))::(11,.bool (decide (a0 < 55296)))::(10,.i a0)::(9,.bool true)::c) ?_
   refine oS 12 (λa=>?_) (λa=>?_)
   ·exact oQ 7
   ·exact oQ 7
  ·exact oQ 10
 ·exact oQ 14
def Xg36:Fx (Int×Int):=⟨Try.prog,cx,Try.f36,λr => .tuple [.i r.1,.i r.2],0,λ_=>H0,cxTi,cxOrd,λ_=>none,false⟩
def g36p1:Pt:=nav [0,0,0,0] (nav [0] (bodyAt Try.f36))
def g36p2:Pt:=nav [0,0] g36p1
def g36p4:Pt:=nav [2,0,0] g36p2
def g36p7:Pt:=nav [0,0,0,0,0] (nav [0,0,0] g36p4)
def g36p8:Pt:=nav [0,0] g36p7
def g36p10:Pt:=nav [2,0] g36p8
def g36p11:Pt:=nav [0,0] g36p10
def g36p13:Pt:=nav [2,0] g36p11
def g36p14:Pt:=nav [0,0,0,0] (nav [1] g36p11)
def g36p15:Pt:=nav [0,0] g36p13
def g36p16:Pt:=nav [0,0] g36p14
def g36p18:Pt:=nav [2,0] g36p15
def g36p21:Pt:=nav [0,0] g36p18
def g36p22:Pt:=nav [0,0,0,0] (nav [2,0,0,0] g36p16)
def g36p26:Pt:=nav [0,0] (nav [0,0,0] g36p22)
def g36p27:Pt:=nav [1,0,0,0,0,0] g36p26
def g36p28:Pt:=nav [2,0,0,0] g36p26
def g36p29:Pt:=nav [0,0] g36p27
def g36p30:Pt:=nav [0,0] g36p28
def g36p32:Pt:=nav [2,0] g36p29
def qKx (k:Nat)  (a0:LN) (q:Int) (o:Int×Int×Int) (ih:Int→Int→Option (Int×Int)):Int→Int→Option (Int×Int) :=
 λ(a:Int) (b:Int)=>if (decide (b < o.2.1)) then ((nthS a0 (fW .i64 (q+b))).bind λc=>if (!decide (andI .u8 c 192=128)) then (some (((-1):Int),(1:Int))) else ((nthS a0 (fW .i64 (q+b))).bind λg=>ih (fW .i64 (fW .i64 (a * 64)+fW .i64 (andI .u8 g 63))) (fW .i64 (b+1)))) else (jn (λ(h:Bool×Int)=>if h.1 then (some (((-1):Int),(1:Int))) else (some (h.2,o.2.1))) (λj=>if (decide (a < o.2.2)) then (j (true,a)) else ((g59 k a).bind λn=>j (!n,a))))
def qG9 (k:Nat)  (a0:LN) (a:Int) (b:Int×Int×Int) (n:Nat):Int→Int→Option (Int×Int):=lp (λ_ _=>none) (qKx k a0 a b) n
theorem qNd (k:Nat)  (a0:LN) (u:Int) (c:Int×Int×Int) (n:Nat) (a:Int) (b:Int):qG9 k a0 u c (n+1) a b=(if (decide (b < c.2.1)) then ((nthS a0 (fW .i64 (u+b))).bind λg=>if (!decide (andI .u8 g 192=128)) then (some (((-1):Int),(1:Int))) else ((nthS a0 (fW .i64 (u+b))).bind λh=>(qG9 k a0 u c n) (fW .i64 (fW .i64 (a * 64)+fW .i64 (andI .u8 h 63))) (fW .i64 (b+1)))) else (jn (λ(j:Bool×Int)=>if j.1 then (some (((-1):Int),(1:Int))) else (some (j.2,c.2.1))) (λo=>if (decide (a < c.2.2)) then (o (true,a)) else ((g59 k a).bind λq=>o (!q,a))))):=rfl
theorem qRv (k:Nat)   (a0:LN) (o:Int) (g:Int×Int×Int)  : ∀ (n:Nat) (a:Int) (b:Int),Ok Xg36 g36p22 [(0,.str a0),(1,.i o),(6,.i a),(7,.i g.2.1),(8,.i g.2.2),(9,.i b)] (mkH []) (qG9 k a0 o g n a b):=by
 intro n
 induction n with
 | zero=>intro a b; exact ok_none
 | succ n ih =>
  intro a b
  show Ok _ _ _ _ (qKx k a0 o g (qG9 k a0 o g n) a b)
  unfold qKx
  refine qAi (p':=nav [0] g36p22) Kr ?_
  let I:Env:=[(61,.bool (decide (b < g.2.1))),(60,.i g.2.1),(59,.i b),(0,.str a0),(1,.i o),(6,.i a),(7,.i g.2.1),(8,.i g.2.2),(9,.i b)]
  refine oH 7 g36p26 I (mkH []) ?_
  refine oS 61 (λx=>?_) (λx=>?_)
  ·let z:Env:=((67,.i (fW .i64 (o+b)))::(66,.i b)::(65,.i o)::(64,.str a0)::(61,.bool true)::I)
   refine oR 11 (atN 4 (ctl1 g36p27)) z ?_
   refine oC (λ(c:Int)=>(.y c,(mkH []))) (atN 5 (ctl1 g36p27)) 68 (idxH Kr) λc J=>?_
   refine oH 3 g36p29 ((70,.bool (!decide (andI .u8 c 192=128)))::(69,.y (andI .u8 c 192))::(68,.y c)::z) (mkH []) ?_
   refine oK [0,1,6,7,8,9,70] [(0,.str a0),(1,.i o),(6,.i a),(7,.i g.2.1),(8,.i g.2.2),(9,.i b),(70,.bool (!decide (andI .u8 c 192=128)))] ?_
   refine oS 70 (λx=>?_) (λx=>?_)
   ·exact oQ 7
   ·refine oR 9 (atN 6 (ctl1 g36p32)) ((76,.i (fW .i64 (o+b)))::(75,.i b)::(74,.i o)::(73,.str a0)::(72,.i (fW .i64 (a * 64)))::(71,.i a)::(70,.bool false)::(keepOnly ((70,.bool (!decide (andI .u8 c 192=128)))::(69,.y (andI .u8 c 192))::(68,.y c)::z) [0,1,6,7,8,9,70])) ?_
    refine oC (λ(h:Int)=>(.y h,(mkH []))) (atN 7 (ctl1 g36p32)) 77 (idxH Kr) λh K=>?_
    let D:Env:=[(0,.str a0),(1,.i o),(6,.i (fW .i64 (fW .i64 (a * 64)+fW .i64 (andI .u8 h 63)))),(7,.i g.2.1),(8,.i g.2.2),(9,.i b)]
    refine oLH 5 (nav [0,0] g36p32) D (mkH []) ?_
    refine oR 5 g36p22 ((9,.i (fW .i64 (b+1)))::(63,.i (fW .i64 (b+1)))::(62,.i b)::D) ?_
    refine oK [0,1,6,7,8,9] [(0,.str a0),(1,.i o),(6,.i (fW .i64 (fW .i64 (a * 64)+fW .i64 (andI .u8 h 63)))),(7,.i g.2.1),(8,.i g.2.2),(9,.i (fW .i64 (b+1)))] ?_
    exact ih (fW .i64 (fW .i64 (a * 64)+fW .i64 (andI .u8 h 63))) (fW .i64 (b+1))
  ·let E:Env:=((84,.bool (decide (a < g.2.2)))::(83,.bool (decide (a < g.2.2)))::(82,.i g.2.2)::(81,.i a)::(61,.bool false)::I)
   refine oR 9 (atN 4 (ctl1 g36p28)) E ?_
   refine oJ g36p30 (λ(q:Bool×Int)=>[(6,.i q.2),(7,.i g.2.1),(88,.bool q.1)]) (λ(q:Bool×Int)=>(mkH [])) (λq=>?_) (λN u=>?_)
   ·refine oS 88 (λx=>?_) (λx=>?_)
    ·exact oQ 7
    ·exact oQ 10
   ·refine oS 84 (λx=>?_) (λx=>?_)
    ·refine oLH 5 g36p30 [(6,.i a),(7,.i g.2.1),(88,.bool true)] (mkH []) ?_
     exact u (true,a)
    ·refine oH 1 (atN 5 (ctl1 g36p28)) ((85,.i a)::(84,.bool false)::E) (mkH []) ?_
     refine oA (λ(j:Bool) => .bool j) (atN 6 (ctl1 g36p28)) 86 [.i a] (g59_ok k a) λj M=>?_
     refine oL 3 g36p30 [(6,.i a),(7,.i g.2.1),(88,.bool (!j))] ?_
     exact u (!j,a)
def g36 (k:Nat) (a0:LN) (b:Int):Option (Int×Int) :=
 jn (λ(q:Bool)=>if q then (some ((0:Int),(0:Int))) else ((nthS a0 b).bind λa=>if (decide (fW .i64 a < 128)) then (some (fW .i64 a,(1:Int))) else (jn (λ(u:Bool)=>jn (λ(c:Int×Int×Int)=>if (decide (fW .i64 ((a0.length:Int) - b) < c.2.1)) then (some (((-1):Int),(1:Int))) else (qG9 k a0 b c k c.1 1)) (λg=>if u then (g (andI .i64 (fW .i64 a) 31,2,128)) else (jn (λ(x:Bool)=>if x then (g (andI .i64 (fW .i64 a) 15,3,2048)) else (jn (λ(z:Bool)=>if z then (g (andI .i64 (fW .i64 a) 7,4,65536)) else (some (((-1):Int),(1:Int)))) (λh=>if (decide (240≤fW .i64 a)) then (h (decide (fW .i64 a < 248))) else (h false)))) (λj=>if (decide (224≤fW .i64 a)) then (j (decide (fW .i64 a < 240))) else (j false))))) (λn=>if (decide (192≤fW .i64 a)) then (n (decide (fW .i64 a < 224))) else (n false))))) (λo=>if (decide (b < 0)) then (o true) else (o (decide ((a0.length:Int)≤b))))
theorem qNc (k:Nat) (a0:LN) (b:Int) (r:(Int×Int)) (h:g36 k a0 b=some r):PureOk Try.prog 36 [.str a0,.i b] (.tuple [.i r.1,.i r.2]):=by
 refine qA4 Xg36 (λ_=>⟨rfl,rfl⟩) Try.func36 (by decide +kernel) Kr (t:=g36 k a0 b) ?_ h
 unfold g36
 refine qA (eE:=[(0,.str a0),(1,.i b)]) Kr ?_
 refine oH 11 (atN 3 (ctl1 g36p1)) [(12,.bool (decide (b < 0))),(11,.bool (decide (b < 0))),(10,.i b),(5,.i 0),(4,.i 0),(0,.str a0),(1,.i b)] (mkH []) ?_
 refine oJ g36p2 (λ(x:Bool)=>[(0,.str a0),(1,.i b),(17,.bool x)]) (λ(x:Bool)=>(mkH [])) (λx=>?_) (λM n=>?_)
 ·refine oS 17 (λc=>?_) (λc=>?_)
  ·exact oQ 7
  ·refine oH 6 (atN 2 (ctl1 g36p4)) [(19,.i b),(18,.str a0),(17,.bool false),(0,.str a0),(1,.i b),(17,.bool x)] (mkH []) ?_
   refine oC (λ(a:Int)=>(.y a,(mkH []))) (atN 3 (ctl1 g36p4)) 20 (idxH Kr) λa E=>?_
   let I:Env:=[(0,.str a0),(1,.i b),(6,.i (fW .i64 a))]
   refine oLH 11 g36p7 I (mkH []) ?_
   refine oR 5 g36p8 ((22,.bool (decide (fW .i64 a < 128)))::(24,.bool (decide (fW .i64 a < 128)))::(23,.i (fW .i64 a))::I) ?_
   refine oS 22 (λc=>?_) (λc=>?_)
   ·exact oQ 8
   ·refine oR 6 (atN 3 (ctl1 g36p10)) ((29,.bool (decide (192≤fW .i64 a)))::(28,.bool (decide (192≤fW .i64 a)))::(27,.i (fW .i64 a))::(22,.bool false)::(22,.bool (decide (fW .i64 a < 128)))::(24,.bool (decide (fW .i64 a < 128)))::(23,.i (fW .i64 a))::I) ?_
    refine oJ g36p11 (λ(z:Bool)=>[(0,.str a0),(1,.i b),(6,.i (fW .i64 a)),(26,.bool z)]) (λ(z:Bool)=>(mkH [])) (λz=>?_) (λN o=>?_)
    ·refine oJ g36p14 (λ(g:Int×Int×Int)=>[(0,.str a0),(1,.i b),(6,.i g.1),(7,.i g.2.1),(8,.i g.2.2)]) (λ(g:Int×Int×Int)=>(mkH [])) (λg=>?_) (λO j=>?_)
     ·let K:Env:=[(58,.bool (decide (fW .i64 ((a0.length:Int) - b) < g.2.1))),(57,.i g.2.1),(56,.i (fW .i64 ((a0.length:Int) - b))),(55,.i b),(54,.i (a0.length:Int)),(53,.str a0),(0,.str a0),(1,.i b),(6,.i g.1),(7,.i g.2.1),(8,.i g.2.2)]
      refine oH 8 g36p16 K (mkH []) ?_
      refine oS 58 (λc=>?_) (λc=>?_)
      ·exact oQ 7
      ·refine oR 9 g36p22 ((9,.i 1)::(58,.bool false)::K) ?_
       refine oK [0,1,6,7,8,9] [(0,.str a0),(1,.i b),(6,.i g.1),(7,.i g.2.1),(8,.i g.2.2),(9,.i 1)] ?_
       exact (qRv k a0 b g k) g.1 1
     ·refine oS 26 (λc=>?_) (λc=>?_)
      ·refine oLH 10 g36p14 [(0,.str a0),(1,.i b),(6,.i (andI .i64 (fW .i64 a) 31)),(7,.i 2),(8,.i 128)] (mkH []) ?_
       exact j (andI .i64 (fW .i64 a) 31,2,128)
      ·refine oH 6 (atN 3 (ctl1 g36p13)) [(38,.bool (decide (224≤fW .i64 a))),(37,.bool (decide (224≤fW .i64 a))),(36,.i (fW .i64 a)),(26,.bool false),(0,.str a0),(1,.i b),(6,.i (fW .i64 a)),(26,.bool z)] (mkH []) ?_
       refine oJ g36p15 (λ(D:Bool)=>[(0,.str a0),(1,.i b),(6,.i (fW .i64 a)),(35,.bool D)]) (λ(D:Bool)=>(mkH [])) (λD=>?_) (λQ q=>?_)
       ·refine oS 35 (λc=>?_) (λc=>?_)
        ·refine oLH 10 g36p14 [(0,.str a0),(1,.i b),(6,.i (andI .i64 (fW .i64 a) 15)),(7,.i 3),(8,.i 2048)] (mkH []) ?_
         exact j (andI .i64 (fW .i64 a) 15,3,2048)
        ·refine oH 6 (atN 3 (ctl1 g36p18)) [(47,.bool (decide (240≤fW .i64 a))),(46,.bool (decide (240≤fW .i64 a))),(45,.i (fW .i64 a)),(35,.bool false),(0,.str a0),(1,.i b),(6,.i (fW .i64 a)),(35,.bool D)] (mkH []) ?_
         refine oJ g36p21 (λ(J:Bool)=>[(0,.str a0),(1,.i b),(6,.i (fW .i64 a)),(44,.bool J)]) (λ(J:Bool)=>(mkH [])) (λJ=>?_) (λS u=>?_)
         ·refine oS 44 (λc=>?_) (λc=>?_)
          ·refine oLH 10 g36p14 [(0,.str a0),(1,.i b),(6,.i (andI .i64 (fW .i64 a) 7)),(7,.i 4),(8,.i 65536)] (mkH []) ?_
           exact j (andI .i64 (fW .i64 a) 7,4,65536)
          ·exact oQ 7
         ·refine oS 47 (λc=>?_) (λc=>?_)
          ·refine oLH 5 g36p21 [(0,.str a0),(1,.i b),(6,.i (fW .i64 a)),(44,.bool (decide (fW .i64 a < 248)))] (mkH []) ?_
           exact u (decide (fW .i64 a < 248))
          ·refine oLH 5 g36p21 [(0,.str a0),(1,.i b),(6,.i (fW .i64 a)),(44,.bool false)] (mkH []) ?_
           exact u false
       ·refine oS 38 (λc=>?_) (λc=>?_)
        ·refine oLH 5 g36p15 [(0,.str a0),(1,.i b),(6,.i (fW .i64 a)),(35,.bool (decide (fW .i64 a < 240)))] (mkH []) ?_
         exact q (decide (fW .i64 a < 240))
        ·refine oLH 5 g36p15 [(0,.str a0),(1,.i b),(6,.i (fW .i64 a)),(35,.bool false)] (mkH []) ?_
         exact q false
    ·refine oS 29 (λc=>?_) (λc=>?_)
     ·refine oLH 5 g36p11 [(0,.str a0),(1,.i b),(6,.i (fW .i64 a)),(26,.bool (decide (fW .i64 a < 224)))] (mkH []) ?_
      exact o (decide (fW .i64 a < 224))
     ·refine oLH 5 g36p11 [(0,.str a0),(1,.i b),(6,.i (fW .i64 a)),(26,.bool false)] (mkH []) ?_
      exact o false
 ·refine oS 12 (λc=>?_) (λc=>?_)
  ·refine oLH 6 g36p2 [(0,.str a0),(1,.i b),(17,.bool true)] (mkH []) ?_
   exact n true
  ·refine oLH 6 g36p2 [(0,.str a0),(1,.i b),(17,.bool (decide ((a0.length:Int)≤b)))] (mkH []) ?_
   exact n (decide ((a0.length:Int)≤b))
def Xg24:Fx Bool:=⟨Try.prog,cx,Try.f24,λr => .bool r,0,λ_=>H0,cxTi,cxOrd,λ_=>none,false⟩
def g24p2:Pt:=nav [0,0,0,0] (nav [0,0,0,0] (nav [0] (bodyAt Try.f24)))
def g24p4:Pt:=nav [0,0] (nav [0,0,0] g24p2)
def g24p5:Pt:=nav [1,0,0,0] g24p4
def g24p7:Pt:=nav [0,0,0,0] g24p5
def qKz (k:Nat)  (a0:LN) (ih:Int→Option Bool):Int→Option Bool :=
 λ(a:Int)=>if (decide (a < (a0.length:Int))) then ((g36 k a0 a).bind λb=>if (decide (b.1 < 0)) then (some false) else (ih (fW .i64 (a+b.2)))) else (some true)
def qHj (k:Nat)  (a0:LN) (n:Nat):Int→Option Bool:=lp (λ_=>none) (qKz k a0) n
theorem qNe (k:Nat)  (a0:LN) (n:Nat) (a:Int):qHj k a0 (n+1) a=(if (decide (a < (a0.length:Int))) then ((g36 k a0 a).bind λb=>if (decide (b.1 < 0)) then (some false) else ((qHj k a0 n) (fW .i64 (a+b.2)))) else (some true)):=rfl
theorem qRz (k:Nat)   (a0:LN)  : ∀ (n:Nat) (a:Int),Ok Xg24 g24p2 [(0,.str a0),(3,.i a)] (mkH []) (qHj k a0 n a):=by
 intro n
 induction n with
 | zero=>intro a; exact ok_none
 | succ n ih =>
  intro a
  show Ok _ _ _ _ (qKz k a0 (qHj k a0 n) a)
  unfold qKz
  refine qAi (p':=nav [0] g24p2) Kr ?_
  let h:Env:=[(9,.bool (decide (a < (a0.length:Int)))),(8,.i (a0.length:Int)),(7,.str a0),(6,.i a),(0,.str a0),(3,.i a)]
  refine oH 8 g24p4 h (mkH []) ?_
  refine oS 9 (λc=>?_) (λc=>?_)
  ·refine oR 7 (atN 2 (ctl1 g24p5)) ((12,.i a)::(11,.str a0)::(9,.bool true)::h) ?_
   refine oA (λ(b:(Int×Int)) => .tuple [.i b.1,.i b.2]) (atN 3 (ctl1 g24p5)) 13 [.str a0,.i a] (qNc k a0 a) λb g=>?_
   let j:Env:=[(0,.str a0),(3,.i a),(4,.i b.1),(5,.i b.2)]
   refine oL 8 g24p7 j ?_
   refine oR 4 (nav [0,0] g24p7) ((17,.bool (decide (b.1 < 0)))::(16,.i b.1)::j) ?_
   refine oS 17 (λc=>?_) (λc=>?_)
   ·exact oQ 6
   ·refine oL 8 g24p2 [(0,.str a0),(3,.i (fW .i64 (a+b.2)))] ?_
    exact ih (fW .i64 (a+b.2))
  ·exact oQ 7
def g24 (k:Nat) (a0:LN):Option Bool :=
 qHj k a0 k 0
theorem g24_ok (k:Nat) (a0:LN) (r:Bool) (h:g24 k a0=some r):PureOk Try.prog 24 [.str a0] (.bool r):=by
 refine qA4 Xg24 (λ_=>⟨rfl,rfl⟩) Try.func24 (by decide +kernel) Kr (t:=g24 k a0) ?_ h
 unfold g24
 refine qA (eE:=[(0,.str a0)]) Kr ?_
 refine oLH 11 g24p2 [(0,.str a0),(3,.i 0)] (mkH []) ?_
 exact (qRz k a0 k) 0
def Xg25:Fx Int:=⟨Try.prog,cx,Try.f25,λr => .i r,0,λ_=>H0,cxTi,cxOrd,λ_=>none,false⟩
def g25p1:Pt:=nav [0,0,0,0,0] (nav [0] (bodyAt Try.f25))
def g25p2:Pt:=nav [0,0,0] g25p1
def g25p3:Pt:=nav [0,0] g25p2
def qKy (k:Nat)  (a0:LN) (ih:Int→Option Int):Int→Option Int :=
 λ(a:Int)=>jn (λ(n:Bool×Int)=>if n.1 then (ih (fW .i64 (n.2+1))) else (some n.2)) (λh=>if (decide (a < (a0.length:Int))) then ((nthS a0 a).bind λj=>if (decide (j=32)) then (h (true,a)) else ((nthS a0 a).bind λb=>if (decide (b=9)) then (h (true,a)) else ((nthS a0 a).bind λc=>if (decide (c=10)) then (h (true,a)) else ((nthS a0 a).bind λg=>h (decide (g=13),a))))) else (h (false,a)))
def qHi (k:Nat)  (a0:LN) (n:Nat):Int→Option Int:=lp (λ_=>none) (qKy k a0) n
theorem g25_l1_s (k:Nat)  (a0:LN) (n:Nat) (a:Int):qHi k a0 (n+1) a=(jn (λ(o:Bool×Int)=>if o.1 then ((qHi k a0 n) (fW .i64 (o.2+1))) else (some o.2)) (λh=>if (decide (a < (a0.length:Int))) then ((nthS a0 a).bind λj=>if (decide (j=32)) then (h (true,a)) else ((nthS a0 a).bind λb=>if (decide (b=9)) then (h (true,a)) else ((nthS a0 a).bind λc=>if (decide (c=10)) then (h (true,a)) else ((nthS a0 a).bind λg=>h (decide (g=13),a))))) else (h (false,a)))):=rfl
theorem qRy (k:Nat)   (a0:LN)  : ∀ (n:Nat) (a:Int),Ok Xg25 g25p1 [(0,.str a0),(1,.i a)] (mkH []) (qHi k a0 n a):=by
 intro n
 induction n with
 | zero=>intro a; exact ok_none
 | succ n ih =>
  intro a
  show Ok _ _ _ _ (qKy k a0 (qHi k a0 n) a)
  unfold qKy
  refine qAi (p':=nav [0] g25p1) Kr ?_
  let E:Env:=[(9,.bool (decide (a < (a0.length:Int)))),(8,.bool (decide (a < (a0.length:Int)))),(7,.i (a0.length:Int)),(6,.str a0),(5,.i a),(0,.str a0),(1,.i a)]
  refine oH 8 (atN 5 (ctl1 g25p2)) E (mkH []) ?_
  refine oJ g25p3 (λ(q:Bool×Int)=>[(0,.str a0),(1,.i q.2),(32,.bool q.1)]) (λ(q:Bool×Int)=>(mkH [])) (λq=>?_) (λM j=>?_)
  ·refine oS 32 (λo=>?_) (λo=>?_)
   ·refine oLH 8 g25p1 [(0,.str a0),(1,.i (fW .i64 (q.2+1)))] (mkH []) ?_
    exact ih (fW .i64 (q.2+1))
   ·exact oQ 8
  ·refine oS 9 (λo=>?_) (λo=>?_)
   ·refine oH 2 (atN 7 (ctl1 g25p2)) ((11,.i a)::(10,.str a0)::(9,.bool true)::E) (mkH []) ?_
    refine oC (λ(h:Int)=>(.y h,(mkH []))) (atN 8 (ctl1 g25p2)) 12 (idxH Kr) λh I=>?_
    let J:Env:=((14,.bool (decide (h=32)))::(13,.bool (decide (h=32)))::(12,.y h)::(11,.i a)::(10,.str a0)::(9,.bool true)::E)
    refine oH 2 (atN 10 (ctl1 g25p2)) J (mkH []) ?_
    refine oS 14 (λo=>?_) (λo=>?_)
    ·refine oL 19 g25p3 [(0,.str a0),(1,.i a),(32,.bool true)] ?_
     exact j (true,a)
    ·refine oR 2 (atN 12 (ctl1 g25p2)) ((16,.i a)::(15,.str a0)::(14,.bool false)::J) ?_
     refine oC (λ(b:Int)=>(.y b,(mkH []))) (atN 13 (ctl1 g25p2)) 17 (idxH Kr) λb x=>?_
     let K:Env:=((20,.bool (decide (b=9)))::(19,.bool (decide (b=9)))::(18,.bool (decide (b=9)))::(17,.y b)::(16,.i a)::(15,.str a0)::(14,.bool false)::J)
     refine oH 3 (atN 16 (ctl1 g25p2)) K (mkH []) ?_
     refine oS 20 (λo=>?_) (λo=>?_)
     ·refine oL 13 g25p3 [(0,.str a0),(1,.i a),(32,.bool true)] ?_
      exact j (true,a)
     ·refine oR 2 (atN 18 (ctl1 g25p2)) ((22,.i a)::(21,.str a0)::(20,.bool false)::K) ?_
      refine oC (λ(c:Int)=>(.y c,(mkH []))) (atN 19 (ctl1 g25p2)) 23 (idxH Kr) λc z=>?_
      let u:Env:=((26,.bool (decide (c=10)))::(25,.bool (decide (c=10)))::(24,.bool (decide (c=10)))::(23,.y c)::(22,.i a)::(21,.str a0)::(20,.bool false)::K)
      refine oH 3 (atN 22 (ctl1 g25p2)) u (mkH []) ?_
      refine oS 26 (λo=>?_) (λo=>?_)
      ·refine oL 7 g25p3 [(0,.str a0),(1,.i a),(32,.bool true)] ?_
       exact j (true,a)
      ·refine oR 2 (atN 24 (ctl1 g25p2)) ((28,.i a)::(27,.str a0)::(26,.bool false)::u) ?_
       refine oC (λ(g:Int)=>(.y g,(mkH []))) (atN 25 (ctl1 g25p2)) 29 (idxH Kr) λg D=>?_
       refine oLH 4 g25p3 [(0,.str a0),(1,.i a),(32,.bool (decide (g=13)))] (mkH []) ?_
       exact j (decide (g=13),a)
   ·refine oLH 24 g25p3 [(0,.str a0),(1,.i a),(32,.bool false)] (mkH []) ?_
    exact j (false,a)
def g25 (k:Nat) (a0:LN) (a:Int):Option Int :=
 qHi k a0 k a
theorem qRx (k:Nat) (a0:LN) (a:Int) (r:Int) (h:g25 k a0 a=some r):PureOk Try.prog 25 [.str a0,.i a] (.i r):=by
 refine qA4 Xg25 (λ_=>⟨rfl,rfl⟩) Try.func25 (by decide +kernel) Kr (t:=g25 k a0 a) ?_ h
 unfold g25
 refine qA (eE:=[(0,.str a0),(1,.i a)]) Kr ?_
 refine oLH 7 g25p1 [(0,.str a0),(1,.i a)] (mkH []) ?_
 exact (qRy k a0 k) a
def Xg37:Fx LN:=⟨Try.prog,cx,Try.f37,λr => .str r,0,λ_=>H0,cxTi,cxOrd,λ_=>none,false⟩
def g37p2:Pt:=nav [0,0,0,0,0] (nav [0,0,0] (nav [0] (bodyAt Try.f37)))
def g37p3:Pt:=nav [0,0,0] g37p2
def g37p4:Pt:=nav [0,0] g37p3
def g37p6:Pt:=nav [2,0,0] g37p4
def qKw (k:Nat)  (a0:LN) (ih:Int→Option LN):Int→Option LN :=
 λ(a:Int)=>jn (λ(n:Bool×Int)=>if n.1 then (ih (fW .i64 (n.2 - 1))) else ((subL a0 none (some n.2)).bind λg=>some g)) (λj=>if (decide (0 < a)) then ((nthS a0 (fW .i64 (a - 1))).bind λh=>if (decide (h=32)) then (j (true,a)) else ((nthS a0 (fW .i64 (a - 1))).bind λb=>if (decide (b=9)) then (j (true,a)) else ((nthS a0 (fW .i64 (a - 1))).bind λc=>j (decide (c=13),a)))) else (j (false,a)))
def qG8 (k:Nat)  (a0:LN) (n:Nat):Int→Option LN:=lp (λ_=>none) (qKw k a0) n
theorem qNb (k:Nat)  (a0:LN) (n:Nat) (a:Int):qG8 k a0 (n+1) a=(jn (λ(o:Bool×Int)=>if o.1 then ((qG8 k a0 n) (fW .i64 (o.2 - 1))) else ((subL a0 none (some o.2)).bind λg=>some g)) (λj=>if (decide (0 < a)) then ((nthS a0 (fW .i64 (a - 1))).bind λh=>if (decide (h=32)) then (j (true,a)) else ((nthS a0 (fW .i64 (a - 1))).bind λb=>if (decide (b=9)) then (j (true,a)) else ((nthS a0 (fW .i64 (a - 1))).bind λc=>j (decide (c=13),a)))) else (j (false,a)))):=rfl
theorem qRu (k:Nat)   (a0:LN)  : ∀ (n:Nat) (a:Int),Ok Xg37 g37p2 [(0,.str a0),(3,.i a)] (mkH []) (qG8 k a0 n a):=by
 intro n
 induction n with
 | zero=>intro a; exact ok_none
 | succ n ih =>
  intro a
  show Ok _ _ _ _ (qKw k a0 (qG8 k a0 n) a)
  unfold qKw
  refine qAi (p':=nav [0] g37p2) Kr ?_
  let z:Env:=[(8,.bool (decide (0 < a))),(7,.bool (decide (0 < a))),(6,.i a),(0,.str a0),(3,.i a)]
  refine oH 6 (atN 3 (ctl1 g37p3)) z (mkH []) ?_
  refine oJ g37p4 (λ(h:Bool×Int)=>[(0,.str a0),(3,.i h.2),(28,.bool h.1)]) (λ(h:Bool×Int)=>(mkH [])) (λh=>?_) (λK j=>?_)
  ·refine oS 28 (λq=>?_) (λq=>?_)
   ·refine oLH 8 g37p2 [(0,.str a0),(3,.i (fW .i64 (h.2 - 1)))] (mkH []) ?_
    exact ih (fW .i64 (h.2 - 1))
   ·refine oH 6 (atN 2 (ctl1 g37p6)) [(32,.i h.2),(31,.str a0),(28,.bool false),(0,.str a0),(3,.i h.2),(28,.bool h.1)] (mkH []) ?_
    refine oC (λ(o:LN)=>(.str o,(mkH []))) (atN 3 (ctl1 g37p6)) 33 (subH none (some h.2) Kr) λo D=>?_
    exact oQ 3
  ·refine oS 8 (λq=>?_) (λq=>?_)
   ·refine oH 3 (atN 6 (ctl1 g37p3)) ((11,.i (fW .i64 (a - 1)))::(10,.i a)::(9,.str a0)::(8,.bool true)::z) (mkH []) ?_
    refine oC (λ(g:Int)=>(.y g,(mkH []))) (atN 7 (ctl1 g37p3)) 12 (idxH Kr) λg E=>?_
    let I:Env:=((14,.bool (decide (g=32)))::(13,.bool (decide (g=32)))::(12,.y g)::(11,.i (fW .i64 (a - 1)))::(10,.i a)::(9,.str a0)::(8,.bool true)::z)
    refine oH 2 (atN 9 (ctl1 g37p3)) I (mkH []) ?_
    refine oS 14 (λq=>?_) (λq=>?_)
    ·refine oL 15 g37p4 [(0,.str a0),(3,.i a),(28,.bool true)] ?_
     exact j (true,a)
    ·refine oR 3 (atN 12 (ctl1 g37p3)) ((17,.i (fW .i64 (a - 1)))::(16,.i a)::(15,.str a0)::(14,.bool false)::I) ?_
     refine oC (λ(b:Int)=>(.y b,(mkH []))) (atN 13 (ctl1 g37p3)) 18 (idxH Kr) λb u=>?_
     let J:Env:=((21,.bool (decide (b=9)))::(20,.bool (decide (b=9)))::(19,.bool (decide (b=9)))::(18,.y b)::(17,.i (fW .i64 (a - 1)))::(16,.i a)::(15,.str a0)::(14,.bool false)::I)
     refine oH 3 (atN 16 (ctl1 g37p3)) J (mkH []) ?_
     refine oS 21 (λq=>?_) (λq=>?_)
     ·refine oL 8 g37p4 [(0,.str a0),(3,.i a),(28,.bool true)] ?_
      exact j (true,a)
     ·refine oR 3 (atN 19 (ctl1 g37p3)) ((24,.i (fW .i64 (a - 1)))::(23,.i a)::(22,.str a0)::(21,.bool false)::J) ?_
      refine oC (λ(c:Int)=>(.y c,(mkH []))) (atN 20 (ctl1 g37p3)) 25 (idxH Kr) λc x=>?_
      refine oLH 4 g37p4 [(0,.str a0),(3,.i a),(28,.bool (decide (c=13)))] (mkH []) ?_
      exact j (decide (c=13),a)
   ·refine oLH 21 g37p4 [(0,.str a0),(3,.i a),(28,.bool false)] (mkH []) ?_
    exact j (false,a)
def g37 (k:Nat) (a0:LN):Option LN :=
 qG8 k a0 k (a0.length:Int)
theorem g37_ok (k:Nat) (a0:LN) (r:LN) (h:g37 k a0=some r):PureOk Try.prog 37 [.str a0] (.str r):=by
 refine qA4 Xg37 (λ_=>⟨rfl,rfl⟩) Try.func37 (by decide +kernel) Kr (t:=g37 k a0) ?_ h
 unfold g37
 refine qA (eE:=[(0,.str a0)]) Kr ?_
 refine oLH 13 g37p2 [(0,.str a0),(3,.i (a0.length:Int))] (mkH []) ?_
 exact (qRu k a0 k) (a0.length:Int)
def Xg92:Fx Int:=⟨Try.prog,cx,Try.f92,λr => .i r,0,λ_=>H0,cxTi,cxOrd,λ_=>none,false⟩
def g92p2:Pt:=nav [0,0,0,0,0] (nav [0,0,0] (nav [0] (bodyAt Try.f92)))
def g92p3:Pt:=nav [0,0] g92p2
def g92p5:Pt:=nav [2,0] g92p3
def g92p6:Pt:=nav [0,0,0,0] (nav [1] g92p3)
def g92p7:Pt:=nav [0,0] g92p5
def g92p10:Pt:=nav [2,0] g92p7
def g92p13:Pt:=nav [0,0] g92p10
def g92 (k:Nat) (a0:Int) (j:Int):Option Int :=
 (g60 k a0).bind λa=>jn (λ(c:Int)=>if (decide (j≤c)) then (some ((-1):Int)) else (some c)) (λb=>if a then (b (fW .i64 (fW .u8 (a0 - 48)))) else (jn (λ(n:Bool)=>if n then (b (fW .i64 (fW .i64 (fW .u8 (a0 - 97))+10))) else (jn (λ(o:Bool)=>if o then (b (fW .i64 (fW .i64 (fW .u8 (a0 - 65))+10))) else (b (-1))) (λg=>if (decide (65≤a0)) then (g (decide (a0≤90))) else (g false)))) (λh=>if (decide (97≤a0)) then (h (decide (a0≤122))) else (h false))))
theorem qN1 (k:Nat) (a0:Int) (a:Int) (r:Int) (h:g92 k a0 a=some r):PureOk Try.prog 92 [.y a0,.i a] (.i r):=by
 refine qA4 Xg92 (λ_=>⟨rfl,rfl⟩) Try.func92 (by decide +kernel) Kr (t:=g92 k a0 a) ?_ h
 unfold g92
 refine qA (eE:=[(0,.y a0),(1,.i a)]) Kr ?_
 let u:Env:=[(7,.y a0),(5,.i (-1)),(4,.i 0),(0,.y a0),(1,.i a)]
 refine oH 13 (atN 1 (ctl1 g92p2)) u (mkH []) ?_
 refine oA (λ(b:Bool) => .bool b) (atN 2 (ctl1 g92p2)) 8 [.y a0] (qRk k a0) λb x=>?_
 refine oR 2 g92p3 ((6,.bool b)::(8,.bool b)::u) ?_
 refine oJ g92p6 (λ(j:Int)=>[(1,.i a),(5,.i j)]) (λ(j:Int)=>(mkH [])) (λj=>?_) (λD g=>?_)
 ·refine oH 5 (nav [0,0] g92p6) [(36,.bool (decide (a≤j))),(35,.i a),(34,.i j),(1,.i a),(5,.i j)] (mkH []) ?_
  refine oS 36 (λc=>?_) (λc=>?_)
  ·exact oQ 6
  ·exact oQ 8
 ·refine oS 6 (λc=>?_) (λc=>?_)
  ·refine oLH 9 g92p6 [(1,.i a),(5,.i (fW .i64 (fW .u8 (a0 - 48))))] (mkH []) ?_
   exact g (fW .i64 (fW .u8 (a0 - 48)))
  ·refine oH 6 (atN 3 (ctl1 g92p5)) ((15,.bool (decide (97≤a0)))::(14,.bool (decide (97≤a0)))::(13,.y a0)::(6,.bool false)::(6,.bool b)::(8,.bool b)::u) (mkH []) ?_
   refine oJ g92p7 (λ(q:Bool)=>[(0,.y a0),(1,.i a),(5,.i (-1)),(12,.bool q)]) (λ(q:Bool)=>(mkH [])) (λq=>?_) (λE n=>?_)
   ·refine oS 12 (λc=>?_) (λc=>?_)
    ·refine oLH 10 g92p6 [(1,.i a),(5,.i (fW .i64 (fW .i64 (fW .u8 (a0 - 97))+10)))] (mkH []) ?_
     exact g (fW .i64 (fW .i64 (fW .u8 (a0 - 97))+10))
    ·refine oH 6 (atN 3 (ctl1 g92p10)) [(26,.bool (decide (65≤a0))),(25,.bool (decide (65≤a0))),(24,.y a0),(12,.bool false),(0,.y a0),(1,.i a),(5,.i (-1)),(12,.bool q)] (mkH []) ?_
     refine oJ g92p13 (λ(z:Bool)=>[(0,.y a0),(1,.i a),(5,.i (-1)),(23,.bool z)]) (λ(z:Bool)=>(mkH [])) (λz=>?_) (λI o=>?_)
     ·refine oS 23 (λc=>?_) (λc=>?_)
      ·refine oLH 10 g92p6 [(1,.i a),(5,.i (fW .i64 (fW .i64 (fW .u8 (a0 - 65))+10)))] (mkH []) ?_
       exact g (fW .i64 (fW .i64 (fW .u8 (a0 - 65))+10))
      ·refine oLH 4 g92p6 [(1,.i a),(5,.i (-1))] (mkH []) ?_
       exact g (-1)
     ·refine oS 26 (λc=>?_) (λc=>?_)
      ·refine oLH 5 g92p13 [(0,.y a0),(1,.i a),(5,.i (-1)),(23,.bool (decide (a0≤90)))] (mkH []) ?_
       exact o (decide (a0≤90))
      ·refine oLH 5 g92p13 [(0,.y a0),(1,.i a),(5,.i (-1)),(23,.bool false)] (mkH []) ?_
       exact o false
   ·refine oS 15 (λc=>?_) (λc=>?_)
    ·refine oLH 5 g92p7 [(0,.y a0),(1,.i a),(5,.i (-1)),(12,.bool (decide (a0≤122)))] (mkH []) ?_
     exact n (decide (a0≤122))
    ·refine oLH 5 g92p7 [(0,.y a0),(1,.i a),(5,.i (-1)),(12,.bool false)] (mkH []) ?_
     exact n false
def Xg73:Fx Int:=⟨Try.prog,cx,Try.f73,λr => .i r,0,λ_=>H0,cxTi,cxOrd,λ_=>none,false⟩
def g73p2:Pt:=nav [0,0,0,0,0] (nav [0,0,0] (nav [0] (bodyAt Try.f73)))
def g73p4:Pt:=nav [0,0] (nav [0,0,0] g73p2)
def g73p5:Pt:=nav [1,0,0,0,0] g73p4
def g73p6:Pt:=nav [2,0,0] g73p4
def g73p7:Pt:=nav [0,0] g73p5
def qKn (k:Nat)  (a0:LN) (u:Int) (x:Int) (D:Bool) (ih:Int→Option Int):Int→Option Int :=
 λ(a:Int)=>jn (λ(E:Int)=>some (fW .i64 (E - u))) (λz=>if (decide (a < (a0.length:Int))) then ((nthS a0 a).bind λn=>(g92 k n x).bind λo=>jn (λ(q:Bool×Int)=>if q.1 then (z q.2) else (ih (fW .i64 (q.2+1)))) (λb=>if (decide (o < 0)) then (if D then ((nthS a0 a).bind λc=>if (decide (c=95)) then (if (decide (u < a)) then ((nthS a0 (fW .i64 (a - 1))).bind λg=>if (!decide (g=95)) then (if (decide (fW .i64 (a+1) < (a0.length:Int))) then ((nthS a0 (fW .i64 (a+1))).bind λh=>(g92 k h x).bind λj=>b (!(decide (0≤j)),a)) else (b (true,a))) else (b (true,a))) else (b (true,a))) else (b (true,a))) else (b (true,a))) else (b (false,a)))) else (z a))
def qG5 (k:Nat)  (a0:LN) (a:Int) (b:Int) (c:Bool) (n:Nat):Int→Option Int:=lp (λ_=>none) (qKn k a0 a b c) n
theorem qN4 (k:Nat)  (a0:LN) (u:Int) (x:Int) (z:Bool) (n:Nat) (a:Int):qG5 k a0 u x z (n+1) a=(jn (λ(I:Int)=>some (fW .i64 (I - u))) (λE=>if (decide (a < (a0.length:Int))) then ((nthS a0 a).bind λo=>(g92 k o x).bind λq=>jn (λ(D:Bool×Int)=>if D.1 then (E D.2) else ((qG5 k a0 u x z n) (fW .i64 (D.2+1)))) (λb=>if (decide (q < 0)) then (if z then ((nthS a0 a).bind λc=>if (decide (c=95)) then (if (decide (u < a)) then ((nthS a0 (fW .i64 (a - 1))).bind λg=>if (!decide (g=95)) then (if (decide (fW .i64 (a+1) < (a0.length:Int))) then ((nthS a0 (fW .i64 (a+1))).bind λh=>(g92 k h x).bind λj=>b (!(decide (0≤j)),a)) else (b (true,a))) else (b (true,a))) else (b (true,a))) else (b (true,a))) else (b (true,a))) else (b (false,a)))) else (E a))):=rfl
theorem qRh (k:Nat)   (a0:LN) (j:Int) (o:Int) (x:Bool)  : ∀ (n:Nat) (a:Int),Ok Xg73 g73p2 [(0,.str a0),(1,.i j),(2,.i o),(3,.bool x),(9,.i a)] (mkH []) (qG5 k a0 j o x n a):=by
 intro n
 induction n with
 | zero=>intro a; exact ok_none
 | succ n ih =>
  intro a
  show Ok _ _ _ _ (qKn k a0 j o x (qG5 k a0 j o x n) a)
  unfold qKn
  refine qAi (p':=nav [0] g73p2) Kr ?_
  let U:Env:=[(14,.bool (decide (a < (a0.length:Int)))),(13,.i (a0.length:Int)),(12,.str a0),(11,.i a),(0,.str a0),(1,.i j),(2,.i o),(3,.bool x),(9,.i a)]
  refine oH 8 g73p4 U (mkH []) ?_
  refine oJ g73p6 (λ(Y:Int)=>[(1,.i j),(9,.i Y)]) (λ(Y:Int)=>(mkH [])) (λY=>?_) (λj3 K=>?_)
  ·exact oQ 7
  ·refine oS 14 (λz=>?_) (λz=>?_)
   ·refine oH 8 (atN 2 (ctl1 g73p5)) ((16,.i a)::(15,.str a0)::(14,.bool true)::U) (mkH []) ?_
    refine oC (λ(u:Int)=>(.y u,(mkH []))) (atN 3 (ctl1 g73p5)) 17 (idxH Kr) λu Z=>?_
    let E4:Env:=((18,.i o)::(17,.y u)::(16,.i a)::(15,.str a0)::(14,.bool true)::U)
    refine oH 1 (atN 4 (ctl1 g73p5)) E4 (mkH []) ?_
    refine oA (λ(g:Int) => .i g) (atN 5 (ctl1 g73p5)) 19 [.y u,.i o] (qN1 k u o) λg a5=>?_
    refine oR 2 (atN 7 (ctl1 g73p5)) ((21,.bool (decide (g < 0)))::(20,.bool (decide (g < 0)))::(19,.i g)::E4) ?_
    refine oJ g73p7 (λ(E:Bool×Int)=>[(0,.str a0),(1,.i j),(2,.i o),(3,.bool x),(9,.i E.2),(58,.bool E.1)]) (λ(E:Bool×Int)=>(mkH [])) (λE=>?_) (λj2 D=>?_)
    ·refine oS 58 (λz=>?_) (λz=>?_)
     ·refine oLH 3 g73p6 [(1,.i j),(9,.i E.2)] (mkH []) ?_
      exact K E.2
     ·refine oLH 7 g73p2 [(0,.str a0),(1,.i j),(2,.i o),(3,.bool x),(9,.i (fW .i64 (E.2+1)))] (mkH []) ?_
      exact ih (fW .i64 (E.2+1))
    ·refine oS 21 (λz=>?_) (λz=>?_)
     ·let E9:Env:=((23,.bool x)::(22,.bool x)::(21,.bool true)::(21,.bool (decide (g < 0)))::(20,.bool (decide (g < 0)))::(19,.i g)::E4)
      refine oH 2 (atN 9 (ctl1 g73p5)) E9 (mkH []) ?_
      refine oS 23 (λz=>?_) (λz=>?_)
      ·refine oR 2 (atN 11 (ctl1 g73p5)) ((25,.i a)::(24,.str a0)::(23,.bool true)::E9) ?_
       refine oC (λ(b:Int)=>(.y b,(mkH []))) (atN 12 (ctl1 g73p5)) 26 (idxH Kr) λb O=>?_
       let M:Env:=((29,.bool (decide (b=95)))::(28,.bool (decide (b=95)))::(27,.bool (decide (b=95)))::(26,.y b)::(25,.i a)::(24,.str a0)::(23,.bool true)::E9)
       refine oH 3 (atN 15 (ctl1 g73p5)) M (mkH []) ?_
       refine oS 29 (λz=>?_) (λz=>?_)
       ·let I:Env:=((34,.bool (decide (j < a)))::(33,.bool (decide (j < a)))::(32,.bool (decide (j < a)))::(31,.i j)::(30,.i a)::(29,.bool true)::M)
        refine oR 5 (atN 20 (ctl1 g73p5)) I ?_
        refine oS 34 (λz=>?_) (λz=>?_)
        ·refine oR 3 (atN 23 (ctl1 g73p5)) ((37,.i (fW .i64 (a - 1)))::(36,.i a)::(35,.str a0)::(34,.bool true)::I) ?_
         refine oC (λ(c:Int)=>(.y c,(mkH []))) (atN 24 (ctl1 g73p5)) 38 (idxH Kr) λc Q=>?_
         let N:Env:=((41,.bool (!decide (c=95)))::(40,.bool (!decide (c=95)))::(39,.bool (!decide (c=95)))::(38,.y c)::(37,.i (fW .i64 (a - 1)))::(36,.i a)::(35,.str a0)::(34,.bool true)::I)
         refine oH 3 (atN 27 (ctl1 g73p5)) N (mkH []) ?_
         refine oS 41 (λz=>?_) (λz=>?_)
         ·let J:Env:=((48,.bool (decide (fW .i64 (a+1) < (a0.length:Int))))::(47,.bool (decide (fW .i64 (a+1) < (a0.length:Int))))::(46,.bool (decide (fW .i64 (a+1) < (a0.length:Int))))::(45,.i (a0.length:Int))::(44,.str a0)::(43,.i (fW .i64 (a+1)))::(42,.i a)::(41,.bool true)::N)
          refine oR 7 (atN 34 (ctl1 g73p5)) J ?_
          refine oS 48 (λz=>?_) (λz=>?_)
          ·refine oR 3 (atN 37 (ctl1 g73p5)) ((51,.i (fW .i64 (a+1)))::(50,.i a)::(49,.str a0)::(48,.bool true)::J) ?_
           refine oC (λ(h:Int)=>(.y h,(mkH []))) (atN 38 (ctl1 g73p5)) 52 (idxH Kr) λh S=>?_
           refine oH 1 (atN 39 (ctl1 g73p5)) ((53,.i o)::(52,.y h)::(51,.i (fW .i64 (a+1)))::(50,.i a)::(49,.str a0)::(48,.bool true)::J) (mkH []) ?_
           refine oA (λ(q:Int) => .i q) (atN 40 (ctl1 g73p5)) 54 [.y h,.i o] (qN1 k h o) λq T=>?_
           refine oL 5 g73p7 [(0,.str a0),(1,.i j),(2,.i o),(3,.bool x),(9,.i a),(58,.bool (!(decide (0≤q))))] ?_
           exact D (!(decide (0≤q)),a)
          ·refine oL 11 g73p7 [(0,.str a0),(1,.i j),(2,.i o),(3,.bool x),(9,.i a),(58,.bool true)] ?_
           exact D (true,a)
         ·refine oL 18 g73p7 [(0,.str a0),(1,.i j),(2,.i o),(3,.bool x),(9,.i a),(58,.bool true)] ?_
          exact D (true,a)
        ·refine oL 25 g73p7 [(0,.str a0),(1,.i j),(2,.i o),(3,.bool x),(9,.i a),(58,.bool true)] ?_
         exact D (true,a)
       ·refine oL 30 g73p7 [(0,.str a0),(1,.i j),(2,.i o),(3,.bool x),(9,.i a),(58,.bool true)] ?_
        exact D (true,a)
      ·refine oL 36 g73p7 [(0,.str a0),(1,.i j),(2,.i o),(3,.bool x),(9,.i a),(58,.bool true)] ?_
       exact D (true,a)
     ·refine oLH 38 g73p7 [(0,.str a0),(1,.i j),(2,.i o),(3,.bool x),(9,.i a),(58,.bool false)] (mkH []) ?_
      exact D (false,a)
   ·refine oLH 3 g73p6 [(1,.i j),(9,.i a)] (mkH []) ?_
    exact K a
def g73 (k:Nat) (a0:LN) (a:Int) (b:Int) (c:Bool):Option Int :=
 qG5 k a0 a b c k a
theorem qHc (k:Nat) (a0:LN) (a:Int) (b:Int) (c:Bool) (r:Int) (h:g73 k a0 a b c=some r):PureOk Try.prog 73 [.str a0,.i a,.i b,.bool c] (.i r):=by
 refine qA4 Xg73 (λ_=>⟨rfl,rfl⟩) Try.func73 (by decide +kernel) Kr (t:=g73 k a0 a b c) ?_ h
 unfold g73
 refine qA (eE:=[(0,.str a0),(1,.i a),(2,.i b),(3,.bool c)]) Kr ?_
 refine oLH 12 g73p2 [(0,.str a0),(1,.i a),(2,.i b),(3,.bool c),(9,.i a)] (mkH []) ?_
 exact (qRh k a0 a b c k) a
def Xg61:Fx Int:=⟨Try.prog,cx,Try.f61,λr => .i r,0,λ_=>H0,cxTi,cxOrd,λ_=>none,false⟩
def g61p1:Pt:=nav [0,0,0] (nav [0] (bodyAt Try.f61))
def g61p2:Pt:=nav [0,0,0,0] g61p1
def g61p3:Pt:=nav [0,0] g61p2
def g61p5:Pt:=nav [2,0,0] g61p3
def g61p8:Pt:=nav [0,0] (nav [0,0,0,0] g61p5)
def g61p11:Pt:=nav [0,0,0,0] (nav [2,0,0] g61p8)
def g61p12:Pt:=nav [0,0] g61p11
def g61p14:Pt:=nav [2,0,0] g61p12
def g61p15:Pt:=nav [0,0,0,0] (nav [1,0] g61p12)
def g61p16:Pt:=nav [0,0] g61p15
def g61p18:Pt:=nav [2,0,0] g61p16
end
end Go.Proofs.Ythpplbkobokghaa.Am
