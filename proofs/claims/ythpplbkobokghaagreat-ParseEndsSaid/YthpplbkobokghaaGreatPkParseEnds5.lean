/- LawParseEnds, part 5: whatever the input, the law comes out true: our texts, joined by a tool, without what the claim does not name. -/
import Derived.Test.YthpplbkobokghaaGreatPkParseEnds4
set_option maxRecDepth 100000
set_option linter.unusedVariables false
set_option linter.unusedSimpArgs false
set_option maxRecDepth 100000
set_option linter.unusedVariables false
namespace Go.Proofs.YthpplbkobokghaaGreat.Am
noncomputable section
open Go
structure FnsOk1 (F:Fns1):Prop where
 i20_ok:Pi20 (F.i20)
 i21_ok:Pi21 (F.i21)
 i22_ok:Pi22 (F.i22)
 i30_ok:Pi30 (F.i30)
 i34_ok:Pi34 (F.i34)
 i49_ok:Pi49 (F.i49)
 i50_ok:Pi50 (F.i50)
 i52_ok:Pi52 (F.i52)
 i53_ok:Pi53 (F.i53)
 i67_ok:Pi67 (F.i67)
 i68_ok:Pi68 (F.i68)
 i69_ok:Pi69 (F.i69)
 i70_ok:Pi70 (F.i70)
 i71_ok:Pi71 (F.i71)
 i73_ok:Pi73 (F.i73)
 i74_ok:Pi74 (F.i74)
 i75_ok:Pi75 (F.i75)
 i81_ok:Pi81 (F.i81)
 i82_ok:Pi82 (F.i82)
 i83_ok:Pi83 (F.i83)
 i84_ok:Pi84 (F.i84)
 i87_ok:Pi87 (F.i87)
def i20p1:Pt:=nav [0,0,0,0] (nav [0] (bodyAt Tryz.f24))
def i20p2:Pt:=nav [0,0] i20p1
def i20p3:Pt:=nav [1,0] i20p2
def i20p4:Pt:=nav [2,0,0] i20p2
def i20p5:Pt:=nav [0,0,0] i20p3
def i20p6:Pt:=nav [0,0,0,0,0] i20p4
def i20p9:Pt:=nav [0,0] (nav [0,0,0] i20p6)
def i20p10:Pt:=nav [1,0,0,0] i20p9
def i20p11:Pt:=nav [2,0,0] i20p9
def i20p12:Pt:=nav [0,0,0] i20p10
def i20p13:Pt:=nav [0,0,0,0] i20p12
def i20p14:Pt:=nav [0,0] i20p13
def i20p15:Pt:=nav [2,0,0] i20p14
def i20p16:Pt:=nav [0,0,0] i20p15
def i20d0:DP:=⟨[70],[(0,0,0),(1,0,2),(0,0,2),(0,0,0),(0,0,0),(16,0,0),(48,0,0),(120,0,0),(252,0,0),(511,0,0),(1023,0,0)],11,thrown,[],H0⟩
def qFg (k:Nat) (F:Fns1)  (C:Int) (z:LN) (A:List S43) (B:Int) (ih:Int→Int→Bool→S28→Option Ri20):Int→Int→Bool→S28→Option Ri20 :=
 λ(o:Int) (b:Int) (a:Bool) (c:S28)=>jn (λ(r:Int×Bool×S28)=>some (r.2.2,r.1,r.2.1)) (λu=>if (!a) then ((i31 k z A b B a).bind λg=>(g59 k g.f1).bind λh=>jn (λ(j:Bool×Int×Bool×S28)=>if j.1 then (u (j.2.1,j.2.2.1,j.2.2.2)) else ((i29 k z A j.2.1 B j.2.2.1).bind λq=>(g61 k g.f1).bind λx=>(F.i20 x z A q.2.1 B q.2.2).bind λn=>ih h n.2.1 n.2.2 (⟨14,g.f1,(⟨(([j.2.2.2,n.1]:List S28)).length,(([j.2.2.2,n.1]:List S28)).flatMap e29⟩:Raw),false,false,([]:LL),([]:LL)⟩:S28))) (λl=>if (!decide (g.f0=9)) then (if (!decide (g.f0=8)) then (l (true,b,a,c)) else (if (decide (h=0)) then (l (true,b,a,c)) else (if (decide (h < C)) then (l (true,b,a,c)) else ((g60 k g.f1).bind λm=>l (decide (o < m),b,a,c))))) else (if (decide (h=0)) then (l (true,b,a,c)) else (if (decide (h < C)) then (l (true,b,a,c)) else ((g60 k g.f1).bind λm=>l (decide (o < m),b,a,c)))))) else (u (b,a,c)))
def qHq (k:Nat) (F:Fns1)  (a:Int) (b:LN) (c:List S43) (g:Int) (n:Nat):Int→Int→Bool→S28→Option Ri20:=lp (λ_ _ _ _=>none) (qFg k F a b c g) n
theorem qKx (k:Nat) (F:Fns1) (hF:FnsOk1 F) (u:Int) (B:LN) (C:List S43) (a3:Int) (D:Int) (a5:Bool)    : ∀ (n:Nat) (m:Int) (l:Int) (h:Bool) (c:S28),Ok (Xi20 u B C a3 D a5) i20p6 [(0,.ptr 0 5 0),(1,.i u),(4,.ptr 1 7 0),(5,.ptr 2 7 0),(6,.i m)] (mkH [⟨[.str B,w44 C,.i l,.i D,.bool h],5,false⟩,⟨[.i 0,.str [],.nils,.bool false,.bool false,.nils,.nils],0,false⟩,⟨[.i c.f0,.str c.f1,q29 c.f2,.bool c.f3,.bool c.f4,w9 c.f5,w9 c.f6],7,false⟩]) (qHq k F u B C D n m l h c):=by
 intro n
 induction n with
 | zero=>intro m l h c; exact ok_none
 | succ n ih =>
  intro m l h c
  show Ok _ _ _ _ (qFg k F u B C D (qHq k F u B C D n) m l h c)
  unfold qFg
  refine qAd (p':=nav [0] i20p6) Kr ?_
  let E6:Env:=[(30,.bool (!h)),(29,.bool h),(28,.ptr 0 5 4),(27,.ptr 0 5 0),(26,.ptr 0 5 0),(0,.ptr 0 5 0),(1,.i u),(4,.ptr 1 7 0),(5,.ptr 2 7 0),(6,.i m)]
  let N:Blk:=⟨[.str B,w44 C,.i l,.i D,.bool h],5,false⟩
  let A:Blk:=⟨[.i 0,.str [],.nils,.bool false,.bool false,.nils,.nils],0,false⟩
  refine oH 9 i20p9 E6 (mkH [N,A,⟨e29 c,7,false⟩]) ?_
  refine oJ i20p11 (λ(x:Int×Bool×S28)=>[(4,.ptr 1 7 0),(5,.ptr 2 7 0)]) (λ(x:Int×Bool×S28)=>(mkH [⟨[.str B,w44 C,.i x.1,.i D,.bool x.2.1],5,false⟩,A,⟨e29 x.2.2,7,false⟩])) (λx=>?_) (λb8 J=>?_)
  ·exact oQF 5 [⟨[.str B,w44 C,.i x.1,.i D,.bool x.2.1],5,false⟩,⟨e29 x.2.2,7,false⟩,⟨e29 x.2.2,7,false⟩] 1 [] [n29 x.2.2] (n29 x.2.2) .ps trivial
  ·refine oS 30 (λE=>?_) (λE=>?_)
   ·refine oH 6 (atN 1 (ctl1 i20p10)) ((31,.ptr 0 5 0)::(30,.bool true)::E6) (mkH [N,A,⟨e29 c,7,false⟩]) ?_
    refine oN (λ(a:S43)=>n44 a) (λa=>[N,A,⟨e29 c,7,false⟩]) (atN 2 (ctl1 i20p10)) 32 [0] [] [] [.ptr 0 5 0] (qBh k B C l D h) trivial (λ_=>trivial) λa Y=>?_
    let Z:List Blk:=[N,A,⟨e29 c,7,false⟩,⟨e44 a,3,false⟩]
    refine oLH 4 i20p12 [(0,.ptr 0 5 0),(1,.i u),(4,.ptr 1 7 0),(5,.ptr 2 7 0),(6,.i m),(7,.ptr 3 3 0)] (mkH Z) ?_
    let E7:Env:=[(0,.ptr 0 5 0),(1,.i u),(4,.ptr 1 7 0),(5,.ptr 2 7 0),(6,.i m),(7,.ptr 3 3 0)]
    refine oR 3 (atN 2 (ctl1 i20p12)) ((34,.str a.f1)::(33,.ptr 3 3 1)::E7) ?_
    refine oA (λ(b:Int) => .i b) (atN 3 (ctl1 i20p12)) 35 [.str a.f1] (qK4 k a.f1) λb a6=>?_
    let E8:Env:=((39,.bool (!decide (a.f0=9)))::(38,.bool (!decide (a.f0=9)))::(37,.i a.f0)::(36,.ptr 3 3 0)::(8,.i b)::(35,.i b)::(34,.str a.f1)::(33,.ptr 3 3 1)::E7)
    refine oR 9 (atN 4 (ctl1 i20p13)) E8 ?_
    refine oJ i20p14 (λ(g:Bool×Int×Bool×S28)=>[(0,.ptr 0 5 0),(1,.i u),(4,.ptr 1 7 0),(5,.ptr 2 7 0),(7,.ptr 3 3 0),(8,.i b),(59,.bool g.1)]) (λ(g:Bool×Int×Bool×S28)=>(mkH [⟨[.str B,w44 C,.i g.2.1,.i D,.bool g.2.2.1],5,false⟩,A,⟨e29 g.2.2.2,7,false⟩,⟨e44 a,3,false⟩])) (λg=>?_) (λb9 z=>?_)
    ·refine oS 59 (λE=>?_) (λE=>?_)
     ·let Q3:Blk:=⟨[.str B,w44 C,.i g.2.1,.i D,.bool g.2.2.1],5,false⟩
      refine oLH 3 i20p11 [(4,.ptr 1 7 0),(5,.ptr 2 7 0)] (mkH [Q3,A,⟨e29 g.2.2.2,7,false⟩,⟨e44 a,3,false⟩]) ?_
      refine qA8 [Q3,A,⟨e29 g.2.2.2,7,false⟩] [⟨e44 a,3,false⟩] Kr rfl Kr ⟨Kr,⟨Kr,⟨Kr,trivial⟩⟩⟩ ?_
      exact J (g.2.1,g.2.2.1,g.2.2.2)
     ·let O:Env:=[(60,.ptr 0 5 0),(59,.bool false),(0,.ptr 0 5 0),(1,.i u),(4,.ptr 1 7 0),(5,.ptr 2 7 0),(7,.ptr 3 3 0),(8,.i b),(59,.bool g.1)]
      refine oH 5 (atN 1 (ctl1 i20p15)) O (mkH [⟨[.str B,w44 C,.i g.2.1,.i D,.bool g.2.2.1],5,false⟩,A,⟨e29 g.2.2.2,7,false⟩,⟨e44 a,3,false⟩]) ?_
      refine oN (λ(q:Ri29) => .i q.1) (λq=>[⟨[.str B,w44 C,.i q.2.1,.i D,.bool q.2.2],5,false⟩,A,⟨e29 g.2.2.2,7,false⟩,⟨e44 a,3,false⟩]) (atN 2 (ctl1 i20p15)) 61 [0] [] [] [.ptr 0 5 0] (qAk k B C g.2.1 D g.2.2.1) trivial (λ_=>trivial) λq a8=>?_
      refine oR 2 i20p16 ((61,.i q.1)::O) ?_
      refine qA7 (λr L=>?_)
      refine qA7 (λj M=>?_)
      let G:Env:=[(67,.str a.f1),(66,.ptr 3 3 1),(65,.ptr 0 5 0),(64,n29 g.2.2.2),(63,.str a.f1),(62,.ptr 3 3 1),(61,.i q.1),(60,.ptr 0 5 0),(59,.bool false),(0,.ptr 0 5 0),(1,.i u),(4,.ptr 1 7 0),(5,.ptr 2 7 0),(7,.ptr 3 3 0),(8,.i b),(59,.bool g.1)]
      let K:Blk:=⟨[.str B,w44 C,.i j.2.1,.i D,.bool j.2.2],5,false⟩
      let Q:Blk:=⟨[.i 14,.str a.f1,w29 ([g.2.2.2,j.1]:List S28),.bool false,.bool false,.nils,.nils],7,false⟩
      let K2:List Blk:=[⟨[.str B,w44 C,.i q.2.1,.i D,.bool q.2.2],5,false⟩,A,⟨e29 g.2.2.2,7,false⟩,⟨e44 a,3,false⟩]
      let K3:List Blk:=[K,A,⟨e29 g.2.2.2,7,false⟩,⟨e44 a,3,false⟩]
      refine oD (H':=(mkH [K,A,Q,⟨e44 a,3,false⟩])) (nav [0] i20p16) ((71,.agg [.i 14,.str a.f1,w29 ([g.2.2.2,j.1]:List S28),.bool false,.bool false,.nils,.nils])::(70,w29 ([g.2.2.2,j.1]:List S28))::(69,n29 j.1)::(68,.i r)::G) [(mkH K2),(mkH K3),(mkH [K,A,Q,⟨e44 a,3,false⟩])] i20d0 (oDr 6 6 G (qAq (l':=(opsAt i20p16).toList.drop 7) (eE:=((68,.i r)::G)) (hs:=[(mkH K2)]) (fi:=61) (args:=[.str a.f1]) (v := .i r) Kr Kr Kr (g61_ok k a.f1 r L) Kr (qA6 (l':=(opsAt i20p16).toList.drop 8) (eE:=((69,n29 j.1)::(68,.i r)::G)) (hs:=[(mkH K3)]) (H':=(mkH K3)) (fi:=24) (args:=[.ptr 0 5 0,.i r]) (v:=n29 j.1) Kr (frC (rs:=[0]) (ms:=[]) (ms':=[]) (hF.i20_ok r B C q.2.1 D q.2.2 j M) trivial trivial Kr) Kr (oDh 3 11 ((71,.agg [.i 14,.str a.f1,w29 ([g.2.2.2,j.1]:List S28),.bool false,.bool false,.nils,.nils])::(70,w29 ([g.2.2.2,j.1]:List S28))::(69,n29 j.1)::(68,.i r)::G) (mkH [K,A,Q,⟨e44 a,3,false⟩]) [(mkH [K,A,Q,⟨e44 a,3,false⟩])] .nil)))) ?_
      refine oR 4 i20p6 ((6,.i b)::(72,.i b)::(71,.agg [.i 14,.str a.f1,w29 ([g.2.2.2,j.1]:List S28),.bool false,.bool false,.nils,.nils])::(70,w29 ([g.2.2.2,j.1]:List S28))::(69,n29 j.1)::(68,.i r)::G) ?_
      refine qAw [K,A,Q,⟨e44 a,3,false⟩] 2 7 [.i 14,.str a.f1,w29 ([g.2.2.2,j.1]:List S28),.bool false,.bool false,.nils,.nils] [.i 14,.str a.f1,w29 ([g.2.2.2,j.1]:List S28),.bool false,.bool false,w9 ([]:LL),w9 ([]:LL)] Kr rfl (.cons (.cons (.cons (.cons (.cons (.nil (.nil (.refl)))))))) ?_
      let Q7:Blk:=⟨[.i 14,.str a.f1,w29 ([g.2.2.2,j.1]:List S28),.bool false,.bool false,w9 ([]:LL),w9 ([]:LL)],7,false⟩
      refine oHp (mkH [K,A,Q7,⟨e44 a,3,false⟩]) ?_
      refine oK [0,1,4,5,6] [(0,.ptr 0 5 0),(1,.i u),(4,.ptr 1 7 0),(5,.ptr 2 7 0),(6,.i b)] ?_
      refine qA8 [K,A,Q7] [⟨e44 a,3,false⟩] Kr rfl Kr ⟨Kr,⟨Kr,⟨Kr,trivial⟩⟩⟩ ?_
      exact ih b j.2.1 j.2.2 (⟨14,a.f1,(⟨(([g.2.2.2,j.1]:List S28)).length,(([g.2.2.2,j.1]:List S28)).flatMap e29⟩:Raw),false,false,([]:LL),([]:LL)⟩:S28)
    ·refine oS 39 (λE=>?_) (λE=>?_)
     ·let S:Env:=((44,.bool (!decide (a.f0=8)))::(43,.bool (!decide (a.f0=8)))::(42,.bool (!decide (a.f0=8)))::(41,.i a.f0)::(40,.ptr 3 3 0)::(39,.bool true)::E8)
      refine oH 5 (atN 9 (ctl1 i20p13)) S (mkH Z) ?_
      refine oS 44 (λE=>?_) (λE=>?_)
      ·refine oL 16 i20p14 [(0,.ptr 0 5 0),(1,.i u),(4,.ptr 1 7 0),(5,.ptr 2 7 0),(7,.ptr 3 3 0),(8,.i b),(59,.bool true)] ?_
       exact z (true,l,h,c)
      ·let T:Env:=((48,.bool (decide (b=0)))::(47,.bool (decide (b=0)))::(46,.bool (decide (b=0)))::(45,.i b)::(44,.bool false)::S)
       refine oR 4 (atN 13 (ctl1 i20p13)) T ?_
       refine oS 48 (λE=>?_) (λE=>?_)
       ·refine oL 12 i20p14 [(0,.ptr 0 5 0),(1,.i u),(4,.ptr 1 7 0),(5,.ptr 2 7 0),(7,.ptr 3 3 0),(8,.i b),(59,.bool true)] ?_
        exact z (true,l,h,c)
       ·let U:Env:=((53,.bool (decide (b < u)))::(52,.bool (decide (b < u)))::(51,.bool (decide (b < u)))::(50,.i u)::(49,.i b)::(48,.bool false)::T)
        refine oR 5 (atN 18 (ctl1 i20p13)) U ?_
        refine oS 53 (λE=>?_) (λE=>?_)
        ·refine oL 7 i20p14 [(0,.ptr 0 5 0),(1,.i u),(4,.ptr 1 7 0),(5,.ptr 2 7 0),(7,.ptr 3 3 0),(8,.i b),(59,.bool true)] ?_
         exact z (true,l,h,c)
        ·refine oR 3 (atN 21 (ctl1 i20p13)) ((56,.str a.f1)::(55,.ptr 3 3 1)::(54,.i m)::(53,.bool false)::U) ?_
         refine oA (λ(o:Int) => .i o) (atN 22 (ctl1 i20p13)) 57 [.str a.f1] (g60_ok k a.f1) λo I=>?_
         refine oL 3 i20p14 [(0,.ptr 0 5 0),(1,.i u),(4,.ptr 1 7 0),(5,.ptr 2 7 0),(7,.ptr 3 3 0),(8,.i b),(59,.bool (decide (m < o)))] ?_
         exact z (decide (m < o),l,h,c)
     ·let V:Env:=((48,.bool (decide (b=0)))::(47,.bool (decide (b=0)))::(46,.bool (decide (b=0)))::(45,.i b)::(44,.bool false)::(43,.bool false)::(42,.tuple [])::(41,.tuple [])::(40,.tuple [])::(39,.bool false)::E8)
      refine oH 9 (atN 13 (ctl1 i20p13)) V (mkH Z) ?_
      refine oS 48 (λE=>?_) (λE=>?_)
      ·refine oL 12 i20p14 [(0,.ptr 0 5 0),(1,.i u),(4,.ptr 1 7 0),(5,.ptr 2 7 0),(7,.ptr 3 3 0),(8,.i b),(59,.bool true)] ?_
       exact z (true,l,h,c)
      ·let W:Env:=((53,.bool (decide (b < u)))::(52,.bool (decide (b < u)))::(51,.bool (decide (b < u)))::(50,.i u)::(49,.i b)::(48,.bool false)::V)
       refine oR 5 (atN 18 (ctl1 i20p13)) W ?_
       refine oS 53 (λE=>?_) (λE=>?_)
       ·refine oL 7 i20p14 [(0,.ptr 0 5 0),(1,.i u),(4,.ptr 1 7 0),(5,.ptr 2 7 0),(7,.ptr 3 3 0),(8,.i b),(59,.bool true)] ?_
        exact z (true,l,h,c)
       ·refine oR 3 (atN 21 (ctl1 i20p13)) ((56,.str a.f1)::(55,.ptr 3 3 1)::(54,.i m)::(53,.bool false)::W) ?_
        refine oA (λ(o:Int) => .i o) (atN 22 (ctl1 i20p13)) 57 [.str a.f1] (g60_ok k a.f1) λo I=>?_
        refine oL 3 i20p14 [(0,.ptr 0 5 0),(1,.i u),(4,.ptr 1 7 0),(5,.ptr 2 7 0),(7,.ptr 3 3 0),(8,.i b),(59,.bool (decide (m < o)))] ?_
        exact z (decide (m < o),l,h,c)
   ·refine oLH 3 i20p11 [(4,.ptr 1 7 0),(5,.ptr 2 7 0)] (mkH [N,A,⟨e29 c,7,false⟩]) ?_
    exact J (l,h,c)
def i20B (k:Nat) (F:Fns1) (o:Int) (g:LN) (h:List S43) (m:Int) (j:Int) (n:Bool):Option Ri20 :=
 jn (λ(r:Bool)=>if r then ((i29 k g h m j n).bind λc=>(F.i20 (0:Int) g h c.2.1 j c.2.2).bind λa=>some ((⟨(13:Int),([99,97,116,99,104]:LN),⟨(([a.1]:List S28)).length,(([a.1]:List S28)).flatMap e29⟩,false,false,([]:LL),([]:LL)⟩:S28),a.2.1,a.2.2)) else ((F.i30 g h m j n).bind λb=>qHq k F o g h j k b.2.1 b.2.2.1 b.2.2.2 b.1)) (λq=>if (decide (o≤0)) then ((i28 k ([99,97,116,99,104]:LN) g h m j n).bind λl=>q l) else (q false))
theorem i20B_all (k:Nat) (F:Fns1) (B:FnsOk1 F):∀ g j l o m q r,i20B k F g j l o m q=some r→CallT Tryz.prog 24 [.ptr 0 5 0,.i g] (mkH [⟨[.str j,w44 l,.i o,.i m,.bool q],5,false⟩]) ((Xi20 g j l o m q).thr r) ((Xi20 g j l o m q).enc r) ((Xi20 g j l o m q).fin r):=by
 intro g j l o m q r h
 refine qA0 (Xi20 g j l o m q) Tryz.func24 Kr Kr rfl (t:=i20B k F g j l o m q) ?_ h
 unfold i20B
 refine qA1 (eE:=[(0,.ptr 0 5 0),(1,.i g)]) Kr ?_
 let K:Env:=[(11,.bool (decide (g≤0))),(10,.bool (decide (g≤0))),(9,.i g),(4,.ptr 1 7 0),(0,.ptr 0 5 0),(1,.i g)]
 let x:Blk:=⟨[.str j,w44 l,.i o,.i m,.bool q],5,false⟩
 let u:Blk:=⟨[.i 0,.str [],.nils,.bool false,.bool false,.nils,.nils],0,false⟩
 refine oH 10 (atN 3 (ctl1 i20p1)) K (mkH [x,u]) ?_
 refine oJ i20p2 (λ(z:Bool)=>[(0,.ptr 0 5 0),(1,.i g),(4,.ptr 1 7 0),(14,.bool z)]) (λ(z:Bool)=>(mkH [x,u])) (λz=>?_) (λM A=>?_)
 ·refine oS 14 (λC=>?_) (λC=>?_)
  ·let D:Env:=[(15,.ptr 0 5 0),(14,.bool true),(0,.ptr 0 5 0),(1,.i g),(4,.ptr 1 7 0),(14,.bool z)]
   refine oH 4 (atN 1 (ctl1 i20p3)) D (mkH [x,u]) ?_
   refine oN (λ(c:Ri29) => .i c.1) (λc=>[⟨[.str j,w44 l,.i c.2.1,.i m,.bool c.2.2],5,false⟩,u]) (atN 2 (ctl1 i20p3)) 16 [0] [] [] [.ptr 0 5 0] (qAk k j l o m q) trivial (λ_=>trivial) λc E=>?_
   refine oR 4 (atN 1 (ctl1 i20p5)) ((17,.ptr 0 5 0)::(16,.i c.1)::D) ?_
   refine oN (λ(a:Ri20)=>n29 a.1) (λa=>[⟨[.str j,w44 l,.i a.2.1,.i m,.bool a.2.2],5,false⟩,u]) (atN 2 (ctl1 i20p5)) 18 [0] [] [] [.ptr 0 5 0,.i 0] (B.i20_ok (0:Int) j l c.2.1 m c.2.2) trivial (λ_=>trivial) λa G=>?_
   let L:Blk:=⟨[.str j,w44 l,.i a.2.1,.i m,.bool a.2.2],5,false⟩
   refine oH 1 (atN 3 (ctl1 i20p5)) ((19,.slice 2 7 0 1 7)::(18,n29 a.1)::(17,.ptr 0 5 0)::(16,.i c.1)::D) (mkH [L,u,⟨e29 a.1,0,false⟩]) ?_
   refine oZ 19 2 1 7 [.i a.1.f0,.str a.1.f1,q29 a.1.f2,.bool a.1.f3,.bool a.1.f4,w9 a.1.f5,w9 a.1.f6] [0,1,4,14,15,16,17,18] [] trivial ?_
   exact oQF 4 [L,⟨[.i 13,.str [99,97,116,99,104],w29 ([a.1]:List S28),.bool false,.bool false,.nils,.nils],7,false⟩,⟨[],0,false⟩] 1 [] [.agg [.i 13,.str [99,97,116,99,104],w29 ([a.1]:List S28),.bool false,.bool false,.nils,.nils]] (.agg [.i 13,.str [99,97,116,99,104],w29 ([a.1]:List S28),.bool false,.bool false,.vec 0 1 [],.vec 0 1 []]) (.agg (.cs (.cs (.cs (.cs (.cs (.nil (.nil .ps))))))) .ps) trivial
  ·refine oH 5 (atN 1 (ctl1 i20p4)) [(22,.ptr 0 5 0),(14,.bool false),(0,.ptr 0 5 0),(1,.i g),(4,.ptr 1 7 0),(14,.bool z)] (mkH [x,u]) ?_
   refine oN (λ(b:Ri30) => .tuple [n29 b.1,.i b.2.1]) (λb=>[⟨[.str j,w44 l,.i b.2.2.1,.i m,.bool b.2.2.2],5,false⟩,u]) (atN 2 (ctl1 i20p4)) 23 [0] [] [] [.ptr 0 5 0] (B.i30_ok j l o m q) trivial (λ_=>trivial) λb I=>?_
   refine oLH 10 i20p6 [(0,.ptr 0 5 0),(1,.i g),(4,.ptr 1 7 0),(5,.ptr 2 7 0),(6,.i b.2.1)] (mkH [⟨[.str j,w44 l,.i b.2.2.1,.i m,.bool b.2.2.2],5,false⟩,u,⟨e29 b.1,7,false⟩]) ?_
   exact (qKx k F B g j l o m q k) b.2.1 b.2.2.1 b.2.2.2 b.1
 ·refine oS 11 (λC=>?_) (λC=>?_)
  ·refine oH 1 (atN 4 (ctl1 i20p1)) ((12,.ptr 0 5 0)::(11,.bool true)::K) (mkH [x,u]) ?_
   refine oN (λ(n:Bool) => .bool n) (λn=>[x,u]) (atN 5 (ctl1 i20p1)) 13 [0] [] [] [.ptr 0 5 0,.str [99,97,116,99,104]] (qCo k ([99,97,116,99,104]:LN) j l o m q) trivial (λ_=>trivial) λn J=>?_
   refine oL 2 i20p2 [(0,.ptr 0 5 0),(1,.i g),(4,.ptr 1 7 0),(14,.bool n)] ?_
   exact A n
  ·refine oLH 4 i20p2 [(0,.ptr 0 5 0),(1,.i g),(4,.ptr 1 7 0),(14,.bool false)] (mkH [x,u]) ?_
   exact A false
theorem i20B_ok (k:Nat) (F:Fns1) (a:FnsOk1 F):Pi20 (i20B k F):=λb c g j l m=>λx h=>i20B_all k F a b c g j l m x h
def i21p2:Pt:=nav [0,0,0,0,0] (nav [0,0,0] (nav [0] (bodyAt Tryz.f30)))
def i21p4:Pt:=nav [0,0] (nav [0,0,0] i21p2)
def i21p6:Pt:=nav [2,0,0] i21p4
def i21p7:Pt:=nav [0,0,0] (nav [1,0,0,0] i21p4)
def i21p9:Pt:=nav [0,0,0] i21p7
def i21p10:Pt:=nav [0,0] i21p9
def i21p12:Pt:=nav [0,0,0] (nav [0,0,0] i21p10)
def i21p13:Pt:=nav [0,0,0,0] i21p12
def i21p14:Pt:=nav [0,0] i21p13
def i21p15:Pt:=nav [2,0] i21p14
def i21d0:DP:=⟨[],[(0,0,0),(1,0,0),(3,0,0),(7,0,0),(15,0,0),(31,0,0),(63,0,0),(127,0,0),(255,0,0),(511,0,0),(1023,0,0),(2047,0,0),(4095,0,0),(8191,0,0),(16383,0,0),(32767,0,0),(4095,0,0),(69631,0,0),(200703,0,0),(462847,0,0),(4095,0,0),(2097151,0,0),(4194303,0,0),(8388607,0,0),(16777215,0,0)],25,thrown,[],H0⟩
def qHp (k:Nat) (F:Fns1)  (n:LN) (o:List S43) (r:Int) (ih:Int→Bool→(List S28)→Option Ri21):Int→Bool→(List S28)→Option Ri21 :=
 λ(g:Int) (b:Bool) (c:List S28)=>jn (λ(u:Int×Bool×(List S28))=>some ((⟨(25:Int),([]:LN),⟨(u.2.2).length,(u.2.2).flatMap e29⟩,false,false,([]:LL),([]:LL)⟩:S28),u.1,u.2.1)) (λA=>if (!b) then ((i32 k n o g r b).bind λh=>jn (λ(x:Bool×Bool×(List S28))=>(F.i20 (0:Int) n o h.2 r x.2.1).bind λa=>(appS 104 x.2.2 ([(⟨a.1.f0,a.1.f1,a.1.f2,a.1.f3,x.1,h.1,a.1.f6⟩:S28)]:List S28)).bind λj=>(i33 k ([44]:LN) n o a.2.1 r a.2.2).bind λq=>if (!q) then (A (a.2.1,a.2.2,j)) else ((i29 k n o a.2.1 r a.2.2).bind λl=>ih l.2.1 l.2.2 j)) (λz=>if (decide (0 < (c.length:Int))) then (if (!b) then ((g66 k n o g).bind λm=>z (decide (2≤m),b,c)) else (z (false,b,c))) else (z (false,b,c)))) else (A (g,b,c)))
def qN3 (k:Nat) (F:Fns1)  (a:LN) (b:List S43) (c:Int) (n:Nat):Int→Bool→(List S28)→Option Ri21:=lp (λ_ _ _=>none) (qHp k F a b c) n
theorem qN2 (k:Nat) (F:Fns1) (hF:FnsOk1 F) (o:LN) (q:List S43) (a2:Int) (x:Int) (a4:Bool)    : ∀ (n:Nat) (h:Int) (g:Bool) (b:List S28),Ok (Xi21 o q a2 x a4) i21p2 [(0,.ptr 0 5 0),(2,.ptr 1 7 0),(3,.ptr 2 7 0)] (mkH [⟨[.str o,w44 q,.i h,.i x,.bool g],5,false⟩,⟨[.i 0,.str [],.nils,.bool false,.bool false,.nils,.nils],0,false⟩,⟨[.i 25,.str [],.own 3 (b).length 7,.bool false,.bool false,.nils,.nils],7,false⟩,⟨(b).flatMap e29,0,false⟩]) (qN3 k F o q x n h g b):=by
 intro n
 induction n with
 | zero=>intro h g b; exact ok_none
 | succ n ih =>
  intro h g b
  show Ok _ _ _ _ (qHp k F o q x (qN3 k F o q x n) h g b)
  unfold qHp
  refine qAd (p':=nav [0] i21p2) Kr ?_
  let Q1:Blk:=⟨[.str o,w44 q,.i h,.i x,.bool g],5,false⟩
  let m:Blk:=⟨[.i 0,.str [],.nils,.bool false,.bool false,.nils,.nils],0,false⟩
  let C:Blk:=⟨[.i 25,.str [],.own 3 (b).length 7,.bool false,.bool false,.nils,.nils],7,false⟩
  let D:Blk:=⟨(b).flatMap e29,0,false⟩
  refine oH 9 i21p4 [(13,.bool (!g)),(12,.bool g),(11,.ptr 0 5 4),(10,.ptr 0 5 0),(9,.ptr 0 5 0),(0,.ptr 0 5 0),(2,.ptr 1 7 0),(3,.ptr 2 7 0)] (mkH [Q1,m,C,D]) ?_
  refine oJ i21p6 (λ(G:Int×Bool×(List S28))=>[(2,.ptr 1 7 0),(3,.ptr 2 7 0)]) (λ(G:Int×Bool×(List S28))=>(mkH [⟨[.str o,w44 q,.i G.1,.i x,.bool G.2.1],5,false⟩,m,⟨[.i 25,.str [],.own 3 (G.2.2).length 7,.bool false,.bool false,.nils,.nils],7,false⟩,⟨(G.2.2).flatMap e29,0,false⟩])) (λG=>?_) (λj8 Z=>?_)
  ·let Q5:Blk:=⟨[.i 25,.str [],.own 3 (G.2.2).length 7,.bool false,.bool false,.nils,.nils],7,false⟩
   exact oQF 5 [⟨[.str o,w44 q,.i G.1,.i x,.bool G.2.1],5,false⟩,Q5,Q5,⟨(G.2.2).flatMap e29,0,false⟩] 1 [] [.agg [.i 25,.str [],.own 3 (G.2.2).length 7,.bool false,.bool false,.nils,.nils]] (.agg [.i 25,.str [],w29 G.2.2,.bool false,.bool false,.vec 0 1 [],.vec 0 1 []]) (.agg (.cs (.cs (qAl qA2 qAf rfl rfl rfl (.cs (.cs (.nil (.nil .ps))))))) .ps) trivial
  ·refine oS 13 (λhb=>?_) (λhb=>?_)
   ·let E3:Env:=[(0,.ptr 0 5 0),(2,.ptr 1 7 0),(3,.ptr 2 7 0),(4,.i h)]
    refine oLH 12 i21p7 E3 (mkH [Q1,m,C,D]) ?_
    refine oR 2 (atN 1 (ctl1 i21p7)) ((18,.ptr 0 5 0)::E3) ?_
    refine oN (λ(a:Ri32)=>w9 a.1) (λa=>[⟨[.str o,w44 q,.i a.2,.i x,.bool g],5,false⟩,m,C,D]) (atN 2 (ctl1 i21p7)) 19 [0] [] [] [.ptr 0 5 0] (qBp k o q h x g) trivial (λ_=>trivial) λa b2=>?_
    refine oR 3 i21p9 ((5,w9 a.1)::(19,w9 a.1)::(18,.ptr 0 5 0)::E3) ?_
    refine oJ i21p10 (λ(A:Bool×Bool×(List S28))=>[(0,.ptr 0 5 0),(2,.ptr 1 7 0),(3,.ptr 2 7 0),(5,w9 a.1),(6,.bool A.1)]) (λ(A:Bool×Bool×(List S28))=>(mkH [⟨[.str o,w44 q,.i a.2,.i x,.bool A.2.1],5,false⟩,m,⟨[.i 25,.str [],.own 3 (A.2.2).length 7,.bool false,.bool false,.nils,.nils],7,false⟩,⟨(A.2.2).flatMap e29,0,false⟩])) (λA=>?_) (λj7 T=>?_)
    ·let Y:Blk:=⟨[.i 25,.str [],.own 3 (A.2.2).length 7,.bool false,.bool false,.nils,.nils],7,false⟩
     let Q7:Blk:=⟨(A.2.2).flatMap e29,0,false⟩
     refine oH 2 (atN 1 (ctl1 i21p10)) [(44,.ptr 0 5 0),(0,.ptr 0 5 0),(2,.ptr 1 7 0),(3,.ptr 2 7 0),(5,w9 a.1),(6,.bool A.1)] (mkH [⟨[.str o,w44 q,.i a.2,.i x,.bool A.2.1],5,false⟩,m,Y,Q7]) ?_
     refine oN (λ(c:Ri20)=>n29 c.1) (λc=>[⟨[.str o,w44 q,.i c.2.1,.i x,.bool c.2.2],5,false⟩,m,Y,Q7]) (atN 2 (ctl1 i21p10)) 45 [0] [] [] [.ptr 0 5 0,.i 0] (hF.i20_ok (0:Int) o q a.2 x A.2.1) trivial (λ_=>trivial) λc b3=>?_
     let E6:Env:=[(0,.ptr 0 5 0),(2,.ptr 1 7 0),(3,.ptr 2 7 0),(7,.ptr 4 7 0)]
     let U:Blk:=⟨[.str o,w44 q,.i c.2.1,.i x,.bool c.2.2],5,false⟩
     let M:Blk:=⟨[.i c.1.f0,.str c.1.f1,q29 c.1.f2,.bool c.1.f3,.bool A.1,w9 a.1,w9 c.1.f6],7,false⟩
     refine oLH 13 i21p12 E6 (mkH [U,m,Y,Q7,M]) ?_
     let B:Blk:=⟨[.i c.1.f0,.str c.1.f1,q29 c.1.f2,.bool c.1.f3,.bool A.1,w9 a.1,w9 c.1.f6],0,false⟩
     refine oH 5 (atN 4 (ctl1 i21p12)) ((53,.slice 5 7 0 1 7)::(52,.agg [.i c.1.f0,.str c.1.f1,q29 c.1.f2,.bool c.1.f3,.bool A.1,w9 a.1,w9 c.1.f6])::(51,.own 3 (A.2.2).length 7)::(50,.ptr 2 7 2)::E6) (mkH [U,m,Y,Q7,M,B]) ?_
     refine oC (λ(r:List S28)=>(.own 3 (r).length 7,(mkH [U,m,Y,⟨(r).flatMap e29,0,false⟩,M,B]))) (atN 5 (ctl1 i21p12)) 54 (appH (sz:=7) qA2 rfl qAh [U,m,Y,Q7,M,B] 3 104 A.2.2 ([(⟨c.1.f0,c.1.f1,c.1.f2,c.1.f3,A.1,a.1,c.1.f6⟩:S28)]:List S28) rfl rfl Kr) λr b4=>?_
     let E8:Env:=[(0,.ptr 0 5 0),(2,.ptr 1 7 0),(3,.ptr 2 7 0)]
     let I:Blk:=⟨[.i 25,.str [],.own 3 (r).length 7,.bool false,.bool false,.nils,.nils],7,false⟩
     let J:Blk:=⟨(r).flatMap e29,0,false⟩
     refine oLH 5 i21p13 E8 (mkH [U,m,I,J,M,B]) ?_
     refine oR 2 (atN 1 (ctl1 i21p13)) ((56,.ptr 0 5 0)::E8) ?_
     refine oN (λ(u:Bool) => .bool u) (λu=>[U,m,I,J,M,B]) (atN 2 (ctl1 i21p13)) 57 [0] [] [] [.ptr 0 5 0,.str [44]] (qAi k ([44]:LN) o q c.2.1 x c.2.2) trivial (λ_=>trivial) λu b5=>?_
     refine oR 2 i21p14 ((58,.bool (!u))::(57,.bool u)::(56,.ptr 0 5 0)::E8) ?_
     refine oS 58 (λhb=>?_) (λhb=>?_)
     ·refine oL 3 i21p6 [(2,.ptr 1 7 0),(3,.ptr 2 7 0)] ?_
      refine qA8 [U,m,I,J] [M,B] Kr rfl Kr ⟨Kr,⟨Kr,⟨Kr,⟨(qA _ (u29 _)),trivial⟩⟩⟩⟩ ?_
      exact Z (c.2.1,c.2.2,r)
     ·refine oR 4 (atN 1 (ctl1 i21p15)) ((59,.ptr 0 5 0)::(58,.bool false)::(58,.bool (!u))::(57,.bool u)::(56,.ptr 0 5 0)::E8) ?_
      refine oN (λ(l:Ri29) => .i l.1) (λl=>[⟨[.str o,w44 q,.i l.2.1,.i x,.bool l.2.2],5,false⟩,m,I,J,M,B]) (atN 2 (ctl1 i21p15)) 60 [0] [] [] [.ptr 0 5 0] (qAk k o q c.2.1 x c.2.2) trivial (λ_=>trivial) λl b6=>?_
      refine oL 1 i21p2 [(0,.ptr 0 5 0),(2,.ptr 1 7 0),(3,.ptr 2 7 0)] ?_
      refine qA8 [⟨[.str o,w44 q,.i l.2.1,.i x,.bool l.2.2],5,false⟩,m,I,J] [M,B] Kr rfl Kr ⟨Kr,⟨Kr,⟨Kr,⟨(qA _ (u29 _)),trivial⟩⟩⟩⟩ ?_
      exact ih l.2.1 l.2.2 r
    ·refine qDf (λE=>?_) (λE=>?_)
     ·refine qDf (λK=>?_) (λK=>?_)
      ·refine qA7 (λj N=>?_)
       let L:Env:=[(24,.bool (decide (0 < (b.length:Int)))),(23,.bool (decide (0 < (b.length:Int)))),(22,.i (b.length:Int)),(21,.own 3 (b).length 7),(20,.ptr 2 7 2),(5,w9 a.1),(19,w9 a.1),(18,.ptr 0 5 0),(0,.ptr 0 5 0),(2,.ptr 1 7 0),(3,.ptr 2 7 0),(4,.i h)]
       let V:Env:=[(31,.bool (!g)),(30,.bool (!g)),(29,.bool (!g)),(28,.bool g),(27,.ptr 0 5 4),(26,.ptr 0 5 0),(25,.ptr 0 5 0),(24,.bool true),(23,.bool true),(22,.i (b.length:Int)),(21,.own 3 (b).length 7),(20,.ptr 2 7 2),(5,w9 a.1),(19,w9 a.1),(18,.ptr 0 5 0),(0,.ptr 0 5 0),(2,.ptr 1 7 0),(3,.ptr 2 7 0),(4,.i h)]
       let O:Env:=[(40,.i h),(39,w44 q),(38,.ptr 0 5 1),(37,.ptr 0 5 0),(36,.ptr 0 5 0),(35,.str o),(34,.ptr 0 5 0),(33,.ptr 0 5 0),(32,.ptr 0 5 0),(31,.bool true),(30,.bool true),(29,.bool true),(28,.bool g),(27,.ptr 0 5 4),(26,.ptr 0 5 0),(25,.ptr 0 5 0),(24,.bool true),(23,.bool true),(22,.i (b.length:Int)),(21,.own 3 (b).length 7),(20,.ptr 2 7 2),(5,w9 a.1),(19,w9 a.1),(18,.ptr 0 5 0),(0,.ptr 0 5 0),(2,.ptr 1 7 0),(3,.ptr 2 7 0),(4,.i h)]
       let W:Blk:=⟨[.str o,w44 q,.i a.2,.i x,.bool g],5,false⟩
       refine oD (H':=(mkH [W,m,C,D])) (nav [0] i21p9) ((6,.bool (decide (2≤j)))::(43,.bool (decide (2≤j)))::(42,.bool (decide (2≤j)))::(41,.i j)::O) [(mkH [W,m,C,D])] i21d0 (oDr 5 5 L (oDe (λz=>[(24,.bool z),(23,.bool z),(22,.i (b.length:Int)),(21,.own 3 (b).length 7),(20,.ptr 2 7 2),(5,w9 a.1),(19,w9 a.1),(18,.ptr 0 5 0),(0,.ptr 0 5 0),(2,.ptr 1 7 0),(3,.ptr 2 7 0),(4,.i h)]) E (oDr 7 12 V (oDe (λz=>[(31,.bool z),(30,.bool z),(29,.bool z),(28,.bool g),(27,.ptr 0 5 4),(26,.ptr 0 5 0),(25,.ptr 0 5 0),(24,.bool true),(23,.bool true),(22,.i (b.length:Int)),(21,.own 3 (b).length 7),(20,.ptr 2 7 2),(5,w9 a.1),(19,w9 a.1),(18,.ptr 0 5 0),(0,.ptr 0 5 0),(2,.ptr 1 7 0),(3,.ptr 2 7 0),(4,.i h)]) K (oDr 9 21 O (qAq (l':=(opsAt i21p9).toList.drop 22) (eE:=((41,.i j)::O)) (hs:=[(mkH [W,m,C,D])]) (fi:=66) (args:=[.str o,w44 q,.i h]) (v := .i j) Kr Kr Kr (g66_ok k o q h j N) Kr (oDr 3 25 ((6,.bool (decide (2≤j)))::(43,.bool (decide (2≤j)))::(42,.bool (decide (2≤j)))::(41,.i j)::O) .nil))))))) ?_
       refine oL 1 i21p10 [(0,.ptr 0 5 0),(2,.ptr 1 7 0),(3,.ptr 2 7 0),(5,w9 a.1),(6,.bool (decide (2≤j)))] ?_
       exact T (decide (2≤j),g,b)
      ·let L:Env:=[(24,.bool (decide (0 < (b.length:Int)))),(23,.bool (decide (0 < (b.length:Int)))),(22,.i (b.length:Int)),(21,.own 3 (b).length 7),(20,.ptr 2 7 2),(5,w9 a.1),(19,w9 a.1),(18,.ptr 0 5 0),(0,.ptr 0 5 0),(2,.ptr 1 7 0),(3,.ptr 2 7 0),(4,.i h)]
       let V:Env:=[(31,.bool (!g)),(30,.bool (!g)),(29,.bool (!g)),(28,.bool g),(27,.ptr 0 5 4),(26,.ptr 0 5 0),(25,.ptr 0 5 0),(24,.bool true),(23,.bool true),(22,.i (b.length:Int)),(21,.own 3 (b).length 7),(20,.ptr 2 7 2),(5,w9 a.1),(19,w9 a.1),(18,.ptr 0 5 0),(0,.ptr 0 5 0),(2,.ptr 1 7 0),(3,.ptr 2 7 0),(4,.i h)]
       let a6:Env:=[(6,.bool false),(43,.bool false),(42,.tuple []),(41,.tuple []),(40,.tuple []),(39,.tuple []),(38,.tuple []),(37,.tuple []),(36,.tuple []),(35,.tuple []),(34,.tuple []),(33,.tuple []),(32,.tuple []),(31,.bool false),(30,.bool false),(29,.bool false),(28,.bool g),(27,.ptr 0 5 4),(26,.ptr 0 5 0),(25,.ptr 0 5 0),(24,.bool true),(23,.bool true),(22,.i (b.length:Int)),(21,.own 3 (b).length 7),(20,.ptr 2 7 2),(5,w9 a.1),(19,w9 a.1),(18,.ptr 0 5 0),(0,.ptr 0 5 0),(2,.ptr 1 7 0),(3,.ptr 2 7 0),(4,.i h)]
       let Q:Blk:=⟨[.str o,w44 q,.i a.2,.i x,.bool g],5,false⟩
       refine oD (H':=(mkH [Q,m,C,D])) (nav [0] i21p9) a6 [(mkH [Q,m,C,D])] i21d0 (oDr 5 5 L (oDe (λz=>[(24,.bool z),(23,.bool z),(22,.i (b.length:Int)),(21,.own 3 (b).length 7),(20,.ptr 2 7 2),(5,w9 a.1),(19,w9 a.1),(18,.ptr 0 5 0),(0,.ptr 0 5 0),(2,.ptr 1 7 0),(3,.ptr 2 7 0),(4,.i h)]) E (oDr 7 12 V (oDe (λz=>[(31,.bool z),(30,.bool z),(29,.bool z),(28,.bool g),(27,.ptr 0 5 4),(26,.ptr 0 5 0),(25,.ptr 0 5 0),(24,.bool true),(23,.bool true),(22,.i (b.length:Int)),(21,.own 3 (b).length 7),(20,.ptr 2 7 2),(5,w9 a.1),(19,w9 a.1),(18,.ptr 0 5 0),(0,.ptr 0 5 0),(2,.ptr 1 7 0),(3,.ptr 2 7 0),(4,.i h)]) K (oDh 13 25 a6 (mkH [Q,m,C,D]) [(mkH [Q,m,C,D])] .nil))))) ?_
       refine oL 1 i21p10 [(0,.ptr 0 5 0),(2,.ptr 1 7 0),(3,.ptr 2 7 0),(5,w9 a.1),(6,.bool false)] ?_
       exact T (false,g,b)
     ·let L:Env:=[(24,.bool (decide (0 < (b.length:Int)))),(23,.bool (decide (0 < (b.length:Int)))),(22,.i (b.length:Int)),(21,.own 3 (b).length 7),(20,.ptr 2 7 2),(5,w9 a.1),(19,w9 a.1),(18,.ptr 0 5 0),(0,.ptr 0 5 0),(2,.ptr 1 7 0),(3,.ptr 2 7 0),(4,.i h)]
      let a7:Env:=[(6,.bool false),(43,.bool false),(42,.tuple []),(41,.tuple []),(40,.tuple []),(39,.tuple []),(38,.tuple []),(37,.tuple []),(36,.tuple []),(35,.tuple []),(34,.tuple []),(33,.tuple []),(32,.tuple []),(31,.bool false),(30,.bool false),(29,.tuple []),(28,.tuple []),(27,.tuple []),(26,.tuple []),(25,.tuple []),(24,.bool false),(23,.bool false),(22,.i (b.length:Int)),(21,.own 3 (b).length 7),(20,.ptr 2 7 2),(5,w9 a.1),(19,w9 a.1),(18,.ptr 0 5 0),(0,.ptr 0 5 0),(2,.ptr 1 7 0),(3,.ptr 2 7 0),(4,.i h)]
      let S:Blk:=⟨[.str o,w44 q,.i a.2,.i x,.bool g],5,false⟩
      refine oD (H':=(mkH [S,m,C,D])) (nav [0] i21p9) a7 [(mkH [S,m,C,D])] i21d0 (oDr 5 5 L (oDe (λz=>[(24,.bool z),(23,.bool z),(22,.i (b.length:Int)),(21,.own 3 (b).length 7),(20,.ptr 2 7 2),(5,w9 a.1),(19,w9 a.1),(18,.ptr 0 5 0),(0,.ptr 0 5 0),(2,.ptr 1 7 0),(3,.ptr 2 7 0),(4,.i h)]) E (oDh 20 25 a7 (mkH [S,m,C,D]) [(mkH [S,m,C,D])] .nil))) ?_
      refine oL 1 i21p10 [(0,.ptr 0 5 0),(2,.ptr 1 7 0),(3,.ptr 2 7 0),(5,w9 a.1),(6,.bool false)] ?_
      exact T (false,g,b)
   ·refine oLH 3 i21p6 [(2,.ptr 1 7 0),(3,.ptr 2 7 0)] (mkH [Q1,m,C,D]) ?_
    exact Z (h,g,b)
def i21B (k:Nat) (F:Fns1) (a:LN) (b:List S43) (c:Int) (g:Int) (h:Bool):Option Ri21 :=
 qN3 k F a b g k c h ([]:List S28)
theorem i21B_all (k:Nat) (F:Fns1) (q:FnsOk1 F):∀ c g a j b r,i21B k F c g a j b=some r→CallT Tryz.prog 30 [.ptr 0 5 0] (mkH [⟨[.str c,w44 g,.i a,.i j,.bool b],5,false⟩]) ((Xi21 c g a j b).thr r) ((Xi21 c g a j b).enc r) ((Xi21 c g a j b).fin r):=by
 intro c g a j b r h
 refine qA0 (Xi21 c g a j b) Tryz.func30 Kr Kr rfl (t:=i21B k F c g a j b) ?_ h
 unfold i21B
 refine qA1 (eE:=[(0,.ptr 0 5 0)]) Kr ?_
 let l:Blk:=⟨[.str c,w44 g,.i a,.i j,.bool b],5,false⟩
 let m:Blk:=⟨[.i 0,.str [],.nils,.bool false,.bool false,.nils,.nils],0,false⟩
 let n:Blk:=⟨[.i 25,.str [],.nils,.bool false,.bool false,.nils,.nils],7,false⟩
 refine oH 13 i21p2 [(3,.ptr 2 7 0),(8,.agg [.i 25,.str [],.nils,.bool false,.bool false,.nils,.nils]),(2,.ptr 1 7 0),(0,.ptr 0 5 0)] (mkH [l,m,n]) ?_
 refine qBu [l,m,n] Kr ?_
 let o:Blk:=⟨(([]:List S28)).flatMap e29,0,false⟩
 refine oHp (mkH [l,m,n,o]) ?_
 refine qAw [l,m,n,o] 2 7 [.i 25,.str [],.nils,.bool false,.bool false,.nils,.nils] [.i 25,.str [],.own 3 (([]:List S28)).length 7,.bool false,.bool false,.nils,.nils] Kr rfl (.cons (.cons (.none (.refl)))) ?_
 refine oHp (mkH [l,m,⟨[.i 25,.str [],.own 3 (([]:List S28)).length 7,.bool false,.bool false,.nils,.nils],7,false⟩,o]) ?_
 refine oK [0,2,3] [(0,.ptr 0 5 0),(2,.ptr 1 7 0),(3,.ptr 2 7 0)] ?_
 exact (qN2 k F q c g a j b k) a b ([]:List S28)
theorem i21B_ok (k:Nat) (F:Fns1) (a:FnsOk1 F):Pi21 (i21B k F):=λb c g j l=>λx h=>i21B_all k F a b c g j l x h
def i22p1:Pt:=nav [0,0,0] (nav [0] (bodyAt Tryz.f35))
def i22p2:Pt:=nav [0,0,0,0,0] i22p1
def i22p4:Pt:=nav [0,0] (nav [0,0,0] i22p2)
def i22p5:Pt:=nav [1,0,0,0] i22p4
def i22p6:Pt:=nav [2,0,0] i22p4
def i22p7:Pt:=nav [0,0,0] i22p5
def i22p9:Pt:=nav [0,0,0] i22p7
def i22p10:Pt:=nav [0,0,0] i22p9
def i22p11:Pt:=nav [0,0,0] i22p10
def i22p12:Pt:=nav [0,0,0,0] i22p11
def i22p13:Pt:=nav [0,0] i22p12
def i22p14:Pt:=nav [2,0] i22p13
def qHo (k:Nat) (F:Fns1)  (n:LN) (o:List S43) (q:Int) (ih:Int→Bool→(List S28)→Option Ri22):Int→Bool→(List S28)→Option Ri22 :=
 λ(g:Int) (b:Bool) (h:List S28)=>jn (λ(u:Int×Bool×(List S28))=>some (u.2.2,u.1,u.2.1)) (λx=>if (!b) then ((i32 k n o g q b).bind λj=>(F.i20 (1:Int) n o j.2 q b).bind λc=>(F.i34 (22:Int) ([]:LN) false false ([]:LL) ([]:LL) n o c.2.1 q c.2.2 ([(⟨(23:Int),([]:LN),⟨(([c.1]:List S28)).length,(([c.1]:List S28)).flatMap e29⟩,false,false,([]:LL),([]:LL)⟩:S28)]:List S28)).bind λa=>(appS 104 h ([(⟨a.1,a.2.1,⟨(a.2.2.2.2.2.2.2.2).length,(a.2.2.2.2.2.2.2.2).flatMap e29⟩,a.2.2.1,a.2.2.2.1,j.1,a.2.2.2.2.2.1⟩:S28)]:List S28)).bind λl=>(i33 k ([59]:LN) n o a.2.2.2.2.2.2.2.1 q a.2.2.2.2.2.2.1).bind λr=>if (!r) then (x (a.2.2.2.2.2.2.2.1,a.2.2.2.2.2.2.1,l)) else ((i29 k n o a.2.2.2.2.2.2.2.1 q a.2.2.2.2.2.2.1).bind λm=>ih m.2.1 m.2.2 l)) else (x (g,b,h)))
def qN1 (k:Nat) (F:Fns1)  (a:LN) (b:List S43) (c:Int) (n:Nat):Int→Bool→(List S28)→Option Ri22:=lp (λ_ _ _=>none) (qHo k F a b c) n
theorem qN0 (k:Nat) (F:Fns1) (W:FnsOk1 F) (r:LN) (u:List S43) (a2:Int) (x:Int) (a4:Bool)    : ∀ (n:Nat) (o:Int) (j:Bool) (c:List S28),Ok (Xi22 r u a2 x a4) i22p2 [(0,.ptr 0 5 0),(3,.own 1 (c).length 7)] (mkH [⟨[.str r,w44 u,.i o,.i x,.bool j],5,false⟩,⟨(c).flatMap e29,0,false⟩]) (qN1 k F r u x n o j c):=by
 intro n
 induction n with
 | zero=>intro o j c; exact ok_none
 | succ n ih =>
  intro o j c
  show Ok _ _ _ _ (qHo k F r u x (qN1 k F r u x n) o j c)
  unfold qHo
  refine qAd (p':=nav [0] i22p2) Kr ?_
  let Y:Env:=[(11,.bool (!j)),(10,.bool j),(9,.ptr 0 5 4),(8,.ptr 0 5 0),(7,.ptr 0 5 0),(0,.ptr 0 5 0),(3,.own 1 (c).length 7)]
  let L:Blk:=⟨[.str r,w44 u,.i o,.i x,.bool j],5,false⟩
  let z:Blk:=⟨(c).flatMap e29,0,false⟩
  refine oH 9 i22p4 Y (mkH [L,z]) ?_
  refine oJ i22p6 (λ(D:Int×Bool×(List S28))=>[(3,.own 1 (D.2.2).length 7)]) (λ(D:Int×Bool×(List S28))=>(mkH [⟨[.str r,w44 u,.i D.1,.i x,.bool D.2.1],5,false⟩,⟨(D.2.2).flatMap e29,0,false⟩])) (λD=>?_) (λj7 J=>?_)
  ·exact oQF 5 [⟨[.str r,w44 u,.i D.1,.i x,.bool D.2.1],5,false⟩,⟨(D.2.2).flatMap e29,0,false⟩] 1 [] [.own 1 (D.2.2).length 7] (w29 D.2.2) (qAl qA2 qAf rfl rfl rfl .ps) trivial
  ·refine oS 11 (λM=>?_) (λM=>?_)
   ·refine oH 6 (atN 1 (ctl1 i22p5)) ((12,.ptr 0 5 0)::(11,.bool true)::Y) (mkH [L,z]) ?_
    refine oN (λ(g:Ri32)=>w9 g.1) (λg=>[⟨[.str r,w44 u,.i g.2,.i x,.bool j],5,false⟩,z]) (atN 2 (ctl1 i22p5)) 13 [0] [] [] [.ptr 0 5 0] (qBp k r u o x j) trivial (λ_=>trivial) λg N=>?_
    refine oL 3 i22p7 [(0,.ptr 0 5 0),(3,.own 1 (c).length 7),(4,w9 g.1)] ?_
    let Z:Env:=[(0,.ptr 0 5 0),(3,.own 1 (c).length 7),(4,w9 g.1)]
    refine oR 2 (atN 1 (ctl1 i22p7)) ((14,.ptr 0 5 0)::Z) ?_
    refine oN (λ(b:Ri20)=>n29 b.1) (λb=>[⟨[.str r,w44 u,.i b.2.1,.i x,.bool b.2.2],5,false⟩,z]) (atN 2 (ctl1 i22p7)) 15 [0] [] [] [.ptr 0 5 0,.i 1] (W.i20_ok (1:Int) r u g.2 x j) trivial (λ_=>trivial) λb O=>?_
    let I:Blk:=⟨[.str r,w44 u,.i b.2.1,.i x,.bool b.2.2],5,false⟩
    refine oH 1 (atN 3 (ctl1 i22p7)) ((16,.slice 2 7 0 1 7)::(15,n29 b.1)::(14,.ptr 0 5 0)::Z) (mkH [I,z,⟨e29 b.1,0,false⟩]) ?_
    refine oZ 16 2 1 7 [.i b.1.f0,.str b.1.f1,q29 b.1.f2,.bool b.1.f3,.bool b.1.f4,w9 b.1.f5,w9 b.1.f6] [0,3,4,14,15] [0,1] ⟨u29 _,trivial⟩ ?_
    let K:Env:=[(20,.slice 4 7 0 1 7),(19,.agg [.i 23,.str [],w29 ([b.1]:List S28),.bool false,.bool false,.nils,.nils]),(18,.ptr 0 5 0),(5,.ptr 3 7 0),(17,.agg [.i 23,.str [],w29 ([b.1]:List S28),.bool false,.bool false,.nils,.nils]),(16,w29 ([b.1]:List S28)),(0,.ptr 0 5 0),(3,.own 1 (c).length 7),(4,w9 g.1),(14,.ptr 0 5 0),(15,n29 b.1)]
    let A:Blk:=⟨[.i 23,.str [],w29 ([b.1]:List S28),.bool false,.bool false,.nils,.nils],7,false⟩
    let Q5:Blk:=⟨[.i 23,.str [],w29 ([b.1]:List S28),.bool false,.bool false,.nils,.nils],0,false⟩
    refine oH 9 (atN 3 (ctl1 i22p9)) K (mkH [I,z,⟨[],0,false⟩,A,Q5]) ?_
    refine qAw [I,z,⟨[],0,false⟩,A,Q5] 4 0 [.i 23,.str [],w29 ([b.1]:List S28),.bool false,.bool false,.nils,.nils] [.i 23,.str [],w29 ([b.1]:List S28),.bool false,.bool false,w9 ([]:LL),w9 ([]:LL)] Kr rfl (.cons (.cons (.cons (.cons (.cons (.nil (.nil (.refl)))))))) ?_
    refine oHp (mkH [I,z,⟨[],0,false⟩,A,⟨[.i 23,.str [],w29 ([b.1]:List S28),.bool false,.bool false,w9 ([]:LL),w9 ([]:LL)],0,false⟩]) ?_
    refine qAz 20 4 7 1 7 Kr rfl ?_
    let Q6:Blk:=⟨(([(⟨(23:Int),([]:LN),⟨(([b.1]:List S28)).length,(([b.1]:List S28)).flatMap e29⟩,false,false,([]:LL),([]:LL)⟩:S28)]:List S28)).flatMap e29,0,false⟩
    refine oH 1 (atN 4 (ctl1 i22p9)) ((21,.agg [.i 22,.str [],.own 4 (([(⟨(23:Int),([]:LN),⟨(([b.1]:List S28)).length,(([b.1]:List S28)).flatMap e29⟩,false,false,([]:LL),([]:LL)⟩:S28)]:List S28)).length 7,.bool false,.bool false,.nils,.nils])::(20,.own 4 (([(⟨(23:Int),([]:LN),⟨(([b.1]:List S28)).length,(([b.1]:List S28)).flatMap e29⟩,false,false,([]:LL),([]:LL)⟩:S28)]:List S28)).length 7)::K) (mkH [I,z,⟨[],0,false⟩,A,Q6]) ?_
    refine qAg (λ(a:Ri34) => .agg [.i a.1,.str a.2.1,.own 4 (a.2.2.2.2.2.2.2.2).length 7,.bool a.2.2.1,.bool a.2.2.2.1,w9 a.2.2.2.2.1,w9 a.2.2.2.2.2.1]) (λ(a:Ri34)=>(mkH [⟨[.str r,w44 u,.i a.2.2.2.2.2.2.2.1,.i x,.bool a.2.2.2.2.2.2.1],5,false⟩,z,⟨[],0,false⟩,A,⟨(a.2.2.2.2.2.2.2.2).flatMap e29,0,false⟩])) (atN 5 (ctl1 i22p9)) (λa=>((22,.agg [.i a.1,.str a.2.1,.own 4 (a.2.2.2.2.2.2.2.2).length 7,.bool a.2.2.1,.bool a.2.2.2.1,w9 a.2.2.2.2.1,w9 a.2.2.2.2.2.1])::(21,.agg [.i 22,.str [],.own 4 (([(⟨(23:Int),([]:LN),⟨(([b.1]:List S28)).length,(([b.1]:List S28)).flatMap e29⟩,false,false,([]:LL),([]:LL)⟩:S28)]:List S28)).length 7,.bool false,.bool false,.nils,.nils])::(20,.own 4 (([(⟨(23:Int),([]:LN),⟨(([b.1]:List S28)).length,(([b.1]:List S28)).flatMap e29⟩,false,false,([]:LL),([]:LL)⟩:S28)]:List S28)).length 7)::K)) (fi:=71) (args:=[.ptr 0 5 0,.agg [.i 22,.str [],.own 4 (([(⟨(23:Int),([]:LN),⟨(([b.1]:List S28)).length,(([b.1]:List S28)).flatMap e29⟩,false,false,([]:LL),([]:LL)⟩:S28)]:List S28)).length 7,.bool false,.bool false,.nils,.nils]]) Kr (λa h=>frW 0 [I,z,⟨[],0,false⟩,A,Q6] (rs:=[0,4]) (ms:=[0,1]) (ms':=[0,1]) (mv:=[0,1,0,0,1]) (xs':=[.ptr 0 5 0,.agg [.i 22,.str [],.own 4 (([(⟨(23:Int),([]:LN),⟨(([b.1]:List S28)).length,(([b.1]:List S28)).flatMap e29⟩,false,false,([]:LL),([]:LL)⟩:S28)]:List S28)).length 7,.bool false,.bool false,w9 ([]:LL),w9 ([]:LL)]]) (.cons (.agg (.cons (.cons (.cons (.cons (.cons (.nil (.nil (.refl)))))))) (.refl))) (W.i34_ok (22:Int) ([]:LN) false false ([]:LL) ([]:LL) r u b.2.1 x b.2.2 ([(⟨(23:Int),([]:LN),⟨(([b.1]:List S28)).length,(([b.1]:List S28)).flatMap e29⟩,false,false,([]:LL),([]:LL)⟩:S28)]:List S28) a h) ⟨u29 _,trivial⟩ ⟨u29 _,trivial⟩ Kr) (λ_=>by kernel_rfl) (λa Q=>?_)
    let G:Blk:=⟨[.str r,w44 u,.i a.2.2.2.2.2.2.2.1,.i x,.bool a.2.2.2.2.2.2.1],5,false⟩
    let Q8:Blk:=⟨(a.2.2.2.2.2.2.2.2).flatMap e29,0,false⟩
    let Q9:Blk:=⟨[.i a.1,.str a.2.1,.own 4 (a.2.2.2.2.2.2.2.2).length 7,.bool a.2.2.1,.bool a.2.2.2.1,w9 a.2.2.2.2.1,w9 a.2.2.2.2.2.1],7,false⟩
    refine oH 4 i22p10 ((6,.ptr 5 7 0)::(22,.agg [.i a.1,.str a.2.1,.own 4 (a.2.2.2.2.2.2.2.2).length 7,.bool a.2.2.1,.bool a.2.2.2.1,w9 a.2.2.2.2.1,w9 a.2.2.2.2.2.1])::(21,.agg [.i 22,.str [],.own 4 (([(⟨(23:Int),([]:LN),⟨(([b.1]:List S28)).length,(([b.1]:List S28)).flatMap e29⟩,false,false,([]:LL),([]:LL)⟩:S28)]:List S28)).length 7,.bool false,.bool false,.nils,.nils])::(20,.own 4 (([(⟨(23:Int),([]:LN),⟨(([b.1]:List S28)).length,(([b.1]:List S28)).flatMap e29⟩,false,false,([]:LL),([]:LL)⟩:S28)]:List S28)).length 7)::K) (mkH [G,z,⟨[],0,false⟩,A,Q8,Q9]) ?_
    refine qB1 [G,z,⟨[],0,false⟩,A,Q8,Q9] [G,z,⟨[],0,false⟩,A,⟨[],0,false⟩,⟨[.i a.1,.str a.2.1,w29 a.2.2.2.2.2.2.2.2,.bool a.2.2.1,.bool a.2.2.2.1,w9 a.2.2.2.2.1,w9 a.2.2.2.2.2.1],7,false⟩] 4 (a.2.2.2.2.2.2.2.2).length 7 0 ((a.2.2.2.2.2.2.2.2).flatMap e29) [0,3,4,6] (env0:=[(0,.ptr 0 5 0),(3,.own 1 (c).length 7),(4,w9 g.1),(6,.ptr 5 7 0)]) (eE:=[(0,.ptr 0 5 0),(3,.own 1 (c).length 7),(4,w9 g.1),(6,.ptr 5 7 0)]) Kr rfl rfl (qA9 qA2 _) (Nat.zero_le _) (u29 _) Kr ⟨⟨rfl,.refl Kr⟩,⟨⟨rfl,.refl Kr⟩,⟨⟨rfl,.refl Kr⟩,⟨⟨rfl,.refl Kr⟩,trivial⟩⟩⟩⟩ ⟨.inr ⟨rfl,rfl,rfl,.refl Kr⟩,⟨.inr ⟨rfl,rfl,rfl,.refl (qAn _ (u29 _))⟩,⟨.inr ⟨rfl,rfl,rfl,.refl Kr⟩,⟨.inr ⟨rfl,rfl,rfl,.refl Kr⟩,⟨.inl ⟨rfl,rfl⟩,⟨.inr ⟨rfl,rfl,rfl,.cons Kr (.cons Kr (.own (.refl Kr)))⟩,trivial⟩⟩⟩⟩⟩⟩ ?_
    let B:Blk:=⟨[.i a.1,.str a.2.1,w29 a.2.2.2.2.2.2.2.2,.bool a.2.2.1,.bool a.2.2.2.1,w9 g.1,w9 a.2.2.2.2.2.1],7,false⟩
    let C:Blk:=⟨[.i a.1,.str a.2.1,w29 a.2.2.2.2.2.2.2.2,.bool a.2.2.1,.bool a.2.2.2.1,w9 g.1,w9 a.2.2.2.2.2.1],0,false⟩
    let K1:List Blk:=[G,z,⟨[],0,false⟩,A,⟨[],0,false⟩,B,C]
    refine oH 10 (atN 3 (ctl1 i22p11)) [(27,.slice 6 7 0 1 7),(26,.agg [.i a.1,.str a.2.1,w29 a.2.2.2.2.2.2.2.2,.bool a.2.2.1,.bool a.2.2.2.1,w9 g.1,w9 a.2.2.2.2.2.1]),(25,.own 1 (c).length 7),(24,.ptr 5 7 5),(23,w9 g.1),(0,.ptr 0 5 0),(3,.own 1 (c).length 7),(4,w9 g.1),(6,.ptr 5 7 0)] (mkH K1) ?_
    refine oC (λ(l:List S28)=>(.own 1 (l).length 7,(mkH [G,⟨(l).flatMap e29,0,false⟩,⟨[],0,false⟩,A,⟨[],0,false⟩,B,C]))) (atN 4 (ctl1 i22p11)) 28 (appH (sz:=7) qA2 rfl qAh K1 1 104 c ([(⟨a.1,a.2.1,⟨(a.2.2.2.2.2.2.2.2).length,(a.2.2.2.2.2.2.2.2).flatMap e29⟩,a.2.2.1,a.2.2.2.1,g.1,a.2.2.2.2.2.1⟩:S28)]:List S28) rfl rfl Kr) λl S=>?_
    let E:Blk:=⟨(l).flatMap e29,0,false⟩
    let K2:List Blk:=[G,E,⟨[],0,false⟩,A,⟨[],0,false⟩,B,C]
    refine oLH 4 i22p12 [(0,.ptr 0 5 0),(3,.own 1 (l).length 7)] (mkH K2) ?_
    let T:Env:=[(0,.ptr 0 5 0),(3,.own 1 (l).length 7)]
    refine oR 2 (atN 1 (ctl1 i22p12)) ((29,.ptr 0 5 0)::T) ?_
    refine oN (λ(q:Bool) => .bool q) (λq=>K2) (atN 2 (ctl1 i22p12)) 30 [0] [] [] [.ptr 0 5 0,.str [59]] (qAi k ([59]:LN) r u a.2.2.2.2.2.2.2.1 x a.2.2.2.2.2.2.1) trivial (λ_=>trivial) λq U=>?_
    refine oR 2 i22p13 ((31,.bool (!q))::(30,.bool q)::(29,.ptr 0 5 0)::T) ?_
    refine oS 31 (λM=>?_) (λM=>?_)
    ·refine oL 3 i22p6 [(3,.own 1 (l).length 7)] ?_
     refine qA8 [G,E] [⟨[],0,false⟩,A,⟨[],0,false⟩,B,C] Kr rfl Kr ⟨Kr,⟨(qA _ (u29 _)),trivial⟩⟩ ?_
     exact J (a.2.2.2.2.2.2.2.1,a.2.2.2.2.2.2.1,l)
    ·refine oR 4 (atN 1 (ctl1 i22p14)) ((32,.ptr 0 5 0)::(31,.bool false)::(31,.bool (!q))::(30,.bool q)::(29,.ptr 0 5 0)::T) ?_
     refine oN (λ(m:Ri29) => .i m.1) (λm=>[⟨[.str r,w44 u,.i m.2.1,.i x,.bool m.2.2],5,false⟩,E,⟨[],0,false⟩,A,⟨[],0,false⟩,B,C]) (atN 2 (ctl1 i22p14)) 33 [0] [] [] [.ptr 0 5 0] (qAk k r u a.2.2.2.2.2.2.2.1 x a.2.2.2.2.2.2.1) trivial (λ_=>trivial) λm V=>?_
     refine oL 1 i22p2 [(0,.ptr 0 5 0),(3,.own 1 (l).length 7)] ?_
     refine qA8 [⟨[.str r,w44 u,.i m.2.1,.i x,.bool m.2.2],5,false⟩,E] [⟨[],0,false⟩,A,⟨[],0,false⟩,B,C] Kr rfl Kr ⟨Kr,⟨(qA _ (u29 _)),trivial⟩⟩ ?_
     exact ih m.2.1 m.2.2 l
   ·refine oLH 3 i22p6 [(3,.own 1 (c).length 7)] (mkH [L,z]) ?_
    exact J (o,j,c)
def i22B (k:Nat) (F:Fns1) (a:LN) (b:List S43) (c:Int) (g:Int) (h:Bool):Option Ri22 :=
 qN1 k F a b g k c h ([]:List S28)
theorem i22B_all (k:Nat) (F:Fns1) (m:FnsOk1 F):∀ c g a j b r,i22B k F c g a j b=some r→CallT Tryz.prog 35 [.ptr 0 5 0] (mkH [⟨[.str c,w44 g,.i a,.i j,.bool b],5,false⟩]) ((Xi22 c g a j b).thr r) ((Xi22 c g a j b).enc r) ((Xi22 c g a j b).fin r):=by
 intro c g a j b r h
 refine qA0 (Xi22 c g a j b) Tryz.func35 Kr Kr rfl (t:=i22B k F c g a j b) ?_ h
 unfold i22B
 refine qA1 (eE:=[(0,.ptr 0 5 0)]) Kr ?_
 let l:Blk:=⟨[.str c,w44 g,.i a,.i j,.bool b],5,false⟩
 refine oH 7 (atN 1 (ctl1 i22p1)) [(3,.nils),(2,.nils),(0,.ptr 0 5 0)] (mkH [l]) ?_
 refine qCn [l] 3 7 rfl Kr ?_
 refine oLH 4 i22p2 [(0,.ptr 0 5 0),(3,.own 1 (([]:List S28)).length 7)] (mkH [l,⟨(([]:List S28)).flatMap e29,0,false⟩]) ?_
 exact (qN0 k F m c g a j b k) a b ([]:List S28)
theorem i22B_ok (k:Nat) (F:Fns1) (a:FnsOk1 F):Pi22 (i22B k F):=λb c g j l=>λx h=>i22B_all k F a b c g j l x h
def i30p1:Pt:=nav [0,0,0] (nav [0] (bodyAt Tryz.f57))
def i30p2:Pt:=nav [0,0,0,0] i30p1
def i30p3:Pt:=nav [0,0] i30p2
def i30p4:Pt:=nav [1,0] i30p3
def i30p5:Pt:=nav [2,0,0] i30p3
def i30p6:Pt:=nav [0,0,0] i30p4
def i30p7:Pt:=nav [0,0,0] i30p5
def i30p8:Pt:=nav [0,0,0] i30p6
def i30B (k:Nat) (F:Fns1) (l:LN) (m:List S43) (q:Int) (n:Int) (r:Bool):Option Ri30 :=
 (i31 k l m q n r).bind λa=>jn (λ(x:Bool)=>if x then ((i29 k l m q n r).bind λj=>(F.i30 l m j.2.1 n j.2.2).bind λc=>some ((⟨(13:Int),a.f1,⟨(([c.1]:List S28)).length,(([c.1]:List S28)).flatMap e29⟩,false,false,([]:LL),([]:LL)⟩:S28),(10:Int),c.2.2.1,c.2.2.2)) else ((i33 k ([40]:LN) l m q n r).bind λo=>(F.i49 l m q n r).bind λg=>(F.i50 g.1 o l m g.2.1 n g.2.2).bind λh=>some (h.1,(11:Int),h.2.1,h.2.2))) (λu=>if (decide (a.f0=9)) then ((g85 k a.f1).bind λb=>u (decide (0 < b))) else (if (decide (a.f0=8)) then ((g85 k a.f1).bind λb=>u (decide (0 < b))) else (u false)))
theorem i30B_all (k:Nat) (F:Fns1) (I:FnsOk1 F):∀ n o x q z r,i30B k F n o x q z=some r→CallT Tryz.prog 57 [.ptr 0 5 0] (mkH [⟨[.str n,w44 o,.i x,.i q,.bool z],5,false⟩]) ((Xi30 n o x q z).thr r) ((Xi30 n o x q z).enc r) ((Xi30 n o x q z).fin r):=by
 intro n o x q z r h
 refine qA0 (Xi30 n o x q z) Tryz.func57 Kr Kr rfl (t:=i30B k F n o x q z) ?_ h
 unfold i30B
 refine qA1 (eE:=[(0,.ptr 0 5 0)]) Kr ?_
 let A:Blk:=⟨[.str n,w44 o,.i x,.i q,.bool z],5,false⟩
 let u:Blk:=⟨[.i 0,.str [],.nils,.bool false,.bool false,.nils,.nils],0,false⟩
 refine oH 8 (atN 1 (ctl1 i30p1)) [(8,.ptr 0 5 0),(3,.i 0),(2,.ptr 1 7 0),(0,.ptr 0 5 0)] (mkH [A,u]) ?_
 refine oN (λ(a:S43)=>n44 a) (λa=>[A,u]) (atN 2 (ctl1 i30p1)) 9 [0] [] [] [.ptr 0 5 0] (qBh k n o x q z) trivial (λ_=>trivial) λa J=>?_
 let K:Env:=[(13,.bool (decide (a.f0=9))),(12,.bool (decide (a.f0=9))),(11,.i a.f0),(10,.ptr 2 3 0),(4,.ptr 2 3 0),(9,n44 a),(8,.ptr 0 5 0),(3,.i 0),(2,.ptr 1 7 0),(0,.ptr 0 5 0)]
 refine oH 10 (atN 4 (ctl1 i30p2)) K (mkH [A,u,⟨e44 a,3,false⟩]) ?_
 refine oJ i30p3 (λ(D:Bool)=>[(0,.ptr 0 5 0),(2,.ptr 1 7 0),(4,.ptr 2 3 0),(23,.bool D)]) (λ(D:Bool)=>(mkH [A,u,⟨e44 a,3,false⟩])) (λD=>?_) (λW C=>?_)
 ·refine oS 23 (λE=>?_) (λE=>?_)
  ·let U:Env:=[(24,.ptr 0 5 0),(23,.bool true),(0,.ptr 0 5 0),(2,.ptr 1 7 0),(4,.ptr 2 3 0),(23,.bool D)]
   refine oH 4 (atN 1 (ctl1 i30p4)) U (mkH [A,u,⟨e44 a,3,false⟩]) ?_
   refine oN (λ(m:Ri29) => .i m.1) (λm=>[⟨[.str n,w44 o,.i m.2.1,.i q,.bool m.2.2],5,false⟩,u,⟨e44 a,3,false⟩]) (atN 2 (ctl1 i30p4)) 25 [0] [] [] [.ptr 0 5 0] (qAk k n o x q z) trivial (λ_=>trivial) λm L=>?_
   refine oR 4 (atN 1 (ctl1 i30p6)) ((27,.ptr 0 5 0)::(25,.i m.1)::U) ?_
   refine oN (λ(b:Ri30) => .tuple [n29 b.1,.i b.2.1]) (λb=>[⟨[.str n,w44 o,.i b.2.2.1,.i q,.bool b.2.2.2],5,false⟩,u,⟨e44 a,3,false⟩]) (atN 2 (ctl1 i30p6)) 28 [0] [] [] [.ptr 0 5 0] (I.i30_ok n o m.2.1 q m.2.2) trivial (λ_=>trivial) λb M=>?_
   let V:Env:=[(2,.ptr 1 7 0),(4,.ptr 2 3 0),(5,.ptr 3 7 0)]
   let N:Blk:=⟨[.str n,w44 o,.i b.2.2.1,.i q,.bool b.2.2.2],5,false⟩
   refine oLH 8 i30p8 V (mkH [N,u,⟨e44 a,3,false⟩,⟨e29 b.1,7,false⟩]) ?_
   refine oH 5 (atN 4 (ctl1 i30p8)) ((34,.slice 4 7 0 1 7)::(33,n29 b.1)::(32,.str a.f1)::(31,.ptr 2 3 1)::V) (mkH [N,u,⟨e44 a,3,false⟩,⟨e29 b.1,7,false⟩,⟨e29 b.1,0,false⟩]) ?_
   refine oZ 34 4 1 7 [.i b.1.f0,.str b.1.f1,q29 b.1.f2,.bool b.1.f3,.bool b.1.f4,w9 b.1.f5,w9 b.1.f6] [2,4,5,31,32,33] [] trivial ?_
   exact oQF 5 [N,⟨[.i 13,.str a.f1,w29 ([b.1]:List S28),.bool false,.bool false,.nils,.nils],7,false⟩,⟨e44 a,3,false⟩,⟨e29 b.1,7,false⟩,⟨[],0,false⟩] 1 [] [.agg [.i 13,.str a.f1,w29 ([b.1]:List S28),.bool false,.bool false,.nils,.nils],.i 10] (.tuple [.agg [.i 13,.str a.f1,w29 ([b.1]:List S28),.bool false,.bool false,.vec 0 1 [],.vec 0 1 []],.i 10]) (.tuple (.agg (.cs (.cs (.cs (.cs (.cs (.nil (.nil .ps))))))) .ps) .ps) trivial
  ·let O:Env:=[(36,.ptr 0 5 0),(23,.bool false),(0,.ptr 0 5 0),(2,.ptr 1 7 0),(4,.ptr 2 3 0),(23,.bool D)]
   refine oH 5 (atN 1 (ctl1 i30p5)) O (mkH [A,u,⟨e44 a,3,false⟩]) ?_
   refine oN (λ(g:Bool) => .bool g) (λg=>[A,u,⟨e44 a,3,false⟩]) (atN 2 (ctl1 i30p5)) 37 [0] [] [] [.ptr 0 5 0,.str [40]] (qAi k ([40]:LN) n o x q z) trivial (λ_=>trivial) λg Q=>?_
   refine oR 6 (atN 2 (ctl1 i30p7)) ((39,.ptr 0 5 0)::(38,.ptr 0 5 0)::(7,.bool g)::(37,.bool g)::O) ?_
   refine oN (λ(j:Ri49)=>n29 j.1) (λj=>[⟨[.str n,w44 o,.i j.2.1,.i q,.bool j.2.2],5,false⟩,u,⟨e44 a,3,false⟩]) (atN 3 (ctl1 i30p7)) 40 [0] [] [] [.ptr 0 5 0] (I.i49_ok n o x q z) trivial (λ_=>trivial) λj S=>?_
   refine oR 1 (atN 4 (ctl1 i30p7)) ((41,.bool g)::(40,n29 j.1)::(39,.ptr 0 5 0)::(38,.ptr 0 5 0)::(7,.bool g)::(37,.bool g)::O) ?_
   refine oN (λ(l:Ri50)=>n29 l.1) (λl=>[⟨[.str n,w44 o,.i l.2.1,.i q,.bool l.2.2],5,false⟩,u,⟨e44 a,3,false⟩]) (atN 5 (ctl1 i30p7)) 42 [0] [] [] [.ptr 0 5 0,n29 j.1,.bool g] (I.i50_ok j.1 g n o j.2.1 q j.2.2) trivial (λ_=>trivial) λl T=>?_
   exact oQF 4 [⟨[.str n,w44 o,.i l.2.1,.i q,.bool l.2.2],5,false⟩,⟨e29 l.1,7,false⟩,⟨e44 a,3,false⟩] 1 [] [n29 l.1,.i 11] (.tuple [n29 l.1,.i 11]) .ps trivial
 ·refine oS 13 (λE=>?_) (λE=>?_)
  ·refine oH 7 (atN 11 (ctl1 i30p2)) ((20,.str a.f1)::(19,.ptr 2 3 1)::(18,.bool true)::(17,.bool true)::(16,.tuple [])::(15,.tuple [])::(14,.tuple [])::(13,.bool true)::K) (mkH [A,u,⟨e44 a,3,false⟩]) ?_
   refine oA (λ(c:Int) => .i c) (atN 12 (ctl1 i30p2)) 21 [.str a.f1] (g85_ok k a.f1) λc B=>?_
   refine oL 3 i30p3 [(0,.ptr 0 5 0),(2,.ptr 1 7 0),(4,.ptr 2 3 0),(23,.bool (decide (0 < c)))] ?_
   exact C (decide (0 < c))
  ·let G:Env:=((18,.bool (decide (a.f0=8)))::(17,.bool (decide (a.f0=8)))::(16,.bool (decide (a.f0=8)))::(15,.i a.f0)::(14,.ptr 2 3 0)::(13,.bool false)::K)
   refine oH 5 (atN 9 (ctl1 i30p2)) G (mkH [A,u,⟨e44 a,3,false⟩]) ?_
   refine oS 18 (λE=>?_) (λE=>?_)
   ·refine oR 2 (atN 11 (ctl1 i30p2)) ((20,.str a.f1)::(19,.ptr 2 3 1)::(18,.bool true)::G) ?_
    refine oA (λ(c:Int) => .i c) (atN 12 (ctl1 i30p2)) 21 [.str a.f1] (g85_ok k a.f1) λc B=>?_
    refine oL 3 i30p3 [(0,.ptr 0 5 0),(2,.ptr 1 7 0),(4,.ptr 2 3 0),(23,.bool (decide (0 < c)))] ?_
    exact C (decide (0 < c))
   ·refine oL 6 i30p3 [(0,.ptr 0 5 0),(2,.ptr 1 7 0),(4,.ptr 2 3 0),(23,.bool false)] ?_
    exact C false
theorem i30B_ok (k:Nat) (F:Fns1) (a:FnsOk1 F):Pi30 (i30B k F):=λb c g j l=>λx h=>i30B_all k F a b c g j l x h
def i34p2:Pt:=nav [0,0,0,0] (nav [0,0,0] (nav [0] (bodyAt Tryz.f71)))
def i34p3:Pt:=nav [0,0] i34p2
def i34p4:Pt:=nav [1,0] i34p3
def i34p5:Pt:=nav [2,0,0] i34p3
def i34p6:Pt:=nav [0,0] i34p4
def i34B (k:Nat) (F:Fns1) (r:Int) (u:LN) (x:Bool) (z:Bool) (A:LL) (B:LL) (j:LN) (l:List S43) (n:Int) (m:Int) (g:Bool) (C:List S28):Option Ri34 :=
 (i28 k ([119,104,101,110]:LN) j l n m g).bind λh=>jn (λ(o:Int×Bool×S28)=>(F.i53 r u x z A B o.2.2 j l o.1 m o.2.1 C).bind λa=>some (a.1,a.2.1,a.2.2.1,a.2.2.2.1,a.2.2.2.2.1,a.2.2.2.2.2.1,a.2.2.2.2.2.2.1,a.2.2.2.2.2.2.2.1,a.2.2.2.2.2.2.2.2)) (λq=>if h then ((i29 k j l n m g).bind λc=>(F.i52 j l c.2.1 m c.2.2).bind λb=>q (b.2.1,b.2.2,b.1)) else (q (n,g,(⟨24,([]:LN),(⟨(([]:List S28)).length,(([]:List S28)).flatMap e29⟩:Raw),false,false,([]:LL),([]:LL)⟩:S28))))
theorem i34B_all (k:Nat) (F:Fns1) (T:FnsOk1 F):∀ u x z A B C j l E m c o r,i34B k F u x z A B C j l E m c o=some r→CallT Tryz.prog 71 [.ptr 0 5 0,.agg [.i u,.str x,.own 1 (o).length 7,.bool z,.bool A,w9 B,w9 C]] (mkH [⟨[.str j,w44 l,.i E,.i m,.bool c],5,false⟩,⟨(o).flatMap e29,0,false⟩]) ((Xi34 u x z A B C j l E m c o).thr r) ((Xi34 u x z A B C j l E m c o).enc r) ((Xi34 u x z A B C j l E m c o).fin r):=by
 intro u x z A B C j l E m c o r h
 refine qA0 (Xi34 u x z A B C j l E m c o) Tryz.func71 Kr Kr rfl (t:=i34B k F u x z A B C j l E m c o) ?_ h
 unfold i34B
 refine qA1 (eE:=[(0,.ptr 0 5 0),(1,.agg [.i u,.str x,.own 1 (o).length 7,.bool z,.bool A,w9 B,w9 C])]) Kr ?_
 let M:Env:=[(7,.ptr 0 5 0),(5,.ptr 4 7 0),(6,.agg [.i 24,.str [],.nils,.bool false,.bool false,.nils,.nils]),(4,.ptr 3 7 0),(3,.ptr 2 7 0),(0,.ptr 0 5 0),(1,.agg [.i u,.str x,.own 1 (o).length 7,.bool z,.bool A,w9 B,w9 C])]
 let K:Blk:=⟨[.str j,w44 l,.i E,.i m,.bool c],5,false⟩
 let I:Blk:=⟨(o).flatMap e29,0,false⟩
 let D:Blk:=⟨[.i u,.str x,.own 1 (o).length 7,.bool z,.bool A,w9 B,w9 C],0,false⟩
 let G:Blk:=⟨[.i 0,.str [],.nils,.bool false,.bool false,.nils,.nils],0,false⟩
 let J:Blk:=⟨[.i 24,.str [],.nils,.bool false,.bool false,.nils,.nils],7,false⟩
 refine oH 15 (atN 1 (ctl1 i34p2)) M (mkH [K,I,D,G,J]) ?_
 refine oN (λ(n:Bool) => .bool n) (λn=>[K,I,D,G,J]) (atN 2 (ctl1 i34p2)) 8 [0] [] [] [.ptr 0 5 0,.str [119,104,101,110]] (qCo k ([119,104,101,110]:LN) j l E m c) trivial (λ_=>trivial) λn N=>?_
 refine oR 1 i34p3 ((8,.bool n)::M) ?_
 refine oJ i34p5 (λ(q:Int×Bool×S28)=>[(0,.ptr 0 5 0),(3,.ptr 2 7 0),(4,.ptr 3 7 0),(5,.ptr 4 7 0)]) (λ(q:Int×Bool×S28)=>(mkH [⟨[.str j,w44 l,.i q.1,.i m,.bool q.2.1],5,false⟩,I,D,G,⟨e29 q.2.2,7,false⟩])) (λq=>?_) (λj4 L=>?_)
 ·let U:Env:=[(15,n29 q.2.2),(14,.agg [.i u,.str x,.own 1 (o).length 7,.bool z,.bool A,w9 B,w9 C]),(13,.ptr 0 5 0),(0,.ptr 0 5 0),(3,.ptr 2 7 0),(4,.ptr 3 7 0),(5,.ptr 4 7 0)]
  refine oH 4 (atN 3 (ctl1 i34p5)) U (mkH [⟨[.str j,w44 l,.i q.1,.i m,.bool q.2.1],5,false⟩,I,D,G,⟨e29 q.2.2,7,false⟩]) ?_
  refine oN (λ(a:Ri53) => .agg [.i a.1,.str a.2.1,.own 1 (a.2.2.2.2.2.2.2.2).length 7,.bool a.2.2.1,.bool a.2.2.2.1,w9 a.2.2.2.2.1,w9 a.2.2.2.2.2.1]) (λa=>[⟨[.str j,w44 l,.i a.2.2.2.2.2.2.2.1,.i m,.bool a.2.2.2.2.2.2.1],5,false⟩,⟨(a.2.2.2.2.2.2.2.2).flatMap e29,0,false⟩,D,G,⟨e29 q.2.2,7,false⟩]) (atN 4 (ctl1 i34p5)) 16 [0,1] [0,1] [0,1] [.ptr 0 5 0,.agg [.i u,.str x,.own 1 (o).length 7,.bool z,.bool A,w9 B,w9 C],n29 q.2.2] (T.i53_ok u x z A B C q.2.2 j l q.1 m q.2.1 o) ⟨u29 _,trivial⟩ (λ_=>⟨u29 _,trivial⟩) λa O=>?_
  let V:Blk:=⟨[.str j,w44 l,.i a.2.2.2.2.2.2.2.1,.i m,.bool a.2.2.2.2.2.2.1],5,false⟩
  let W:Blk:=⟨(a.2.2.2.2.2.2.2.2).flatMap e29,0,false⟩
  let Y:Blk:=⟨[.i a.1,.str a.2.1,.own 1 (a.2.2.2.2.2.2.2.2).length 7,.bool a.2.2.1,.bool a.2.2.2.1,w9 a.2.2.2.2.1,w9 a.2.2.2.2.2.1],7,false⟩
  refine oH 3 .fin ((16,.agg [.i a.1,.str a.2.1,.own 1 (a.2.2.2.2.2.2.2.2).length 7,.bool a.2.2.1,.bool a.2.2.2.1,w9 a.2.2.2.2.1,w9 a.2.2.2.2.2.1])::U) (mkH [V,W,D,Y,⟨e29 q.2.2,7,false⟩]) ?_
  exact qAx (r:=(a.1,a.2.1,a.2.2.1,a.2.2.2.1,a.2.2.2.2.1,a.2.2.2.2.2.1,a.2.2.2.2.2.2.1,a.2.2.2.2.2.2.2.1,a.2.2.2.2.2.2.2.2)) (xs:=[.agg [.i a.1,.str a.2.1,.own 1 (a.2.2.2.2.2.2.2.2).length 7,.bool a.2.2.1,.bool a.2.2.2.1,w9 a.2.2.2.2.1,w9 a.2.2.2.2.2.1]]) [V,W] [D,Y,⟨e29 q.2.2,7,false⟩] Kr Kr Kr Kr Kr ⟨Kr,⟨(qA _ (u29 _)),trivial⟩⟩ Kr Kr
 ·refine oS 8 (λZ=>?_) (λZ=>?_)
  ·refine oH 4 (atN 1 (ctl1 i34p4)) ((9,.ptr 0 5 0)::(8,.bool true)::(8,.bool n)::M) (mkH [K,I,D,G,J]) ?_
   refine oN (λ(g:Ri29) => .i g.1) (λg=>[⟨[.str j,w44 l,.i g.2.1,.i m,.bool g.2.2],5,false⟩,I,D,G,J]) (atN 2 (ctl1 i34p4)) 10 [0] [] [] [.ptr 0 5 0] (qAk k j l E m c) trivial (λ_=>trivial) λg Q=>?_
   refine oL 1 i34p6 [(0,.ptr 0 5 0),(3,.ptr 2 7 0),(4,.ptr 3 7 0),(5,.ptr 4 7 0)] ?_
   refine oR 2 (atN 1 (ctl1 i34p6)) ((11,.ptr 0 5 0)::[(0,.ptr 0 5 0),(3,.ptr 2 7 0),(4,.ptr 3 7 0),(5,.ptr 4 7 0)]) ?_
   refine oN (λ(b:Ri52)=>n29 b.1) (λb=>[⟨[.str j,w44 l,.i b.2.1,.i m,.bool b.2.2],5,false⟩,I,D,G,J]) (atN 2 (ctl1 i34p6)) 12 [0] [] [] [.ptr 0 5 0] (T.i52_ok j l g.2.1 m g.2.2) trivial (λ_=>trivial) λb S=>?_
   refine oLH 3 i34p5 [(0,.ptr 0 5 0),(3,.ptr 2 7 0),(4,.ptr 3 7 0),(5,.ptr 4 7 0)] (mkH [⟨[.str j,w44 l,.i b.2.1,.i m,.bool b.2.2],5,false⟩,I,D,G,⟨e29 b.1,7,false⟩]) ?_
   exact L (b.2.1,b.2.2,b.1)
  ·refine oH 3 i34p5 ((8,.bool false)::(8,.bool n)::M) (mkH [K,I,D,G,J]) ?_
   refine qAw [K,I,D,G,J] 4 7 [.i 24,.str [],.nils,.bool false,.bool false,.nils,.nils] [.i 24,.str [],w29 ([]:List S28),.bool false,.bool false,w9 ([]:LL),w9 ([]:LL)] Kr rfl (.cons (.cons (.nil (.cons (.cons (.nil (.nil (.refl)))))))) ?_
   refine oHp (mkH [K,I,D,G,⟨[.i 24,.str [],w29 ([]:List S28),.bool false,.bool false,w9 ([]:LL),w9 ([]:LL)],7,false⟩]) ?_
   refine oK [0,3,4,5] [(0,.ptr 0 5 0),(3,.ptr 2 7 0),(4,.ptr 3 7 0),(5,.ptr 4 7 0)] ?_
   exact L (E,c,(⟨24,([]:LN),(⟨(([]:List S28)).length,(([]:List S28)).flatMap e29⟩:Raw),false,false,([]:LL),([]:LL)⟩:S28))
theorem i34B_ok (k:Nat) (F:Fns1) (b:FnsOk1 F):Pi34 (i34B k F):=λc g j l m n o q r u a z=>λx h=>i34B_all k F b c g j l m n o q r u a z x h
def i49c0:LN:=[114,101,99,101,105,118,101]
def i49c1:LN:=[98,101,103,105,110]
def i49p1:Pt:=nav [0,0,0] (nav [0] (bodyAt Tryz.f87))
def i49p2:Pt:=nav [0,0,0,0,0] i49p1
def i49p3:Pt:=nav [0,0] i49p2
def i49p4:Pt:=nav [1,0] i49p3
def i49p5:Pt:=nav [2,0] i49p3
def i49p7:Pt:=nav [0,0] i49p5
def i49p8:Pt:=nav [1,0] i49p7
def i49p9:Pt:=nav [2,0] i49p7
def i49p10:Pt:=nav [0,0,0] i49p8
def i49p11:Pt:=nav [0,0] i49p9
def i49p12:Pt:=nav [0,0,0] i49p10
def i49p13:Pt:=nav [1,0] i49p11
def i49p14:Pt:=nav [2,0] i49p11
def i49p16:Pt:=nav [0,0] i49p14
def i49p17:Pt:=nav [1,0] i49p16
def i49p18:Pt:=nav [2,0] i49p16
def i49p19:Pt:=nav [0,0] i49p18
def i49p20:Pt:=nav [1,0] i49p19
def i49p21:Pt:=nav [2,0] i49p19
def i49p22:Pt:=nav [0,0] i49p21
def i49p23:Pt:=nav [1,0] i49p22
def i49p24:Pt:=nav [2,0] i49p22
def i49p25:Pt:=nav [0,0,0] i49p23
def i49p26:Pt:=nav [0,0] i49p24
def i49p27:Pt:=nav [1,0] i49p26
def i49p28:Pt:=nav [2,0] i49p26
def i49p29:Pt:=nav [0,0] i49p28
def i49p30:Pt:=nav [1,0] i49p29
def i49p31:Pt:=nav [2,0] i49p29
def i49p32:Pt:=nav [0,0,0] i49p30
def i49p33:Pt:=nav [0,0] i49p31
def i49p34:Pt:=nav [0,0,0] i49p32
def i49p35:Pt:=nav [1,0] i49p33
def i49p36:Pt:=nav [2,0] i49p33
def i49p37:Pt:=nav [0,0,0] i49p34
def i49p38:Pt:=nav [0,0,0] i49p35
def i49p39:Pt:=nav [0,0] i49p36
def i49p40:Pt:=nav [0,0] i49p37
def i49p41:Pt:=nav [1,0] i49p39
def i49p42:Pt:=nav [2,0] i49p39
def i49p43:Pt:=nav [0,0] i49p42
def i49p44:Pt:=nav [1,0] i49p43
def i49p46:Pt:=nav [0,0,0] i49p44
def i49d0:DP:=⟨[],[(0,0,0),(1,0,1),(0,0,0),(4,0,0),(15,0,0),(31,0,0),(63,0,0)],7,thrown,[],H0⟩
def i49B (k:Nat) (F:Fns1) (a:LN) (b:List S43) (h:Int) (c:Int) (j:Bool):Option Ri49 :=
 (i31 k a b h c j).bind λZ=>(g118 k Z).bind λa5=>if a5 then ((i65 k true a b h c j).bind λD=>some ((⟨(1:Int),D.1,⟨0,[]⟩,false,false,([]:LL),([]:LL)⟩:S28),D.2.1,D.2.2)) else ((i33 k ([40]:LN) a b h c j).bind λa6=>if a6 then ((i29 k a b h c j).bind λN=>(F.i20 (0:Int) a b N.2.1 c N.2.2).bind λE=>(i66 k (9:Int) ([41]:LN) a b E.2.1 c E.2.2).bind λO=>some (E.1,O.2.1,O.2.2)) else ((i33 k ([123]:LN) a b h c j).bind λa7=>if a7 then ((F.i67 (4:Int) ([]:LN) false false ([]:LL) ([]:LL) ([123]:LN) ([125]:LN) (0:Int) a b h c j ([]:List S28)).bind λg=>some ((⟨g.1,g.2.1,⟨(g.2.2.2.2.2.2.2.2).length,(g.2.2.2.2.2.2.2.2).flatMap e29⟩,g.2.2.1,g.2.2.2.1,g.2.2.2.2.1,g.2.2.2.2.2.1⟩:S28),g.2.2.2.2.2.2.1,g.2.2.2.2.2.2.2.1)) else ((i33 k ([91]:LN) a b h c j).bind λa8=>if a8 then ((F.i68 a b h c j).bind λn=>some (n.1,n.2.1,n.2.2)) else ((i33 k ([60,60]:LN) a b h c j).bind λQ=>if Q then ((F.i69 a b h c j).bind λo=>some (o.1,o.2.1,o.2.2)) else ((i33 k ([35]:LN) a b h c j).bind λS=>if S then ((i29 k a b h c j).bind λG=>(F.i70 a b G.2.1 c G.2.2).bind λq=>some (q.1,q.2.1,q.2.2)) else ((i28 k ([102,117,110]:LN) a b h c j).bind λT=>if T then ((F.i71 a b h c j).bind λr=>some (r.1,r.2.1,r.2.2)) else ((i28 k ([99,97,115,101]:LN) a b h c j).bind λU=>if U then ((i29 k a b h c j).bind λI=>(F.i20 (0:Int) a b I.2.1 c I.2.2).bind λu=>(i66 k (8:Int) ([111,102]:LN) a b u.2.1 c u.2.2).bind λJ=>(F.i22 a b J.2.1 c J.2.2).bind λx=>(appS 104 ([u.1]:List S28) x.1).bind λK=>(i72 k (⟨18,([]:LN),(⟨(K).length,(K).flatMap e29⟩:Raw),false,false,([]:LL),([]:LL)⟩:S28) a b x.2.1 c x.2.2).bind λz=>some (z.1,z.2.1,z.2.2)) else ((i28 k ([105,102]:LN) a b h c j).bind λV=>if V then ((i29 k a b h c j).bind λL=>(F.i73 a b L.2.1 c L.2.2).bind λl=>(i72 k (⟨19,([]:LN),(⟨(l.1).length,(l.1).flatMap e29⟩:Raw),false,false,([]:LL),([]:LL)⟩:S28) a b l.2.1 c l.2.2).bind λA=>some (A.1,A.2.1,A.2.2)) else ((i28 k i49c0 a b h c j).bind λW=>if W then ((F.i74 a b h c j).bind λB=>some (B.1,B.2.1,B.2.2)) else ((i28 k i49c1 a b h c j).bind λY=>if Y then ((i29 k a b h c j).bind λM=>(F.i21 a b M.2.1 c M.2.2).bind λm=>(i72 k (⟨21,([]:LN),(⟨(([m.1]:List S28)).length,(([m.1]:List S28)).flatMap e29⟩:Raw),false,false,([]:LL),([]:LL)⟩:S28) a b m.2.1 c m.2.2).bind λC=>some (C.1,C.2.1,C.2.2)) else (some ((⟨(0:Int),([]:LN),⟨0,[]⟩,false,false,([]:LL),([]:LL)⟩:S28),h,true))))))))))))
theorem i49B_all (k:Nat) (F:Fns1) (hF:FnsOk1 F):∀ j l S m U r,i49B k F j l S m U=some r→CallT Tryz.prog 87 [.ptr 0 5 0] (mkH [⟨[.str j,w44 l,.i S,.i m,.bool U],5,false⟩]) ((Xi49 j l S m U).thr r) ((Xi49 j l S m U).enc r) ((Xi49 j l S m U).fin r):=by
 intro j l S m U r h
 refine qA0 (Xi49 j l S m U) Tryz.func87 Kr Kr rfl (t:=i49B k F j l S m U) ?_ h
 unfold i49B
 refine qA1 (eE:=[(0,.ptr 0 5 0)]) Kr ?_
 let Q1:Blk:=⟨[.str j,w44 l,.i S,.i m,.bool U],5,false⟩
 let B:Blk:=⟨[.i 0,.str [],.nils,.bool false,.bool false,.nils,.nils],0,false⟩
 refine oH 7 (atN 1 (ctl1 i49p1)) [(6,.ptr 0 5 0),(2,.ptr 1 7 0),(0,.ptr 0 5 0)] (mkH [Q1,B]) ?_
 refine oN (λ(a:S43)=>n44 a) (λa=>[Q1,B]) (atN 2 (ctl1 i49p1)) 7 [0] [] [] [.ptr 0 5 0] (qBh k j l S m U) trivial (λ_=>trivial) λa h8=>?_
 let E1:Env:=[(9,n44 a),(3,.ptr 2 3 0),(7,n44 a),(6,.ptr 0 5 0),(2,.ptr 1 7 0),(0,.ptr 0 5 0)]
 refine oH 8 (atN 1 (ctl1 i49p2)) E1 (mkH [Q1,B,⟨e44 a,3,false⟩]) ?_
 refine oA (λ(a6:Bool) => .bool a6) (atN 2 (ctl1 i49p2)) 10 [n44 a] (qOn k a) λa6 h9=>?_
 refine oR 2 i49p3 ((8,.bool a6)::(10,.bool a6)::E1) ?_
 refine oS 8 (λhb=>?_) (λhb=>?_)
 ·refine oR 4 (atN 1 (ctl1 i49p4)) ((11,.ptr 0 5 0)::(8,.bool true)::(8,.bool a6)::(10,.bool a6)::E1) ?_
  refine oN (λ(T:Ri65) => .str T.1) (λT=>[⟨[.str j,w44 l,.i T.2.1,.i m,.bool T.2.2],5,false⟩,B,⟨e44 a,3,false⟩]) (atN 2 (ctl1 i49p4)) 12 [0] [] [] [.ptr 0 5 0,.bool true] (qC6 k true j l S m U) trivial (λ_=>trivial) λT i3=>?_
  exact oQF 4 [⟨[.str j,w44 l,.i T.2.1,.i m,.bool T.2.2],5,false⟩,⟨[.i 1,.str T.1,.nils,.bool false,.bool false,.nils,.nils],7,false⟩,⟨e44 a,3,false⟩] 1 [] [.agg [.i 1,.str T.1,.nils,.bool false,.bool false,.nils,.nils]] (.agg [.i 1,.str T.1,.vec 0 7 [],.bool false,.bool false,.vec 0 1 [],.vec 0 1 []]) (.agg (.cs (.cs (.nil (.cs (.cs (.nil (.nil .ps))))))) .ps) trivial
 ·refine oR 4 (atN 1 (ctl1 i49p5)) ((15,.ptr 0 5 0)::(8,.bool false)::(8,.bool a6)::(10,.bool a6)::E1) ?_
  refine oN (λ(b5:Bool) => .bool b5) (λb5=>[Q1,B,⟨e44 a,3,false⟩]) (atN 2 (ctl1 i49p5)) 16 [0] [] [] [.ptr 0 5 0,.str [40]] (qAi k ([40]:LN) j l S m U) trivial (λ_=>trivial) λb5 i7=>?_
  let E4:Env:=[(0,.ptr 0 5 0),(2,.ptr 1 7 0),(14,.bool b5)]
  refine oL 2 i49p7 E4 ?_
  refine oS 14 (λhb=>?_) (λhb=>?_)
  ·refine oR 4 (atN 1 (ctl1 i49p8)) ((17,.ptr 0 5 0)::(14,.bool true)::E4) ?_
   refine oN (λ(Z:Ri29) => .i Z.1) (λZ=>[⟨[.str j,w44 l,.i Z.2.1,.i m,.bool Z.2.2],5,false⟩,B,⟨e44 a,3,false⟩]) (atN 2 (ctl1 i49p8)) 18 [0] [] [] [.ptr 0 5 0] (qAk k j l S m U) trivial (λ_=>trivial) λZ j0=>?_
   refine oR 4 (atN 1 (ctl1 i49p10)) ((19,.ptr 0 5 0)::(18,.i Z.1)::(17,.ptr 0 5 0)::(14,.bool true)::E4) ?_
   refine oN (λ(D:Ri20)=>n29 D.1) (λD=>[⟨[.str j,w44 l,.i D.2.1,.i m,.bool D.2.2],5,false⟩,B,⟨e44 a,3,false⟩]) (atN 2 (ctl1 i49p10)) 20 [0] [] [] [.ptr 0 5 0,.i 0] (hF.i20_ok (0:Int) j l Z.2.1 m Z.2.2) trivial (λ_=>trivial) λD j1=>?_
   refine oH 6 (atN 1 (ctl1 i49p12)) ((21,.ptr 0 5 0)::(4,.ptr 3 7 0)::(20,n29 D.1)::(19,.ptr 0 5 0)::(18,.i Z.1)::(17,.ptr 0 5 0)::(14,.bool true)::E4) (mkH [⟨[.str j,w44 l,.i D.2.1,.i m,.bool D.2.2],5,false⟩,B,⟨e44 a,3,false⟩,⟨e29 D.1,7,false⟩]) ?_
   refine oN (λ(a7:Ri66) => .i a7.1) (λa7=>[⟨[.str j,w44 l,.i a7.2.1,.i m,.bool a7.2.2],5,false⟩,B,⟨e44 a,3,false⟩,⟨e29 D.1,7,false⟩]) (atN 2 (ctl1 i49p12)) 22 [0] [] [] [.ptr 0 5 0,.i 9,.str [41]] (qBy k (9:Int) ([41]:LN) j l D.2.1 m D.2.2) trivial (λ_=>trivial) λa7 j2=>?_
   refine oL 2 (nav [0,0,0] i49p12) [(2,.ptr 1 7 0),(4,.ptr 3 7 0)] ?_
   exact oQF 5 [⟨[.str j,w44 l,.i a7.2.1,.i m,.bool a7.2.2],5,false⟩,⟨e29 D.1,7,false⟩,⟨e44 a,3,false⟩,⟨e29 D.1,7,false⟩] 1 [] [n29 D.1] (n29 D.1) .ps trivial
  ·refine oR 4 (atN 1 (ctl1 i49p9)) ((25,.ptr 0 5 0)::(14,.bool false)::E4) ?_
   refine oN (λ(a5:Bool) => .bool a5) (λa5=>[Q1,B,⟨e44 a,3,false⟩]) (atN 2 (ctl1 i49p9)) 26 [0] [] [] [.ptr 0 5 0,.str [123]] (qAi k ([123]:LN) j l S m U) trivial (λ_=>trivial) λa5 j3=>?_
   refine oR 2 i49p11 ((24,.bool a5)::(26,.bool a5)::(25,.ptr 0 5 0)::(14,.bool false)::E4) ?_
   refine oS 24 (λhb=>?_) (λhb=>?_)
   ·let E7:Env:=((28,.agg [.i 4,.str [],.nils,.bool false,.bool false,.nils,.nils])::(27,.ptr 0 5 0)::(24,.bool true)::(24,.bool a5)::(26,.bool a5)::(25,.ptr 0 5 0)::(14,.bool false)::E4)
    refine oR 5 (atN 2 (ctl1 i49p13)) E7 ?_
    refine qAg (λ(b:Ri67) => .agg [.i b.1,.str b.2.1,.own 3 (b.2.2.2.2.2.2.2.2).length 7,.bool b.2.2.1,.bool b.2.2.2.1,w9 b.2.2.2.2.1,w9 b.2.2.2.2.2.1]) (λ(b:Ri67)=>(mkH [⟨[.str j,w44 l,.i b.2.2.2.2.2.2.1,.i m,.bool b.2.2.2.2.2.2.2.1],5,false⟩,B,⟨e44 a,3,false⟩,⟨(b.2.2.2.2.2.2.2.2).flatMap e29,0,false⟩])) (atN 3 (ctl1 i49p13)) (λb=>((29,.agg [.i b.1,.str b.2.1,.own 3 (b.2.2.2.2.2.2.2.2).length 7,.bool b.2.2.1,.bool b.2.2.2.1,w9 b.2.2.2.2.1,w9 b.2.2.2.2.2.1])::E7)) (fi:=113) (args:=[.ptr 0 5 0,.agg [.i 4,.str [],.nils,.bool false,.bool false,.nils,.nils],.str [123],.str [125],.i 0]) Kr (λb h=>frW 1 [Q1,B,⟨e44 a,3,false⟩,⟨(([]:List S28)).flatMap e29,0,false⟩] (rs:=[0,3]) (ms:=[0,1]) (ms':=[0,1]) (mv:=[0,0,0,1]) (xs':=[.ptr 0 5 0,.agg [.i 4,.str [],.own 3 (([]:List S28)).length 7,.bool false,.bool false,w9 ([]:LL),w9 ([]:LL)],.str [123],.str [125],.i 0]) (.cons (.agg (.cons (.cons (.none (.cons (.cons (.nil (.nil (.refl)))))))) (.refl))) (hF.i67_ok (4:Int) ([]:LN) false false ([]:LL) ([]:LL) ([123]:LN) ([125]:LN) (0:Int) j l S m U ([]:List S28) b h) ⟨u29 _,trivial⟩ ⟨u29 _,trivial⟩ Kr) (λ_=>by kernel_rfl) (λb j4=>?_)
    exact oQF 3 [⟨[.str j,w44 l,.i b.2.2.2.2.2.2.1,.i m,.bool b.2.2.2.2.2.2.2.1],5,false⟩,⟨[.i b.1,.str b.2.1,.own 3 (b.2.2.2.2.2.2.2.2).length 7,.bool b.2.2.1,.bool b.2.2.2.1,w9 b.2.2.2.2.1,w9 b.2.2.2.2.2.1],7,false⟩,⟨e44 a,3,false⟩,⟨(b.2.2.2.2.2.2.2.2).flatMap e29,0,false⟩] 1 [] [.agg [.i b.1,.str b.2.1,.own 3 (b.2.2.2.2.2.2.2.2).length 7,.bool b.2.2.1,.bool b.2.2.2.1,w9 b.2.2.2.2.1,w9 b.2.2.2.2.2.1]] (.agg [.i b.1,.str b.2.1,w29 b.2.2.2.2.2.2.2.2,.bool b.2.2.1,.bool b.2.2.2.1,w9 b.2.2.2.2.1,w9 b.2.2.2.2.2.1]) (.agg (.cs (.cs (qAl qA2 qAf rfl rfl rfl .ps))) .ps) trivial
   ·refine oR 4 (atN 1 (ctl1 i49p14)) ((31,.ptr 0 5 0)::(24,.bool false)::(24,.bool a5)::(26,.bool a5)::(25,.ptr 0 5 0)::(14,.bool false)::E4) ?_
    refine oN (λ(b2:Bool) => .bool b2) (λb2=>[Q1,B,⟨e44 a,3,false⟩]) (atN 2 (ctl1 i49p14)) 32 [0] [] [] [.ptr 0 5 0,.str [91]] (qAi k ([91]:LN) j l S m U) trivial (λ_=>trivial) λb2 j5=>?_
    refine oL 2 i49p16 [(0,.ptr 0 5 0),(2,.ptr 1 7 0),(30,.bool b2)] ?_
    let E9:Env:=[(0,.ptr 0 5 0),(2,.ptr 1 7 0),(30,.bool b2)]
    refine oS 30 (λhb=>?_) (λhb=>?_)
    ·refine oR 4 (atN 1 (ctl1 i49p17)) ((33,.ptr 0 5 0)::(30,.bool true)::E9) ?_
     refine oN (λ(E:Ri68)=>n29 E.1) (λE=>[⟨[.str j,w44 l,.i E.2.1,.i m,.bool E.2.2],5,false⟩,B,⟨e44 a,3,false⟩]) (atN 2 (ctl1 i49p17)) 34 [0] [] [] [.ptr 0 5 0] (hF.i68_ok j l S m U) trivial (λ_=>trivial) λE d2=>?_
     exact oQF 3 [⟨[.str j,w44 l,.i E.2.1,.i m,.bool E.2.2],5,false⟩,⟨e29 E.1,7,false⟩,⟨e44 a,3,false⟩] 1 [] [n29 E.1] (n29 E.1) .ps trivial
    ·refine oR 4 (atN 1 (ctl1 i49p18)) ((36,.ptr 0 5 0)::(30,.bool false)::E9) ?_
     refine oN (λ(L:Bool) => .bool L) (λL=>[Q1,B,⟨e44 a,3,false⟩]) (atN 2 (ctl1 i49p18)) 37 [0] [] [] [.ptr 0 5 0,.str [60,60]] (qAi k ([60,60]:LN) j l S m U) trivial (λ_=>trivial) λL d3=>?_
     refine oR 2 i49p19 ((35,.bool L)::(37,.bool L)::(36,.ptr 0 5 0)::(30,.bool false)::E9) ?_
     refine oS 35 (λhb=>?_) (λhb=>?_)
     ·refine oR 4 (atN 1 (ctl1 i49p20)) ((38,.ptr 0 5 0)::(35,.bool true)::(35,.bool L)::(37,.bool L)::(36,.ptr 0 5 0)::(30,.bool false)::E9) ?_
      refine oN (λ(G:Ri69)=>n29 G.1) (λG=>[⟨[.str j,w44 l,.i G.2.1,.i m,.bool G.2.2],5,false⟩,B,⟨e44 a,3,false⟩]) (atN 2 (ctl1 i49p20)) 39 [0] [] [] [.ptr 0 5 0] (hF.i69_ok j l S m U) trivial (λ_=>trivial) λG d4=>?_
      exact oQF 3 [⟨[.str j,w44 l,.i G.2.1,.i m,.bool G.2.2],5,false⟩,⟨e29 G.1,7,false⟩,⟨e44 a,3,false⟩] 1 [] [n29 G.1] (n29 G.1) .ps trivial
     ·refine oR 4 (atN 1 (ctl1 i49p21)) ((41,.ptr 0 5 0)::(35,.bool false)::(35,.bool L)::(37,.bool L)::(36,.ptr 0 5 0)::(30,.bool false)::E9) ?_
      refine oN (λ(a8:Bool) => .bool a8) (λa8=>[Q1,B,⟨e44 a,3,false⟩]) (atN 2 (ctl1 i49p21)) 42 [0] [] [] [.ptr 0 5 0,.str [35]] (qAi k ([35]:LN) j l S m U) trivial (λ_=>trivial) λa8 d5=>?_
      refine oL 2 i49p22 [(0,.ptr 0 5 0),(2,.ptr 1 7 0),(40,.bool a8)] ?_
      let b6:Env:=[(0,.ptr 0 5 0),(2,.ptr 1 7 0),(40,.bool a8)]
      refine oS 40 (λhb=>?_) (λhb=>?_)
      ·refine oR 4 (atN 1 (ctl1 i49p23)) ((43,.ptr 0 5 0)::(40,.bool true)::b6) ?_
       refine oN (λ(Q:Ri29) => .i Q.1) (λQ=>[⟨[.str j,w44 l,.i Q.2.1,.i m,.bool Q.2.2],5,false⟩,B,⟨e44 a,3,false⟩]) (atN 2 (ctl1 i49p23)) 44 [0] [] [] [.ptr 0 5 0] (qAk k j l S m U) trivial (λ_=>trivial) λQ d6=>?_
       refine oR 4 (atN 1 (ctl1 i49p25)) ((45,.ptr 0 5 0)::(44,.i Q.1)::(43,.ptr 0 5 0)::(40,.bool true)::b6) ?_
       refine oN (λ(I:Ri70)=>n29 I.1) (λI=>[⟨[.str j,w44 l,.i I.2.1,.i m,.bool I.2.2],5,false⟩,B,⟨e44 a,3,false⟩]) (atN 2 (ctl1 i49p25)) 46 [0] [] [] [.ptr 0 5 0,.nils] (hF.i70_ok j l Q.2.1 m Q.2.2) trivial (λ_=>trivial) λI d9=>?_
       exact oQF 3 [⟨[.str j,w44 l,.i I.2.1,.i m,.bool I.2.2],5,false⟩,⟨e29 I.1,7,false⟩,⟨e44 a,3,false⟩] 1 [] [n29 I.1] (n29 I.1) .ps trivial
      ·refine oR 4 (atN 1 (ctl1 i49p24)) ((48,.ptr 0 5 0)::(40,.bool false)::b6) ?_
       refine oN (λ(M:Bool) => .bool M) (λM=>[Q1,B,⟨e44 a,3,false⟩]) (atN 2 (ctl1 i49p24)) 49 [0] [] [] [.ptr 0 5 0,.str [102,117,110]] (qCo k ([102,117,110]:LN) j l S m U) trivial (λ_=>trivial) λM e0=>?_
       refine oR 2 i49p26 ((47,.bool M)::(49,.bool M)::(48,.ptr 0 5 0)::(40,.bool false)::b6) ?_
       refine oS 47 (λhb=>?_) (λhb=>?_)
       ·refine oR 4 (atN 1 (ctl1 i49p27)) ((50,.ptr 0 5 0)::(47,.bool true)::(47,.bool M)::(49,.bool M)::(48,.ptr 0 5 0)::(40,.bool false)::b6) ?_
        refine oN (λ(J:Ri71)=>n29 J.1) (λJ=>[⟨[.str j,w44 l,.i J.2.1,.i m,.bool J.2.2],5,false⟩,B,⟨e44 a,3,false⟩]) (atN 2 (ctl1 i49p27)) 51 [0] [] [] [.ptr 0 5 0] (hF.i71_ok j l S m U) trivial (λ_=>trivial) λJ e1=>?_
        exact oQF 3 [⟨[.str j,w44 l,.i J.2.1,.i m,.bool J.2.2],5,false⟩,⟨e29 J.1,7,false⟩,⟨e44 a,3,false⟩] 1 [] [n29 J.1] (n29 J.1) .ps trivial
       ·refine oR 4 (atN 1 (ctl1 i49p28)) ((53,.ptr 0 5 0)::(47,.bool false)::(47,.bool M)::(49,.bool M)::(48,.ptr 0 5 0)::(40,.bool false)::b6) ?_
        refine oN (λ(a9:Bool) => .bool a9) (λa9=>[Q1,B,⟨e44 a,3,false⟩]) (atN 2 (ctl1 i49p28)) 54 [0] [] [] [.ptr 0 5 0,.str [99,97,115,101]] (qCo k ([99,97,115,101]:LN) j l S m U) trivial (λ_=>trivial) λa9 f7=>?_
        refine oL 2 i49p29 [(0,.ptr 0 5 0),(2,.ptr 1 7 0),(52,.bool a9)] ?_
        let b3:Env:=[(0,.ptr 0 5 0),(2,.ptr 1 7 0),(52,.bool a9)]
        refine oS 52 (λhb=>?_) (λhb=>?_)
        ·refine oR 4 (atN 1 (ctl1 i49p30)) ((55,.ptr 0 5 0)::(52,.bool true)::b3) ?_
         refine oN (λ(N:Ri29) => .i N.1) (λN=>[⟨[.str j,w44 l,.i N.2.1,.i m,.bool N.2.2],5,false⟩,B,⟨e44 a,3,false⟩]) (atN 2 (ctl1 i49p30)) 56 [0] [] [] [.ptr 0 5 0] (qAk k j l S m U) trivial (λ_=>trivial) λN f8=>?_
         refine oR 4 (atN 1 (ctl1 i49p32)) ((57,.ptr 0 5 0)::(56,.i N.1)::(55,.ptr 0 5 0)::(52,.bool true)::b3) ?_
         refine oN (λ(o:Ri20)=>n29 o.1) (λo=>[⟨[.str j,w44 l,.i o.2.1,.i m,.bool o.2.2],5,false⟩,B,⟨e44 a,3,false⟩]) (atN 2 (ctl1 i49p32)) 58 [0] [] [] [.ptr 0 5 0,.i 0] (hF.i20_ok (0:Int) j l N.2.1 m N.2.2) trivial (λ_=>trivial) λo f9=>?_
         let Q3:Blk:=⟨[.str j,w44 l,.i o.2.1,.i m,.bool o.2.2],5,false⟩
         refine oH 1 (atN 3 (ctl1 i49p32)) ((59,.slice 3 7 0 1 7)::(58,n29 o.1)::(57,.ptr 0 5 0)::(56,.i N.1)::(55,.ptr 0 5 0)::(52,.bool true)::b3) (mkH [Q3,B,⟨e44 a,3,false⟩,⟨e29 o.1,0,false⟩]) ?_
         refine qAz 59 3 7 1 7 Kr rfl ?_
         let Q4:Blk:=⟨(([o.1]:List S28)).flatMap e29,0,false⟩
         let Q5:Blk:=⟨[.i 18,.str [],.own 3 (([o.1]:List S28)).length 7,.bool false,.bool false,.nils,.nils],7,false⟩
         refine oLH 5 i49p34 [(0,.ptr 0 5 0),(2,.ptr 1 7 0),(5,.ptr 4 7 0)] (mkH [Q3,B,⟨e44 a,3,false⟩,Q4,Q5]) ?_
         let c8:Env:=[(0,.ptr 0 5 0),(2,.ptr 1 7 0),(5,.ptr 4 7 0)]
         refine oR 2 (atN 1 (ctl1 i49p34)) ((61,.ptr 0 5 0)::c8) ?_
         refine oN (λ(C:Ri66) => .i C.1) (λC=>[⟨[.str j,w44 l,.i C.2.1,.i m,.bool C.2.2],5,false⟩,B,⟨e44 a,3,false⟩,Q4,Q5]) (atN 2 (ctl1 i49p34)) 62 [0] [] [] [.ptr 0 5 0,.i 8,.str [111,102]] (qBy k (8:Int) ([111,102]:LN) j l o.2.1 m o.2.2) trivial (λ_=>trivial) λC g0=>?_
         refine oR 2 i49p37 ((62,.i C.1)::(61,.ptr 0 5 0)::c8) ?_
         refine qA7 (λq c1=>?_)
         refine qA7 (λc c2=>?_)
         let b7:Env:=[(65,.ptr 0 5 0),(64,.own 3 (([o.1]:List S28)).length 7),(63,.ptr 4 7 2),(62,.i C.1),(61,.ptr 0 5 0),(0,.ptr 0 5 0),(2,.ptr 1 7 0),(5,.ptr 4 7 0)]
         let Q6:Blk:=⟨[.str j,w44 l,.i q.2.1,.i m,.bool q.2.2],5,false⟩
         refine oD (H':=(mkH [Q6,B,⟨e44 a,3,false⟩,⟨(c).flatMap e29,0,false⟩,⟨[.i 18,.str [],.own 3 (c).length 7,.bool false,.bool false,.nils,.nils],7,false⟩])) (nav [0] i49p37) ((68,.ptr 4 7 2)::(67,.own 3 (c).length 7)::(66,w29 q.1)::b7) [(mkH [Q6,B,⟨e44 a,3,false⟩,Q4,Q5]),(mkH [Q6,B,⟨e44 a,3,false⟩,⟨(c).flatMap e29,0,false⟩,Q5]),(mkH [Q6,B,⟨e44 a,3,false⟩,⟨(c).flatMap e29,0,false⟩,⟨[.i 18,.str [],.own 3 (c).length 7,.bool false,.bool false,.nils,.nils],7,false⟩])] i49d0 (oDr 3 3 b7 (qA6 (l':=(opsAt i49p37).toList.drop 4) (eE:=((66,w29 q.1)::b7)) (hs:=[(mkH [Q6,B,⟨e44 a,3,false⟩,Q4,Q5])]) (H':=(mkH [Q6,B,⟨e44 a,3,false⟩,Q4,Q5])) (fi:=35) (args:=[.ptr 0 5 0]) (v:=w29 q.1) Kr (frC (rs:=[0]) (ms:=[]) (ms':=[]) (hF.i22_ok j l C.2.1 m C.2.2 q c1) trivial trivial Kr) Kr (qAb (l':=(opsAt i49p37).toList.drop 5) (eE:=((67,.own 3 (c).length 7)::(66,w29 q.1)::b7)) (hs:=[(mkH [Q6,B,⟨e44 a,3,false⟩,⟨(c).flatMap e29,0,false⟩,Q5])]) (x:=c) (λ(c:List S28)=>(.own 3 (c).length 7,(mkH [Q6,B,⟨e44 a,3,false⟩,⟨(c).flatMap e29,0,false⟩,Q5]))) (appHV (sz:=7) qA2 rfl qAh [Q6,B,⟨e44 a,3,false⟩,Q4,Q5] 3 104 ([o.1]:List S28) q.1 rfl rfl Kr) c2 Kr (oDh 2 7 ((68,.ptr 4 7 2)::(67,.own 3 (c).length 7)::(66,w29 q.1)::b7) (mkH [Q6,B,⟨e44 a,3,false⟩,⟨(c).flatMap e29,0,false⟩,⟨[.i 18,.str [],.own 3 (c).length 7,.bool false,.bool false,.nils,.nils],7,false⟩]) [(mkH [Q6,B,⟨e44 a,3,false⟩,⟨(c).flatMap e29,0,false⟩,⟨[.i 18,.str [],.own 3 (c).length 7,.bool false,.bool false,.nils,.nils],7,false⟩])] .nil)))) ?_
         refine oR 4 (atN 2 (ctl1 i49p40)) ((70,.agg [.i 18,.str [],.own 3 (c).length 7,.bool false,.bool false,.nils,.nils])::(69,.ptr 0 5 0)::(68,.ptr 4 7 2)::(67,.own 3 (c).length 7)::(66,w29 q.1)::b7) ?_
         let Q7:Blk:=⟨[.i 18,.str [],w29 c,.bool false,.bool false,.nils,.nils],7,false⟩
         let K1:List Blk:=[Q6,B,⟨e44 a,3,false⟩,⟨[],0,false⟩,Q7]
         refine qB1 [Q6,B,⟨e44 a,3,false⟩,⟨(c).flatMap e29,0,false⟩,⟨[.i 18,.str [],.own 3 (c).length 7,.bool false,.bool false,.nils,.nils],7,false⟩] K1 3 (c).length 7 0 ((c).flatMap e29) [0,2,5,61,62,63,65,66,67,68,69,70] (env0:=[(0,.ptr 0 5 0),(2,.ptr 1 7 0),(5,.ptr 4 7 0),(61,.ptr 0 5 0),(62,.i C.1),(63,.ptr 4 7 2),(65,.ptr 0 5 0),(66,w29 q.1),(67,.own 3 (c).length 7),(68,.ptr 4 7 2),(69,.ptr 0 5 0),(70,.agg [.i 18,.str [],.own 3 (c).length 7,.bool false,.bool false,.nils,.nils])]) (eE:=[(0,.ptr 0 5 0),(2,.ptr 1 7 0),(5,.ptr 4 7 0),(61,.ptr 0 5 0),(62,.i C.1),(63,.ptr 4 7 2),(65,.ptr 0 5 0),(66,w29 q.1),(67,w29 c),(68,.ptr 4 7 2),(69,.ptr 0 5 0),(70,.agg [.i 18,.str [],w29 c,.bool false,.bool false,.nils,.nils])]) Kr rfl rfl (qA9 qA2 _) (Nat.zero_le _) (u29 _) Kr ⟨⟨rfl,.refl Kr⟩,⟨⟨rfl,.refl Kr⟩,⟨⟨rfl,.refl Kr⟩,⟨⟨rfl,.refl Kr⟩,⟨⟨rfl,.refl Kr⟩,⟨⟨rfl,.refl Kr⟩,⟨⟨rfl,.refl Kr⟩,⟨⟨rfl,.refl Kr⟩,⟨⟨rfl,.own (.refl Kr)⟩,⟨⟨rfl,.refl Kr⟩,⟨⟨rfl,.refl Kr⟩,⟨⟨rfl,.agg (.cons Kr (.cons Kr (.own (.refl Kr)))) (.refl Kr)⟩,trivial⟩⟩⟩⟩⟩⟩⟩⟩⟩⟩⟩⟩ ⟨.inr ⟨rfl,rfl,rfl,.refl Kr⟩,⟨.inr ⟨rfl,rfl,rfl,.refl Kr⟩,⟨.inr ⟨rfl,rfl,rfl,.refl Kr⟩,⟨.inl ⟨rfl,rfl⟩,⟨.inr ⟨rfl,rfl,rfl,.cons Kr (.cons Kr (.own (.refl Kr)))⟩,trivial⟩⟩⟩⟩⟩ ?_
         refine qAg (λ(u:Ri72)=>n29 u.1) (λ(u:Ri72)=>(mkH [⟨[.str j,w44 l,.i u.2.1,.i m,.bool u.2.2],5,false⟩,B,⟨e44 a,3,false⟩,⟨[],0,false⟩,Q7])) (atN 3 (ctl1 i49p40)) (λu=>[(71,n29 u.1),(0,.ptr 0 5 0),(2,.ptr 1 7 0),(5,.ptr 4 7 0),(61,.ptr 0 5 0),(62,.i C.1),(63,.ptr 4 7 2),(65,.ptr 0 5 0),(66,w29 q.1),(67,w29 c),(68,.ptr 4 7 2),(69,.ptr 0 5 0),(70,.agg [.i 18,.str [],w29 c,.bool false,.bool false,.nils,.nils])]) (fi:=122) (args:=[.ptr 0 5 0,.agg [.i 18,.str [],w29 c,.bool false,.bool false,.nils,.nils]]) Kr (λu h=>frW 0 K1 (rs:=[0]) (ms:=[]) (ms':=[]) (mv:=[]) (xs':=[.ptr 0 5 0,.agg [.i 18,.str [],w29 c,.bool false,.bool false,w9 ([]:LL),w9 ([]:LL)]]) (.cons (.agg (.cons (.cons (.cons (.cons (.cons (.nil (.nil (.refl)))))))) (.refl))) (qDa k (⟨18,([]:LN),(⟨(c).length,(c).flatMap e29⟩:Raw),false,false,([]:LL),([]:LL)⟩:S28) j l q.2.1 m q.2.2 u h) trivial trivial Kr) (λ_=>by kernel_rfl) (λu g1=>?_)
         exact oQF 3 [⟨[.str j,w44 l,.i u.2.1,.i m,.bool u.2.2],5,false⟩,⟨e29 u.1,7,false⟩,⟨e44 a,3,false⟩,⟨[],0,false⟩,Q7] 1 [] [n29 u.1] (n29 u.1) .ps trivial
        ·refine oR 4 (atN 1 (ctl1 i49p31)) ((73,.ptr 0 5 0)::(52,.bool false)::b3) ?_
         refine oN (λ(O:Bool) => .bool O) (λO=>[Q1,B,⟨e44 a,3,false⟩]) (atN 2 (ctl1 i49p31)) 74 [0] [] [] [.ptr 0 5 0,.str [105,102]] (qCo k ([105,102]:LN) j l S m U) trivial (λ_=>trivial) λO g2=>?_
         refine oR 2 i49p33 ((72,.bool O)::(74,.bool O)::(73,.ptr 0 5 0)::(52,.bool false)::b3) ?_
         refine oS 72 (λhb=>?_) (λhb=>?_)
         ·refine oR 4 (atN 1 (ctl1 i49p35)) ((75,.ptr 0 5 0)::(72,.bool true)::(72,.bool O)::(74,.bool O)::(73,.ptr 0 5 0)::(52,.bool false)::b3) ?_
          refine oN (λ(V:Ri29) => .i V.1) (λV=>[⟨[.str j,w44 l,.i V.2.1,.i m,.bool V.2.2],5,false⟩,B,⟨e44 a,3,false⟩]) (atN 2 (ctl1 i49p35)) 76 [0] [] [] [.ptr 0 5 0] (qAk k j l S m U) trivial (λ_=>trivial) λV g4=>?_
          refine oL 2 i49p38 [(0,.ptr 0 5 0),(2,.ptr 1 7 0)] ?_
          let c5:Env:=[(0,.ptr 0 5 0),(2,.ptr 1 7 0)]
          refine oR 3 (atN 2 (ctl1 i49p38)) ((78,.ptr 0 5 0)::(77,.ptr 0 5 0)::c5) ?_
          refine oN (λ(n:Ri73)=>w29 n.1) (λn=>[⟨[.str j,w44 l,.i n.2.1,.i m,.bool n.2.2],5,false⟩,B,⟨e44 a,3,false⟩]) (atN 3 (ctl1 i49p38)) 79 [0] [] [] [.ptr 0 5 0] (hF.i73_ok j l V.2.1 m V.2.2) trivial (λ_=>trivial) λn h0=>?_
          refine oR 1 (atN 4 (ctl1 i49p38)) ((80,.agg [.i 19,.str [],w29 n.1,.bool false,.bool false,.nils,.nils])::(79,w29 n.1)::(78,.ptr 0 5 0)::(77,.ptr 0 5 0)::c5) ?_
          refine qAg (λ(z:Ri72)=>n29 z.1) (λ(z:Ri72)=>(mkH [⟨[.str j,w44 l,.i z.2.1,.i m,.bool z.2.2],5,false⟩,B,⟨e44 a,3,false⟩])) (atN 5 (ctl1 i49p38)) (λz=>((81,n29 z.1)::(80,.agg [.i 19,.str [],w29 n.1,.bool false,.bool false,.nils,.nils])::(79,w29 n.1)::(78,.ptr 0 5 0)::(77,.ptr 0 5 0)::c5)) (fi:=122) (args:=[.ptr 0 5 0,.agg [.i 19,.str [],w29 n.1,.bool false,.bool false,.nils,.nils]]) Kr (λz h=>frW 0 [⟨[.str j,w44 l,.i n.2.1,.i m,.bool n.2.2],5,false⟩,B,⟨e44 a,3,false⟩] (rs:=[0]) (ms:=[]) (ms':=[]) (mv:=[]) (xs':=[.ptr 0 5 0,.agg [.i 19,.str [],w29 n.1,.bool false,.bool false,w9 ([]:LL),w9 ([]:LL)]]) (.cons (.agg (.cons (.cons (.cons (.cons (.cons (.nil (.nil (.refl)))))))) (.refl))) (qDa k (⟨19,([]:LN),(⟨(n.1).length,(n.1).flatMap e29⟩:Raw),false,false,([]:LL),([]:LL)⟩:S28) j l n.2.1 m n.2.2 z h) trivial trivial Kr) (λ_=>by kernel_rfl) (λz h1=>?_)
          exact oQF 3 [⟨[.str j,w44 l,.i z.2.1,.i m,.bool z.2.2],5,false⟩,⟨e29 z.1,7,false⟩,⟨e44 a,3,false⟩] 1 [] [n29 z.1] (n29 z.1) .ps trivial
         ·refine oR 4 (atN 1 (ctl1 i49p36)) ((83,.ptr 0 5 0)::(72,.bool false)::(72,.bool O)::(74,.bool O)::(73,.ptr 0 5 0)::(52,.bool false)::b3) ?_
          refine oN (λ(b0:Bool) => .bool b0) (λb0=>[Q1,B,⟨e44 a,3,false⟩]) (atN 2 (ctl1 i49p36)) 84 [0] [] [] [.ptr 0 5 0,.str i49c0] (qCo k i49c0 j l S m U) trivial (λ_=>trivial) λb0 h2=>?_
          refine oL 2 i49p39 [(0,.ptr 0 5 0),(2,.ptr 1 7 0),(82,.bool b0)] ?_
          let c3:Env:=[(0,.ptr 0 5 0),(2,.ptr 1 7 0),(82,.bool b0)]
          refine oS 82 (λhb=>?_) (λhb=>?_)
          ·refine oR 4 (atN 1 (ctl1 i49p41)) ((85,.ptr 0 5 0)::(82,.bool true)::c3) ?_
           refine oN (λ(K:Ri74)=>n29 K.1) (λK=>[⟨[.str j,w44 l,.i K.2.1,.i m,.bool K.2.2],5,false⟩,B,⟨e44 a,3,false⟩]) (atN 2 (ctl1 i49p41)) 86 [0] [] [] [.ptr 0 5 0] (hF.i74_ok j l S m U) trivial (λ_=>trivial) λK h3=>?_
           exact oQF 3 [⟨[.str j,w44 l,.i K.2.1,.i m,.bool K.2.2],5,false⟩,⟨e29 K.1,7,false⟩,⟨e44 a,3,false⟩] 1 [] [n29 K.1] (n29 K.1) .ps trivial
          ·refine oR 4 (atN 1 (ctl1 i49p42)) ((88,.ptr 0 5 0)::(82,.bool false)::c3) ?_
           refine oN (λ(W:Bool) => .bool W) (λW=>[Q1,B,⟨e44 a,3,false⟩]) (atN 2 (ctl1 i49p42)) 89 [0] [] [] [.ptr 0 5 0,.str i49c1] (qCo k i49c1 j l S m U) trivial (λ_=>trivial) λW h4=>?_
           refine oR 2 i49p43 ((87,.bool W)::(89,.bool W)::(88,.ptr 0 5 0)::(82,.bool false)::c3) ?_
           refine oS 87 (λhb=>?_) (λhb=>?_)
           ·refine oR 4 (atN 1 (ctl1 i49p44)) ((90,.ptr 0 5 0)::(87,.bool true)::(87,.bool W)::(89,.bool W)::(88,.ptr 0 5 0)::(82,.bool false)::c3) ?_
            refine oN (λ(Y:Ri29) => .i Y.1) (λY=>[⟨[.str j,w44 l,.i Y.2.1,.i m,.bool Y.2.2],5,false⟩,B,⟨e44 a,3,false⟩]) (atN 2 (ctl1 i49p44)) 91 [0] [] [] [.ptr 0 5 0] (qAk k j l S m U) trivial (λ_=>trivial) λY h5=>?_
            refine oL 2 i49p46 [(0,.ptr 0 5 0),(2,.ptr 1 7 0)] ?_
            let c9:Env:=[(0,.ptr 0 5 0),(2,.ptr 1 7 0)]
            refine oR 3 (atN 2 (ctl1 i49p46)) ((93,.ptr 0 5 0)::(92,.ptr 0 5 0)::c9) ?_
            refine oN (λ(g:Ri21)=>n29 g.1) (λg=>[⟨[.str j,w44 l,.i g.2.1,.i m,.bool g.2.2],5,false⟩,B,⟨e44 a,3,false⟩]) (atN 3 (ctl1 i49p46)) 94 [0] [] [] [.ptr 0 5 0] (hF.i21_ok j l Y.2.1 m Y.2.2) trivial (λ_=>trivial) λg h6=>?_
            let Q8:Blk:=⟨[.str j,w44 l,.i g.2.1,.i m,.bool g.2.2],5,false⟩
            refine oH 1 (atN 4 (ctl1 i49p46)) ((95,.slice 3 7 0 1 7)::(94,n29 g.1)::(93,.ptr 0 5 0)::(92,.ptr 0 5 0)::c9) (mkH [Q8,B,⟨e44 a,3,false⟩,⟨e29 g.1,0,false⟩]) ?_
            refine oZ 95 3 1 7 [.i g.1.f0,.str g.1.f1,q29 g.1.f2,.bool g.1.f3,.bool g.1.f4,w9 g.1.f5,w9 g.1.f6] [0,2,92,93,94] [] trivial ?_
            let d0:Env:=[(96,.agg [.i 21,.str [],w29 ([g.1]:List S28),.bool false,.bool false,.nils,.nils]),(95,w29 ([g.1]:List S28)),(0,.ptr 0 5 0),(2,.ptr 1 7 0),(92,.ptr 0 5 0),(93,.ptr 0 5 0),(94,n29 g.1)]
            refine oH 1 (atN 5 (ctl1 i49p46)) d0 (mkH [Q8,B,⟨e44 a,3,false⟩,⟨[],0,false⟩]) ?_
            refine qAg (λ(A:Ri72)=>n29 A.1) (λ(A:Ri72)=>(mkH [⟨[.str j,w44 l,.i A.2.1,.i m,.bool A.2.2],5,false⟩,B,⟨e44 a,3,false⟩,⟨[],0,false⟩])) (atN 6 (ctl1 i49p46)) (λA=>((97,n29 A.1)::d0)) (fi:=122) (args:=[.ptr 0 5 0,.agg [.i 21,.str [],w29 ([g.1]:List S28),.bool false,.bool false,.nils,.nils]]) Kr (λA h=>frW 0 [Q8,B,⟨e44 a,3,false⟩,⟨[],0,false⟩] (rs:=[0]) (ms:=[]) (ms':=[]) (mv:=[]) (xs':=[.ptr 0 5 0,.agg [.i 21,.str [],w29 ([g.1]:List S28),.bool false,.bool false,w9 ([]:LL),w9 ([]:LL)]]) (.cons (.agg (.cons (.cons (.cons (.cons (.cons (.nil (.nil (.refl)))))))) (.refl))) (qDa k (⟨21,([]:LN),(⟨(([g.1]:List S28)).length,(([g.1]:List S28)).flatMap e29⟩:Raw),false,false,([]:LL),([]:LL)⟩:S28) j l g.2.1 m g.2.2 A h) trivial trivial Kr) (λ_=>by kernel_rfl) (λA h7=>?_)
            exact oQF 3 [⟨[.str j,w44 l,.i A.2.1,.i m,.bool A.2.2],5,false⟩,⟨e29 A.1,7,false⟩,⟨e44 a,3,false⟩,⟨[],0,false⟩] 1 [] [n29 A.1] (n29 A.1) .ps trivial
           ·let Q9:Blk:=⟨[.str j,w44 l,.i S,.i m,.bool true],5,false⟩
            refine oLH 10 (nav [0,0,0] (nav [2,0,0] i49p43)) [(2,.ptr 1 7 0)] (mkH [Q9,B,⟨e44 a,3,false⟩]) ?_
            exact oQF 5 [Q9,⟨[.i 0,.str [],.nils,.bool false,.bool false,.nils,.nils],7,false⟩,⟨e44 a,3,false⟩] 1 [] [.agg [.i 0,.str [],.nils,.bool false,.bool false,.nils,.nils]] (.agg [.i 0,.str [],.vec 0 7 [],.bool false,.bool false,.vec 0 1 [],.vec 0 1 []]) (.agg (.cs (.cs (.nil (.cs (.cs (.nil (.nil .ps))))))) .ps) trivial
theorem i49B_ok (k:Nat) (F:Fns1) (a:FnsOk1 F):Pi49 (i49B k F):=λb c g j l=>λx h=>i49B_all k F a b c g j l x h
def i50p1:Pt:=nav [0,0,0,0,0] (nav [0] (bodyAt Tryz.f86))
def i50p2:Pt:=nav [0,0,0] i50p1
def i50p3:Pt:=nav [0,0] i50p2
def i50p4:Pt:=nav [1,0,0,0,0,0] i50p3
def i50p6:Pt:=nav [0,0] i50p4
def i50p8:Pt:=nav [1] i50p6
def i50p9:Pt:=nav [2,0] i50p6
def i50p10:Pt:=nav [0,0] i50p8
def i50p11:Pt:=nav [0,0] i50p9
def i50p12:Pt:=nav [1,0] i50p11
def i50p13:Pt:=nav [2,0] i50p11
def i50p15:Pt:=nav [0,0] i50p13
def i50p16:Pt:=nav [0,0,0,0] (nav [0,0,0] i50p12)
def i50p17:Pt:=nav [1,0] i50p15
def i50p19:Pt:=nav [0,0] i50p16
def i50p20:Pt:=nav [0,0] i50p17
def i50p21:Pt:=nav [1,0] i50p19
def i50p22:Pt:=nav [2] i50p19
def i50p23:Pt:=nav [0,0,0] i50p21
def i50p24:Pt:=nav [0,0] i50p22
def i50p25:Pt:=nav [0,0] i50p23
def qFb (k:Nat) (F:Fns1)  (q:LN) (r:List S43) (u:Int) (ih:Bool→Int→Bool→S28→Option Ri50):Bool→Int→Bool→S28→Option Ri50 :=
 λ(l:Bool) (o:Int) (m:Bool) (n:S28)=>jn (λ(a:Bool×Bool×Int×Bool×S28)=>if a.1 then ((i33 k ([40]:LN) q r a.2.2.1 u a.2.2.2.1).bind λK=>jn (λ(j:Int×Bool×Int×LN×(List S28)×Bool×Bool×LL×LL)=>ih false j.1 j.2.1 (⟨j.2.2.1,j.2.2.2.1,(⟨(j.2.2.2.2.1).length,(j.2.2.2.2.1).flatMap e29⟩:Raw),j.2.2.2.2.2.1,j.2.2.2.2.2.2.1,j.2.2.2.2.2.2.2.1,j.2.2.2.2.2.2.2.2⟩:S28)) (λE=>if K then ((F.i67 (2:Int) ([]:LN) false false ([]:LL) ([]:LL) ([40]:LN) ([41]:LN) (0:Int) q r a.2.2.1 u a.2.2.2.1 ([a.2.2.2.2]:List S28)).bind λc=>E (c.2.2.2.2.2.2.1,c.2.2.2.2.2.2.2.1,c.1,c.2.1,c.2.2.2.2.2.2.2.2,c.2.2.1,c.2.2.2.1,c.2.2.2.2.1,c.2.2.2.2.2.1)) else ((i33 k ([58]:LN) q r a.2.2.1 u a.2.2.2.1).bind λL=>jn (λ(g:Bool×Int×Bool×S28)=>if g.1 then ((i29 k q r g.2.1 u g.2.2.1).bind λh=>(i33 k ([40]:LN) q r h.2.1 u h.2.2).bind λM=>jn (λ(B:Int×Bool×S28×S28)=>E (B.1,B.2.1,3,([]:LN),([B.2.2.2,B.2.2.1]:List S28),false,false,([]:LL),([]:LL))) (λN=>if M then ((i29 k q r h.2.1 u h.2.2).bind λC=>(F.i20 (0:Int) q r C.2.1 u C.2.2).bind λx=>(i66 k (9:Int) ([41]:LN) q r x.2.1 u x.2.2).bind λD=>N (D.2.1,D.2.2,x.1,g.2.2.2)) else ((i31 k q r h.2.1 u h.2.2).bind λO=>(g116 k O).bind λQ=>(i65 k Q q r h.2.1 u h.2.2).bind λz=>N (z.2.1,z.2.2,(⟨1,z.1,(⟨(([]:List S28)).length,(([]:List S28)).flatMap e29⟩:Raw),false,false,([]:LL),([]:LL)⟩:S28),g.2.2.2)))) else ((i33 k ([35]:LN) q r g.2.1 u g.2.2.1).bind λG=>if G then ((i29 k q r g.2.1 u g.2.2.1).bind λA=>(F.i75 q r A.2.1 u A.2.2 g.2.2.2).bind λb=>E (b.2.2.2.2.2.2.2.1,b.2.2.2.2.2.2.2.2,b.1,b.2.1,b.2.2.2.2.2.2.1,b.2.2.1,b.2.2.2.1,b.2.2.2.2.1,b.2.2.2.2.2.1)) else (some (g.2.2.2,g.2.1,g.2.2.1)))) (λI=>if L then (if a.2.1 then (I (true,a.2.2.1,a.2.2.2.1,a.2.2.2.2)) else (I (decide (a.2.2.2.2.f0=1),a.2.2.1,a.2.2.2.1,a.2.2.2.2))) else (I (false,a.2.2.1,a.2.2.2.1,a.2.2.2.2)))))) else (some (a.2.2.2.2,a.2.2.1,a.2.2.2.1))) (λJ=>if (!m) then (if l then (J (true,l,o,m,n)) else ((g112 k n).bind λS=>J (S,l,o,m,n))) else (J (false,l,o,m,n)))
def qHg (k:Nat) (F:Fns1)  (a:LN) (b:List S43) (c:Int) (n:Nat):Bool→Int→Bool→S28→Option Ri50:=lp (λ_ _ _ _=>none) (qFb k F a b c) n
theorem qKs (k:Nat) (F:Fns1) (hF:FnsOk1 F) (a0:S28) (a1:Bool) (z:LN) (A:List S43) (a4:Int) (B:Int) (a6:Bool)    : ∀ (n:Nat) (m:Bool) (D:Int) (r:Bool) (l:S28),Ok (Xi50 a0 a1 z A a4 B a6) i50p1 [(0,.ptr 0 5 0),(2,.bool m),(4,.ptr 1 7 0),(6,.ptr 2 7 0)] (mkH [⟨[.str z,w44 A,.i D,.i B,.bool r],5,false⟩,⟨[.i l.f0,.str l.f1,q29 l.f2,.bool l.f3,.bool l.f4,w9 l.f5,w9 l.f6],7,false⟩,⟨[.i 0,.str [],.nils,.bool false,.bool false,.nils,.nils],0,false⟩]) (qHg k F z A B n m D r l):=by
 intro n
 induction n with
 | zero=>intro m D r l; exact ok_none
 | succ n ih =>
  intro m D r l
  show Ok _ _ _ _ (qFb k F z A B (qHg k F z A B n) m D r l)
  unfold qFb
  refine qAd (p':=nav [0] i50p1) Kr ?_
  let E2:Env:=[(13,.bool (!r)),(12,.bool (!r)),(11,.bool r),(10,.ptr 0 5 4),(9,.ptr 0 5 0),(8,.ptr 0 5 0),(0,.ptr 0 5 0),(2,.bool m),(4,.ptr 1 7 0),(6,.ptr 2 7 0)]
  let Q1:Blk:=⟨[.str z,w44 A,.i D,.i B,.bool r],5,false⟩
  let u:Blk:=⟨[.i 0,.str [],.nils,.bool false,.bool false,.nils,.nils],0,false⟩
  refine oH 9 (atN 6 (ctl1 i50p2)) E2 (mkH [Q1,⟨e29 l,7,false⟩,u]) ?_
  refine oJ i50p3 (λ(j:Bool×Bool×Int×Bool×S28)=>[(0,.ptr 0 5 0),(2,.bool j.2.1),(4,.ptr 1 7 0),(6,.ptr 2 7 0),(19,.bool j.1)]) (λ(j:Bool×Bool×Int×Bool×S28)=>(mkH [⟨[.str z,w44 A,.i j.2.2.1,.i B,.bool j.2.2.2.1],5,false⟩,⟨e29 j.2.2.2.2,7,false⟩,u])) (λj=>?_) (λh9 U=>?_)
  ·refine oS 19 (λM=>?_) (λM=>?_)
   ·let E3:Env:=[(22,.ptr 0 5 0),(19,.bool true),(0,.ptr 0 5 0),(2,.bool j.2.1),(4,.ptr 1 7 0),(6,.ptr 2 7 0),(19,.bool j.1)]
    let Q3:Blk:=⟨[.str z,w44 A,.i j.2.2.1,.i B,.bool j.2.2.2.1],5,false⟩
    let Z:Blk:=⟨e29 j.2.2.2.2,7,false⟩
    refine oH 8 (atN 1 (ctl1 i50p4)) E3 (mkH [Q3,Z,u]) ?_
    refine oN (λ(G:Bool) => .bool G) (λG=>[Q3,Z,u]) (atN 2 (ctl1 i50p4)) 23 [0] [] [] [.ptr 0 5 0,.str [40]] (qAi k ([40]:LN) z A j.2.2.1 B j.2.2.2.1) trivial (λ_=>trivial) λG d3=>?_
    refine oR 2 i50p6 ((21,.bool G)::(23,.bool G)::E3) ?_
    refine oJ i50p10 (λ(o:Int×Bool×Int×LN×(List S28)×Bool×Bool×LL×LL)=>[(0,.ptr 0 5 0),(4,.ptr 1 7 0),(6,.ptr 2 7 0)]) (λ(o:Int×Bool×Int×LN×(List S28)×Bool×Bool×LL×LL)=>(mkH [⟨[.str z,w44 A,.i o.1,.i B,.bool o.2.1],5,false⟩,⟨[.i o.2.2.1,.str o.2.2.2.1,w29 o.2.2.2.2.1,.bool o.2.2.2.2.2.1,.bool o.2.2.2.2.2.2.1,w9 o.2.2.2.2.2.2.2.1,w9 o.2.2.2.2.2.2.2.2],7,false⟩,u])) (λo=>?_) (λi3 V=>?_)
    ·refine oLH 3 i50p1 [(0,.ptr 0 5 0),(2,.bool false),(4,.ptr 1 7 0),(6,.ptr 2 7 0)] (mkH [⟨[.str z,w44 A,.i o.1,.i B,.bool o.2.1],5,false⟩,⟨[.i o.2.2.1,.str o.2.2.2.1,w29 o.2.2.2.2.1,.bool o.2.2.2.2.2.1,.bool o.2.2.2.2.2.2.1,w9 o.2.2.2.2.2.2.2.1,w9 o.2.2.2.2.2.2.2.2],7,false⟩,u]) ?_
     exact ih false o.1 o.2.1 (⟨o.2.2.1,o.2.2.2.1,(⟨(o.2.2.2.2.1).length,(o.2.2.2.2.1).flatMap e29⟩:Raw),o.2.2.2.2.2.1,o.2.2.2.2.2.2.1,o.2.2.2.2.2.2.2.1,o.2.2.2.2.2.2.2.2⟩:S28)
    ·refine oS 21 (λM=>?_) (λM=>?_)
     ·let E5:Env:=((26,.slice 3 7 0 1 7)::(25,n29 j.2.2.2.2)::(24,.ptr 0 5 0)::(21,.bool true)::(21,.bool G)::(23,.bool G)::E3)
      refine oH 5 (atN 3 (ctl1 i50p8)) E5 (mkH [Q3,Z,u,⟨e29 j.2.2.2.2,0,false⟩]) ?_
      refine qAz 26 3 7 1 7 Kr rfl ?_
      let Q5:Blk:=⟨(([j.2.2.2.2]:List S28)).flatMap e29,0,false⟩
      refine oH 1 (atN 4 (ctl1 i50p8)) ((27,.agg [.i 2,.str [],.own 3 (([j.2.2.2.2]:List S28)).length 7,.bool false,.bool false,.nils,.nils])::(26,.own 3 (([j.2.2.2.2]:List S28)).length 7)::E5) (mkH [Q3,Z,u,Q5]) ?_
      refine qAg (λ(b:Ri67) => .agg [.i b.1,.str b.2.1,.own 3 (b.2.2.2.2.2.2.2.2).length 7,.bool b.2.2.1,.bool b.2.2.2.1,w9 b.2.2.2.2.1,w9 b.2.2.2.2.2.1]) (λ(b:Ri67)=>(mkH [⟨[.str z,w44 A,.i b.2.2.2.2.2.2.1,.i B,.bool b.2.2.2.2.2.2.2.1],5,false⟩,Z,u,⟨(b.2.2.2.2.2.2.2.2).flatMap e29,0,false⟩])) (atN 5 (ctl1 i50p8)) (λb=>((28,.agg [.i b.1,.str b.2.1,.own 3 (b.2.2.2.2.2.2.2.2).length 7,.bool b.2.2.1,.bool b.2.2.2.1,w9 b.2.2.2.2.1,w9 b.2.2.2.2.2.1])::(27,.agg [.i 2,.str [],.own 3 (([j.2.2.2.2]:List S28)).length 7,.bool false,.bool false,.nils,.nils])::(26,.own 3 (([j.2.2.2.2]:List S28)).length 7)::E5)) (fi:=113) (args:=[.ptr 0 5 0,.agg [.i 2,.str [],.own 3 (([j.2.2.2.2]:List S28)).length 7,.bool false,.bool false,.nils,.nils],.str [40],.str [41],.i 0]) Kr (λb h=>frW 0 [Q3,Z,u,Q5] (rs:=[0,3]) (ms:=[0,1]) (ms':=[0,1]) (mv:=[0,0,0,1]) (xs':=[.ptr 0 5 0,.agg [.i 2,.str [],.own 3 (([j.2.2.2.2]:List S28)).length 7,.bool false,.bool false,w9 ([]:LL),w9 ([]:LL)],.str [40],.str [41],.i 0]) (.cons (.agg (.cons (.cons (.cons (.cons (.cons (.nil (.nil (.refl)))))))) (.refl))) (hF.i67_ok (2:Int) ([]:LN) false false ([]:LL) ([]:LL) ([40]:LN) ([41]:LN) (0:Int) z A j.2.2.1 B j.2.2.2.1 ([j.2.2.2.2]:List S28) b h) ⟨u29 _,trivial⟩ ⟨u29 _,trivial⟩ Kr) (λ_=>by kernel_rfl) (λb d4=>?_)
      let Q6:Blk:=⟨[.str z,w44 A,.i b.2.2.2.2.2.2.1,.i B,.bool b.2.2.2.2.2.2.2.1],5,false⟩
      let Q7:Blk:=⟨[.i b.1,.str b.2.1,.own 3 (b.2.2.2.2.2.2.2.2).length 7,.bool b.2.2.1,.bool b.2.2.2.1,w9 b.2.2.2.2.1,w9 b.2.2.2.2.2.1],7,false⟩
      let Q8:Blk:=⟨(b.2.2.2.2.2.2.2.2).flatMap e29,0,false⟩
      refine oH 2 i50p10 ((28,.agg [.i b.1,.str b.2.1,.own 3 (b.2.2.2.2.2.2.2.2).length 7,.bool b.2.2.1,.bool b.2.2.2.1,w9 b.2.2.2.2.1,w9 b.2.2.2.2.2.1])::(27,.agg [.i 2,.str [],.own 3 (([j.2.2.2.2]:List S28)).length 7,.bool false,.bool false,.nils,.nils])::(26,.own 3 (([j.2.2.2.2]:List S28)).length 7)::E5) (mkH [Q6,Q7,u,Q8]) ?_
      let Q9:Blk:=⟨[.i b.1,.str b.2.1,w29 b.2.2.2.2.2.2.2.2,.bool b.2.2.1,.bool b.2.2.2.1,w9 b.2.2.2.2.1,w9 b.2.2.2.2.2.1],7,false⟩
      refine qB1 [Q6,Q7,u,Q8] [Q6,Q9,u,⟨[],0,false⟩] 3 (b.2.2.2.2.2.2.2.2).length 7 0 ((b.2.2.2.2.2.2.2.2).flatMap e29) [0,4,6] (env0:=[(0,.ptr 0 5 0),(4,.ptr 1 7 0),(6,.ptr 2 7 0)]) (eE:=[(0,.ptr 0 5 0),(4,.ptr 1 7 0),(6,.ptr 2 7 0)]) Kr rfl rfl (qA9 qA2 _) (Nat.zero_le _) (u29 _) Kr ⟨⟨rfl,.refl Kr⟩,⟨⟨rfl,.refl Kr⟩,⟨⟨rfl,.refl Kr⟩,trivial⟩⟩⟩ ⟨.inr ⟨rfl,rfl,rfl,.refl Kr⟩,⟨.inr ⟨rfl,rfl,rfl,.cons Kr (.cons Kr (.own (.refl Kr)))⟩,⟨.inr ⟨rfl,rfl,rfl,.refl Kr⟩,⟨.inl ⟨rfl,rfl⟩,trivial⟩⟩⟩⟩ ?_
      refine qA8 [Q6,Q9,u] [⟨[],0,false⟩] Kr rfl Kr ⟨Kr,⟨Kr,⟨Kr,trivial⟩⟩⟩ ?_
      exact V (b.2.2.2.2.2.2.1,b.2.2.2.2.2.2.2.1,b.1,b.2.1,b.2.2.2.2.2.2.2.2,b.2.2.1,b.2.2.2.1,b.2.2.2.2.1,b.2.2.2.2.2.1)
     ·refine oH 4 (atN 1 (ctl1 i50p9)) ((30,.ptr 0 5 0)::(21,.bool false)::(21,.bool G)::(23,.bool G)::E3) (mkH [Q3,Z,u]) ?_
      refine oN (λ(N:Bool) => .bool N) (λN=>[Q3,Z,u]) (atN 2 (ctl1 i50p9)) 31 [0] [] [] [.ptr 0 5 0,.str [58]] (qAi k ([58]:LN) z A j.2.2.1 B j.2.2.2.1) trivial (λ_=>trivial) λN d5=>?_
      let E6:Env:=((32,.bool N)::(31,.bool N)::(30,.ptr 0 5 0)::(21,.bool false)::(21,.bool G)::(23,.bool G)::E3)
      refine oR 1 (atN 3 (ctl1 i50p9)) E6 ?_
      refine oJ i50p11 (λ(g:Bool×Int×Bool×S28)=>[(0,.ptr 0 5 0),(4,.ptr 1 7 0),(6,.ptr 2 7 0),(29,.bool g.1)]) (λ(g:Bool×Int×Bool×S28)=>(mkH [⟨[.str z,w44 A,.i g.2.1,.i B,.bool g.2.2.1],5,false⟩,⟨e29 g.2.2.2,7,false⟩,u])) (λg=>?_) (λi7 W=>?_)
      ·refine oS 29 (λM=>?_) (λM=>?_)
       ·let E7:Env:=[(40,.ptr 0 5 0),(29,.bool true),(0,.ptr 0 5 0),(4,.ptr 1 7 0),(6,.ptr 2 7 0),(29,.bool g.1)]
        refine oH 4 (atN 1 (ctl1 i50p12)) E7 (mkH [⟨[.str z,w44 A,.i g.2.1,.i B,.bool g.2.2.1],5,false⟩,⟨e29 g.2.2.2,7,false⟩,u]) ?_
        refine oN (λ(q:Ri29) => .i q.1) (λq=>[⟨[.str z,w44 A,.i q.2.1,.i B,.bool q.2.2],5,false⟩,⟨e29 g.2.2.2,7,false⟩,u]) (atN 2 (ctl1 i50p12)) 41 [0] [] [] [.ptr 0 5 0] (qAk k z A g.2.1 B g.2.2.1) trivial (λ_=>trivial) λq d9=>?_
        let Y:Blk:=⟨[.str z,w44 A,.i q.2.1,.i B,.bool q.2.2],5,false⟩
        let O:Blk:=⟨[.i 1,.str [],.nils,.bool false,.bool false,.nils,.nils],7,false⟩
        refine oH 11 (atN 1 (ctl1 i50p16)) ((43,.ptr 0 5 0)::(7,.ptr 3 7 0)::(42,.agg [.i 1,.str [],.nils,.bool false,.bool false,.nils,.nils])::(41,.i q.1)::E7) (mkH [Y,⟨e29 g.2.2.2,7,false⟩,u,O]) ?_
        refine oN (λ(S:Bool) => .bool S) (λS=>[Y,⟨e29 g.2.2.2,7,false⟩,u,O]) (atN 2 (ctl1 i50p16)) 44 [0] [] [] [.ptr 0 5 0,.str [40]] (qAi k ([40]:LN) z A q.2.1 B q.2.2) trivial (λ_=>trivial) λS e0=>?_
        let E8:Env:=((44,.bool S)::(43,.ptr 0 5 0)::(7,.ptr 3 7 0)::(42,.agg [.i 1,.str [],.nils,.bool false,.bool false,.nils,.nils])::(41,.i q.1)::E7)
        refine oR 1 i50p19 E8 ?_
        refine oJ i50p24 (λ(c:Int×Bool×S28×S28)=>[(0,.ptr 0 5 0),(4,.ptr 1 7 0),(6,.ptr 2 7 0),(7,.ptr 3 7 0)]) (λ(c:Int×Bool×S28×S28)=>(mkH [⟨[.str z,w44 A,.i c.1,.i B,.bool c.2.1],5,false⟩,⟨e29 c.2.2.2,7,false⟩,u,⟨e29 c.2.2.1,7,false⟩])) (λc=>?_) (λj0 b0=>?_)
        ·let a8:Blk:=⟨[.str z,w44 A,.i c.1,.i B,.bool c.2.1],5,false⟩
         refine oH 4 (atN 3 (ctl1 i50p24)) [(59,.slice 4 14 0 2 7),(58,n29 c.2.2.1),(57,n29 c.2.2.2),(0,.ptr 0 5 0),(4,.ptr 1 7 0),(6,.ptr 2 7 0),(7,.ptr 3 7 0)] (mkH [a8,⟨e29 c.2.2.2,7,false⟩,u,⟨e29 c.2.2.1,7,false⟩,⟨[.i c.2.2.2.f0,.str c.2.2.2.f1,q29 c.2.2.2.f2,.bool c.2.2.2.f3,.bool c.2.2.2.f4,w9 c.2.2.2.f5,w9 c.2.2.2.f6,.i c.2.2.1.f0,.str c.2.2.1.f1,q29 c.2.2.1.f2,.bool c.2.2.1.f3,.bool c.2.2.1.f4,w9 c.2.2.1.f5,w9 c.2.2.1.f6],0,false⟩]) ?_
         refine oZ 59 4 2 7 [.i c.2.2.2.f0,.str c.2.2.2.f1,q29 c.2.2.2.f2,.bool c.2.2.2.f3,.bool c.2.2.2.f4,w9 c.2.2.2.f5,w9 c.2.2.2.f6,.i c.2.2.1.f0,.str c.2.2.1.f1,q29 c.2.2.1.f2,.bool c.2.2.1.f3,.bool c.2.2.1.f4,w9 c.2.2.1.f5,w9 c.2.2.1.f6] [0,4,6,7,57,58] [] trivial ?_
         let K1:List Blk:=[a8,⟨[.i 3,.str [],w29 ([c.2.2.2,c.2.2.1]:List S28),.bool false,.bool false,.nils,.nils],7,false⟩,u,⟨e29 c.2.2.1,7,false⟩,⟨[],0,false⟩]
         refine oH 3 i50p10 [(60,.agg [.i 3,.str [],w29 ([c.2.2.2,c.2.2.1]:List S28),.bool false,.bool false,.nils,.nils]),(59,w29 ([c.2.2.2,c.2.2.1]:List S28)),(0,.ptr 0 5 0),(4,.ptr 1 7 0),(6,.ptr 2 7 0),(7,.ptr 3 7 0),(57,n29 c.2.2.2),(58,n29 c.2.2.1)] (mkH K1) ?_
         refine qAw K1 1 7 [.i 3,.str [],w29 ([c.2.2.2,c.2.2.1]:List S28),.bool false,.bool false,.nils,.nils] [.i 3,.str [],w29 ([c.2.2.2,c.2.2.1]:List S28),.bool false,.bool false,w9 ([]:LL),w9 ([]:LL)] Kr rfl (.cons (.cons (.cons (.cons (.cons (.nil (.nil (.refl)))))))) ?_
         let b6:Blk:=⟨[.i 3,.str [],w29 ([c.2.2.2,c.2.2.1]:List S28),.bool false,.bool false,w9 ([]:LL),w9 ([]:LL)],7,false⟩
         refine oHp (mkH [a8,b6,u,⟨e29 c.2.2.1,7,false⟩,⟨[],0,false⟩]) ?_
         refine oK [0,4,6] [(0,.ptr 0 5 0),(4,.ptr 1 7 0),(6,.ptr 2 7 0)] ?_
         refine qA8 [a8,b6,u] [⟨e29 c.2.2.1,7,false⟩,⟨[],0,false⟩] Kr rfl Kr ⟨Kr,⟨Kr,⟨Kr,trivial⟩⟩⟩ ?_
         exact V (c.1,c.2.1,3,([]:LN),([c.2.2.2,c.2.2.1]:List S28),false,false,([]:LL),([]:LL))
        ·refine oS 44 (λM=>?_) (λM=>?_)
         ·refine oH 4 (atN 1 (ctl1 i50p21)) ((45,.ptr 0 5 0)::(44,.bool true)::E8) (mkH [Y,⟨e29 g.2.2.2,7,false⟩,u,O]) ?_
          refine oN (λ(J:Ri29) => .i J.1) (λJ=>[⟨[.str z,w44 A,.i J.2.1,.i B,.bool J.2.2],5,false⟩,⟨e29 g.2.2.2,7,false⟩,u,O]) (atN 2 (ctl1 i50p21)) 46 [0] [] [] [.ptr 0 5 0] (qAk k z A q.2.1 B q.2.2) trivial (λ_=>trivial) λJ e1=>?_
          refine oL 2 i50p23 [(0,.ptr 0 5 0),(4,.ptr 1 7 0),(6,.ptr 2 7 0),(7,.ptr 3 7 0)] ?_
          let b7:Env:=[(0,.ptr 0 5 0),(4,.ptr 1 7 0),(6,.ptr 2 7 0),(7,.ptr 3 7 0)]
          refine oR 2 (atN 1 (ctl1 i50p23)) ((47,.ptr 0 5 0)::b7) ?_
          refine oN (λ(C:Ri20)=>n29 C.1) (λC=>[⟨[.str z,w44 A,.i C.2.1,.i B,.bool C.2.2],5,false⟩,⟨e29 g.2.2.2,7,false⟩,u,O]) (atN 2 (ctl1 i50p23)) 48 [0] [] [] [.ptr 0 5 0,.i 0] (hF.i20_ok (0:Int) z A J.2.1 B J.2.2) trivial (λ_=>trivial) λC f7=>?_
          refine oH 4 (atN 1 (ctl1 i50p25)) ((49,.ptr 0 5 0)::(48,n29 C.1)::(47,.ptr 0 5 0)::b7) (mkH [⟨[.str z,w44 A,.i C.2.1,.i B,.bool C.2.2],5,false⟩,⟨e29 g.2.2.2,7,false⟩,u,⟨e29 C.1,7,false⟩]) ?_
          refine oN (λ(K:Ri66) => .i K.1) (λK=>[⟨[.str z,w44 A,.i K.2.1,.i B,.bool K.2.2],5,false⟩,⟨e29 g.2.2.2,7,false⟩,u,⟨e29 C.1,7,false⟩]) (atN 2 (ctl1 i50p25)) 50 [0] [] [] [.ptr 0 5 0,.i 9,.str [41]] (qBy k (9:Int) ([41]:LN) z A C.2.1 B C.2.2) trivial (λ_=>trivial) λK f8=>?_
          refine oL 1 i50p24 [(0,.ptr 0 5 0),(4,.ptr 1 7 0),(6,.ptr 2 7 0),(7,.ptr 3 7 0)] ?_
          exact b0 (K.2.1,K.2.2,C.1,g.2.2.2)
         ·refine oH 4 (atN 2 (ctl1 i50p22)) ((52,.ptr 0 5 0)::(51,.ptr 0 5 0)::(44,.bool false)::E8) (mkH [Y,⟨e29 g.2.2.2,7,false⟩,u,O]) ?_
          refine oN (λ(L:S43)=>n44 L) (λL=>[Y,⟨e29 g.2.2.2,7,false⟩,u,O]) (atN 3 (ctl1 i50p22)) 53 [0] [] [] [.ptr 0 5 0] (qBh k z A q.2.1 B q.2.2) trivial (λ_=>trivial) λL f9=>?_
          refine oA (λ(Q:Bool) => .bool Q) (atN 4 (ctl1 i50p22)) 54 [n44 L] (qDy k L) λQ g0=>?_
          refine oN (λ(x:Ri65) => .str x.1) (λx=>[⟨[.str z,w44 A,.i x.2.1,.i B,.bool x.2.2],5,false⟩,⟨e29 g.2.2.2,7,false⟩,u,O]) (atN 5 (ctl1 i50p22)) 55 [0] [] [] [.ptr 0 5 0,.bool Q] (qC6 k Q z A q.2.1 B q.2.2) trivial (λ_=>trivial) λx g1=>?_
          let b1:Blk:=⟨[.str z,w44 A,.i x.2.1,.i B,.bool x.2.2],5,false⟩
          let b8:Blk:=⟨[.i 1,.str x.1,.nils,.bool false,.bool false,.nils,.nils],7,false⟩
          refine oH 3 i50p24 ((56,.ptr 3 7 1)::(55,.str x.1)::(54,.bool Q)::(53,n44 L)::(52,.ptr 0 5 0)::(51,.ptr 0 5 0)::(44,.bool false)::E8) (mkH [b1,⟨e29 g.2.2.2,7,false⟩,u,b8]) ?_
          refine qAw [b1,⟨e29 g.2.2.2,7,false⟩,u,b8] 3 7 [.i 1,.str x.1,.nils,.bool false,.bool false,.nils,.nils] [.i 1,.str x.1,w29 ([]:List S28),.bool false,.bool false,w9 ([]:LL),w9 ([]:LL)] Kr rfl (.cons (.cons (.nil (.cons (.cons (.nil (.nil (.refl)))))))) ?_
          refine oHp (mkH [b1,⟨e29 g.2.2.2,7,false⟩,u,⟨[.i 1,.str x.1,w29 ([]:List S28),.bool false,.bool false,w9 ([]:LL),w9 ([]:LL)],7,false⟩]) ?_
          refine oK [0,4,6,7] [(0,.ptr 0 5 0),(4,.ptr 1 7 0),(6,.ptr 2 7 0),(7,.ptr 3 7 0)] ?_
          exact b0 (x.2.1,x.2.2,(⟨1,x.1,(⟨(([]:List S28)).length,(([]:List S28)).flatMap e29⟩:Raw),false,false,([]:LL),([]:LL)⟩:S28),g.2.2.2)
       ·let b2:Env:=[(62,.ptr 0 5 0),(29,.bool false),(0,.ptr 0 5 0),(4,.ptr 1 7 0),(6,.ptr 2 7 0),(29,.bool g.1)]
        let b3:Blk:=⟨[.str z,w44 A,.i g.2.1,.i B,.bool g.2.2.1],5,false⟩
        refine oH 4 (atN 1 (ctl1 i50p13)) b2 (mkH [b3,⟨e29 g.2.2.2,7,false⟩,u]) ?_
        refine oN (λ(I:Bool) => .bool I) (λI=>[b3,⟨e29 g.2.2.2,7,false⟩,u]) (atN 2 (ctl1 i50p13)) 63 [0] [] [] [.ptr 0 5 0,.str [35]] (qAi k ([35]:LN) z A g.2.1 B g.2.2.1) trivial (λ_=>trivial) λI c7=>?_
        refine oR 2 i50p15 ((61,.bool I)::(63,.bool I)::b2) ?_
        refine oS 61 (λM=>?_) (λM=>?_)
        ·refine oR 4 (atN 1 (ctl1 i50p17)) ((64,.ptr 0 5 0)::(61,.bool true)::(61,.bool I)::(63,.bool I)::b2) ?_
         refine oN (λ(E:Ri29) => .i E.1) (λE=>[⟨[.str z,w44 A,.i E.2.1,.i B,.bool E.2.2],5,false⟩,⟨e29 g.2.2.2,7,false⟩,u]) (atN 2 (ctl1 i50p17)) 65 [0] [] [] [.ptr 0 5 0] (qAk k z A g.2.1 B g.2.2.1) trivial (λ_=>trivial) λE c8=>?_
         let b4:Env:=[(0,.ptr 0 5 0),(4,.ptr 1 7 0),(6,.ptr 2 7 0)]
         refine oL 1 i50p20 b4 ?_
         let b9:Blk:=⟨[.str z,w44 A,.i E.2.1,.i B,.bool E.2.2],5,false⟩
         refine oH 4 (atN 3 (ctl1 i50p20)) ((68,.slice 3 7 0 1 7)::(67,n29 g.2.2.2)::(66,.ptr 0 5 0)::b4) (mkH [b9,⟨e29 g.2.2.2,7,false⟩,u,⟨e29 g.2.2.2,0,false⟩]) ?_
         refine qAz 68 3 7 1 7 Kr rfl ?_
         refine oE [(68,.own 3 (([g.2.2.2]:List S28)).length 7),(68,.slice 3 7 0 1 7),(67,n29 g.2.2.2),(66,.ptr 0 5 0),(0,.ptr 0 5 0),(4,.ptr 1 7 0),(6,.ptr 2 7 0)] ?_
         refine oHp (mkH [b9,⟨e29 g.2.2.2,7,false⟩,u,⟨(([g.2.2.2]:List S28)).flatMap e29,0,false⟩]) ?_
         refine oN (λ(a:Ri75) => .agg [.i a.1,.str a.2.1,.own 3 (a.2.2.2.2.2.2.1).length 7,.bool a.2.2.1,.bool a.2.2.2.1,w9 a.2.2.2.2.1,w9 a.2.2.2.2.2.1]) (λa=>[⟨[.str z,w44 A,.i a.2.2.2.2.2.2.2.1,.i B,.bool a.2.2.2.2.2.2.2.2],5,false⟩,⟨e29 g.2.2.2,7,false⟩,u,⟨(a.2.2.2.2.2.2.1).flatMap e29,0,false⟩]) (atN 4 (ctl1 i50p20)) 69 [0,3] [0,1] [0,1] [.ptr 0 5 0,.own 3 (([g.2.2.2]:List S28)).length 7] (hF.i75_ok z A E.2.1 B E.2.2 g.2.2.2) ⟨u29 _,trivial⟩ (λ_=>⟨u29 _,trivial⟩) λa c9=>?_
         let a9:Blk:=⟨[.str z,w44 A,.i a.2.2.2.2.2.2.2.1,.i B,.bool a.2.2.2.2.2.2.2.2],5,false⟩
         let c0:Blk:=⟨[.i a.1,.str a.2.1,.own 3 (a.2.2.2.2.2.2.1).length 7,.bool a.2.2.1,.bool a.2.2.2.1,w9 a.2.2.2.2.1,w9 a.2.2.2.2.2.1],7,false⟩
         let c1:Blk:=⟨(a.2.2.2.2.2.2.1).flatMap e29,0,false⟩
         refine oH 2 i50p10 ((69,.agg [.i a.1,.str a.2.1,.own 3 (a.2.2.2.2.2.2.1).length 7,.bool a.2.2.1,.bool a.2.2.2.1,w9 a.2.2.2.2.1,w9 a.2.2.2.2.2.1])::(68,.own 3 (([g.2.2.2]:List S28)).length 7)::(68,.slice 3 7 0 1 7)::(67,n29 g.2.2.2)::(66,.ptr 0 5 0)::b4) (mkH [a9,c0,u,c1]) ?_
         let c2:Blk:=⟨[.i a.1,.str a.2.1,w29 a.2.2.2.2.2.2.1,.bool a.2.2.1,.bool a.2.2.2.1,w9 a.2.2.2.2.1,w9 a.2.2.2.2.2.1],7,false⟩
         refine qB1 [a9,c0,u,c1] [a9,c2,u,⟨[],0,false⟩] 3 (a.2.2.2.2.2.2.1).length 7 0 ((a.2.2.2.2.2.2.1).flatMap e29) [0,4,6] (env0:=[(0,.ptr 0 5 0),(4,.ptr 1 7 0),(6,.ptr 2 7 0)]) (eE:=[(0,.ptr 0 5 0),(4,.ptr 1 7 0),(6,.ptr 2 7 0)]) Kr rfl rfl (qA9 qA2 _) (Nat.zero_le _) (u29 _) Kr ⟨⟨rfl,.refl Kr⟩,⟨⟨rfl,.refl Kr⟩,⟨⟨rfl,.refl Kr⟩,trivial⟩⟩⟩ ⟨.inr ⟨rfl,rfl,rfl,.refl Kr⟩,⟨.inr ⟨rfl,rfl,rfl,.cons Kr (.cons Kr (.own (.refl Kr)))⟩,⟨.inr ⟨rfl,rfl,rfl,.refl Kr⟩,⟨.inl ⟨rfl,rfl⟩,trivial⟩⟩⟩⟩ ?_
         refine qA8 [a9,c2,u] [⟨[],0,false⟩] Kr rfl Kr ⟨Kr,⟨Kr,⟨Kr,trivial⟩⟩⟩ ?_
         exact V (a.2.2.2.2.2.2.2.1,a.2.2.2.2.2.2.2.2,a.1,a.2.1,a.2.2.2.2.2.2.1,a.2.2.1,a.2.2.2.1,a.2.2.2.2.1,a.2.2.2.2.2.1)
        ·exact oQF 7 [b3,⟨e29 g.2.2.2,7,false⟩,⟨e29 g.2.2.2,7,false⟩] 1 [] [n29 g.2.2.2] (n29 g.2.2.2) .ps trivial
      ·refine oS 32 (λM=>?_) (λM=>?_)
       ·refine oH 2 (atN 5 (ctl1 i50p9)) ((34,.bool j.2.1)::(33,.bool j.2.1)::(32,.bool true)::E6) (mkH [Q3,Z,u]) ?_
        refine oS 34 (λM=>?_) (λM=>?_)
        ·refine oL 7 i50p11 [(0,.ptr 0 5 0),(4,.ptr 1 7 0),(6,.ptr 2 7 0),(29,.bool true)] ?_
         exact W (true,j.2.2.1,j.2.2.2.1,j.2.2.2.2)
        ·refine oL 7 i50p11 [(0,.ptr 0 5 0),(4,.ptr 1 7 0),(6,.ptr 2 7 0),(29,.bool (decide (j.2.2.2.2.f0=1)))] ?_
         exact W (decide (j.2.2.2.2.f0=1),j.2.2.1,j.2.2.2.1,j.2.2.2.2)
       ·refine oLH 9 i50p11 [(0,.ptr 0 5 0),(4,.ptr 1 7 0),(6,.ptr 2 7 0),(29,.bool false)] (mkH [Q3,Z,u]) ?_
        exact W (false,j.2.2.1,j.2.2.2.1,j.2.2.2.2)
   ·let c3:Blk:=⟨e29 j.2.2.2.2,7,false⟩
    exact oQF 8 [⟨[.str z,w44 A,.i j.2.2.1,.i B,.bool j.2.2.2.1],5,false⟩,c3,c3] 1 [] [n29 j.2.2.2.2] (n29 j.2.2.2.2) .ps trivial
  ·refine oS 13 (λM=>?_) (λM=>?_)
   ·refine oH 2 (atN 8 (ctl1 i50p2)) ((15,.bool m)::(14,.bool m)::(13,.bool true)::E2) (mkH [Q1,⟨e29 l,7,false⟩,u]) ?_
    refine oS 15 (λM=>?_) (λM=>?_)
    ·refine oL 5 i50p3 [(0,.ptr 0 5 0),(2,.bool m),(4,.ptr 1 7 0),(6,.ptr 2 7 0),(19,.bool true)] ?_
     exact U (true,m,D,r,l)
    ·refine oR 1 (atN 9 (ctl1 i50p2)) ((16,n29 l)::(15,.bool false)::(15,.bool m)::(14,.bool m)::(13,.bool true)::E2) ?_
     refine oA (λ(T:Bool) => .bool T) (atN 10 (ctl1 i50p2)) 17 [n29 l] (g112_ok k l) λT g2=>?_
     refine oL 3 i50p3 [(0,.ptr 0 5 0),(2,.bool m),(4,.ptr 1 7 0),(6,.ptr 2 7 0),(19,.bool T)] ?_
     exact U (T,m,D,r,l)
   ·refine oLH 7 i50p3 [(0,.ptr 0 5 0),(2,.bool m),(4,.ptr 1 7 0),(6,.ptr 2 7 0),(19,.bool false)] (mkH [Q1,⟨e29 l,7,false⟩,u]) ?_
    exact U (false,m,D,r,l)
def i50B (k:Nat) (F:Fns1) (a:S28) (b:Bool) (c:LN) (g:List S43) (h:Int) (j:Int) (l:Bool):Option Ri50 :=
 qHg k F c g j k b h l a
theorem i50B_all (k:Nat) (F:Fns1) (q:FnsOk1 F):∀ a b j l c m g r,i50B k F a b j l c m g=some r→CallT Tryz.prog 86 [.ptr 0 5 0,.agg [.i a.f0,.str a.f1,q29 a.f2,.bool a.f3,.bool a.f4,w9 a.f5,w9 a.f6],.bool b] (mkH [⟨[.str j,w44 l,.i c,.i m,.bool g],5,false⟩]) ((Xi50 a b j l c m g).thr r) ((Xi50 a b j l c m g).enc r) ((Xi50 a b j l c m g).fin r):=by
 intro a b j l c m g r h
 refine qA0 (Xi50 a b j l c m g) Tryz.func86 Kr Kr rfl (t:=i50B k F a b j l c m g) ?_ h
 unfold i50B
 refine qA1 (eE:=[(0,.ptr 0 5 0),(1,.agg [.i a.f0,.str a.f1,q29 a.f2,.bool a.f3,.bool a.f4,w9 a.f5,w9 a.f6]),(2,.bool b)]) Kr ?_
 let n:Blk:=⟨[.str j,w44 l,.i c,.i m,.bool g],5,false⟩
 let o:Blk:=⟨[.i 0,.str [],.nils,.bool false,.bool false,.nils,.nils],0,false⟩
 refine oLH 8 i50p1 [(0,.ptr 0 5 0),(2,.bool b),(4,.ptr 1 7 0),(6,.ptr 2 7 0)] (mkH [n,⟨e29 a,0,false⟩,o]) ?_
 refine qGw [n,⟨e29 a,0,false⟩,o] 1 [.i a.f0,.str a.f1,q29 a.f2,.bool a.f3,.bool a.f4,w9 a.f5,w9 a.f6] 0 7 rfl rfl (by decide) ?_
 refine oHp (mkH [n,⟨e29 a,7,false⟩,o]) ?_
 exact (qKs k F q a b j l c m g k) b c g a
theorem i50B_ok (k:Nat) (F:Fns1) (a:FnsOk1 F):Pi50 (i50B k F):=λb c g j l m n=>λx h=>i50B_all k F a b c g j l m n x h
def i52p2:Pt:=nav [0,0,0,0,0] (nav [0,0,0] (nav [0] (bodyAt Tryz.f95)))
def i52p4:Pt:=nav [0,0] (nav [0,0,0] i52p2)
def i52p5:Pt:=nav [1,0,0,0] i52p4
def i52p6:Pt:=nav [2,0,0] i52p4
def i52p7:Pt:=nav [0,0,0,0,0] i52p5
def i52p9:Pt:=nav [0,0,0] i52p7
def i52p10:Pt:=nav [0,0] i52p9
def i52p11:Pt:=nav [1,0,0,0] i52p10
def i52p12:Pt:=nav [2,0,0] i52p10
def i52p13:Pt:=nav [0,0] i52p11
def i52p14:Pt:=nav [0,0,0,0] i52p12
def i52p15:Pt:=nav [0,0] i52p14
def i52p16:Pt:=nav [2,0] i52p15
def i52d0:DP:=⟨[23],[(0,0,0),(1,0,1),(0,0,0),(4,0,0),(12,0,0),(31,0,0),(63,0,0),(127,0,0)],8,thrown,[],H0⟩
def qHd (k:Nat) (F:Fns1) (B:Int→Bool→(List S28)→Option Ri52) (C:Int×Bool×(List S28)→Option Ri52) (o:LN) (q:List S43) (r:Int) (ih:Int→Bool→(List S28)→(List S28)→Option Ri52):Int→Bool→(List S28)→(List S28)→Option Ri52 :=
 λ(b:Int) (c:Bool) (h:List S28) (j:List S28)=>(i33 k ([44]:LN) o q b r c).bind λu=>jn (λ(a:Int×Bool×(List S28)×(List S28))=>(appS 104 a.2.2.2 ([(⟨(25:Int),([]:LN),⟨(a.2.2.1).length,(a.2.2.1).flatMap e29⟩,false,false,([]:LL),([]:LL)⟩:S28)]:List S28)).bind λl=>(i33 k ([59]:LN) o q a.1 r a.2.1).bind λx=>if (!x) then (C (a.1,a.2.1,l)) else ((i29 k o q a.1 r a.2.1).bind λm=>B m.2.1 m.2.2 l)) (λA=>if u then ((i29 k o q b r c).bind λn=>(F.i20 (1:Int) o q n.2.1 r n.2.2).bind λg=>(appS 104 h ([g.1]:List S28)).bind λz=>ih g.2.1 g.2.2 z j) else (A (b,c,h,j)))
def qMm (k:Nat) (F:Fns1) (a:Int→Bool→(List S28)→Option Ri52) (b:Int×Bool×(List S28)→Option Ri52) (c:LN) (g:List S43) (h:Int) (n:Nat):Int→Bool→(List S28)→(List S28)→Option Ri52:=lp (λ_ _ _ _=>none) (qHd k F a b c g h) n
theorem qMl (k:Nat) (F:Fns1) (hF:FnsOk1 F) (B:LN) (C:List S43) (a2:Int) (D:Int) (a4:Bool) (c7:Int→Bool→(List S28)→Option Ri52) (c9:Int×Bool×(List S28)→Option Ri52)  (b8:∀ (U:Int) (V:Bool) (M:List S28),Ok (Xi52 B C a2 D a4) i52p2 [(0,.ptr 0 5 0),(2,.ptr 1 7 0),(3,.ptr 2 7 0)] (mkH [⟨[.str B,w44 C,.i U,.i D,.bool V],5,false⟩,⟨[.i 0,.str [],.nils,.bool false,.bool false,.nils,.nils],0,false⟩,⟨[.i 24,.str [],.own 3 (M).length 7,.bool false,.bool false,.nils,.nils],7,false⟩,⟨(M).flatMap e29,0,false⟩]) (c7 U V M)) (b9:∀ S:Int×Bool×(List S28),Ok (Xi52 B C a2 D a4) i52p6 ((λ(S:Int×Bool×(List S28))=>[(2,.ptr 1 7 0),(3,.ptr 2 7 0)]) S) ((λ(S:Int×Bool×(List S28))=>(mkH [⟨[.str B,w44 C,.i S.1,.i D,.bool S.2.1],5,false⟩,⟨[.i 0,.str [],.nils,.bool false,.bool false,.nils,.nils],0,false⟩,⟨[.i 24,.str [],.own 3 (S.2.2).length 7,.bool false,.bool false,.nils,.nils],7,false⟩,⟨(S.2.2).flatMap e29,0,false⟩])) S) (c9 S)):∀ (n:Nat) (j:Int) (l:Bool) (g:List S28) (h:List S28),Ok (Xi52 B C a2 D a4) i52p7 [(0,.ptr 0 5 0),(2,.ptr 1 7 0),(3,.ptr 2 7 0),(4,.ptr 5 7 0)] (mkH [⟨[.str B,w44 C,.i j,.i D,.bool l],5,false⟩,⟨[.i 0,.str [],.nils,.bool false,.bool false,.nils,.nils],0,false⟩,⟨[.i 24,.str [],.own 3 (h).length 7,.bool false,.bool false,.nils,.nils],7,false⟩,⟨(h).flatMap e29,0,false⟩,⟨(g).flatMap e29,0,false⟩,⟨[.i 25,.str [],.own 4 (g).length 7,.bool false,.bool false,.nils,.nils],7,false⟩]) (qMm k F c7 c9 B C D n j l g h):=by
 intro n
 induction n with
 | zero=>intro j l g h; exact ok_none
 | succ n ih =>
  intro j l g h
  show Ok _ _ _ _ (qHd k F c7 c9 B C D (qMm k F c7 c9 B C D n) j l g h)
  unfold qHd
  refine qAd (p':=nav [0] i52p7) Kr ?_
  let E3:Env:=[(15,.ptr 0 5 0),(0,.ptr 0 5 0),(2,.ptr 1 7 0),(3,.ptr 2 7 0),(4,.ptr 5 7 0)]
  let Q1:Blk:=⟨[.str B,w44 C,.i j,.i D,.bool l],5,false⟩
  let m:Blk:=⟨[.i 0,.str [],.nils,.bool false,.bool false,.nils,.nils],0,false⟩
  let I:Blk:=⟨[.i 24,.str [],.own 3 (h).length 7,.bool false,.bool false,.nils,.nils],7,false⟩
  let J:Blk:=⟨(h).flatMap e29,0,false⟩
  let T:Blk:=⟨(g).flatMap e29,0,false⟩
  let L:Blk:=⟨[.i 25,.str [],.own 4 (g).length 7,.bool false,.bool false,.nils,.nils],7,false⟩
  refine oH 4 (atN 1 (ctl1 i52p9)) E3 (mkH [Q1,m,I,J,T,L]) ?_
  refine oN (λ(r:Bool) => .bool r) (λr=>[Q1,m,I,J,T,L]) (atN 2 (ctl1 i52p9)) 16 [0] [] [] [.ptr 0 5 0,.str [44]] (qAi k ([44]:LN) B C j D l) trivial (λ_=>trivial) λr c0=>?_
  refine oR 1 i52p10 ((16,.bool r)::E3) ?_
  refine oJ i52p12 (λ(a:Int×Bool×(List S28)×(List S28))=>[(0,.ptr 0 5 0),(2,.ptr 1 7 0),(3,.ptr 2 7 0),(4,.ptr 5 7 0)]) (λ(a:Int×Bool×(List S28)×(List S28))=>(mkH [⟨[.str B,w44 C,.i a.1,.i D,.bool a.2.1],5,false⟩,m,⟨[.i 24,.str [],.own 3 (a.2.2.2).length 7,.bool false,.bool false,.nils,.nils],7,false⟩,⟨(a.2.2.2).flatMap e29,0,false⟩,⟨(a.2.2.1).flatMap e29,0,false⟩,⟨[.i 25,.str [],.own 4 (a.2.2.1).length 7,.bool false,.bool false,.nils,.nils],7,false⟩])) (λa=>?_) (λc8 a6=>?_)
  ·let Q:Blk:=⟨[.str B,w44 C,.i a.1,.i D,.bool a.2.1],5,false⟩
   let W:Blk:=⟨[.i 24,.str [],.own 3 (a.2.2.2).length 7,.bool false,.bool false,.nils,.nils],7,false⟩
   let Q9:Blk:=⟨(a.2.2.2).flatMap e29,0,false⟩
   let a7:Blk:=⟨(a.2.2.1).flatMap e29,0,false⟩
   let a8:Blk:=⟨[.i 25,.str [],.own 4 (a.2.2.1).length 7,.bool false,.bool false,.nils,.nils],7,false⟩
   let a9:Blk:=⟨[.i 25,.str [],.own 4 (a.2.2.1).length 7,.bool false,.bool false,.nils,.nils],0,false⟩
   refine oH 5 (atN 4 (ctl1 i52p12)) [(29,.slice 6 7 0 1 7),(28,.agg [.i 25,.str [],.own 4 (a.2.2.1).length 7,.bool false,.bool false,.nils,.nils]),(27,.own 3 (a.2.2.2).length 7),(26,.ptr 2 7 2),(0,.ptr 0 5 0),(2,.ptr 1 7 0),(3,.ptr 2 7 0),(4,.ptr 5 7 0)] (mkH [Q,m,W,Q9,a7,a8,a9]) ?_
   let E:Blk:=⟨[.i 25,.str [],w29 a.2.2.1,.bool false,.bool false,.nils,.nils],7,false⟩
   let b0:Blk:=⟨[.i 25,.str [],w29 a.2.2.1,.bool false,.bool false,.nils,.nils],0,false⟩
   refine qB1 [Q,m,W,Q9,a7,a8,a9] [Q,m,W,Q9,⟨[],0,false⟩,E,b0] 4 (a.2.2.1).length 7 0 ((a.2.2.1).flatMap e29) [0,2,3,4,26,27,28,29] (env0:=[(0,.ptr 0 5 0),(2,.ptr 1 7 0),(3,.ptr 2 7 0),(4,.ptr 5 7 0),(26,.ptr 2 7 2),(27,.own 3 (a.2.2.2).length 7),(28,.agg [.i 25,.str [],.own 4 (a.2.2.1).length 7,.bool false,.bool false,.nils,.nils]),(29,.slice 6 7 0 1 7)]) (eE:=[(0,.ptr 0 5 0),(2,.ptr 1 7 0),(3,.ptr 2 7 0),(4,.ptr 5 7 0),(26,.ptr 2 7 2),(27,.own 3 (a.2.2.2).length 7),(28,.agg [.i 25,.str [],w29 a.2.2.1,.bool false,.bool false,.nils,.nils]),(29,.slice 6 7 0 1 7)]) Kr rfl rfl (qA9 qA2 _) (Nat.zero_le _) (u29 _) Kr ⟨⟨rfl,.refl Kr⟩,⟨⟨rfl,.refl Kr⟩,⟨⟨rfl,.refl Kr⟩,⟨⟨rfl,.refl Kr⟩,⟨⟨rfl,.refl Kr⟩,⟨⟨rfl,.refl Kr⟩,⟨⟨rfl,.agg (.cons Kr (.cons Kr (.own (.refl Kr)))) (.refl Kr)⟩,⟨⟨rfl,.refl Kr⟩,trivial⟩⟩⟩⟩⟩⟩⟩⟩ ⟨.inr ⟨rfl,rfl,rfl,.refl Kr⟩,⟨.inr ⟨rfl,rfl,rfl,.refl Kr⟩,⟨.inr ⟨rfl,rfl,rfl,.refl Kr⟩,⟨.inr ⟨rfl,rfl,rfl,.refl (qAn _ (u29 _))⟩,⟨.inl ⟨rfl,rfl⟩,⟨.inr ⟨rfl,rfl,rfl,.cons Kr (.cons Kr (.own (.refl Kr)))⟩,⟨.inr ⟨rfl,rfl,rfl,.cons Kr (.cons Kr (.own (.refl Kr)))⟩,trivial⟩⟩⟩⟩⟩⟩⟩ ?_
   refine qAw [Q,m,W,Q9,⟨[],0,false⟩,E,b0] 6 0 [.i 25,.str [],w29 a.2.2.1,.bool false,.bool false,.nils,.nils] [.i 25,.str [],w29 a.2.2.1,.bool false,.bool false,w9 ([]:LL),w9 ([]:LL)] Kr rfl (.cons (.cons (.cons (.cons (.cons (.nil (.nil (.refl)))))))) ?_
   let G:Blk:=⟨[.i 25,.str [],w29 a.2.2.1,.bool false,.bool false,w9 ([]:LL),w9 ([]:LL)],0,false⟩
   refine oHp (mkH [Q,m,W,Q9,⟨[],0,false⟩,E,G]) ?_
   refine oC (λ(u:List S28)=>(.own 3 (u).length 7,(mkH [Q,m,W,⟨(u).flatMap e29,0,false⟩,⟨[],0,false⟩,E,G]))) (atN 5 (ctl1 i52p12)) 30 (appH (sz:=7) qA2 rfl qAh [Q,m,W,Q9,⟨[],0,false⟩,E,G] 3 104 a.2.2.2 ([(⟨(25:Int),([]:LN),⟨(a.2.2.1).length,(a.2.2.1).flatMap e29⟩,false,false,([]:LL),([]:LL)⟩:S28)]:List S28) rfl rfl Kr) λu c1=>?_
   let E6:Env:=[(0,.ptr 0 5 0),(2,.ptr 1 7 0),(3,.ptr 2 7 0)]
   let N:Blk:=⟨[.i 24,.str [],.own 3 (u).length 7,.bool false,.bool false,.nils,.nils],7,false⟩
   let O:Blk:=⟨(u).flatMap e29,0,false⟩
   refine oLH 5 i52p14 E6 (mkH [Q,m,N,O,⟨[],0,false⟩,E,G]) ?_
   refine oR 2 (atN 1 (ctl1 i52p14)) ((32,.ptr 0 5 0)::E6) ?_
   refine oN (λ(z:Bool) => .bool z) (λz=>[Q,m,N,O,⟨[],0,false⟩,E,G]) (atN 2 (ctl1 i52p14)) 33 [0] [] [] [.ptr 0 5 0,.str [59]] (qAi k ([59]:LN) B C a.1 D a.2.1) trivial (λ_=>trivial) λz c2=>?_
   refine oR 2 i52p15 ((34,.bool (!z))::(33,.bool z)::(32,.ptr 0 5 0)::E6) ?_
   refine oS 34 (λhb=>?_) (λhb=>?_)
   ·refine oL 3 i52p6 [(2,.ptr 1 7 0),(3,.ptr 2 7 0)] ?_
    refine qA8 [Q,m,N,O] [⟨[],0,false⟩,E,G] Kr rfl Kr ⟨Kr,⟨Kr,⟨Kr,⟨(qA _ (u29 _)),trivial⟩⟩⟩⟩ ?_
    exact b9 (a.1,a.2.1,u)
   ·refine oR 4 (atN 1 (ctl1 i52p16)) ((35,.ptr 0 5 0)::(34,.bool false)::(34,.bool (!z))::(33,.bool z)::(32,.ptr 0 5 0)::E6) ?_
    refine oN (λ(o:Ri29) => .i o.1) (λo=>[⟨[.str B,w44 C,.i o.2.1,.i D,.bool o.2.2],5,false⟩,m,N,O,⟨[],0,false⟩,E,G]) (atN 2 (ctl1 i52p16)) 36 [0] [] [] [.ptr 0 5 0] (qAk k B C a.1 D a.2.1) trivial (λ_=>trivial) λo c4=>?_
    refine oL 1 i52p2 [(0,.ptr 0 5 0),(2,.ptr 1 7 0),(3,.ptr 2 7 0)] ?_
    refine qA8 [⟨[.str B,w44 C,.i o.2.1,.i D,.bool o.2.2],5,false⟩,m,N,O] [⟨[],0,false⟩,E,G] Kr rfl Kr ⟨Kr,⟨Kr,⟨Kr,⟨(qA _ (u29 _)),trivial⟩⟩⟩⟩ ?_
    exact b8 o.2.1 o.2.2 u
  ·refine oS 16 (λhb=>?_) (λhb=>?_)
   ·refine oH 6 (atN 1 (ctl1 i52p11)) ((17,.ptr 0 5 0)::(16,.bool true)::(16,.bool r)::E3) (mkH [Q1,m,I,J,T,L]) ?_
    refine oN (λ(q:Ri29) => .i q.1) (λq=>[⟨[.str B,w44 C,.i q.2.1,.i D,.bool q.2.2],5,false⟩,m,I,J,T,L]) (atN 2 (ctl1 i52p11)) 18 [0] [] [] [.ptr 0 5 0] (qAk k B C j D l) trivial (λ_=>trivial) λq c5=>?_
    refine oR 1 i52p13 ((18,.i q.1)::(17,.ptr 0 5 0)::(16,.bool true)::(16,.bool r)::E3) ?_
    refine qA7 (λc Y=>?_)
    refine qA7 (λb Z=>?_)
    let K:Env:=[(21,.ptr 0 5 0),(20,.own 4 (g).length 7),(19,.ptr 5 7 2),(18,.i q.1),(17,.ptr 0 5 0),(16,.bool true),(16,.bool r),(15,.ptr 0 5 0),(0,.ptr 0 5 0),(2,.ptr 1 7 0),(3,.ptr 2 7 0),(4,.ptr 5 7 0)]
    let A:Blk:=⟨[.str B,w44 C,.i c.2.1,.i D,.bool c.2.2],5,false⟩
    refine oD (H':=(mkH [A,m,I,J,⟨(b).flatMap e29,0,false⟩,⟨[.i 25,.str [],.own 4 (b).length 7,.bool false,.bool false,.nils,.nils],7,false⟩])) (nav [0] i52p13) ((25,.ptr 5 7 2)::(24,.own 4 (b).length 7)::(23,w29 ([c.1]:List S28))::(22,n29 c.1)::K) [(mkH [A,m,I,J,T,L]),(mkH [A,m,I,J,⟨(b).flatMap e29,0,false⟩,L]),(mkH [A,m,I,J,⟨(b).flatMap e29,0,false⟩,⟨[.i 25,.str [],.own 4 (b).length 7,.bool false,.bool false,.nils,.nils],7,false⟩])] i52d0 (oDr 3 3 K (qA6 (l':=(opsAt i52p13).toList.drop 4) (eE:=((22,n29 c.1)::K)) (hs:=[(mkH [A,m,I,J,T,L])]) (H':=(mkH [A,m,I,J,T,L])) (fi:=24) (args:=[.ptr 0 5 0,.i 1]) (v:=n29 c.1) Kr (frC (rs:=[0]) (ms:=[]) (ms':=[]) (hF.i20_ok (1:Int) B C q.2.1 D q.2.2 c Y) trivial trivial Kr) Kr (oDr 1 5 ((23,w29 ([c.1]:List S28))::(22,n29 c.1)::K) (qAb (l':=(opsAt i52p13).toList.drop 6) (eE:=((24,.own 4 (b).length 7)::(23,w29 ([c.1]:List S28))::(22,n29 c.1)::K)) (hs:=[(mkH [A,m,I,J,⟨(b).flatMap e29,0,false⟩,L])]) (x:=b) (λ(b:List S28)=>(.own 4 (b).length 7,(mkH [A,m,I,J,⟨(b).flatMap e29,0,false⟩,L]))) (appHV (sz:=7) qA2 rfl qAh [A,m,I,J,T,L] 4 104 g ([c.1]:List S28) rfl rfl Kr) Z Kr (oDh 2 8 ((25,.ptr 5 7 2)::(24,.own 4 (b).length 7)::(23,w29 ([c.1]:List S28))::(22,n29 c.1)::K) (mkH [A,m,I,J,⟨(b).flatMap e29,0,false⟩,⟨[.i 25,.str [],.own 4 (b).length 7,.bool false,.bool false,.nils,.nils],7,false⟩]) [(mkH [A,m,I,J,⟨(b).flatMap e29,0,false⟩,⟨[.i 25,.str [],.own 4 (b).length 7,.bool false,.bool false,.nils,.nils],7,false⟩])] .nil))))) ?_
    refine oK [0,2,3,4] [(0,.ptr 0 5 0),(2,.ptr 1 7 0),(3,.ptr 2 7 0),(4,.ptr 5 7 0)] ?_
    exact ih c.2.1 c.2.2 b h
   ·refine oLH 3 i52p12 [(0,.ptr 0 5 0),(2,.ptr 1 7 0),(3,.ptr 2 7 0),(4,.ptr 5 7 0)] (mkH [Q1,m,I,J,T,L]) ?_
    exact a6 (j,l,g,h)
def qHe (k:Nat) (F:Fns1)  (j:LN) (l:List S43) (o:Int) (m:Int) (q:Bool) (ih:Int→Bool→(List S28)→Option Ri52):Int→Bool→(List S28)→Option Ri52 :=
 λ(c:Int) (a:Bool) (g:List S28)=>jn (λ(h:Int×Bool×(List S28))=>some ((⟨(24:Int),([]:LN),⟨(h.2.2).length,(h.2.2).flatMap e29⟩,false,false,([]:LL),([]:LL)⟩:S28),h.1,h.2.1)) (λn=>if (!a) then ((F.i20 (1:Int) j l c m a).bind λb=>qMm k F ih n j l m k b.2.1 b.2.2 ([b.1]:List S28) g) else (n (c,a,g)))
def qJm (k:Nat) (F:Fns1)  (a:LN) (b:List S43) (c:Int) (g:Int) (h:Bool) (n:Nat):Int→Bool→(List S28)→Option Ri52:=lp (λ_ _ _=>none) (qHe k F a b c g h) n
theorem qMn (k:Nat) (F:Fns1) (D:FnsOk1 F) (h:LN) (j:List S43) (q:Int) (l:Int) (r:Bool)    : ∀ (n:Nat) (g:Int) (b:Bool) (c:List S28),Ok (Xi52 h j q l r) i52p2 [(0,.ptr 0 5 0),(2,.ptr 1 7 0),(3,.ptr 2 7 0)] (mkH [⟨[.str h,w44 j,.i g,.i l,.bool b],5,false⟩,⟨[.i 0,.str [],.nils,.bool false,.bool false,.nils,.nils],0,false⟩,⟨[.i 24,.str [],.own 3 (c).length 7,.bool false,.bool false,.nils,.nils],7,false⟩,⟨(c).flatMap e29,0,false⟩]) (qJm k F h j q l r n g b c):=by
 intro n
 induction n with
 | zero=>intro g b c; exact ok_none
 | succ n ih =>
  intro g b c
  show Ok _ _ _ _ (qHe k F h j q l r (qJm k F h j q l r n) g b c)
  unfold qHe
  refine qAd (p':=nav [0] i52p2) Kr ?_
  let A:Env:=[(10,.bool (!b)),(9,.bool b),(8,.ptr 0 5 4),(7,.ptr 0 5 0),(6,.ptr 0 5 0),(0,.ptr 0 5 0),(2,.ptr 1 7 0),(3,.ptr 2 7 0)]
  let B:Blk:=⟨[.str h,w44 j,.i g,.i l,.bool b],5,false⟩
  let o:Blk:=⟨[.i 0,.str [],.nils,.bool false,.bool false,.nils,.nils],0,false⟩
  let u:Blk:=⟨[.i 24,.str [],.own 3 (c).length 7,.bool false,.bool false,.nils,.nils],7,false⟩
  let x:Blk:=⟨(c).flatMap e29,0,false⟩
  refine oH 9 i52p4 A (mkH [B,o,u,x]) ?_
  refine oJ i52p6 (λ(m:Int×Bool×(List S28))=>[(2,.ptr 1 7 0),(3,.ptr 2 7 0)]) (λ(m:Int×Bool×(List S28))=>(mkH [⟨[.str h,w44 j,.i m.1,.i l,.bool m.2.1],5,false⟩,o,⟨[.i 24,.str [],.own 3 (m.2.2).length 7,.bool false,.bool false,.nils,.nils],7,false⟩,⟨(m.2.2).flatMap e29,0,false⟩])) (λm=>?_) (λI z=>?_)
  ·let E:Blk:=⟨[.i 24,.str [],.own 3 (m.2.2).length 7,.bool false,.bool false,.nils,.nils],7,false⟩
   exact oQF 5 [⟨[.str h,w44 j,.i m.1,.i l,.bool m.2.1],5,false⟩,E,E,⟨(m.2.2).flatMap e29,0,false⟩] 1 [] [.agg [.i 24,.str [],.own 3 (m.2.2).length 7,.bool false,.bool false,.nils,.nils]] (.agg [.i 24,.str [],w29 m.2.2,.bool false,.bool false,.vec 0 1 [],.vec 0 1 []]) (.agg (.cs (.cs (qAl qA2 qAf rfl rfl rfl (.cs (.cs (.nil (.nil .ps))))))) .ps) trivial
  ·refine oS 10 (λJ=>?_) (λJ=>?_)
   ·refine oH 6 (atN 1 (ctl1 i52p5)) ((11,.ptr 0 5 0)::(10,.bool true)::A) (mkH [B,o,u,x]) ?_
    refine oN (λ(a:Ri20)=>n29 a.1) (λa=>[⟨[.str h,w44 j,.i a.2.1,.i l,.bool a.2.2],5,false⟩,o,u,x]) (atN 2 (ctl1 i52p5)) 12 [0] [] [] [.ptr 0 5 0,.i 1] (D.i20_ok (1:Int) h j g l b) trivial (λ_=>trivial) λa C=>?_
    let G:Blk:=⟨[.str h,w44 j,.i a.2.1,.i l,.bool a.2.2],5,false⟩
    refine oH 1 (atN 3 (ctl1 i52p5)) ((13,.slice 4 7 0 1 7)::(12,n29 a.1)::(11,.ptr 0 5 0)::(10,.bool true)::A) (mkH [G,o,u,x,⟨e29 a.1,0,false⟩]) ?_
    refine qAz 13 4 7 1 7 Kr rfl ?_
    refine oLH 7 i52p7 [(0,.ptr 0 5 0),(2,.ptr 1 7 0),(3,.ptr 2 7 0),(4,.ptr 5 7 0)] (mkH [G,o,u,x,⟨(([a.1]:List S28)).flatMap e29,0,false⟩,⟨[.i 25,.str [],.own 4 (([a.1]:List S28)).length 7,.bool false,.bool false,.nils,.nils],7,false⟩]) ?_
    exact (qMl k F D h j q l r (qJm k F h j q l r n) I ih z k) a.2.1 a.2.2 ([a.1]:List S28) c
   ·refine oLH 3 i52p6 [(2,.ptr 1 7 0),(3,.ptr 2 7 0)] (mkH [B,o,u,x]) ?_
    exact z (g,b,c)
def i52B (k:Nat) (F:Fns1) (c:LN) (g:List S43) (a:Int) (h:Int) (b:Bool):Option Ri52 :=
 qJm k F c g a h b k a b ([]:List S28)
theorem i52B_all (k:Nat) (F:Fns1) (q:FnsOk1 F):∀ c g a j b r,i52B k F c g a j b=some r→CallT Tryz.prog 95 [.ptr 0 5 0] (mkH [⟨[.str c,w44 g,.i a,.i j,.bool b],5,false⟩]) ((Xi52 c g a j b).thr r) ((Xi52 c g a j b).enc r) ((Xi52 c g a j b).fin r):=by
 intro c g a j b r h
 refine qA0 (Xi52 c g a j b) Tryz.func95 Kr Kr rfl (t:=i52B k F c g a j b) ?_ h
 unfold i52B
 refine qA1 (eE:=[(0,.ptr 0 5 0)]) Kr ?_
 let l:Blk:=⟨[.str c,w44 g,.i a,.i j,.bool b],5,false⟩
 let m:Blk:=⟨[.i 0,.str [],.nils,.bool false,.bool false,.nils,.nils],0,false⟩
 let n:Blk:=⟨[.i 24,.str [],.nils,.bool false,.bool false,.nils,.nils],7,false⟩
 refine oH 13 i52p2 [(3,.ptr 2 7 0),(5,.agg [.i 24,.str [],.nils,.bool false,.bool false,.nils,.nils]),(2,.ptr 1 7 0),(0,.ptr 0 5 0)] (mkH [l,m,n]) ?_
 refine qBu [l,m,n] Kr ?_
 let o:Blk:=⟨(([]:List S28)).flatMap e29,0,false⟩
 refine oHp (mkH [l,m,n,o]) ?_
 refine qAw [l,m,n,o] 2 7 [.i 24,.str [],.nils,.bool false,.bool false,.nils,.nils] [.i 24,.str [],.own 3 (([]:List S28)).length 7,.bool false,.bool false,.nils,.nils] Kr rfl (.cons (.cons (.none (.refl)))) ?_
 refine oHp (mkH [l,m,⟨[.i 24,.str [],.own 3 (([]:List S28)).length 7,.bool false,.bool false,.nils,.nils],7,false⟩,o]) ?_
 refine oK [0,2,3] [(0,.ptr 0 5 0),(2,.ptr 1 7 0),(3,.ptr 2 7 0)] ?_
 exact (qMn k F q c g a j b k) a b ([]:List S28)
theorem i52B_ok (k:Nat) (F:Fns1) (a:FnsOk1 F):Pi52 (i52B k F):=λb c g j l=>λx h=>i52B_all k F a b c g j l x h
def i53p1:Pt:=nav [0,0,0] (nav [0] (bodyAt Tryz.f96))
def i53p2:Pt:=nav [0,0,0] i53p1
def i53p3:Pt:=nav [0,0,0] i53p2
def i53d0:DP:=⟨[19],[(0,0,0),(1,0,1),(0,0,1),(0,0,0),(8,0,0),(28,0,0),(63,0,0),(127,0,0),(255,0,0)],9,thrown,[],H0⟩
def i53B (k:Nat) (F:Fns1) (n:Int) (o:LN) (B:Bool) (q:Bool) (r:LL) (u:LL) (x:S28) (j:LN) (l:List S43) (z:Int) (c:Int) (m:Bool) (A:List S28):Option Ri53 :=
 (i66 k (9:Int) ([45,62]:LN) j l z c m).bind λa=>(i76 k a.1 j l a.2.1 c a.2.2).bind λg=>(F.i21 j l a.2.1 c a.2.2).bind λb=>(appS 104 A ([x,b.1]:List S28)).bind λh=>some (n,o,g,q,r,u,b.2.2,b.2.1,h)
theorem i53B_all (k:Nat) (F:Fns1) (Y:FnsOk1 F):∀ n o G q u z g B C I l m A r,i53B k F n o G q u z g B C I l m A=some r→CallT Tryz.prog 96 [.ptr 0 5 0,.agg [.i n,.str o,.own 1 (A).length 7,.bool G,.bool q,w9 u,w9 z],.agg [.i g.f0,.str g.f1,q29 g.f2,.bool g.f3,.bool g.f4,w9 g.f5,w9 g.f6]] (mkH [⟨[.str B,w44 C,.i I,.i l,.bool m],5,false⟩,⟨(A).flatMap e29,0,false⟩]) ((Xi53 n o G q u z g B C I l m A).thr r) ((Xi53 n o G q u z g B C I l m A).enc r) ((Xi53 n o G q u z g B C I l m A).fin r):=by
 intro n o G q u z g B C I l m A r h
 refine qA0 (Xi53 n o G q u z g B C I l m A) Tryz.func96 Kr Kr rfl (t:=i53B k F n o G q u z g B C I l m A) ?_ h
 unfold i53B
 refine qA1 (eE:=[(0,.ptr 0 5 0),(1,.agg [.i n,.str o,.own 1 (A).length 7,.bool G,.bool q,w9 u,w9 z]),(2,.agg [.i g.f0,.str g.f1,q29 g.f2,.bool g.f3,.bool g.f4,w9 g.f5,w9 g.f6])]) Kr ?_
 let U:Env:=[(8,.ptr 0 5 0),(6,.ptr 4 7 0),(5,.ptr 3 7 0),(4,.ptr 2 7 0),(0,.ptr 0 5 0),(1,.agg [.i n,.str o,.own 1 (A).length 7,.bool G,.bool q,w9 u,w9 z]),(2,n29 g)]
 let J:Blk:=⟨(A).flatMap e29,0,false⟩
 let Q:Blk:=⟨[.i n,.str o,.own 1 (A).length 7,.bool G,.bool q,w9 u,w9 z],0,false⟩
 let D:Blk:=⟨[.i 0,.str [],.nils,.bool false,.bool false,.nils,.nils],0,false⟩
 refine oH 9 (atN 1 (ctl1 i53p1)) U (mkH [⟨[.str B,w44 C,.i I,.i l,.bool m],5,false⟩,J,Q,⟨e29 g,0,false⟩,D]) ?_
 refine oN (λ(c:Ri66) => .i c.1) (λc=>[⟨[.str B,w44 C,.i c.2.1,.i l,.bool c.2.2],5,false⟩,J,Q,⟨e29 g,0,false⟩,D]) (atN 2 (ctl1 i53p1)) 9 [0] [] [] [.ptr 0 5 0,.i 9,.str [45,62]] (qBy k (9:Int) ([45,62]:LN) B C I l m) trivial (λ_=>trivial) λc S=>?_
 refine oR 6 (atN 2 (ctl1 i53p2)) ((11,.i c.1)::(10,.ptr 0 5 0)::(7,.i c.1)::(9,.i c.1)::U) ?_
 let V:Blk:=⟨[.str B,w44 C,.i c.2.1,.i l,.bool c.2.2],5,false⟩
 refine oN (λ(j:Bool) => .bool j) (λj=>[V,J,Q,⟨e29 g,0,false⟩,D]) (atN 3 (ctl1 i53p2)) 12 [0] [] [] [.ptr 0 5 0,.i c.1] (qM9 k c.1 B C c.2.1 l c.2.2) trivial (λ_=>trivial) λj T=>?_
 let K:Blk:=⟨[.i n,.str o,.own 1 (A).length 7,.bool j,.bool q,w9 u,w9 z],7,false⟩
 refine oLH 4 i53p3 [(0,.ptr 0 5 0),(4,.ptr 2 7 0),(5,.ptr 3 7 0),(6,.ptr 4 7 0)] (mkH [V,J,K,⟨e29 g,0,false⟩,D]) ?_
 refine qA7 (λb L=>?_)
 refine qA7 (λa M=>?_)
 let N:Env:=[(17,.ptr 0 5 0),(16,n29 g),(15,.own 1 (A).length 7),(14,.ptr 2 7 2),(0,.ptr 0 5 0),(4,.ptr 2 7 0),(5,.ptr 3 7 0),(6,.ptr 4 7 0)]
 let E:Blk:=⟨[.str B,w44 C,.i b.2.1,.i l,.bool b.2.2],5,false⟩
 refine oD (H':=(mkH [E,⟨(a).flatMap e29,0,false⟩,⟨[.i n,.str o,.own 1 (a).length 7,.bool j,.bool q,w9 u,w9 z],7,false⟩,⟨e29 g,0,false⟩,D])) (nav [0] i53p3) ((21,.ptr 2 7 2)::(20,.own 1 (a).length 7)::(19,w29 ([g,b.1]:List S28))::(18,n29 b.1)::N) [(mkH [E,J,K,⟨e29 g,0,false⟩,D]),(mkH [E,⟨(a).flatMap e29,0,false⟩,K,⟨e29 g,0,false⟩,D]),(mkH [E,⟨(a).flatMap e29,0,false⟩,⟨[.i n,.str o,.own 1 (a).length 7,.bool j,.bool q,w9 u,w9 z],7,false⟩,⟨e29 g,0,false⟩,D])] i53d0 (oDr 4 4 N (qA6 (l':=(opsAt i53p3).toList.drop 5) (eE:=((18,n29 b.1)::N)) (hs:=[(mkH [E,J,K,⟨e29 g,0,false⟩,D])]) (H':=(mkH [E,J,K,⟨e29 g,0,false⟩,D])) (fi:=30) (args:=[.ptr 0 5 0]) (v:=n29 b.1) Kr (frC (rs:=[0]) (ms:=[]) (ms':=[]) (Y.i21_ok B C c.2.1 l c.2.2 b L) trivial trivial Kr) Kr (oDr 1 6 ((19,w29 ([g,b.1]:List S28))::(18,n29 b.1)::N) (qAb (l':=(opsAt i53p3).toList.drop 7) (eE:=((20,.own 1 (a).length 7)::(19,w29 ([g,b.1]:List S28))::(18,n29 b.1)::N)) (hs:=[(mkH [E,⟨(a).flatMap e29,0,false⟩,K,⟨e29 g,0,false⟩,D])]) (x:=a) (λ(a:List S28)=>(.own 1 (a).length 7,(mkH [E,⟨(a).flatMap e29,0,false⟩,K,⟨e29 g,0,false⟩,D]))) (appHV (sz:=7) qA2 rfl qAh [E,J,K,⟨e29 g,0,false⟩,D] 1 104 A ([g,b.1]:List S28) rfl rfl Kr) M Kr (oDh 2 9 ((21,.ptr 2 7 2)::(20,.own 1 (a).length 7)::(19,w29 ([g,b.1]:List S28))::(18,n29 b.1)::N) (mkH [E,⟨(a).flatMap e29,0,false⟩,⟨[.i n,.str o,.own 1 (a).length 7,.bool j,.bool q,w9 u,w9 z],7,false⟩,⟨e29 g,0,false⟩,D]) [(mkH [E,⟨(a).flatMap e29,0,false⟩,⟨[.i n,.str o,.own 1 (a).length 7,.bool j,.bool q,w9 u,w9 z],7,false⟩,⟨e29 g,0,false⟩,D])] .nil))))) ?_
 let W:Blk:=⟨(a).flatMap e29,0,false⟩
 let O:Blk:=⟨[.i n,.str o,.own 1 (a).length 7,.bool j,.bool q,w9 u,w9 z],7,false⟩
 refine oH 6 .fin ((22,.agg [.i n,.str o,.own 1 (a).length 7,.bool j,.bool q,w9 u,w9 z])::(21,.ptr 2 7 2)::(20,.own 1 (a).length 7)::(19,w29 ([g,b.1]:List S28))::(18,n29 b.1)::N) (mkH [E,W,O,⟨e29 g,0,false⟩,O]) ?_
 exact qAx (r:=(n,o,j,q,u,z,b.2.2,b.2.1,a)) (xs:=[.agg [.i n,.str o,.own 1 (a).length 7,.bool j,.bool q,w9 u,w9 z]]) [E,W] [O,⟨e29 g,0,false⟩,O] Kr Kr Kr Kr Kr ⟨Kr,⟨(qA _ (u29 _)),trivial⟩⟩ Kr Kr
theorem i53B_ok (k:Nat) (F:Fns1) (c:FnsOk1 F):Pi53 (i53B k F):=λg j l m n o q r u z a b A=>λx h=>i53B_all k F c g j l m n o q r u z a b A x h
def i67p1:Pt:=nav [0,0,0] (nav [0] (bodyAt Tryz.f113))
def i67p2:Pt:=nav [0,0,0] i67p1
def i67p3:Pt:=nav [0,0,0] i67p2
def i67p4:Pt:=nav [0,0,0,0,0] i67p3
def i67p5:Pt:=nav [0,0,0] i67p4
def i67p6:Pt:=nav [0,0] i67p5
def i67p7:Pt:=nav [1,0,0,0] i67p6
def i67p8:Pt:=nav [2,0,0] i67p6
def i67p9:Pt:=nav [0,0,0] i67p7
def i67p10:Pt:=nav [0,0,0] i67p8
def i67p11:Pt:=nav [0,0,0] i67p9
def i67p13:Pt:=nav [0,0,0,0] i67p11
def i67p15:Pt:=nav [0,0] i67p13
def i67p16:Pt:=nav [1,0] i67p15
def i67p17:Pt:=nav [2,0,0] i67p15
def i67p18:Pt:=nav [0,0,0] i67p17
def i67p19:Pt:=nav [0,0,0] i67p18
def qF9 (k:Nat) (F:Fns1)  (J:Int) (K:LN) (L:Bool) (M:LL) (O:LL) (I:LN) (N:Int) (x:LN) (g:List S43) (h:Int) (B:Bool) (ih:LL→Int→Bool→(List S28)→Option Ri67):LL→Int→Bool→(List S28)→Option Ri67 :=
 λ(n:LL) (l:Int) (b:Bool) (o:List S28)=>(i33 k I x g l h b).bind λC=>jn (λ(c:Bool×LL×Int×Bool×(List S28))=>jn (λ(u:LL×Int×Bool×(List S28))=>(i66 k (9:Int) I x g u.2.1 h u.2.2.1).bind λq=>some (J,K,B,L,M,u.1,q.2.1,q.2.2,u.2.2.2)) (λD=>if c.1 then ((F.i81 J N x g c.2.2.1 h c.2.2.2.1).bind λa=>(appS 104 c.2.2.2.2 ([(⟨a.1.f0,a.1.f1,a.1.f2,a.1.f3,a.1.f4,c.2.1,a.1.f6⟩:S28)]:List S28)).bind λr=>(i33 k ([44]:LN) x g a.2.1 h a.2.2).bind λE=>if (!E) then ((i32 k x g a.2.1 h a.2.2).bind λz=>D (z.1,z.2,a.2.2,r)) else ((i29 k x g a.2.1 h a.2.2).bind λm=>(i32 k x g m.2.1 h m.2.2).bind λj=>(i33 k I x g j.2 h m.2.2).bind λA=>if A then (ih j.1 j.2 true r) else (ih j.1 j.2 m.2.2 r))) else (D (c.2.1,c.2.2.1,c.2.2.2.1,c.2.2.2.2)))) (λG=>if (!C) then (G (!b,n,l,b,o)) else (G (false,n,l,b,o)))
def qH7 (k:Nat) (F:Fns1)  (g:Int) (h:LN) (j:Bool) (l:LL) (m:LL) (o:LN) (q:Int) (r:LN) (b:List S43) (c:Int) (a:Bool) (n:Nat):LL→Int→Bool→(List S28)→Option Ri67:=lp (λ_ _ _ _=>none) (qF9 k F g h j l m o q r b c a) n
theorem qKq (k:Nat) (F:Fns1) (hF:FnsOk1 F) (Q:Int) (S:LN) (a2:Bool) (T:Bool) (U:LL) (W:LL) (a6:LN) (A:LN) (M:Int) (B:LN) (c:List S43) (c6:Int) (g:Int) (c7:Bool) (b1:List S28)  (m:Bool)  : ∀ (n:Nat) (o:LL) (u:Int) (h:Bool) (q:List S28),Ok (Xi67 Q S a2 T U W a6 A M B c c6 g c7 b1) i67p4 [(0,.ptr 0 5 0),(3,.str A),(4,.i M),(6,.ptr 2 7 0),(10,.ptr 3 7 0),(12,w9 o)] (mkH [⟨[.str B,w44 c,.i u,.i g,.bool h],5,false⟩,⟨(q).flatMap e29,0,false⟩,⟨[.i Q,.str S,.own 1 (q).length 7,.bool m,.bool T,w9 U,w9 W],7,false⟩,⟨[.i 0,.str [],.nils,.bool false,.bool false,.nils,.nils],0,false⟩]) (qH7 k F Q S T U W A M B c g m n o u h q):=by
 intro n
 induction n with
 | zero=>intro o u h q; exact ok_none
 | succ n ih =>
  intro o u h q
  show Ok _ _ _ _ (qF9 k F Q S T U W A M B c g m (qH7 k F Q S T U W A M B c g m n) o u h q)
  unfold qF9
  refine qAd (p':=nav [0] i67p4) Kr ?_
  let E4:Env:=[(24,.str A),(23,.ptr 0 5 0),(0,.ptr 0 5 0),(3,.str A),(4,.i M),(6,.ptr 2 7 0),(10,.ptr 3 7 0),(12,w9 o)]
  let Q1:Blk:=⟨[.str B,w44 c,.i u,.i g,.bool h],5,false⟩
  let Q2:Blk:=⟨(q).flatMap e29,0,false⟩
  let Q3:Blk:=⟨[.i Q,.str S,.own 1 (q).length 7,.bool m,.bool T,w9 U,w9 W],7,false⟩
  let J:Blk:=⟨[.i 0,.str [],.nils,.bool false,.bool false,.nils,.nils],0,false⟩
  refine oH 5 (atN 2 (ctl1 i67p5)) E4 (mkH [Q1,Q2,Q3,J]) ?_
  refine oN (λ(N:Bool) => .bool N) (λN=>[Q1,Q2,Q3,J]) (atN 3 (ctl1 i67p5)) 25 [0] [] [] [.ptr 0 5 0,.str A] (qAi k A B c u g h) trivial (λ_=>trivial) λN c8=>?_
  refine oR 2 (atN 5 (ctl1 i67p5)) ((27,.bool (!N))::(26,.bool (!N))::(25,.bool N)::E4) ?_
  refine oJ i67p6 (λ(b:Bool×LL×Int×Bool×(List S28))=>[(0,.ptr 0 5 0),(3,.str A),(4,.i M),(6,.ptr 2 7 0),(10,.ptr 3 7 0),(12,w9 b.2.1),(33,.bool b.1)]) (λ(b:Bool×LL×Int×Bool×(List S28))=>(mkH [⟨[.str B,w44 c,.i b.2.2.1,.i g,.bool b.2.2.2.1],5,false⟩,⟨(b.2.2.2.2).flatMap e29,0,false⟩,⟨[.i Q,.str S,.own 1 (b.2.2.2.2).length 7,.bool m,.bool T,w9 U,w9 W],7,false⟩,J])) (λb=>?_) (λf7 Z=>?_)
  ·refine oJ i67p8 (λ(l:LL×Int×Bool×(List S28))=>[(0,.ptr 0 5 0),(3,.str A),(6,.ptr 2 7 0),(10,.ptr 3 7 0),(12,w9 l.1)]) (λ(l:LL×Int×Bool×(List S28))=>(mkH [⟨[.str B,w44 c,.i l.2.1,.i g,.bool l.2.2.1],5,false⟩,⟨(l.2.2.2).flatMap e29,0,false⟩,⟨[.i Q,.str S,.own 1 (l.2.2.2).length 7,.bool m,.bool T,w9 U,w9 W],7,false⟩,J])) (λl=>?_) (λf8 b0=>?_)
   ·let Q5:Blk:=⟨(l.2.2.2).flatMap e29,0,false⟩
    let Q6:Blk:=⟨[.i Q,.str S,.own 1 (l.2.2.2).length 7,.bool m,.bool T,w9 U,w9 l.1],7,false⟩
    refine oH 9 (atN 2 (ctl1 i67p10)) [(65,.str A),(64,.ptr 0 5 0),(63,.ptr 2 7 6),(62,w9 l.1),(0,.ptr 0 5 0),(3,.str A),(6,.ptr 2 7 0),(10,.ptr 3 7 0),(12,w9 l.1)] (mkH [⟨[.str B,w44 c,.i l.2.1,.i g,.bool l.2.2.1],5,false⟩,Q5,Q6,J]) ?_
    refine oN (λ(x:Ri66) => .i x.1) (λx=>[⟨[.str B,w44 c,.i x.2.1,.i g,.bool x.2.2],5,false⟩,Q5,Q6,J]) (atN 3 (ctl1 i67p10)) 66 [0] [] [] [.ptr 0 5 0,.i 9,.str A] (qBy k (9:Int) A B c l.2.1 g l.2.2.1) trivial (λ_=>trivial) λx c4=>?_
    refine oL 2 (nav [0,0,0] i67p10) [(6,.ptr 2 7 0),(10,.ptr 3 7 0)] ?_
    let Q7:Blk:=⟨[.str B,w44 c,.i x.2.1,.i g,.bool x.2.2],5,false⟩
    refine oH 5 .fin ((67,.agg [.i Q,.str S,.own 1 (l.2.2.2).length 7,.bool m,.bool T,w9 U,w9 l.1])::[(6,.ptr 2 7 0),(10,.ptr 3 7 0)]) (mkH [Q7,Q5,Q6,Q6]) ?_
    exact qAx (r:=(Q,S,m,T,U,l.1,x.2.1,x.2.2,l.2.2.2)) (xs:=[.agg [.i Q,.str S,.own 1 (l.2.2.2).length 7,.bool m,.bool T,w9 U,w9 l.1]]) [Q7,Q5] [Q6,Q6] Kr Kr Kr Kr Kr ⟨Kr,⟨(qA _ (u29 _)),trivial⟩⟩ Kr Kr
   ·refine oS 33 (λhb=>?_) (λhb=>?_)
    ·let Q8:Blk:=⟨(b.2.2.2.2).flatMap e29,0,false⟩
     let Q9:Blk:=⟨[.i Q,.str S,.own 1 (b.2.2.2.2).length 7,.bool m,.bool T,w9 U,w9 W],7,false⟩
     refine oH 9 (atN 4 (ctl1 i67p7)) [(37,.i M),(36,.i Q),(35,.ptr 2 7 0),(34,.ptr 0 5 0),(33,.bool true),(0,.ptr 0 5 0),(3,.str A),(4,.i M),(6,.ptr 2 7 0),(10,.ptr 3 7 0),(12,w9 b.2.1),(33,.bool b.1)] (mkH [⟨[.str B,w44 c,.i b.2.2.1,.i g,.bool b.2.2.2.1],5,false⟩,Q8,Q9,J]) ?_
     refine oN (λ(a:Ri81)=>n29 a.1) (λa=>[⟨[.str B,w44 c,.i a.2.1,.i g,.bool a.2.2],5,false⟩,Q8,Q9,J]) (atN 5 (ctl1 i67p7)) 38 [0] [] [] [.ptr 0 5 0,.i Q,.i M] (hF.i81_ok Q M B c b.2.2.1 g b.2.2.2.1) trivial (λ_=>trivial) λa c9=>?_
     let V:Blk:=⟨[.str B,w44 c,.i a.2.1,.i g,.bool a.2.2],5,false⟩
     refine oLH 4 i67p9 [(0,.ptr 0 5 0),(3,.str A),(4,.i M),(6,.ptr 2 7 0),(10,.ptr 3 7 0),(12,w9 b.2.1),(13,.ptr 4 7 0)] (mkH [V,Q8,Q9,J,⟨e29 a.1,7,false⟩]) ?_
     let D:Blk:=⟨[.i a.1.f0,.str a.1.f1,q29 a.1.f2,.bool a.1.f3,.bool a.1.f4,w9 b.2.1,w9 a.1.f6],7,false⟩
     let E:Blk:=⟨[.i a.1.f0,.str a.1.f1,q29 a.1.f2,.bool a.1.f3,.bool a.1.f4,w9 b.2.1,w9 a.1.f6],0,false⟩
     refine oH 11 (atN 4 (ctl1 i67p11)) ((44,.slice 5 7 0 1 7)::(43,.agg [.i a.1.f0,.str a.1.f1,q29 a.1.f2,.bool a.1.f3,.bool a.1.f4,w9 b.2.1,w9 a.1.f6])::(42,.own 1 (b.2.2.2.2).length 7)::(41,.ptr 2 7 2)::(40,.ptr 4 7 5)::(39,w9 b.2.1)::[(0,.ptr 0 5 0),(3,.str A),(4,.i M),(6,.ptr 2 7 0),(10,.ptr 3 7 0),(12,w9 b.2.1),(13,.ptr 4 7 0)]) (mkH [V,Q8,Q9,J,D,E]) ?_
     refine oC (λ(G:List S28)=>(.own 1 (G).length 7,(mkH [V,⟨(G).flatMap e29,0,false⟩,Q9,J,D,E]))) (atN 5 (ctl1 i67p11)) 45 (appH (sz:=7) qA2 rfl qAh [V,Q8,Q9,J,D,E] 1 104 b.2.2.2.2 ([(⟨a.1.f0,a.1.f1,a.1.f2,a.1.f3,a.1.f4,b.2.1,a.1.f6⟩:S28)]:List S28) rfl rfl Kr) λG d0=>?_
     let Y:Env:=[(0,.ptr 0 5 0),(3,.str A),(4,.i M),(6,.ptr 2 7 0),(10,.ptr 3 7 0)]
     let K:Blk:=⟨(G).flatMap e29,0,false⟩
     let L:Blk:=⟨[.i Q,.str S,.own 1 (G).length 7,.bool m,.bool T,w9 U,w9 W],7,false⟩
     refine oLH 5 i67p13 Y (mkH [V,K,L,J,D,E]) ?_
     refine oR 2 (atN 1 (ctl1 i67p13)) ((47,.ptr 0 5 0)::Y) ?_
     refine oN (λ(C:Bool) => .bool C) (λC=>[V,K,L,J,D,E]) (atN 2 (ctl1 i67p13)) 48 [0] [] [] [.ptr 0 5 0,.str [44]] (qAi k ([44]:LN) B c a.2.1 g a.2.2) trivial (λ_=>trivial) λC d1=>?_
     refine oR 2 i67p15 ((49,.bool (!C))::(48,.bool C)::(47,.ptr 0 5 0)::Y) ?_
     refine oS 49 (λhb=>?_) (λhb=>?_)
     ·refine oR 4 (atN 1 (ctl1 i67p16)) ((50,.ptr 0 5 0)::(49,.bool true)::(49,.bool (!C))::(48,.bool C)::(47,.ptr 0 5 0)::Y) ?_
      refine oN (λ(I:Ri32)=>w9 I.1) (λI=>[⟨[.str B,w44 c,.i I.2,.i g,.bool a.2.2],5,false⟩,K,L,J,D,E]) (atN 2 (ctl1 i67p16)) 51 [0] [] [] [.ptr 0 5 0] (qBp k B c a.2.1 g a.2.2) trivial (λ_=>trivial) λI d2=>?_
      refine oL 4 i67p8 [(0,.ptr 0 5 0),(3,.str A),(6,.ptr 2 7 0),(10,.ptr 3 7 0),(12,w9 I.1)] ?_
      refine qA8 [⟨[.str B,w44 c,.i I.2,.i g,.bool a.2.2],5,false⟩,K,L,J] [D,E] Kr rfl Kr ⟨Kr,⟨(qA _ (u29 _)),⟨Kr,⟨Kr,trivial⟩⟩⟩⟩ ?_
      exact b0 (I.1,I.2,a.2.2,G)
     ·let b6:Env:=((52,.ptr 0 5 0)::(49,.bool false)::(49,.bool (!C))::(48,.bool C)::(47,.ptr 0 5 0)::Y)
      refine oR 5 (atN 1 (ctl1 i67p17)) b6 ?_
      refine oN (λ(z:Ri29) => .i z.1) (λz=>[⟨[.str B,w44 c,.i z.2.1,.i g,.bool z.2.2],5,false⟩,K,L,J,D,E]) (atN 2 (ctl1 i67p17)) 53 [0] [] [] [.ptr 0 5 0] (qAk k B c a.2.1 g a.2.2) trivial (λ_=>trivial) λz d3=>?_
      refine oR 4 (atN 1 (ctl1 i67p18)) ((54,.ptr 0 5 0)::(53,.i z.1)::b6) ?_
      refine oN (λ(j:Ri32)=>w9 j.1) (λj=>[⟨[.str B,w44 c,.i j.2,.i g,.bool z.2.2],5,false⟩,K,L,J,D,E]) (atN 2 (ctl1 i67p18)) 55 [0] [] [] [.ptr 0 5 0] (qBp k B c z.2.1 g z.2.2) trivial (λ_=>trivial) λj d4=>?_
      refine oL 3 i67p19 [(0,.ptr 0 5 0),(3,.str A),(4,.i M),(6,.ptr 2 7 0),(10,.ptr 3 7 0),(12,w9 j.1)] ?_
      let b7:Env:=[(0,.ptr 0 5 0),(3,.str A),(4,.i M),(6,.ptr 2 7 0),(10,.ptr 3 7 0),(12,w9 j.1)]
      refine oR 3 (atN 2 (ctl1 i67p19)) ((57,.str A)::(56,.ptr 0 5 0)::b7) ?_
      let b8:Blk:=⟨[.str B,w44 c,.i j.2,.i g,.bool z.2.2],5,false⟩
      refine oN (λ(O:Bool) => .bool O) (λO=>[b8,K,L,J,D,E]) (atN 3 (ctl1 i67p19)) 58 [0] [] [] [.ptr 0 5 0,.str A] (qAi k A B c j.2 g z.2.2) trivial (λ_=>trivial) λO c5=>?_
      refine oR 1 (nav [0,0] i67p19) ((58,.bool O)::(57,.str A)::(56,.ptr 0 5 0)::b7) ?_
      refine oS 58 (λhb=>?_) (λhb=>?_)
      ·let b9:Blk:=⟨[.str B,w44 c,.i j.2,.i g,.bool true],5,false⟩
       refine oLH 7 i67p4 [(0,.ptr 0 5 0),(3,.str A),(4,.i M),(6,.ptr 2 7 0),(10,.ptr 3 7 0),(12,w9 j.1)] (mkH [b9,K,L,J,D,E]) ?_
       refine qA8 [b9,K,L,J] [D,E] Kr rfl Kr ⟨Kr,⟨(qA _ (u29 _)),⟨Kr,⟨Kr,trivial⟩⟩⟩⟩ ?_
       exact ih j.1 j.2 true G
      ·refine oL 2 i67p4 [(0,.ptr 0 5 0),(3,.str A),(4,.i M),(6,.ptr 2 7 0),(10,.ptr 3 7 0),(12,w9 j.1)] ?_
       refine qA8 [b8,K,L,J] [D,E] Kr rfl Kr ⟨Kr,⟨(qA _ (u29 _)),⟨Kr,⟨Kr,trivial⟩⟩⟩⟩ ?_
       exact ih j.1 j.2 z.2.2 G
    ·refine oLH 3 i67p8 [(0,.ptr 0 5 0),(3,.str A),(6,.ptr 2 7 0),(10,.ptr 3 7 0),(12,w9 b.2.1)] (mkH [⟨[.str B,w44 c,.i b.2.2.1,.i g,.bool b.2.2.2.1],5,false⟩,⟨(b.2.2.2.2).flatMap e29,0,false⟩,⟨[.i Q,.str S,.own 1 (b.2.2.2.2).length 7,.bool m,.bool T,w9 U,w9 W],7,false⟩,J]) ?_
     exact b0 (b.2.1,b.2.2.1,b.2.2.2.1,b.2.2.2.2)
  ·refine oS 27 (λhb=>?_) (λhb=>?_)
   ·refine oLH 7 i67p6 [(0,.ptr 0 5 0),(3,.str A),(4,.i M),(6,.ptr 2 7 0),(10,.ptr 3 7 0),(12,w9 o),(33,.bool (!h))] (mkH [Q1,Q2,Q3,J]) ?_
    exact Z (!h,o,u,h,q)
   ·refine oLH 7 i67p6 [(0,.ptr 0 5 0),(3,.str A),(4,.i M),(6,.ptr 2 7 0),(10,.ptr 3 7 0),(12,w9 o),(33,.bool false)] (mkH [Q1,Q2,Q3,J]) ?_
    exact Z (false,o,u,h,q)
def i67B (k:Nat) (F:Fns1) (n:Int) (o:LN) (C:Bool) (q:Bool) (r:LL) (u:LL) (x:LN) (z:LN) (A:Int) (j:LN) (b:List S43) (l:Int) (c:Int) (m:Bool) (B:List S28):Option Ri67 :=
 (i66 k (9:Int) x j b l c m).bind λa=>(i76 k a.1 j b a.2.1 c a.2.2).bind λh=>(i32 k j b a.2.1 c a.2.2).bind λg=>qH7 k F n o q r u z A j b c h k g.1 g.2 a.2.2 B
theorem i67B_all (k:Nat) (F:Fns1) (T:FnsOk1 F):∀ u x E z A B q C D n b g c j o r,i67B k F u x E z A B q C D n b g c j o=some r→CallT Tryz.prog 113 [.ptr 0 5 0,.agg [.i u,.str x,.own 1 (o).length 7,.bool E,.bool z,w9 A,w9 B],.str q,.str C,.i D] (mkH [⟨[.str n,w44 b,.i g,.i c,.bool j],5,false⟩,⟨(o).flatMap e29,0,false⟩]) ((Xi67 u x E z A B q C D n b g c j o).thr r) ((Xi67 u x E z A B q C D n b g c j o).enc r) ((Xi67 u x E z A B q C D n b g c j o).fin r):=by
 intro u x E z A B q C D n b g c j o r h
 refine qA0 (Xi67 u x E z A B q C D n b g c j o) Tryz.func113 Kr Kr rfl (t:=i67B k F u x E z A B q C D n b g c j o) ?_ h
 unfold i67B
 refine qA1 (eE:=[(0,.ptr 0 5 0),(1,.agg [.i u,.str x,.own 1 (o).length 7,.bool E,.bool z,w9 A,w9 B]),(2,.str q),(3,.str C),(4,.i D)]) Kr ?_
 let N:Env:=[(15,.str q),(14,.ptr 0 5 0),(10,.ptr 3 7 0),(6,.ptr 2 7 0),(0,.ptr 0 5 0),(1,.agg [.i u,.str x,.own 1 (o).length 7,.bool E,.bool z,w9 A,w9 B]),(2,.str q),(3,.str C),(4,.i D)]
 let G:Blk:=⟨(o).flatMap e29,0,false⟩
 let J:Blk:=⟨[.i u,.str x,.own 1 (o).length 7,.bool E,.bool z,w9 A,w9 B],0,false⟩
 let I:Blk:=⟨[.i 0,.str [],.nils,.bool false,.bool false,.nils,.nils],0,false⟩
 refine oH 9 (atN 2 (ctl1 i67p1)) N (mkH [⟨[.str n,w44 b,.i g,.i c,.bool j],5,false⟩,G,J,I]) ?_
 refine oN (λ(a:Ri66) => .i a.1) (λa=>[⟨[.str n,w44 b,.i a.2.1,.i c,.bool a.2.2],5,false⟩,G,J,I]) (atN 3 (ctl1 i67p1)) 16 [0] [] [] [.ptr 0 5 0,.i 9,.str q] (qBy k (9:Int) q n b g c j) trivial (λ_=>trivial) λa K=>?_
 refine oR 6 (atN 2 (ctl1 i67p2)) ((18,.i a.1)::(17,.ptr 0 5 0)::(11,.i a.1)::(16,.i a.1)::N) ?_
 let O:Blk:=⟨[.str n,w44 b,.i a.2.1,.i c,.bool a.2.2],5,false⟩
 refine oN (λ(m:Bool) => .bool m) (λm=>[O,G,J,I]) (atN 3 (ctl1 i67p2)) 19 [0] [] [] [.ptr 0 5 0,.i a.1] (qM9 k a.1 n b a.2.1 c a.2.2) trivial (λ_=>trivial) λm L=>?_
 let Q:Env:=[(0,.ptr 0 5 0),(3,.str C),(4,.i D),(6,.ptr 2 7 0),(10,.ptr 3 7 0)]
 let S:Blk:=⟨[.i u,.str x,.own 1 (o).length 7,.bool m,.bool z,w9 A,w9 B],7,false⟩
 refine oLH 4 i67p3 Q (mkH [O,G,S,I]) ?_
 refine oR 2 (atN 1 (ctl1 i67p3)) ((21,.ptr 0 5 0)::Q) ?_
 refine oN (λ(l:Ri32)=>w9 l.1) (λl=>[⟨[.str n,w44 b,.i l.2,.i c,.bool a.2.2],5,false⟩,G,S,I]) (atN 2 (ctl1 i67p3)) 22 [0] [] [] [.ptr 0 5 0] (qBp k n b a.2.1 c a.2.2) trivial (λ_=>trivial) λl M=>?_
 refine oL 5 i67p4 [(0,.ptr 0 5 0),(3,.str C),(4,.i D),(6,.ptr 2 7 0),(10,.ptr 3 7 0),(12,w9 l.1)] ?_
 exact (qKq k F T u x E z A B q C D n b g c j o m k) l.1 l.2 a.2.2 o
theorem i67B_ok (k:Nat) (F:Fns1) (j:FnsOk1 F):Pi67 (i67B k F):=λl m n o q r u z A B a b c g C=>λx h=>i67B_all k F j l m n o q r u z A B a b c g C x h
def i68p1:Pt:=nav [0,0,0] (nav [0] (bodyAt Tryz.f119))
def i68p2:Pt:=nav [0,0,0] i68p1
def i68p3:Pt:=nav [0,0,0] i68p2
def i68p4:Pt:=nav [0,0,0,0,0] i68p3
def i68p5:Pt:=nav [0,0,0] i68p4
def i68p6:Pt:=nav [0,0] i68p5
def i68p7:Pt:=nav [1,0,0,0] i68p6
def i68p8:Pt:=nav [2,0,0] i68p6
def i68p9:Pt:=nav [0,0,0,0] i68p7
def i68p10:Pt:=nav [0,0,0] i68p8
def i68p11:Pt:=nav [0,0] i68p9
def i68p13:Pt:=nav [1,0] i68p11
def i68p16:Pt:=nav [0,0,0] (nav [2,0,0] i68p11)
def i68p17:Pt:=nav [0,0,0,0] i68p16
def i68p18:Pt:=nav [0,0] i68p17
def i68p19:Pt:=nav [1,0] i68p18
def i68p20:Pt:=nav [2,0,0,0] i68p18
def i68p21:Pt:=nav [0,0,0] i68p19
def i68p22:Pt:=nav [0,0] i68p20
def i68p23:Pt:=nav [0,0] i68p21
def i68p24:Pt:=nav [1,0] i68p22
def i68p25:Pt:=nav [2,0,0] i68p22
def i68p26:Pt:=nav [0,0,0] i68p25
def i68p27:Pt:=nav [0,0,0] i68p26
def i68d0:DP:=⟨[61],[(0,0,0),(1,0,1),(0,0,0),(4,0,0),(12,0,0),(31,0,0),(3,0,0),(127,0,0),(255,0,0),(511,0,0)],10,thrown,[],H0⟩
def qF8 (k:Nat) (F:Fns1)  (m:LN) (n:List S43) (o:Int) (D:Bool) (ih:LL→Int→Bool→(List S28)→Option Ri68):LL→Int→Bool→(List S28)→Option Ri68 :=
 λ(u:LL) (l:Int) (g:Bool) (x:List S28)=>(i33 k ([93]:LN) m n l o g).bind λO=>jn (λ(b:Bool×LL×Int×Bool×(List S28))=>jn (λ(r:LL×Int×Bool×LN×(List S28))=>(i66 k (9:Int) ([93]:LN) m n r.2.1 o r.2.2.1).bind λz=>some ((⟨(5:Int),r.2.2.2.1,⟨(r.2.2.2.2).length,(r.2.2.2.2).flatMap e29⟩,D,false,([]:LL),r.1⟩:S28),z.2.1,z.2.2)) (λG=>if b.1 then ((F.i20 (3:Int) m n b.2.2.1 o b.2.2.2.1).bind λa=>jn (λ(I:Bool×LL×(List S28))=>if I.1 then ((F.i82 a.1 D m n a.2.1 o a.2.2).bind λA=>some (A.1,A.2.1,A.2.2)) else ((appS 104 I.2.2 ([(⟨a.1.f0,a.1.f1,a.1.f2,a.1.f3,a.1.f4,I.2.1,a.1.f6⟩:S28)]:List S28)).bind λq=>(i33 k ([124]:LN) m n a.2.1 o a.2.2).bind λQ=>if Q then ((i29 k m n a.2.1 o a.2.2).bind λE=>(F.i20 (3:Int) m n E.2.1 o E.2.2).bind λh=>(appS 104 q ([h.1]:List S28)).bind λJ=>(i32 k m n h.2.1 o h.2.2).bind λB=>G (B.1,B.2,h.2.2,([124]:LN),J)) else ((i33 k ([44]:LN) m n a.2.1 o a.2.2).bind λK=>if (!K) then ((i32 k m n a.2.1 o a.2.2).bind λC=>G (C.1,C.2,a.2.2,([]:LN),q)) else ((i29 k m n a.2.1 o a.2.2).bind λj=>(i32 k m n j.2.1 o j.2.2).bind λc=>(i33 k ([93]:LN) m n c.2 o j.2.2).bind λL=>if L then (ih c.1 c.2 true q) else (ih c.1 c.2 j.2.2 q))))) (λM=>if (decide ((b.2.2.2.2.length:Int)=0)) then (if (decide ((b.2.1.length:Int)=0)) then ((i33 k ([124,124]:LN) m n a.2.1 o a.2.2).bind λN=>M (N,b.2.1,b.2.2.2.2)) else (M (false,b.2.1,b.2.2.2.2))) else (M (false,b.2.1,b.2.2.2.2)))) else (G (b.2.1,b.2.2.1,b.2.2.2.1,([]:LN),b.2.2.2.2)))) (λS=>if (!O) then (S (!g,u,l,g,x)) else (S (false,u,l,g,x)))
def qH6 (k:Nat) (F:Fns1)  (b:LN) (c:List S43) (g:Int) (a:Bool) (n:Nat):LL→Int→Bool→(List S28)→Option Ri68:=lp (λ_ _ _ _=>none) (qF8 k F b c g a) n
theorem qKp (k:Nat) (F:Fns1) (hF:FnsOk1 F) (C:LN) (D:List S43) (a2:Int) (E:Int) (a4:Bool)  (g:Bool)  : ∀ (n:Nat) (z:LL) (G:Int) (r:Bool) (A:List S28),Ok (Xi68 C D a2 E a4) i68p4 [(0,.ptr 0 5 0),(2,.ptr 1 7 0),(4,.ptr 2 7 0),(5,w9 z)] (mkH [⟨[.str C,w44 D,.i G,.i E,.bool r],5,false⟩,⟨[.i 0,.str [],.nils,.bool false,.bool false,.nils,.nils],0,false⟩,⟨[.i 5,.str [],.own 3 (A).length 7,.bool g,.bool false,.nils,.nils],7,false⟩,⟨(A).flatMap e29,0,false⟩]) (qH6 k F C D E g n z G r A):=by
 intro n
 induction n with
 | zero=>intro z G r A; exact ok_none
 | succ n ih =>
  intro z G r A
  show Ok _ _ _ _ (qF8 k F C D E g (qH6 k F C D E g n) z G r A)
  unfold qF8
  refine qAd (p':=nav [0] i68p4) Kr ?_
  let E3:Env:=[(15,.ptr 0 5 0),(0,.ptr 0 5 0),(2,.ptr 1 7 0),(4,.ptr 2 7 0),(5,w9 z)]
  let Q1:Blk:=⟨[.str C,w44 D,.i G,.i E,.bool r],5,false⟩
  let q:Blk:=⟨[.i 0,.str [],.nils,.bool false,.bool false,.nils,.nils],0,false⟩
  let Q3:Blk:=⟨[.i 5,.str [],.own 3 (A).length 7,.bool g,.bool false,.nils,.nils],7,false⟩
  let Q4:Blk:=⟨(A).flatMap e29,0,false⟩
  refine oH 4 (atN 1 (ctl1 i68p5)) E3 (mkH [Q1,q,Q3,Q4]) ?_
  refine oN (λ(W:Bool) => .bool W) (λW=>[Q1,q,Q3,Q4]) (atN 2 (ctl1 i68p5)) 16 [0] [] [] [.ptr 0 5 0,.str [93]] (qAi k ([93]:LN) C D G E r) trivial (λ_=>trivial) λW f8=>?_
  refine oR 2 (atN 4 (ctl1 i68p5)) ((18,.bool (!W))::(17,.bool (!W))::(16,.bool W)::E3) ?_
  refine oJ i68p6 (λ(b:Bool×LL×Int×Bool×(List S28))=>[(0,.ptr 0 5 0),(2,.ptr 1 7 0),(4,.ptr 2 7 0),(5,w9 b.2.1),(24,.bool b.1)]) (λ(b:Bool×LL×Int×Bool×(List S28))=>(mkH [⟨[.str C,w44 D,.i b.2.2.1,.i E,.bool b.2.2.2.1],5,false⟩,q,⟨[.i 5,.str [],.own 3 (b.2.2.2.2).length 7,.bool g,.bool false,.nils,.nils],7,false⟩,⟨(b.2.2.2.2).flatMap e29,0,false⟩])) (λb=>?_) (λh6 b1=>?_)
  ·refine oJ i68p8 (λ(o:LL×Int×Bool×LN×(List S28))=>[(0,.ptr 0 5 0),(2,.ptr 1 7 0),(4,.ptr 2 7 0),(5,w9 o.1)]) (λ(o:LL×Int×Bool×LN×(List S28))=>(mkH [⟨[.str C,w44 D,.i o.2.1,.i E,.bool o.2.2.1],5,false⟩,q,⟨[.i 5,.str o.2.2.2.1,.own 3 (o.2.2.2.2).length 7,.bool g,.bool false,.nils,.nils],7,false⟩,⟨(o.2.2.2.2).flatMap e29,0,false⟩])) (λo=>?_) (λh7 a6=>?_)
   ·let Q5:Blk:=⟨[.i 5,.str o.2.2.2.1,.own 3 (o.2.2.2.2).length 7,.bool g,.bool false,.nils,w9 o.1],7,false⟩
    let Q6:Blk:=⟨(o.2.2.2.2).flatMap e29,0,false⟩
    refine oH 8 (atN 1 (ctl1 i68p10)) [(83,.ptr 0 5 0),(82,.ptr 2 7 6),(81,w9 o.1),(0,.ptr 0 5 0),(2,.ptr 1 7 0),(4,.ptr 2 7 0),(5,w9 o.1)] (mkH [⟨[.str C,w44 D,.i o.2.1,.i E,.bool o.2.2.1],5,false⟩,q,Q5,Q6]) ?_
    refine oN (λ(O:Ri66) => .i O.1) (λO=>[⟨[.str C,w44 D,.i O.2.1,.i E,.bool O.2.2],5,false⟩,q,Q5,Q6]) (atN 2 (ctl1 i68p10)) 84 [0] [] [] [.ptr 0 5 0,.i 9,.str [93]] (qBy k (9:Int) ([93]:LN) C D o.2.1 E o.2.2.1) trivial (λ_=>trivial) λO d3=>?_
    exact oQF 7 [⟨[.str C,w44 D,.i O.2.1,.i E,.bool O.2.2],5,false⟩,Q5,Q5,Q6] 1 [] [.agg [.i 5,.str o.2.2.2.1,.own 3 (o.2.2.2.2).length 7,.bool g,.bool false,.nils,w9 o.1]] (.agg [.i 5,.str o.2.2.2.1,w29 o.2.2.2.2,.bool g,.bool false,.vec 0 1 [],w9 o.1]) (.agg (.cs (.cs (qAl qA2 qAf rfl rfl rfl (.cs (.cs (.nil .ps)))))) .ps) trivial
   ·refine oS 24 (λZ=>?_) (λZ=>?_)
    ·let E5:Env:=[(25,.ptr 0 5 0),(24,.bool true),(0,.ptr 0 5 0),(2,.ptr 1 7 0),(4,.ptr 2 7 0),(5,w9 b.2.1),(24,.bool b.1)]
     let Q7:Blk:=⟨[.i 5,.str [],.own 3 (b.2.2.2.2).length 7,.bool g,.bool false,.nils,.nils],7,false⟩
     let Q8:Blk:=⟨(b.2.2.2.2).flatMap e29,0,false⟩
     refine oH 6 (atN 1 (ctl1 i68p7)) E5 (mkH [⟨[.str C,w44 D,.i b.2.2.1,.i E,.bool b.2.2.2.1],5,false⟩,q,Q7,Q8]) ?_
     refine oN (λ(a:Ri20)=>n29 a.1) (λa=>[⟨[.str C,w44 D,.i a.2.1,.i E,.bool a.2.2],5,false⟩,q,Q7,Q8]) (atN 2 (ctl1 i68p7)) 26 [0] [] [] [.ptr 0 5 0,.i 3] (hF.i20_ok (3:Int) C D b.2.2.1 E b.2.2.2.1) trivial (λ_=>trivial) λa g0=>?_
     let E6:Env:=((31,.bool (decide ((b.2.2.2.2.length:Int)=0)))::(30,.bool (decide ((b.2.2.2.2.length:Int)=0)))::(29,.i (b.2.2.2.2.length:Int))::(28,.own 3 (b.2.2.2.2).length 7)::(27,.ptr 2 7 2)::(6,.ptr 4 7 0)::(26,n29 a.1)::E5)
     let Q9:Blk:=⟨[.str C,w44 D,.i a.2.1,.i E,.bool a.2.2],5,false⟩
     refine oH 11 (atN 5 (ctl1 i68p9)) E6 (mkH [Q9,q,Q7,Q8,⟨e29 a.1,7,false⟩]) ?_
     refine oJ i68p11 (λ(B:Bool×LL×(List S28))=>[(0,.ptr 0 5 0),(2,.ptr 1 7 0),(4,.ptr 2 7 0),(5,w9 B.2.1),(6,.ptr 4 7 0),(39,.bool B.1)]) (λ(B:Bool×LL×(List S28))=>(mkH [Q9,q,⟨[.i 5,.str [],.own 3 (B.2.2).length 7,.bool g,.bool false,.nils,.nils],7,false⟩,⟨(B.2.2).flatMap e29,0,false⟩,⟨e29 a.1,7,false⟩])) (λB=>?_) (λh8 a7=>?_)
     ·refine oS 39 (λZ=>?_) (λZ=>?_)
      ·let b2:Blk:=⟨[.i 5,.str [],.own 3 (B.2.2).length 7,.bool g,.bool false,.nils,.nils],7,false⟩
       let b3:Blk:=⟨(B.2.2).flatMap e29,0,false⟩
       refine oH 7 (atN 4 (ctl1 i68p13)) [(43,.bool g),(42,.ptr 2 7 3),(41,n29 a.1),(40,.ptr 0 5 0),(39,.bool true),(0,.ptr 0 5 0),(2,.ptr 1 7 0),(4,.ptr 2 7 0),(5,w9 B.2.1),(6,.ptr 4 7 0),(39,.bool B.1)] (mkH [Q9,q,b2,b3,⟨e29 a.1,7,false⟩]) ?_
       refine oN (λ(N:Ri82)=>n29 N.1) (λN=>[⟨[.str C,w44 D,.i N.2.1,.i E,.bool N.2.2],5,false⟩,q,b2,b3,⟨e29 a.1,7,false⟩]) (atN 5 (ctl1 i68p13)) 44 [0] [] [] [.ptr 0 5 0,n29 a.1,.bool g] (hF.i82_ok a.1 g C D a.2.1 E a.2.2) trivial (λ_=>trivial) λN g1=>?_
       exact oQF 3 [⟨[.str C,w44 D,.i N.2.1,.i E,.bool N.2.2],5,false⟩,⟨e29 N.1,7,false⟩,b2,b3,⟨e29 a.1,7,false⟩] 1 [] [n29 N.1] (n29 N.1) .ps trivial
      ·let b4:Blk:=⟨[.i 5,.str [],.own 3 (B.2.2).length 7,.bool g,.bool false,.nils,.nils],7,false⟩
       let c1:Blk:=⟨(B.2.2).flatMap e29,0,false⟩
       let l:Blk:=⟨[.i a.1.f0,.str a.1.f1,q29 a.1.f2,.bool a.1.f3,.bool a.1.f4,w9 B.2.1,w9 a.1.f6],7,false⟩
       let m:Blk:=⟨[.i a.1.f0,.str a.1.f1,q29 a.1.f2,.bool a.1.f3,.bool a.1.f4,w9 B.2.1,w9 a.1.f6],0,false⟩
       refine oH 14 (atN 4 (ctl1 i68p16)) [(50,.slice 5 7 0 1 7),(49,.agg [.i a.1.f0,.str a.1.f1,q29 a.1.f2,.bool a.1.f3,.bool a.1.f4,w9 B.2.1,w9 a.1.f6]),(48,.own 3 (B.2.2).length 7),(47,.ptr 2 7 2),(46,.ptr 4 7 5),(45,w9 B.2.1),(39,.bool false),(0,.ptr 0 5 0),(2,.ptr 1 7 0),(4,.ptr 2 7 0),(5,w9 B.2.1),(6,.ptr 4 7 0),(39,.bool B.1)] (mkH [Q9,q,b4,c1,l,m]) ?_
       refine oC (λ(J:List S28)=>(.own 3 (J).length 7,(mkH [Q9,q,b4,⟨(J).flatMap e29,0,false⟩,l,m]))) (atN 5 (ctl1 i68p16)) 51 (appH (sz:=7) qA2 rfl qAh [Q9,q,b4,c1,l,m] 3 104 B.2.2 ([(⟨a.1.f0,a.1.f1,a.1.f2,a.1.f3,a.1.f4,B.2.1,a.1.f6⟩:S28)]:List S28) rfl rfl Kr) λJ g2=>?_
       let I:Blk:=⟨[.i 5,.str [],.own 3 (J).length 7,.bool g,.bool false,.nils,.nils],7,false⟩
       let M:Blk:=⟨(J).flatMap e29,0,false⟩
       refine oLH 5 i68p17 [(0,.ptr 0 5 0),(2,.ptr 1 7 0),(4,.ptr 2 7 0)] (mkH [Q9,q,I,M,l,m]) ?_
       let E9:Env:=[(0,.ptr 0 5 0),(2,.ptr 1 7 0),(4,.ptr 2 7 0)]
       refine oR 2 (atN 1 (ctl1 i68p17)) ((53,.ptr 0 5 0)::E9) ?_
       refine oN (λ(Q:Bool) => .bool Q) (λQ=>[Q9,q,I,M,l,m]) (atN 2 (ctl1 i68p17)) 54 [0] [] [] [.ptr 0 5 0,.str [124]] (qAi k ([124]:LN) C D a.2.1 E a.2.2) trivial (λ_=>trivial) λQ g4=>?_
       refine oR 1 i68p18 ((54,.bool Q)::(53,.ptr 0 5 0)::E9) ?_
       refine oS 54 (λZ=>?_) (λZ=>?_)
       ·refine oR 4 (atN 1 (ctl1 i68p19)) ((55,.ptr 0 5 0)::(54,.bool true)::(54,.bool Q)::(53,.ptr 0 5 0)::E9) ?_
        refine oN (λ(S:Ri29) => .i S.1) (λS=>[⟨[.str C,w44 D,.i S.2.1,.i E,.bool S.2.2],5,false⟩,q,I,M,l,m]) (atN 2 (ctl1 i68p19)) 56 [0] [] [] [.ptr 0 5 0] (qAk k C D a.2.1 E a.2.2) trivial (λ_=>trivial) λS h0=>?_
        refine oR 2 i68p21 ((56,.i S.1)::(55,.ptr 0 5 0)::(54,.bool true)::(54,.bool Q)::(53,.ptr 0 5 0)::E9) ?_
        refine qA7 (λh a9=>?_)
        refine qA7 (λc b0=>?_)
        let a8:Env:=[(59,.ptr 0 5 0),(58,.own 3 (J).length 7),(57,.ptr 2 7 2),(56,.i S.1),(55,.ptr 0 5 0),(54,.bool true),(54,.bool Q),(53,.ptr 0 5 0),(0,.ptr 0 5 0),(2,.ptr 1 7 0),(4,.ptr 2 7 0)]
        let b5:Env:=((64,.ptr 2 7 2)::(63,.ptr 2 7 1)::(62,.own 3 (c).length 7)::(61,w29 ([h.1]:List S28))::(60,n29 h.1)::a8)
        let T:Blk:=⟨[.str C,w44 D,.i h.2.1,.i E,.bool h.2.2],5,false⟩
        let c2:Blk:=⟨[.i 5,.str [124],.own 3 (J).length 7,.bool g,.bool false,.nils,.nils],7,false⟩
        refine oD (H':=(mkH [T,q,⟨[.i 5,.str [124],.own 3 (c).length 7,.bool g,.bool false,.nils,.nils],7,false⟩,⟨(c).flatMap e29,0,false⟩,l,m])) (nav [0] i68p21) b5 [(mkH [T,q,I,M,l,m]),(mkH [T,q,I,⟨(c).flatMap e29,0,false⟩,l,m]),(mkH [T,q,c2,⟨(c).flatMap e29,0,false⟩,l,m]),(mkH [T,q,⟨[.i 5,.str [124],.own 3 (c).length 7,.bool g,.bool false,.nils,.nils],7,false⟩,⟨(c).flatMap e29,0,false⟩,l,m])] i68d0 (oDr 3 3 a8 (qA6 (l':=(opsAt i68p21).toList.drop 4) (eE:=((60,n29 h.1)::a8)) (hs:=[(mkH [T,q,I,M,l,m])]) (H':=(mkH [T,q,I,M,l,m])) (fi:=24) (args:=[.ptr 0 5 0,.i 3]) (v:=n29 h.1) Kr (frC (rs:=[0]) (ms:=[]) (ms':=[]) (hF.i20_ok (3:Int) C D S.2.1 E S.2.2 h a9) trivial trivial Kr) Kr (oDr 1 5 ((61,w29 ([h.1]:List S28))::(60,n29 h.1)::a8) (qAb (l':=(opsAt i68p21).toList.drop 6) (eE:=((62,.own 3 (c).length 7)::(61,w29 ([h.1]:List S28))::(60,n29 h.1)::a8)) (hs:=[(mkH [T,q,I,⟨(c).flatMap e29,0,false⟩,l,m])]) (x:=c) (λ(c:List S28)=>(.own 3 (c).length 7,(mkH [T,q,I,⟨(c).flatMap e29,0,false⟩,l,m]))) (appHV (sz:=7) qA2 rfl qAh [T,q,I,M,l,m] 3 104 J ([h.1]:List S28) rfl rfl Kr) b0 Kr (oDh 4 10 b5 (mkH [T,q,⟨[.i 5,.str [124],.own 3 (c).length 7,.bool g,.bool false,.nils,.nils],7,false⟩,⟨(c).flatMap e29,0,false⟩,l,m]) [(mkH [T,q,c2,⟨(c).flatMap e29,0,false⟩,l,m]),(mkH [T,q,⟨[.i 5,.str [124],.own 3 (c).length 7,.bool g,.bool false,.nils,.nils],7,false⟩,⟨(c).flatMap e29,0,false⟩,l,m])] .nil))))) ?_
        refine oR 3 (atN 1 (ctl1 i68p23)) ((65,.ptr 0 5 0)::b5) ?_
        let c3:Blk:=⟨[.i 5,.str [124],.own 3 (c).length 7,.bool g,.bool false,.nils,.nils],7,false⟩
        let c4:Blk:=⟨(c).flatMap e29,0,false⟩
        refine oN (λ(K:Ri32)=>w9 K.1) (λK=>[⟨[.str C,w44 D,.i K.2,.i E,.bool h.2.2],5,false⟩,q,c3,c4,l,m]) (atN 2 (ctl1 i68p23)) 66 [0] [] [] [.ptr 0 5 0] (qBp k C D h.2.1 E h.2.2) trivial (λ_=>trivial) λK d4=>?_
        refine oL 4 i68p8 [(0,.ptr 0 5 0),(2,.ptr 1 7 0),(4,.ptr 2 7 0),(5,w9 K.1)] ?_
        refine qA8 [⟨[.str C,w44 D,.i K.2,.i E,.bool h.2.2],5,false⟩,q,c3,c4] [l,m] Kr rfl Kr ⟨Kr,⟨Kr,⟨Kr,⟨(qA _ (u29 _)),trivial⟩⟩⟩⟩ ?_
        exact a6 (K.1,K.2,h.2.2,([124]:LN),c)
       ·refine oR 6 (atN 1 (ctl1 i68p20)) ((67,.ptr 0 5 0)::(54,.bool false)::(54,.bool Q)::(53,.ptr 0 5 0)::E9) ?_
        refine oN (λ(U:Bool) => .bool U) (λU=>[Q9,q,I,M,l,m]) (atN 2 (ctl1 i68p20)) 68 [0] [] [] [.ptr 0 5 0,.str [44]] (qAi k ([44]:LN) C D a.2.1 E a.2.2) trivial (λ_=>trivial) λU d5=>?_
        let b6:Env:=((69,.bool (!U))::(68,.bool U)::(67,.ptr 0 5 0)::(54,.bool false)::(54,.bool Q)::(53,.ptr 0 5 0)::E9)
        refine oR 2 i68p22 b6 ?_
        refine oS 69 (λZ=>?_) (λZ=>?_)
        ·refine oR 4 (atN 1 (ctl1 i68p24)) ((70,.ptr 0 5 0)::(69,.bool true)::b6) ?_
         refine oN (λ(L:Ri32)=>w9 L.1) (λL=>[⟨[.str C,w44 D,.i L.2,.i E,.bool a.2.2],5,false⟩,q,I,M,l,m]) (atN 2 (ctl1 i68p24)) 71 [0] [] [] [.ptr 0 5 0] (qBp k C D a.2.1 E a.2.2) trivial (λ_=>trivial) λL d6=>?_
         refine oL 4 i68p8 [(0,.ptr 0 5 0),(2,.ptr 1 7 0),(4,.ptr 2 7 0),(5,w9 L.1)] ?_
         refine qA8 [⟨[.str C,w44 D,.i L.2,.i E,.bool a.2.2],5,false⟩,q,I,M] [l,m] Kr rfl Kr ⟨Kr,⟨Kr,⟨Kr,⟨(qA _ (u29 _)),trivial⟩⟩⟩⟩ ?_
         exact a6 (L.1,L.2,a.2.2,([]:LN),J)
        ·refine oR 5 (atN 1 (ctl1 i68p25)) ((72,.ptr 0 5 0)::(69,.bool false)::b6) ?_
         refine oN (λ(u:Ri29) => .i u.1) (λu=>[⟨[.str C,w44 D,.i u.2.1,.i E,.bool u.2.2],5,false⟩,q,I,M,l,m]) (atN 2 (ctl1 i68p25)) 73 [0] [] [] [.ptr 0 5 0] (qAk k C D a.2.1 E a.2.2) trivial (λ_=>trivial) λu d9=>?_
         refine oL 2 i68p26 [(0,.ptr 0 5 0),(2,.ptr 1 7 0),(4,.ptr 2 7 0)] ?_
         let b7:Env:=[(0,.ptr 0 5 0),(2,.ptr 1 7 0),(4,.ptr 2 7 0)]
         refine oR 2 (atN 1 (ctl1 i68p26)) ((74,.ptr 0 5 0)::b7) ?_
         refine oN (λ(j:Ri32)=>w9 j.1) (λj=>[⟨[.str C,w44 D,.i j.2,.i E,.bool u.2.2],5,false⟩,q,I,M,l,m]) (atN 2 (ctl1 i68p26)) 75 [0] [] [] [.ptr 0 5 0] (qBp k C D u.2.1 E u.2.2) trivial (λ_=>trivial) λj e0=>?_
         refine oR 5 (atN 1 (ctl1 i68p27)) ((76,.ptr 0 5 0)::(5,w9 j.1)::(75,w9 j.1)::(74,.ptr 0 5 0)::b7) ?_
         let c5:Blk:=⟨[.str C,w44 D,.i j.2,.i E,.bool u.2.2],5,false⟩
         refine oN (λ(Y:Bool) => .bool Y) (λY=>[c5,q,I,M,l,m]) (atN 2 (ctl1 i68p27)) 77 [0] [] [] [.ptr 0 5 0,.str [93]] (qAi k ([93]:LN) C D j.2 E u.2.2) trivial (λ_=>trivial) λY e1=>?_
         let c6:Env:=((77,.bool Y)::(76,.ptr 0 5 0)::(5,w9 j.1)::(75,w9 j.1)::(74,.ptr 0 5 0)::b7)
         refine oR 1 (nav [0,0] i68p27) c6 ?_
         refine oS 77 (λZ=>?_) (λZ=>?_)
         ·let c7:Blk:=⟨[.str C,w44 D,.i j.2,.i E,.bool true],5,false⟩
          refine oLH 7 i68p4 [(0,.ptr 0 5 0),(2,.ptr 1 7 0),(4,.ptr 2 7 0),(5,w9 j.1)] (mkH [c7,q,I,M,l,m]) ?_
          refine qA8 [c7,q,I,M] [l,m] Kr rfl Kr ⟨Kr,⟨Kr,⟨Kr,⟨(qA _ (u29 _)),trivial⟩⟩⟩⟩ ?_
          exact ih j.1 j.2 true J
         ·refine oR 2 i68p4 ((77,.bool false)::c6) ?_
          refine oK [0,2,4,5] [(0,.ptr 0 5 0),(2,.ptr 1 7 0),(4,.ptr 2 7 0),(5,w9 j.1)] ?_
          refine qA8 [c5,q,I,M] [l,m] Kr rfl Kr ⟨Kr,⟨Kr,⟨Kr,⟨(qA _ (u29 _)),trivial⟩⟩⟩⟩ ?_
          exact ih j.1 j.2 u.2.2 J
     ·refine oS 31 (λZ=>?_) (λZ=>?_)
      ·let c8:Env:=((36,.bool (decide ((b.2.1.length:Int)=0)))::(35,.bool (decide ((b.2.1.length:Int)=0)))::(34,.bool (decide ((b.2.1.length:Int)=0)))::(33,.i (b.2.1.length:Int))::(32,w9 b.2.1)::(31,.bool true)::E6)
       refine oH 5 (atN 10 (ctl1 i68p9)) c8 (mkH [Q9,q,Q7,Q8,⟨e29 a.1,7,false⟩]) ?_
       refine oS 36 (λZ=>?_) (λZ=>?_)
       ·refine oR 1 (atN 11 (ctl1 i68p9)) ((37,.ptr 0 5 0)::(36,.bool true)::c8) ?_
        refine oN (λ(V:Bool) => .bool V) (λV=>[Q9,q,Q7,Q8,⟨e29 a.1,7,false⟩]) (atN 12 (ctl1 i68p9)) 38 [0] [] [] [.ptr 0 5 0,.str [124,124]] (qAi k ([124,124]:LN) C D a.2.1 E a.2.2) trivial (λ_=>trivial) λV f5=>?_
        refine oL 2 i68p11 [(0,.ptr 0 5 0),(2,.ptr 1 7 0),(4,.ptr 2 7 0),(5,w9 b.2.1),(6,.ptr 4 7 0),(39,.bool V)] ?_
        exact a7 (V,b.2.1,b.2.2.2.2)
       ·refine oL 4 i68p11 [(0,.ptr 0 5 0),(2,.ptr 1 7 0),(4,.ptr 2 7 0),(5,w9 b.2.1),(6,.ptr 4 7 0),(39,.bool false)] ?_
        exact a7 (false,b.2.1,b.2.2.2.2)
      ·refine oLH 9 i68p11 [(0,.ptr 0 5 0),(2,.ptr 1 7 0),(4,.ptr 2 7 0),(5,w9 b.2.1),(6,.ptr 4 7 0),(39,.bool false)] (mkH [Q9,q,Q7,Q8,⟨e29 a.1,7,false⟩]) ?_
       exact a7 (false,b.2.1,b.2.2.2.2)
    ·refine oLH 3 i68p8 [(0,.ptr 0 5 0),(2,.ptr 1 7 0),(4,.ptr 2 7 0),(5,w9 b.2.1)] (mkH [⟨[.str C,w44 D,.i b.2.2.1,.i E,.bool b.2.2.2.1],5,false⟩,q,⟨[.i 5,.str [],.own 3 (b.2.2.2.2).length 7,.bool g,.bool false,.nils,.nils],7,false⟩,⟨(b.2.2.2.2).flatMap e29,0,false⟩]) ?_
     exact a6 (b.2.1,b.2.2.1,b.2.2.2.1,([]:LN),b.2.2.2.2)
  ·refine oS 18 (λZ=>?_) (λZ=>?_)
   ·refine oLH 7 i68p6 [(0,.ptr 0 5 0),(2,.ptr 1 7 0),(4,.ptr 2 7 0),(5,w9 z),(24,.bool (!r))] (mkH [Q1,q,Q3,Q4]) ?_
    exact b1 (!r,z,G,r,A)
   ·refine oLH 7 i68p6 [(0,.ptr 0 5 0),(2,.ptr 1 7 0),(4,.ptr 2 7 0),(5,w9 z),(24,.bool false)] (mkH [Q1,q,Q3,Q4]) ?_
    exact b1 (false,z,G,r,A)
def i68B (k:Nat) (F:Fns1) (g:LN) (h:List S43) (l:Int) (j:Int) (m:Bool):Option Ri68 :=
 (i66 k (9:Int) ([91]:LN) g h l j m).bind λa=>(i76 k a.1 g h a.2.1 j a.2.2).bind λc=>(i32 k g h a.2.1 j a.2.2).bind λb=>qH6 k F g h j c k b.1 b.2 a.2.2 ([]:List S28)
theorem i68B_all (k:Nat) (F:Fns1) (E:FnsOk1 F):∀ g j m l n r,i68B k F g j m l n=some r→CallT Tryz.prog 119 [.ptr 0 5 0] (mkH [⟨[.str g,w44 j,.i m,.i l,.bool n],5,false⟩]) ((Xi68 g j m l n).thr r) ((Xi68 g j m l n).enc r) ((Xi68 g j m l n).fin r):=by
 intro g j m l n r h
 refine qA0 (Xi68 g j m l n) Tryz.func119 Kr Kr rfl (t:=i68B k F g j m l n) ?_ h
 unfold i68B
 refine qA1 (eE:=[(0,.ptr 0 5 0)]) Kr ?_
 let o:Blk:=⟨[.i 0,.str [],.nils,.bool false,.bool false,.nils,.nils],0,false⟩
 refine oH 7 (atN 1 (ctl1 i68p1)) [(7,.ptr 0 5 0),(2,.ptr 1 7 0),(0,.ptr 0 5 0)] (mkH [⟨[.str g,w44 j,.i m,.i l,.bool n],5,false⟩,o]) ?_
 refine oN (λ(a:Ri66) => .i a.1) (λa=>[⟨[.str g,w44 j,.i a.2.1,.i l,.bool a.2.2],5,false⟩,o]) (atN 2 (ctl1 i68p1)) 8 [0] [] [] [.ptr 0 5 0,.i 9,.str [91]] (qBy k (9:Int) ([91]:LN) g j m l n) trivial (λ_=>trivial) λa z=>?_
 let C:Env:=[(10,.i a.1),(9,.ptr 0 5 0),(3,.i a.1),(8,.i a.1),(7,.ptr 0 5 0),(2,.ptr 1 7 0),(0,.ptr 0 5 0)]
 refine oR 6 (atN 2 (ctl1 i68p2)) C ?_
 let q:Blk:=⟨[.str g,w44 j,.i a.2.1,.i l,.bool a.2.2],5,false⟩
 refine oN (λ(b:Bool) => .bool b) (λb=>[q,o]) (atN 3 (ctl1 i68p2)) 11 [0] [] [] [.ptr 0 5 0,.i a.1] (qM9 k a.1 g j a.2.1 l a.2.2) trivial (λ_=>trivial) λb A=>?_
 let u:Blk:=⟨[.i 5,.str [],.nils,.bool b,.bool false,.nils,.nils],7,false⟩
 refine oH 5 i68p3 ((4,.ptr 2 7 0)::(12,.agg [.i 5,.str [],.nils,.bool b,.bool false,.nils,.nils])::(11,.bool b)::C) (mkH [q,o,u]) ?_
 refine qBu [q,o,u] Kr ?_
 let x:Blk:=⟨(([]:List S28)).flatMap e29,0,false⟩
 refine oHp (mkH [q,o,u,x]) ?_
 refine qAw [q,o,u,x] 2 7 [.i 5,.str [],.nils,.bool b,.bool false,.nils,.nils] [.i 5,.str [],.own 3 (([]:List S28)).length 7,.bool b,.bool false,.nils,.nils] Kr rfl (.cons (.cons (.none (.refl)))) ?_
 let D:Blk:=⟨[.i 5,.str [],.own 3 (([]:List S28)).length 7,.bool b,.bool false,.nils,.nils],7,false⟩
 refine oHp (mkH [q,o,D,x]) ?_
 refine oK0 [0,2,4] ?_
 refine oR 2 (atN 1 (ctl1 i68p3)) ((13,.ptr 0 5 0)::[(0,.ptr 0 5 0),(2,.ptr 1 7 0),(4,.ptr 2 7 0)]) ?_
 refine oN (λ(c:Ri32)=>w9 c.1) (λc=>[⟨[.str g,w44 j,.i c.2,.i l,.bool a.2.2],5,false⟩,o,D,x]) (atN 2 (ctl1 i68p3)) 14 [0] [] [] [.ptr 0 5 0] (qBp k g j a.2.1 l a.2.2) trivial (λ_=>trivial) λc B=>?_
 refine oL 5 i68p4 [(0,.ptr 0 5 0),(2,.ptr 1 7 0),(4,.ptr 2 7 0),(5,w9 c.1)] ?_
 exact (qKp k F E g j m l n b k) c.1 c.2 a.2.2 ([]:List S28)
theorem i68B_ok (k:Nat) (F:Fns1) (a:FnsOk1 F):Pi68 (i68B k F):=λb c g j l=>λx h=>i68B_all k F a b c g j l x h
def i69p1:Pt:=nav [0,0,0] (nav [0] (bodyAt Tryz.f120))
def i69B (k:Nat) (F:Fns1) (b:LN) (c:List S43) (g:Int) (h:Int) (j:Bool):Option Ri69 :=
 (F.i67 (6:Int) ([]:LN) false false ([]:LL) ([]:LL) ([60,60]:LN) ([62,62]:LN) (0:Int) b c g h j ([]:List S28)).bind λa=>some ((⟨a.1,a.2.1,⟨(a.2.2.2.2.2.2.2.2).length,(a.2.2.2.2.2.2.2.2).flatMap e29⟩,a.2.2.1,a.2.2.2.1,a.2.2.2.2.1,a.2.2.2.2.2.1⟩:S28),a.2.2.2.2.2.2.1,a.2.2.2.2.2.2.2.1)
theorem i69B_all (k:Nat) (F:Fns1) (q:FnsOk1 F):∀ b c j g l r,i69B k F b c j g l=some r→CallT Tryz.prog 120 [.ptr 0 5 0] (mkH [⟨[.str b,w44 c,.i j,.i g,.bool l],5,false⟩]) ((Xi69 b c j g l).thr r) ((Xi69 b c j g l).enc r) ((Xi69 b c j g l).fin r):=by
 intro b c j g l r h
 refine qA0 (Xi69 b c j g l) Tryz.func120 Kr Kr rfl (t:=i69B k F b c j g l) ?_ h
 unfold i69B
 refine qA1 (eE:=[(0,.ptr 0 5 0)]) Kr ?_
 let o:Blk:=⟨[.str b,w44 c,.i j,.i g,.bool l],5,false⟩
 let m:Blk:=⟨[.i 0,.str [],.nils,.bool false,.bool false,.nils,.nils],0,false⟩
 refine oH 8 (atN 2 (ctl1 i69p1)) [(4,.agg [.i 6,.str [],.nils,.bool false,.bool false,.nils,.nils]),(3,.ptr 0 5 0),(2,.ptr 1 7 0),(0,.ptr 0 5 0)] (mkH [o,m]) ?_
 refine qAg (λ(a:Ri67) => .agg [.i a.1,.str a.2.1,.own 2 (a.2.2.2.2.2.2.2.2).length 7,.bool a.2.2.1,.bool a.2.2.2.1,w9 a.2.2.2.2.1,w9 a.2.2.2.2.2.1]) (λ(a:Ri67)=>(mkH [⟨[.str b,w44 c,.i a.2.2.2.2.2.2.1,.i g,.bool a.2.2.2.2.2.2.2.1],5,false⟩,m,⟨(a.2.2.2.2.2.2.2.2).flatMap e29,0,false⟩])) (atN 3 (ctl1 i69p1)) (λa=>[(5,.agg [.i a.1,.str a.2.1,.own 2 (a.2.2.2.2.2.2.2.2).length 7,.bool a.2.2.1,.bool a.2.2.2.1,w9 a.2.2.2.2.1,w9 a.2.2.2.2.2.1]),(4,.agg [.i 6,.str [],.nils,.bool false,.bool false,.nils,.nils]),(3,.ptr 0 5 0),(2,.ptr 1 7 0),(0,.ptr 0 5 0)]) (fi:=113) (args:=[.ptr 0 5 0,.agg [.i 6,.str [],.nils,.bool false,.bool false,.nils,.nils],.str [60,60],.str [62,62],.i 0]) Kr (λa h=>frW 1 [o,m,⟨(([]:List S28)).flatMap e29,0,false⟩] (rs:=[0,2]) (ms:=[0,1]) (ms':=[0,1]) (mv:=[0,0,1]) (xs':=[.ptr 0 5 0,.agg [.i 6,.str [],.own 2 (([]:List S28)).length 7,.bool false,.bool false,w9 ([]:LL),w9 ([]:LL)],.str [60,60],.str [62,62],.i 0]) (.cons (.agg (.cons (.cons (.none (.cons (.cons (.nil (.nil (.refl)))))))) (.refl))) (q.i67_ok (6:Int) ([]:LN) false false ([]:LL) ([]:LL) ([60,60]:LN) ([62,62]:LN) (0:Int) b c j g l ([]:List S28) a h) ⟨u29 _,trivial⟩ ⟨u29 _,trivial⟩ Kr) (λ_=>by kernel_rfl) (λa n=>?_)
 exact oQF 3 [⟨[.str b,w44 c,.i a.2.2.2.2.2.2.1,.i g,.bool a.2.2.2.2.2.2.2.1],5,false⟩,⟨[.i a.1,.str a.2.1,.own 2 (a.2.2.2.2.2.2.2.2).length 7,.bool a.2.2.1,.bool a.2.2.2.1,w9 a.2.2.2.2.1,w9 a.2.2.2.2.2.1],7,false⟩,⟨(a.2.2.2.2.2.2.2.2).flatMap e29,0,false⟩] 1 [] [.agg [.i a.1,.str a.2.1,.own 2 (a.2.2.2.2.2.2.2.2).length 7,.bool a.2.2.1,.bool a.2.2.2.1,w9 a.2.2.2.2.1,w9 a.2.2.2.2.2.1]] (.agg [.i a.1,.str a.2.1,w29 a.2.2.2.2.2.2.2.2,.bool a.2.2.1,.bool a.2.2.2.1,w9 a.2.2.2.2.1,w9 a.2.2.2.2.2.1]) (.agg (.cs (.cs (qAl qA2 qAf rfl rfl rfl .ps))) .ps) trivial
theorem i69B_ok (k:Nat) (F:Fns1) (a:FnsOk1 F):Pi69 (i69B k F):=λb c g j l=>λx h=>i69B_all k F a b c g j l x h
def i70p1:Pt:=nav [0,0,0,0] (nav [0] (bodyAt Tryz.f117))
def i70p2:Pt:=nav [0,0] i70p1
def i70p4:Pt:=nav [2,0,0] i70p2
def i70p6:Pt:=nav [0,0,0,0] i70p4
def i70p7:Pt:=nav [1,0] (nav [0,0] (nav [1,0,0] i70p2))
def i70p14:Pt:=nav [0,0] (nav [2,0,0,0] (nav [0,0] i70p6))
def i70p15:Pt:=nav [1,0] i70p14
def i70B (k:Nat) (F:Fns1) (g:LN) (h:List S43) (o:Int) (j:Int) (q:Bool):Option Ri70 :=
 (i33 k ([123]:LN) g h o j q).bind λl=>if l then ((F.i67 (8:Int) ([]:LN) false false ([]:LL) ([]:LL) ([123]:LN) ([125]:LN) (1:Int) g h o j q ([]:List S28)).bind λa=>some ((⟨a.1,a.2.1,⟨(a.2.2.2.2.2.2.2.2).length,(a.2.2.2.2.2.2.2.2).flatMap e29⟩,a.2.2.1,a.2.2.2.1,a.2.2.2.2.1,a.2.2.2.2.2.1⟩:S28),a.2.2.2.2.2.2.1,a.2.2.2.2.2.2.2.1)) else ((i31 k g h o j q).bind λm=>(g116 k m).bind λn=>(i65 k n g h o j q).bind λc=>(F.i67 (10:Int) c.1 false false ([]:LL) ([]:LL) ([123]:LN) ([125]:LN) (0:Int) g h c.2.1 j c.2.2 ([]:List S28)).bind λb=>some ((⟨b.1,b.2.1,⟨(b.2.2.2.2.2.2.2.2).length,(b.2.2.2.2.2.2.2.2).flatMap e29⟩,b.2.2.1,b.2.2.2.1,b.2.2.2.2.1,b.2.2.2.2.2.1⟩:S28),b.2.2.2.2.2.2.1,b.2.2.2.2.2.2.2.1))
theorem i70B_all (k:Nat) (F:Fns1) (K:FnsOk1 F):∀ g j q l u r,i70B k F g j q l u=some r→CallT Tryz.prog 117 [.ptr 0 5 0,.nils] (mkH [⟨[.str g,w44 j,.i q,.i l,.bool u],5,false⟩]) ((Xi70 g j q l u).thr r) ((Xi70 g j q l u).enc r) ((Xi70 g j q l u).fin r):=by
 intro g j q l u r h
 refine qA0 (Xi70 g j q l u) Tryz.func117 Kr Kr rfl (t:=i70B k F g j q l u) ?_ h
 unfold i70B
 refine qA1 (eE:=[(0,.ptr 0 5 0),(1,.nils)]) Kr ?_
 let z:Blk:=⟨[.str g,w44 j,.i q,.i l,.bool u],5,false⟩
 let x:Blk:=⟨[.i 0,.str [],.nils,.bool false,.bool false,.nils,.nils],0,false⟩
 refine oH 8 (atN 1 (ctl1 i70p1)) [(6,.ptr 0 5 0),(4,.ptr 1 7 0),(0,.ptr 0 5 0),(1,.nils)] (mkH [z,x]) ?_
 refine oN (λ(n:Bool) => .bool n) (λn=>[z,x]) (atN 2 (ctl1 i70p1)) 7 [0] [] [] [.ptr 0 5 0,.str [123]] (qAi k ([123]:LN) g j q l u) trivial (λ_=>trivial) λn A=>?_
 let B:Env:=[(7,.bool n),(6,.ptr 0 5 0),(4,.ptr 1 7 0),(0,.ptr 0 5 0),(1,.nils)]
 refine oR 1 i70p2 B ?_
 refine oS 7 (λM=>?_) (λM=>?_)
 ·let L:Env:=((12,.agg [.i 8,.str [],.nils,.bool false,.bool false,.nils,.nils])::(11,.ptr 0 5 0)::(10,.bool true)::(9,.i 0)::(8,.nils)::(7,.bool true)::B)
  refine oR 13 (atN 2 (ctl1 i70p7)) L ?_
  refine qAg (λ(a:Ri67) => .agg [.i a.1,.str a.2.1,.own 2 (a.2.2.2.2.2.2.2.2).length 7,.bool a.2.2.1,.bool a.2.2.2.1,w9 a.2.2.2.2.1,w9 a.2.2.2.2.2.1]) (λ(a:Ri67)=>(mkH [⟨[.str g,w44 j,.i a.2.2.2.2.2.2.1,.i l,.bool a.2.2.2.2.2.2.2.1],5,false⟩,x,⟨(a.2.2.2.2.2.2.2.2).flatMap e29,0,false⟩])) (atN 3 (ctl1 i70p7)) (λa=>((13,.agg [.i a.1,.str a.2.1,.own 2 (a.2.2.2.2.2.2.2.2).length 7,.bool a.2.2.1,.bool a.2.2.2.1,w9 a.2.2.2.2.1,w9 a.2.2.2.2.2.1])::L)) (fi:=113) (args:=[.ptr 0 5 0,.agg [.i 8,.str [],.nils,.bool false,.bool false,.nils,.nils],.str [123],.str [125],.i 1]) Kr (λa h=>frW 1 [z,x,⟨(([]:List S28)).flatMap e29,0,false⟩] (rs:=[0,2]) (ms:=[0,1]) (ms':=[0,1]) (mv:=[0,0,1]) (xs':=[.ptr 0 5 0,.agg [.i 8,.str [],.own 2 (([]:List S28)).length 7,.bool false,.bool false,w9 ([]:LL),w9 ([]:LL)],.str [123],.str [125],.i 1]) (.cons (.agg (.cons (.cons (.none (.cons (.cons (.nil (.nil (.refl)))))))) (.refl))) (K.i67_ok (8:Int) ([]:LN) false false ([]:LL) ([]:LL) ([123]:LN) ([125]:LN) (1:Int) g j q l u ([]:List S28) a h) ⟨u29 _,trivial⟩ ⟨u29 _,trivial⟩ Kr) (λ_=>by kernel_rfl) (λa C=>?_)
  exact oQF 3 [⟨[.str g,w44 j,.i a.2.2.2.2.2.2.1,.i l,.bool a.2.2.2.2.2.2.2.1],5,false⟩,⟨[.i a.1,.str a.2.1,.own 2 (a.2.2.2.2.2.2.2.2).length 7,.bool a.2.2.1,.bool a.2.2.2.1,w9 a.2.2.2.2.1,w9 a.2.2.2.2.2.1],7,false⟩,⟨(a.2.2.2.2.2.2.2.2).flatMap e29,0,false⟩] 1 [] [.agg [.i a.1,.str a.2.1,.own 2 (a.2.2.2.2.2.2.2.2).length 7,.bool a.2.2.1,.bool a.2.2.2.1,w9 a.2.2.2.2.1,w9 a.2.2.2.2.2.1]] (.agg [.i a.1,.str a.2.1,w29 a.2.2.2.2.2.2.2.2,.bool a.2.2.1,.bool a.2.2.2.1,w9 a.2.2.2.2.1,w9 a.2.2.2.2.2.1]) (.agg (.cs (.cs (qAl qA2 qAf rfl rfl rfl .ps))) .ps) trivial
 ·refine oR 6 (atN 2 (ctl1 i70p4)) ((19,.ptr 0 5 0)::(18,.ptr 0 5 0)::(7,.bool false)::B) ?_
  refine oN (λ(m:S43)=>n44 m) (λm=>[z,x]) (atN 3 (ctl1 i70p4)) 20 [0] [] [] [.ptr 0 5 0] (qBh k g j q l u) trivial (λ_=>trivial) λm D=>?_
  refine oA (λ(o:Bool) => .bool o) (atN 4 (ctl1 i70p4)) 21 [n44 m] (qDy k m) λo E=>?_
  refine oN (λ(c:Ri65) => .str c.1) (λc=>[⟨[.str g,w44 j,.i c.2.1,.i l,.bool c.2.2],5,false⟩,x]) (atN 5 (ctl1 i70p4)) 22 [0] [] [] [.ptr 0 5 0,.bool o] (qC6 k o g j q l u) trivial (λ_=>trivial) λc G=>?_
  refine oL 4 i70p6 [(0,.ptr 0 5 0),(1,.nils),(4,.ptr 1 7 0),(5,.str c.1)] ?_
  let I:Env:=[(0,.ptr 0 5 0),(1,.nils),(4,.ptr 1 7 0),(5,.str c.1),(45,.bool true)]
  refine oL 18 i70p14 I ?_
  refine oR 6 (atN 3 (ctl1 i70p15)) ((48,.agg [.i 10,.str c.1,.nils,.bool false,.bool false,.nils,.nils])::(47,.str c.1)::(46,.ptr 0 5 0)::I) ?_
  refine qAg (λ(b:Ri67) => .agg [.i b.1,.str b.2.1,.own 2 (b.2.2.2.2.2.2.2.2).length 7,.bool b.2.2.1,.bool b.2.2.2.1,w9 b.2.2.2.2.1,w9 b.2.2.2.2.2.1]) (λ(b:Ri67)=>(mkH [⟨[.str g,w44 j,.i b.2.2.2.2.2.2.1,.i l,.bool b.2.2.2.2.2.2.2.1],5,false⟩,x,⟨(b.2.2.2.2.2.2.2.2).flatMap e29,0,false⟩])) (atN 4 (ctl1 i70p15)) (λb=>((49,.agg [.i b.1,.str b.2.1,.own 2 (b.2.2.2.2.2.2.2.2).length 7,.bool b.2.2.1,.bool b.2.2.2.1,w9 b.2.2.2.2.1,w9 b.2.2.2.2.2.1])::(48,.agg [.i 10,.str c.1,.nils,.bool false,.bool false,.nils,.nils])::(47,.str c.1)::(46,.ptr 0 5 0)::I)) (fi:=113) (args:=[.ptr 0 5 0,.agg [.i 10,.str c.1,.nils,.bool false,.bool false,.nils,.nils],.str [123],.str [125],.i 0]) Kr (λb h=>frW 1 [⟨[.str g,w44 j,.i c.2.1,.i l,.bool c.2.2],5,false⟩,x,⟨(([]:List S28)).flatMap e29,0,false⟩] (rs:=[0,2]) (ms:=[0,1]) (ms':=[0,1]) (mv:=[0,0,1]) (xs':=[.ptr 0 5 0,.agg [.i 10,.str c.1,.own 2 (([]:List S28)).length 7,.bool false,.bool false,w9 ([]:LL),w9 ([]:LL)],.str [123],.str [125],.i 0]) (.cons (.agg (.cons (.cons (.none (.cons (.cons (.nil (.nil (.refl)))))))) (.refl))) (K.i67_ok (10:Int) c.1 false false ([]:LL) ([]:LL) ([123]:LN) ([125]:LN) (0:Int) g j c.2.1 l c.2.2 ([]:List S28) b h) ⟨u29 _,trivial⟩ ⟨u29 _,trivial⟩ Kr) (λ_=>by kernel_rfl) (λb J=>?_)
  exact oQF 3 [⟨[.str g,w44 j,.i b.2.2.2.2.2.2.1,.i l,.bool b.2.2.2.2.2.2.2.1],5,false⟩,⟨[.i b.1,.str b.2.1,.own 2 (b.2.2.2.2.2.2.2.2).length 7,.bool b.2.2.1,.bool b.2.2.2.1,w9 b.2.2.2.2.1,w9 b.2.2.2.2.2.1],7,false⟩,⟨(b.2.2.2.2.2.2.2.2).flatMap e29,0,false⟩] 1 [] [.agg [.i b.1,.str b.2.1,.own 2 (b.2.2.2.2.2.2.2.2).length 7,.bool b.2.2.1,.bool b.2.2.2.1,w9 b.2.2.2.2.1,w9 b.2.2.2.2.2.1]] (.agg [.i b.1,.str b.2.1,w29 b.2.2.2.2.2.2.2.2,.bool b.2.2.1,.bool b.2.2.2.1,w9 b.2.2.2.2.1,w9 b.2.2.2.2.2.1]) (.agg (.cs (.cs (qAl qA2 qAf rfl rfl rfl .ps))) .ps) trivial
theorem i70B_ok (k:Nat) (F:Fns1) (a:FnsOk1 F):Pi70 (i70B k F):=λb c g j l=>λx h=>i70B_all k F a b c g j l x h
def i71p1:Pt:=nav [0,0,0] (nav [0] (bodyAt Tryz.f121))
def i71p2:Pt:=nav [0,0,0,0] i71p1
def i71p3:Pt:=nav [0,0] i71p2
def i71p4:Pt:=nav [1,0] i71p3
def i71p6:Pt:=nav [0,0,0,0] i71p4
def i71p7:Pt:=nav [0,0,0,0,0] (nav [2,0,0] i71p3)
def i71p8:Pt:=nav [0,0] i71p6
def i71p10:Pt:=nav [1,0] i71p8
def i71p11:Pt:=nav [2,0,0] i71p8
def i71p12:Pt:=nav [0,0] (nav [0,0,0] i71p7)
def i71p13:Pt:=nav [0,0] i71p10
def i71p14:Pt:=nav [0,0,0] i71p11
def i71p16:Pt:=nav [2,0,0] i71p12
def i71p19:Pt:=nav [0,0] (nav [0,0,0,0] (nav [1,0,0,0] i71p12))
def i71p20:Pt:=nav [1] i71p19
def i71p21:Pt:=nav [2,0,0] i71p19
def i71p23:Pt:=nav [0,0,0] (nav [0,0,0] i71p21)
def i71p24:Pt:=nav [0,0,0,0] i71p23
def i71p25:Pt:=nav [0,0] i71p24
def i71p26:Pt:=nav [2,0] i71p25
def qF7 (k:Nat) (F:Fns1)  (r:LN) (u:List S43) (x:Int) (ih:Int→Bool→(List S28)→Option Ri71):Int→Bool→(List S28)→Option Ri71 :=
 λ(g:Int) (b:Bool) (c:List S28)=>jn (λ(m:Int×Bool×(List S28))=>(i72 k (⟨17,([]:LN),(⟨(m.2.2).length,(m.2.2).flatMap e29⟩:Raw),false,false,([]:LL),([]:LL)⟩:S28) r u m.1 x m.2.1).bind λh=>some (h.1,h.2.1,h.2.2)) (λz=>if (!b) then (jn (λ(n:LL×Int×Bool×(List S28))=>(F.i83 ([]:LN) r u n.2.1 x n.2.2.1).bind λa=>(appS 104 n.2.2.2 ([(⟨a.1.f0,a.1.f1,a.1.f2,a.1.f3,a.1.f4,n.1,a.1.f6⟩:S28)]:List S28)).bind λj=>(i33 k ([59]:LN) r u a.2.1 x a.2.2).bind λq=>if (!q) then (z (a.2.1,a.2.2,j)) else ((i29 k r u a.2.1 x a.2.2).bind λl=>ih l.2.1 l.2.2 j)) (λA=>if (decide (0 < (c.length:Int))) then ((i32 k r u g x b).bind λo=>A (o.1,o.2,b,c)) else (A (([]:LL),g,b,c)))) else (z (g,b,c)))
def qH5 (k:Nat) (F:Fns1)  (a:LN) (b:List S43) (c:Int) (n:Nat):Int→Bool→(List S28)→Option Ri71:=lp (λ_ _ _=>none) (qF7 k F a b c) n
theorem qKo (k:Nat) (F:Fns1) (hF:FnsOk1 F) (z:LN) (A:List S43) (a2:Int) (B:Int) (a4:Bool)    : ∀ (n:Nat) (m:Int) (c:Bool) (g:List S28),Ok (Xi71 z A a2 B a4) i71p7 [(0,.ptr 0 5 0),(2,.ptr 1 7 0),(4,.ptr 2 7 0)] (mkH [⟨[.str z,w44 A,.i m,.i B,.bool c],5,false⟩,⟨[.i 0,.str [],.nils,.bool false,.bool false,.nils,.nils],0,false⟩,⟨[.i 17,.str [],.own 3 (g).length 7,.bool false,.bool false,.nils,.nils],7,false⟩,⟨(g).flatMap e29,0,false⟩]) (qH5 k F z A B n m c g):=by
 intro n
 induction n with
 | zero=>intro m c g; exact ok_none
 | succ n ih =>
  intro m c g
  show Ok _ _ _ _ (qF7 k F z A B (qH5 k F z A B n) m c g)
  unfold qF7
  refine qAd (p':=nav [0] i71p7) Kr ?_
  let S:Blk:=⟨[.str z,w44 A,.i m,.i B,.bool c],5,false⟩
  let u:Blk:=⟨[.i 0,.str [],.nils,.bool false,.bool false,.nils,.nils],0,false⟩
  let O:Blk:=⟨[.i 17,.str [],.own 3 (g).length 7,.bool false,.bool false,.nils,.nils],7,false⟩
  let Q:Blk:=⟨(g).flatMap e29,0,false⟩
  refine oH 9 i71p12 [(45,.bool (!c)),(44,.bool c),(43,.ptr 0 5 4),(42,.ptr 0 5 0),(41,.ptr 0 5 0),(0,.ptr 0 5 0),(2,.ptr 1 7 0),(4,.ptr 2 7 0)] (mkH [S,u,O,Q]) ?_
  refine oJ i71p16 (λ(j:Int×Bool×(List S28))=>[(0,.ptr 0 5 0),(2,.ptr 1 7 0),(4,.ptr 2 7 0)]) (λ(j:Int×Bool×(List S28))=>(mkH [⟨[.str z,w44 A,.i j.1,.i B,.bool j.2.1],5,false⟩,u,⟨[.i 17,.str [],.own 3 (j.2.2).length 7,.bool false,.bool false,.nils,.nils],7,false⟩,⟨(j.2.2).flatMap e29,0,false⟩])) (λj=>?_) (λb5 K=>?_)
  ·let W:Blk:=⟨[.str z,w44 A,.i j.1,.i B,.bool j.2.1],5,false⟩
   let Q6:Blk:=⟨[.i 17,.str [],.own 3 (j.2.2).length 7,.bool false,.bool false,.nils,.nils],7,false⟩
   let Q7:Blk:=⟨(j.2.2).flatMap e29,0,false⟩
   refine oH 3 (atN 2 (ctl1 i71p16)) [(68,.agg [.i 17,.str [],.own 3 (j.2.2).length 7,.bool false,.bool false,.nils,.nils]),(67,.ptr 0 5 0),(0,.ptr 0 5 0),(2,.ptr 1 7 0),(4,.ptr 2 7 0)] (mkH [W,u,Q6,Q7]) ?_
   let Y:Blk:=⟨[.i 17,.str [],w29 j.2.2,.bool false,.bool false,.nils,.nils],7,false⟩
   refine qB1 [W,u,Q6,Q7] [W,u,Y,⟨[],0,false⟩] 3 (j.2.2).length 7 0 ((j.2.2).flatMap e29) [0,2,4,67,68] (env0:=[(0,.ptr 0 5 0),(2,.ptr 1 7 0),(4,.ptr 2 7 0),(67,.ptr 0 5 0),(68,.agg [.i 17,.str [],.own 3 (j.2.2).length 7,.bool false,.bool false,.nils,.nils])]) (eE:=[(0,.ptr 0 5 0),(2,.ptr 1 7 0),(4,.ptr 2 7 0),(67,.ptr 0 5 0),(68,.agg [.i 17,.str [],w29 j.2.2,.bool false,.bool false,.nils,.nils])]) Kr rfl rfl (qA9 qA2 _) (Nat.zero_le _) (u29 _) Kr ⟨⟨rfl,.refl Kr⟩,⟨⟨rfl,.refl Kr⟩,⟨⟨rfl,.refl Kr⟩,⟨⟨rfl,.refl Kr⟩,⟨⟨rfl,.agg (.cons Kr (.cons Kr (.own (.refl Kr)))) (.refl Kr)⟩,trivial⟩⟩⟩⟩⟩ ⟨.inr ⟨rfl,rfl,rfl,.refl Kr⟩,⟨.inr ⟨rfl,rfl,rfl,.refl Kr⟩,⟨.inr ⟨rfl,rfl,rfl,.cons Kr (.cons Kr (.own (.refl Kr)))⟩,⟨.inl ⟨rfl,rfl⟩,trivial⟩⟩⟩⟩ ?_
   refine qAg (λ(b:Ri72)=>n29 b.1) (λ(b:Ri72)=>(mkH [⟨[.str z,w44 A,.i b.2.1,.i B,.bool b.2.2],5,false⟩,u,Y,⟨[],0,false⟩])) (atN 3 (ctl1 i71p16)) (λb=>[(69,n29 b.1),(0,.ptr 0 5 0),(2,.ptr 1 7 0),(4,.ptr 2 7 0),(67,.ptr 0 5 0),(68,.agg [.i 17,.str [],w29 j.2.2,.bool false,.bool false,.nils,.nils])]) (fi:=122) (args:=[.ptr 0 5 0,.agg [.i 17,.str [],w29 j.2.2,.bool false,.bool false,.nils,.nils]]) Kr (λb h=>frW 0 [W,u,Y,⟨[],0,false⟩] (rs:=[0]) (ms:=[]) (ms':=[]) (mv:=[]) (xs':=[.ptr 0 5 0,.agg [.i 17,.str [],w29 j.2.2,.bool false,.bool false,w9 ([]:LL),w9 ([]:LL)]]) (.cons (.agg (.cons (.cons (.cons (.cons (.cons (.nil (.nil (.refl)))))))) (.refl))) (qDa k (⟨17,([]:LN),(⟨(j.2.2).length,(j.2.2).flatMap e29⟩:Raw),false,false,([]:LL),([]:LL)⟩:S28) z A j.1 B j.2.1 b h) trivial trivial Kr) (λ_=>by kernel_rfl) (λb Z=>?_)
   exact oQF 3 [⟨[.str z,w44 A,.i b.2.1,.i B,.bool b.2.2],5,false⟩,⟨e29 b.1,7,false⟩,Y,⟨[],0,false⟩] 1 [] [n29 b.1] (n29 b.1) .ps trivial
  ·refine oS 45 (λT=>?_) (λT=>?_)
   ·let M:Env:=[(0,.ptr 0 5 0),(2,.ptr 1 7 0),(4,.ptr 2 7 0),(5,.nils),(49,.bool (decide (0 < (g.length:Int))))]
    refine oLH 15 i71p19 M (mkH [S,u,O,Q]) ?_
    refine oJ i71p21 (λ(l:LL×Int×Bool×(List S28))=>[(0,.ptr 0 5 0),(2,.ptr 1 7 0),(4,.ptr 2 7 0),(5,w9 l.1)]) (λ(l:LL×Int×Bool×(List S28))=>(mkH [⟨[.str z,w44 A,.i l.2.1,.i B,.bool l.2.2.1],5,false⟩,u,⟨[.i 17,.str [],.own 3 (l.2.2.2).length 7,.bool false,.bool false,.nils,.nils],7,false⟩,⟨(l.2.2.2).flatMap e29,0,false⟩])) (λl=>?_) (λb6 L=>?_)
    ·let U:Env:=[(52,.ptr 0 5 0),(0,.ptr 0 5 0),(2,.ptr 1 7 0),(4,.ptr 2 7 0),(5,w9 l.1)]
     let V:Blk:=⟨[.i 17,.str [],.own 3 (l.2.2.2).length 7,.bool false,.bool false,.nils,.nils],7,false⟩
     let J:Blk:=⟨(l.2.2.2).flatMap e29,0,false⟩
     refine oH 2 (atN 1 (ctl1 i71p21)) U (mkH [⟨[.str z,w44 A,.i l.2.1,.i B,.bool l.2.2.1],5,false⟩,u,V,J]) ?_
     refine oN (λ(a:Ri83)=>n29 a.1) (λa=>[⟨[.str z,w44 A,.i a.2.1,.i B,.bool a.2.2],5,false⟩,u,V,J]) (atN 2 (ctl1 i71p21)) 53 [0] [] [] [.ptr 0 5 0,.str []] (hF.i83_ok ([]:LN) z A l.2.1 B l.2.2.1) trivial (λ_=>trivial) λa a8=>?_
     let E:Blk:=⟨[.str z,w44 A,.i a.2.1,.i B,.bool a.2.2],5,false⟩
     let C:Blk:=⟨[.i a.1.f0,.str a.1.f1,q29 a.1.f2,.bool a.1.f3,.bool a.1.f4,w9 l.1,w9 a.1.f6],7,false⟩
     let D:Blk:=⟨[.i a.1.f0,.str a.1.f1,q29 a.1.f2,.bool a.1.f3,.bool a.1.f4,w9 l.1,w9 a.1.f6],0,false⟩
     refine oH 15 (atN 4 (ctl1 i71p23)) ((59,.slice 5 7 0 1 7)::(58,.agg [.i a.1.f0,.str a.1.f1,q29 a.1.f2,.bool a.1.f3,.bool a.1.f4,w9 l.1,w9 a.1.f6])::(57,.own 3 (l.2.2.2).length 7)::(56,.ptr 2 7 2)::(55,.ptr 4 7 5)::(54,w9 l.1)::(6,.ptr 4 7 0)::(53,n29 a.1)::U) (mkH [E,u,V,J,C,D]) ?_
     refine oC (λ(q:List S28)=>(.own 3 (q).length 7,(mkH [E,u,V,⟨(q).flatMap e29,0,false⟩,C,D]))) (atN 5 (ctl1 i71p23)) 60 (appH (sz:=7) qA2 rfl qAh [E,u,V,J,C,D] 3 104 l.2.2.2 ([(⟨a.1.f0,a.1.f1,a.1.f2,a.1.f3,a.1.f4,l.1,a.1.f6⟩:S28)]:List S28) rfl rfl Kr) λq a5=>?_
     let G:Blk:=⟨[.i 17,.str [],.own 3 (q).length 7,.bool false,.bool false,.nils,.nils],7,false⟩
     let I:Blk:=⟨(q).flatMap e29,0,false⟩
     refine oLH 5 i71p24 [(0,.ptr 0 5 0),(2,.ptr 1 7 0),(4,.ptr 2 7 0)] (mkH [E,u,G,I,C,D]) ?_
     let N:Env:=[(0,.ptr 0 5 0),(2,.ptr 1 7 0),(4,.ptr 2 7 0)]
     refine oR 2 (atN 1 (ctl1 i71p24)) ((62,.ptr 0 5 0)::N) ?_
     refine oN (λ(r:Bool) => .bool r) (λr=>[E,u,G,I,C,D]) (atN 2 (ctl1 i71p24)) 63 [0] [] [] [.ptr 0 5 0,.str [59]] (qAi k ([59]:LN) z A a.2.1 B a.2.2) trivial (λ_=>trivial) λr a6=>?_
     refine oR 2 i71p25 ((64,.bool (!r))::(63,.bool r)::(62,.ptr 0 5 0)::N) ?_
     refine oS 64 (λT=>?_) (λT=>?_)
     ·refine oL 3 i71p16 [(0,.ptr 0 5 0),(2,.ptr 1 7 0),(4,.ptr 2 7 0)] ?_
      refine qA8 [E,u,G,I] [C,D] Kr rfl Kr ⟨Kr,⟨Kr,⟨Kr,⟨(qA _ (u29 _)),trivial⟩⟩⟩⟩ ?_
      exact K (a.2.1,a.2.2,q)
     ·refine oR 4 (atN 1 (ctl1 i71p26)) ((65,.ptr 0 5 0)::(64,.bool false)::(64,.bool (!r))::(63,.bool r)::(62,.ptr 0 5 0)::N) ?_
      refine oN (λ(o:Ri29) => .i o.1) (λo=>[⟨[.str z,w44 A,.i o.2.1,.i B,.bool o.2.2],5,false⟩,u,G,I,C,D]) (atN 2 (ctl1 i71p26)) 66 [0] [] [] [.ptr 0 5 0] (qAk k z A a.2.1 B a.2.2) trivial (λ_=>trivial) λo a7=>?_
      refine oL 1 i71p7 [(0,.ptr 0 5 0),(2,.ptr 1 7 0),(4,.ptr 2 7 0)] ?_
      refine qA8 [⟨[.str z,w44 A,.i o.2.1,.i B,.bool o.2.2],5,false⟩,u,G,I] [C,D] Kr rfl Kr ⟨Kr,⟨Kr,⟨Kr,⟨(qA _ (u29 _)),trivial⟩⟩⟩⟩ ?_
      exact ih o.2.1 o.2.2 q
    ·refine oS 49 (λT=>?_) (λT=>?_)
     ·refine oH 3 (atN 1 (ctl1 i71p20)) ((50,.ptr 0 5 0)::(49,.bool true)::M) (mkH [S,u,O,Q]) ?_
      refine oN (λ(x:Ri32)=>w9 x.1) (λx=>[⟨[.str z,w44 A,.i x.2,.i B,.bool c],5,false⟩,u,O,Q]) (atN 2 (ctl1 i71p20)) 51 [0] [] [] [.ptr 0 5 0] (qBp k z A m B c) trivial (λ_=>trivial) λx a9=>?_
      refine oL 3 i71p21 [(0,.ptr 0 5 0),(2,.ptr 1 7 0),(4,.ptr 2 7 0),(5,w9 x.1)] ?_
      exact L (x.1,x.2,c,g)
     ·refine oH 3 i71p21 ((49,.bool false)::M) (mkH [S,u,O,Q]) ?_
      refine ok_nilv 5 1 Kr ?_
      refine oE [(5,w9 ([]:LL)),(49,.bool false),(0,.ptr 0 5 0),(2,.ptr 1 7 0),(4,.ptr 2 7 0),(5,.nils),(49,.bool (decide (0 < (g.length:Int))))] ?_
      refine oK [0,2,4,5] [(0,.ptr 0 5 0),(2,.ptr 1 7 0),(4,.ptr 2 7 0),(5,w9 ([]:LL))] ?_
      exact L (([]:LL),m,c,g)
   ·refine oLH 3 i71p16 [(0,.ptr 0 5 0),(2,.ptr 1 7 0),(4,.ptr 2 7 0)] (mkH [S,u,O,Q]) ?_
    exact K (m,c,g)
def i71B (k:Nat) (F:Fns1) (h:LN) (j:List S43) (K:Int) (l:Int) (L:Bool):Option Ri71 :=
 (i29 k h j K l L).bind λa=>(i33 k ([40]:LN) h j a.2.1 l a.2.2).bind λq=>if (!q) then ((i31 k h j a.2.1 l a.2.2).bind λr=>(g116 k r).bind λu=>(i65 k u h j a.2.1 l a.2.2).bind λb=>(i33 k ([58]:LN) h j b.2.1 l b.2.2).bind λx=>jn (λ(o:LN×Int×Bool)=>(i66 k (9:Int) ([47]:LN) h j o.2.1 l o.2.2).bind λc=>(catS o.1 ([47]:LN)).bind λz=>(i31 k h j c.2.1 l c.2.2).bind λA=>(g142 k A).bind λB=>(i65 k B h j c.2.1 l c.2.2).bind λm=>(catS z m.1).bind λC=>some ((⟨(16:Int),C,⟨0,[]⟩,false,false,([]:LL),([]:LL)⟩:S28),m.2.1,m.2.2)) (λD=>if x then ((i29 k h j b.2.1 l b.2.2).bind λg=>(catS b.1 ([58]:LN)).bind λE=>(i31 k h j g.2.1 l g.2.2).bind λG=>(g116 k G).bind λI=>(i65 k I h j g.2.1 l g.2.2).bind λn=>(catS E n.1).bind λJ=>D (J,n.2.1,n.2.2)) else (D (b.1,b.2.1,b.2.2)))) else (qH5 k F h j l k a.2.1 a.2.2 ([]:List S28))
theorem i71B_all (k:Nat) (F:Fns1) (hF:FnsOk1 F):∀ j l K m L r,i71B k F j l K m L=some r→CallT Tryz.prog 121 [.ptr 0 5 0] (mkH [⟨[.str j,w44 l,.i K,.i m,.bool L],5,false⟩]) ((Xi71 j l K m L).thr r) ((Xi71 j l K m L).enc r) ((Xi71 j l K m L).fin r):=by
 intro j l K m L r h
 refine qA0 (Xi71 j l K m L) Tryz.func121 Kr Kr rfl (t:=i71B k F j l K m L) ?_ h
 unfold i71B
 refine qA1 (eE:=[(0,.ptr 0 5 0)]) Kr ?_
 let q:Blk:=⟨[.i 0,.str [],.nils,.bool false,.bool false,.nils,.nils],0,false⟩
 refine oH 7 (atN 1 (ctl1 i71p1)) [(7,.ptr 0 5 0),(2,.ptr 1 7 0),(0,.ptr 0 5 0)] (mkH [⟨[.str j,w44 l,.i K,.i m,.bool L],5,false⟩,q]) ?_
 refine oN (λ(b:Ri29) => .i b.1) (λb=>[⟨[.str j,w44 l,.i b.2.1,.i m,.bool b.2.2],5,false⟩,q]) (atN 2 (ctl1 i71p1)) 8 [0] [] [] [.ptr 0 5 0] (qAk k j l K m L) trivial (λ_=>trivial) λb V=>?_
 let S:Env:=[(9,.ptr 0 5 0),(8,.i b.1),(7,.ptr 0 5 0),(2,.ptr 1 7 0),(0,.ptr 0 5 0)]
 refine oR 5 (atN 1 (ctl1 i71p2)) S ?_
 let Q:Blk:=⟨[.str j,w44 l,.i b.2.1,.i m,.bool b.2.2],5,false⟩
 refine oN (λ(n:Bool) => .bool n) (λn=>[Q,q]) (atN 2 (ctl1 i71p2)) 10 [0] [] [] [.ptr 0 5 0,.str [40]] (qAi k ([40]:LN) j l b.2.1 m b.2.2) trivial (λ_=>trivial) λn W=>?_
 refine oR 2 i71p3 ((11,.bool (!n))::(10,.bool n)::S) ?_
 refine oS 11 (λY=>?_) (λY=>?_)
 ·refine oR 5 (atN 2 (ctl1 i71p4)) ((13,.ptr 0 5 0)::(12,.ptr 0 5 0)::(11,.bool true)::(11,.bool (!n))::(10,.bool n)::S) ?_
  refine oN (λ(A:S43)=>n44 A) (λA=>[Q,q]) (atN 3 (ctl1 i71p4)) 14 [0] [] [] [.ptr 0 5 0] (qBh k j l b.2.1 m b.2.2) trivial (λ_=>trivial) λA Z=>?_
  refine oA (λ(E:Bool) => .bool E) (atN 4 (ctl1 i71p4)) 15 [n44 A] (qDy k A) λE a5=>?_
  refine oN (λ(a:Ri65) => .str a.1) (λa=>[⟨[.str j,w44 l,.i a.2.1,.i m,.bool a.2.2],5,false⟩,q]) (atN 5 (ctl1 i71p4)) 16 [0] [] [] [.ptr 0 5 0,.bool E] (qC6 k E j l b.2.1 m b.2.2) trivial (λ_=>trivial) λa a6=>?_
  refine oL 4 i71p6 [(0,.ptr 0 5 0),(2,.ptr 1 7 0),(3,.str a.1)] ?_
  let T:Env:=[(0,.ptr 0 5 0),(2,.ptr 1 7 0),(3,.str a.1)]
  refine oR 2 (atN 1 (ctl1 i71p6)) ((17,.ptr 0 5 0)::T) ?_
  let Q3:Blk:=⟨[.str j,w44 l,.i a.2.1,.i m,.bool a.2.2],5,false⟩
  refine oN (λ(z:Bool) => .bool z) (λz=>[Q3,q]) (atN 2 (ctl1 i71p6)) 18 [0] [] [] [.ptr 0 5 0,.str [58]] (qAi k ([58]:LN) j l a.2.1 m a.2.2) trivial (λ_=>trivial) λz a8=>?_
  refine oR 1 i71p8 ((18,.bool z)::(17,.ptr 0 5 0)::T) ?_
  refine oJ i71p11 (λ(u:LN×Int×Bool)=>[(0,.ptr 0 5 0),(2,.ptr 1 7 0),(3,.str u.1)]) (λ(u:LN×Int×Bool)=>(mkH [⟨[.str j,w44 l,.i u.2.1,.i m,.bool u.2.2],5,false⟩,q])) (λu=>?_) (λc9 O=>?_)
  ·refine oH 2 (atN 1 (ctl1 i71p11)) [(29,.ptr 0 5 0),(0,.ptr 0 5 0),(2,.ptr 1 7 0),(3,.str u.1)] (mkH [⟨[.str j,w44 l,.i u.2.1,.i m,.bool u.2.2],5,false⟩,q]) ?_
   refine oN (λ(c:Ri66) => .i c.1) (λc=>[⟨[.str j,w44 l,.i c.2.1,.i m,.bool c.2.2],5,false⟩,q]) (atN 2 (ctl1 i71p11)) 30 [0] [] [] [.ptr 0 5 0,.i 9,.str [47]] (qBy k (9:Int) ([47]:LN) j l u.2.1 m u.2.2) trivial (λ_=>trivial) λc a9=>?_
   let E4:Env:=[(31,.str u.1),(30,.i c.1),(29,.ptr 0 5 0),(0,.ptr 0 5 0),(2,.ptr 1 7 0),(3,.str u.1)]
   refine oR 4 (atN 1 (ctl1 i71p14)) E4 ?_
   let Q4:Blk:=⟨[.str j,w44 l,.i c.2.1,.i m,.bool c.2.2],5,false⟩
   refine oC (λ(M:LN)=>(.str M,(mkH [Q4,q]))) (atN 2 (ctl1 i71p14)) 32 (catH Kr) λM b1=>?_
   refine oH 2 (atN 4 (ctl1 i71p14)) ((34,.ptr 0 5 0)::(33,.ptr 0 5 0)::(32,.str M)::E4) (mkH [Q4,q]) ?_
   refine oN (λ(B:S43)=>n44 B) (λB=>[Q4,q]) (atN 5 (ctl1 i71p14)) 35 [0] [] [] [.ptr 0 5 0] (qBh k j l c.2.1 m c.2.2) trivial (λ_=>trivial) λB b2=>?_
   refine oA (λ(G:Bool) => .bool G) (atN 6 (ctl1 i71p14)) 36 [n44 B] (qOl k B) λG b3=>?_
   refine oN (λ(x:Ri65) => .str x.1) (λx=>[⟨[.str j,w44 l,.i x.2.1,.i m,.bool x.2.2],5,false⟩,q]) (atN 7 (ctl1 i71p14)) 37 [0] [] [] [.ptr 0 5 0,.bool G] (qC6 k G j l c.2.1 m c.2.2) trivial (λ_=>trivial) λx b4=>?_
   let Q5:Blk:=⟨[.str j,w44 l,.i x.2.1,.i m,.bool x.2.2],5,false⟩
   refine oC (λ(C:LN)=>(.str C,(mkH [Q5,q]))) (atN 8 (ctl1 i71p14)) 38 (catH Kr) λC b5=>?_
   exact oQF 4 [Q5,⟨[.i 16,.str C,.nils,.bool false,.bool false,.nils,.nils],7,false⟩] 1 [] [.agg [.i 16,.str C,.nils,.bool false,.bool false,.nils,.nils]] (.agg [.i 16,.str C,.vec 0 7 [],.bool false,.bool false,.vec 0 1 [],.vec 0 1 []]) (.agg (.cs (.cs (.nil (.cs (.cs (.nil (.nil .ps))))))) .ps) trivial
  ·refine oS 18 (λY=>?_) (λY=>?_)
   ·refine oH 4 (atN 1 (ctl1 i71p10)) ((19,.ptr 0 5 0)::(18,.bool true)::(18,.bool z)::(17,.ptr 0 5 0)::T) (mkH [Q3,q]) ?_
    refine oN (λ(g:Ri29) => .i g.1) (λg=>[⟨[.str j,w44 l,.i g.2.1,.i m,.bool g.2.2],5,false⟩,q]) (atN 2 (ctl1 i71p10)) 20 [0] [] [] [.ptr 0 5 0] (qAk k j l a.2.1 m a.2.2) trivial (λ_=>trivial) λg b6=>?_
    let E6:Env:=((21,.str a.1)::(20,.i g.1)::(19,.ptr 0 5 0)::(18,.bool true)::(18,.bool z)::(17,.ptr 0 5 0)::T)
    refine oR 3 (atN 1 (ctl1 i71p13)) E6 ?_
    let Q6:Blk:=⟨[.str j,w44 l,.i g.2.1,.i m,.bool g.2.2],5,false⟩
    refine oC (λ(N:LN)=>(.str N,(mkH [Q6,q]))) (atN 2 (ctl1 i71p13)) 22 (catH Kr) λN b8=>?_
    refine oH 2 (atN 4 (ctl1 i71p13)) ((24,.ptr 0 5 0)::(23,.ptr 0 5 0)::(22,.str N)::E6) (mkH [Q6,q]) ?_
    refine oN (λ(D:S43)=>n44 D) (λD=>[Q6,q]) (atN 5 (ctl1 i71p13)) 25 [0] [] [] [.ptr 0 5 0] (qBh k j l g.2.1 m g.2.2) trivial (λ_=>trivial) λD b9=>?_
    refine oA (λ(I:Bool) => .bool I) (atN 6 (ctl1 i71p13)) 26 [n44 D] (qDy k D) λI c0=>?_
    refine oN (λ(o:Ri65) => .str o.1) (λo=>[⟨[.str j,w44 l,.i o.2.1,.i m,.bool o.2.2],5,false⟩,q]) (atN 7 (ctl1 i71p13)) 27 [0] [] [] [.ptr 0 5 0,.bool I] (qC6 k I j l g.2.1 m g.2.2) trivial (λ_=>trivial) λo c1=>?_
    let Q7:Blk:=⟨[.str j,w44 l,.i o.2.1,.i m,.bool o.2.2],5,false⟩
    refine oC (λ(J:LN)=>(.str J,(mkH [Q7,q]))) (atN 8 (ctl1 i71p13)) 28 (catH Kr) λJ c2=>?_
    refine oLH 3 i71p11 [(0,.ptr 0 5 0),(2,.ptr 1 7 0),(3,.str J)] (mkH [Q7,q]) ?_
    exact O (J,o.2.1,o.2.2)
   ·refine oLH 3 i71p11 [(0,.ptr 0 5 0),(2,.ptr 1 7 0),(3,.str a.1)] (mkH [Q3,q]) ?_
    exact O (a.1,a.2.1,a.2.2)
 ·let U:Blk:=⟨[.i 17,.str [],.nils,.bool false,.bool false,.nils,.nils],7,false⟩
  refine oH 11 i71p7 ((4,.ptr 2 7 0)::(40,.agg [.i 17,.str [],.nils,.bool false,.bool false,.nils,.nils])::(11,.bool false)::(11,.bool (!n))::(10,.bool n)::S) (mkH [Q,q,U]) ?_
  refine qBu [Q,q,U] Kr ?_
  let Q9:Blk:=⟨(([]:List S28)).flatMap e29,0,false⟩
  refine oHp (mkH [Q,q,U,Q9]) ?_
  refine qAw [Q,q,U,Q9] 2 7 [.i 17,.str [],.nils,.bool false,.bool false,.nils,.nils] [.i 17,.str [],.own 3 (([]:List S28)).length 7,.bool false,.bool false,.nils,.nils] Kr rfl (.cons (.cons (.none (.refl)))) ?_
  refine oHp (mkH [Q,q,⟨[.i 17,.str [],.own 3 (([]:List S28)).length 7,.bool false,.bool false,.nils,.nils],7,false⟩,Q9]) ?_
  refine oK [0,2,4] [(0,.ptr 0 5 0),(2,.ptr 1 7 0),(4,.ptr 2 7 0)] ?_
  exact (qKo k F hF j l K m L k) b.2.1 b.2.2 ([]:List S28)
theorem i71B_ok (k:Nat) (F:Fns1) (a:FnsOk1 F):Pi71 (i71B k F):=λb c g j l=>λx h=>i71B_all k F a b c g j l x h
def i73c0:List S28:=[(⟨(23:Int),([]:LN),⟨(([]:List S28)).length,(([]:List S28)).flatMap e29⟩,false,false,([]:LL),([]:LL)⟩:S28)]
def i73p1:Pt:=nav [0,0,0] (nav [0] (bodyAt Tryz.f123))
def i73p2:Pt:=nav [0,0,0,0,0] i73p1
def i73p4:Pt:=nav [0,0] (nav [0,0,0] i73p2)
def i73p5:Pt:=nav [1,0,0,0] i73p4
def i73p6:Pt:=nav [2,0,0] i73p4
def i73p7:Pt:=nav [0,0,0] i73p5
def i73p9:Pt:=nav [0,0,0] i73p7
def i73p10:Pt:=nav [0,0,0] i73p9
def i73p11:Pt:=nav [0,0,0] i73p10
def i73p12:Pt:=nav [0,0,0,0] i73p11
def i73p13:Pt:=nav [0,0] i73p12
def i73p14:Pt:=nav [2,0] i73p13
def qH4 (k:Nat) (F:Fns1)  (n:LN) (o:List S43) (q:Int) (ih:Int→Bool→(List S28)→Option Ri73):Int→Bool→(List S28)→Option Ri73 :=
 λ(g:Int) (b:Bool) (h:List S28)=>jn (λ(u:Int×Bool×(List S28))=>some (u.2.2,u.1,u.2.1)) (λx=>if (!b) then ((i32 k n o g q b).bind λj=>(F.i52 n o j.2 q b).bind λc=>(F.i53 (22:Int) ([]:LN) false false ([]:LL) ([]:LL) c.1 n o c.2.1 q c.2.2 i73c0).bind λa=>(appS 104 h ([(⟨a.1,a.2.1,⟨(a.2.2.2.2.2.2.2.2).length,(a.2.2.2.2.2.2.2.2).flatMap e29⟩,a.2.2.1,a.2.2.2.1,j.1,a.2.2.2.2.2.1⟩:S28)]:List S28)).bind λl=>(i33 k ([59]:LN) n o a.2.2.2.2.2.2.2.1 q a.2.2.2.2.2.2.1).bind λr=>if (!r) then (x (a.2.2.2.2.2.2.2.1,a.2.2.2.2.2.2.1,l)) else ((i29 k n o a.2.2.2.2.2.2.2.1 q a.2.2.2.2.2.2.1).bind λm=>ih m.2.1 m.2.2 l)) else (x (g,b,h)))
def qMb (k:Nat) (F:Fns1)  (a:LN) (b:List S43) (c:Int) (n:Nat):Int→Bool→(List S28)→Option Ri73:=lp (λ_ _ _=>none) (qH4 k F a b c) n
theorem qMa (k:Nat) (F:Fns1) (V:FnsOk1 F) (r:LN) (u:List S43) (a2:Int) (x:Int) (a4:Bool)    : ∀ (n:Nat) (o:Int) (j:Bool) (c:List S28),Ok (Xi73 r u a2 x a4) i73p2 [(0,.ptr 0 5 0),(3,.own 1 (c).length 7)] (mkH [⟨[.str r,w44 u,.i o,.i x,.bool j],5,false⟩,⟨(c).flatMap e29,0,false⟩]) (qMb k F r u x n o j c):=by
 intro n
 induction n with
 | zero=>intro o j c; exact ok_none
 | succ n ih =>
  intro o j c
  show Ok _ _ _ _ (qH4 k F r u x (qMb k F r u x n) o j c)
  unfold qH4
  refine qAd (p':=nav [0] i73p2) Kr ?_
  let W:Env:=[(11,.bool (!j)),(10,.bool j),(9,.ptr 0 5 4),(8,.ptr 0 5 0),(7,.ptr 0 5 0),(0,.ptr 0 5 0),(3,.own 1 (c).length 7)]
  let K:Blk:=⟨[.str r,w44 u,.i o,.i x,.bool j],5,false⟩
  let z:Blk:=⟨(c).flatMap e29,0,false⟩
  refine oH 9 i73p4 W (mkH [K,z]) ?_
  refine oJ i73p6 (λ(B:Int×Bool×(List S28))=>[(3,.own 1 (B.2.2).length 7)]) (λ(B:Int×Bool×(List S28))=>(mkH [⟨[.str r,w44 u,.i B.1,.i x,.bool B.2.1],5,false⟩,⟨(B.2.2).flatMap e29,0,false⟩])) (λB=>?_) (λj7 G=>?_)
  ·exact oQF 5 [⟨[.str r,w44 u,.i B.1,.i x,.bool B.2.1],5,false⟩,⟨(B.2.2).flatMap e29,0,false⟩] 1 [] [.own 1 (B.2.2).length 7] (w29 B.2.2) (qAl qA2 qAf rfl rfl rfl .ps) trivial
  ·refine oS 11 (λL=>?_) (λL=>?_)
   ·refine oH 6 (atN 1 (ctl1 i73p5)) ((12,.ptr 0 5 0)::(11,.bool true)::W) (mkH [K,z]) ?_
    refine oN (λ(g:Ri32)=>w9 g.1) (λg=>[⟨[.str r,w44 u,.i g.2,.i x,.bool j],5,false⟩,z]) (atN 2 (ctl1 i73p5)) 13 [0] [] [] [.ptr 0 5 0] (qBp k r u o x j) trivial (λ_=>trivial) λg M=>?_
    refine oL 3 i73p7 [(0,.ptr 0 5 0),(3,.own 1 (c).length 7),(4,w9 g.1)] ?_
    let Y:Env:=[(0,.ptr 0 5 0),(3,.own 1 (c).length 7),(4,w9 g.1)]
    refine oR 2 (atN 1 (ctl1 i73p7)) ((14,.ptr 0 5 0)::Y) ?_
    refine oN (λ(b:Ri52)=>n29 b.1) (λb=>[⟨[.str r,w44 u,.i b.2.1,.i x,.bool b.2.2],5,false⟩,z]) (atN 2 (ctl1 i73p7)) 15 [0] [] [] [.ptr 0 5 0] (V.i52_ok r u g.2 x j) trivial (λ_=>trivial) λb N=>?_
    let J:Env:=((18,.slice 3 7 0 1 7)::(17,.agg [.i 23,.str [],.nils,.bool false,.bool false,.nils,.nils])::(16,.ptr 0 5 0)::(5,.ptr 2 7 0)::(15,n29 b.1)::(14,.ptr 0 5 0)::Y)
    let I:Blk:=⟨[.str r,w44 u,.i b.2.1,.i x,.bool b.2.2],5,false⟩
    let Z:Blk:=⟨[.i 23,.str [],.nils,.bool false,.bool false,.nils,.nils],0,false⟩
    refine oH 8 (atN 3 (ctl1 i73p9)) J (mkH [I,z,⟨e29 b.1,7,false⟩,Z]) ?_
    refine qAw [I,z,⟨e29 b.1,7,false⟩,Z] 3 0 [.i 23,.str [],.nils,.bool false,.bool false,.nils,.nils] [.i 23,.str [],w29 ([]:List S28),.bool false,.bool false,w9 ([]:LL),w9 ([]:LL)] Kr rfl (.cons (.cons (.nil (.cons (.cons (.nil (.nil (.refl)))))))) ?_
    refine oHp (mkH [I,z,⟨e29 b.1,7,false⟩,⟨[.i 23,.str [],w29 ([]:List S28),.bool false,.bool false,w9 ([]:LL),w9 ([]:LL)],0,false⟩]) ?_
    refine qAz 18 3 7 1 7 Kr rfl ?_
    let Q5:Blk:=⟨(i73c0).flatMap e29,0,false⟩
    refine oH 2 (atN 5 (ctl1 i73p9)) ((20,n29 b.1)::(19,.agg [.i 22,.str [],.own 3 (i73c0).length 7,.bool false,.bool false,.nils,.nils])::(18,.own 3 (i73c0).length 7)::J) (mkH [I,z,⟨e29 b.1,7,false⟩,Q5]) ?_
    refine qAg (λ(a:Ri53) => .agg [.i a.1,.str a.2.1,.own 3 (a.2.2.2.2.2.2.2.2).length 7,.bool a.2.2.1,.bool a.2.2.2.1,w9 a.2.2.2.2.1,w9 a.2.2.2.2.2.1]) (λ(a:Ri53)=>(mkH [⟨[.str r,w44 u,.i a.2.2.2.2.2.2.2.1,.i x,.bool a.2.2.2.2.2.2.1],5,false⟩,z,⟨e29 b.1,7,false⟩,⟨(a.2.2.2.2.2.2.2.2).flatMap e29,0,false⟩])) (atN 6 (ctl1 i73p9)) (λa=>((21,.agg [.i a.1,.str a.2.1,.own 3 (a.2.2.2.2.2.2.2.2).length 7,.bool a.2.2.1,.bool a.2.2.2.1,w9 a.2.2.2.2.1,w9 a.2.2.2.2.2.1])::(20,n29 b.1)::(19,.agg [.i 22,.str [],.own 3 (i73c0).length 7,.bool false,.bool false,.nils,.nils])::(18,.own 3 (i73c0).length 7)::J)) (fi:=96) (args:=[.ptr 0 5 0,.agg [.i 22,.str [],.own 3 (i73c0).length 7,.bool false,.bool false,.nils,.nils],n29 b.1]) Kr (λa h=>frW 0 [I,z,⟨e29 b.1,7,false⟩,Q5] (rs:=[0,3]) (ms:=[0,1]) (ms':=[0,1]) (mv:=[0,1,0,1]) (xs':=[.ptr 0 5 0,.agg [.i 22,.str [],.own 3 (i73c0).length 7,.bool false,.bool false,w9 ([]:LL),w9 ([]:LL)],n29 b.1]) (.cons (.agg (.cons (.cons (.cons (.cons (.cons (.nil (.nil (.refl)))))))) (.refl))) (V.i53_ok (22:Int) ([]:LN) false false ([]:LL) ([]:LL) b.1 r u b.2.1 x b.2.2 i73c0 a h) ⟨u29 _,trivial⟩ ⟨u29 _,trivial⟩ Kr) (λ_=>by kernel_rfl) (λa O=>?_)
    let D:Blk:=⟨[.str r,w44 u,.i a.2.2.2.2.2.2.2.1,.i x,.bool a.2.2.2.2.2.2.1],5,false⟩
    let Q7:Blk:=⟨(a.2.2.2.2.2.2.2.2).flatMap e29,0,false⟩
    let Q8:Blk:=⟨[.i a.1,.str a.2.1,.own 3 (a.2.2.2.2.2.2.2.2).length 7,.bool a.2.2.1,.bool a.2.2.2.1,w9 a.2.2.2.2.1,w9 a.2.2.2.2.2.1],7,false⟩
    refine oH 4 i73p10 ((6,.ptr 4 7 0)::(21,.agg [.i a.1,.str a.2.1,.own 3 (a.2.2.2.2.2.2.2.2).length 7,.bool a.2.2.1,.bool a.2.2.2.1,w9 a.2.2.2.2.1,w9 a.2.2.2.2.2.1])::(20,n29 b.1)::(19,.agg [.i 22,.str [],.own 3 (i73c0).length 7,.bool false,.bool false,.nils,.nils])::(18,.own 3 (i73c0).length 7)::J) (mkH [D,z,⟨e29 b.1,7,false⟩,Q7,Q8]) ?_
    refine qB1 [D,z,⟨e29 b.1,7,false⟩,Q7,Q8] [D,z,⟨e29 b.1,7,false⟩,⟨[],0,false⟩,⟨[.i a.1,.str a.2.1,w29 a.2.2.2.2.2.2.2.2,.bool a.2.2.1,.bool a.2.2.2.1,w9 a.2.2.2.2.1,w9 a.2.2.2.2.2.1],7,false⟩] 3 (a.2.2.2.2.2.2.2.2).length 7 0 ((a.2.2.2.2.2.2.2.2).flatMap e29) [0,3,4,6] (env0:=[(0,.ptr 0 5 0),(3,.own 1 (c).length 7),(4,w9 g.1),(6,.ptr 4 7 0)]) (eE:=[(0,.ptr 0 5 0),(3,.own 1 (c).length 7),(4,w9 g.1),(6,.ptr 4 7 0)]) Kr rfl rfl (qA9 qA2 _) (Nat.zero_le _) (u29 _) Kr ⟨⟨rfl,.refl Kr⟩,⟨⟨rfl,.refl Kr⟩,⟨⟨rfl,.refl Kr⟩,⟨⟨rfl,.refl Kr⟩,trivial⟩⟩⟩⟩ ⟨.inr ⟨rfl,rfl,rfl,.refl Kr⟩,⟨.inr ⟨rfl,rfl,rfl,.refl (qAn _ (u29 _))⟩,⟨.inr ⟨rfl,rfl,rfl,.refl Kr⟩,⟨.inl ⟨rfl,rfl⟩,⟨.inr ⟨rfl,rfl,rfl,.cons Kr (.cons Kr (.own (.refl Kr)))⟩,trivial⟩⟩⟩⟩⟩ ?_
    let E:Blk:=⟨[.i a.1,.str a.2.1,w29 a.2.2.2.2.2.2.2.2,.bool a.2.2.1,.bool a.2.2.2.1,w9 g.1,w9 a.2.2.2.2.2.1],7,false⟩
    let A:Blk:=⟨[.i a.1,.str a.2.1,w29 a.2.2.2.2.2.2.2.2,.bool a.2.2.1,.bool a.2.2.2.1,w9 g.1,w9 a.2.2.2.2.2.1],0,false⟩
    let K1:List Blk:=[D,z,⟨e29 b.1,7,false⟩,⟨[],0,false⟩,E,A]
    refine oH 10 (atN 3 (ctl1 i73p11)) [(26,.slice 5 7 0 1 7),(25,.agg [.i a.1,.str a.2.1,w29 a.2.2.2.2.2.2.2.2,.bool a.2.2.1,.bool a.2.2.2.1,w9 g.1,w9 a.2.2.2.2.2.1]),(24,.own 1 (c).length 7),(23,.ptr 4 7 5),(22,w9 g.1),(0,.ptr 0 5 0),(3,.own 1 (c).length 7),(4,w9 g.1),(6,.ptr 4 7 0)] (mkH K1) ?_
    refine oC (λ(l:List S28)=>(.own 1 (l).length 7,(mkH [D,⟨(l).flatMap e29,0,false⟩,⟨e29 b.1,7,false⟩,⟨[],0,false⟩,E,A]))) (atN 4 (ctl1 i73p11)) 27 (appH (sz:=7) qA2 rfl qAh K1 1 104 c ([(⟨a.1,a.2.1,⟨(a.2.2.2.2.2.2.2.2).length,(a.2.2.2.2.2.2.2.2).flatMap e29⟩,a.2.2.1,a.2.2.2.1,g.1,a.2.2.2.2.2.1⟩:S28)]:List S28) rfl rfl Kr) λl Q=>?_
    let C:Blk:=⟨(l).flatMap e29,0,false⟩
    let K2:List Blk:=[D,C,⟨e29 b.1,7,false⟩,⟨[],0,false⟩,E,A]
    refine oLH 4 i73p12 [(0,.ptr 0 5 0),(3,.own 1 (l).length 7)] (mkH K2) ?_
    let S:Env:=[(0,.ptr 0 5 0),(3,.own 1 (l).length 7)]
    refine oR 2 (atN 1 (ctl1 i73p12)) ((28,.ptr 0 5 0)::S) ?_
    refine oN (λ(q:Bool) => .bool q) (λq=>K2) (atN 2 (ctl1 i73p12)) 29 [0] [] [] [.ptr 0 5 0,.str [59]] (qAi k ([59]:LN) r u a.2.2.2.2.2.2.2.1 x a.2.2.2.2.2.2.1) trivial (λ_=>trivial) λq T=>?_
    refine oR 2 i73p13 ((30,.bool (!q))::(29,.bool q)::(28,.ptr 0 5 0)::S) ?_
    refine oS 30 (λL=>?_) (λL=>?_)
    ·refine oL 3 i73p6 [(3,.own 1 (l).length 7)] ?_
     refine qA8 [D,C] [⟨e29 b.1,7,false⟩,⟨[],0,false⟩,E,A] Kr rfl Kr ⟨Kr,⟨(qA _ (u29 _)),trivial⟩⟩ ?_
     exact G (a.2.2.2.2.2.2.2.1,a.2.2.2.2.2.2.1,l)
    ·refine oR 4 (atN 1 (ctl1 i73p14)) ((31,.ptr 0 5 0)::(30,.bool false)::(30,.bool (!q))::(29,.bool q)::(28,.ptr 0 5 0)::S) ?_
     refine oN (λ(m:Ri29) => .i m.1) (λm=>[⟨[.str r,w44 u,.i m.2.1,.i x,.bool m.2.2],5,false⟩,C,⟨e29 b.1,7,false⟩,⟨[],0,false⟩,E,A]) (atN 2 (ctl1 i73p14)) 32 [0] [] [] [.ptr 0 5 0] (qAk k r u a.2.2.2.2.2.2.2.1 x a.2.2.2.2.2.2.1) trivial (λ_=>trivial) λm U=>?_
     refine oL 1 i73p2 [(0,.ptr 0 5 0),(3,.own 1 (l).length 7)] ?_
     refine qA8 [⟨[.str r,w44 u,.i m.2.1,.i x,.bool m.2.2],5,false⟩,C] [⟨e29 b.1,7,false⟩,⟨[],0,false⟩,E,A] Kr rfl Kr ⟨Kr,⟨(qA _ (u29 _)),trivial⟩⟩ ?_
     exact ih m.2.1 m.2.2 l
   ·refine oLH 3 i73p6 [(3,.own 1 (c).length 7)] (mkH [K,z]) ?_
    exact G (o,j,c)
def i73B (k:Nat) (F:Fns1) (a:LN) (b:List S43) (c:Int) (g:Int) (h:Bool):Option Ri73 :=
 qMb k F a b g k c h ([]:List S28)
theorem i73B_all (k:Nat) (F:Fns1) (m:FnsOk1 F):∀ c g a j b r,i73B k F c g a j b=some r→CallT Tryz.prog 123 [.ptr 0 5 0] (mkH [⟨[.str c,w44 g,.i a,.i j,.bool b],5,false⟩]) ((Xi73 c g a j b).thr r) ((Xi73 c g a j b).enc r) ((Xi73 c g a j b).fin r):=by
 intro c g a j b r h
 refine qA0 (Xi73 c g a j b) Tryz.func123 Kr Kr rfl (t:=i73B k F c g a j b) ?_ h
 unfold i73B
 refine qA1 (eE:=[(0,.ptr 0 5 0)]) Kr ?_
 let l:Blk:=⟨[.str c,w44 g,.i a,.i j,.bool b],5,false⟩
 refine oH 7 (atN 1 (ctl1 i73p1)) [(3,.nils),(2,.nils),(0,.ptr 0 5 0)] (mkH [l]) ?_
 refine qCn [l] 3 7 rfl Kr ?_
 refine oLH 4 i73p2 [(0,.ptr 0 5 0),(3,.own 1 (([]:List S28)).length 7)] (mkH [l,⟨(([]:List S28)).flatMap e29,0,false⟩]) ?_
 exact (qMa k F m c g a j b k) a b ([]:List S28)
theorem i73B_ok (k:Nat) (F:Fns1) (a:FnsOk1 F):Pi73 (i73B k F):=λb c g j l=>λx h=>i73B_all k F a b c g j l x h
def i74c0:LN:=[97,102,116,101,114]
def i74p1:Pt:=nav [0,0,0] (nav [0] (bodyAt Tryz.f124))
def i74p3:Pt:=nav [0,0,0,0] (nav [0,0,0] i74p1)
def i74p4:Pt:=nav [0,0] i74p3
def i74p5:Pt:=nav [1] i74p4
def i74p6:Pt:=nav [2,0,0,0] i74p4
def i74p7:Pt:=nav [0,0] i74p6
def i74p8:Pt:=nav [1,0] i74p7
def i74p9:Pt:=nav [2,0,0] i74p7
def i74p10:Pt:=nav [0,0,0] i74p8
def i74p12:Pt:=nav [0,0,0] i74p10
def i74p13:Pt:=nav [0,0,0] i74p12
def i74p14:Pt:=nav [0,0,0] i74p13
def i74p15:Pt:=nav [0,0] i74p14
def i74B (k:Nat) (F:Fns1) (j:LN) (l:List S43) (x:Int) (m:Int) (z:Bool):Option Ri74 :=
 (i29 k j l x m z).bind λc=>(i28 k i74c0 j l c.2.1 m c.2.2).bind λu=>if (!u) then ((F.i84 j l c.2.1 m c.2.2).bind λg=>(i28 k i74c0 j l g.1 m g.2.1).bind λr=>if r then ((i32 k j l g.1 m g.2.1).bind λn=>(i29 k j l n.2 m g.2.1).bind λo=>(F.i20 (1:Int) j l o.2.1 m o.2.2).bind λh=>(F.i53 (22:Int) ([]:LN) false false ([]:LL) ([]:LL) (⟨24,([]:LN),(⟨(([]:List S28)).length,(([]:List S28)).flatMap e29⟩:Raw),false,false,([]:LL),([]:LL)⟩:S28) j l h.2.1 m h.2.2 ([(⟨(23:Int),([]:LN),⟨(([h.1]:List S28)).length,(([h.1]:List S28)).flatMap e29⟩,false,false,([]:LL),([]:LL)⟩:S28)]:List S28)).bind λa=>(appS 104 g.2.2 ([(⟨a.1,a.2.1,⟨(a.2.2.2.2.2.2.2.2).length,(a.2.2.2.2.2.2.2.2).flatMap e29⟩,a.2.2.1,a.2.2.2.1,n.1,a.2.2.2.2.2.1⟩:S28)]:List S28)).bind λq=>(i72 k (⟨20,i74c0,(⟨(q).length,(q).flatMap e29⟩:Raw),false,false,([]:LL),([]:LL)⟩:S28) j l a.2.2.2.2.2.2.2.1 m a.2.2.2.2.2.2.1).bind λb=>some (b.1,b.2.1,b.2.2)) else ((i72 k (⟨20,([]:LN),(⟨(g.2.2).length,(g.2.2).flatMap e29⟩:Raw),false,false,([]:LL),([]:LL)⟩:S28) j l g.1 m g.2.1).bind λb=>some (b.1,b.2.1,b.2.2))) else ((i28 k i74c0 j l c.2.1 m c.2.2).bind λr=>if r then ((i32 k j l c.2.1 m c.2.2).bind λn=>(i29 k j l n.2 m c.2.2).bind λo=>(F.i20 (1:Int) j l o.2.1 m o.2.2).bind λh=>(F.i53 (22:Int) ([]:LN) false false ([]:LL) ([]:LL) (⟨24,([]:LN),(⟨(([]:List S28)).length,(([]:List S28)).flatMap e29⟩:Raw),false,false,([]:LL),([]:LL)⟩:S28) j l h.2.1 m h.2.2 ([(⟨(23:Int),([]:LN),⟨(([h.1]:List S28)).length,(([h.1]:List S28)).flatMap e29⟩,false,false,([]:LL),([]:LL)⟩:S28)]:List S28)).bind λa=>(appS 104 ([]:List S28) ([(⟨a.1,a.2.1,⟨(a.2.2.2.2.2.2.2.2).length,(a.2.2.2.2.2.2.2.2).flatMap e29⟩,a.2.2.1,a.2.2.2.1,n.1,a.2.2.2.2.2.1⟩:S28)]:List S28)).bind λq=>(i72 k (⟨20,i74c0,(⟨(q).length,(q).flatMap e29⟩:Raw),false,false,([]:LL),([]:LL)⟩:S28) j l a.2.2.2.2.2.2.2.1 m a.2.2.2.2.2.2.1).bind λb=>some (b.1,b.2.1,b.2.2)) else ((i72 k (⟨20,([]:LN),(⟨(([]:List S28)).length,(([]:List S28)).flatMap e29⟩:Raw),false,false,([]:LL),([]:LL)⟩:S28) j l c.2.1 m c.2.2).bind λb=>some (b.1,b.2.1,b.2.2)))
theorem i74B_all (k:Nat) (F:Fns1) (hF:FnsOk1 F):∀ q u T x U r,i74B k F q u T x U=some r→CallT Tryz.prog 124 [.ptr 0 5 0] (mkH [⟨[.str q,w44 u,.i T,.i x,.bool U],5,false⟩]) ((Xi74 q u T x U).thr r) ((Xi74 q u T x U).enc r) ((Xi74 q u T x U).fin r):=by
 intro q u T x U r h
 refine qA0 (Xi74 q u T x U) Tryz.func124 Kr Kr rfl (t:=i74B k F q u T x U) ?_ h
 unfold i74B
 refine qA1 (eE:=[(0,.ptr 0 5 0)]) Kr ?_
 let n:Blk:=⟨[.i 0,.str [],.nils,.bool false,.bool false,.nils,.nils],0,false⟩
 refine oH 7 (atN 1 (ctl1 i74p1)) [(7,.ptr 0 5 0),(2,.ptr 1 7 0),(0,.ptr 0 5 0)] (mkH [⟨[.str q,w44 u,.i T,.i x,.bool U],5,false⟩,n]) ?_
 refine oN (λ(m:Ri29) => .i m.1) (λm=>[⟨[.str q,w44 u,.i m.2.1,.i x,.bool m.2.2],5,false⟩,n]) (atN 2 (ctl1 i74p1)) 8 [0] [] [] [.ptr 0 5 0] (qAk k q u T x U) trivial (λ_=>trivial) λm d1=>?_
 let E1:Env:=[(3,.ptr 2 7 0),(9,.agg [.i 20,.str [],.nils,.bool false,.bool false,.nils,.nils]),(8,.i m.1),(7,.ptr 0 5 0),(2,.ptr 1 7 0),(0,.ptr 0 5 0)]
 let V:Blk:=⟨[.str q,w44 u,.i m.2.1,.i x,.bool m.2.2],5,false⟩
 let Q3:Blk:=⟨[.i 20,.str [],.nils,.bool false,.bool false,.nils,.nils],7,false⟩
 refine oH 9 i74p3 E1 (mkH [V,n,Q3]) ?_
 refine qBu [V,n,Q3] Kr ?_
 let z:Blk:=⟨(([]:List S28)).flatMap e29,0,false⟩
 refine oHp (mkH [V,n,Q3,z]) ?_
 refine qAw [V,n,Q3,z] 2 7 [.i 20,.str [],.nils,.bool false,.bool false,.nils,.nils] [.i 20,.str [],.own 3 (([]:List S28)).length 7,.bool false,.bool false,.nils,.nils] Kr rfl (.cons (.cons (.none (.refl)))) ?_
 let E:Blk:=⟨[.i 20,.str [],.own 3 (([]:List S28)).length 7,.bool false,.bool false,.nils,.nils],7,false⟩
 refine oH 2 (atN 1 (ctl1 i74p3)) ((10,.ptr 0 5 0)::E1) (mkH [V,n,E,z]) ?_
 refine oN (λ(C:Bool) => .bool C) (λC=>[V,n,E,z]) (atN 2 (ctl1 i74p3)) 11 [0] [] [] [.ptr 0 5 0,.str i74c0] (qCo k i74c0 q u m.2.1 x m.2.2) trivial (λ_=>trivial) λC d2=>?_
 refine oR 2 i74p4 ((12,.bool (!C))::(11,.bool C)::(10,.ptr 0 5 0)::E1) ?_
 refine oS 12 (λhb=>?_) (λhb=>?_)
 ·refine oR 3 (atN 1 (ctl1 i74p5)) ((13,.ptr 0 5 0)::(12,.bool true)::(12,.bool (!C))::(11,.bool C)::(10,.ptr 0 5 0)::E1) ?_
  refine oN (λ(l:Ri84) => .own 4 (l.2.2).length 7) (λl=>[⟨[.str q,w44 u,.i l.1,.i x,.bool l.2.1],5,false⟩,n,E,z,⟨(l.2.2).flatMap e29,0,false⟩]) (atN 2 (ctl1 i74p5)) 14 [0,4] [] [0,1] [.ptr 0 5 0] (hF.i84_ok q u m.2.1 x m.2.2) trivial (λ_=>⟨u29 _,trivial⟩) λl d3=>?_
  let Q6:Blk:=⟨[.str q,w44 u,.i l.1,.i x,.bool l.2.1],5,false⟩
  let G:Blk:=⟨[.i 20,.str [],.own 4 (l.2.2).length 7,.bool false,.bool false,.nils,.nils],7,false⟩
  let I:Blk:=⟨(l.2.2).flatMap e29,0,false⟩
  refine oLH 5 i74p6 [(0,.ptr 0 5 0),(2,.ptr 1 7 0),(3,.ptr 2 7 0)] (mkH [Q6,n,G,z,I]) ?_
  let E3:Env:=[(0,.ptr 0 5 0),(2,.ptr 1 7 0),(3,.ptr 2 7 0)]
  refine oR 2 (atN 1 (ctl1 i74p6)) ((16,.ptr 0 5 0)::E3) ?_
  refine oN (λ(A:Bool) => .bool A) (λA=>[Q6,n,G,z,I]) (atN 2 (ctl1 i74p6)) 17 [0] [] [] [.ptr 0 5 0,.str i74c0] (qCo k i74c0 q u l.1 x l.2.1) trivial (λ_=>trivial) λA Z=>?_
  refine oR 1 i74p7 ((17,.bool A)::(16,.ptr 0 5 0)::E3) ?_
  refine oS 17 (λhb=>?_) (λhb=>?_)
  ·refine oR 4 (atN 1 (ctl1 i74p8)) ((18,.ptr 0 5 0)::(17,.bool true)::(17,.bool A)::(16,.ptr 0 5 0)::E3) ?_
   refine oN (λ(g:Ri32)=>w9 g.1) (λg=>[⟨[.str q,w44 u,.i g.2,.i x,.bool l.2.1],5,false⟩,n,G,z,I]) (atN 2 (ctl1 i74p8)) 19 [0] [] [] [.ptr 0 5 0] (qBp k q u l.1 x l.2.1) trivial (λ_=>trivial) λg a5=>?_
   refine oR 5 (atN 1 (ctl1 i74p10)) ((20,.ptr 0 5 0)::(4,w9 g.1)::(19,w9 g.1)::(18,.ptr 0 5 0)::(17,.bool true)::(17,.bool A)::(16,.ptr 0 5 0)::E3) ?_
   refine oN (λ(o:Ri29) => .i o.1) (λo=>[⟨[.str q,w44 u,.i o.2.1,.i x,.bool o.2.2],5,false⟩,n,G,z,I]) (atN 2 (ctl1 i74p10)) 21 [0] [] [] [.ptr 0 5 0] (qAk k q u g.2 x l.2.1) trivial (λ_=>trivial) λo a6=>?_
   let E5:Env:=[(0,.ptr 0 5 0),(2,.ptr 1 7 0),(3,.ptr 2 7 0),(4,w9 g.1)]
   refine oL 2 i74p12 E5 ?_
   refine oR 2 (atN 1 (ctl1 i74p12)) ((22,.ptr 0 5 0)::E5) ?_
   refine oN (λ(b:Ri20)=>n29 b.1) (λb=>[⟨[.str q,w44 u,.i b.2.1,.i x,.bool b.2.2],5,false⟩,n,G,z,I]) (atN 2 (ctl1 i74p12)) 23 [0] [] [] [.ptr 0 5 0,.i 1] (hF.i20_ok (1:Int) q u o.2.1 x o.2.2) trivial (λ_=>trivial) λb a7=>?_
   let Q9:Blk:=⟨[.str q,w44 u,.i b.2.1,.i x,.bool b.2.2],5,false⟩
   refine oH 1 (atN 3 (ctl1 i74p12)) ((24,.slice 5 7 0 1 7)::(23,n29 b.1)::(22,.ptr 0 5 0)::E5) (mkH [Q9,n,G,z,I,⟨e29 b.1,0,false⟩]) ?_
   refine oZ 24 5 1 7 [.i b.1.f0,.str b.1.f1,q29 b.1.f2,.bool b.1.f3,.bool b.1.f4,w9 b.1.f5,w9 b.1.f6] [0,2,3,4,22,23] [0,0,0,1,1] ⟨u29 _,u29 _,trivial⟩ ?_
   let E6:Env:=[(28,.slice 7 7 0 1 7),(27,.agg [.i 23,.str [],w29 ([b.1]:List S28),.bool false,.bool false,.nils,.nils]),(26,.ptr 0 5 0),(5,.ptr 6 7 0),(25,.agg [.i 23,.str [],w29 ([b.1]:List S28),.bool false,.bool false,.nils,.nils]),(24,w29 ([b.1]:List S28)),(0,.ptr 0 5 0),(2,.ptr 1 7 0),(3,.ptr 2 7 0),(4,w9 g.1),(22,.ptr 0 5 0),(23,n29 b.1)]
   let D:Blk:=⟨[.i 23,.str [],w29 ([b.1]:List S28),.bool false,.bool false,.nils,.nils],7,false⟩
   let c3:Blk:=⟨[.i 23,.str [],w29 ([b.1]:List S28),.bool false,.bool false,.nils,.nils],0,false⟩
   refine oH 9 (atN 3 (ctl1 i74p13)) E6 (mkH [Q9,n,G,z,I,⟨[],0,false⟩,D,c3]) ?_
   refine qAw [Q9,n,G,z,I,⟨[],0,false⟩,D,c3] 7 0 [.i 23,.str [],w29 ([b.1]:List S28),.bool false,.bool false,.nils,.nils] [.i 23,.str [],w29 ([b.1]:List S28),.bool false,.bool false,w9 ([]:LL),w9 ([]:LL)] Kr rfl (.cons (.cons (.cons (.cons (.cons (.nil (.nil (.refl)))))))) ?_
   refine oHp (mkH [Q9,n,G,z,I,⟨[],0,false⟩,D,⟨[.i 23,.str [],w29 ([b.1]:List S28),.bool false,.bool false,w9 ([]:LL),w9 ([]:LL)],0,false⟩]) ?_
   refine qAz 28 7 7 1 7 Kr rfl ?_
   let c4:Blk:=⟨(([(⟨(23:Int),([]:LN),⟨(([b.1]:List S28)).length,(([b.1]:List S28)).flatMap e29⟩,false,false,([]:LL),([]:LL)⟩:S28)]:List S28)).flatMap e29,0,false⟩
   refine oH 2 (atN 5 (ctl1 i74p13)) ((30,.agg [.i 24,.str [],.nils,.bool false,.bool false,.nils,.nils])::(29,.agg [.i 22,.str [],.own 7 (([(⟨(23:Int),([]:LN),⟨(([b.1]:List S28)).length,(([b.1]:List S28)).flatMap e29⟩,false,false,([]:LL),([]:LL)⟩:S28)]:List S28)).length 7,.bool false,.bool false,.nils,.nils])::(28,.own 7 (([(⟨(23:Int),([]:LN),⟨(([b.1]:List S28)).length,(([b.1]:List S28)).flatMap e29⟩,false,false,([]:LL),([]:LL)⟩:S28)]:List S28)).length 7)::E6) (mkH [Q9,n,G,z,I,⟨[],0,false⟩,D,c4]) ?_
   refine qAg (λ(a:Ri53) => .agg [.i a.1,.str a.2.1,.own 7 (a.2.2.2.2.2.2.2.2).length 7,.bool a.2.2.1,.bool a.2.2.2.1,w9 a.2.2.2.2.1,w9 a.2.2.2.2.2.1]) (λ(a:Ri53)=>(mkH [⟨[.str q,w44 u,.i a.2.2.2.2.2.2.2.1,.i x,.bool a.2.2.2.2.2.2.1],5,false⟩,n,G,z,I,⟨[],0,false⟩,D,⟨(a.2.2.2.2.2.2.2.2).flatMap e29,0,false⟩])) (atN 6 (ctl1 i74p13)) (λa=>((31,.agg [.i a.1,.str a.2.1,.own 7 (a.2.2.2.2.2.2.2.2).length 7,.bool a.2.2.1,.bool a.2.2.2.1,w9 a.2.2.2.2.1,w9 a.2.2.2.2.2.1])::(30,.agg [.i 24,.str [],.nils,.bool false,.bool false,.nils,.nils])::(29,.agg [.i 22,.str [],.own 7 (([(⟨(23:Int),([]:LN),⟨(([b.1]:List S28)).length,(([b.1]:List S28)).flatMap e29⟩,false,false,([]:LL),([]:LL)⟩:S28)]:List S28)).length 7,.bool false,.bool false,.nils,.nils])::(28,.own 7 (([(⟨(23:Int),([]:LN),⟨(([b.1]:List S28)).length,(([b.1]:List S28)).flatMap e29⟩,false,false,([]:LL),([]:LL)⟩:S28)]:List S28)).length 7)::E6)) (fi:=96) (args:=[.ptr 0 5 0,.agg [.i 22,.str [],.own 7 (([(⟨(23:Int),([]:LN),⟨(([b.1]:List S28)).length,(([b.1]:List S28)).flatMap e29⟩,false,false,([]:LL),([]:LL)⟩:S28)]:List S28)).length 7,.bool false,.bool false,.nils,.nils],.agg [.i 24,.str [],.nils,.bool false,.bool false,.nils,.nils]]) Kr (λa h=>frW 0 [Q9,n,G,z,I,⟨[],0,false⟩,D,c4] (rs:=[0,7]) (ms:=[0,1]) (ms':=[0,1]) (mv:=[0,0,0,1,1,0,0,1]) (xs':=[.ptr 0 5 0,.agg [.i 22,.str [],.own 7 (([(⟨(23:Int),([]:LN),⟨(([b.1]:List S28)).length,(([b.1]:List S28)).flatMap e29⟩,false,false,([]:LL),([]:LL)⟩:S28)]:List S28)).length 7,.bool false,.bool false,w9 ([]:LL),w9 ([]:LL)],.agg [.i 24,.str [],w29 ([]:List S28),.bool false,.bool false,w9 ([]:LL),w9 ([]:LL)]]) (.cons (.agg (.cons (.cons (.cons (.cons (.cons (.nil (.nil (.refl)))))))) (.agg (.cons (.cons (.nil (.cons (.cons (.nil (.nil (.refl)))))))) (.refl)))) (hF.i53_ok (22:Int) ([]:LN) false false ([]:LL) ([]:LL) (⟨24,([]:LN),(⟨(([]:List S28)).length,(([]:List S28)).flatMap e29⟩:Raw),false,false,([]:LL),([]:LL)⟩:S28) q u b.2.1 x b.2.2 ([(⟨(23:Int),([]:LN),⟨(([b.1]:List S28)).length,(([b.1]:List S28)).flatMap e29⟩,false,false,([]:LL),([]:LL)⟩:S28)]:List S28) a h) ⟨u29 _,trivial⟩ ⟨u29 _,trivial⟩ Kr) (λ_=>by kernel_rfl) (λa a8=>?_)
   let M:Blk:=⟨[.str q,w44 u,.i a.2.2.2.2.2.2.2.1,.i x,.bool a.2.2.2.2.2.2.1],5,false⟩
   let K1:List Blk:=[M,n,G,z,I,⟨[],0,false⟩,D,⟨(a.2.2.2.2.2.2.2.2).flatMap e29,0,false⟩,⟨[.i a.1,.str a.2.1,.own 7 (a.2.2.2.2.2.2.2.2).length 7,.bool a.2.2.1,.bool a.2.2.2.1,w9 a.2.2.2.2.1,w9 a.2.2.2.2.2.1],7,false⟩]
   refine oH 4 i74p14 ((6,.ptr 8 7 0)::(31,.agg [.i a.1,.str a.2.1,.own 7 (a.2.2.2.2.2.2.2.2).length 7,.bool a.2.2.1,.bool a.2.2.2.1,w9 a.2.2.2.2.1,w9 a.2.2.2.2.2.1])::(30,.agg [.i 24,.str [],.nils,.bool false,.bool false,.nils,.nils])::(29,.agg [.i 22,.str [],.own 7 (([(⟨(23:Int),([]:LN),⟨(([b.1]:List S28)).length,(([b.1]:List S28)).flatMap e29⟩,false,false,([]:LL),([]:LL)⟩:S28)]:List S28)).length 7,.bool false,.bool false,.nils,.nils])::(28,.own 7 (([(⟨(23:Int),([]:LN),⟨(([b.1]:List S28)).length,(([b.1]:List S28)).flatMap e29⟩,false,false,([]:LL),([]:LL)⟩:S28)]:List S28)).length 7)::E6) (mkH K1) ?_
   refine qB1 K1 [M,n,G,z,I,⟨[],0,false⟩,D,⟨[],0,false⟩,⟨[.i a.1,.str a.2.1,w29 a.2.2.2.2.2.2.2.2,.bool a.2.2.1,.bool a.2.2.2.1,w9 a.2.2.2.2.1,w9 a.2.2.2.2.2.1],7,false⟩] 7 (a.2.2.2.2.2.2.2.2).length 7 0 ((a.2.2.2.2.2.2.2.2).flatMap e29) [0,2,3,4,6] (env0:=[(0,.ptr 0 5 0),(2,.ptr 1 7 0),(3,.ptr 2 7 0),(4,w9 g.1),(6,.ptr 8 7 0)]) (eE:=[(0,.ptr 0 5 0),(2,.ptr 1 7 0),(3,.ptr 2 7 0),(4,w9 g.1),(6,.ptr 8 7 0)]) Kr rfl rfl (qA9 qA2 _) (Nat.zero_le _) (u29 _) Kr ⟨⟨rfl,.refl Kr⟩,⟨⟨rfl,.refl Kr⟩,⟨⟨rfl,.refl Kr⟩,⟨⟨rfl,.refl Kr⟩,⟨⟨rfl,.refl Kr⟩,trivial⟩⟩⟩⟩⟩ ⟨.inr ⟨rfl,rfl,rfl,.refl Kr⟩,⟨.inr ⟨rfl,rfl,rfl,.refl Kr⟩,⟨.inr ⟨rfl,rfl,rfl,.refl Kr⟩,⟨.inr ⟨rfl,rfl,rfl,.refl (qAn _ (u29 _))⟩,⟨.inr ⟨rfl,rfl,rfl,.refl (qAn _ (u29 _))⟩,⟨.inr ⟨rfl,rfl,rfl,.refl Kr⟩,⟨.inr ⟨rfl,rfl,rfl,.refl Kr⟩,⟨.inl ⟨rfl,rfl⟩,⟨.inr ⟨rfl,rfl,rfl,.cons Kr (.cons Kr (.own (.refl Kr)))⟩,trivial⟩⟩⟩⟩⟩⟩⟩⟩⟩ ?_
   let N:Blk:=⟨[.i a.1,.str a.2.1,w29 a.2.2.2.2.2.2.2.2,.bool a.2.2.1,.bool a.2.2.2.1,w9 g.1,w9 a.2.2.2.2.2.1],7,false⟩
   let O:Blk:=⟨[.i a.1,.str a.2.1,w29 a.2.2.2.2.2.2.2.2,.bool a.2.2.1,.bool a.2.2.2.1,w9 g.1,w9 a.2.2.2.2.2.1],0,false⟩
   let K2:List Blk:=[M,n,G,z,I,⟨[],0,false⟩,D,⟨[],0,false⟩,N,O]
   refine oH 10 (atN 4 (ctl1 i74p15)) [(37,.slice 9 7 0 1 7),(36,.agg [.i a.1,.str a.2.1,w29 a.2.2.2.2.2.2.2.2,.bool a.2.2.1,.bool a.2.2.2.1,w9 g.1,w9 a.2.2.2.2.2.1]),(35,.own 4 (l.2.2).length 7),(34,.ptr 2 7 2),(33,.ptr 8 7 5),(32,w9 g.1),(0,.ptr 0 5 0),(2,.ptr 1 7 0),(3,.ptr 2 7 0),(4,w9 g.1),(6,.ptr 8 7 0)] (mkH K2) ?_
   refine oC (λ(j:List S28)=>(.own 4 (j).length 7,(mkH [M,n,G,z,⟨(j).flatMap e29,0,false⟩,⟨[],0,false⟩,D,⟨[],0,false⟩,N,O]))) (atN 5 (ctl1 i74p15)) 38 (appH (sz:=7) qA2 rfl qAh K2 4 104 l.2.2 ([(⟨a.1,a.2.1,⟨(a.2.2.2.2.2.2.2.2).length,(a.2.2.2.2.2.2.2.2).flatMap e29⟩,a.2.2.1,a.2.2.2.1,g.1,a.2.2.2.2.2.1⟩:S28)]:List S28) rfl rfl Kr) λj a9=>?_
   let K3:List Blk:=[M,n,⟨[.i 20,.str i74c0,.own 4 (j).length 7,.bool false,.bool false,.nils,.nils],7,false⟩,z,⟨(j).flatMap e29,0,false⟩,⟨[],0,false⟩,D,⟨[],0,false⟩,N,O]
   refine oLH 6 i74p9 [(0,.ptr 0 5 0),(2,.ptr 1 7 0),(3,.ptr 2 7 0)] (mkH K3) ?_
   refine oR 3 (atN 2 (ctl1 i74p9)) ((42,.agg [.i 20,.str i74c0,.own 4 (j).length 7,.bool false,.bool false,.nils,.nils])::(41,.ptr 0 5 0)::[(0,.ptr 0 5 0),(2,.ptr 1 7 0),(3,.ptr 2 7 0)]) ?_
   let b0:Blk:=⟨[.i 20,.str i74c0,w29 j,.bool false,.bool false,.nils,.nils],7,false⟩
   let K4:List Blk:=[M,n,b0,z,⟨[],0,false⟩,⟨[],0,false⟩,D,⟨[],0,false⟩,N,O]
   refine qB1 K3 K4 4 (j).length 7 0 ((j).flatMap e29) [0,2,3,41,42] (env0:=[(0,.ptr 0 5 0),(2,.ptr 1 7 0),(3,.ptr 2 7 0),(41,.ptr 0 5 0),(42,.agg [.i 20,.str i74c0,.own 4 (j).length 7,.bool false,.bool false,.nils,.nils])]) (eE:=[(0,.ptr 0 5 0),(2,.ptr 1 7 0),(3,.ptr 2 7 0),(41,.ptr 0 5 0),(42,.agg [.i 20,.str i74c0,w29 j,.bool false,.bool false,.nils,.nils])]) Kr rfl rfl (qA9 qA2 _) (Nat.zero_le _) (u29 _) Kr ⟨⟨rfl,.refl Kr⟩,⟨⟨rfl,.refl Kr⟩,⟨⟨rfl,.refl Kr⟩,⟨⟨rfl,.refl Kr⟩,⟨⟨rfl,.agg (.cons Kr (.cons Kr (.own (.refl Kr)))) (.refl Kr)⟩,trivial⟩⟩⟩⟩⟩ ⟨.inr ⟨rfl,rfl,rfl,.refl Kr⟩,⟨.inr ⟨rfl,rfl,rfl,.refl Kr⟩,⟨.inr ⟨rfl,rfl,rfl,.cons Kr (.cons Kr (.own (.refl Kr)))⟩,⟨.inr ⟨rfl,rfl,rfl,.refl (qAn _ (u29 _))⟩,⟨.inl ⟨rfl,rfl⟩,⟨.inr ⟨rfl,rfl,rfl,.refl Kr⟩,⟨.inr ⟨rfl,rfl,rfl,.refl Kr⟩,⟨.inr ⟨rfl,rfl,rfl,.refl Kr⟩,⟨.inr ⟨rfl,rfl,rfl,.refl Kr⟩,⟨.inr ⟨rfl,rfl,rfl,.refl Kr⟩,trivial⟩⟩⟩⟩⟩⟩⟩⟩⟩⟩ ?_
   refine qAg (λ(c:Ri72)=>n29 c.1) (λ(c:Ri72)=>(mkH [⟨[.str q,w44 u,.i c.2.1,.i x,.bool c.2.2],5,false⟩,n,b0,z,⟨[],0,false⟩,⟨[],0,false⟩,D,⟨[],0,false⟩,N,O])) (atN 3 (ctl1 i74p9)) (λc=>[(43,n29 c.1),(0,.ptr 0 5 0),(2,.ptr 1 7 0),(3,.ptr 2 7 0),(41,.ptr 0 5 0),(42,.agg [.i 20,.str i74c0,w29 j,.bool false,.bool false,.nils,.nils])]) (fi:=122) (args:=[.ptr 0 5 0,.agg [.i 20,.str i74c0,w29 j,.bool false,.bool false,.nils,.nils]]) Kr (λc h=>frW 0 K4 (rs:=[0]) (ms:=[]) (ms':=[]) (mv:=[0,0,0,1]) (xs':=[.ptr 0 5 0,.agg [.i 20,.str i74c0,w29 j,.bool false,.bool false,w9 ([]:LL),w9 ([]:LL)]]) (.cons (.agg (.cons (.cons (.cons (.cons (.cons (.nil (.nil (.refl)))))))) (.refl))) (qDa k (⟨20,i74c0,(⟨(j).length,(j).flatMap e29⟩:Raw),false,false,([]:LL),([]:LL)⟩:S28) q u a.2.2.2.2.2.2.2.1 x a.2.2.2.2.2.2.1 c h) trivial trivial Kr) (λ_=>by kernel_rfl) (λc J=>?_)
   exact oQF 3 [⟨[.str q,w44 u,.i c.2.1,.i x,.bool c.2.2],5,false⟩,⟨e29 c.1,7,false⟩,b0,z,⟨[],0,false⟩,⟨[],0,false⟩,D,⟨[],0,false⟩,N,O] 1 [] [n29 c.1] (n29 c.1) .ps trivial
  ·refine oR 6 (atN 2 (ctl1 i74p9)) ((42,.agg [.i 20,.str [],.own 4 (l.2.2).length 7,.bool false,.bool false,.nils,.nils])::(41,.ptr 0 5 0)::(17,.bool false)::(17,.bool A)::(16,.ptr 0 5 0)::E3) ?_
   let W:Blk:=⟨[.i 20,.str [],w29 l.2.2,.bool false,.bool false,.nils,.nils],7,false⟩
   refine qB1 [Q6,n,G,z,I] [Q6,n,W,z,⟨[],0,false⟩] 4 (l.2.2).length 7 0 ((l.2.2).flatMap e29) [0,2,3,16,17,41,42] (env0:=[(0,.ptr 0 5 0),(2,.ptr 1 7 0),(3,.ptr 2 7 0),(16,.ptr 0 5 0),(17,.bool false),(41,.ptr 0 5 0),(42,.agg [.i 20,.str [],.own 4 (l.2.2).length 7,.bool false,.bool false,.nils,.nils])]) (eE:=[(0,.ptr 0 5 0),(2,.ptr 1 7 0),(3,.ptr 2 7 0),(16,.ptr 0 5 0),(17,.bool false),(41,.ptr 0 5 0),(42,.agg [.i 20,.str [],w29 l.2.2,.bool false,.bool false,.nils,.nils])]) Kr rfl rfl (qA9 qA2 _) (Nat.zero_le _) (u29 _) Kr ⟨⟨rfl,.refl Kr⟩,⟨⟨rfl,.refl Kr⟩,⟨⟨rfl,.refl Kr⟩,⟨⟨rfl,.refl Kr⟩,⟨⟨rfl,.refl Kr⟩,⟨⟨rfl,.refl Kr⟩,⟨⟨rfl,.agg (.cons Kr (.cons Kr (.own (.refl Kr)))) (.refl Kr)⟩,trivial⟩⟩⟩⟩⟩⟩⟩ ⟨.inr ⟨rfl,rfl,rfl,.refl Kr⟩,⟨.inr ⟨rfl,rfl,rfl,.refl Kr⟩,⟨.inr ⟨rfl,rfl,rfl,.cons Kr (.cons Kr (.own (.refl Kr)))⟩,⟨.inr ⟨rfl,rfl,rfl,.refl (qAn _ (u29 _))⟩,⟨.inl ⟨rfl,rfl⟩,trivial⟩⟩⟩⟩⟩ ?_
   refine qAg (λ(c:Ri72)=>n29 c.1) (λ(c:Ri72)=>(mkH [⟨[.str q,w44 u,.i c.2.1,.i x,.bool c.2.2],5,false⟩,n,W,z,⟨[],0,false⟩])) (atN 3 (ctl1 i74p9)) (λc=>[(43,n29 c.1),(0,.ptr 0 5 0),(2,.ptr 1 7 0),(3,.ptr 2 7 0),(16,.ptr 0 5 0),(17,.bool false),(41,.ptr 0 5 0),(42,.agg [.i 20,.str [],w29 l.2.2,.bool false,.bool false,.nils,.nils])]) (fi:=122) (args:=[.ptr 0 5 0,.agg [.i 20,.str [],w29 l.2.2,.bool false,.bool false,.nils,.nils]]) Kr (λc h=>frW 0 [Q6,n,W,z,⟨[],0,false⟩] (rs:=[0]) (ms:=[]) (ms':=[]) (mv:=[0,0,0,1]) (xs':=[.ptr 0 5 0,.agg [.i 20,.str [],w29 l.2.2,.bool false,.bool false,w9 ([]:LL),w9 ([]:LL)]]) (.cons (.agg (.cons (.cons (.cons (.cons (.cons (.nil (.nil (.refl)))))))) (.refl))) (qDa k (⟨20,([]:LN),(⟨(l.2.2).length,(l.2.2).flatMap e29⟩:Raw),false,false,([]:LL),([]:LL)⟩:S28) q u l.1 x l.2.1 c h) trivial trivial Kr) (λ_=>by kernel_rfl) (λc J=>?_)
   exact oQF 3 [⟨[.str q,w44 u,.i c.2.1,.i x,.bool c.2.2],5,false⟩,⟨e29 c.1,7,false⟩,W,z,⟨[],0,false⟩] 1 [] [n29 c.1] (n29 c.1) .ps trivial
 ·let b1:Env:=((16,.ptr 0 5 0)::(12,.bool false)::(12,.bool (!C))::(11,.bool C)::(10,.ptr 0 5 0)::E1)
  refine oR 6 (atN 1 (ctl1 i74p6)) b1 ?_
  refine oN (λ(A:Bool) => .bool A) (λA=>[V,n,E,z]) (atN 2 (ctl1 i74p6)) 17 [0] [] [] [.ptr 0 5 0,.str i74c0] (qCo k i74c0 q u m.2.1 x m.2.2) trivial (λ_=>trivial) λA Z=>?_
  refine oR 1 i74p7 ((17,.bool A)::b1) ?_
  refine oK [0,2,3,17] [(0,.ptr 0 5 0),(2,.ptr 1 7 0),(3,.ptr 2 7 0),(17,.bool A)] ?_
  let b2:Env:=keepOnly ((17,.bool A)::b1) [0,2,3,17]
  refine oS 17 (λhb=>?_) (λhb=>?_)
  ·refine oR 4 (atN 1 (ctl1 i74p8)) ((18,.ptr 0 5 0)::(17,.bool true)::b2) ?_
   refine oN (λ(g:Ri32)=>w9 g.1) (λg=>[⟨[.str q,w44 u,.i g.2,.i x,.bool m.2.2],5,false⟩,n,E,z]) (atN 2 (ctl1 i74p8)) 19 [0] [] [] [.ptr 0 5 0] (qBp k q u m.2.1 x m.2.2) trivial (λ_=>trivial) λg a5=>?_
   let b3:Env:=((20,.ptr 0 5 0)::(4,w9 g.1)::(19,w9 g.1)::(18,.ptr 0 5 0)::(17,.bool true)::b2)
   refine oR 5 (atN 1 (ctl1 i74p10)) b3 ?_
   refine oN (λ(o:Ri29) => .i o.1) (λo=>[⟨[.str q,w44 u,.i o.2.1,.i x,.bool o.2.2],5,false⟩,n,E,z]) (atN 2 (ctl1 i74p10)) 21 [0] [] [] [.ptr 0 5 0] (qAk k q u g.2 x m.2.2) trivial (λ_=>trivial) λo a6=>?_
   refine oR 4 (atN 1 (ctl1 i74p12)) ((22,.ptr 0 5 0)::(21,.i o.1)::b3) ?_
   refine oN (λ(b:Ri20)=>n29 b.1) (λb=>[⟨[.str q,w44 u,.i b.2.1,.i x,.bool b.2.2],5,false⟩,n,E,z]) (atN 2 (ctl1 i74p12)) 23 [0] [] [] [.ptr 0 5 0,.i 1] (hF.i20_ok (1:Int) q u o.2.1 x o.2.2) trivial (λ_=>trivial) λb a7=>?_
   let K:Blk:=⟨[.str q,w44 u,.i b.2.1,.i x,.bool b.2.2],5,false⟩
   refine oH 1 (atN 3 (ctl1 i74p12)) ((24,.slice 4 7 0 1 7)::(23,n29 b.1)::(22,.ptr 0 5 0)::(21,.i o.1)::b3) (mkH [K,n,E,z,⟨e29 b.1,0,false⟩]) ?_
   refine oZ 24 4 1 7 [.i b.1.f0,.str b.1.f1,q29 b.1.f2,.bool b.1.f3,.bool b.1.f4,w9 b.1.f5,w9 b.1.f6] [0,2,3,4,17,18,19,20,21,22,23] [0,0,0,1] ⟨u29 _,trivial⟩ ?_
   let b4:Env:=[(0,.ptr 0 5 0),(2,.ptr 1 7 0),(3,.ptr 2 7 0),(4,w9 g.1),(5,.ptr 5 7 0)]
   let B:Blk:=⟨[.i 23,.str [],w29 ([b.1]:List S28),.bool false,.bool false,.nils,.nils],7,false⟩
   refine oLH 5 i74p13 b4 (mkH [K,n,E,z,⟨[],0,false⟩,B]) ?_
   let c5:Blk:=⟨[.i 23,.str [],w29 ([b.1]:List S28),.bool false,.bool false,.nils,.nils],0,false⟩
   refine oH 4 (atN 3 (ctl1 i74p13)) ((28,.slice 6 7 0 1 7)::(27,.agg [.i 23,.str [],w29 ([b.1]:List S28),.bool false,.bool false,.nils,.nils])::(26,.ptr 0 5 0)::b4) (mkH [K,n,E,z,⟨[],0,false⟩,B,c5]) ?_
   refine qAw [K,n,E,z,⟨[],0,false⟩,B,c5] 6 0 [.i 23,.str [],w29 ([b.1]:List S28),.bool false,.bool false,.nils,.nils] [.i 23,.str [],w29 ([b.1]:List S28),.bool false,.bool false,w9 ([]:LL),w9 ([]:LL)] Kr rfl (.cons (.cons (.cons (.cons (.cons (.nil (.nil (.refl)))))))) ?_
   refine oHp (mkH [K,n,E,z,⟨[],0,false⟩,B,⟨[.i 23,.str [],w29 ([b.1]:List S28),.bool false,.bool false,w9 ([]:LL),w9 ([]:LL)],0,false⟩]) ?_
   refine qAz 28 6 7 1 7 Kr rfl ?_
   let b5:Env:=((30,.agg [.i 24,.str [],.nils,.bool false,.bool false,.nils,.nils])::(29,.agg [.i 22,.str [],.own 6 (([(⟨(23:Int),([]:LN),⟨(([b.1]:List S28)).length,(([b.1]:List S28)).flatMap e29⟩,false,false,([]:LL),([]:LL)⟩:S28)]:List S28)).length 7,.bool false,.bool false,.nils,.nils])::(28,.own 6 (([(⟨(23:Int),([]:LN),⟨(([b.1]:List S28)).length,(([b.1]:List S28)).flatMap e29⟩,false,false,([]:LL),([]:LL)⟩:S28)]:List S28)).length 7)::(28,.slice 6 7 0 1 7)::(27,.agg [.i 23,.str [],w29 ([b.1]:List S28),.bool false,.bool false,.nils,.nils])::(26,.ptr 0 5 0)::b4)
   let c6:Blk:=⟨(([(⟨(23:Int),([]:LN),⟨(([b.1]:List S28)).length,(([b.1]:List S28)).flatMap e29⟩,false,false,([]:LL),([]:LL)⟩:S28)]:List S28)).flatMap e29,0,false⟩
   refine oH 2 (atN 5 (ctl1 i74p13)) b5 (mkH [K,n,E,z,⟨[],0,false⟩,B,c6]) ?_
   refine qAg (λ(a:Ri53) => .agg [.i a.1,.str a.2.1,.own 6 (a.2.2.2.2.2.2.2.2).length 7,.bool a.2.2.1,.bool a.2.2.2.1,w9 a.2.2.2.2.1,w9 a.2.2.2.2.2.1]) (λ(a:Ri53)=>(mkH [⟨[.str q,w44 u,.i a.2.2.2.2.2.2.2.1,.i x,.bool a.2.2.2.2.2.2.1],5,false⟩,n,E,z,⟨[],0,false⟩,B,⟨(a.2.2.2.2.2.2.2.2).flatMap e29,0,false⟩])) (atN 6 (ctl1 i74p13)) (λa=>((31,.agg [.i a.1,.str a.2.1,.own 6 (a.2.2.2.2.2.2.2.2).length 7,.bool a.2.2.1,.bool a.2.2.2.1,w9 a.2.2.2.2.1,w9 a.2.2.2.2.2.1])::b5)) (fi:=96) (args:=[.ptr 0 5 0,.agg [.i 22,.str [],.own 6 (([(⟨(23:Int),([]:LN),⟨(([b.1]:List S28)).length,(([b.1]:List S28)).flatMap e29⟩,false,false,([]:LL),([]:LL)⟩:S28)]:List S28)).length 7,.bool false,.bool false,.nils,.nils],.agg [.i 24,.str [],.nils,.bool false,.bool false,.nils,.nils]]) Kr (λa h=>frW 0 [K,n,E,z,⟨[],0,false⟩,B,c6] (rs:=[0,6]) (ms:=[0,1]) (ms':=[0,1]) (mv:=[0,0,0,1,0,0,1]) (xs':=[.ptr 0 5 0,.agg [.i 22,.str [],.own 6 (([(⟨(23:Int),([]:LN),⟨(([b.1]:List S28)).length,(([b.1]:List S28)).flatMap e29⟩,false,false,([]:LL),([]:LL)⟩:S28)]:List S28)).length 7,.bool false,.bool false,w9 ([]:LL),w9 ([]:LL)],.agg [.i 24,.str [],w29 ([]:List S28),.bool false,.bool false,w9 ([]:LL),w9 ([]:LL)]]) (.cons (.agg (.cons (.cons (.cons (.cons (.cons (.nil (.nil (.refl)))))))) (.agg (.cons (.cons (.nil (.cons (.cons (.nil (.nil (.refl)))))))) (.refl)))) (hF.i53_ok (22:Int) ([]:LN) false false ([]:LL) ([]:LL) (⟨24,([]:LN),(⟨(([]:List S28)).length,(([]:List S28)).flatMap e29⟩:Raw),false,false,([]:LL),([]:LL)⟩:S28) q u b.2.1 x b.2.2 ([(⟨(23:Int),([]:LN),⟨(([b.1]:List S28)).length,(([b.1]:List S28)).flatMap e29⟩,false,false,([]:LL),([]:LL)⟩:S28)]:List S28) a h) ⟨u29 _,trivial⟩ ⟨u29 _,trivial⟩ Kr) (λ_=>by kernel_rfl) (λa a8=>?_)
   let L:Blk:=⟨[.str q,w44 u,.i a.2.2.2.2.2.2.2.1,.i x,.bool a.2.2.2.2.2.2.1],5,false⟩
   let c7:Blk:=⟨(a.2.2.2.2.2.2.2.2).flatMap e29,0,false⟩
   let c8:Blk:=⟨[.i a.1,.str a.2.1,.own 6 (a.2.2.2.2.2.2.2.2).length 7,.bool a.2.2.1,.bool a.2.2.2.1,w9 a.2.2.2.2.1,w9 a.2.2.2.2.2.1],7,false⟩
   refine oH 4 i74p14 ((6,.ptr 7 7 0)::(31,.agg [.i a.1,.str a.2.1,.own 6 (a.2.2.2.2.2.2.2.2).length 7,.bool a.2.2.1,.bool a.2.2.2.1,w9 a.2.2.2.2.1,w9 a.2.2.2.2.2.1])::b5) (mkH [L,n,E,z,⟨[],0,false⟩,B,c7,c8]) ?_
   refine qB1 [L,n,E,z,⟨[],0,false⟩,B,c7,c8] [L,n,E,z,⟨[],0,false⟩,B,⟨[],0,false⟩,⟨[.i a.1,.str a.2.1,w29 a.2.2.2.2.2.2.2.2,.bool a.2.2.1,.bool a.2.2.2.1,w9 a.2.2.2.2.1,w9 a.2.2.2.2.2.1],7,false⟩] 6 (a.2.2.2.2.2.2.2.2).length 7 0 ((a.2.2.2.2.2.2.2.2).flatMap e29) [0,2,3,4,6] (env0:=[(0,.ptr 0 5 0),(2,.ptr 1 7 0),(3,.ptr 2 7 0),(4,w9 g.1),(6,.ptr 7 7 0)]) (eE:=[(0,.ptr 0 5 0),(2,.ptr 1 7 0),(3,.ptr 2 7 0),(4,w9 g.1),(6,.ptr 7 7 0)]) Kr rfl rfl (qA9 qA2 _) (Nat.zero_le _) (u29 _) Kr ⟨⟨rfl,.refl Kr⟩,⟨⟨rfl,.refl Kr⟩,⟨⟨rfl,.refl Kr⟩,⟨⟨rfl,.refl Kr⟩,⟨⟨rfl,.refl Kr⟩,trivial⟩⟩⟩⟩⟩ ⟨.inr ⟨rfl,rfl,rfl,.refl Kr⟩,⟨.inr ⟨rfl,rfl,rfl,.refl Kr⟩,⟨.inr ⟨rfl,rfl,rfl,.refl Kr⟩,⟨.inr ⟨rfl,rfl,rfl,.refl (qAn _ (u29 _))⟩,⟨.inr ⟨rfl,rfl,rfl,.refl Kr⟩,⟨.inr ⟨rfl,rfl,rfl,.refl Kr⟩,⟨.inl ⟨rfl,rfl⟩,⟨.inr ⟨rfl,rfl,rfl,.cons Kr (.cons Kr (.own (.refl Kr)))⟩,trivial⟩⟩⟩⟩⟩⟩⟩⟩ ?_
   let Q:Blk:=⟨[.i a.1,.str a.2.1,w29 a.2.2.2.2.2.2.2.2,.bool a.2.2.1,.bool a.2.2.2.1,w9 g.1,w9 a.2.2.2.2.2.1],7,false⟩
   let S:Blk:=⟨[.i a.1,.str a.2.1,w29 a.2.2.2.2.2.2.2.2,.bool a.2.2.1,.bool a.2.2.2.1,w9 g.1,w9 a.2.2.2.2.2.1],0,false⟩
   let K5:List Blk:=[L,n,E,z,⟨[],0,false⟩,B,⟨[],0,false⟩,Q,S]
   refine oH 10 (atN 4 (ctl1 i74p15)) [(37,.slice 8 7 0 1 7),(36,.agg [.i a.1,.str a.2.1,w29 a.2.2.2.2.2.2.2.2,.bool a.2.2.1,.bool a.2.2.2.1,w9 g.1,w9 a.2.2.2.2.2.1]),(35,.own 3 (([]:List S28)).length 7),(34,.ptr 2 7 2),(33,.ptr 7 7 5),(32,w9 g.1),(0,.ptr 0 5 0),(2,.ptr 1 7 0),(3,.ptr 2 7 0),(4,w9 g.1),(6,.ptr 7 7 0)] (mkH K5) ?_
   refine oC (λ(j:List S28)=>(.own 3 (j).length 7,(mkH [L,n,E,⟨(j).flatMap e29,0,false⟩,⟨[],0,false⟩,B,⟨[],0,false⟩,Q,S]))) (atN 5 (ctl1 i74p15)) 38 (appH (sz:=7) qA2 rfl qAh K5 3 104 ([]:List S28) ([(⟨a.1,a.2.1,⟨(a.2.2.2.2.2.2.2.2).length,(a.2.2.2.2.2.2.2.2).flatMap e29⟩,a.2.2.1,a.2.2.2.1,g.1,a.2.2.2.2.2.1⟩:S28)]:List S28) rfl rfl Kr) λj a9=>?_
   let K6:List Blk:=[L,n,⟨[.i 20,.str i74c0,.own 3 (j).length 7,.bool false,.bool false,.nils,.nils],7,false⟩,⟨(j).flatMap e29,0,false⟩,⟨[],0,false⟩,B,⟨[],0,false⟩,Q,S]
   refine oLH 6 i74p9 [(0,.ptr 0 5 0),(2,.ptr 1 7 0),(3,.ptr 2 7 0)] (mkH K6) ?_
   refine oR 3 (atN 2 (ctl1 i74p9)) ((42,.agg [.i 20,.str i74c0,.own 3 (j).length 7,.bool false,.bool false,.nils,.nils])::(41,.ptr 0 5 0)::[(0,.ptr 0 5 0),(2,.ptr 1 7 0),(3,.ptr 2 7 0)]) ?_
   let b6:Blk:=⟨[.i 20,.str i74c0,w29 j,.bool false,.bool false,.nils,.nils],7,false⟩
   let K7:List Blk:=[L,n,b6,⟨[],0,false⟩,⟨[],0,false⟩,B,⟨[],0,false⟩,Q,S]
   refine qB1 K6 K7 3 (j).length 7 0 ((j).flatMap e29) [0,2,3,41,42] (env0:=[(0,.ptr 0 5 0),(2,.ptr 1 7 0),(3,.ptr 2 7 0),(41,.ptr 0 5 0),(42,.agg [.i 20,.str i74c0,.own 3 (j).length 7,.bool false,.bool false,.nils,.nils])]) (eE:=[(0,.ptr 0 5 0),(2,.ptr 1 7 0),(3,.ptr 2 7 0),(41,.ptr 0 5 0),(42,.agg [.i 20,.str i74c0,w29 j,.bool false,.bool false,.nils,.nils])]) Kr rfl rfl (qA9 qA2 _) (Nat.zero_le _) (u29 _) Kr ⟨⟨rfl,.refl Kr⟩,⟨⟨rfl,.refl Kr⟩,⟨⟨rfl,.refl Kr⟩,⟨⟨rfl,.refl Kr⟩,⟨⟨rfl,.agg (.cons Kr (.cons Kr (.own (.refl Kr)))) (.refl Kr)⟩,trivial⟩⟩⟩⟩⟩ ⟨.inr ⟨rfl,rfl,rfl,.refl Kr⟩,⟨.inr ⟨rfl,rfl,rfl,.refl Kr⟩,⟨.inr ⟨rfl,rfl,rfl,.cons Kr (.cons Kr (.own (.refl Kr)))⟩,⟨.inl ⟨rfl,rfl⟩,⟨.inr ⟨rfl,rfl,rfl,.refl Kr⟩,⟨.inr ⟨rfl,rfl,rfl,.refl Kr⟩,⟨.inr ⟨rfl,rfl,rfl,.refl Kr⟩,⟨.inr ⟨rfl,rfl,rfl,.refl Kr⟩,⟨.inr ⟨rfl,rfl,rfl,.refl Kr⟩,trivial⟩⟩⟩⟩⟩⟩⟩⟩⟩ ?_
   refine qAg (λ(c:Ri72)=>n29 c.1) (λ(c:Ri72)=>(mkH [⟨[.str q,w44 u,.i c.2.1,.i x,.bool c.2.2],5,false⟩,n,b6,⟨[],0,false⟩,⟨[],0,false⟩,B,⟨[],0,false⟩,Q,S])) (atN 3 (ctl1 i74p9)) (λc=>[(43,n29 c.1),(0,.ptr 0 5 0),(2,.ptr 1 7 0),(3,.ptr 2 7 0),(41,.ptr 0 5 0),(42,.agg [.i 20,.str i74c0,w29 j,.bool false,.bool false,.nils,.nils])]) (fi:=122) (args:=[.ptr 0 5 0,.agg [.i 20,.str i74c0,w29 j,.bool false,.bool false,.nils,.nils]]) Kr (λc h=>frW 0 K7 (rs:=[0]) (ms:=[]) (ms':=[]) (mv:=[]) (xs':=[.ptr 0 5 0,.agg [.i 20,.str i74c0,w29 j,.bool false,.bool false,w9 ([]:LL),w9 ([]:LL)]]) (.cons (.agg (.cons (.cons (.cons (.cons (.cons (.nil (.nil (.refl)))))))) (.refl))) (qDa k (⟨20,i74c0,(⟨(j).length,(j).flatMap e29⟩:Raw),false,false,([]:LL),([]:LL)⟩:S28) q u a.2.2.2.2.2.2.2.1 x a.2.2.2.2.2.2.1 c h) trivial trivial Kr) (λ_=>by kernel_rfl) (λc J=>?_)
   exact oQF 3 [⟨[.str q,w44 u,.i c.2.1,.i x,.bool c.2.2],5,false⟩,⟨e29 c.1,7,false⟩,b6,⟨[],0,false⟩,⟨[],0,false⟩,B,⟨[],0,false⟩,Q,S] 1 [] [n29 c.1] (n29 c.1) .ps trivial
  ·refine oR 6 (atN 2 (ctl1 i74p9)) ((42,.agg [.i 20,.str [],.own 3 (([]:List S28)).length 7,.bool false,.bool false,.nils,.nils])::(41,.ptr 0 5 0)::(17,.bool false)::b2) ?_
   let Y:Blk:=⟨[.i 20,.str [],w29 ([]:List S28),.bool false,.bool false,.nils,.nils],7,false⟩
   refine qB1 [V,n,E,z] [V,n,Y,⟨[],0,false⟩] 3 (([]:List S28)).length 7 0 ((([]:List S28)).flatMap e29) [0,2,3,17,41,42] (env0:=[(0,.ptr 0 5 0),(2,.ptr 1 7 0),(3,.ptr 2 7 0),(17,.bool false),(41,.ptr 0 5 0),(42,.agg [.i 20,.str [],.own 3 (([]:List S28)).length 7,.bool false,.bool false,.nils,.nils])]) (eE:=[(0,.ptr 0 5 0),(2,.ptr 1 7 0),(3,.ptr 2 7 0),(17,.bool false),(41,.ptr 0 5 0),(42,.agg [.i 20,.str [],w29 ([]:List S28),.bool false,.bool false,.nils,.nils])]) Kr rfl rfl (qA9 qA2 _) (Nat.zero_le _) (u29 _) Kr ⟨⟨rfl,.refl Kr⟩,⟨⟨rfl,.refl Kr⟩,⟨⟨rfl,.refl Kr⟩,⟨⟨rfl,.refl Kr⟩,⟨⟨rfl,.refl Kr⟩,⟨⟨rfl,.agg (.cons Kr (.cons Kr (.own (.refl Kr)))) (.refl Kr)⟩,trivial⟩⟩⟩⟩⟩⟩ ⟨.inr ⟨rfl,rfl,rfl,.refl Kr⟩,⟨.inr ⟨rfl,rfl,rfl,.refl Kr⟩,⟨.inr ⟨rfl,rfl,rfl,.cons Kr (.cons Kr (.own (.refl Kr)))⟩,⟨.inl ⟨rfl,rfl⟩,trivial⟩⟩⟩⟩ ?_
   refine qAg (λ(c:Ri72)=>n29 c.1) (λ(c:Ri72)=>(mkH [⟨[.str q,w44 u,.i c.2.1,.i x,.bool c.2.2],5,false⟩,n,Y,⟨[],0,false⟩])) (atN 3 (ctl1 i74p9)) (λc=>[(43,n29 c.1),(0,.ptr 0 5 0),(2,.ptr 1 7 0),(3,.ptr 2 7 0),(17,.bool false),(41,.ptr 0 5 0),(42,.agg [.i 20,.str [],w29 ([]:List S28),.bool false,.bool false,.nils,.nils])]) (fi:=122) (args:=[.ptr 0 5 0,.agg [.i 20,.str [],w29 ([]:List S28),.bool false,.bool false,.nils,.nils]]) Kr (λc h=>frW 0 [V,n,Y,⟨[],0,false⟩] (rs:=[0]) (ms:=[]) (ms':=[]) (mv:=[]) (xs':=[.ptr 0 5 0,.agg [.i 20,.str [],w29 ([]:List S28),.bool false,.bool false,w9 ([]:LL),w9 ([]:LL)]]) (.cons (.agg (.cons (.cons (.cons (.cons (.cons (.nil (.nil (.refl)))))))) (.refl))) (qDa k (⟨20,([]:LN),(⟨(([]:List S28)).length,(([]:List S28)).flatMap e29⟩:Raw),false,false,([]:LL),([]:LL)⟩:S28) q u m.2.1 x m.2.2 c h) trivial trivial Kr) (λ_=>by kernel_rfl) (λc J=>?_)
   exact oQF 3 [⟨[.str q,w44 u,.i c.2.1,.i x,.bool c.2.2],5,false⟩,⟨e29 c.1,7,false⟩,Y,⟨[],0,false⟩] 1 [] [n29 c.1] (n29 c.1) .ps trivial
theorem i74B_ok (k:Nat) (F:Fns1) (a:FnsOk1 F):Pi74 (i74B k F):=λb c g j l=>λx h=>i74B_all k F a b c g j l x h
def i75p1:Pt:=nav [0,0,0,0] (nav [0] (bodyAt Tryz.f117))
def i75p2:Pt:=nav [0,0] i75p1
def i75p4:Pt:=nav [2,0,0] i75p2
def i75p6:Pt:=nav [0,0,0,0] i75p4
def i75p8:Pt:=nav [2,0,0] (nav [0,0] (nav [1,0,0] i75p2))
def i75p9:Pt:=nav [0,0] i75p6
def i75p11:Pt:=nav [1,0] i75p9
def i75p13:Pt:=nav [0,0,0] i75p11
def i75p14:Pt:=nav [0,0] (nav [2,0,0,0] i75p9)
def i75p16:Pt:=nav [2,0,0] i75p14
def i75B (k:Nat) (F:Fns1) (j:LN) (l:List S43) (A:Int) (m:Int) (B:Bool) (C:S28):Option Ri75 :=
 (i33 k ([123]:LN) j l A m B).bind λn=>if n then ((F.i67 (9:Int) ([]:LN) false false ([]:LL) ([]:LL) ([123]:LN) ([125]:LN) (1:Int) j l A m B ([C]:List S28)).bind λa=>some (a.1,a.2.1,a.2.2.1,a.2.2.2.1,a.2.2.2.2.1,a.2.2.2.2.2.1,a.2.2.2.2.2.2.2.2,a.2.2.2.2.2.2.1,a.2.2.2.2.2.2.2.1)) else ((i31 k j l A m B).bind λo=>(g116 k o).bind λq=>(i65 k q j l A m B).bind λc=>(i33 k ([46]:LN) j l c.2.1 m c.2.2).bind λr=>if r then ((i29 k j l c.2.1 m c.2.2).bind λg=>(catS c.1 ([46]:LN)).bind λu=>(i31 k j l g.2.1 m g.2.2).bind λx=>(i65 k (decide (x.f0=1)) j l g.2.1 m g.2.2).bind λh=>(catS u h.1).bind λz=>some ((12:Int),z,false,false,([]:LL),([]:LL),([C]:List S28),h.2.1,h.2.2)) else ((F.i67 (11:Int) c.1 false false ([]:LL) ([]:LL) ([123]:LN) ([125]:LN) (0:Int) j l c.2.1 m c.2.2 ([C]:List S28)).bind λb=>some (b.1,b.2.1,b.2.2.1,b.2.2.2.1,b.2.2.2.2.1,b.2.2.2.2.2.1,b.2.2.2.2.2.2.2.2,b.2.2.2.2.2.2.1,b.2.2.2.2.2.2.2.1)))
theorem i75B_all (k:Nat) (F:Fns1) (hF:FnsOk1 F):∀ n o G q I g r,i75B k F n o G q I g=some r→CallT Tryz.prog 117 [.ptr 0 5 0,.own 1 (([g]:List S28)).length 7] (mkH [⟨[.str n,w44 o,.i G,.i q,.bool I],5,false⟩,⟨(([g]:List S28)).flatMap e29,0,false⟩]) ((Xi75 n o G q I g).thr r) ((Xi75 n o G q I g).enc r) ((Xi75 n o G q I g).fin r):=by
 intro n o G q I g r h
 refine qA0 (Xi75 n o G q I g) Tryz.func117 Kr Kr rfl (t:=i75B k F n o G q I g) ?_ h
 unfold i75B
 refine qA1 (eE:=[(0,.ptr 0 5 0),(1,.own 1 (([g]:List S28)).length 7)]) Kr ?_
 let S:Blk:=⟨[.str n,w44 o,.i G,.i q,.bool I],5,false⟩
 let z:Blk:=⟨(([g]:List S28)).flatMap e29,0,false⟩
 let B:Blk:=⟨[.i 0,.str [],.nils,.bool false,.bool false,.nils,.nils],0,false⟩
 refine oH 8 (atN 1 (ctl1 i75p1)) [(6,.ptr 0 5 0),(4,.ptr 2 7 0),(0,.ptr 0 5 0),(1,.own 1 (([g]:List S28)).length 7)] (mkH [S,z,B]) ?_
 refine oN (λ(C:Bool) => .bool C) (λC=>[S,z,B]) (atN 2 (ctl1 i75p1)) 7 [0] [] [] [.ptr 0 5 0,.str [123]] (qAi k ([123]:LN) n o G q I) trivial (λ_=>trivial) λC U=>?_
 let V:Env:=[(7,.bool C),(6,.ptr 0 5 0),(4,.ptr 2 7 0),(0,.ptr 0 5 0),(1,.own 1 (([g]:List S28)).length 7)]
 refine oR 1 i75p2 V ?_
 refine oS 7 (λW=>?_) (λW=>?_)
 ·let Y:Env:=((16,.agg [.i 9,.str [],.own 1 (([g]:List S28)).length 7,.bool false,.bool false,.nils,.nils])::(15,.own 1 (([g]:List S28)).length 7)::(14,.ptr 0 5 0)::(10,.bool false)::(9,.i 1)::(8,.own 1 (([g]:List S28)).length 7)::(7,.bool true)::V)
  refine oR 15 (atN 3 (ctl1 i75p8)) Y ?_
  refine qAg (λ(a:Ri67) => .agg [.i a.1,.str a.2.1,.own 1 (a.2.2.2.2.2.2.2.2).length 7,.bool a.2.2.1,.bool a.2.2.2.1,w9 a.2.2.2.2.1,w9 a.2.2.2.2.2.1]) (λ(a:Ri67)=>(mkH [⟨[.str n,w44 o,.i a.2.2.2.2.2.2.1,.i q,.bool a.2.2.2.2.2.2.2.1],5,false⟩,⟨(a.2.2.2.2.2.2.2.2).flatMap e29,0,false⟩,B])) (atN 4 (ctl1 i75p8)) (λa=>((17,.agg [.i a.1,.str a.2.1,.own 1 (a.2.2.2.2.2.2.2.2).length 7,.bool a.2.2.1,.bool a.2.2.2.1,w9 a.2.2.2.2.1,w9 a.2.2.2.2.2.1])::Y)) (fi:=113) (args:=[.ptr 0 5 0,.agg [.i 9,.str [],.own 1 (([g]:List S28)).length 7,.bool false,.bool false,.nils,.nils],.str [123],.str [125],.i 1]) Kr (λa h=>frW 0 [S,z,B] (rs:=[0,1]) (ms:=[0,1]) (ms':=[0,1]) (mv:=[0,1]) (xs':=[.ptr 0 5 0,.agg [.i 9,.str [],.own 1 (([g]:List S28)).length 7,.bool false,.bool false,w9 ([]:LL),w9 ([]:LL)],.str [123],.str [125],.i 1]) (.cons (.agg (.cons (.cons (.cons (.cons (.cons (.nil (.nil (.refl)))))))) (.refl))) (hF.i67_ok (9:Int) ([]:LN) false false ([]:LL) ([]:LL) ([123]:LN) ([125]:LN) (1:Int) n o G q I ([g]:List S28) a h) ⟨u29 _,trivial⟩ ⟨u29 _,trivial⟩ Kr) (λ_=>by kernel_rfl) (λa Z=>?_)
  let Q4:Blk:=⟨[.str n,w44 o,.i a.2.2.2.2.2.2.1,.i q,.bool a.2.2.2.2.2.2.2.1],5,false⟩
  let Q5:Blk:=⟨(a.2.2.2.2.2.2.2.2).flatMap e29,0,false⟩
  let Q6:Blk:=⟨[.i a.1,.str a.2.1,.own 1 (a.2.2.2.2.2.2.2.2).length 7,.bool a.2.2.1,.bool a.2.2.2.1,w9 a.2.2.2.2.1,w9 a.2.2.2.2.2.1],7,false⟩
  refine oH 3 .fin ((17,.agg [.i a.1,.str a.2.1,.own 1 (a.2.2.2.2.2.2.2.2).length 7,.bool a.2.2.1,.bool a.2.2.2.1,w9 a.2.2.2.2.1,w9 a.2.2.2.2.2.1])::Y) (mkH [Q4,Q5,Q6]) ?_
  exact qAx (r:=(a.1,a.2.1,a.2.2.1,a.2.2.2.1,a.2.2.2.2.1,a.2.2.2.2.2.1,a.2.2.2.2.2.2.2.2,a.2.2.2.2.2.2.1,a.2.2.2.2.2.2.2.1)) (xs:=[.agg [.i a.1,.str a.2.1,.own 1 (a.2.2.2.2.2.2.2.2).length 7,.bool a.2.2.1,.bool a.2.2.2.1,w9 a.2.2.2.2.1,w9 a.2.2.2.2.2.1]]) [Q4,Q5] [Q6] Kr Kr Kr Kr Kr ⟨Kr,⟨(qA _ (u29 _)),trivial⟩⟩ Kr Kr
 ·refine oR 6 (atN 2 (ctl1 i75p4)) ((19,.ptr 0 5 0)::(18,.ptr 0 5 0)::(7,.bool false)::V) ?_
  refine oN (λ(A:S43)=>n44 A) (λA=>[S,z,B]) (atN 3 (ctl1 i75p4)) 20 [0] [] [] [.ptr 0 5 0] (qBh k n o G q I) trivial (λ_=>trivial) λA a5=>?_
  refine oA (λ(D:Bool) => .bool D) (atN 4 (ctl1 i75p4)) 21 [n44 A] (qDy k A) λD a6=>?_
  refine oN (λ(c:Ri65) => .str c.1) (λc=>[⟨[.str n,w44 o,.i c.2.1,.i q,.bool c.2.2],5,false⟩,z,B]) (atN 5 (ctl1 i75p4)) 22 [0] [] [] [.ptr 0 5 0,.bool D] (qC6 k D n o G q I) trivial (λ_=>trivial) λc a7=>?_
  let E4:Env:=[(0,.ptr 0 5 0),(1,.own 1 (([g]:List S28)).length 7),(4,.ptr 2 7 0),(5,.str c.1)]
  refine oL 4 i75p6 E4 ?_
  let E5:Env:=((27,.ptr 0 5 0)::(26,.bool true)::(25,.bool true)::(24,.i 1)::(23,.own 1 (([g]:List S28)).length 7)::E4)
  refine oR 6 (atN 5 (ctl1 i75p6)) E5 ?_
  let Q7:Blk:=⟨[.str n,w44 o,.i c.2.1,.i q,.bool c.2.2],5,false⟩
  refine oN (λ(x:Bool) => .bool x) (λx=>[Q7,z,B]) (atN 6 (ctl1 i75p6)) 28 [0] [] [] [.ptr 0 5 0,.str [46]] (qAi k ([46]:LN) n o c.2.1 q c.2.2) trivial (λ_=>trivial) λx a9=>?_
  refine oR 2 i75p9 ((29,.bool x)::(28,.bool x)::E5) ?_
  refine oS 29 (λW=>?_) (λW=>?_)
  ·refine oR 4 (atN 1 (ctl1 i75p11)) ((30,.ptr 0 5 0)::(29,.bool true)::(29,.bool x)::(28,.bool x)::E5) ?_
   refine oN (λ(j:Ri29) => .i j.1) (λj=>[⟨[.str n,w44 o,.i j.2.1,.i q,.bool j.2.2],5,false⟩,z,B]) (atN 2 (ctl1 i75p11)) 31 [0] [] [] [.ptr 0 5 0] (qAk k n o c.2.1 q c.2.2) trivial (λ_=>trivial) λj b0=>?_
   let T:Env:=[(0,.ptr 0 5 0),(1,.own 1 (([g]:List S28)).length 7),(4,.ptr 2 7 0),(5,.str c.1)]
   refine oL 2 i75p13 T ?_
   refine oR 2 (atN 1 (ctl1 i75p13)) ((32,.str c.1)::T) ?_
   let Q8:Blk:=⟨[.str n,w44 o,.i j.2.1,.i q,.bool j.2.2],5,false⟩
   refine oC (λ(E:LN)=>(.str E,(mkH [Q8,z,B]))) (atN 2 (ctl1 i75p13)) 33 (catH Kr) λE b3=>?_
   refine oH 2 (atN 4 (ctl1 i75p13)) ((35,.ptr 0 5 0)::(34,.ptr 0 5 0)::(33,.str E)::(32,.str c.1)::T) (mkH [Q8,z,B]) ?_
   refine oN (λ(u:S43)=>n44 u) (λu=>[Q8,z,B]) (atN 5 (ctl1 i75p13)) 36 [0] [] [] [.ptr 0 5 0] (qBh k n o j.2.1 q j.2.2) trivial (λ_=>trivial) λu b4=>?_
   let E8:Env:=((38,.bool (decide (u.f0=1)))::(37,.i u.f0)::(36,n44 u)::(35,.ptr 0 5 0)::(34,.ptr 0 5 0)::(33,.str E)::(32,.str c.1)::T)
   refine oR 2 (atN 7 (ctl1 i75p13)) E8 ?_
   refine oN (λ(l:Ri65) => .str l.1) (λl=>[⟨[.str n,w44 o,.i l.2.1,.i q,.bool l.2.2],5,false⟩,z,B]) (atN 8 (ctl1 i75p13)) 39 [0] [] [] [.ptr 0 5 0,.bool (decide (u.f0=1))] (qC6 k (decide (u.f0=1)) n o j.2.1 q j.2.2) trivial (λ_=>trivial) λl b5=>?_
   let K:Blk:=⟨[.str n,w44 o,.i l.2.1,.i q,.bool l.2.2],5,false⟩
   refine oC (λ(m:LN)=>(.str m,(mkH [K,z,B]))) (atN 9 (ctl1 i75p13)) 40 (catH Kr) λm b6=>?_
   let L:Blk:=⟨[.i 12,.str m,.own 1 (([g]:List S28)).length 7,.bool false,.bool false,.nils,.nils],7,false⟩
   refine oH 5 .fin ((42,.agg [.i 12,.str m,.own 1 (([g]:List S28)).length 7,.bool false,.bool false,.nils,.nils])::(41,.own 1 (([g]:List S28)).length 7)::(40,.str m)::(39,.str l.1)::E8) (mkH [K,z,L]) ?_
   refine qAw [K,z,L] 2 7 [.i 12,.str m,.own 1 (([g]:List S28)).length 7,.bool false,.bool false,.nils,.nils] [.i 12,.str m,.own 1 (([g]:List S28)).length 7,.bool false,.bool false,w9 ([]:LL),w9 ([]:LL)] Kr rfl (.cons (.cons (.cons (.cons (.cons (.nil (.nil (.refl)))))))) ?_
   let M:Blk:=⟨[.i 12,.str m,.own 1 (([g]:List S28)).length 7,.bool false,.bool false,w9 ([]:LL),w9 ([]:LL)],7,false⟩
   refine oHp (mkH [K,z,M]) ?_
   exact qAx (r:=((12:Int),m,false,false,([]:LL),([]:LL),([g]:List S28),l.2.1,l.2.2)) (xs:=[.agg [.i 12,.str m,.own 1 (([g]:List S28)).length 7,.bool false,.bool false,w9 ([]:LL),w9 ([]:LL)]]) [K,z] [M] Kr Kr Kr Kr Kr ⟨Kr,⟨(qA _ (u29 _)),trivial⟩⟩ Kr Kr
  ·let J:Env:=[(0,.ptr 0 5 0),(1,.own 1 (([g]:List S28)).length 7),(4,.ptr 2 7 0),(5,.str c.1),(45,.bool false)]
   refine oL 9 i75p14 J ?_
   refine oR 8 (atN 4 (ctl1 i75p16)) ((53,.agg [.i 11,.str c.1,.own 1 (([g]:List S28)).length 7,.bool false,.bool false,.nils,.nils])::(52,.own 1 (([g]:List S28)).length 7)::(51,.str c.1)::(50,.ptr 0 5 0)::J) ?_
   refine qAg (λ(b:Ri67) => .agg [.i b.1,.str b.2.1,.own 1 (b.2.2.2.2.2.2.2.2).length 7,.bool b.2.2.1,.bool b.2.2.2.1,w9 b.2.2.2.2.1,w9 b.2.2.2.2.2.1]) (λ(b:Ri67)=>(mkH [⟨[.str n,w44 o,.i b.2.2.2.2.2.2.1,.i q,.bool b.2.2.2.2.2.2.2.1],5,false⟩,⟨(b.2.2.2.2.2.2.2.2).flatMap e29,0,false⟩,B])) (atN 5 (ctl1 i75p16)) (λb=>((54,.agg [.i b.1,.str b.2.1,.own 1 (b.2.2.2.2.2.2.2.2).length 7,.bool b.2.2.1,.bool b.2.2.2.1,w9 b.2.2.2.2.1,w9 b.2.2.2.2.2.1])::(53,.agg [.i 11,.str c.1,.own 1 (([g]:List S28)).length 7,.bool false,.bool false,.nils,.nils])::(52,.own 1 (([g]:List S28)).length 7)::(51,.str c.1)::(50,.ptr 0 5 0)::J)) (fi:=113) (args:=[.ptr 0 5 0,.agg [.i 11,.str c.1,.own 1 (([g]:List S28)).length 7,.bool false,.bool false,.nils,.nils],.str [123],.str [125],.i 0]) Kr (λb h=>frW 0 [Q7,z,B] (rs:=[0,1]) (ms:=[0,1]) (ms':=[0,1]) (mv:=[0,1]) (xs':=[.ptr 0 5 0,.agg [.i 11,.str c.1,.own 1 (([g]:List S28)).length 7,.bool false,.bool false,w9 ([]:LL),w9 ([]:LL)],.str [123],.str [125],.i 0]) (.cons (.agg (.cons (.cons (.cons (.cons (.cons (.nil (.nil (.refl)))))))) (.refl))) (hF.i67_ok (11:Int) c.1 false false ([]:LL) ([]:LL) ([123]:LN) ([125]:LN) (0:Int) n o c.2.1 q c.2.2 ([g]:List S28) b h) ⟨u29 _,trivial⟩ ⟨u29 _,trivial⟩ Kr) (λ_=>by kernel_rfl) (λb b7=>?_)
   let N:Blk:=⟨[.str n,w44 o,.i b.2.2.2.2.2.2.1,.i q,.bool b.2.2.2.2.2.2.2.1],5,false⟩
   let O:Blk:=⟨(b.2.2.2.2.2.2.2.2).flatMap e29,0,false⟩
   let Q:Blk:=⟨[.i b.1,.str b.2.1,.own 1 (b.2.2.2.2.2.2.2.2).length 7,.bool b.2.2.1,.bool b.2.2.2.1,w9 b.2.2.2.2.1,w9 b.2.2.2.2.2.1],7,false⟩
   refine oH 3 .fin ((54,.agg [.i b.1,.str b.2.1,.own 1 (b.2.2.2.2.2.2.2.2).length 7,.bool b.2.2.1,.bool b.2.2.2.1,w9 b.2.2.2.2.1,w9 b.2.2.2.2.2.1])::(53,.agg [.i 11,.str c.1,.own 1 (([g]:List S28)).length 7,.bool false,.bool false,.nils,.nils])::(52,.own 1 (([g]:List S28)).length 7)::(51,.str c.1)::(50,.ptr 0 5 0)::J) (mkH [N,O,Q]) ?_
   exact qAx (r:=(b.1,b.2.1,b.2.2.1,b.2.2.2.1,b.2.2.2.2.1,b.2.2.2.2.2.1,b.2.2.2.2.2.2.2.2,b.2.2.2.2.2.2.1,b.2.2.2.2.2.2.2.1)) (xs:=[.agg [.i b.1,.str b.2.1,.own 1 (b.2.2.2.2.2.2.2.2).length 7,.bool b.2.2.1,.bool b.2.2.2.1,w9 b.2.2.2.2.1,w9 b.2.2.2.2.2.1]]) [N,O] [Q] Kr Kr Kr Kr Kr ⟨Kr,⟨(qA _ (u29 _)),trivial⟩⟩ Kr Kr
theorem i75B_ok (k:Nat) (F:Fns1) (a:FnsOk1 F):Pi75 (i75B k F):=λb c g j l m=>λx h=>i75B_all k F a b c g j l m x h
def i81p2:Pt:=nav [0,0] (nav [0,0,0,0] (nav [0] (bodyAt Tryz.f140)))
def i81p3:Pt:=nav [1,0] i81p2
def i81p4:Pt:=nav [2,0,0] i81p2
def i81p6:Pt:=nav [0,0,0,0] i81p4
def i81p7:Pt:=nav [0,0] i81p6
def i81p8:Pt:=nav [1,0] i81p7
def i81p10:Pt:=nav [0,0,0] i81p8
def i81p11:Pt:=nav [0,0,0] i81p10
def i81d0:DP:=⟨[40],[(0,0,0),(0,0,1),(0,0,0),(0,0,0),(12,0,0),(30,0,0),(63,0,0),(127,0,0)],8,thrown,[],H0⟩
def i81B (k:Nat) (F:Fns1) (r:Int) (u:Int) (j:LN) (l:List S43) (x:Int) (m:Int) (z:Bool):Option Ri81 :=
 if (decide (r=6)) then ((F.i87 j l x m z).bind λg=>some (g.1,g.2.1,g.2.2)) else ((F.i20 u j l x m z).bind λa=>jn (λ(A:Bool)=>if A then ((i31 k j l a.2.1 m a.2.2).bind λo=>(i29 k j l a.2.1 m a.2.2).bind λn=>(F.i20 u j l n.2.1 m n.2.2).bind λc=>some ((⟨(14:Int),o.f1,⟨(([a.1,c.1]:List S28)).length,(([a.1,c.1]:List S28)).flatMap e29⟩,false,false,([]:LL),([]:LL)⟩:S28),c.2.1,c.2.2)) else (some (a.1,a.2.1,a.2.2))) (λq=>if (decide (r=8)) then ((i33 k ([61,62]:LN) j l a.2.1 m a.2.2).bind λh=>if h then (q true) else ((i33 k ([58,61]:LN) j l a.2.1 m a.2.2).bind λb=>q b)) else (if (decide (r=9)) then ((i33 k ([61,62]:LN) j l a.2.1 m a.2.2).bind λh=>if h then (q true) else ((i33 k ([58,61]:LN) j l a.2.1 m a.2.2).bind λb=>q b)) else (q false))))
theorem i81B_all (k:Nat) (F:Fns1) (S:FnsOk1 F):∀ x m n o A q B r,i81B k F x m n o A q B=some r→CallT Tryz.prog 140 [.ptr 0 5 0,.i x,.i m] (mkH [⟨[.str n,w44 o,.i A,.i q,.bool B],5,false⟩]) ((Xi81 x m n o A q B).thr r) ((Xi81 x m n o A q B).enc r) ((Xi81 x m n o A q B).fin r):=by
 intro x m n o A q B r h
 refine qA0 (Xi81 x m n o A q B) Tryz.func140 Kr Kr rfl (t:=i81B k F x m n o A q B) ?_ h
 unfold i81B
 refine qA1 (eE:=[(0,.ptr 0 5 0),(1,.i x),(2,.i m)]) Kr ?_
 let N:Env:=[(10,.bool (decide (x=6))),(9,.i x),(6,.ptr 1 7 0),(0,.ptr 0 5 0),(1,.i x),(2,.i m)]
 let z:Blk:=⟨[.i 0,.str [],.nils,.bool false,.bool false,.nils,.nils],0,false⟩
 refine oH 10 i81p2 N (mkH [⟨[.str n,w44 o,.i A,.i q,.bool B],5,false⟩,z]) ?_
 refine oS 10 (λC=>?_) (λC=>?_)
 ·refine oR 4 (atN 1 (ctl1 i81p3)) ((11,.ptr 0 5 0)::(10,.bool true)::N) ?_
  refine oN (λ(l:Ri87)=>n29 l.1) (λl=>[⟨[.str n,w44 o,.i l.2.1,.i q,.bool l.2.2],5,false⟩,z]) (atN 2 (ctl1 i81p3)) 12 [0] [] [] [.ptr 0 5 0] (S.i87_ok n o A q B) trivial (λ_=>trivial) λl T=>?_
  exact oQF 3 [⟨[.str n,w44 o,.i l.2.1,.i q,.bool l.2.2],5,false⟩,⟨e29 l.1,7,false⟩] 1 [] [n29 l.1] (n29 l.1) .ps trivial
 ·refine oR 6 (atN 2 (ctl1 i81p4)) ((14,.i m)::(13,.ptr 0 5 0)::(10,.bool false)::N) ?_
  refine oN (λ(a:Ri20)=>n29 a.1) (λa=>[⟨[.str n,w44 o,.i a.2.1,.i q,.bool a.2.2],5,false⟩,z]) (atN 3 (ctl1 i81p4)) 15 [0] [] [] [.ptr 0 5 0,.i m] (S.i20_ok m n o A q B) trivial (λ_=>trivial) λa U=>?_
  let V:Env:=((18,.bool (decide (x=8)))::(17,.bool (decide (x=8)))::(16,.i x)::(7,.ptr 2 7 0)::(15,n29 a.1)::(14,.i m)::(13,.ptr 0 5 0)::(10,.bool false)::N)
  let D:Blk:=⟨[.str n,w44 o,.i a.2.1,.i q,.bool a.2.2],5,false⟩
  refine oH 9 (atN 3 (ctl1 i81p6)) V (mkH [D,z,⟨e29 a.1,7,false⟩]) ?_
  refine oJ i81p7 (λ(O:Bool)=>[(0,.ptr 0 5 0),(2,.i m),(6,.ptr 1 7 0),(7,.ptr 2 7 0),(29,.bool O)]) (λ(O:Bool)=>(mkH [D,z,⟨e29 a.1,7,false⟩])) (λO=>?_) (λj6 E=>?_)
  ·refine oS 29 (λC=>?_) (λC=>?_)
   ·let E3:Env:=[(30,.ptr 0 5 0),(29,.bool true),(0,.ptr 0 5 0),(2,.i m),(6,.ptr 1 7 0),(7,.ptr 2 7 0),(29,.bool O)]
    refine oH 4 (atN 1 (ctl1 i81p8)) E3 (mkH [D,z,⟨e29 a.1,7,false⟩]) ?_
    refine oN (λ(g:S43)=>n44 g) (λg=>[D,z,⟨e29 a.1,7,false⟩]) (atN 2 (ctl1 i81p8)) 31 [0] [] [] [.ptr 0 5 0] (qBh k n o a.2.1 q a.2.2) trivial (λ_=>trivial) λg W=>?_
    refine oR 6 (atN 1 (ctl1 i81p10)) ((33,.ptr 0 5 0)::(8,.str g.f1)::(32,.str g.f1)::(31,n44 g)::E3) ?_
    refine oN (λ(u:Ri29) => .i u.1) (λu=>[⟨[.str n,w44 o,.i u.2.1,.i q,.bool u.2.2],5,false⟩,z,⟨e29 a.1,7,false⟩]) (atN 2 (ctl1 i81p10)) 34 [0] [] [] [.ptr 0 5 0] (qAk k n o a.2.1 q a.2.2) trivial (λ_=>trivial) λu Y=>?_
    refine oL 2 i81p11 [(0,.ptr 0 5 0),(2,.i m),(6,.ptr 1 7 0),(7,.ptr 2 7 0),(8,.str g.f1)] ?_
    refine qA7 (λj K=>?_)
    let Q:Env:=[(38,.i m),(37,.ptr 0 5 0),(36,n29 a.1),(35,.str g.f1),(0,.ptr 0 5 0),(2,.i m),(6,.ptr 1 7 0),(7,.ptr 2 7 0),(8,.str g.f1)]
    let J:Blk:=⟨[.str n,w44 o,.i j.2.1,.i q,.bool j.2.2],5,false⟩
    let M:Blk:=⟨[.i 14,.str g.f1,w29 ([a.1,j.1]:List S28),.bool false,.bool false,.nils,.nils],7,false⟩
    refine oD (H':=(mkH [J,M,⟨e29 a.1,7,false⟩])) (nav [0] i81p11) ((41,.agg [.i 14,.str g.f1,w29 ([a.1,j.1]:List S28),.bool false,.bool false,.nils,.nils])::(40,w29 ([a.1,j.1]:List S28))::(39,n29 j.1)::Q) [(mkH [J,z,⟨e29 a.1,7,false⟩]),(mkH [J,M,⟨e29 a.1,7,false⟩])] i81d0 (oDr 4 4 Q (qA6 (l':=(opsAt i81p11).toList.drop 5) (eE:=((39,n29 j.1)::Q)) (hs:=[(mkH [J,z,⟨e29 a.1,7,false⟩])]) (H':=(mkH [J,z,⟨e29 a.1,7,false⟩])) (fi:=24) (args:=[.ptr 0 5 0,.i m]) (v:=n29 j.1) Kr (frC (rs:=[0]) (ms:=[]) (ms':=[]) (S.i20_ok m n o u.2.1 q u.2.2 j K) trivial trivial Kr) Kr (oDh 3 8 ((41,.agg [.i 14,.str g.f1,w29 ([a.1,j.1]:List S28),.bool false,.bool false,.nils,.nils])::(40,w29 ([a.1,j.1]:List S28))::(39,n29 j.1)::Q) (mkH [J,M,⟨e29 a.1,7,false⟩]) [(mkH [J,M,⟨e29 a.1,7,false⟩])] .nil))) ?_
    exact oQF 1 [J,M,⟨e29 a.1,7,false⟩] 1 [] [.agg [.i 14,.str g.f1,w29 ([a.1,j.1]:List S28),.bool false,.bool false,.nils,.nils]] (.agg [.i 14,.str g.f1,w29 ([a.1,j.1]:List S28),.bool false,.bool false,.vec 0 1 [],.vec 0 1 []]) (.agg (.cs (.cs (.cs (.cs (.cs (.nil (.nil .ps))))))) .ps) trivial
   ·exact oQF 8 [D,⟨e29 a.1,7,false⟩,⟨e29 a.1,7,false⟩] 1 [] [n29 a.1] (n29 a.1) .ps trivial
  ·refine oS 18 (λC=>?_) (λC=>?_)
   ·let Z:Env:=((23,.ptr 0 5 0)::(22,.bool true)::(21,.bool true)::(20,.tuple [])::(19,.tuple [])::(18,.bool true)::V)
    refine oH 5 (atN 8 (ctl1 i81p6)) Z (mkH [D,z,⟨e29 a.1,7,false⟩]) ?_
    refine oN (λ(b:Bool) => .bool b) (λb=>[D,z,⟨e29 a.1,7,false⟩]) (atN 9 (ctl1 i81p6)) 24 [0] [] [] [.ptr 0 5 0,.str [61,62]] (qAi k ([61,62]:LN) n o a.2.1 q a.2.2) trivial (λ_=>trivial) λb L=>?_
    refine oR 1 (atN 10 (ctl1 i81p6)) ((25,.bool b)::(24,.bool b)::Z) ?_
    refine oS 25 (λC=>?_) (λC=>?_)
    ·refine oL 5 i81p7 [(0,.ptr 0 5 0),(2,.i m),(6,.ptr 1 7 0),(7,.ptr 2 7 0),(29,.bool true)] ?_
     exact E true
    ·refine oR 1 (atN 11 (ctl1 i81p6)) ((26,.ptr 0 5 0)::(25,.bool false)::(25,.bool b)::(24,.bool b)::Z) ?_
     refine oN (λ(c:Bool) => .bool c) (λc=>[D,z,⟨e29 a.1,7,false⟩]) (atN 12 (ctl1 i81p6)) 27 [0] [] [] [.ptr 0 5 0,.str [58,61]] (qAi k ([58,61]:LN) n o a.2.1 q a.2.2) trivial (λ_=>trivial) λc G=>?_
     refine oL 3 i81p7 [(0,.ptr 0 5 0),(2,.i m),(6,.ptr 1 7 0),(7,.ptr 2 7 0),(29,.bool c)] ?_
     exact E c
   ·let I:Env:=((22,.bool (decide (x=9)))::(21,.bool (decide (x=9)))::(20,.bool (decide (x=9)))::(19,.i x)::(18,.bool false)::V)
    refine oH 4 (atN 7 (ctl1 i81p6)) I (mkH [D,z,⟨e29 a.1,7,false⟩]) ?_
    refine oS 22 (λC=>?_) (λC=>?_)
    ·refine oR 1 (atN 8 (ctl1 i81p6)) ((23,.ptr 0 5 0)::(22,.bool true)::I) ?_
     refine oN (λ(b:Bool) => .bool b) (λb=>[D,z,⟨e29 a.1,7,false⟩]) (atN 9 (ctl1 i81p6)) 24 [0] [] [] [.ptr 0 5 0,.str [61,62]] (qAi k ([61,62]:LN) n o a.2.1 q a.2.2) trivial (λ_=>trivial) λb L=>?_
     refine oR 1 (atN 10 (ctl1 i81p6)) ((25,.bool b)::(24,.bool b)::(23,.ptr 0 5 0)::(22,.bool true)::I) ?_
     refine oS 25 (λC=>?_) (λC=>?_)
     ·refine oL 5 i81p7 [(0,.ptr 0 5 0),(2,.i m),(6,.ptr 1 7 0),(7,.ptr 2 7 0),(29,.bool true)] ?_
      exact E true
     ·refine oR 1 (atN 11 (ctl1 i81p6)) ((26,.ptr 0 5 0)::(25,.bool false)::(25,.bool b)::(24,.bool b)::(23,.ptr 0 5 0)::(22,.bool true)::I) ?_
      refine oN (λ(c:Bool) => .bool c) (λc=>[D,z,⟨e29 a.1,7,false⟩]) (atN 12 (ctl1 i81p6)) 27 [0] [] [] [.ptr 0 5 0,.str [58,61]] (qAi k ([58,61]:LN) n o a.2.1 q a.2.2) trivial (λ_=>trivial) λc G=>?_
      refine oL 3 i81p7 [(0,.ptr 0 5 0),(2,.i m),(6,.ptr 1 7 0),(7,.ptr 2 7 0),(29,.bool c)] ?_
      exact E c
    ·refine oL 8 i81p7 [(0,.ptr 0 5 0),(2,.i m),(6,.ptr 1 7 0),(7,.ptr 2 7 0),(29,.bool false)] ?_
     exact E false
theorem i81B_ok (k:Nat) (F:Fns1) (a:FnsOk1 F):Pi81 (i81B k F):=λb c g j l m n=>λx h=>i81B_all k F a b c g j l m n x h
def i82p1:Pt:=nav [0,0,0] (nav [0] (bodyAt Tryz.f141))
def i82p2:Pt:=nav [0,0,0] i82p1
def i82p3:Pt:=nav [0,0,0,0,0] i82p2
def i82p5:Pt:=nav [0,0] (nav [0,0,0] i82p3)
def i82p6:Pt:=nav [1,0,0,0] i82p5
def i82p7:Pt:=nav [2,0,0] i82p5
def i82p8:Pt:=nav [0,0,0,0] i82p6
def i82p10:Pt:=nav [0,0] i82p8
def i82p12:Pt:=nav [1,0] i82p10
def i82p13:Pt:=nav [2,0,0] i82p10
def i82p14:Pt:=nav [0,0,0] i82p12
def i82p15:Pt:=nav [0,0,0,0] i82p13
def i82p16:Pt:=nav [0,0] i82p14
def i82p17:Pt:=nav [0,0] i82p15
def i82p18:Pt:=nav [2,0] i82p17
def i82d0:DP:=⟨[38],[(0,0,0),(0,0,1),(0,0,0),(4,0,0),(14,0,0),(31,0,0),(63,0,0)],7,thrown,[],H0⟩
def qF6 (k:Nat) (F:Fns1)  (K:S28) (J:Bool) (l:LN) (m:List S43) (n:Int) (ih:Int→Bool→(List S28)→Option Ri82):Int→Bool→(List S28)→Option Ri82 :=
 λ(j:Int) (c:Bool) (g:List S28)=>jn (λ(o:Int×Bool×(List S28))=>(i66 k (9:Int) ([93]:LN) l m o.1 n o.2.1).bind λq=>some ((⟨(15:Int),([]:LN),⟨(o.2.2).length,(o.2.2).flatMap e29⟩,J,false,([]:LL),([]:LL)⟩:S28),q.2.1,q.2.2)) (λA=>if (!c) then ((F.i20 (3:Int) l m j n c).bind λa=>(i33 k ([60,45]:LN) l m a.2.1 n a.2.2).bind λB=>jn (λ(z:Bool×(List S28))=>jn (λ(b:Int×Bool×S28×(List S28))=>(appS 104 b.2.2.2 ([b.2.2.1]:List S28)).bind λr=>(i33 k ([44]:LN) l m b.1 n b.2.1).bind λC=>if (!C) then (A (b.1,b.2.1,r)) else ((i29 k l m b.1 n b.2.1).bind λu=>ih u.2.1 u.2.2 r)) (λD=>if z.1 then ((i31 k l m a.2.1 n a.2.2).bind λE=>(i29 k l m a.2.1 n a.2.2).bind λx=>(F.i20 (3:Int) l m x.2.1 n x.2.2).bind λh=>D (h.2.1,h.2.2,(⟨14,E.f1,(⟨(([a.1,h.1]:List S28)).length,(([a.1,h.1]:List S28)).flatMap e29⟩:Raw),false,false,([]:LL),([]:LL)⟩:S28),z.2)) else (D (a.2.1,a.2.2,a.1,z.2)))) (λG=>if B then (G (true,g)) else ((i33 k ([60,61]:LN) l m a.2.1 n a.2.2).bind λI=>G (I,g)))) else (A (j,c,g)))
def qH0 (k:Nat) (F:Fns1)  (a:S28) (b:Bool) (c:LN) (g:List S43) (h:Int) (n:Nat):Int→Bool→(List S28)→Option Ri82:=lp (λ_ _ _=>none) (qF6 k F a b c g h) n
theorem qKn (k:Nat) (F:Fns1) (hF:FnsOk1 F) (l:S28) (L:Bool) (r:LN) (u:List S43) (a4:Int) (x:Int) (a6:Bool)    : ∀ (n:Nat) (m:Int) (j:Bool) (h:List S28),Ok (Xi82 l L r u a4 x a6) i82p3 [(0,.ptr 0 5 0),(6,.ptr 2 7 0),(7,.ptr 4 7 0)] (mkH [⟨[.str r,w44 u,.i m,.i x,.bool j],5,false⟩,⟨[.i l.f0,.str l.f1,q29 l.f2,.bool l.f3,.bool l.f4,w9 l.f5,w9 l.f6],0,false⟩,⟨[.i 0,.str [],.nils,.bool false,.bool false,.nils,.nils],0,false⟩,⟨(h).flatMap e29,0,false⟩,⟨[.i 15,.str [],.own 3 (h).length 7,.bool L,.bool false,.nils,.nils],7,false⟩]) (qH0 k F l L r u x n m j h):=by
 intro n
 induction n with
 | zero=>intro m j h; exact ok_none
 | succ n ih =>
  intro m j h
  show Ok _ _ _ _ (qF6 k F l L r u x (qH0 k F l L r u x n) m j h)
  unfold qF6
  refine qAd (p':=nav [0] i82p3) Kr ?_
  let E3:Env:=[(20,.bool (!j)),(19,.bool j),(18,.ptr 0 5 4),(17,.ptr 0 5 0),(16,.ptr 0 5 0),(0,.ptr 0 5 0),(6,.ptr 2 7 0),(7,.ptr 4 7 0)]
  let Q1:Blk:=⟨[.str r,w44 u,.i m,.i x,.bool j],5,false⟩
  let z:Blk:=⟨[.i 0,.str [],.nils,.bool false,.bool false,.nils,.nils],0,false⟩
  let Z:Blk:=⟨(h).flatMap e29,0,false⟩
  let Q4:Blk:=⟨[.i 15,.str [],.own 3 (h).length 7,.bool L,.bool false,.nils,.nils],7,false⟩
  refine oH 9 i82p5 E3 (mkH [Q1,⟨e29 l,0,false⟩,z,Z,Q4]) ?_
  refine oJ i82p7 (λ(o:Int×Bool×(List S28))=>[(0,.ptr 0 5 0),(6,.ptr 2 7 0),(7,.ptr 4 7 0)]) (λ(o:Int×Bool×(List S28))=>(mkH [⟨[.str r,w44 u,.i o.1,.i x,.bool o.2.1],5,false⟩,⟨e29 l,0,false⟩,z,⟨(o.2.2).flatMap e29,0,false⟩,⟨[.i 15,.str [],.own 3 (o.2.2).length 7,.bool L,.bool false,.nils,.nils],7,false⟩])) (λo=>?_) (λd6 T=>?_)
  ·let Q5:Blk:=⟨(o.2.2).flatMap e29,0,false⟩
   let Q6:Blk:=⟨[.i 15,.str [],.own 3 (o.2.2).length 7,.bool L,.bool false,.nils,.nils],7,false⟩
   refine oH 2 (atN 1 (ctl1 i82p7)) [(51,.ptr 0 5 0),(0,.ptr 0 5 0),(6,.ptr 2 7 0),(7,.ptr 4 7 0)] (mkH [⟨[.str r,w44 u,.i o.1,.i x,.bool o.2.1],5,false⟩,⟨e29 l,0,false⟩,z,Q5,Q6]) ?_
   refine oN (λ(B:Ri66) => .i B.1) (λB=>[⟨[.str r,w44 u,.i B.2.1,.i x,.bool B.2.2],5,false⟩,⟨e29 l,0,false⟩,z,Q5,Q6]) (atN 2 (ctl1 i82p7)) 52 [0] [] [] [.ptr 0 5 0,.i 9,.str [93]] (qBy k (9:Int) ([93]:LN) r u o.1 x o.2.1) trivial (λ_=>trivial) λB b7=>?_
   exact oQF 7 [⟨[.str r,w44 u,.i B.2.1,.i x,.bool B.2.2],5,false⟩,⟨e29 l,0,false⟩,Q6,Q5,Q6] 1 [] [.agg [.i 15,.str [],.own 3 (o.2.2).length 7,.bool L,.bool false,.nils,.nils]] (.agg [.i 15,.str [],w29 o.2.2,.bool L,.bool false,.vec 0 1 [],.vec 0 1 []]) (.agg (.cs (.cs (qAl qA2 qAf rfl rfl rfl (.cs (.cs (.nil (.nil .ps))))))) .ps) trivial
  ·refine oS 20 (λW=>?_) (λW=>?_)
   ·refine oH 6 (atN 1 (ctl1 i82p6)) ((21,.ptr 0 5 0)::(20,.bool true)::E3) (mkH [Q1,⟨e29 l,0,false⟩,z,Z,Q4]) ?_
    refine oN (λ(a:Ri20)=>n29 a.1) (λa=>[⟨[.str r,w44 u,.i a.2.1,.i x,.bool a.2.2],5,false⟩,⟨e29 l,0,false⟩,z,Z,Q4]) (atN 2 (ctl1 i82p6)) 22 [0] [] [] [.ptr 0 5 0,.i 3] (hF.i20_ok (3:Int) r u m x j) trivial (λ_=>trivial) λa b8=>?_
    let Q7:Blk:=⟨[.str r,w44 u,.i a.2.1,.i x,.bool a.2.2],5,false⟩
    let K1:List Blk:=[Q7,⟨e29 l,0,false⟩,z,Z,Q4,⟨e29 a.1,7,false⟩]
    refine oLH 5 i82p8 [(0,.ptr 0 5 0),(6,.ptr 2 7 0),(7,.ptr 4 7 0),(8,.ptr 5 7 0)] (mkH K1) ?_
    let E5:Env:=[(0,.ptr 0 5 0),(6,.ptr 2 7 0),(7,.ptr 4 7 0),(8,.ptr 5 7 0)]
    refine oR 2 (atN 1 (ctl1 i82p8)) ((23,.ptr 0 5 0)::E5) ?_
    refine oN (λ(C:Bool) => .bool C) (λC=>K1) (atN 2 (ctl1 i82p8)) 24 [0] [] [] [.ptr 0 5 0,.str [60,45]] (qAi k ([60,45]:LN) r u a.2.1 x a.2.2) trivial (λ_=>trivial) λC c0=>?_
    refine oR 1 (atN 3 (ctl1 i82p8)) ((25,.bool C)::(24,.bool C)::(23,.ptr 0 5 0)::E5) ?_
    refine oJ i82p10 (λ(A:Bool×(List S28))=>[(0,.ptr 0 5 0),(6,.ptr 2 7 0),(7,.ptr 4 7 0),(8,.ptr 5 7 0),(28,.bool A.1)]) (λ(A:Bool×(List S28))=>(mkH [Q7,⟨e29 l,0,false⟩,z,⟨(A.2).flatMap e29,0,false⟩,⟨[.i 15,.str [],.own 3 (A.2).length 7,.bool L,.bool false,.nils,.nils],7,false⟩,⟨e29 a.1,7,false⟩])) (λA=>?_) (λd9 U=>?_)
    ·refine oJ i82p13 (λ(c:Int×Bool×S28×(List S28))=>[(0,.ptr 0 5 0),(6,.ptr 2 7 0),(7,.ptr 4 7 0),(8,.ptr 5 7 0)]) (λ(c:Int×Bool×S28×(List S28))=>(mkH [⟨[.str r,w44 u,.i c.1,.i x,.bool c.2.1],5,false⟩,⟨e29 l,0,false⟩,z,⟨(c.2.2.2).flatMap e29,0,false⟩,⟨[.i 15,.str [],.own 3 (c.2.2.2).length 7,.bool L,.bool false,.nils,.nils],7,false⟩,⟨e29 c.2.2.1,7,false⟩])) (λc=>?_) (λe0 V=>?_)
     ·let Q8:Blk:=⟨[.str r,w44 u,.i c.1,.i x,.bool c.2.1],5,false⟩
      let a9:Blk:=⟨[.i 15,.str [],.own 3 (c.2.2.2).length 7,.bool L,.bool false,.nils,.nils],7,false⟩
      let K2:List Blk:=[Q8,⟨e29 l,0,false⟩,z,⟨(c.2.2.2).flatMap e29,0,false⟩,a9,⟨e29 c.2.2.1,7,false⟩,⟨e29 c.2.2.1,0,false⟩]
      refine oH 5 (atN 4 (ctl1 i82p13)) [(43,.slice 6 7 0 1 7),(42,n29 c.2.2.1),(41,.own 3 (c.2.2.2).length 7),(40,.ptr 4 7 2),(0,.ptr 0 5 0),(6,.ptr 2 7 0),(7,.ptr 4 7 0),(8,.ptr 5 7 0)] (mkH K2) ?_
      refine oC (λ(D:List S28)=>(.own 3 (D).length 7,(mkH [Q8,⟨e29 l,0,false⟩,z,⟨(D).flatMap e29,0,false⟩,a9,⟨e29 c.2.2.1,7,false⟩,⟨e29 c.2.2.1,0,false⟩]))) (atN 5 (ctl1 i82p13)) 44 (appH (sz:=7) qA2 rfl qAh K2 3 104 c.2.2.2 ([c.2.2.1]:List S28) rfl rfl Kr) λD c1=>?_
      let Q:Blk:=⟨(D).flatMap e29,0,false⟩
      let S:Blk:=⟨[.i 15,.str [],.own 3 (D).length 7,.bool L,.bool false,.nils,.nils],7,false⟩
      let K3:List Blk:=[Q8,⟨e29 l,0,false⟩,z,Q,S,⟨e29 c.2.2.1,7,false⟩,⟨e29 c.2.2.1,0,false⟩]
      refine oLH 5 i82p15 [(0,.ptr 0 5 0),(6,.ptr 2 7 0),(7,.ptr 4 7 0)] (mkH K3) ?_
      let E7:Env:=[(0,.ptr 0 5 0),(6,.ptr 2 7 0),(7,.ptr 4 7 0)]
      refine oR 2 (atN 1 (ctl1 i82p15)) ((46,.ptr 0 5 0)::E7) ?_
      refine oN (λ(E:Bool) => .bool E) (λE=>K3) (atN 2 (ctl1 i82p15)) 47 [0] [] [] [.ptr 0 5 0,.str [44]] (qAi k ([44]:LN) r u c.1 x c.2.1) trivial (λ_=>trivial) λE c3=>?_
      refine oR 2 i82p17 ((48,.bool (!E))::(47,.bool E)::(46,.ptr 0 5 0)::E7) ?_
      refine oS 48 (λW=>?_) (λW=>?_)
      ·refine oL 3 i82p7 [(0,.ptr 0 5 0),(6,.ptr 2 7 0),(7,.ptr 4 7 0)] ?_
       refine qA8 [Q8,⟨e29 l,0,false⟩,z,Q,S] [⟨e29 c.2.2.1,7,false⟩,⟨e29 c.2.2.1,0,false⟩] Kr rfl Kr ⟨Kr,⟨Kr,⟨Kr,⟨(qA _ (u29 _)),⟨Kr,trivial⟩⟩⟩⟩⟩ ?_
       exact T (c.1,c.2.1,D)
      ·refine oR 4 (atN 1 (ctl1 i82p18)) ((49,.ptr 0 5 0)::(48,.bool false)::(48,.bool (!E))::(47,.bool E)::(46,.ptr 0 5 0)::E7) ?_
       refine oN (λ(q:Ri29) => .i q.1) (λq=>[⟨[.str r,w44 u,.i q.2.1,.i x,.bool q.2.2],5,false⟩,⟨e29 l,0,false⟩,z,Q,S,⟨e29 c.2.2.1,7,false⟩,⟨e29 c.2.2.1,0,false⟩]) (atN 2 (ctl1 i82p18)) 50 [0] [] [] [.ptr 0 5 0] (qAk k r u c.1 x c.2.1) trivial (λ_=>trivial) λq c4=>?_
       refine oL 1 i82p3 [(0,.ptr 0 5 0),(6,.ptr 2 7 0),(7,.ptr 4 7 0)] ?_
       refine qA8 [⟨[.str r,w44 u,.i q.2.1,.i x,.bool q.2.2],5,false⟩,⟨e29 l,0,false⟩,z,Q,S] [⟨e29 c.2.2.1,7,false⟩,⟨e29 c.2.2.1,0,false⟩] Kr rfl Kr ⟨Kr,⟨Kr,⟨Kr,⟨(qA _ (u29 _)),⟨Kr,trivial⟩⟩⟩⟩⟩ ?_
       exact ih q.2.1 q.2.2 D
     ·refine oS 28 (λW=>?_) (λW=>?_)
      ·let b0:Env:=[(29,.ptr 0 5 0),(28,.bool true),(0,.ptr 0 5 0),(6,.ptr 2 7 0),(7,.ptr 4 7 0),(8,.ptr 5 7 0),(28,.bool A.1)]
       let J:Blk:=⟨(A.2).flatMap e29,0,false⟩
       let K:Blk:=⟨[.i 15,.str [],.own 3 (A.2).length 7,.bool L,.bool false,.nils,.nils],7,false⟩
       let K4:List Blk:=[Q7,⟨e29 l,0,false⟩,z,J,K,⟨e29 a.1,7,false⟩]
       refine oH 4 (atN 1 (ctl1 i82p12)) b0 (mkH K4) ?_
       refine oN (λ(g:S43)=>n44 g) (λg=>K4) (atN 2 (ctl1 i82p12)) 30 [0] [] [] [.ptr 0 5 0] (qBh k r u a.2.1 x a.2.2) trivial (λ_=>trivial) λg c5=>?_
       refine oR 6 (atN 1 (ctl1 i82p14)) ((32,.ptr 0 5 0)::(9,.str g.f1)::(31,.str g.f1)::(30,n44 g)::b0) ?_
       refine oN (λ(G:Ri29) => .i G.1) (λG=>[⟨[.str r,w44 u,.i G.2.1,.i x,.bool G.2.2],5,false⟩,⟨e29 l,0,false⟩,z,J,K,⟨e29 a.1,7,false⟩]) (atN 2 (ctl1 i82p14)) 33 [0] [] [] [.ptr 0 5 0] (qAk k r u a.2.1 x a.2.2) trivial (λ_=>trivial) λG c6=>?_
       refine oL 1 i82p16 [(0,.ptr 0 5 0),(6,.ptr 2 7 0),(7,.ptr 4 7 0),(8,.ptr 5 7 0),(9,.str g.f1)] ?_
       refine qA7 (λb Y=>?_)
       let N:Env:=[(36,.ptr 0 5 0),(35,n29 a.1),(34,.str g.f1),(0,.ptr 0 5 0),(6,.ptr 2 7 0),(7,.ptr 4 7 0),(8,.ptr 5 7 0),(9,.str g.f1)]
       let M:Blk:=⟨[.str r,w44 u,.i b.2.1,.i x,.bool b.2.2],5,false⟩
       let O:Blk:=⟨[.i 14,.str g.f1,w29 ([a.1,b.1]:List S28),.bool false,.bool false,.nils,.nils],7,false⟩
       let K5:List Blk:=[M,⟨e29 l,0,false⟩,z,J,K,⟨e29 a.1,7,false⟩]
       refine oD (H':=(mkH [M,⟨e29 l,0,false⟩,z,J,K,O])) (nav [0] i82p16) ((39,.agg [.i 14,.str g.f1,w29 ([a.1,b.1]:List S28),.bool false,.bool false,.nils,.nils])::(38,w29 ([a.1,b.1]:List S28))::(37,n29 b.1)::N) [(mkH K5),(mkH [M,⟨e29 l,0,false⟩,z,J,K,O])] i82d0 (oDr 3 3 N (qA6 (l':=(opsAt i82p16).toList.drop 4) (eE:=((37,n29 b.1)::N)) (hs:=[(mkH K5)]) (H':=(mkH K5)) (fi:=24) (args:=[.ptr 0 5 0,.i 3]) (v:=n29 b.1) Kr (frC (rs:=[0]) (ms:=[]) (ms':=[]) (hF.i20_ok (3:Int) r u G.2.1 x G.2.2 b Y) trivial trivial Kr) Kr (oDh 3 7 ((39,.agg [.i 14,.str g.f1,w29 ([a.1,b.1]:List S28),.bool false,.bool false,.nils,.nils])::(38,w29 ([a.1,b.1]:List S28))::(37,n29 b.1)::N) (mkH [M,⟨e29 l,0,false⟩,z,J,K,O]) [(mkH [M,⟨e29 l,0,false⟩,z,J,K,O])] .nil))) ?_
       refine oR 1 i82p13 ((39,.agg [.i 14,.str g.f1,w29 ([a.1,b.1]:List S28),.bool false,.bool false,.nils,.nils])::(38,w29 ([a.1,b.1]:List S28))::(37,n29 b.1)::N) ?_
       refine qAw [M,⟨e29 l,0,false⟩,z,J,K,O] 5 7 [.i 14,.str g.f1,w29 ([a.1,b.1]:List S28),.bool false,.bool false,.nils,.nils] [.i 14,.str g.f1,w29 ([a.1,b.1]:List S28),.bool false,.bool false,w9 ([]:LL),w9 ([]:LL)] Kr rfl (.cons (.cons (.cons (.cons (.cons (.nil (.nil (.refl)))))))) ?_
       refine oHp (mkH [M,⟨e29 l,0,false⟩,z,J,K,⟨[.i 14,.str g.f1,w29 ([a.1,b.1]:List S28),.bool false,.bool false,w9 ([]:LL),w9 ([]:LL)],7,false⟩]) ?_
       refine oK [0,6,7,8] [(0,.ptr 0 5 0),(6,.ptr 2 7 0),(7,.ptr 4 7 0),(8,.ptr 5 7 0)] ?_
       exact V (b.2.1,b.2.2,(⟨14,g.f1,(⟨(([a.1,b.1]:List S28)).length,(([a.1,b.1]:List S28)).flatMap e29⟩:Raw),false,false,([]:LL),([]:LL)⟩:S28),A.2)
      ·refine oLH 3 i82p13 [(0,.ptr 0 5 0),(6,.ptr 2 7 0),(7,.ptr 4 7 0),(8,.ptr 5 7 0)] (mkH [Q7,⟨e29 l,0,false⟩,z,⟨(A.2).flatMap e29,0,false⟩,⟨[.i 15,.str [],.own 3 (A.2).length 7,.bool L,.bool false,.nils,.nils],7,false⟩,⟨e29 a.1,7,false⟩]) ?_
       exact V (a.2.1,a.2.2,a.1,A.2)
    ·refine oS 25 (λW=>?_) (λW=>?_)
     ·refine oLH 4 i82p10 [(0,.ptr 0 5 0),(6,.ptr 2 7 0),(7,.ptr 4 7 0),(8,.ptr 5 7 0),(28,.bool true)] (mkH K1) ?_
      exact U (true,h)
     ·let b1:Env:=((26,.ptr 0 5 0)::(25,.bool false)::(25,.bool C)::(24,.bool C)::(23,.ptr 0 5 0)::E5)
      refine oH 1 (atN 4 (ctl1 i82p8)) b1 (mkH K1) ?_
      refine oN (λ(I:Bool) => .bool I) (λI=>K1) (atN 5 (ctl1 i82p8)) 27 [0] [] [] [.ptr 0 5 0,.str [60,61]] (qAi k ([60,61]:LN) r u a.2.1 x a.2.2) trivial (λ_=>trivial) λI c8=>?_
      refine oR 2 i82p10 ((28,.bool I)::(27,.bool I)::b1) ?_
      refine oK [0,6,7,8,28] [(0,.ptr 0 5 0),(6,.ptr 2 7 0),(7,.ptr 4 7 0),(8,.ptr 5 7 0),(28,.bool I)] ?_
      exact U (I,h)
   ·refine oLH 3 i82p7 [(0,.ptr 0 5 0),(6,.ptr 2 7 0),(7,.ptr 4 7 0)] (mkH [Q1,⟨e29 l,0,false⟩,z,Z,Q4]) ?_
    exact T (m,j,h)
def i82B (k:Nat) (F:Fns1) (b:S28) (j:Bool) (c:LN) (g:List S43) (l:Int) (h:Int) (m:Bool):Option Ri82 :=
 (i66 k (9:Int) ([124,124]:LN) c g l h m).bind λa=>qH0 k F b j c g h k a.2.1 a.2.2 ([b]:List S28)
theorem i82B_all (k:Nat) (F:Fns1) (A:FnsOk1 F):∀ a c g j m l n r,i82B k F a c g j m l n=some r→CallT Tryz.prog 141 [.ptr 0 5 0,.agg [.i a.f0,.str a.f1,q29 a.f2,.bool a.f3,.bool a.f4,w9 a.f5,w9 a.f6],.bool c] (mkH [⟨[.str g,w44 j,.i m,.i l,.bool n],5,false⟩]) ((Xi82 a c g j m l n).thr r) ((Xi82 a c g j m l n).enc r) ((Xi82 a c g j m l n).fin r):=by
 intro a c g j m l n r h
 refine qA0 (Xi82 a c g j m l n) Tryz.func141 Kr Kr rfl (t:=i82B k F a c g j m l n) ?_ h
 unfold i82B
 refine qA1 (eE:=[(0,.ptr 0 5 0),(1,.agg [.i a.f0,.str a.f1,q29 a.f2,.bool a.f3,.bool a.f4,w9 a.f5,w9 a.f6]),(2,.bool c)]) Kr ?_
 let u:Blk:=⟨[.str g,w44 j,.i m,.i l,.bool n],5,false⟩
 let o:Blk:=⟨[.i 0,.str [],.nils,.bool false,.bool false,.nils,.nils],0,false⟩
 refine oH 9 (atN 2 (ctl1 i82p1)) [(11,.slice 3 7 0 1 7),(10,n29 a),(6,.ptr 2 7 0),(4,.ptr 1 7 0),(0,.ptr 0 5 0),(1,n29 a),(2,.bool c)] (mkH [u,⟨e29 a,0,false⟩,o,⟨e29 a,0,false⟩]) ?_
 refine qAz 11 3 7 1 7 Kr rfl ?_
 let x:Blk:=⟨(([a]:List S28)).flatMap e29,0,false⟩
 let z:Blk:=⟨[.i 15,.str [],.own 3 (([a]:List S28)).length 7,.bool c,.bool false,.nils,.nils],7,false⟩
 refine oLH 6 i82p2 [(0,.ptr 0 5 0),(6,.ptr 2 7 0),(7,.ptr 4 7 0)] (mkH [u,⟨e29 a,0,false⟩,o,x,z]) ?_
 refine oR 2 (atN 1 (ctl1 i82p2)) ((14,.ptr 0 5 0)::[(0,.ptr 0 5 0),(6,.ptr 2 7 0),(7,.ptr 4 7 0)]) ?_
 refine oN (λ(b:Ri66) => .i b.1) (λb=>[⟨[.str g,w44 j,.i b.2.1,.i l,.bool b.2.2],5,false⟩,⟨e29 a,0,false⟩,o,x,z]) (atN 2 (ctl1 i82p2)) 15 [0] [] [] [.ptr 0 5 0,.i 9,.str [124,124]] (qBy k (9:Int) ([124,124]:LN) g j m l n) trivial (λ_=>trivial) λb q=>?_
 refine oL 4 i82p3 [(0,.ptr 0 5 0),(6,.ptr 2 7 0),(7,.ptr 4 7 0)] ?_
 exact (qKn k F A a c g j m l n k) b.2.1 b.2.2 ([a]:List S28)
theorem i82B_ok (k:Nat) (F:Fns1) (a:FnsOk1 F):Pi82 (i82B k F):=λb c g j l m n=>λx h=>i82B_all k F a b c g j l m n x h
def i83p1:Pt:=nav [0,0,0] (nav [0] (bodyAt Tryz.f143))
def i83p2:Pt:=nav [0,0,0] i83p1
def i83B (k:Nat) (F:Fns1) (j:LN) (c:LN) (g:List S43) (l:Int) (h:Int) (m:Bool):Option Ri83 :=
 (F.i67 (23:Int) ([]:LN) false false ([]:LL) ([]:LL) ([40]:LN) ([41]:LN) (0:Int) c g l h m ([]:List S28)).bind λa=>(F.i34 (22:Int) j false false ([]:LL) ([]:LL) c g a.2.2.2.2.2.2.1 h a.2.2.2.2.2.2.2.1 ([(⟨a.1,a.2.1,⟨(a.2.2.2.2.2.2.2.2).length,(a.2.2.2.2.2.2.2.2).flatMap e29⟩,a.2.2.1,a.2.2.2.1,a.2.2.2.2.1,a.2.2.2.2.2.1⟩:S28)]:List S28)).bind λb=>some ((⟨b.1,b.2.1,⟨(b.2.2.2.2.2.2.2.2).length,(b.2.2.2.2.2.2.2.2).flatMap e29⟩,b.2.2.1,b.2.2.2.1,b.2.2.2.2.1,b.2.2.2.2.2.1⟩:S28),b.2.2.2.2.2.2.2.1,b.2.2.2.2.2.2.1)
theorem i83B_all (k:Nat) (F:Fns1) (C:FnsOk1 F):∀ c g j m l n r,i83B k F c g j m l n=some r→CallT Tryz.prog 143 [.ptr 0 5 0,.str c] (mkH [⟨[.str g,w44 j,.i m,.i l,.bool n],5,false⟩]) ((Xi83 c g j m l n).thr r) ((Xi83 c g j m l n).enc r) ((Xi83 c g j m l n).fin r):=by
 intro c g j m l n r h
 refine qA0 (Xi83 c g j m l n) Tryz.func143 Kr Kr rfl (t:=i83B k F c g j m l n) ?_ h
 unfold i83B
 refine qA1 (eE:=[(0,.ptr 0 5 0),(1,.str c)]) Kr ?_
 let x:Env:=[(7,.agg [.i 23,.str [],.nils,.bool false,.bool false,.nils,.nils]),(6,.ptr 0 5 0),(4,.ptr 1 7 0),(0,.ptr 0 5 0),(1,.str c)]
 let D:Blk:=⟨[.str g,w44 j,.i m,.i l,.bool n],5,false⟩
 let o:Blk:=⟨[.i 0,.str [],.nils,.bool false,.bool false,.nils,.nils],0,false⟩
 refine oH 8 (atN 2 (ctl1 i83p1)) x (mkH [D,o]) ?_
 refine qAg (λ(a:Ri67) => .agg [.i a.1,.str a.2.1,.own 2 (a.2.2.2.2.2.2.2.2).length 7,.bool a.2.2.1,.bool a.2.2.2.1,w9 a.2.2.2.2.1,w9 a.2.2.2.2.2.1]) (λ(a:Ri67)=>(mkH [⟨[.str g,w44 j,.i a.2.2.2.2.2.2.1,.i l,.bool a.2.2.2.2.2.2.2.1],5,false⟩,o,⟨(a.2.2.2.2.2.2.2.2).flatMap e29,0,false⟩])) (atN 3 (ctl1 i83p1)) (λa=>((8,.agg [.i a.1,.str a.2.1,.own 2 (a.2.2.2.2.2.2.2.2).length 7,.bool a.2.2.1,.bool a.2.2.2.1,w9 a.2.2.2.2.1,w9 a.2.2.2.2.2.1])::x)) (fi:=113) (args:=[.ptr 0 5 0,.agg [.i 23,.str [],.nils,.bool false,.bool false,.nils,.nils],.str [40],.str [41],.i 0]) Kr (λa h=>frW 1 [D,o,⟨(([]:List S28)).flatMap e29,0,false⟩] (rs:=[0,2]) (ms:=[0,1]) (ms':=[0,1]) (mv:=[0,0,1]) (xs':=[.ptr 0 5 0,.agg [.i 23,.str [],.own 2 (([]:List S28)).length 7,.bool false,.bool false,w9 ([]:LL),w9 ([]:LL)],.str [40],.str [41],.i 0]) (.cons (.agg (.cons (.cons (.none (.cons (.cons (.nil (.nil (.refl)))))))) (.refl))) (C.i67_ok (23:Int) ([]:LN) false false ([]:LL) ([]:LL) ([40]:LN) ([41]:LN) (0:Int) g j m l n ([]:List S28) a h) ⟨u29 _,trivial⟩ ⟨u29 _,trivial⟩ Kr) (λ_=>by kernel_rfl) (λa z=>?_)
 let q:Blk:=⟨[.str g,w44 j,.i a.2.2.2.2.2.2.1,.i l,.bool a.2.2.2.2.2.2.2.1],5,false⟩
 let E:Blk:=⟨(a.2.2.2.2.2.2.2.2).flatMap e29,0,false⟩
 let G:Blk:=⟨[.i a.1,.str a.2.1,.own 2 (a.2.2.2.2.2.2.2.2).length 7,.bool a.2.2.1,.bool a.2.2.2.1,w9 a.2.2.2.2.1,w9 a.2.2.2.2.2.1],7,false⟩
 refine oH 4 i83p2 ((5,.ptr 3 7 0)::(8,.agg [.i a.1,.str a.2.1,.own 2 (a.2.2.2.2.2.2.2.2).length 7,.bool a.2.2.1,.bool a.2.2.2.1,w9 a.2.2.2.2.1,w9 a.2.2.2.2.2.1])::x) (mkH [q,o,E,G]) ?_
 let u:Blk:=⟨[.i a.1,.str a.2.1,w29 a.2.2.2.2.2.2.2.2,.bool a.2.2.1,.bool a.2.2.2.1,w9 a.2.2.2.2.1,w9 a.2.2.2.2.2.1],7,false⟩
 refine qB1 [q,o,E,G] [q,o,⟨[],0,false⟩,u] 2 (a.2.2.2.2.2.2.2.2).length 7 0 ((a.2.2.2.2.2.2.2.2).flatMap e29) [0,1,4,5] (env0:=[(0,.ptr 0 5 0),(1,.str c),(4,.ptr 1 7 0),(5,.ptr 3 7 0)]) (eE:=[(0,.ptr 0 5 0),(1,.str c),(4,.ptr 1 7 0),(5,.ptr 3 7 0)]) Kr rfl rfl (qA9 qA2 _) (Nat.zero_le _) (u29 _) Kr ⟨⟨rfl,.refl Kr⟩,⟨⟨rfl,.refl Kr⟩,⟨⟨rfl,.refl Kr⟩,⟨⟨rfl,.refl Kr⟩,trivial⟩⟩⟩⟩ ⟨.inr ⟨rfl,rfl,rfl,.refl Kr⟩,⟨.inr ⟨rfl,rfl,rfl,.refl Kr⟩,⟨.inl ⟨rfl,rfl⟩,⟨.inr ⟨rfl,rfl,rfl,.cons Kr (.cons Kr (.own (.refl Kr)))⟩,trivial⟩⟩⟩⟩ ?_
 let A:Env:=[(12,.slice 4 7 0 1 7),(11,.agg [.i a.1,.str a.2.1,w29 a.2.2.2.2.2.2.2.2,.bool a.2.2.1,.bool a.2.2.2.1,w9 a.2.2.2.2.1,w9 a.2.2.2.2.2.1]),(10,.str c),(9,.ptr 0 5 0),(0,.ptr 0 5 0),(1,.str c),(4,.ptr 1 7 0),(5,.ptr 3 7 0)]
 refine oH 5 (atN 4 (ctl1 i83p2)) A (mkH [q,o,⟨[],0,false⟩,u,⟨[.i a.1,.str a.2.1,w29 a.2.2.2.2.2.2.2.2,.bool a.2.2.1,.bool a.2.2.2.1,w9 a.2.2.2.2.1,w9 a.2.2.2.2.2.1],0,false⟩]) ?_
 refine qAz 12 4 7 1 7 Kr rfl ?_
 let I:Blk:=⟨(([(⟨a.1,a.2.1,⟨(a.2.2.2.2.2.2.2.2).length,(a.2.2.2.2.2.2.2.2).flatMap e29⟩,a.2.2.1,a.2.2.2.1,a.2.2.2.2.1,a.2.2.2.2.2.1⟩:S28)]:List S28)).flatMap e29,0,false⟩
 refine oH 1 (atN 5 (ctl1 i83p2)) ((13,.agg [.i 22,.str c,.own 4 (([(⟨a.1,a.2.1,⟨(a.2.2.2.2.2.2.2.2).length,(a.2.2.2.2.2.2.2.2).flatMap e29⟩,a.2.2.1,a.2.2.2.1,a.2.2.2.2.1,a.2.2.2.2.2.1⟩:S28)]:List S28)).length 7,.bool false,.bool false,.nils,.nils])::(12,.own 4 (([(⟨a.1,a.2.1,⟨(a.2.2.2.2.2.2.2.2).length,(a.2.2.2.2.2.2.2.2).flatMap e29⟩,a.2.2.1,a.2.2.2.1,a.2.2.2.2.1,a.2.2.2.2.2.1⟩:S28)]:List S28)).length 7)::A) (mkH [q,o,⟨[],0,false⟩,u,I]) ?_
 refine qAg (λ(b:Ri34) => .agg [.i b.1,.str b.2.1,.own 4 (b.2.2.2.2.2.2.2.2).length 7,.bool b.2.2.1,.bool b.2.2.2.1,w9 b.2.2.2.2.1,w9 b.2.2.2.2.2.1]) (λ(b:Ri34)=>(mkH [⟨[.str g,w44 j,.i b.2.2.2.2.2.2.2.1,.i l,.bool b.2.2.2.2.2.2.1],5,false⟩,o,⟨[],0,false⟩,u,⟨(b.2.2.2.2.2.2.2.2).flatMap e29,0,false⟩])) (atN 6 (ctl1 i83p2)) (λb=>((14,.agg [.i b.1,.str b.2.1,.own 4 (b.2.2.2.2.2.2.2.2).length 7,.bool b.2.2.1,.bool b.2.2.2.1,w9 b.2.2.2.2.1,w9 b.2.2.2.2.2.1])::(13,.agg [.i 22,.str c,.own 4 (([(⟨a.1,a.2.1,⟨(a.2.2.2.2.2.2.2.2).length,(a.2.2.2.2.2.2.2.2).flatMap e29⟩,a.2.2.1,a.2.2.2.1,a.2.2.2.2.1,a.2.2.2.2.2.1⟩:S28)]:List S28)).length 7,.bool false,.bool false,.nils,.nils])::(12,.own 4 (([(⟨a.1,a.2.1,⟨(a.2.2.2.2.2.2.2.2).length,(a.2.2.2.2.2.2.2.2).flatMap e29⟩,a.2.2.1,a.2.2.2.1,a.2.2.2.2.1,a.2.2.2.2.2.1⟩:S28)]:List S28)).length 7)::A)) (fi:=71) (args:=[.ptr 0 5 0,.agg [.i 22,.str c,.own 4 (([(⟨a.1,a.2.1,⟨(a.2.2.2.2.2.2.2.2).length,(a.2.2.2.2.2.2.2.2).flatMap e29⟩,a.2.2.1,a.2.2.2.1,a.2.2.2.2.1,a.2.2.2.2.2.1⟩:S28)]:List S28)).length 7,.bool false,.bool false,.nils,.nils]]) Kr (λb h=>frW 0 [q,o,⟨[],0,false⟩,u,I] (rs:=[0,4]) (ms:=[0,1]) (ms':=[0,1]) (mv:=[0,0,0,0,1]) (xs':=[.ptr 0 5 0,.agg [.i 22,.str c,.own 4 (([(⟨a.1,a.2.1,⟨(a.2.2.2.2.2.2.2.2).length,(a.2.2.2.2.2.2.2.2).flatMap e29⟩,a.2.2.1,a.2.2.2.1,a.2.2.2.2.1,a.2.2.2.2.2.1⟩:S28)]:List S28)).length 7,.bool false,.bool false,w9 ([]:LL),w9 ([]:LL)]]) (.cons (.agg (.cons (.cons (.cons (.cons (.cons (.nil (.nil (.refl)))))))) (.refl))) (C.i34_ok (22:Int) c false false ([]:LL) ([]:LL) g j a.2.2.2.2.2.2.1 l a.2.2.2.2.2.2.2.1 ([(⟨a.1,a.2.1,⟨(a.2.2.2.2.2.2.2.2).length,(a.2.2.2.2.2.2.2.2).flatMap e29⟩,a.2.2.1,a.2.2.2.1,a.2.2.2.2.1,a.2.2.2.2.2.1⟩:S28)]:List S28) b h) ⟨u29 _,trivial⟩ ⟨u29 _,trivial⟩ Kr) (λ_=>by kernel_rfl) (λb B=>?_)
 exact oQF 3 [⟨[.str g,w44 j,.i b.2.2.2.2.2.2.2.1,.i l,.bool b.2.2.2.2.2.2.1],5,false⟩,⟨[.i b.1,.str b.2.1,.own 4 (b.2.2.2.2.2.2.2.2).length 7,.bool b.2.2.1,.bool b.2.2.2.1,w9 b.2.2.2.2.1,w9 b.2.2.2.2.2.1],7,false⟩,⟨[],0,false⟩,u,⟨(b.2.2.2.2.2.2.2.2).flatMap e29,0,false⟩] 1 [] [.agg [.i b.1,.str b.2.1,.own 4 (b.2.2.2.2.2.2.2.2).length 7,.bool b.2.2.1,.bool b.2.2.2.1,w9 b.2.2.2.2.1,w9 b.2.2.2.2.2.1]] (.agg [.i b.1,.str b.2.1,w29 b.2.2.2.2.2.2.2.2,.bool b.2.2.1,.bool b.2.2.2.1,w9 b.2.2.2.2.1,w9 b.2.2.2.2.2.1]) (.agg (.cs (.cs (qAl qA2 qAf rfl rfl rfl .ps))) .ps) trivial
theorem i83B_ok (k:Nat) (F:Fns1) (a:FnsOk1 F):Pi83 (i83B k F):=λb c g j l m=>λx h=>i83B_all k F a b c g j l m x h
def i84p1:Pt:=nav [0,0,0] (nav [0] (bodyAt Tryz.f35))
def i84p2:Pt:=nav [0,0,0,0,0] i84p1
def i84p4:Pt:=nav [0,0] (nav [0,0,0] i84p2)
def i84p5:Pt:=nav [1,0,0,0] i84p4
def i84p6:Pt:=nav [2,0,0] i84p4
def i84p7:Pt:=nav [0,0,0] i84p5
def i84p9:Pt:=nav [0,0,0] i84p7
def i84p10:Pt:=nav [0,0,0] i84p9
def i84p11:Pt:=nav [0,0,0] i84p10
def i84p12:Pt:=nav [0,0,0,0] i84p11
def i84p13:Pt:=nav [0,0] i84p12
def i84p14:Pt:=nav [2,0] i84p13
def qH (k:Nat) (F:Fns1)  (n:LN) (o:List S43) (q:Int) (ih:Int→Bool→(List S28)→Option Ri84):Int→Bool→(List S28)→Option Ri84 :=
 λ(g:Int) (b:Bool) (h:List S28)=>jn (λ(u:Int×Bool×(List S28))=>some (u.1,u.2.1,u.2.2)) (λx=>if (!b) then ((i32 k n o g q b).bind λj=>(F.i20 (1:Int) n o j.2 q b).bind λc=>(F.i34 (22:Int) ([]:LN) false false ([]:LL) ([]:LL) n o c.2.1 q c.2.2 ([(⟨(23:Int),([]:LN),⟨(([c.1]:List S28)).length,(([c.1]:List S28)).flatMap e29⟩,false,false,([]:LL),([]:LL)⟩:S28)]:List S28)).bind λa=>(appS 104 h ([(⟨a.1,a.2.1,⟨(a.2.2.2.2.2.2.2.2).length,(a.2.2.2.2.2.2.2.2).flatMap e29⟩,a.2.2.1,a.2.2.2.1,j.1,a.2.2.2.2.2.1⟩:S28)]:List S28)).bind λl=>(i33 k ([59]:LN) n o a.2.2.2.2.2.2.2.1 q a.2.2.2.2.2.2.1).bind λr=>if (!r) then (x (a.2.2.2.2.2.2.2.1,a.2.2.2.2.2.2.1,l)) else ((i29 k n o a.2.2.2.2.2.2.2.1 q a.2.2.2.2.2.2.1).bind λm=>ih m.2.1 m.2.2 l)) else (x (g,b,h)))
def qM1 (k:Nat) (F:Fns1)  (a:LN) (b:List S43) (c:Int) (n:Nat):Int→Bool→(List S28)→Option Ri84:=lp (λ_ _ _=>none) (qH k F a b c) n
theorem qM0 (k:Nat) (F:Fns1) (hF:FnsOk1 F) (u:LN) (x:List S43) (a2:Int) (z:Int) (a4:Bool)    : ∀ (n:Nat) (o:Int) (j:Bool) (c:List S28),Ok (Xi84 u x a2 z a4) i84p2 [(0,.ptr 0 5 0),(3,.own 1 (c).length 7)] (mkH [⟨[.str u,w44 x,.i o,.i z,.bool j],5,false⟩,⟨(c).flatMap e29,0,false⟩]) (qM1 k F u x z n o j c):=by
 intro n
 induction n with
 | zero=>intro o j c; exact ok_none
 | succ n ih =>
  intro o j c
  show Ok _ _ _ _ (qH k F u x z (qM1 k F u x z n) o j c)
  unfold qH
  refine qAd (p':=nav [0] i84p2) Kr ?_
  let E1:Env:=[(11,.bool (!j)),(10,.bool j),(9,.ptr 0 5 4),(8,.ptr 0 5 0),(7,.ptr 0 5 0),(0,.ptr 0 5 0),(3,.own 1 (c).length 7)]
  let O:Blk:=⟨[.str u,w44 x,.i o,.i z,.bool j],5,false⟩
  let A:Blk:=⟨(c).flatMap e29,0,false⟩
  refine oH 9 i84p4 E1 (mkH [O,A]) ?_
  refine oJ i84p6 (λ(B:Int×Bool×(List S28))=>[(3,.own 1 (B.2.2).length 7)]) (λ(B:Int×Bool×(List S28))=>(mkH [⟨[.str u,w44 x,.i B.1,.i z,.bool B.2.1],5,false⟩,⟨(B.2.2).flatMap e29,0,false⟩])) (λB=>?_) (λj7 K=>?_)
  ·let Q3:Blk:=⟨[.str u,w44 x,.i B.1,.i z,.bool B.2.1],5,false⟩
   let Q4:Blk:=⟨(B.2.2).flatMap e29,0,false⟩
   refine oH 5 .fin [(2,.own 1 (B.2.2).length 7),(34,.own 1 (B.2.2).length 7),(3,.own 1 (B.2.2).length 7)] (mkH [Q3,Q4]) ?_
   exact qAx (r:=(B.1,B.2.1,B.2.2)) (xs:=[.own 1 (B.2.2).length 7]) [Q3,Q4] [] Kr Kr Kr Kr Kr ⟨Kr,⟨(qA _ (u29 _)),trivial⟩⟩ Kr Kr
  ·refine oS 11 (λQ=>?_) (λQ=>?_)
   ·refine oH 6 (atN 1 (ctl1 i84p5)) ((12,.ptr 0 5 0)::(11,.bool true)::E1) (mkH [O,A]) ?_
    refine oN (λ(g:Ri32)=>w9 g.1) (λg=>[⟨[.str u,w44 x,.i g.2,.i z,.bool j],5,false⟩,A]) (atN 2 (ctl1 i84p5)) 13 [0] [] [] [.ptr 0 5 0] (qBp k u x o z j) trivial (λ_=>trivial) λg S=>?_
    refine oL 3 i84p7 [(0,.ptr 0 5 0),(3,.own 1 (c).length 7),(4,w9 g.1)] ?_
    let E2:Env:=[(0,.ptr 0 5 0),(3,.own 1 (c).length 7),(4,w9 g.1)]
    refine oR 2 (atN 1 (ctl1 i84p7)) ((14,.ptr 0 5 0)::E2) ?_
    refine oN (λ(b:Ri20)=>n29 b.1) (λb=>[⟨[.str u,w44 x,.i b.2.1,.i z,.bool b.2.2],5,false⟩,A]) (atN 2 (ctl1 i84p7)) 15 [0] [] [] [.ptr 0 5 0,.i 1] (hF.i20_ok (1:Int) u x g.2 z j) trivial (λ_=>trivial) λb T=>?_
    let J:Blk:=⟨[.str u,w44 x,.i b.2.1,.i z,.bool b.2.2],5,false⟩
    refine oH 1 (atN 3 (ctl1 i84p7)) ((16,.slice 2 7 0 1 7)::(15,n29 b.1)::(14,.ptr 0 5 0)::E2) (mkH [J,A,⟨e29 b.1,0,false⟩]) ?_
    refine oZ 16 2 1 7 [.i b.1.f0,.str b.1.f1,q29 b.1.f2,.bool b.1.f3,.bool b.1.f4,w9 b.1.f5,w9 b.1.f6] [0,3,4,14,15] [0,1] ⟨u29 _,trivial⟩ ?_
    let N:Env:=[(20,.slice 4 7 0 1 7),(19,.agg [.i 23,.str [],w29 ([b.1]:List S28),.bool false,.bool false,.nils,.nils]),(18,.ptr 0 5 0),(5,.ptr 3 7 0),(17,.agg [.i 23,.str [],w29 ([b.1]:List S28),.bool false,.bool false,.nils,.nils]),(16,w29 ([b.1]:List S28)),(0,.ptr 0 5 0),(3,.own 1 (c).length 7),(4,w9 g.1),(14,.ptr 0 5 0),(15,n29 b.1)]
    let C:Blk:=⟨[.i 23,.str [],w29 ([b.1]:List S28),.bool false,.bool false,.nils,.nils],7,false⟩
    let Q7:Blk:=⟨[.i 23,.str [],w29 ([b.1]:List S28),.bool false,.bool false,.nils,.nils],0,false⟩
    refine oH 9 (atN 3 (ctl1 i84p9)) N (mkH [J,A,⟨[],0,false⟩,C,Q7]) ?_
    refine qAw [J,A,⟨[],0,false⟩,C,Q7] 4 0 [.i 23,.str [],w29 ([b.1]:List S28),.bool false,.bool false,.nils,.nils] [.i 23,.str [],w29 ([b.1]:List S28),.bool false,.bool false,w9 ([]:LL),w9 ([]:LL)] Kr rfl (.cons (.cons (.cons (.cons (.cons (.nil (.nil (.refl)))))))) ?_
    refine oHp (mkH [J,A,⟨[],0,false⟩,C,⟨[.i 23,.str [],w29 ([b.1]:List S28),.bool false,.bool false,w9 ([]:LL),w9 ([]:LL)],0,false⟩]) ?_
    refine qAz 20 4 7 1 7 Kr rfl ?_
    let Q8:Blk:=⟨(([(⟨(23:Int),([]:LN),⟨(([b.1]:List S28)).length,(([b.1]:List S28)).flatMap e29⟩,false,false,([]:LL),([]:LL)⟩:S28)]:List S28)).flatMap e29,0,false⟩
    refine oH 1 (atN 4 (ctl1 i84p9)) ((21,.agg [.i 22,.str [],.own 4 (([(⟨(23:Int),([]:LN),⟨(([b.1]:List S28)).length,(([b.1]:List S28)).flatMap e29⟩,false,false,([]:LL),([]:LL)⟩:S28)]:List S28)).length 7,.bool false,.bool false,.nils,.nils])::(20,.own 4 (([(⟨(23:Int),([]:LN),⟨(([b.1]:List S28)).length,(([b.1]:List S28)).flatMap e29⟩,false,false,([]:LL),([]:LL)⟩:S28)]:List S28)).length 7)::N) (mkH [J,A,⟨[],0,false⟩,C,Q8]) ?_
    refine qAg (λ(a:Ri34) => .agg [.i a.1,.str a.2.1,.own 4 (a.2.2.2.2.2.2.2.2).length 7,.bool a.2.2.1,.bool a.2.2.2.1,w9 a.2.2.2.2.1,w9 a.2.2.2.2.2.1]) (λ(a:Ri34)=>(mkH [⟨[.str u,w44 x,.i a.2.2.2.2.2.2.2.1,.i z,.bool a.2.2.2.2.2.2.1],5,false⟩,A,⟨[],0,false⟩,C,⟨(a.2.2.2.2.2.2.2.2).flatMap e29,0,false⟩])) (atN 5 (ctl1 i84p9)) (λa=>((22,.agg [.i a.1,.str a.2.1,.own 4 (a.2.2.2.2.2.2.2.2).length 7,.bool a.2.2.1,.bool a.2.2.2.1,w9 a.2.2.2.2.1,w9 a.2.2.2.2.2.1])::(21,.agg [.i 22,.str [],.own 4 (([(⟨(23:Int),([]:LN),⟨(([b.1]:List S28)).length,(([b.1]:List S28)).flatMap e29⟩,false,false,([]:LL),([]:LL)⟩:S28)]:List S28)).length 7,.bool false,.bool false,.nils,.nils])::(20,.own 4 (([(⟨(23:Int),([]:LN),⟨(([b.1]:List S28)).length,(([b.1]:List S28)).flatMap e29⟩,false,false,([]:LL),([]:LL)⟩:S28)]:List S28)).length 7)::N)) (fi:=71) (args:=[.ptr 0 5 0,.agg [.i 22,.str [],.own 4 (([(⟨(23:Int),([]:LN),⟨(([b.1]:List S28)).length,(([b.1]:List S28)).flatMap e29⟩,false,false,([]:LL),([]:LL)⟩:S28)]:List S28)).length 7,.bool false,.bool false,.nils,.nils]]) Kr (λa h=>frW 0 [J,A,⟨[],0,false⟩,C,Q8] (rs:=[0,4]) (ms:=[0,1]) (ms':=[0,1]) (mv:=[0,1,0,0,1]) (xs':=[.ptr 0 5 0,.agg [.i 22,.str [],.own 4 (([(⟨(23:Int),([]:LN),⟨(([b.1]:List S28)).length,(([b.1]:List S28)).flatMap e29⟩,false,false,([]:LL),([]:LL)⟩:S28)]:List S28)).length 7,.bool false,.bool false,w9 ([]:LL),w9 ([]:LL)]]) (.cons (.agg (.cons (.cons (.cons (.cons (.cons (.nil (.nil (.refl)))))))) (.refl))) (hF.i34_ok (22:Int) ([]:LN) false false ([]:LL) ([]:LL) u x b.2.1 z b.2.2 ([(⟨(23:Int),([]:LN),⟨(([b.1]:List S28)).length,(([b.1]:List S28)).flatMap e29⟩,false,false,([]:LL),([]:LL)⟩:S28)]:List S28) a h) ⟨u29 _,trivial⟩ ⟨u29 _,trivial⟩ Kr) (λ_=>by kernel_rfl) (λa U=>?_)
    let I:Blk:=⟨[.str u,w44 x,.i a.2.2.2.2.2.2.2.1,.i z,.bool a.2.2.2.2.2.2.1],5,false⟩
    let L:Blk:=⟨(a.2.2.2.2.2.2.2.2).flatMap e29,0,false⟩
    let M:Blk:=⟨[.i a.1,.str a.2.1,.own 4 (a.2.2.2.2.2.2.2.2).length 7,.bool a.2.2.1,.bool a.2.2.2.1,w9 a.2.2.2.2.1,w9 a.2.2.2.2.2.1],7,false⟩
    refine oH 4 i84p10 ((6,.ptr 5 7 0)::(22,.agg [.i a.1,.str a.2.1,.own 4 (a.2.2.2.2.2.2.2.2).length 7,.bool a.2.2.1,.bool a.2.2.2.1,w9 a.2.2.2.2.1,w9 a.2.2.2.2.2.1])::(21,.agg [.i 22,.str [],.own 4 (([(⟨(23:Int),([]:LN),⟨(([b.1]:List S28)).length,(([b.1]:List S28)).flatMap e29⟩,false,false,([]:LL),([]:LL)⟩:S28)]:List S28)).length 7,.bool false,.bool false,.nils,.nils])::(20,.own 4 (([(⟨(23:Int),([]:LN),⟨(([b.1]:List S28)).length,(([b.1]:List S28)).flatMap e29⟩,false,false,([]:LL),([]:LL)⟩:S28)]:List S28)).length 7)::N) (mkH [I,A,⟨[],0,false⟩,C,L,M]) ?_
    refine qB1 [I,A,⟨[],0,false⟩,C,L,M] [I,A,⟨[],0,false⟩,C,⟨[],0,false⟩,⟨[.i a.1,.str a.2.1,w29 a.2.2.2.2.2.2.2.2,.bool a.2.2.1,.bool a.2.2.2.1,w9 a.2.2.2.2.1,w9 a.2.2.2.2.2.1],7,false⟩] 4 (a.2.2.2.2.2.2.2.2).length 7 0 ((a.2.2.2.2.2.2.2.2).flatMap e29) [0,3,4,6] (env0:=[(0,.ptr 0 5 0),(3,.own 1 (c).length 7),(4,w9 g.1),(6,.ptr 5 7 0)]) (eE:=[(0,.ptr 0 5 0),(3,.own 1 (c).length 7),(4,w9 g.1),(6,.ptr 5 7 0)]) Kr rfl rfl (qA9 qA2 _) (Nat.zero_le _) (u29 _) Kr ⟨⟨rfl,.refl Kr⟩,⟨⟨rfl,.refl Kr⟩,⟨⟨rfl,.refl Kr⟩,⟨⟨rfl,.refl Kr⟩,trivial⟩⟩⟩⟩ ⟨.inr ⟨rfl,rfl,rfl,.refl Kr⟩,⟨.inr ⟨rfl,rfl,rfl,.refl (qAn _ (u29 _))⟩,⟨.inr ⟨rfl,rfl,rfl,.refl Kr⟩,⟨.inr ⟨rfl,rfl,rfl,.refl Kr⟩,⟨.inl ⟨rfl,rfl⟩,⟨.inr ⟨rfl,rfl,rfl,.cons Kr (.cons Kr (.own (.refl Kr)))⟩,trivial⟩⟩⟩⟩⟩⟩ ?_
    let D:Blk:=⟨[.i a.1,.str a.2.1,w29 a.2.2.2.2.2.2.2.2,.bool a.2.2.1,.bool a.2.2.2.1,w9 g.1,w9 a.2.2.2.2.2.1],7,false⟩
    let E:Blk:=⟨[.i a.1,.str a.2.1,w29 a.2.2.2.2.2.2.2.2,.bool a.2.2.1,.bool a.2.2.2.1,w9 g.1,w9 a.2.2.2.2.2.1],0,false⟩
    let K1:List Blk:=[I,A,⟨[],0,false⟩,C,⟨[],0,false⟩,D,E]
    refine oH 10 (atN 3 (ctl1 i84p11)) [(27,.slice 6 7 0 1 7),(26,.agg [.i a.1,.str a.2.1,w29 a.2.2.2.2.2.2.2.2,.bool a.2.2.1,.bool a.2.2.2.1,w9 g.1,w9 a.2.2.2.2.2.1]),(25,.own 1 (c).length 7),(24,.ptr 5 7 5),(23,w9 g.1),(0,.ptr 0 5 0),(3,.own 1 (c).length 7),(4,w9 g.1),(6,.ptr 5 7 0)] (mkH K1) ?_
    refine oC (λ(l:List S28)=>(.own 1 (l).length 7,(mkH [I,⟨(l).flatMap e29,0,false⟩,⟨[],0,false⟩,C,⟨[],0,false⟩,D,E]))) (atN 4 (ctl1 i84p11)) 28 (appH (sz:=7) qA2 rfl qAh K1 1 104 c ([(⟨a.1,a.2.1,⟨(a.2.2.2.2.2.2.2.2).length,(a.2.2.2.2.2.2.2.2).flatMap e29⟩,a.2.2.1,a.2.2.2.1,g.1,a.2.2.2.2.2.1⟩:S28)]:List S28) rfl rfl Kr) λl V=>?_
    let G:Blk:=⟨(l).flatMap e29,0,false⟩
    let K2:List Blk:=[I,G,⟨[],0,false⟩,C,⟨[],0,false⟩,D,E]
    refine oLH 4 i84p12 [(0,.ptr 0 5 0),(3,.own 1 (l).length 7)] (mkH K2) ?_
    let W:Env:=[(0,.ptr 0 5 0),(3,.own 1 (l).length 7)]
    refine oR 2 (atN 1 (ctl1 i84p12)) ((29,.ptr 0 5 0)::W) ?_
    refine oN (λ(q:Bool) => .bool q) (λq=>K2) (atN 2 (ctl1 i84p12)) 30 [0] [] [] [.ptr 0 5 0,.str [59]] (qAi k ([59]:LN) u x a.2.2.2.2.2.2.2.1 z a.2.2.2.2.2.2.1) trivial (λ_=>trivial) λq Y=>?_
    refine oR 2 i84p13 ((31,.bool (!q))::(30,.bool q)::(29,.ptr 0 5 0)::W) ?_
    refine oS 31 (λQ=>?_) (λQ=>?_)
    ·refine oL 3 i84p6 [(3,.own 1 (l).length 7)] ?_
     refine qA8 [I,G] [⟨[],0,false⟩,C,⟨[],0,false⟩,D,E] Kr rfl Kr ⟨Kr,⟨(qA _ (u29 _)),trivial⟩⟩ ?_
     exact K (a.2.2.2.2.2.2.2.1,a.2.2.2.2.2.2.1,l)
    ·refine oR 4 (atN 1 (ctl1 i84p14)) ((32,.ptr 0 5 0)::(31,.bool false)::(31,.bool (!q))::(30,.bool q)::(29,.ptr 0 5 0)::W) ?_
     refine oN (λ(m:Ri29) => .i m.1) (λm=>[⟨[.str u,w44 x,.i m.2.1,.i z,.bool m.2.2],5,false⟩,G,⟨[],0,false⟩,C,⟨[],0,false⟩,D,E]) (atN 2 (ctl1 i84p14)) 33 [0] [] [] [.ptr 0 5 0] (qAk k u x a.2.2.2.2.2.2.2.1 z a.2.2.2.2.2.2.1) trivial (λ_=>trivial) λm Z=>?_
     refine oL 1 i84p2 [(0,.ptr 0 5 0),(3,.own 1 (l).length 7)] ?_
     refine qA8 [⟨[.str u,w44 x,.i m.2.1,.i z,.bool m.2.2],5,false⟩,G] [⟨[],0,false⟩,C,⟨[],0,false⟩,D,E] Kr rfl Kr ⟨Kr,⟨(qA _ (u29 _)),trivial⟩⟩ ?_
     exact ih m.2.1 m.2.2 l
   ·refine oLH 3 i84p6 [(3,.own 1 (c).length 7)] (mkH [O,A]) ?_
    exact K (o,j,c)
def i84B (k:Nat) (F:Fns1) (a:LN) (b:List S43) (c:Int) (g:Int) (h:Bool):Option Ri84 :=
 qM1 k F a b g k c h ([]:List S28)
theorem i84B_all (k:Nat) (F:Fns1) (m:FnsOk1 F):∀ c g a j b r,i84B k F c g a j b=some r→CallT Tryz.prog 35 [.ptr 0 5 0] (mkH [⟨[.str c,w44 g,.i a,.i j,.bool b],5,false⟩]) ((Xi84 c g a j b).thr r) ((Xi84 c g a j b).enc r) ((Xi84 c g a j b).fin r):=by
 intro c g a j b r h
 refine qA0 (Xi84 c g a j b) Tryz.func35 Kr Kr rfl (t:=i84B k F c g a j b) ?_ h
 unfold i84B
 refine qA1 (eE:=[(0,.ptr 0 5 0)]) Kr ?_
 let l:Blk:=⟨[.str c,w44 g,.i a,.i j,.bool b],5,false⟩
 refine oH 7 (atN 1 (ctl1 i84p1)) [(3,.nils),(2,.nils),(0,.ptr 0 5 0)] (mkH [l]) ?_
 refine qCn [l] 3 7 rfl Kr ?_
 refine oLH 4 i84p2 [(0,.ptr 0 5 0),(3,.own 1 (([]:List S28)).length 7)] (mkH [l,⟨(([]:List S28)).flatMap e29,0,false⟩]) ?_
 exact (qM0 k F m c g a j b k) a b ([]:List S28)
theorem i84B_ok (k:Nat) (F:Fns1) (a:FnsOk1 F):Pi84 (i84B k F):=λb c g j l=>λx h=>i84B_all k F a b c g j l x h
def i87p2:Pt:=nav [0,0,0,0,0] (nav [0,0,0] (nav [0] (bodyAt Tryz.f147)))
def i87p3:Pt:=nav [0,0] i87p2
def i87p4:Pt:=nav [1,0] i87p3
def i87p5:Pt:=nav [2,0] i87p3
end
end Go.Proofs.YthpplbkobokghaaGreat.Am
