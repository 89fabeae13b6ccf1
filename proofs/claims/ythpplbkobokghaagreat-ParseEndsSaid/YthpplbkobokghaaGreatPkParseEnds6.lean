/- LawParseEnds, part 6: whatever the input, the law comes out true: our texts, joined by a tool, without what the claim does not name. -/
import Derived.Test.YthpplbkobokghaaGreatPkParseEnds5
import Derived.Below
import Derived.Test.YthpplbkobokghaaGreatRows
import Derived.WalkKit
import Derived.ProofKit
import Derived.OpenShut
import Derived.ShutString
import Derived.ChangeOld
import Derived.SizedLaws
set_option maxRecDepth 100000
set_option linter.unusedVariables false
set_option linter.unusedSimpArgs false
set_option maxRecDepth 100000
set_option linter.unusedVariables false
namespace Go.Proofs.YthpplbkobokghaaGreat.Am
noncomputable section
open Go
def i87p6:Pt:=nav [0,0,0] i87p4
def i87p7:Pt:=nav [0,0] i87p5
def i87p8:Pt:=nav [0,0] i87p6
def i87p9:Pt:=nav [1] i87p7
def i87p10:Pt:=nav [2] i87p7
def i87p11:Pt:=nav [0,0,0] i87p8
def i87p12:Pt:=nav [0,0,0,0] i87p11
def i87p13:Pt:=nav [0,0] i87p12
def i87p14:Pt:=nav [1,0] i87p13
def i87p15:Pt:=nav [2,0,0,0] i87p13
def i87p16:Pt:=nav [0,0] i87p14
def i87p17:Pt:=nav [0,0] i87p15
def i87p18:Pt:=nav [1,0] i87p17
def i87p19:Pt:=nav [2,0,0,0] i87p17
def i87p20:Pt:=nav [0,0,0] i87p18
def i87p21:Pt:=nav [0,0] i87p19
def i87p22:Pt:=nav [0,0,0,0] i87p20
def i87p25:Pt:=nav [0,0,0] i87p22
def i87p27:Pt:=nav [0,0] i87p25
def i87p28:Pt:=nav [1,0,0,0] i87p27
def i87p29:Pt:=nav [0,0] i87p28
def qF5 (k:Nat) (F:Fns1) (u:LN×Int×Bool→Option Ri87) (o:LN) (q:List S43) (r:Int) (x:Int×Bool×S28) (ih:LN→Int→Bool→Option Ri87):LN→Int→Bool→Option Ri87 :=
 λ(h:LN) (b:Int) (c:Bool)=>(i33 k ([45]:LN) o q b r c).bind λj=>if j then ((i29 k o q b r c).bind λa=>(catS h ([45]:LN)).bind λl=>(i31 k o q a.2.1 r a.2.2).bind λm=>(i65 k (decide (m.f0=1)) o q a.2.1 r a.2.2).bind λg=>(catS l g.1).bind λn=>ih n g.2.1 g.2.2) else (u (h,b,c))
def qGz (k:Nat) (F:Fns1) (a:LN×Int×Bool→Option Ri87) (c:LN) (g:List S43) (h:Int) (b:Int×Bool×S28) (n:Nat):LN→Int→Bool→Option Ri87:=lp (λ_ _ _=>none) (qF5 k F a c g h b) n
theorem qKm (k:Nat) (F:Fns1) (V:FnsOk1 F) (u:LN) (x:List S43) (O:Int) (z:Int) (Q:Bool) (A:LN×Int×Bool→Option Ri87) (a:Int×Bool×S28) (C:∀ r:LN×Int×Bool,Ok (Xi87 u x O z Q) i87p19 ((λ(r:LN×Int×Bool)=>[(2,.ptr 1 7 0),(3,.ptr 2 7 0),(4,.str r.1)]) r) ((λ(r:LN×Int×Bool)=>(mkH [⟨[.str u,w44 x,.i r.2.1,.i z,.bool r.2.2],5,false⟩,⟨[.i 0,.str [],.nils,.bool false,.bool false,.nils,.nils],0,false⟩,⟨[.i a.2.2.f0,.str a.2.2.f1,q29 a.2.2.f2,.bool a.2.2.f3,.bool a.2.2.f4,w9 a.2.2.f5,w9 a.2.2.f6],7,false⟩])) r) (A r)):∀ (n:Nat) (c:LN) (g:Int) (h:Bool),Ok (Xi87 u x O z Q) i87p22 [(0,.ptr 0 5 0),(2,.ptr 1 7 0),(3,.ptr 2 7 0),(4,.str c)] (mkH [⟨[.str u,w44 x,.i g,.i z,.bool h],5,false⟩,⟨[.i 0,.str [],.nils,.bool false,.bool false,.nils,.nils],0,false⟩,⟨[.i a.2.2.f0,.str a.2.2.f1,q29 a.2.2.f2,.bool a.2.2.f3,.bool a.2.2.f4,w9 a.2.2.f5,w9 a.2.2.f6],7,false⟩]) (qGz k F A u x z a n c g h):=by
 intro n
 induction n with
 | zero=>intro c g h; exact ok_none
 | succ n ih =>
  intro c g h
  show Ok _ _ _ _ (qF5 k F A u x z a (qGz k F A u x z a n) c g h)
  unfold qF5
  refine qAd (p':=nav [0] i87p22) Kr ?_
  let D:Env:=[(48,.ptr 0 5 0),(0,.ptr 0 5 0),(2,.ptr 1 7 0),(3,.ptr 2 7 0),(4,.str c)]
  let S:Blk:=⟨[.str u,w44 x,.i g,.i z,.bool h],5,false⟩
  let B:Blk:=⟨[.i 0,.str [],.nils,.bool false,.bool false,.nils,.nils],0,false⟩
  refine oH 4 (atN 1 (ctl1 i87p25)) D (mkH [S,B,⟨e29 a.2.2,7,false⟩]) ?_
  refine oN (λ(m:Bool) => .bool m) (λm=>[S,B,⟨e29 a.2.2,7,false⟩]) (atN 2 (ctl1 i87p25)) 49 [0] [] [] [.ptr 0 5 0,.str [45]] (qAi k ([45]:LN) u x g z h) trivial (λ_=>trivial) λm E=>?_
  refine oR 1 i87p27 ((49,.bool m)::D) ?_
  refine oS 49 (λU=>?_) (λU=>?_)
  ·refine oR 6 (atN 1 (ctl1 i87p28)) ((50,.ptr 0 5 0)::(49,.bool true)::(49,.bool m)::D) ?_
   refine oN (λ(b:Ri29) => .i b.1) (λb=>[⟨[.str u,w44 x,.i b.2.1,.i z,.bool b.2.2],5,false⟩,B,⟨e29 a.2.2,7,false⟩]) (atN 2 (ctl1 i87p28)) 51 [0] [] [] [.ptr 0 5 0] (qAk k u x g z h) trivial (λ_=>trivial) λb G=>?_
   let M:Env:=((52,.str c)::(51,.i b.1)::(50,.ptr 0 5 0)::(49,.bool true)::(49,.bool m)::D)
   refine oR 3 (atN 1 (ctl1 i87p29)) M ?_
   let N:Blk:=⟨[.str u,w44 x,.i b.2.1,.i z,.bool b.2.2],5,false⟩
   refine oC (λ(o:LN)=>(.str o,(mkH [N,B,⟨e29 a.2.2,7,false⟩]))) (atN 2 (ctl1 i87p29)) 53 (catH Kr) λo I=>?_
   refine oH 2 (atN 4 (ctl1 i87p29)) ((55,.ptr 0 5 0)::(54,.ptr 0 5 0)::(53,.str o)::M) (mkH [N,B,⟨e29 a.2.2,7,false⟩]) ?_
   refine oN (λ(l:S43)=>n44 l) (λl=>[N,B,⟨e29 a.2.2,7,false⟩]) (atN 5 (ctl1 i87p29)) 56 [0] [] [] [.ptr 0 5 0] (qBh k u x b.2.1 z b.2.2) trivial (λ_=>trivial) λl J=>?_
   refine oR 2 (atN 7 (ctl1 i87p29)) ((58,.bool (decide (l.f0=1)))::(57,.i l.f0)::(56,n44 l)::(55,.ptr 0 5 0)::(54,.ptr 0 5 0)::(53,.str o)::M) ?_
   refine oN (λ(j:Ri65) => .str j.1) (λj=>[⟨[.str u,w44 x,.i j.2.1,.i z,.bool j.2.2],5,false⟩,B,⟨e29 a.2.2,7,false⟩]) (atN 8 (ctl1 i87p29)) 59 [0] [] [] [.ptr 0 5 0,.bool (decide (l.f0=1))] (qC6 k (decide (l.f0=1)) u x b.2.1 z b.2.2) trivial (λ_=>trivial) λj K=>?_
   let T:Blk:=⟨[.str u,w44 x,.i j.2.1,.i z,.bool j.2.2],5,false⟩
   refine oC (λ(q:LN)=>(.str q,(mkH [T,B,⟨e29 a.2.2,7,false⟩]))) (atN 9 (ctl1 i87p29)) 60 (catH Kr) λq L=>?_
   refine oLH 2 i87p22 [(0,.ptr 0 5 0),(2,.ptr 1 7 0),(3,.ptr 2 7 0),(4,.str q)] (mkH [T,B,⟨e29 a.2.2,7,false⟩]) ?_
   exact ih q j.2.1 j.2.2
  ·refine oL 4 i87p19 [(2,.ptr 1 7 0),(3,.ptr 2 7 0),(4,.str c)] ?_
   exact C (c,g,h)
def i87B (k:Nat) (F:Fns1) (c:LN) (g:List S43) (G:Int) (h:Int) (I:Bool):Option Ri87 :=
 (i33 k ([40]:LN) c g G h I).bind λJ=>jn (λ(a:Int×Bool×S28)=>(i33 k ([58]:LN) c g a.1 h a.2.1).bind λK=>jn (λ(j:LN×Int×Bool)=>(i33 k ([47]:LN) c g j.2.1 h j.2.2).bind λA=>jn (λ(n:LN×Int×Bool)=>if (eqL n.1 []) then (some (a.2.2,n.2.1,n.2.2)) else (some ((⟨(7:Int),n.1,⟨(([a.2.2]:List S28)).length,(([a.2.2]:List S28)).flatMap e29⟩,false,false,([]:LL),([]:LL)⟩:S28),n.2.1,n.2.2))) (λL=>if A then ((i29 k c g j.2.1 h j.2.2).bind λb=>(catS j.1 ([47]:LN)).bind λB=>(i31 k c g b.2.1 h b.2.2).bind λC=>(i65 k (decide (C.f0=1)) c g b.2.1 h b.2.2).bind λl=>(catS B l.1).bind λD=>qGz k F L c g h a k D l.2.1 l.2.2) else (L (j.1,j.2.1,j.2.2)))) (λM=>if K then ((i29 k c g a.1 h a.2.1).bind λm=>(i31 k c g m.2.1 h m.2.2).bind λN=>(g142 k N).bind λO=>(i65 k O c g m.2.1 h m.2.2).bind λo=>(catS ([58]:LN) o.1).bind λQ=>M (Q,o.2.1,o.2.2)) else (M (([]:LN),a.1,a.2.1)))) (λE=>if J then ((i29 k c g G h I).bind λx=>(F.i20 (0:Int) c g x.2.1 h x.2.2).bind λq=>(i66 k (9:Int) ([41]:LN) c g q.2.1 h q.2.2).bind λz=>E (z.2.1,z.2.2,q.1)) else ((i33 k ([60,60]:LN) c g G h I).bind λS=>if S then ((F.i69 c g G h I).bind λr=>E (r.2.1,r.2.2,r.1)) else ((i31 k c g G h I).bind λT=>(g118 k T).bind λU=>(i65 k U c g G h I).bind λu=>E (u.2.1,u.2.2,(⟨1,u.1,(⟨(([]:List S28)).length,(([]:List S28)).flatMap e29⟩:Raw),false,false,([]:LL),([]:LL)⟩:S28)))))
theorem i87B_all (k:Nat) (F:Fns1) (hF:FnsOk1 F):∀ j l Q m S r,i87B k F j l Q m S=some r→CallT Tryz.prog 147 [.ptr 0 5 0] (mkH [⟨[.str j,w44 l,.i Q,.i m,.bool S],5,false⟩]) ((Xi87 j l Q m S).thr r) ((Xi87 j l Q m S).enc r) ((Xi87 j l Q m S).fin r):=by
 intro j l Q m S r h
 refine qA0 (Xi87 j l Q m S) Tryz.func147 Kr Kr rfl (t:=i87B k F j l Q m S) ?_ h
 unfold i87B
 refine qA1 (eE:=[(0,.ptr 0 5 0)]) Kr ?_
 let Q1:Blk:=⟨[.str j,w44 l,.i Q,.i m,.bool S],5,false⟩
 let b:Blk:=⟨[.i 0,.str [],.nils,.bool false,.bool false,.nils,.nils],0,false⟩
 refine oH 13 (atN 1 (ctl1 i87p2)) [(12,.ptr 0 5 0),(3,.ptr 2 7 0),(2,.ptr 1 7 0),(0,.ptr 0 5 0)] (mkH [Q1,b,b]) ?_
 refine oN (λ(M:Bool) => .bool M) (λM=>[Q1,b,b]) (atN 2 (ctl1 i87p2)) 13 [0] [] [] [.ptr 0 5 0,.str [40]] (qAi k ([40]:LN) j l Q m S) trivial (λ_=>trivial) λM c2=>?_
 let E1:Env:=[(11,.bool M),(13,.bool M),(12,.ptr 0 5 0),(3,.ptr 2 7 0),(2,.ptr 1 7 0),(0,.ptr 0 5 0)]
 refine oR 2 i87p3 E1 ?_
 refine oJ i87p11 (λ(a:Int×Bool×S28)=>[(0,.ptr 0 5 0),(2,.ptr 1 7 0),(3,.ptr 2 7 0)]) (λ(a:Int×Bool×S28)=>(mkH [⟨[.str j,w44 l,.i a.1,.i m,.bool a.2.1],5,false⟩,b,⟨e29 a.2.2,7,false⟩])) (λa=>?_) (λg1 V=>?_)
 ·let E2:Env:=[(25,.ptr 0 5 0),(4,.str []),(0,.ptr 0 5 0),(2,.ptr 1 7 0),(3,.ptr 2 7 0)]
  let Q3:Blk:=⟨[.str j,w44 l,.i a.1,.i m,.bool a.2.1],5,false⟩
  refine oH 7 (atN 1 (ctl1 i87p12)) E2 (mkH [Q3,b,⟨e29 a.2.2,7,false⟩]) ?_
  refine oN (λ(I:Bool) => .bool I) (λI=>[Q3,b,⟨e29 a.2.2,7,false⟩]) (atN 2 (ctl1 i87p12)) 26 [0] [] [] [.ptr 0 5 0,.str [58]] (qAi k ([58]:LN) j l a.1 m a.2.1) trivial (λ_=>trivial) λI c3=>?_
  refine oR 1 i87p13 ((26,.bool I)::E2) ?_
  refine oJ i87p15 (λ(u:LN×Int×Bool)=>[(0,.ptr 0 5 0),(2,.ptr 1 7 0),(3,.ptr 2 7 0),(4,.str u.1)]) (λ(u:LN×Int×Bool)=>(mkH [⟨[.str j,w44 l,.i u.2.1,.i m,.bool u.2.2],5,false⟩,b,⟨e29 a.2.2,7,false⟩])) (λu=>?_) (λg2 Y=>?_)
  ·let E3:Env:=[(35,.ptr 0 5 0),(0,.ptr 0 5 0),(2,.ptr 1 7 0),(3,.ptr 2 7 0),(4,.str u.1)]
   let Q4:Blk:=⟨[.str j,w44 l,.i u.2.1,.i m,.bool u.2.2],5,false⟩
   refine oH 2 (atN 1 (ctl1 i87p15)) E3 (mkH [Q4,b,⟨e29 a.2.2,7,false⟩]) ?_
   refine oN (λ(D:Bool) => .bool D) (λD=>[Q4,b,⟨e29 a.2.2,7,false⟩]) (atN 2 (ctl1 i87p15)) 36 [0] [] [] [.ptr 0 5 0,.str [47]] (qAi k ([47]:LN) j l u.2.1 m u.2.2) trivial (λ_=>trivial) λD b4=>?_
   refine oR 1 i87p17 ((36,.bool D)::E3) ?_
   refine oJ i87p19 (λ(A:LN×Int×Bool)=>[(2,.ptr 1 7 0),(3,.ptr 2 7 0),(4,.str A.1)]) (λ(A:LN×Int×Bool)=>(mkH [⟨[.str j,w44 l,.i A.2.1,.i m,.bool A.2.2],5,false⟩,b,⟨e29 a.2.2,7,false⟩])) (λA=>?_) (λc4 Z=>?_)
   ·let E4:Env:=[(62,.bool (eqL A.1 [])),(61,.str A.1),(2,.ptr 1 7 0),(3,.ptr 2 7 0),(4,.str A.1)]
    let Q5:Blk:=⟨[.str j,w44 l,.i A.2.1,.i m,.bool A.2.2],5,false⟩
    refine oH 4 i87p21 E4 (mkH [Q5,b,⟨e29 a.2.2,7,false⟩]) ?_
    refine oS 62 (λW=>?_) (λW=>?_)
    ·exact oQF 7 [Q5,⟨e29 a.2.2,7,false⟩,⟨e29 a.2.2,7,false⟩] 1 [] [n29 a.2.2] (n29 a.2.2) .ps trivial
    ·refine oH 7 (atN 3 (ctl1 (nav [2,0,0] i87p21))) ((66,.slice 3 7 0 1 7)::(65,n29 a.2.2)::(64,.str A.1)::(62,.bool false)::E4) (mkH [Q5,b,⟨e29 a.2.2,7,false⟩,⟨e29 a.2.2,0,false⟩]) ?_
     refine oZ 66 3 1 7 [.i a.2.2.f0,.str a.2.2.f1,q29 a.2.2.f2,.bool a.2.2.f3,.bool a.2.2.f4,w9 a.2.2.f5,w9 a.2.2.f6] [2,3,4,61,62,64,65] [] trivial ?_
     exact oQF 4 [Q5,⟨[.i 7,.str A.1,w29 ([a.2.2]:List S28),.bool false,.bool false,.nils,.nils],7,false⟩,⟨e29 a.2.2,7,false⟩,⟨[],0,false⟩] 1 [] [.agg [.i 7,.str A.1,w29 ([a.2.2]:List S28),.bool false,.bool false,.nils,.nils]] (.agg [.i 7,.str A.1,w29 ([a.2.2]:List S28),.bool false,.bool false,.vec 0 1 [],.vec 0 1 []]) (.agg (.cs (.cs (.cs (.cs (.cs (.nil (.nil .ps))))))) .ps) trivial
   ·refine oS 36 (λW=>?_) (λW=>?_)
    ·refine oH 4 (atN 1 (ctl1 i87p18)) ((37,.ptr 0 5 0)::(36,.bool true)::(36,.bool D)::E3) (mkH [Q4,b,⟨e29 a.2.2,7,false⟩]) ?_
     refine oN (λ(c:Ri29) => .i c.1) (λc=>[⟨[.str j,w44 l,.i c.2.1,.i m,.bool c.2.2],5,false⟩,b,⟨e29 a.2.2,7,false⟩]) (atN 2 (ctl1 i87p18)) 38 [0] [] [] [.ptr 0 5 0] (qAk k j l u.2.1 m u.2.2) trivial (λ_=>trivial) λc b6=>?_
     let E6:Env:=((39,.str u.1)::(38,.i c.1)::(37,.ptr 0 5 0)::(36,.bool true)::(36,.bool D)::E3)
     refine oR 4 (atN 1 (ctl1 i87p20)) E6 ?_
     let Q6:Blk:=⟨[.str j,w44 l,.i c.2.1,.i m,.bool c.2.2],5,false⟩
     refine oC (λ(K:LN)=>(.str K,(mkH [Q6,b,⟨e29 a.2.2,7,false⟩]))) (atN 2 (ctl1 i87p20)) 40 (catH Kr) λK b7=>?_
     refine oH 2 (atN 4 (ctl1 i87p20)) ((42,.ptr 0 5 0)::(41,.ptr 0 5 0)::(40,.str K)::E6) (mkH [Q6,b,⟨e29 a.2.2,7,false⟩]) ?_
     refine oN (λ(x:S43)=>n44 x) (λx=>[Q6,b,⟨e29 a.2.2,7,false⟩]) (atN 5 (ctl1 i87p20)) 43 [0] [] [] [.ptr 0 5 0] (qBh k j l c.2.1 m c.2.2) trivial (λ_=>trivial) λx b8=>?_
     refine oR 2 (atN 7 (ctl1 i87p20)) ((45,.bool (decide (x.f0=1)))::(44,.i x.f0)::(43,n44 x)::(42,.ptr 0 5 0)::(41,.ptr 0 5 0)::(40,.str K)::E6) ?_
     refine oN (λ(n:Ri65) => .str n.1) (λn=>[⟨[.str j,w44 l,.i n.2.1,.i m,.bool n.2.2],5,false⟩,b,⟨e29 a.2.2,7,false⟩]) (atN 8 (ctl1 i87p20)) 46 [0] [] [] [.ptr 0 5 0,.bool (decide (x.f0=1))] (qC6 k (decide (x.f0=1)) j l c.2.1 m c.2.2) trivial (λ_=>trivial) λn b9=>?_
     let Q7:Blk:=⟨[.str j,w44 l,.i n.2.1,.i m,.bool n.2.2],5,false⟩
     refine oC (λ(L:LN)=>(.str L,(mkH [Q7,b,⟨e29 a.2.2,7,false⟩]))) (atN 9 (ctl1 i87p20)) 47 (catH Kr) λL c0=>?_
     refine oLH 4 i87p22 [(0,.ptr 0 5 0),(2,.ptr 1 7 0),(3,.ptr 2 7 0),(4,.str L)] (mkH [Q7,b,⟨e29 a.2.2,7,false⟩]) ?_
     exact (qKm k F hF j l Q m S c4 a Z k) L n.2.1 n.2.2
    ·refine oLH 4 i87p19 [(2,.ptr 1 7 0),(3,.ptr 2 7 0),(4,.str u.1)] (mkH [Q4,b,⟨e29 a.2.2,7,false⟩]) ?_
     exact Z (u.1,u.2.1,u.2.2)
  ·refine oS 26 (λW=>?_) (λW=>?_)
   ·refine oH 4 (atN 1 (ctl1 i87p14)) ((27,.ptr 0 5 0)::(26,.bool true)::(26,.bool I)::E2) (mkH [Q3,b,⟨e29 a.2.2,7,false⟩]) ?_
    refine oN (λ(o:Ri29) => .i o.1) (λo=>[⟨[.str j,w44 l,.i o.2.1,.i m,.bool o.2.2],5,false⟩,b,⟨e29 a.2.2,7,false⟩]) (atN 2 (ctl1 i87p14)) 28 [0] [] [] [.ptr 0 5 0] (qAk k j l a.1 m a.2.1) trivial (λ_=>trivial) λo c7=>?_
    refine oR 4 (atN 2 (ctl1 i87p16)) ((30,.ptr 0 5 0)::(29,.ptr 0 5 0)::(28,.i o.1)::(27,.ptr 0 5 0)::(26,.bool true)::(26,.bool I)::E2) ?_
    refine oN (λ(N:S43)=>n44 N) (λN=>[⟨[.str j,w44 l,.i o.2.1,.i m,.bool o.2.2],5,false⟩,b,⟨e29 a.2.2,7,false⟩]) (atN 3 (ctl1 i87p16)) 31 [0] [] [] [.ptr 0 5 0] (qBh k j l o.2.1 m o.2.2) trivial (λ_=>trivial) λN c8=>?_
    refine oA (λ(T:Bool) => .bool T) (atN 4 (ctl1 i87p16)) 32 [n44 N] (qOl k N) λT c9=>?_
    refine oN (λ(B:Ri65) => .str B.1) (λB=>[⟨[.str j,w44 l,.i B.2.1,.i m,.bool B.2.2],5,false⟩,b,⟨e29 a.2.2,7,false⟩]) (atN 5 (ctl1 i87p16)) 33 [0] [] [] [.ptr 0 5 0,.bool T] (qC6 k T j l o.2.1 m o.2.2) trivial (λ_=>trivial) λB d0=>?_
    let Q8:Blk:=⟨[.str j,w44 l,.i B.2.1,.i m,.bool B.2.2],5,false⟩
    refine oC (λ(U:LN)=>(.str U,(mkH [Q8,b,⟨e29 a.2.2,7,false⟩]))) (atN 6 (ctl1 i87p16)) 34 (catH Kr) λU d1=>?_
    refine oLH 4 i87p15 [(0,.ptr 0 5 0),(2,.ptr 1 7 0),(3,.ptr 2 7 0),(4,.str U)] (mkH [Q8,b,⟨e29 a.2.2,7,false⟩]) ?_
    exact Y (U,B.2.1,B.2.2)
   ·refine oLH 4 i87p15 [(0,.ptr 0 5 0),(2,.ptr 1 7 0),(3,.ptr 2 7 0),(4,.str [])] (mkH [Q3,b,⟨e29 a.2.2,7,false⟩]) ?_
    exact Y (([]:LN),a.1,a.2.1)
 ·refine oS 11 (λW=>?_) (λW=>?_)
  ·refine oH 4 (atN 1 (ctl1 i87p4)) ((14,.ptr 0 5 0)::(11,.bool true)::E1) (mkH [Q1,b,b]) ?_
   refine oN (λ(E:Ri29) => .i E.1) (λE=>[⟨[.str j,w44 l,.i E.2.1,.i m,.bool E.2.2],5,false⟩,b,b]) (atN 2 (ctl1 i87p4)) 15 [0] [] [] [.ptr 0 5 0] (qAk k j l Q m S) trivial (λ_=>trivial) λE d2=>?_
   refine oR 4 (atN 1 (ctl1 i87p6)) ((16,.ptr 0 5 0)::(15,.i E.1)::(14,.ptr 0 5 0)::(11,.bool true)::E1) ?_
   refine oN (λ(q:Ri20)=>n29 q.1) (λq=>[⟨[.str j,w44 l,.i q.2.1,.i m,.bool q.2.2],5,false⟩,b,b]) (atN 2 (ctl1 i87p6)) 17 [0] [] [] [.ptr 0 5 0,.i 0] (hF.i20_ok (0:Int) j l E.2.1 m E.2.2) trivial (λ_=>trivial) λq d3=>?_
   let a7:Env:=[(0,.ptr 0 5 0),(2,.ptr 1 7 0),(3,.ptr 2 7 0)]
   refine oLH 2 i87p8 a7 (mkH [⟨[.str j,w44 l,.i q.2.1,.i m,.bool q.2.2],5,false⟩,b,⟨e29 q.1,7,false⟩]) ?_
   refine oR 2 (atN 1 (ctl1 i87p8)) ((18,.ptr 0 5 0)::a7) ?_
   refine oN (λ(G:Ri66) => .i G.1) (λG=>[⟨[.str j,w44 l,.i G.2.1,.i m,.bool G.2.2],5,false⟩,b,⟨e29 q.1,7,false⟩]) (atN 2 (ctl1 i87p8)) 19 [0] [] [] [.ptr 0 5 0,.i 9,.str [41]] (qBy k (9:Int) ([41]:LN) j l q.2.1 m q.2.2) trivial (λ_=>trivial) λG d4=>?_
   refine oL 2 i87p11 [(0,.ptr 0 5 0),(2,.ptr 1 7 0),(3,.ptr 2 7 0)] ?_
   exact V (G.2.1,G.2.2,q.1)
  ·refine oH 4 (atN 1 (ctl1 i87p5)) ((21,.ptr 0 5 0)::(11,.bool false)::E1) (mkH [Q1,b,b]) ?_
   refine oN (λ(C:Bool) => .bool C) (λC=>[Q1,b,b]) (atN 2 (ctl1 i87p5)) 22 [0] [] [] [.ptr 0 5 0,.str [60,60]] (qAi k ([60,60]:LN) j l Q m S) trivial (λ_=>trivial) λC d5=>?_
   refine oR 2 i87p7 ((20,.bool C)::(22,.bool C)::(21,.ptr 0 5 0)::(11,.bool false)::E1) ?_
   refine oS 20 (λW=>?_) (λW=>?_)
   ·refine oR 3 (atN 1 (ctl1 i87p9)) ((23,.ptr 0 5 0)::(20,.bool true)::(20,.bool C)::(22,.bool C)::(21,.ptr 0 5 0)::(11,.bool false)::E1) ?_
    refine oN (λ(z:Ri69)=>n29 z.1) (λz=>[⟨[.str j,w44 l,.i z.2.1,.i m,.bool z.2.2],5,false⟩,b,b]) (atN 2 (ctl1 i87p9)) 24 [0] [] [] [.ptr 0 5 0] (hF.i69_ok j l Q m S) trivial (λ_=>trivial) λz d6=>?_
    refine oLH 3 i87p11 [(0,.ptr 0 5 0),(2,.ptr 1 7 0),(3,.ptr 2 7 0)] (mkH [⟨[.str j,w44 l,.i z.2.1,.i m,.bool z.2.2],5,false⟩,b,⟨e29 z.1,7,false⟩]) ?_
    exact V (z.2.1,z.2.2,z.1)
   ·let a8:Env:=((6,.ptr 0 5 0)::(5,.ptr 0 5 0)::(20,.bool false)::(20,.bool C)::(22,.bool C)::(21,.ptr 0 5 0)::(11,.bool false)::E1)
    refine oR 4 (atN 2 (ctl1 i87p10)) a8 ?_
    refine oN (λ(J:S43)=>n44 J) (λJ=>[Q1,b,b]) (atN 3 (ctl1 i87p10)) 7 [0] [] [] [.ptr 0 5 0] (qBh k j l Q m S) trivial (λ_=>trivial) λJ d9=>?_
    refine oA (λ(O:Bool) => .bool O) (atN 4 (ctl1 i87p10)) 8 [n44 J] (qOn k J) λO e0=>?_
    refine oN (λ(g:Ri65) => .str g.1) (λg=>[⟨[.str j,w44 l,.i g.2.1,.i m,.bool g.2.2],5,false⟩,b,b]) (atN 5 (ctl1 i87p10)) 9 [0] [] [] [.ptr 0 5 0,.bool O] (qC6 k O j l Q m S) trivial (λ_=>trivial) λg e1=>?_
    let Q9:Blk:=⟨[.str j,w44 l,.i g.2.1,.i m,.bool g.2.2],5,false⟩
    let a9:Blk:=⟨[.i 1,.str g.1,.nils,.bool false,.bool false,.nils,.nils],7,false⟩
    refine oH 4 i87p11 ((10,.agg [.i 1,.str g.1,.nils,.bool false,.bool false,.nils,.nils])::(9,.str g.1)::(8,.bool O)::(7,n44 J)::a8) (mkH [Q9,b,a9]) ?_
    refine qAw [Q9,b,a9] 2 7 [.i 1,.str g.1,.nils,.bool false,.bool false,.nils,.nils] [.i 1,.str g.1,w29 ([]:List S28),.bool false,.bool false,w9 ([]:LL),w9 ([]:LL)] Kr rfl (.cons (.cons (.nil (.cons (.cons (.nil (.nil (.refl)))))))) ?_
    refine oHp (mkH [Q9,b,⟨[.i 1,.str g.1,w29 ([]:List S28),.bool false,.bool false,w9 ([]:LL),w9 ([]:LL)],7,false⟩]) ?_
    refine oK [0,2,3] [(0,.ptr 0 5 0),(2,.ptr 1 7 0),(3,.ptr 2 7 0)] ?_
    exact V (g.2.1,g.2.2,(⟨1,g.1,(⟨(([]:List S28)).length,(([]:List S28)).flatMap e29⟩:Raw),false,false,([]:LL),([]:LL)⟩:S28))
theorem i87B_ok (k:Nat) (F:Fns1) (a:FnsOk1 F):Pi87 (i87B k F):=λb c g j l=>λx h=>i87B_all k F a b c g j l x h
def par1 (n:Nat):Fns1:=Nat.rec (motive:=λ_=>Fns1) ⟨λ_ _ _ _ _ _=>none,λ_ _ _ _ _=>none,λ_ _ _ _ _=>none,λ_ _ _ _ _=>none,λ_ _ _ _ _ _ _ _ _ _ _ _=>none,λ_ _ _ _ _=>none,λ_ _ _ _ _ _ _=>none,λ_ _ _ _ _=>none,λ_ _ _ _ _ _ _ _ _ _ _ _ _=>none,λ_ _ _ _ _ _ _ _ _ _ _ _ _ _ _=>none,λ_ _ _ _ _=>none,λ_ _ _ _ _=>none,λ_ _ _ _ _=>none,λ_ _ _ _ _=>none,λ_ _ _ _ _=>none,λ_ _ _ _ _=>none,λ_ _ _ _ _ _=>none,λ_ _ _ _ _ _ _=>none,λ_ _ _ _ _ _ _=>none,λ_ _ _ _ _ _=>none,λ_ _ _ _ _=>none,λ_ _ _ _ _=>none⟩ (λk F=>⟨i20B k F,i21B k F,i22B k F,i30B k F,i34B k F,i49B k F,i50B k F,i52B k F,i53B k F,i67B k F,i68B k F,i69B k F,i70B k F,i71B k F,i73B k F,i74B k F,i75B k F,i81B k F,i82B k F,i83B k F,i84B k F,i87B k F⟩) n
theorem qAa : ∀ k, FnsOk1 (par1 k)
 | 0=>⟨(λ_ _ _ _ _ _ _ h=>nomatch h),(λ_ _ _ _ _ _ h=>nomatch h),(λ_ _ _ _ _ _ h=>nomatch h),(λ_ _ _ _ _ _ h=>nomatch h),(λ_ _ _ _ _ _ _ _ _ _ _ _ _ h=>nomatch h),(λ_ _ _ _ _ _ h=>nomatch h),(λ_ _ _ _ _ _ _ _ h=>nomatch h),(λ_ _ _ _ _ _ h=>nomatch h),(λ_ _ _ _ _ _ _ _ _ _ _ _ _ _ h=>nomatch h),(λ_ _ _ _ _ _ _ _ _ _ _ _ _ _ _ _ h=>nomatch h),(λ_ _ _ _ _ _ h=>nomatch h),(λ_ _ _ _ _ _ h=>nomatch h),(λ_ _ _ _ _ _ h=>nomatch h),(λ_ _ _ _ _ _ h=>nomatch h),(λ_ _ _ _ _ _ h=>nomatch h),(λ_ _ _ _ _ _ h=>nomatch h),(λ_ _ _ _ _ _ _ h=>nomatch h),(λ_ _ _ _ _ _ _ _ h=>nomatch h),(λ_ _ _ _ _ _ _ _ h=>nomatch h),(λ_ _ _ _ _ _ _ h=>nomatch h),(λ_ _ _ _ _ _ h=>nomatch h),(λ_ _ _ _ _ _ h=>nomatch h)⟩
 | k+1=>⟨i20B_ok k (par1 k) (qAa k),i21B_ok k (par1 k) (qAa k),i22B_ok k (par1 k) (qAa k),i30B_ok k (par1 k) (qAa k),i34B_ok k (par1 k) (qAa k),i49B_ok k (par1 k) (qAa k),i50B_ok k (par1 k) (qAa k),i52B_ok k (par1 k) (qAa k),i53B_ok k (par1 k) (qAa k),i67B_ok k (par1 k) (qAa k),i68B_ok k (par1 k) (qAa k),i69B_ok k (par1 k) (qAa k),i70B_ok k (par1 k) (qAa k),i71B_ok k (par1 k) (qAa k),i73B_ok k (par1 k) (qAa k),i74B_ok k (par1 k) (qAa k),i75B_ok k (par1 k) (qAa k),i81B_ok k (par1 k) (qAa k),i82B_ok k (par1 k) (qAa k),i83B_ok k (par1 k) (qAa k),i84B_ok k (par1 k) (qAa k),i87B_ok k (par1 k) (qAa k)⟩
def i20 (k:Nat):Ti20:=(par1 k).i20
theorem i20_ok (k:Nat):Pi20 (i20 k):=(qAa k).i20_ok
def i21 (k:Nat):Ti21:=(par1 k).i21
theorem i21_ok (k:Nat):Pi21 (i21 k):=(qAa k).i21_ok
def i22 (k:Nat):Ti22:=(par1 k).i22
theorem i22_ok (k:Nat):Pi22 (i22 k):=(qAa k).i22_ok
def i30 (k:Nat):Ti30:=(par1 k).i30
theorem i30_ok (k:Nat):Pi30 (i30 k):=(qAa k).i30_ok
def i34 (k:Nat):Ti34:=(par1 k).i34
theorem i34_ok (k:Nat):Pi34 (i34 k):=(qAa k).i34_ok
def i49 (k:Nat):Ti49:=(par1 k).i49
theorem i49_ok (k:Nat):Pi49 (i49 k):=(qAa k).i49_ok
def i50 (k:Nat):Ti50:=(par1 k).i50
theorem i50_ok (k:Nat):Pi50 (i50 k):=(qAa k).i50_ok
def i52 (k:Nat):Ti52:=(par1 k).i52
theorem i52_ok (k:Nat):Pi52 (i52 k):=(qAa k).i52_ok
def i53 (k:Nat):Ti53:=(par1 k).i53
theorem i53_ok (k:Nat):Pi53 (i53 k):=(qAa k).i53_ok
def i67 (k:Nat):Ti67:=(par1 k).i67
theorem i67_ok (k:Nat):Pi67 (i67 k):=(qAa k).i67_ok
def i68 (k:Nat):Ti68:=(par1 k).i68
theorem i68_ok (k:Nat):Pi68 (i68 k):=(qAa k).i68_ok
def i69 (k:Nat):Ti69:=(par1 k).i69
theorem i69_ok (k:Nat):Pi69 (i69 k):=(qAa k).i69_ok
def i70 (k:Nat):Ti70:=(par1 k).i70
theorem i70_ok (k:Nat):Pi70 (i70 k):=(qAa k).i70_ok
def i71 (k:Nat):Ti71:=(par1 k).i71
theorem i71_ok (k:Nat):Pi71 (i71 k):=(qAa k).i71_ok
def i73 (k:Nat):Ti73:=(par1 k).i73
theorem i73_ok (k:Nat):Pi73 (i73 k):=(qAa k).i73_ok
def i74 (k:Nat):Ti74:=(par1 k).i74
theorem i74_ok (k:Nat):Pi74 (i74 k):=(qAa k).i74_ok
def i75 (k:Nat):Ti75:=(par1 k).i75
theorem i75_ok (k:Nat):Pi75 (i75 k):=(qAa k).i75_ok
def i81 (k:Nat):Ti81:=(par1 k).i81
theorem i81_ok (k:Nat):Pi81 (i81 k):=(qAa k).i81_ok
def i82 (k:Nat):Ti82:=(par1 k).i82
theorem i82_ok (k:Nat):Pi82 (i82 k):=(qAa k).i82_ok
def i83 (k:Nat):Ti83:=(par1 k).i83
theorem i83_ok (k:Nat):Pi83 (i83 k):=(qAa k).i83_ok
def i84 (k:Nat):Ti84:=(par1 k).i84
theorem i84_ok (k:Nat):Pi84 (i84 k):=(qAa k).i84_ok
def i87 (k:Nat):Ti87:=(par1 k).i87
theorem i87_ok (k:Nat):Pi87 (i87 k):=(qAa k).i87_ok
def Xg7:Fx (S28×Int×Int):=⟨Tryz.prog,cx,Tryz.f7,λr => .tuple [.agg [.i r.1.f0,.str r.1.f1,q29 r.1.f2,.bool r.1.f3,.bool r.1.f4,w9 r.1.f5,w9 r.1.f6],.i r.2.1,.i r.2.2],0,λ_=>H0,cxTi,cxOrd,λ_=>none,false⟩
def g7p1:Pt:=nav [0,0,0] (nav [0] (bodyAt Tryz.f7))
def g7p2:Pt:=nav [0,0,0,0] g7p1
def g7p5:Pt:=nav [2,0,0] (nav [0,0] g7p2)
def g7p8:Pt:=nav [0,0] (nav [0,0,0,0] g7p5)
def g7p10:Pt:=nav [2,0,0] g7p8
def g7d0:DP:=⟨[],[(0,0,0),(0,0,0),(2,0,0),(6,0,0),(14,0,1),(1,0,0),(63,0,0),(127,0,0)],8,thrown,[],H0⟩
def g7 (k:Nat) (c:LN) (g:List S43) (h:Int) (j:Int) (l:Int):Option (S28×Int×Int) :=
 orO (i1 k c g h j) (λa=>some ((⟨(0:Int),([]:LN),⟨0,[]⟩,false,false,([]:LL),([]:LL)⟩:S28),(0:Int),(8:Int))) ((i8 k c g h j).bind λa=>(i20 k l a.1 a.2.1 a.2.2.1 a.2.2.2.1 a.2.2.2.2).bind λb=>if b.2.2 then (some ((⟨(0:Int),([]:LN),⟨0,[]⟩,false,false,([]:LL),([]:LL)⟩:S28),(0:Int),(8:Int))) else (some (b.1,b.2.1,(0:Int))))
theorem g7_ok (k:Nat) (g:LN) (j:List S43) (l:Int) (m:Int) (c:Int) (r:(S28×Int×Int)) (h:g7 k g j l m c=some r):PureOk Tryz.prog 7 [.str g,w44 j,.i l,.i m,.i c] (.tuple [.agg [.i r.1.f0,.str r.1.f1,q29 r.1.f2,.bool r.1.f3,.bool r.1.f4,w9 r.1.f5,w9 r.1.f6],.i r.2.1,.i r.2.2]):=by
 refine qA5 Xg7 (λ_=>⟨rfl,rfl⟩) Tryz.func7 (by decide +kernel) Kr (t:=g7 k g j l m c) ?_ h
 unfold g7
 refine qA1 (eE:=[(0,.str g),(1,w44 j),(2,.i l),(3,.i m),(4,.i c)]) Kr ?_
 let o:Blk:=⟨[.i 0,.str [],.nils,.bool false,.bool false,.nils,.nils],0,false⟩
 refine oH 12 (atN 4 (ctl1 g7p1)) [(18,.i m),(17,.i l),(16,w44 j),(15,.str g),(12,.i 0),(11,.i 0),(10,.ptr 0 7 0),(0,.str g),(1,w44 j),(2,.i l),(3,.i m),(4,.i c)] (mkH [o]) ?_
 refine ok_orO ?_ ?_
 ·refine oN (λ(a:Unit) => .nilp) (λa=>[o]) (atN 5 (ctl1 g7p1)) 19 [] [] [] [.str g,w44 j,.i l,.i m] (i1_ok k g j l m) trivial (λ_=>trivial) λa n=>?_
  refine oL 4 g7p2 [(4,.i c),(10,.ptr 0 7 0),(13,.nilp)] ?_
  refine oH 13 .fin ((12,.i 8)::(11,.i 0)::(22,.agg [.i 0,.str [],.nils,.bool false,.bool false,.nils,.nils])::(21,.bool true)::(20,.nilp)::[(4,.i c),(10,.ptr 0 7 0),(13,.nilp)]) (mkH [⟨[.i 0,.str [],.nils,.bool false,.bool false,.nils,.nils],7,false⟩]) ?_
  exact oT [.agg [.i 0,.str [],.nils,.bool false,.bool false,.nils,.nils],.i 0,.i 8] (.tuple [.agg [.i 0,.str [],.vec 0 7 [],.bool false,.bool false,.vec 0 1 [],.vec 0 1 []],.i 0,.i 8]) (.tuple (.agg (.cs (.cs (.nil (.cs (.cs (.nil (.nil .ps))))))) .ps) .ps)
 ·refine oN (λ(a:Ri8) => .ptr 1 5 0) (λa=>[o,⟨[.str a.1,w44 a.2.1,.i a.2.2.1,.i a.2.2.2.1,.bool a.2.2.2.2],0,false⟩]) (atN 5 (ctl1 g7p1)) 19 [1] [] [] [.str g,w44 j,.i l,.i m] (i8_ok k g j l m) trivial (λ_=>trivial) λa n=>?_
  refine oL 4 g7p2 [(4,.i c),(10,.ptr 0 7 0),(13,.ptr 1 5 0)] ?_
  let A:Env:=[(4,.i c),(10,.ptr 0 7 0),(13,.ptr 1 5 0)]
  refine oR 10 (atN 2 (ctl1 g7p5)) ((24,.i c)::(23,.ptr 1 5 0)::(21,.bool false)::(20,.ptr 1 5 0)::A) ?_
  refine qAg (λ(b:Ri20)=>n29 b.1) (λ(b:Ri20)=>(mkH [o,⟨[.str a.1,w44 a.2.1,.i b.2.1,.i a.2.2.2.1,.bool b.2.2],5,false⟩])) (atN 3 (ctl1 g7p5)) (λb=>((25,n29 b.1)::(24,.i c)::(23,.ptr 1 5 0)::(21,.bool false)::(20,.ptr 1 5 0)::A)) (fi:=24) (args:=[.ptr 1 5 0,.i c]) Kr (λb h=>frW 0 [o,⟨[.str a.1,w44 a.2.1,.i a.2.2.1,.i a.2.2.2.1,.bool a.2.2.2.2],5,false⟩] (rs:=[1]) (ms:=[]) (ms':=[]) (mv:=[]) (xs':=[.ptr 1 5 0,.i c]) (.refl) (i20_ok k c a.1 a.2.1 a.2.2.1 a.2.2.2.1 a.2.2.2.2 b h) trivial trivial Kr) (λ_=>by kernel_rfl) (λb u=>?_)
  let x:Env:=[(10,.ptr 0 7 0),(13,.ptr 1 5 0),(14,.ptr 2 7 0),(29,.bool b.2.2)]
  let z:Blk:=⟨[.str a.1,w44 a.2.1,.i b.2.1,.i a.2.2.2.1,.bool b.2.2],5,false⟩
  refine oLH 11 g7p8 x (mkH [o,z,⟨e29 b.1,7,false⟩]) ?_
  refine oS 29 (λC=>?_) (λC=>?_)
  ·refine oH 9 .fin ((12,.i 8)::(11,.i 0)::(30,.agg [.i 0,.str [],.nils,.bool false,.bool false,.nils,.nils])::(29,.bool true)::x) (mkH [⟨[.i 0,.str [],.nils,.bool false,.bool false,.nils,.nils],7,false⟩,z,⟨e29 b.1,7,false⟩]) ?_
   exact oT [.agg [.i 0,.str [],.nils,.bool false,.bool false,.nils,.nils],.i 0,.i 8] (.tuple [.agg [.i 0,.str [],.vec 0 7 [],.bool false,.bool false,.vec 0 1 [],.vec 0 1 []],.i 0,.i 8]) (.tuple (.agg (.cs (.cs (.nil (.cs (.cs (.nil (.nil .ps))))))) .ps) .ps)
  ·refine oR 3 g7p10 ((29,.bool false)::x) ?_
   let B:Env:=[(12,.i 0),(11,.i b.2.1),(35,.i b.2.1),(34,.ptr 1 5 2),(33,.ptr 1 5 0),(32,.ptr 1 5 0),(31,n29 b.1),(29,.bool false),(10,.ptr 0 7 0),(13,.ptr 1 5 0),(14,.ptr 2 7 0),(29,.bool b.2.2)]
   let q:List Blk:=[⟨e29 b.1,7,false⟩,z,⟨e29 b.1,7,false⟩]
   refine oD (H':=(mkH q)) (nav [0] g7p10) B [(mkH q)] g7d0 (oDh 8 8 B (mkH q) [(mkH q)] .nil) ?_
   exact oQ 1
abbrev Ri6:Type:=(Int×LN×Raw×Bool×Bool×LL×LL×Int)
abbrev Ti6:Type:=Int→LN→Raw→Bool→Bool→LL→LL→LN→(List S43)→Int→Int→Option (Option Ri6)
def Xi6 (g:Int) (h:LN) (j:Raw) (k:Bool) (l:Bool) (m:LL) (n:LL) (b:LN) (c:List S43) (o:Int) (a:Int):Fx (Option Ri6):=⟨Tryz.prog,cx,Tryz.f28,λr=>match r with | some r => .tuple [] | none => .top,2,λr=>match r with | some r=>(mkH [⟨[.i r.1,.str r.2.1,q29 r.2.2.1,.bool r.2.2.2.1,.bool r.2.2.2.2.1,w9 r.2.2.2.2.2.1,w9 r.2.2.2.2.2.2.1],7,false⟩,⟨[.str b,w44 c,.i r.2.2.2.2.2.2.2,.i a],4,false⟩]) | none=>(mkH [⟨[.i g,.str h,q29 j,.bool k,.bool l,w9 m,w9 n],7,false⟩,⟨[.str b,w44 c,.i o,.i a],4,false⟩]),cxTi,cxOrd,λr=>match r with | some _=>none | none=>some (thrown,[1]),false⟩
def Pi6 (f:Ti6):Prop := ∀ b c g h j k l m n o a,PQh (Xi6 b c g h j k l m n o a) 28 [.ptr 1 4 0,.ptr 0 7 0] (f b c g h j k l m n o a)
def i6p0:Pt:=nav [] (bodyAt Tryz.f28)
def i6 (k:Nat) (j:Int) (l:LN) (m:Raw) (n:Bool) (o:Bool) (q:LL) (r:LL) (c:LN) (g:List S43) (h:Int) (b:Int):Option (Option Ri6) :=
 bT (i10 k c g h b) λa=>some (some (a.1.f0,a.1.f1,a.1.f2,a.1.f3,a.1.f4,a.1.f5,a.1.f6,a.2))
theorem i6_all (k:Nat):∀ l m n o q u x c g j a r,i6 k l m n o q u x c g j a=some r→CallT Tryz.prog 28 [.ptr 1 4 0,.ptr 0 7 0] (mkH [⟨[.i l,.str m,q29 n,.bool o,.bool q,w9 u,w9 x],7,false⟩,⟨[.str c,w44 g,.i j,.i a],4,false⟩]) ((Xi6 l m n o q u x c g j a).thr r) ((Xi6 l m n o q u x c g j a).enc r) ((Xi6 l m n o q u x c g j a).fin r):=by
 intro l m n o q u x c g j a r h
 refine qA0 (Xi6 l m n o q u x c g j a) Tryz.func28 Kr Kr rfl (t:=i6 k l m n o q u x c g j a) ?_ h
 unfold i6
 refine qA1 (eE:=[(0,.ptr 1 4 0),(1,.ptr 0 7 0)]) Kr ?_
 let A:Blk:=⟨[.i l,.str m,q29 n,.bool o,.bool q,w9 u,w9 x],7,false⟩
 refine oH 2 (atN 1 (ctl1 i6p0)) [(3,.ptr 1 4 0),(0,.ptr 1 4 0),(1,.ptr 0 7 0)] (mkH [A,⟨[.str c,w44 g,.i j,.i a],4,false⟩]) ?_
 refine oX (λ(b:(S28×Int))=>n29 b.1) (λb=>[A,⟨[.str c,w44 g,.i b.2,.i a],4,false⟩]) (atN 2 (ctl1 i6p0)) 4 [1] [] [] [1] [] [.ptr 1 4 0] (i10_ok k c g j a) trivial (λ_=>trivial) trivial λb z=>?_
 exact oQF 2 [⟨e29 b.1,7,false⟩,⟨[.str c,w44 g,.i b.2,.i a],4,false⟩] 2 [] [] (.tuple []) .ps trivial
theorem i6_ok (k:Nat):Pi6 (i6 k):=λb c g j l m n o q r a=>⟨λx h=>i6_all k b c g j l m n o q r a (some x) h,λh=>⟨_,i6_all k b c g j l m n o q r a none h⟩⟩
abbrev Ri2:Type:=(Int×Int×LL×Int×LN×Raw×Bool×Bool×LL)
abbrev Ti2:Type:=LN→(List S43)→Int→Int→Int→LN→Raw→Bool→Bool→LL→LL→Option Ri2
def Xi2 (b:LN) (c:List S43) (g:Int) (h:Int) (j:Int) (k:LN) (l:Raw) (m:Bool) (n:Bool) (o:LL) (a:LL):Fx Ri2:=⟨Tryz.prog,cx,Tryz.f19,λr => .tuple [.i r.1,.i r.2.1],1,λr=>(mkH [⟨[.i r.2.2.2.1,.str r.2.2.2.2.1,q29 r.2.2.2.2.2.1,.bool r.2.2.2.2.2.2.1,.bool r.2.2.2.2.2.2.2.1,w9 r.2.2.2.2.2.2.2.2,w9 r.2.2.1],7,false⟩]),cxTi,cxOrd,λ_=>none,true⟩
def Pi2 (f:Ti2):Prop := ∀ b c g h j k l m n o a,PNh (Xi2 b c g h j k l m n o a) 19 [.str b,w44 c,.i g,.i h,.func 28 [] [.ptr 0 7 0]] (mkH [⟨[.i j,.str k,q29 l,.bool m,.bool n,w9 o,w9 a],7,false⟩]) (f b c g h j k l m n o a)
def i2p1:Pt:=nav [0,0,0,0] (nav [0] (bodyAt Tryz.f19))
def i2p2:Pt:=nav [0,0] i2p1
def i2p6:Pt:=nav [0,0,0] (nav [2,0,0] i2p2)
def i2p7:Pt:=nav [0,0,0] i2p6
def i2 (k:Nat) (u:LN) (r:List S43) (c:Int) (g:Int) (h:Int) (j:LN) (l:Raw) (m:Bool) (n:Bool) (o:LL) (b:LL):Option Ri2 :=
 jn (λ(x:Bool)=>if x then (some ((0:Int),(8:Int),b,h,j,l,m,n,o)) else (cT (i6 k h j l m n o b u r c g) (some ((0:Int),(8:Int),b,h,j,l,m,n,o)) λa=>some (a.2.2.2.2.2.2.2,(0:Int),a.2.2.2.2.2.2.1,a.1,a.2.1,a.2.2.1,a.2.2.2.1,a.2.2.2.2.1,a.2.2.2.2.2.1))) (λq=>if (decide (c < 0)) then (q true) else (if (decide ((r.length:Int) < g)) then (q true) else (q (decide (g < c)))))
theorem i2_all (k:Nat):∀ l g j b m n o q u z c r,i2 k l g j b m n o q u z c=some r→CallT Tryz.prog 19 [.str l,w44 g,.i j,.i b,.func 28 [] [.ptr 0 7 0]] (mkH [⟨[.i m,.str n,q29 o,.bool q,.bool u,w9 z,w9 c],7,false⟩]) ((Xi2 l g j b m n o q u z c).thr r) ((Xi2 l g j b m n o q u z c).enc r) ((Xi2 l g j b m n o q u z c).fin r):=by
 intro l g j b m n o q u z c r h
 refine qA0 (Xi2 l g j b m n o q u z c) Tryz.func19 Kr Kr rfl (t:=i2 k l g j b m n o q u z c) ?_ h
 unfold i2
 refine qA1 (eE:=[(0,.str l),(1,w44 g),(2,.i j),(3,.i b),(4,.func 28 [] [.ptr 0 7 0])]) Kr ?_
 let C:Env:=[(15,.bool (decide (j < 0))),(14,.bool (decide (j < 0))),(13,.i j),(11,.ptr 2 1 0),(10,.ptr 1 1 0),(0,.str l),(1,w44 g),(2,.i j),(3,.i b),(4,.func 28 [] [.ptr 0 7 0])]
 let A:Blk:=⟨[.i m,.str n,q29 o,.bool q,.bool u,w9 z,w9 c],7,false⟩
 let K:List Blk:=[A,⟨[.i 0],0,false⟩,⟨[.i 0],0,false⟩]
 refine oH 11 (atN 3 (ctl1 i2p1)) C (mkH K) ?_
 refine oJ i2p2 (λ(L:Bool)=>[(0,.str l),(1,w44 g),(2,.i j),(3,.i b),(4,.func 28 [] [.ptr 0 7 0]),(10,.ptr 1 1 0),(11,.ptr 2 1 0),(25,.bool L)]) (λ(L:Bool)=>(mkH K)) (λL=>?_) (λW B=>?_)
 ·refine oS 25 (λE=>?_) (λE=>?_)
  ·let O:Env:=[(25,.bool true),(0,.str l),(1,w44 g),(2,.i j),(3,.i b),(4,.func 28 [] [.ptr 0 7 0]),(10,.ptr 1 1 0),(11,.ptr 2 1 0),(25,.bool L)]
   exact oQF 7 [A,⟨[.i 0],1,false⟩,⟨[.i 8],1,false⟩] 1 [] [.i 0,.i 8] (.tuple [.i 0,.i 8]) .ps trivial
  ·let N:Env:=[(4,.func 28 [] [.ptr 0 7 0]),(10,.ptr 1 1 0),(11,.ptr 2 1 0),(12,.ptr 3 4 0)]
   let T:List Blk:=[A,⟨[.i 0],0,false⟩,⟨[.i 0],0,false⟩,⟨[.str l,w44 g,.i j,.i b],0,false⟩]
   refine oLH 13 i2p6 N (mkH T) ?_
   refine oR 2 (atN 1 (ctl1 i2p6)) ((32,.func 46 [] [.ptr 1 1 0,.ptr 2 1 0])::N) ?_
   refine qIy (f:=46) (caps:=[.ptr 1 1 0,.ptr 2 1 0]) Kr ?_
   refine okD_at (p':=(atN 2 (ctl1 i2p6))) Kr ?_
   refine qDv 5 (p':=(atN 2 (ctl1 i2p7))) (eE:=((34,.ptr 3 4 0)::(33,.func 28 [] [.ptr 0 7 0])::(32,.func 46 [] [.ptr 1 1 0,.ptr 2 1 0])::N)) (H':=(mkH T)) Kr ?_
   let F:Blk:=⟨[.str l,w44 g,.i j,.i b],4,false⟩
   let Q:List Blk:=[A,⟨[.i 0],0,false⟩,⟨[.i 0],0,false⟩,F]
   let U:List Blk:=[A,⟨[.i 0],1,false⟩,⟨[.i 8],1,false⟩,F]
   refine qJ (tv:=thrown) (D:=[3]) (rc:=((0:Int),(8:Int),c,m,n,o,q,u,z)) (tc:=some ((0:Int),(8:Int),c,m,n,o,q,u,z)) (xs:=[.i 0,.i 8]) (v := .tuple [.i 0,.i 8]) (fi:=28) (args:=[.ptr 3 4 0,.ptr 0 7 0]) (λ(a:Ri6) => .tuple []) (λ(a:Ri6)=>(mkH [⟨[.i a.1,.str a.2.1,q29 a.2.2.1,.bool a.2.2.2.1,.bool a.2.2.2.2.1,w9 a.2.2.2.2.2.1,w9 a.2.2.2.2.2.2.1],7,false⟩,⟨[.i 0],0,false⟩,⟨[.i 0],0,false⟩,⟨[.str l,w44 g,.i a.2.2.2.2.2.2.2,.i b],4,false⟩])) (atN 3 (ctl1 i2p7)) (λa=>[(35,.tuple []),(34,.ptr 3 4 0),(33,.func 28 [] [.ptr 0 7 0]),(32,.func 46 [] [.ptr 1 1 0,.ptr 2 1 0]),(4,.func 28 [] [.ptr 0 7 0]),(10,.ptr 1 1 0),(11,.ptr 2 1 0),(12,.ptr 3 4 0)]) Q [A] [⟨[.i 0],1,false⟩,⟨[.i 8],1,false⟩,F] [(10,.ptr 1 1 0),(11,.ptr 2 1 0)] [10,11] 3 rfl rfl Kr (λh=>frS 0 (M:=Q) (rs:=[0,3]) (ms:=[]) (mv:=[]) (mm:=[]) (D:=[3]) (xs':=[.ptr 3 4 0,.ptr 0 7 0]) (.refl) ((i6_ok k m n o q u z c l g j b).2 h) trivial trivial Kr) Kr Kr Kr Kr (qDj (⟨Tryz.prog,cx,Tryz.f46,λ_ => .tuple [],4,λ_=>(mkH U),cxTi,cxOrd,λ_=>none,false⟩:Fx Unit) 5 2 (x := .iface 70 (.agg [])) qE8 Kr Kr Kr rfl rfl rfl rfl ?_) rfl Kr Kr Kr (.pures Kr) ⟨Kr,trivial⟩ Kr Kr (λa h=>frW 0 Q (rs:=[0,3]) (ms:=[]) (ms':=[]) (mv:=[]) (xs':=[.ptr 3 4 0,.ptr 0 7 0]) (.refl) ((i6_ok k m n o q u z c l g j b).1 a h) trivial trivial Kr) (λ_=>by kernel_rfl) (λa S=>?_)
   ·refine oE [(2,.iface 70 (.agg [])),(5,.iface 70 (.agg [])),(0,.ptr 1 1 0),(1,.ptr 2 1 0)] ?_
    let C:Env:=[(4,.bool true),(3,.ptr 4 0 0),(12,.bool true),(11,.agg []),(8,.tuple [.agg [],.bool true]),(10,.tuple [.agg [],.bool true]),(9,.iface 70 (.agg [])),(7,.bool true),(6,.iface 70 (.agg [])),(2,.iface 70 (.agg [])),(5,.iface 70 (.agg [])),(0,.ptr 1 1 0),(1,.ptr 2 1 0)]
    let O:Env:=[(0,.ptr 1 1 0),(1,.ptr 2 1 0),(2,.iface 70 (.agg [])),(4,.bool true)]
    refine oLH 19 (nav [0,0,0] (nav [1,0,0] (nav [0,0] (nav [0] (restAt Tryz.f46))))) O (mkH [A,⟨[.i 0],0,false⟩,⟨[.i 0],0,false⟩,F,⟨[],0,false⟩]) ?_
    refine oH 10 .fin ((14,.bool false)::(13,.bool true)::O) (mkH [A,⟨[.i 0],1,false⟩,⟨[.i 8],1,false⟩,F,⟨[],0,false⟩]) ?_
    refine qA8 U [⟨[],0,false⟩] Kr rfl Kr ⟨Kr,⟨Kr,⟨Kr,⟨Kr,trivial⟩⟩⟩⟩ ?_
    exact qF0 (r:=()) (xs:=[]) Kr Kr Kr Kr
   ·let G:Blk:=⟨[.i a.1,.str a.2.1,q29 a.2.2.1,.bool a.2.2.2.1,.bool a.2.2.2.2.1,w9 a.2.2.2.2.2.1,w9 a.2.2.2.2.2.2.1],7,false⟩
    let I:Blk:=⟨[.i a.2.2.2.2.2.2.2],1,false⟩
    let J:Blk:=⟨[.str l,w44 g,.i a.2.2.2.2.2.2.2,.i b],4,false⟩
    refine qDv 11 (p' := .fin) (eE:=((39,.i a.2.2.2.2.2.2.2)::(38,.ptr 3 4 2)::(37,.ptr 3 4 0)::(36,.ptr 3 4 0)::(35,.tuple [])::(34,.ptr 3 4 0)::(33,.func 28 [] [.ptr 0 7 0])::(32,.func 46 [] [.ptr 1 1 0,.ptr 2 1 0])::N)) (H':=(mkH [G,I,⟨[.i 0],1,false⟩,J])) Kr ?_
    refine qLv (r:=(a.2.2.2.2.2.2.2,(0:Int),a.2.2.2.2.2.2.1,a.1,a.2.1,a.2.2.1,a.2.2.2.1,a.2.2.2.2.1,a.2.2.2.2.2.1)) (xs:=[.i a.2.2.2.2.2.2.2,.i 0]) (v := .tuple [.i a.2.2.2.2.2.2.2,.i 0]) [G,I,⟨[.i 0],1,false⟩,J] [G] [I,⟨[.i 0],1,false⟩,J] rfl rfl (qDj (⟨Tryz.prog,cx,Tryz.f46,λ_ => .tuple [],4,λ_=>(mkH [G,I,⟨[.i 0],1,false⟩,J]),cxTi,cxOrd,λ_=>none,false⟩:Fx Unit) 5 2 (x := .nili) qJ1 Kr Kr Kr rfl rfl rfl rfl ?_) Kr Kr Kr Kr (.pures Kr) ⟨Kr,trivial⟩ Kr Kr
    let C:Env:=[(7,.bool false),(6,.nili),(2,.nili),(5,.nili),(0,.ptr 1 1 0),(1,.ptr 2 1 0)]
    refine oH 7 .fin C (mkH [G,I,⟨[.i 0],1,false⟩,J]) ?_
    exact qF0 (r:=()) (xs:=[]) Kr Kr Kr Kr
 ·refine oS 15 (λE=>?_) (λE=>?_)
  ·refine oLH 11 i2p2 [(0,.str l),(1,w44 g),(2,.i j),(3,.i b),(4,.func 28 [] [.ptr 0 7 0]),(10,.ptr 1 1 0),(11,.ptr 2 1 0),(25,.bool true)] (mkH K) ?_
   exact B true
  ·let V:Env:=((21,.bool (decide ((g.length:Int) < b)))::(20,.bool (decide ((g.length:Int) < b)))::(19,.bool (decide ((g.length:Int) < b)))::(18,.i (g.length:Int))::(17,w44 g)::(16,.i b)::(15,.bool false)::C)
   refine oH 6 (atN 9 (ctl1 i2p1)) V (mkH K) ?_
   refine oS 21 (λE=>?_) (λE=>?_)
   ·refine oR 5 i2p2 ((25,.bool true)::(24,.tuple [])::(23,.tuple [])::(22,.tuple [])::(21,.bool true)::V) ?_
    refine oK [0,1,2,3,4,10,11,25] [(0,.str l),(1,w44 g),(2,.i j),(3,.i b),(4,.func 28 [] [.ptr 0 7 0]),(10,.ptr 1 1 0),(11,.ptr 2 1 0),(25,.bool true)] ?_
    exact B true
   ·refine oL 5 i2p2 [(0,.str l),(1,w44 g),(2,.i j),(3,.i b),(4,.func 28 [] [.ptr 0 7 0]),(10,.ptr 1 1 0),(11,.ptr 2 1 0),(25,.bool (decide (b < j)))] ?_
    exact B (decide (b < j))
theorem i2_ok (k:Nat):Pi2 (i2 k):=λb c g j l m n o q r a=>λx h=>i2_all k b c g j l m n o q r a x h
def Xg11:Fx (S28×Int×Int):=⟨Tryz.prog,cx,Tryz.f11,λr => .tuple [.agg [.i r.1.f0,.str r.1.f1,q29 r.1.f2,.bool r.1.f3,.bool r.1.f4,w9 r.1.f5,w9 r.1.f6],.i r.2.1,.i r.2.2],0,λ_=>H0,cxTi,cxOrd,λ_=>none,false⟩
def g11p2:Pt:=nav [0,0,0] (nav [0,0,0] (nav [0] (bodyAt Tryz.f11)))
def g11p3:Pt:=nav [0,0,0] g11p2
def g11 (k:Nat) (c:LN) (g:List S43) (h:Int) (j:Int):Option (S28×Int×Int) :=
 (i2 k c g h j (0:Int) ([]:LN) (⟨(([]:List S28)).length,(([]:List S28)).flatMap e29⟩:Raw) false false ([]:LL) ([]:LL)).bind λa=>(g22 k (⟨a.2.2.2.1,a.2.2.2.2.1,a.2.2.2.2.2.1,a.2.2.2.2.2.2.1,a.2.2.2.2.2.2.2.1,a.2.2.2.2.2.2.2.2,a.2.2.1⟩:S28) a.2.1).bind λb=>some (b,a.1,a.2.1)
theorem g11_ok (k:Nat) (b:LN) (c:List S43) (g:Int) (j:Int) (r:(S28×Int×Int)) (h:g11 k b c g j=some r):PureOk Tryz.prog 11 [.str b,w44 c,.i g,.i j] (.tuple [.agg [.i r.1.f0,.str r.1.f1,q29 r.1.f2,.bool r.1.f3,.bool r.1.f4,w9 r.1.f5,w9 r.1.f6],.i r.2.1,.i r.2.2]):=by
 refine qA5 Xg11 (λ_=>⟨rfl,rfl⟩) Tryz.func11 (by decide +kernel) Kr (t:=g11 k b c g j) ?_ h
 unfold g11
 refine qA1 (eE:=[(0,.str b),(1,w44 c),(2,.i g),(3,.i j)]) Kr ?_
 let q:Env:=[(11,.ptr 1 7 0),(10,.i 0),(9,.i 0),(8,.ptr 0 7 0),(0,.str b),(1,w44 c),(2,.i g),(3,.i j)]
 let l:Blk:=⟨[.i 0,.str [],.nils,.bool false,.bool false,.nils,.nils],0,false⟩
 refine oH 11 g11p2 q (mkH [l,l]) ?_
 refine qAw [l,l] 1 0 [.i 0,.str [],.nils,.bool false,.bool false,.nils,.nils] [.i 0,.str [],w29 ([]:List S28),.bool false,.bool false,w9 ([]:LL),w9 ([]:LL)] Kr rfl (.cons (.cons (.nil (.cons (.cons (.nil (.nil (.refl)))))))) ?_
 let u:Env:=((19,.func 28 [] [.ptr 1 7 0])::(18,.i j)::(17,.i g)::(16,w44 c)::(15,.str b)::q)
 refine oH 6 (atN 5 (ctl1 g11p2)) u (mkH [l,⟨[.i 0,.str [],w29 ([]:List S28),.bool false,.bool false,w9 ([]:LL),w9 ([]:LL)],0,false⟩]) ?_
 refine qAg (λ(a:Ri2) => .tuple [.i a.1,.i a.2.1]) (λ(a:Ri2)=>(mkH [l,⟨[.i a.2.2.2.1,.str a.2.2.2.2.1,q29 a.2.2.2.2.2.1,.bool a.2.2.2.2.2.2.1,.bool a.2.2.2.2.2.2.2.1,w9 a.2.2.2.2.2.2.2.2,w9 a.2.2.1],7,false⟩])) (atN 6 (ctl1 g11p2)) (λa=>((20,.tuple [.i a.1,.i a.2.1])::u)) (fi:=19) (args:=[.str b,w44 c,.i g,.i j,.func 28 [] [.ptr 1 7 0]]) Kr (λa h=>frW 0 [l,⟨[.i 0,.str [],w29 ([]:List S28),.bool false,.bool false,w9 ([]:LL),w9 ([]:LL)],7,false⟩] (rs:=[1]) (ms:=[]) (ms':=[]) (mv:=[]) (xs':=[.str b,w44 c,.i g,.i j,.func 28 [] [.ptr 1 7 0]]) (.refl) (i2_ok k b c g j (0:Int) ([]:LN) (⟨(([]:List S28)).length,(([]:List S28)).flatMap e29⟩:Raw) false false ([]:LL) ([]:LL) a h) trivial trivial Kr) (λ_=>by kernel_rfl) (λa n=>?_)
 let x:Env:=[(8,.ptr 0 7 0),(11,.ptr 1 7 0),(12,.i a.1),(13,.i a.2.1)]
 refine oLH 7 g11p3 x (mkH [l,⟨[.i a.2.2.2.1,.str a.2.2.2.2.1,q29 a.2.2.2.2.2.1,.bool a.2.2.2.2.2.2.1,.bool a.2.2.2.2.2.2.2.1,w9 a.2.2.2.2.2.2.2.2,w9 a.2.2.1],7,false⟩]) ?_
 refine oR 3 (atN 2 (ctl1 g11p3)) ((24,.i a.2.1)::(23,.agg [.i a.2.2.2.1,.str a.2.2.2.2.1,q29 a.2.2.2.2.2.1,.bool a.2.2.2.2.2.2.1,.bool a.2.2.2.2.2.2.2.1,w9 a.2.2.2.2.2.2.2.2,w9 a.2.2.1])::x) ?_
 refine oA (λ(m:S28)=>n29 m) (atN 3 (ctl1 g11p3)) 25 [.agg [.i a.2.2.2.1,.str a.2.2.2.2.1,q29 a.2.2.2.2.2.1,.bool a.2.2.2.2.2.2.1,.bool a.2.2.2.2.2.2.2.1,w9 a.2.2.2.2.2.2.2.2,w9 a.2.2.1],.i a.2.1] (g22_ok k (⟨a.2.2.2.1,a.2.2.2.2.1,a.2.2.2.2.2.1,a.2.2.2.2.2.2.1,a.2.2.2.2.2.2.2.1,a.2.2.2.2.2.2.2.2,a.2.2.1⟩:S28) a.2.1) λm o=>?_
 exact oQ 7
def Xg8:Fx Bool:=⟨Tryz.prog,cx,Tryz.f8,λr => .bool r,0,λ_=>H0,cxTi,cxOrd,λ_=>none,false⟩
def g8c0:LN:=[97,32,43,32,98,32,42,32,99]
def g8c1:List S43:=[(⟨(1:Int),([120]:LN),(0:Int)⟩:S43),(⟨(9:Int),([44]:LN),(1:Int)⟩:S43),(⟨(1:Int),([121]:LN),(4:Int)⟩:S43)]
def g8p2:Pt:=nav [0,0,0] (nav [0,0,0] (nav [0] (bodyAt Tryz.f8)))
def g8p3:Pt:=nav [0,0,0] g8p2
def g8p4:Pt:=nav [0,0,0] g8p3
def g8p5:Pt:=nav [0,0,0] g8p4
def g8p6:Pt:=nav [0,0,0] g8p5
def g8 (k:Nat)  : Option Bool :=
 (g5 k g8c0).bind λb=>(g6 k g8c0 b.1 (0:Int) (b.1.length:Int) (0:Int)).bind λa=>(g6 k g8c0 b.1 (0:Int) (2:Int) (0:Int)).bind λj=>(g11 k ([120,44,10,10,121]:LN) g8c1 (0:Int) (3:Int)).bind λc=>if (decide (b.2=0)) then (if (decide (a.2.2=0)) then (if (decide (a.2.1=5)) then (if (decide (a.1.f0=14)) then (if (eqL a.1.f1 [43]) then (if (decide ((a.1.f2.n:Int)=2)) then ((nthR d29 7 a.1.f2.n a.1.f2.cells 1).bind λg=>if (eqL g.f1 [42]) then (if (decide (j.2.2=8)) then (if (decide (c.2.2=0)) then (if (decide ((c.1.f2.n:Int)=2)) then ((nthR d29 7 c.1.f2.n c.1.f2.cells 1).bind λh=>some h.f4) else (some false)) else (some false)) else (some false)) else (some false)) else (some false)) else (some false)) else (some false)) else (some false)) else (some false)) else (some false)
theorem g8_ok (k:Nat)  (r:Bool) (h:g8 k  = some r):PureOk Tryz.prog 8 [] (.bool r):=by
 refine qA5 Xg8 (λ_=>⟨rfl,rfl⟩) Tryz.func8 (by decide +kernel) Kr (t:=g8 k ) ?_ h
 unfold g8
 refine qA1 (eE:=[]) Kr ?_
 refine oH 11 (atN 1 (ctl1 g8p2)) [(14,.str g8c0),(1,.str g8c0),(0,.bool false)] (mkH []) ?_
 refine oA (λ(c:((List S43)×Int)) => .tuple [w44 c.1,.i c.2]) (atN 2 (ctl1 g8p2)) 15 [.str g8c0] (g5_ok k g8c0) λc F=>?_
 refine oR 12 (atN 4 (ctl1 g8p3)) [(22,.i (c.1.length:Int)),(21,w44 c.1),(20,w44 c.1),(19,.str g8c0),(3,.i c.2),(2,w44 c.1),(17,.i c.2),(16,w44 c.1),(13,.tuple [w44 c.1,.i c.2]),(15,.tuple [w44 c.1,.i c.2]),(14,.str g8c0),(1,.str g8c0),(0,.bool false)] ?_
 refine oA (λ(b:(S28×Int×Int)) => .tuple [n29 b.1,.i b.2.1,.i b.2.2]) (atN 5 (ctl1 g8p3)) 23 [.str g8c0,w44 c.1,.i 0,.i (c.1.length:Int),.i 0] (g6_ok k g8c0 c.1 (0:Int) (c.1.length:Int) (0:Int)) λb G=>?_
 let M:Env:=[(1,.str g8c0),(2,w44 c.1),(3,.i c.2),(4,.ptr 0 7 0),(5,.i b.2.1),(6,.i b.2.2)]
 refine oLH 10 g8p4 M (mkH [⟨e29 b.1,7,false⟩]) ?_
 refine oR 3 (atN 2 (ctl1 g8p4)) ((29,w44 c.1)::(28,.str g8c0)::M) ?_
 refine oA (λ(l:(S28×Int×Int)) => .tuple [n29 l.1,.i l.2.1,.i l.2.2]) (atN 3 (ctl1 g8p4)) 30 [.str g8c0,w44 c.1,.i 0,.i 2,.i 0] (g6_ok k g8c0 c.1 (0:Int) (2:Int) (0:Int)) λl I=>?_
 let N:Env:=[(3,.i c.2),(4,.ptr 0 7 0),(5,.i b.2.1),(6,.i b.2.2),(9,.i l.2.2)]
 refine oLH 10 g8p5 N (mkH [⟨e29 b.1,7,false⟩,⟨e29 l.1,7,false⟩]) ?_
 refine oH 5 (atN 4 (ctl1 g8p5)) ((38,.slice 2 9 0 3 3)::(37,.agg [.i 1,.str [121],.i 4])::(36,.agg [.i 9,.str [44],.i 1])::(35,.agg [.i 1,.str [120],.i 0])::N) (mkH [⟨e29 b.1,7,false⟩,⟨e29 l.1,7,false⟩,⟨[.i 1,.str [120],.i 0,.i 9,.str [44],.i 1,.i 1,.str [121],.i 4],0,false⟩]) ?_
 refine oZ 38 2 3 3 [.i 1,.str [120],.i 0,.i 9,.str [44],.i 1,.i 1,.str [121],.i 4] [3,4,5,6,9,35,36,37] [] trivial ?_
 refine oE [(38,w44 g8c1),(3,.i c.2),(4,.ptr 0 7 0),(5,.i b.2.1),(6,.i b.2.2),(9,.i l.2.2),(35,.agg [.i 1,.str [120],.i 0]),(36,.agg [.i 9,.str [44],.i 1]),(37,.agg [.i 1,.str [121],.i 4])] ?_
 refine oHp (mkH [⟨e29 b.1,7,false⟩,⟨e29 l.1,7,false⟩,⟨[],0,false⟩]) ?_
 refine oA (λ(j:(S28×Int×Int)) => .tuple [n29 j.1,.i j.2.1,.i j.2.2]) (atN 5 (ctl1 g8p5)) 39 [.str [120,44,10,10,121],w44 g8c1,.i 0,.i 3] (g11_ok k ([120,44,10,10,121]:LN) g8c1 (0:Int) (3:Int)) λj J=>?_
 let K:Env:=[(3,.i c.2),(4,.ptr 0 7 0),(5,.i b.2.1),(6,.i b.2.2),(9,.i l.2.2),(10,.ptr 3 7 0),(12,.i j.2.2)]
 let C:List Blk:=[⟨e29 b.1,7,false⟩,⟨e29 l.1,7,false⟩,⟨[],0,false⟩,⟨e29 j.1,7,false⟩]
 refine oLH 10 g8p6 K (mkH C) ?_
 refine oR 4 (atN 3 (ctl1 g8p6)) ((45,.bool (decide (c.2=0)))::(44,.bool (decide (c.2=0)))::(43,.i c.2)::K) ?_
 refine oS 45 (λm=>?_) (λm=>?_)
 ·let O:Env:=((49,.bool (decide (b.2.2=0)))::(48,.bool (decide (b.2.2=0)))::(47,.bool (decide (b.2.2=0)))::(46,.i b.2.2)::(45,.bool true)::(45,.bool (decide (c.2=0)))::(44,.bool (decide (c.2=0)))::(43,.i c.2)::K)
  refine oR 4 (atN 7 (ctl1 g8p6)) O ?_
  refine oS 49 (λm=>?_) (λm=>?_)
  ·let Q:Env:=((53,.bool (decide (b.2.1=5)))::(52,.bool (decide (b.2.1=5)))::(51,.bool (decide (b.2.1=5)))::(50,.i b.2.1)::(49,.bool true)::O)
   refine oR 4 (atN 11 (ctl1 g8p6)) Q ?_
   refine oS 53 (λm=>?_) (λm=>?_)
   ·let u:Env:=((58,.bool (decide (b.1.f0=14)))::(57,.bool (decide (b.1.f0=14)))::(56,.bool (decide (b.1.f0=14)))::(55,.i b.1.f0)::(54,.ptr 0 7 0)::(53,.bool true)::Q)
    refine oR 5 (atN 16 (ctl1 g8p6)) u ?_
    refine oS 58 (λm=>?_) (λm=>?_)
    ·let x:Env:=((63,.bool (eqL b.1.f1 [43]))::(62,.bool (eqL b.1.f1 [43]))::(61,.bool (eqL b.1.f1 [43]))::(60,.str b.1.f1)::(59,.ptr 0 7 1)::(58,.bool true)::u)
     refine oR 5 (atN 21 (ctl1 g8p6)) x ?_
     refine oS 63 (λm=>?_) (λm=>?_)
     ·let o:Env:=((69,.bool (decide ((b.1.f2.n:Int)=2)))::(68,.bool (decide ((b.1.f2.n:Int)=2)))::(67,.bool (decide ((b.1.f2.n:Int)=2)))::(66,.i (b.1.f2.n:Int))::(65,q29 b.1.f2)::(64,.ptr 0 7 2)::(63,.bool true)::x)
      refine oR 6 (atN 27 (ctl1 g8p6)) o ?_
      refine oS 69 (λm=>?_) (λm=>?_)
      ·refine oR 2 (atN 29 (ctl1 g8p6)) ((71,q29 b.1.f2)::(70,.ptr 0 7 2)::(69,.bool true)::o) ?_
       refine qLs (λ(a:S28)=>(.vptr [.i a.f0,.str a.f1,q29 a.f2,.bool a.f3,.bool a.f4,w9 a.f5,w9 a.f6],(mkH C))) (atN 30 (ctl1 g8p6)) (λa=>((72,.vptr [.i a.f0,.str a.f1,q29 a.f2,.bool a.f3,.bool a.f4,w9 a.f5,w9 a.f6])::(71,q29 b.1.f2)::(70,.ptr 0 7 2)::(69,.bool true)::o)) (λ_ L=>vidxR (sz:=7) qKb L Kr) (λ_=>by kernel_rfl) (λa D=>?_)
       let z:Env:=((77,.bool (eqL a.f1 [42]))::(76,.bool (eqL a.f1 [42]))::(75,.bool (eqL a.f1 [42]))::(74,.str a.f1)::(73,.vptr [.str a.f1,q29 a.f2,.bool a.f3,.bool a.f4,w9 a.f5,w9 a.f6])::(72,.vptr [.i a.f0,.str a.f1,q29 a.f2,.bool a.f3,.bool a.f4,w9 a.f5,w9 a.f6])::(71,q29 b.1.f2)::(70,.ptr 0 7 2)::(69,.bool true)::o)
       refine oH 5 (atN 35 (ctl1 g8p6)) z (mkH C) ?_
       refine oS 77 (λm=>?_) (λm=>?_)
       ·let A:Env:=((81,.bool (decide (l.2.2=8)))::(80,.bool (decide (l.2.2=8)))::(79,.bool (decide (l.2.2=8)))::(78,.i l.2.2)::(77,.bool true)::z)
        refine oR 4 (atN 39 (ctl1 g8p6)) A ?_
        refine oS 81 (λm=>?_) (λm=>?_)
        ·let B:Env:=((85,.bool (decide (j.2.2=0)))::(84,.bool (decide (j.2.2=0)))::(83,.bool (decide (j.2.2=0)))::(82,.i j.2.2)::(81,.bool true)::A)
         refine oR 4 (atN 43 (ctl1 g8p6)) B ?_
         refine oS 85 (λm=>?_) (λm=>?_)
         ·let q:Env:=((91,.bool (decide ((j.1.f2.n:Int)=2)))::(90,.bool (decide ((j.1.f2.n:Int)=2)))::(89,.bool (decide ((j.1.f2.n:Int)=2)))::(88,.i (j.1.f2.n:Int))::(87,q29 j.1.f2)::(86,.ptr 3 7 2)::(85,.bool true)::B)
          refine oR 6 (atN 49 (ctl1 g8p6)) q ?_
          refine oS 91 (λm=>?_) (λm=>?_)
          ·refine oR 2 (atN 51 (ctl1 g8p6)) ((93,q29 j.1.f2)::(92,.ptr 3 7 2)::(91,.bool true)::q) ?_
           refine qLs (λ(g:S28)=>(.vptr [.i g.f0,.str g.f1,q29 g.f2,.bool g.f3,.bool g.f4,w9 g.f5,w9 g.f6],(mkH C))) (atN 52 (ctl1 g8p6)) (λg=>((94,.vptr [.i g.f0,.str g.f1,q29 g.f2,.bool g.f3,.bool g.f4,w9 g.f5,w9 g.f6])::(93,q29 j.1.f2)::(92,.ptr 3 7 2)::(91,.bool true)::q)) (λ_ L=>vidxR (sz:=7) qKb L Kr) (λ_=>by kernel_rfl) (λg E=>?_)
           exact oQ 6
          ·exact oQ 9
         ·exact oQ 15
        ·exact oQ 19
       ·exact oQ 23
      ·exact oQ 31
     ·exact oQ 37
    ·exact oQ 42
   ·exact oQ 47
  ·exact oQ 51
 ·exact oQ 55
def Xg62:Fx Bool:=⟨Tryz.prog,cx,Tryz.f62,λr => .bool r,0,λ_=>H0,cxTi,cxOrd,λ_=>none,false⟩
def g62p2:Pt:=nav [0,0] (nav [0,0,0,0] (nav [0] (bodyAt Tryz.f62)))
def g62p6:Pt:=nav [0,0,0,0] (nav [2,0,0,0] g62p2)
def g62p8:Pt:=nav [0,0] (nav [0,0,0] g62p6)
def g62p9:Pt:=nav [1,0,0,0,0] g62p8
def g62d0:DP:=⟨[],[(0,0,0),(0,0,0),(3,0,0),(7,0,0),(0,0,0),(0,0,0),(48,0,0),(112,0,0),(255,0,0)],9,thrown,[],H0⟩
def qI0 (k:Nat)  (g:LL) (h:LL) (ih:Int→Option Bool):Int→Option Bool :=
 λ(a:Int)=>if (decide (a < (g.length:Int))) then ((nthL g a).bind λb=>(nthL h a).bind λc=>if (!(eqL b c)) then (some false) else (ih (fW .i64 (a+1)))) else (some true)
def qNs (k:Nat)  (a:LL) (b:LL) (n:Nat):Int→Option Bool:=lp (λ_=>none) (qI0 k a b) n
theorem qNr (k:Nat)   (g:LL) (h:LL)  : ∀ (n:Nat) (a:Int),Ok Xg62 g62p6 [(0,w9 g),(1,w9 h),(5,.i a)] (mkH []) (qNs k g h n a):=by
 intro n
 induction n with
 | zero=>intro a; exact ok_none
 | succ n ih =>
  intro a
  show Ok _ _ _ _ (qI0 k g h (qNs k g h n) a)
  unfold qI0
  refine qAd (p':=nav [0] g62p6) Kr ?_
  let r:Env:=[(14,.bool (decide (a < (g.length:Int)))),(13,.i (g.length:Int)),(12,w9 g),(11,.i a),(0,w9 g),(1,w9 h),(5,.i a)]
  refine oH 8 g62p8 r (mkH []) ?_
  refine oS 14 (λo=>?_) (λo=>?_)
  ·refine oR 5 g62p9 ((14,.bool true)::r) ?_
   refine qA7 (λb j=>?_)
   refine qA7 (λc l=>?_)
   let m:Env:=[(18,.i a),(17,w9 g),(14,.bool true),(14,.bool (decide (a < (g.length:Int)))),(13,.i (g.length:Int)),(12,w9 g),(11,.i a),(0,w9 g),(1,w9 h),(5,.i a)]
   let q:Env:=((23,.vptr [.str c])::(22,.i a)::(21,w9 h)::(20,.str b)::(19,.vptr [.str b])::m)
   refine oD (H':=(mkH [])) (nav [0] g62p9) ((25,.bool (!(eqL b c)))::(24,.str c)::q) [] g62d0 (oDr 2 2 m (qAb (l':=(opsAt g62p9).toList.drop 3) (eE:=((19,.vptr [.str b])::m)) (hs:=[]) (x:=b) (λ(b:LN)=>(.vptr [.str b],(mkH []))) (vidxH (sz:=1) qBq Kr) j Kr (oDr 3 6 ((22,.i a)::(21,w9 h)::(20,.str b)::(19,.vptr [.str b])::m) (qAb (l':=(opsAt g62p9).toList.drop 7) (eE:=q) (hs:=[]) (x:=c) (λ(c:LN)=>(.vptr [.str c],(mkH []))) (vidxH (sz:=1) qBq Kr) l Kr (oDr 2 9 ((25,.bool (!(eqL b c)))::(24,.str c)::q) .nil))))) ?_
   refine oS 25 (λo=>?_) (λo=>?_)
   ·exact oQ 6
   ·refine oL 7 g62p6 [(0,w9 g),(1,w9 h),(5,.i (fW .i64 (a+1)))] ?_
    exact ih (fW .i64 (a+1))
  ·exact oQ 7
def g62 (k:Nat) (a:LL) (b:LL):Option Bool :=
 if (!decide ((a.length:Int)=(b.length:Int))) then (some false) else (qNs k a b k 0)
theorem qK3 (k:Nat) (a:LL) (b:LL) (r:Bool) (h:g62 k a b=some r):PureOk Tryz.prog 62 [w9 a,w9 b] (.bool r):=by
 refine qA5 Xg62 (λ_=>⟨rfl,rfl⟩) Tryz.func62 (by decide +kernel) Kr (t:=g62 k a b) ?_ h
 unfold g62
 refine qA1 (eE:=[(0,w9 a),(1,w9 b)]) Kr ?_
 refine oH 13 g62p2 [(10,.bool (!decide ((a.length:Int)=(b.length:Int)))),(9,.i (b.length:Int)),(8,w9 b),(7,.i (a.length:Int)),(6,w9 a),(4,.bool false),(0,w9 a),(1,w9 b)] (mkH []) ?_
 refine oS 10 (λc=>?_) (λc=>?_)
 ·exact oQ 6
 ·refine oL 9 g62p6 [(0,w9 a),(1,w9 b),(5,.i 0)] ?_
  exact (qNr k a b k) 0
end
structure Fns2 where
 g25:S28→S28→Bool→Option Bool
structure FnsOk2 (F:Fns2):Prop where
 g25_ok:∀ (a0:S28) (a1:S28) (a2:Bool),∀ (r:Bool),F.g25 a0 a1 a2=some r→PureOk Tryz.prog 25 [.agg [.i a0.f0,.str a0.f1,q29 a0.f2,.bool a0.f3,.bool a0.f4,w9 a0.f5,w9 a0.f6],.agg [.i a1.f0,.str a1.f1,q29 a1.f2,.bool a1.f3,.bool a1.f4,w9 a1.f5,w9 a1.f6],.bool a2] (.bool r)
end Go.Proofs.YthpplbkobokghaaGreat.Am
set_option maxRecDepth 100000
set_option linter.unusedVariables false
namespace Go.Proofs.YthpplbkobokghaaGreat.Am
noncomputable section
open Go
def Xg25:Fx Bool:=⟨Tryz.prog,cx,Tryz.f25,λr => .bool r,0,λ_=>H0,cxTi,cxOrd,λ_=>none,false⟩
def g25p1:Pt:=nav [0,0,0,0] (nav [0] (bodyAt Tryz.f25))
def g25p2:Pt:=nav [0,0] g25p1
def g25p6:Pt:=nav [0,0,0,0] (nav [2,0,0,0] g25p2)
def g25p8:Pt:=nav [0,0] (nav [0,0,0] g25p6)
def g25p9:Pt:=nav [1,0,0,0,0] g25p8
def g25d0:DP:=⟨[],[(0,0,0),(1,0,0),(0,0,0),(7,0,0),(15,0,0),(0,0,0),(32,0,0),(0,0,0),(224,0,0),(480,0,0),(0,0,0),(2047,0,0),(4095,0,0)],13,thrown,[],H0⟩
def qIc (k:Nat) (F:Fns2)  (h:S28) (j:S28) (l:Bool) (ih:Int→Option Bool):Int→Option Bool :=
 λ(a:Int)=>if (decide (a < (h.f2.n:Int))) then ((nthR d29 7 h.f2.n h.f2.cells a).bind λc=>(nthR d29 7 j.f2.n j.f2.cells a).bind λg=>(F.g25 c g l).bind λb=>if (!b) then (some false) else (ih (fW .i64 (a+1)))) else (some true)
def qOf (k:Nat) (F:Fns2)  (a:S28) (b:S28) (c:Bool) (n:Nat):Int→Option Bool:=lp (λ_=>none) (qIc k F a b c) n
theorem qOe (k:Nat) (F:Fns2) (C:FnsOk2 F)   (g:S28) (j:S28) (l:Bool)  : ∀ (n:Nat) (c:Int),Ok Xg25 g25p6 [(2,.bool l),(3,.ptr 0 7 0),(4,.ptr 1 7 0),(7,.i c)] (mkH [⟨[.i g.f0,.str g.f1,q29 g.f2,.bool g.f3,.bool g.f4,w9 g.f5,w9 g.f6],0,false⟩,⟨[.i j.f0,.str j.f1,q29 j.f2,.bool j.f3,.bool j.f4,w9 j.f5,w9 j.f6],0,false⟩]) (qOf k F g j l n c):=by
 intro n
 induction n with
 | zero=>intro c; exact ok_none
 | succ n ih =>
  intro c
  show Ok _ _ _ _ (qIc k F g j l (qOf k F g j l n) c)
  unfold qIc
  refine qAd (p':=nav [0] g25p6) Kr ?_
  let A:Env:=[(66,.bool (decide (c < (g.f2.n:Int)))),(65,.i (g.f2.n:Int)),(64,q29 g.f2),(63,.ptr 0 7 2),(62,.i c),(2,.bool l),(3,.ptr 0 7 0),(4,.ptr 1 7 0),(7,.i c)]
  refine oH 9 g25p8 A (mkH [⟨e29 g,0,false⟩,⟨e29 j,0,false⟩]) ?_
  refine oS 66 (λu=>?_) (λu=>?_)
  ·refine oR 5 g25p9 ((66,.bool true)::A) ?_
   refine qA7 (λb o=>?_)
   refine qA7 (λa q=>?_)
   refine qA7 (λh m=>?_)
   let z:Env:=[(71,.i c),(70,q29 g.f2),(69,.ptr 0 7 2),(66,.bool true),(66,.bool (decide (c < (g.f2.n:Int)))),(65,.i (g.f2.n:Int)),(64,q29 g.f2),(63,.ptr 0 7 2),(62,.i c),(2,.bool l),(3,.ptr 0 7 0),(4,.ptr 1 7 0),(7,.i c)]
   let r:Env:=((76,.i c)::(75,q29 j.f2)::(74,.ptr 1 7 2)::(73,n29 b)::(72,.vptr [.i b.f0,.str b.f1,q29 b.f2,.bool b.f3,.bool b.f4,w9 b.f5,w9 b.f6])::z)
   let B:Env:=((81,.bool (!h))::(80,.bool h)::(79,.bool l)::(78,n29 a)::(77,.vptr [.i a.f0,.str a.f1,q29 a.f2,.bool a.f3,.bool a.f4,w9 a.f5,w9 a.f6])::r)
   refine oD (H':=(mkH [⟨e29 g,0,false⟩,⟨e29 j,0,false⟩])) (nav [0] g25p9) B [(mkH [⟨e29 g,0,false⟩,⟨e29 j,0,false⟩])] g25d0 (oDr 3 3 z (qFz (l':=(opsAt g25p9).toList.drop 4) (eE:=((72,.vptr [.i b.f0,.str b.f1,q29 b.f2,.bool b.f3,.bool b.f4,w9 b.f5,w9 b.f6])::z)) (hs:=[]) (x:=b) (λ(b:S28)=>(.vptr [.i b.f0,.str b.f1,q29 b.f2,.bool b.f3,.bool b.f4,w9 b.f5,w9 b.f6],(mkH [⟨e29 g,0,false⟩,⟨e29 j,0,false⟩]))) (vidxR (sz:=7) qKb o Kr) Kr (oDr 4 8 r (qFz (l':=(opsAt g25p9).toList.drop 9) (eE:=((77,.vptr [.i a.f0,.str a.f1,q29 a.f2,.bool a.f3,.bool a.f4,w9 a.f5,w9 a.f6])::r)) (hs:=[]) (x:=a) (λ(a:S28)=>(.vptr [.i a.f0,.str a.f1,q29 a.f2,.bool a.f3,.bool a.f4,w9 a.f5,w9 a.f6],(mkH [⟨e29 g,0,false⟩,⟨e29 j,0,false⟩]))) (vidxR (sz:=7) qKb q Kr) Kr (oDr 2 11 ((79,.bool l)::(78,n29 a)::(77,.vptr [.i a.f0,.str a.f1,q29 a.f2,.bool a.f3,.bool a.f4,w9 a.f5,w9 a.f6])::r) (qAq (l':=(opsAt g25p9).toList.drop 12) (eE:=((80,.bool h)::(79,.bool l)::(78,n29 a)::(77,.vptr [.i a.f0,.str a.f1,q29 a.f2,.bool a.f3,.bool a.f4,w9 a.f5,w9 a.f6])::r)) (hs:=[(mkH [⟨e29 g,0,false⟩,⟨e29 j,0,false⟩])]) (fi:=25) (args:=[n29 b,n29 a,.bool l]) (v := .bool h) Kr Kr Kr (C.g25_ok b a l h m) Kr (oDr 1 13 B .nil))))))) ?_
   refine oS 81 (λu=>?_) (λu=>?_)
   ·exact oQ 6
   ·refine oL 7 g25p6 [(2,.bool l),(3,.ptr 0 7 0),(4,.ptr 1 7 0),(7,.i (fW .i64 (c+1)))] ?_
    exact ih (fW .i64 (c+1))
  ·exact oQ 7
def g25B (k:Nat) (F:Fns2) (c:S28) (g:S28) (j:Bool):Option Bool :=
 jn (λ(l:Bool)=>if l then (some false) else (qOf k F c g j k 0)) (λh=>if (!decide (c.f0=g.f0)) then (h true) else (if (!(eqL c.f1 g.f1)) then (h true) else (if (!(c.f4 == g.f4)) then (h true) else (if j then (if (!(c.f3 == g.f3)) then (h true) else ((g62 k c.f5 g.f5).bind λa=>if (!a) then (h true) else ((g62 k c.f6 g.f6).bind λb=>if (!b) then (h true) else (h (!decide ((c.f2.n:Int)=(g.f2.n:Int))))))) else ((g62 k c.f5 g.f5).bind λa=>if (!a) then (h true) else ((g62 k c.f6 g.f6).bind λb=>if (!b) then (h true) else (h (!decide ((c.f2.n:Int)=(g.f2.n:Int))))))))))
theorem g25B_ok (k:Nat) (F:Fns2) (I:FnsOk2 F) (b:S28) (c:S28) (j:Bool) (r:Bool) (h:g25B k F b c j=some r):PureOk Tryz.prog 25 [.agg [.i b.f0,.str b.f1,q29 b.f2,.bool b.f3,.bool b.f4,w9 b.f5,w9 b.f6],.agg [.i c.f0,.str c.f1,q29 c.f2,.bool c.f3,.bool c.f4,w9 c.f5,w9 c.f6],.bool j] (.bool r):=by
 refine qA5 Xg25 (λ_=>⟨rfl,rfl⟩) Tryz.func25 (by decide +kernel) Kr (t:=g25B k F b c j) ?_ h
 unfold g25B
 refine qA1 (eE:=[(0,.agg [.i b.f0,.str b.f1,q29 b.f2,.bool b.f3,.bool b.f4,w9 b.f5,w9 b.f6]),(1,.agg [.i c.f0,.str c.f1,q29 c.f2,.bool c.f3,.bool c.f4,w9 c.f5,w9 c.f6]),(2,.bool j)]) Kr ?_
 let G:Env:=[(13,.bool (!decide (b.f0=c.f0))),(12,.bool (!decide (b.f0=c.f0))),(11,.i c.f0),(10,.ptr 1 7 0),(9,.i b.f0),(8,.ptr 0 7 0),(6,.bool false),(4,.ptr 1 7 0),(3,.ptr 0 7 0),(0,n29 b),(1,n29 c),(2,.bool j)]
 refine oH 15 (atN 6 (ctl1 g25p1)) G (mkH [⟨e29 b,0,false⟩,⟨e29 c,0,false⟩]) ?_
 refine oJ g25p2 (λ(E:Bool)=>[(2,.bool j),(3,.ptr 0 7 0),(4,.ptr 1 7 0),(61,.bool E)]) (λ(E:Bool)=>(mkH [⟨e29 b,0,false⟩,⟨e29 c,0,false⟩])) (λE=>?_) (λJ l=>?_)
 ·refine oS 61 (λm=>?_) (λm=>?_)
  ·exact oQ 6
  ·refine oLH 9 g25p6 [(2,.bool j),(3,.ptr 0 7 0),(4,.ptr 1 7 0),(7,.i 0)] (mkH [⟨e29 b,0,false⟩,⟨e29 c,0,false⟩]) ?_
   exact (qOe k F I b c j k) 0
 ·refine oS 13 (λm=>?_) (λm=>?_)
  ·refine oLH 49 g25p2 [(2,.bool j),(3,.ptr 0 7 0),(4,.ptr 1 7 0),(61,.bool true)] (mkH [⟨e29 b,0,false⟩,⟨e29 c,0,false⟩]) ?_
   exact l true
  ·let A:Env:=((20,.bool (!(eqL b.f1 c.f1)))::(19,.bool (!(eqL b.f1 c.f1)))::(18,.bool (!(eqL b.f1 c.f1)))::(17,.str c.f1)::(16,.ptr 1 7 1)::(15,.str b.f1)::(14,.ptr 0 7 1)::(13,.bool false)::G)
   refine oH 7 (atN 13 (ctl1 g25p1)) A (mkH [⟨e29 b,0,false⟩,⟨e29 c,0,false⟩]) ?_
   refine oS 20 (λm=>?_) (λm=>?_)
   ·refine oL 42 g25p2 [(2,.bool j),(3,.ptr 0 7 0),(4,.ptr 1 7 0),(61,.bool true)] ?_
    exact l true
   ·let o:Env:=((27,.bool (!(b.f4 == c.f4)))::(26,.bool (!(b.f4 == c.f4)))::(25,.bool (!(b.f4 == c.f4)))::(24,.bool c.f4)::(23,.ptr 1 7 4)::(22,.bool b.f4)::(21,.ptr 0 7 4)::(20,.bool false)::A)
    refine oR 7 (atN 20 (ctl1 g25p1)) o ?_
    refine oS 27 (λm=>?_) (λm=>?_)
    ·refine oL 35 g25p2 [(2,.bool j),(3,.ptr 0 7 0),(4,.ptr 1 7 0),(61,.bool true)] ?_
     exact l true
    ·refine oR 2 (atN 22 (ctl1 g25p1)) ((29,.bool j)::(28,.bool j)::(27,.bool false)::o) ?_
     refine oS 29 (λm=>?_) (λm=>?_)
     ·let B:Env:=((37,.bool (!(b.f3 == c.f3)))::(36,.bool (!(b.f3 == c.f3)))::(35,.bool (!(b.f3 == c.f3)))::(34,.bool (!(b.f3 == c.f3)))::(33,.bool c.f3)::(32,.ptr 1 7 3)::(31,.bool b.f3)::(30,.ptr 0 7 3)::(29,.bool true)::(29,.bool j)::(28,.bool j)::(27,.bool false)::o)
      refine oR 8 (atN 30 (ctl1 g25p1)) B ?_
      refine oS 37 (λm=>?_) (λm=>?_)
      ·refine oL 25 g25p2 [(2,.bool j),(3,.ptr 0 7 0),(4,.ptr 1 7 0),(61,.bool true)] ?_
       exact l true
      ·let x:Env:=((41,w9 c.f5)::(40,.ptr 1 7 5)::(39,w9 b.f5)::(38,.ptr 0 7 5)::(37,.bool false)::B)
       refine oR 4 (atN 34 (ctl1 g25p1)) x ?_
       refine oA (λ(a:Bool) => .bool a) (atN 35 (ctl1 g25p1)) 42 [w9 b.f5,w9 c.f5] (qK3 k b.f5 c.f5) λa q=>?_
       refine oR 3 (atN 38 (ctl1 g25p1)) ((45,.bool (!a))::(44,.bool (!a))::(43,.bool (!a))::(42,.bool a)::x) ?_
       refine oS 45 (λm=>?_) (λm=>?_)
       ·refine oL 17 g25p2 [(2,.bool j),(3,.ptr 0 7 0),(4,.ptr 1 7 0),(61,.bool true)] ?_
        exact l true
       ·let C:Env:=((49,w9 c.f6)::(48,.ptr 1 7 6)::(47,w9 b.f6)::(46,.ptr 0 7 6)::(45,.bool false)::(45,.bool (!a))::(44,.bool (!a))::(43,.bool (!a))::(42,.bool a)::x)
        refine oR 4 (atN 42 (ctl1 g25p1)) C ?_
        refine oA (λ(g:Bool) => .bool g) (atN 43 (ctl1 g25p1)) 50 [w9 b.f6,w9 c.f6] (qK3 k b.f6 c.f6) λg u=>?_
        refine oR 3 (atN 46 (ctl1 g25p1)) ((53,.bool (!g))::(52,.bool (!g))::(51,.bool (!g))::(50,.bool g)::C) ?_
        refine oS 53 (λm=>?_) (λm=>?_)
        ·refine oL 9 g25p2 [(2,.bool j),(3,.ptr 0 7 0),(4,.ptr 1 7 0),(61,.bool true)] ?_
         exact l true
        ·refine oL 9 g25p2 [(2,.bool j),(3,.ptr 0 7 0),(4,.ptr 1 7 0),(61,.bool (!decide ((b.f2.n:Int)=(c.f2.n:Int))))] ?_
         exact l (!decide ((b.f2.n:Int)=(c.f2.n:Int)))
     ·let z:Env:=((41,w9 c.f5)::(40,.ptr 1 7 5)::(39,w9 b.f5)::(38,.ptr 0 7 5)::(37,.bool false)::(36,.bool false)::(35,.bool false)::(34,.tuple [])::(33,.tuple [])::(32,.tuple [])::(31,.tuple [])::(30,.tuple [])::(29,.bool false)::(29,.bool j)::(28,.bool j)::(27,.bool false)::o)
      refine oR 12 (atN 34 (ctl1 g25p1)) z ?_
      refine oA (λ(a:Bool) => .bool a) (atN 35 (ctl1 g25p1)) 42 [w9 b.f5,w9 c.f5] (qK3 k b.f5 c.f5) λa q=>?_
      refine oR 3 (atN 38 (ctl1 g25p1)) ((45,.bool (!a))::(44,.bool (!a))::(43,.bool (!a))::(42,.bool a)::z) ?_
      refine oS 45 (λm=>?_) (λm=>?_)
      ·refine oL 17 g25p2 [(2,.bool j),(3,.ptr 0 7 0),(4,.ptr 1 7 0),(61,.bool true)] ?_
       exact l true
      ·let D:Env:=((49,w9 c.f6)::(48,.ptr 1 7 6)::(47,w9 b.f6)::(46,.ptr 0 7 6)::(45,.bool false)::(45,.bool (!a))::(44,.bool (!a))::(43,.bool (!a))::(42,.bool a)::z)
       refine oR 4 (atN 42 (ctl1 g25p1)) D ?_
       refine oA (λ(g:Bool) => .bool g) (atN 43 (ctl1 g25p1)) 50 [w9 b.f6,w9 c.f6] (qK3 k b.f6 c.f6) λg u=>?_
       refine oR 3 (atN 46 (ctl1 g25p1)) ((53,.bool (!g))::(52,.bool (!g))::(51,.bool (!g))::(50,.bool g)::D) ?_
       refine oS 53 (λm=>?_) (λm=>?_)
       ·refine oL 9 g25p2 [(2,.bool j),(3,.ptr 0 7 0),(4,.ptr 1 7 0),(61,.bool true)] ?_
        exact l true
       ·refine oL 9 g25p2 [(2,.bool j),(3,.ptr 0 7 0),(4,.ptr 1 7 0),(61,.bool (!decide ((b.f2.n:Int)=(c.f2.n:Int))))] ?_
        exact l (!decide ((b.f2.n:Int)=(c.f2.n:Int)))
def par2 (n:Nat):Fns2:=Nat.rec (motive:=λ_=>Fns2) ⟨λ_ _ _=>none⟩ (λk F=>⟨g25B k F⟩) n
theorem qLi : ∀ k, FnsOk2 (par2 k)
 | 0=>⟨(λ_ _ _ _ h=>nomatch h)⟩
 | k+1=>⟨g25B_ok k (par2 k) (qLi k)⟩
def g25 (k:Nat) (a:S28) (b:S28) (c:Bool):Option Bool:=(par2 k).g25 a b c
theorem g25_ok (k:Nat):∀ (a:S28) (b:S28) (c:Bool),∀ (r:Bool),g25 k a b c=some r→PureOk Tryz.prog 25 [.agg [.i a.f0,.str a.f1,q29 a.f2,.bool a.f3,.bool a.f4,w9 a.f5,w9 a.f6],.agg [.i b.f0,.str b.f1,q29 b.f2,.bool b.f3,.bool b.f4,w9 b.f5,w9 b.f6],.bool c] (.bool r):=(qLi k).g25_ok
def Xg9:Fx Bool:=⟨Tryz.prog,cx,Tryz.f9,λr => .bool r,0,λ_=>H0,cxTi,cxOrd,λ_=>none,false⟩
def g9p1:Pt:=nav [0,0,0] (nav [0] (bodyAt Tryz.f9))
def g9 (k:Nat) (b:S28) (c:S28):Option Bool :=
 (g25 k b c true).bind λa=>some a
theorem g9_ok (k:Nat) (a:S28) (b:S28) (r:Bool) (h:g9 k a b=some r):PureOk Tryz.prog 9 [.agg [.i a.f0,.str a.f1,q29 a.f2,.bool a.f3,.bool a.f4,w9 a.f5,w9 a.f6],.agg [.i b.f0,.str b.f1,q29 b.f2,.bool b.f3,.bool b.f4,w9 b.f5,w9 b.f6]] (.bool r):=by
 refine qA5 Xg9 (λ_=>⟨rfl,rfl⟩) Tryz.func9 (by decide +kernel) Kr (t:=g9 k a b) ?_ h
 unfold g9
 refine qA1 (eE:=[(0,.agg [.i a.f0,.str a.f1,q29 a.f2,.bool a.f3,.bool a.f4,w9 a.f5,w9 a.f6]),(1,.agg [.i b.f0,.str b.f1,q29 b.f2,.bool b.f3,.bool b.f4,w9 b.f5,w9 b.f6])]) Kr ?_
 refine oH 10 (atN 2 (ctl1 g9p1)) [(6,n29 b),(5,n29 a),(4,.bool false),(3,.ptr 1 7 0),(2,.ptr 0 7 0),(0,n29 a),(1,n29 b)] (mkH [⟨e29 a,0,false⟩,⟨e29 b,0,false⟩]) ?_
 refine oA (λ(c:Bool) => .bool c) (atN 3 (ctl1 g9p1)) 7 [n29 a,n29 b,.bool true] (g25_ok k a b true) λc g=>?_
 exact oQ 3
def Xg3:Fx Bool:=⟨Tryz.prog,cx,Tryz.f3,λr => .bool r,0,λ_=>H0,cxTi,cxOrd,λ_=>none,false⟩
def g3c0:LN:=[35,123,99,32,61,62,32,100,125]
def g3c1:LN:=[99,97,115,101,32,97,32,111,102,32,98,32,45,62,32,99,32,101,110,100]
def g3c2:LN:=[102,117,110,32,102,47,49]
def g3c3:LN:=[99,97,116,99,104,32,99]
def g3c4:LL:=[([97]:LN),([88,32,43,32,49]:LN),([102,40,49,41]:LN),([123,97,125]:LN),([91,98,93]:LN),g3c0,g3c1,g3c2,([45,32,97]:LN),([97,32,61,32,98]:LN),g3c3,([88,35,114,46,102]:LN)]
def g3c5:LN:=[119,104,101,110,32,105]
def g3c6:LL:=[([44,32,98]:LN),([41,32,99]:LN),([125,32,100]:LN),([93,32,101]:LN),([59,32,102]:LN),([45,62,32,103]:LN),([101,110,100]:LN),([111,102,32,104]:LN),g3c5,([124,124,32,106]:LN),([60,45,32,107]:LN),([61,62,32,108]:LN),([62,62,32,109]:LN),([46]:LN)]
def g3p1:Pt:=nav [0,0,0] (nav [0] (bodyAt Tryz.f3))
def g3p2:Pt:=nav [0,0,0] g3p1
def g3p3:Pt:=nav [0,0,0] g3p2
def g3p4:Pt:=nav [0,0,0] g3p3
def g3p5:Pt:=nav [0,0,0] g3p4
def g3p6:Pt:=nav [0,0,0] g3p5
def g3p7:Pt:=nav [0,0,0,0] g3p6
def g3p8:Pt:=nav [0,0] g3p7
def g3p10:Pt:=nav [2,0,0] g3p8
def g3p12:Pt:=nav [0,0,0] g3p10
def g3p13:Pt:=nav [0,0,0] g3p12
def g3p14:Pt:=nav [0,0,0] g3p13
def g3 (k:Nat) (C:Int) (D:Int):Option Bool :=
 (remS (fW .u64 C) (fW .u64 (g3c4.length:Int))).bind λo=>(nthL g3c4 (fW .i64 o)).bind λc=>(remS (fW .u64 D) (fW .u64 (g3c6.length:Int))).bind λq=>(nthL g3c6 (fW .i64 q)).bind λl=>(g5 k c).bind λa=>(catS c ([32]:LN)).bind λr=>(catS r l).bind λu=>(g5 k u).bind λg=>jn (λ(E:Bool)=>if E then (some false) else ((g6 k c a.1 (0:Int) (a.1.length:Int) (0:Int)).bind λb=>(catS c ([32]:LN)).bind λx=>(catS x l).bind λz=>(g6 k z g.1 (0:Int) (g.1.length:Int) (0:Int)).bind λh=>(g7 k c a.1 (0:Int) (a.1.length:Int) (0:Int)).bind λj=>(g8 k).bind λA=>if A then (if (decide (b.2.2=0)) then (if (decide (h.2.2=0)) then (if (decide (j.2.2=0)) then (if (decide (b.2.1=(a.1.length:Int))) then (if (decide (h.2.1=b.2.1)) then (if (decide (j.2.1=b.2.1)) then ((g9 k b.1 h.1).bind λm=>if m then ((g9 k b.1 j.1).bind λn=>some n) else (some false)) else (some false)) else (some false)) else (some false)) else (some false)) else (some false)) else (some false)) else (some false))) (λB=>if (!decide (a.2=0)) then (B true) else (B (!decide (g.2=0))))
theorem g3_ok (k:Nat) (D:Int) (C:Int) (r:Bool) (h:g3 k D C=some r):PureOk Tryz.prog 3 [.i D,.i C] (.bool r):=by
 refine qA5 Xg3 (λ_=>⟨rfl,rfl⟩) Tryz.func3 (by decide +kernel) Kr (t:=g3 k D C) ?_ h
 unfold g3
 refine qA1 (eE:=[(0,.i D),(1,.i C)]) Kr ?_
 refine oH 7 (atN 1 (ctl1 g3p1)) [(22,.slice 0 12 0 12 1),(4,.bool false),(0,.i D),(1,.i C)] (mkH [⟨[.str [97],.str [88,32,43,32,49],.str [102,40,49,41],.str [123,97,125],.str [91,98,93],.str g3c0,.str g3c1,.str g3c2,.str [45,32,97],.str [97,32,61,32,98],.str g3c3,.str [88,35,114,46,102]],0,false⟩]) ?_
 refine oZ 22 0 12 1 [.str [97],.str [88,32,43,32,49],.str [102,40,49,41],.str [123,97,125],.str [91,98,93],.str g3c0,.str g3c1,.str g3c2,.str [45,32,97],.str [97,32,61,32,98],.str g3c3,.str [88,35,114,46,102]] [0,1,4] [] trivial ?_
 refine oH 5 (atN 1 (ctl1 g3p2)) [(23,.slice 1 14 0 14 1),(5,w9 g3c4),(22,w9 g3c4),(0,.i D),(1,.i C),(4,.bool false)] (mkH [⟨[],0,false⟩,⟨[.str [44,32,98],.str [41,32,99],.str [125,32,100],.str [93,32,101],.str [59,32,102],.str [45,62,32,103],.str [101,110,100],.str [111,102,32,104],.str g3c5,.str [124,124,32,106],.str [60,45,32,107],.str [61,62,32,108],.str [62,62,32,109],.str [46]],0,false⟩]) ?_
 refine oZ 23 1 14 1 [.str [44,32,98],.str [41,32,99],.str [125,32,100],.str [93,32,101],.str [59,32,102],.str [45,62,32,103],.str [101,110,100],.str [111,102,32,104],.str g3c5,.str [124,124,32,106],.str [60,45,32,107],.str [61,62,32,108],.str [62,62,32,109],.str [46]] [0,1,4,5,22] [] trivial ?_
 let E2:Env:=[(29,.int .u64 (fW .u64 (g3c4.length:Int))),(28,.i (g3c4.length:Int)),(27,w9 g3c4),(26,.int .u64 (fW .u64 D)),(25,.i D),(24,w9 g3c4),(6,w9 g3c6),(23,w9 g3c6),(0,.i D),(1,.i C),(4,.bool false),(5,w9 g3c4),(22,w9 g3c4)]
 refine oH 10 (atN 6 (ctl1 g3p3)) E2 (mkH [⟨[],0,false⟩,⟨[],0,false⟩]) ?_
 refine oRem .u64 29 30 (atN 7 (ctl1 g3p3)) λG Z=>?_
 refine oH 1 (atN 8 (ctl1 g3p3)) ((31,.i (fW .i64 G))::(30,.int .u64 G)::E2) (mkH [⟨[],0,false⟩,⟨[],0,false⟩]) ?_
 refine oC (λ(c:LN)=>(.vptr [.str c],(mkH [⟨[],0,false⟩,⟨[],0,false⟩]))) (atN 9 (ctl1 g3p3)) 32 (vidxH (sz:=1) qBq Kr) λc a2=>?_
 let E4:Env:=[(1,.i C),(6,w9 g3c6),(7,.str c)]
 refine oLH 4 g3p4 E4 (mkH [⟨[],0,false⟩,⟨[],0,false⟩]) ?_
 let E5:Env:=((39,.int .u64 (fW .u64 (g3c6.length:Int)))::(38,.i (g3c6.length:Int))::(37,w9 g3c6)::(36,.int .u64 (fW .u64 C))::(35,.i C)::(34,w9 g3c6)::E4)
 refine oR 7 (atN 6 (ctl1 g3p4)) E5 ?_
 refine oRem .u64 39 40 (atN 7 (ctl1 g3p4)) λI a3=>?_
 refine oH 1 (atN 8 (ctl1 g3p4)) ((41,.i (fW .i64 I))::(40,.int .u64 I)::E5) (mkH [⟨[],0,false⟩,⟨[],0,false⟩]) ?_
 refine oC (λ(m:LN)=>(.vptr [.str m],(mkH [⟨[],0,false⟩,⟨[],0,false⟩]))) (atN 9 (ctl1 g3p4)) 42 (vidxH (sz:=1) qBq Kr) λm a4=>?_
 let E7:Env:=[(7,.str c),(8,.str m)]
 refine oLH 4 g3p5 E7 (mkH [⟨[],0,false⟩,⟨[],0,false⟩]) ?_
 refine oR 2 (atN 1 (ctl1 g3p5)) ((45,.str c)::E7) ?_
 refine oA (λ(a:((List S43)×Int)) => .tuple [w44 a.1,.i a.2]) (atN 2 (ctl1 g3p5)) 46 [.str c] (g5_ok k c) λa a6=>?_
 let E8:Env:=((50,.str c)::(10,.i a.2)::(9,w44 a.1)::(48,.i a.2)::(47,w44 a.1)::(44,.tuple [w44 a.1,.i a.2])::(46,.tuple [w44 a.1,.i a.2])::(45,.str c)::E7)
 refine oR 9 (atN 1 (ctl1 g3p6)) E8 ?_
 refine oC (λ(A:LN)=>(.str A,(mkH [⟨[],0,false⟩,⟨[],0,false⟩]))) (atN 2 (ctl1 g3p6)) 51 (catH Kr) λA a7=>?_
 refine oH 1 (atN 3 (ctl1 g3p6)) ((52,.str m)::(51,.str A)::E8) (mkH [⟨[],0,false⟩,⟨[],0,false⟩]) ?_
 refine oC (λ(x:LN)=>(.str x,(mkH [⟨[],0,false⟩,⟨[],0,false⟩]))) (atN 4 (ctl1 g3p6)) 53 (catH Kr) λx a8=>?_
 refine oA (λ(j:((List S43)×Int)) => .tuple [w44 j.1,.i j.2]) (atN 5 (ctl1 g3p6)) 54 [.str x] (g5_ok k x) λj a9=>?_
 let K:Env:=[(7,.str c),(8,.str m),(9,w44 a.1),(10,.i a.2),(11,w44 j.1),(12,.i j.2)]
 refine oLH 8 g3p7 K (mkH [⟨[],0,false⟩,⟨[],0,false⟩]) ?_
 refine oR 4 (atN 3 (ctl1 g3p7)) ((59,.bool (!decide (a.2=0)))::(58,.bool (!decide (a.2=0)))::(57,.i a.2)::K) ?_
 refine oJ g3p8 (λ(V:Bool)=>[(7,.str c),(8,.str m),(9,w44 a.1),(11,w44 j.1),(62,.bool V)]) (λ(V:Bool)=>(mkH [])) (λV=>?_) (λj8 L=>?_)
 ·refine oS 62 (λq=>?_) (λq=>?_)
  ·exact oQ 6
  ·refine oH 8 (atN 4 (ctl1 g3p10)) [(67,.i (a.1.length:Int)),(66,w44 a.1),(65,w44 a.1),(64,.str c),(62,.bool false),(7,.str c),(8,.str m),(9,w44 a.1),(11,w44 j.1),(62,.bool V)] (mkH []) ?_
   refine oA (λ(b:(S28×Int×Int)) => .tuple [n29 b.1,.i b.2.1,.i b.2.2]) (atN 5 (ctl1 g3p10)) 68 [.str c,w44 a.1,.i 0,.i (a.1.length:Int),.i 0] (g6_ok k c a.1 (0:Int) (a.1.length:Int) (0:Int)) λb b0=>?_
   let E:Env:=[(7,.str c),(8,.str m),(9,w44 a.1),(11,w44 j.1),(13,.ptr 0 7 0),(14,.i b.2.1),(15,.i b.2.2)]
   refine oLH 10 g3p12 E (mkH [⟨e29 b.1,7,false⟩]) ?_
   refine oR 2 (atN 1 (ctl1 g3p12)) ((73,.str c)::E) ?_
   refine oC (λ(z:LN)=>(.str z,(mkH [⟨e29 b.1,7,false⟩]))) (atN 2 (ctl1 g3p12)) 74 (catH Kr) λz b1=>?_
   refine oH 1 (atN 3 (ctl1 g3p12)) ((75,.str m)::(74,.str z)::(73,.str c)::E) (mkH [⟨e29 b.1,7,false⟩]) ?_
   refine oC (λ(u:LN)=>(.str u,(mkH [⟨e29 b.1,7,false⟩]))) (atN 4 (ctl1 g3p12)) 76 (catH Kr) λu b2=>?_
   refine oH 3 (atN 7 (ctl1 g3p12)) ((79,.i (j.1.length:Int))::(78,w44 j.1)::(77,w44 j.1)::(76,.str u)::(75,.str m)::(74,.str z)::(73,.str c)::E) (mkH [⟨e29 b.1,7,false⟩]) ?_
   refine oA (λ(g:(S28×Int×Int)) => .tuple [n29 g.1,.i g.2.1,.i g.2.2]) (atN 8 (ctl1 g3p12)) 80 [.str u,w44 j.1,.i 0,.i (j.1.length:Int),.i 0] (g6_ok k u j.1 (0:Int) (j.1.length:Int) (0:Int)) λg b3=>?_
   let M:Env:=[(7,.str c),(9,w44 a.1),(13,.ptr 0 7 0),(14,.i b.2.1),(15,.i b.2.2),(16,.ptr 1 7 0),(17,.i g.2.1),(18,.i g.2.2)]
   refine oLH 10 g3p13 M (mkH [⟨e29 b.1,7,false⟩,⟨e29 g.1,7,false⟩]) ?_
   refine oR 5 (atN 4 (ctl1 g3p13)) ((88,.i (a.1.length:Int))::(87,w44 a.1)::(86,w44 a.1)::(85,.str c)::M) ?_
   refine oA (λ(l:(S28×Int×Int)) => .tuple [n29 l.1,.i l.2.1,.i l.2.2]) (atN 5 (ctl1 g3p13)) 89 [.str c,w44 a.1,.i 0,.i (a.1.length:Int),.i 0] (g7_ok k c a.1 (0:Int) (a.1.length:Int) (0:Int)) λl b4=>?_
   let F:Env:=[(9,w44 a.1),(13,.ptr 0 7 0),(14,.i b.2.1),(15,.i b.2.2),(16,.ptr 1 7 0),(17,.i g.2.1),(18,.i g.2.2),(19,.ptr 2 7 0),(20,.i l.2.1),(21,.i l.2.2)]
   refine oLH 10 g3p14 F (mkH [⟨e29 b.1,7,false⟩,⟨e29 g.1,7,false⟩,⟨e29 l.1,7,false⟩]) ?_
   refine oR 1 (atN 0 (ctl1 g3p14)) F ?_
   refine oA (λ(o:Bool) => .bool o) (atN 1 (ctl1 g3p14)) 93 [] (g8_ok k ) λo b5=>?_
   refine oR 1 (atN 2 (ctl1 g3p14)) ((94,.bool o)::(93,.bool o)::F) ?_
   refine oS 94 (λq=>?_) (λq=>?_)
   ·let N:Env:=((98,.bool (decide (b.2.2=0)))::(97,.bool (decide (b.2.2=0)))::(96,.bool (decide (b.2.2=0)))::(95,.i b.2.2)::(94,.bool true)::(94,.bool o)::(93,.bool o)::F)
    refine oR 4 (atN 6 (ctl1 g3p14)) N ?_
    refine oS 98 (λq=>?_) (λq=>?_)
    ·let O:Env:=((102,.bool (decide (g.2.2=0)))::(101,.bool (decide (g.2.2=0)))::(100,.bool (decide (g.2.2=0)))::(99,.i g.2.2)::(98,.bool true)::N)
     refine oR 4 (atN 10 (ctl1 g3p14)) O ?_
     refine oS 102 (λq=>?_) (λq=>?_)
     ·let Q:Env:=((106,.bool (decide (l.2.2=0)))::(105,.bool (decide (l.2.2=0)))::(104,.bool (decide (l.2.2=0)))::(103,.i l.2.2)::(102,.bool true)::O)
      refine oR 4 (atN 14 (ctl1 g3p14)) Q ?_
      refine oS 106 (λq=>?_) (λq=>?_)
      ·let S:Env:=((112,.bool (decide (b.2.1=(a.1.length:Int))))::(111,.bool (decide (b.2.1=(a.1.length:Int))))::(110,.bool (decide (b.2.1=(a.1.length:Int))))::(109,.i (a.1.length:Int))::(108,w44 a.1)::(107,.i b.2.1)::(106,.bool true)::Q)
       refine oR 6 (atN 20 (ctl1 g3p14)) S ?_
       refine oS 112 (λq=>?_) (λq=>?_)
       ·let T:Env:=((117,.bool (decide (g.2.1=b.2.1)))::(116,.bool (decide (g.2.1=b.2.1)))::(115,.bool (decide (g.2.1=b.2.1)))::(114,.i b.2.1)::(113,.i g.2.1)::(112,.bool true)::S)
        refine oR 5 (atN 25 (ctl1 g3p14)) T ?_
        refine oS 117 (λq=>?_) (λq=>?_)
        ·let J:Env:=((122,.bool (decide (l.2.1=b.2.1)))::(121,.bool (decide (l.2.1=b.2.1)))::(120,.bool (decide (l.2.1=b.2.1)))::(119,.i b.2.1)::(118,.i l.2.1)::(117,.bool true)::T)
         refine oR 5 (atN 30 (ctl1 g3p14)) J ?_
         refine oS 122 (λq=>?_) (λq=>?_)
         ·refine oR 2 (atN 32 (ctl1 g3p14)) ((124,n29 g.1)::(123,n29 b.1)::(122,.bool true)::J) ?_
          refine oA (λ(n:Bool) => .bool n) (atN 33 (ctl1 g3p14)) 125 [n29 b.1,n29 g.1] (g9_ok k b.1 g.1) λn W=>?_
          let U:Env:=((127,.bool n)::(126,.bool n)::(125,.bool n)::(124,n29 g.1)::(123,n29 b.1)::(122,.bool true)::J)
          refine oR 2 (atN 35 (ctl1 g3p14)) U ?_
          refine oS 127 (λq=>?_) (λq=>?_)
          ·refine oR 2 (atN 37 (ctl1 g3p14)) ((129,n29 l.1)::(128,n29 b.1)::(127,.bool true)::U) ?_
           refine oA (λ(B:Bool) => .bool B) (atN 38 (ctl1 g3p14)) 130 [n29 b.1,n29 l.1] (g9_ok k b.1 l.1) λB Y=>?_
           exact oQ 4
          ·exact oQ 7
         ·exact oQ 12
        ·exact oQ 17
       ·exact oQ 22
      ·exact oQ 28
     ·exact oQ 32
    ·exact oQ 36
   ·exact oQ 40
 ·refine oS 59 (λq=>?_) (λq=>?_)
  ·refine oLH 4 g3p8 [(7,.str c),(8,.str m),(9,w44 a.1),(11,w44 j.1),(62,.bool true)] (mkH [⟨[],0,false⟩,⟨[],0,false⟩]) ?_
   refine qA8 [] [⟨[],0,false⟩,⟨[],0,false⟩] Kr rfl Kr trivial ?_
   exact L true
  ·refine oLH 4 g3p8 [(7,.str c),(8,.str m),(9,w44 a.1),(11,w44 j.1),(62,.bool (!decide (j.2=0)))] (mkH [⟨[],0,false⟩,⟨[],0,false⟩]) ?_
   refine qA8 [] [⟨[],0,false⟩,⟨[],0,false⟩] Kr rfl Kr trivial ?_
   exact L (!decide (j.2=0))
end
theorem qDz (n:Int):fW .u64 n=n % 18446744073709551616:=by
 rw [qAv]; simp [IntKind.wrap,IntKind.bits,IntKind.signed]
theorem rem_at (a:Int) (q:Nat) (h0:0 < q) (hq:q < 18446744073709551616):∃ i:Nat,i < q∧remS (fW .u64 a) (fW .u64 (q:Int))=some (i:Int)∧remS (fW .u64 (i:Int)) (fW .u64 (q:Int))=some (i:Int):=by
 have e1:fW .u64 (q:Int)=q:=by rw [qDz]; omega
 have e2:0≤fW .u64 a:=by rw [qDz]; omega
 have hne:¬ (q:Int)=0:=by omega
 have h1:0≤(fW .u64 a) % (q:Int):=Int.emod_nonneg _ hne
 have h2:(fW .u64 a) % (q:Int) < q:=Int.emod_lt_of_pos _ (by omega)
 refine ⟨((fW .u64 a) % (q:Int)).toNat,by omega,?_,?_⟩
 ·rw [e1]; unfold remS
  rw [if_neg hne,Int.tmod_eq_emod_of_nonneg e2]
  congr 1; omega
 ·rw [e1]; unfold remS
  have e3:fW .u64 ((((fW .u64 a) % (q:Int)).toNat:Nat):Int)=(fW .u64 a) % (q:Int):=by rw [qDz]; omega
  rw [e3,if_neg hne,Int.tmod_eq_emod_of_nonneg h1,Int.emod_emod_of_dvd _ (Int.dvd_refl _)]
  congr 1; omega
def isT (o:Option Bool):Bool:=match o with | some b=>b | none=>false
theorem isT_eq {o:Option Bool} (h:isT o=true):o=some true:=by
 unfold isT at h; split at h
 ·rw [h]
 ·cases h
theorem all2 {f:Nat→Nat→Option Bool} {p q:Nat} (h:((List.range p).all λi=>(List.range q).all λj=>isT (f i j))=true) (i j:Nat) (hi:i < p) (hj:j < q):f i j=some true :=
 isT_eq (List.all_eq_true.1 (List.all_eq_true.1 h i (List.mem_range.2 hi)) j (List.mem_range.2 hj))
theorem qGu:((List.range 1).all λi=>(List.range 14).all λj=>isT (g3 60 ((i+0:Nat):Int) (j:Int)))=true:=by decide +kernel
theorem qGt:((List.range 1).all λi=>(List.range 14).all λj=>isT (g3 60 ((i+1:Nat):Int) (j:Int)))=true:=by decide +kernel
theorem qGs:((List.range 1).all λi=>(List.range 14).all λj=>isT (g3 60 ((i+2:Nat):Int) (j:Int)))=true:=by decide +kernel
theorem qGr:((List.range 1).all λi=>(List.range 14).all λj=>isT (g3 60 ((i+3:Nat):Int) (j:Int)))=true:=by decide +kernel
theorem qGq:((List.range 1).all λi=>(List.range 14).all λj=>isT (g3 60 ((i+4:Nat):Int) (j:Int)))=true:=by decide +kernel
theorem qGp:((List.range 1).all λi=>(List.range 14).all λj=>isT (g3 60 ((i+5:Nat):Int) (j:Int)))=true:=by decide +kernel
theorem qGo:((List.range 1).all λi=>(List.range 14).all λj=>isT (g3 60 ((i+6:Nat):Int) (j:Int)))=true:=by decide +kernel
theorem qGn:((List.range 1).all λi=>(List.range 14).all λj=>isT (g3 60 ((i+7:Nat):Int) (j:Int)))=true:=by decide +kernel
theorem qGm:((List.range 1).all λi=>(List.range 14).all λj=>isT (g3 60 ((i+8:Nat):Int) (j:Int)))=true:=by decide +kernel
theorem qGl:((List.range 1).all λi=>(List.range 14).all λj=>isT (g3 60 ((i+9:Nat):Int) (j:Int)))=true:=by decide +kernel
theorem qFx:((List.range 1).all λi=>(List.range 14).all λj=>isT (g3 60 ((i+10:Nat):Int) (j:Int)))=true:=by decide +kernel
theorem qFw:((List.range 1).all λi=>(List.range 14).all λj=>isT (g3 60 ((i+11:Nat):Int) (j:Int)))=true:=by decide +kernel
theorem qE2 (a b:Int):∃ k,g3 k a b=some true:=by
 obtain ⟨i,hi,h1,h2⟩:=rem_at a 12 (by decide) (by decide)
 obtain ⟨j,hj,h3,h4⟩:=rem_at b 14 (by decide) (by decide)
 refine ⟨60,?_⟩
 have h:g3 60 (i:Int) (j:Int)=some true:=by
  rcases (by omega:(0≤i∧i < 1)∨(1≤i∧i < 2)∨(2≤i∧i < 3)∨(3≤i∧i < 4)∨(4≤i∧i < 5)∨(5≤i∧i < 6)∨(6≤i∧i < 7)∨(7≤i∧i < 8)∨(8≤i∧i < 9)∨(9≤i∧i < 10)∨(10≤i∧i < 11)∨(11≤i∧i < 12)) with q | q | q | q | q | q | q | q | q | q | q | q
  ·have:=all2 (f:=λi j=>g3 60 ((i+0:Nat):Int) (j:Int)) qGu (i - 0) j (by omega) hj
   rwa [show i - 0+0=i by omega] at this
  ·have:=all2 (f:=λi j=>g3 60 ((i+1:Nat):Int) (j:Int)) qGt (i - 1) j (by omega) hj
   rwa [show i - 1+1=i by omega] at this
  ·have:=all2 (f:=λi j=>g3 60 ((i+2:Nat):Int) (j:Int)) qGs (i - 2) j (by omega) hj
   rwa [show i - 2+2=i by omega] at this
  ·have:=all2 (f:=λi j=>g3 60 ((i+3:Nat):Int) (j:Int)) qGr (i - 3) j (by omega) hj
   rwa [show i - 3+3=i by omega] at this
  ·have:=all2 (f:=λi j=>g3 60 ((i+4:Nat):Int) (j:Int)) qGq (i - 4) j (by omega) hj
   rwa [show i - 4+4=i by omega] at this
  ·have:=all2 (f:=λi j=>g3 60 ((i+5:Nat):Int) (j:Int)) qGp (i - 5) j (by omega) hj
   rwa [show i - 5+5=i by omega] at this
  ·have:=all2 (f:=λi j=>g3 60 ((i+6:Nat):Int) (j:Int)) qGo (i - 6) j (by omega) hj
   rwa [show i - 6+6=i by omega] at this
  ·have:=all2 (f:=λi j=>g3 60 ((i+7:Nat):Int) (j:Int)) qGn (i - 7) j (by omega) hj
   rwa [show i - 7+7=i by omega] at this
  ·have:=all2 (f:=λi j=>g3 60 ((i+8:Nat):Int) (j:Int)) qGm (i - 8) j (by omega) hj
   rwa [show i - 8+8=i by omega] at this
  ·have:=all2 (f:=λi j=>g3 60 ((i+9:Nat):Int) (j:Int)) qGl (i - 9) j (by omega) hj
   rwa [show i - 9+9=i by omega] at this
  ·have:=all2 (f:=λi j=>g3 60 ((i+10:Nat):Int) (j:Int)) qFx (i - 10) j (by omega) hj
   rwa [show i - 10+10=i by omega] at this
  ·have:=all2 (f:=λi j=>g3 60 ((i+11:Nat):Int) (j:Int)) qFw (i - 11) j (by omega) hj
   rwa [show i - 11+11=i by omega] at this
 have hl:(g3c4.length:Int)=((12:Nat):Int):=by decide
 have hl2:(g3c6.length:Int)=((14:Nat):Int):=by decide
 simp only [g3,hl,hl2] at h ⊢
 rw [h2,h4] at h
 rw [h1,h3]
 exact h
theorem parseEnds_walk (a:Int) (b:Int) (W:World) (c:(Lit.int .i64 a).wf=true) (g:(Lit.int .i64 b).wf=true):Calls Tryz.prog 3 #[.int .i64 a,.int .i64 b] W λe W'=>e = .returned (.bool true)∧RowKit.Below W.heap.size W W':=by
 obtain ⟨k,h⟩:=qE2 a b
 exact law_walk (g3_ok k _ _ true h) (by simp only [VRs,VR,AV.i,AV.y]; exact ⟨_,_,rfl,rfl,⟨_,_,rfl,rfl,rfl⟩⟩) W
end Go.Proofs.YthpplbkobokghaaGreat.Am
namespace Go.Proofs.YthpplbkobokghaaGreat.parseEnds
open Go.ChangeShapes Go.WideShapes Go.ChangeAt Go.RowKit
open Go.ChangeMaps (open_string shut_string)
set_option linter.unusedVariables false
theorem own:ownKnob Tryz.prog.godebug=none:=by kernel_rfl
set_option maxRecDepth 100000 in
theorem lifted (os : Os) (started : os.Started) (H : Type) (enc : TypeId × Value → H) :
 ReturnsInHanded {} Tryz.checked os 3 .any (Rows.parseEndsSpec.pre6 enc Tryz.prog Tryz.f3 Rows.parseEndsRow.domain false) (Rows.parseEndsSpec.post enc Tryz.prog Tryz.f3 false true false false):=by
 refine returnsInHanded_of_change_sized (C := Tryz.checked) own started (by kernel_rfl) Tryz.func3
  (ChangeSpec.witness6 (enc:=enc) (C:=Tryz.checked) false ⟨#[],#[.int .i64 0,.int .i64 0],[]⟩ 8 (by kernel_rfl) (by kernel_rfl) (by kernel_rfl) (by kernel_rfl)) ?_
 intro W base args ds gs before hval0 hW hcnd hsz0 _
 have hsz:(DataW.weightsEach Tryz.prog (Tryz.f3.params.toList++Rows.parseEndsSpec.plain.varTypes Tryz.prog) (ds++gs)).all (· ≤ reachBytes)=true:=hsz0
 have hval:∀ (j:Nat) t v,Tryz.f3.params[j]? = some t→args[j]? = some v→Value.okWide Tryz.prog W .any base t v:=hval0
 have hW':=hW
 obtain ⟨p,q,hA0,hV,rfl,hfz,hnd⟩:=hW
 have hA:DataW.TrodAll enc Tryz.prog W 0 (fun _=>true) true Tryz.f3.params.toList args.toList ds p:=hA0
 rw [Tryz.params3] at hA hval hsz
 obtain ⟨v0,vs0,d0,ds0,p0,q0,hargs,rfl,rfl,h0,r0⟩:=trodAll_cons hA
 obtain ⟨v1,vs1,d1,ds1,p1,q1,rfl,rfl,rfl,h1,r1⟩:=trodAll_cons r0
 obtain ⟨rfl,rfl,rfl⟩:=trodAll_nil r1
 obtain rfl:args = #[v0,v1]:=by cases args; simp_all
 obtain ⟨rfl,rfl⟩:=trodVars_none hV
 obtain ⟨a0,rfl,rfl,rfl,w0⟩:=open_int Tryz.underlying3 (hval 0 3 v0 rfl rfl) h0
 obtain ⟨a1,rfl,rfl,rfl,w1⟩:=open_int Tryz.underlying3 (hval 1 3 v1 rfl rfl) h1
 clear hA0 hval0 hsz0 hsz
 refine (Am.parseEnds_walk a0 a1 W w0 w1).mono fun e W' ⟨he,bel⟩=>?_
 subst he
 exact ⟨_,rfl,_,_,_,[],_,[],hW',trodAll_mk1 (shut_bool Tryz.underlying4 _),(trodAll_cons_mk (shut_int Tryz.underlying3 w0) (trodAll_cons_mk (shut_int Tryz.underlying3 w1) trodAll_mk0)),rfl,bel.frame _,fun h=>by cases h⟩
theorem over:Rows.parseEndsRow.holds Tryz.pinned (OpenSpec.ofChange Rows.parseEndsSpec) :=
 OpenClaim.holds_of_wide 3 Tryz.f3 rfl rfl rfl rfl rfl rfl rfl ⟨rfl, rfl, rfl, rfl, rfl⟩ rfl rfl rfl rfl rfl (by kernel_rfl) Tryz.func3 (by kernel_rfl)
  (of_decide_eq_true (by kernel_rfl)) (by unfold Func.isWrapper; first | (rw [if_pos (by decide +kernel)]; kernel_rfl) | (rw [if_neg (by decide +kernel)]; exact ⟨rfl,rfl⟩))
  (fun os started H enc _=>lifted os started H enc)
theorem proved:Rows.ParseEndsSaid:=over
#print axioms proved
end Go.Proofs.YthpplbkobokghaaGreat.parseEnds
namespace Go.Proofs.YthpplbkobokghaaGreat
theorem parseEnds_holds:Rows.ParseEndsSaid:=parseEnds.proved
end Go.Proofs.YthpplbkobokghaaGreat
