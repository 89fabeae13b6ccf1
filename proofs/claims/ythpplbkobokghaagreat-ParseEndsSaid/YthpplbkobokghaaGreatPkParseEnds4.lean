/- LawParseEnds, part 4: whatever the input, the law comes out true: our texts, joined by a tool, without what the claim does not name. -/
import Derived.Test.YthpplbkobokghaaGreatPkParseEnds3
set_option maxRecDepth 100000
set_option linter.unusedVariables false
set_option linter.unusedSimpArgs false
set_option maxRecDepth 100000
set_option linter.unusedVariables false
namespace Go.Proofs.YthpplbkobokghaaGreat.Am
noncomputable section
open Go
theorem qKu (k:Nat) (F:Fns0) (hF:FnsOk0 F) (D:Int) (E:LN) (a2:Bool) (G:Bool) (I:LL) (N:LL) (K:LN) (u:LN) (x:List S43) (a9:Int) (h:Int) (b1:List S28)  (l:Bool)  : ∀ (n:Nat) (c:LL) (o:Int) (g:List S28),Ok (Xi38 D E a2 G I N K u x a9 h b1) i38p6 [(0,.ptr 0 4 0),(2,.str K),(3,.func 104 [.ptr 0 4 0] []),(5,.ptr 2 7 0),(8,.ptr 3 7 0),(9,w9 c)] (mkH [⟨[.str u,w44 x,.i o,.i h],4,false⟩,⟨(g).flatMap e29,0,false⟩,⟨[.i D,.str E,.own 1 (g).length 7,.bool l,.bool G,w9 I,w9 N],7,false⟩,⟨[.i 0,.str [],.nils,.bool false,.bool false,.nils,.nils],0,false⟩]) (qHj k F D E G I N K u x h l n c o g):=by
 intro n
 induction n with
 | zero=>intro c o g; exact ok_none
 | succ n ih =>
  intro c o g
  show Ok _ _ _ _ (qFd k F D E G I N K u x h l (qHj k F D E G I N K u x h l n) c o g)
  unfold qFd
  let E5:Env:=[(22,.func 104 [.ptr 0 4 0] []),(0,.ptr 0 4 0),(2,.str K),(3,.func 104 [.ptr 0 4 0] []),(5,.ptr 2 7 0),(8,.ptr 3 7 0),(9,w9 c)]
  let U:Blk:=⟨(g).flatMap e29,0,false⟩
  let S:Blk:=⟨[.i D,.str E,.own 1 (g).length 7,.bool l,.bool G,w9 I,w9 N],7,false⟩
  let A:Blk:=⟨[.i 0,.str [],.nils,.bool false,.bool false,.nils,.nils],0,false⟩
  refine oH 2 (atN 1 (ctl1 i38p6)) E5 (mkH [⟨[.str u,w44 x,.i o,.i h],4,false⟩,U,S,A]) ?_
  refine oX (λ(a:(S28×Int))=>n29 a.1) (λa=>[⟨[.str u,w44 x,.i a.2,.i h],4,false⟩,U,S,A]) (atN 2 (ctl1 i38p6)) 23 [0] [] [] [0,2] [0,1] [.ptr 0 4 0] (hF.i56_ok u x o h) trivial (λ_=>trivial) ⟨u29 _,trivial⟩ λa W=>?_
  let Y:Env:=((29,.slice 5 7 0 1 7)::(28,.agg [.i a.1.f0,.str a.1.f1,q29 a.1.f2,.bool a.1.f3,.bool a.1.f4,w9 c,w9 a.1.f6])::(27,.own 1 (g).length 7)::(26,.ptr 2 7 2)::(25,.ptr 4 7 5)::(24,w9 c)::(10,.ptr 4 7 0)::(23,n29 a.1)::E5)
  let V:Blk:=⟨[.str u,w44 x,.i a.2,.i h],4,false⟩
  let B:Blk:=⟨[.i a.1.f0,.str a.1.f1,q29 a.1.f2,.bool a.1.f3,.bool a.1.f4,w9 c,w9 a.1.f6],7,false⟩
  let C:Blk:=⟨[.i a.1.f0,.str a.1.f1,q29 a.1.f2,.bool a.1.f3,.bool a.1.f4,w9 c,w9 a.1.f6],0,false⟩
  refine oH 15 (atN 4 (ctl1 i38p10)) Y (mkH [V,U,S,A,B,C]) ?_
  refine oC (λ(j:List S28)=>(.own 1 (j).length 7,(mkH [V,⟨(j).flatMap e29,0,false⟩,S,A,B,C]))) (atN 5 (ctl1 i38p10)) 30 (appH (sz:=7) qA2 rfl qAh [V,U,S,A,B,C] 1 104 g ([(⟨a.1.f0,a.1.f1,a.1.f2,a.1.f3,a.1.f4,c,a.1.f6⟩:S28)]:List S28) rfl rfl Kr) λj Z=>?_
  let L:Blk:=⟨(j).flatMap e29,0,false⟩
  let O:Blk:=⟨[.i D,.str E,.own 1 (j).length 7,.bool l,.bool G,w9 I,w9 N],7,false⟩
  refine oH 5 i38p11 ((31,.ptr 2 7 2)::(30,.own 1 (j).length 7)::Y) (mkH [V,L,O,A,B,C]) ?_
  refine oK0 [0,2,3,5,8] ?_
  let E7:Env:=keepOnly ((31,.ptr 2 7 2)::(30,.own 1 (j).length 7)::Y) [0,2,3,5,8]
  refine oR 2 (atN 1 (ctl1 i38p11)) ((32,.ptr 0 4 0)::E7) ?_
  refine oN (λ(b:Ri11)=>w9 b.1) (λb=>[⟨[.str u,w44 x,.i b.2,.i h],4,false⟩,L,O,A,B,C]) (atN 2 (ctl1 i38p11)) 33 [0] [] [] [.ptr 0 4 0] (qAr k u x a.2 h) trivial (λ_=>trivial) λb b0=>?_
  let E8:Env:=((35,.str K)::(34,.ptr 0 4 0)::(9,w9 b.1)::(33,w9 b.1)::(32,.ptr 0 4 0)::E7)
  refine oR 6 (atN 2 (ctl1 i38p12)) E8 ?_
  refine oX (λ(m:(Bool×Int)) => .bool m.1) (λm=>[⟨[.str u,w44 x,.i m.2,.i h],4,false⟩,L,O,A,B,C]) (atN 3 (ctl1 i38p12)) 36 [0] [] [] [2] [0,1] [.ptr 0 4 0,.str K] (qAe k K u x b.2 h) trivial (λ_=>trivial) ⟨u29 _,trivial⟩ λm b3=>?_
  refine oR 1 i38p13 ((36,.bool m.1)::E8) ?_
  refine oS 36 (λhb=>?_) (λhb=>?_)
  ·let Q9:Blk:=⟨[.str u,w44 x,.i m.2,.i h],4,false⟩
   let J:Blk:=⟨[.i D,.str E,.own 1 (j).length 7,.bool l,.bool G,w9 I,w9 b.1],7,false⟩
   refine oLH 8 (nav [0,0,0] (nav [1,0] i38p13)) [(5,.ptr 2 7 0),(8,.ptr 3 7 0)] (mkH [Q9,L,J,A,B,C]) ?_
   refine oH 5 .fin ((39,.agg [.i D,.str E,.own 1 (j).length 7,.bool l,.bool G,w9 I,w9 b.1])::[(5,.ptr 2 7 0),(8,.ptr 3 7 0)]) (mkH [Q9,L,J,J,B,C]) ?_
   exact qAx (r:=some (D,E,l,G,I,b.1,m.2,j)) (xs:=[.agg [.i D,.str E,.own 1 (j).length 7,.bool l,.bool G,w9 I,w9 b.1]]) [Q9,L] [J,J,B,C] Kr Kr Kr Kr Kr ⟨Kr,⟨(qA _ (u29 _)),trivial⟩⟩ Kr Kr
  ·let Q:Env:=((42,.bool (decide ((b.1.length:Int)=0)))::(41,.i (b.1.length:Int))::(40,w9 b.1)::(36,.bool false)::(36,.bool m.1)::E8)
   refine oR 7 (atN 3 (ctl1 i38p15)) Q ?_
   refine oX (λ(M:Unit) => .tuple []) (λM=>[⟨[.str u,w44 x,.i m.2,.i h],4,false⟩,L,O,A,B,C]) (atN 4 (ctl1 i38p15)) 43 [] [] [] [2] [0,1] [.bool (decide ((b.1.length:Int)=0))] (qCp k (decide ((b.1.length:Int)=0))) trivial (λ_=>trivial) ⟨u29 _,trivial⟩ λM b5=>?_
   refine oR 2 i38p17 ((43,.tuple [])::Q) ?_
   refine oK0 [0,2,3,5,8] ?_
   let T:Env:=keepOnly ((43,.tuple [])::Q) [0,2,3,5,8]
   refine oR 2 (atN 1 (ctl1 i38p17)) ((44,.ptr 0 4 0)::T) ?_
   refine oX (λ(z:Int) => .tuple []) (λz=>[⟨[.str u,w44 x,.i z,.i h],4,false⟩,L,O,A,B,C]) (atN 2 (ctl1 i38p17)) 45 [0] [] [] [0,2] [0,1] [.ptr 0 4 0,.str [44]] (qB2 k ([44]:LN) u x m.2 h) trivial (λ_=>trivial) ⟨u29 _,trivial⟩ λz b6=>?_
   refine oR 4 (atN 1 (ctl1 i38p18)) ((46,.ptr 0 4 0)::(45,.tuple [])::(44,.ptr 0 4 0)::T) ?_
   refine oN (λ(q:Ri11)=>w9 q.1) (λq=>[⟨[.str u,w44 x,.i q.2,.i h],4,false⟩,L,O,A,B,C]) (atN 2 (ctl1 i38p18)) 47 [0] [] [] [.ptr 0 4 0] (qAr k u x z h) trivial (λ_=>trivial) λq b7=>?_
   refine oL 6 i38p6 [(0,.ptr 0 4 0),(2,.str K),(3,.func 104 [.ptr 0 4 0] []),(5,.ptr 2 7 0),(8,.ptr 3 7 0),(9,w9 q.1)] ?_
   refine qA8 [⟨[.str u,w44 x,.i q.2,.i h],4,false⟩,L,O,A] [B,C] Kr rfl Kr ⟨Kr,⟨(qA _ (u29 _)),⟨Kr,⟨Kr,trivial⟩⟩⟩⟩ ?_
   exact ih q.1 q.2 j
def i38B (k:Nat) (F:Fns0) (l:Int) (m:LN) (z:Bool) (n:Bool) (o:LL) (x:LL) (q:LN) (h:LN) (j:List S43) (r:Int) (c:Int) (u:List S28):Option (Option Ri38) :=
 (i47 k h j r c).bind λg=>(i11 k h j r c).bind λa=>bT (i13 k q h j a.2 c) λb=>if b.1 then (some (some (l,m,g,n,o,a.1,b.2,u))) else (qHj k F l m n o x q h j c g k a.1 b.2 u)
theorem qJs (k:Nat) (F:Fns0) (S:FnsOk0 F):∀ l m A n o z q u x B c j r,i38B k F l m A n o z q u x B c j=some r→CallT Tryz.prog 101 [.ptr 0 4 0,.agg [.i l,.str m,.own 1 (j).length 7,.bool A,.bool n,w9 o,w9 z],.str q,.func 104 [.ptr 0 4 0] []] (mkH [⟨[.str u,w44 x,.i B,.i c],4,false⟩,⟨(j).flatMap e29,0,false⟩]) ((Xi38 l m A n o z q u x B c j).thr r) ((Xi38 l m A n o z q u x B c j).enc r) ((Xi38 l m A n o z q u x B c j).fin r):=by
 intro l m A n o z q u x B c j r h
 refine qA0 (Xi38 l m A n o z q u x B c j) Tryz.func101 Kr Kr rfl (t:=i38B k F l m A n o z q u x B c j) ?_ h
 unfold i38B
 refine qA1 (eE:=[(0,.ptr 0 4 0),(1,.agg [.i l,.str m,.own 1 (j).length 7,.bool A,.bool n,w9 o,w9 z]),(2,.str q),(3,.func 104 [.ptr 0 4 0] [])]) Kr ?_
 let G:Env:=[(11,.ptr 0 4 0),(8,.ptr 3 7 0),(5,.ptr 2 7 0),(0,.ptr 0 4 0),(1,.agg [.i l,.str m,.own 1 (j).length 7,.bool A,.bool n,w9 o,w9 z]),(2,.str q),(3,.func 104 [.ptr 0 4 0] [])]
 let I:Blk:=⟨[.str u,w44 x,.i B,.i c],4,false⟩
 let C:Blk:=⟨(j).flatMap e29,0,false⟩
 let Q:Blk:=⟨[.i l,.str m,.own 1 (j).length 7,.bool A,.bool n,w9 o,w9 z],0,false⟩
 let D:Blk:=⟨[.i 0,.str [],.nils,.bool false,.bool false,.nils,.nils],0,false⟩
 refine oH 9 (atN 1 (ctl1 i38p1)) G (mkH [I,C,Q,D]) ?_
 refine oN (λ(b:Bool) => .bool b) (λb=>[I,C,Q,D]) (atN 2 (ctl1 i38p1)) 12 [0] [] [] [.ptr 0 4 0] (qG8 k u x B c) trivial (λ_=>trivial) λb J=>?_
 let K:Blk:=⟨[.i l,.str m,.own 1 (j).length 7,.bool b,.bool n,w9 o,w9 z],7,false⟩
 refine oH 6 (atN 1 (ctl1 i38p2)) ((14,.ptr 0 4 0)::(13,.ptr 2 7 3)::(12,.bool b)::G) (mkH [I,C,K,D]) ?_
 refine oN (λ(a:Ri11)=>w9 a.1) (λa=>[⟨[.str u,w44 x,.i a.2,.i c],4,false⟩,C,K,D]) (atN 2 (ctl1 i38p2)) 15 [0] [] [] [.ptr 0 4 0] (qAr k u x B c) trivial (λ_=>trivial) λa L=>?_
 let M:Env:=((17,.str q)::(16,.ptr 0 4 0)::(9,w9 a.1)::(15,w9 a.1)::(14,.ptr 0 4 0)::(13,.ptr 2 7 3)::(12,.bool b)::G)
 refine oR 7 (atN 2 (ctl1 i38p3)) M ?_
 refine oX (λ(g:(Bool×Int)) => .bool g.1) (λg=>[⟨[.str u,w44 x,.i g.2,.i c],4,false⟩,C,K,D]) (atN 3 (ctl1 i38p3)) 18 [0] [] [] [2] [0,1] [.ptr 0 4 0,.str q] (qAe k q u x a.2 c) trivial (λ_=>trivial) ⟨u29 _,trivial⟩ λg N=>?_
 refine oR 1 i38p4 ((18,.bool g.1)::M) ?_
 refine oK [0,2,3,5,8,9,18] [(0,.ptr 0 4 0),(2,.str q),(3,.func 104 [.ptr 0 4 0] []),(5,.ptr 2 7 0),(8,.ptr 3 7 0),(9,w9 a.1),(18,.bool g.1)] ?_
 refine oS 18 (λT=>?_) (λT=>?_)
 ·let O:Blk:=⟨[.str u,w44 x,.i g.2,.i c],4,false⟩
  let E:Blk:=⟨[.i l,.str m,.own 1 (j).length 7,.bool b,.bool n,w9 o,w9 a.1],7,false⟩
  refine oLH 8 (nav [0,0,0] (nav [1,0] i38p4)) [(5,.ptr 2 7 0),(8,.ptr 3 7 0)] (mkH [O,C,E,D]) ?_
  refine oH 5 .fin ((21,.agg [.i l,.str m,.own 1 (j).length 7,.bool b,.bool n,w9 o,w9 a.1])::[(5,.ptr 2 7 0),(8,.ptr 3 7 0)]) (mkH [O,C,E,E]) ?_
  exact qAx (r:=some (l,m,b,n,o,a.1,g.2,j)) (xs:=[.agg [.i l,.str m,.own 1 (j).length 7,.bool b,.bool n,w9 o,w9 a.1]]) [O,C] [E,E] Kr Kr Kr Kr Kr ⟨Kr,⟨(qA _ (u29 _)),trivial⟩⟩ Kr Kr
 ·refine oR 5 i38p6 ((18,.bool false)::(keepOnly ((18,.bool g.1)::M) [0,2,3,5,8,9,18])) ?_
  refine oK [0,2,3,5,8,9] [(0,.ptr 0 4 0),(2,.str q),(3,.func 104 [.ptr 0 4 0] []),(5,.ptr 2 7 0),(8,.ptr 3 7 0),(9,w9 a.1)] ?_
  exact (qKu k F S l m A n o z q u x B c j b k) a.1 g.2 j
theorem i38B_ok (k:Nat) (F:Fns0) (b:FnsOk0 F):Pi38 (i38B k F):=λc g j l m n o q r u a z=>⟨λx h=>qJs k F b c g j l m n o q r u a z (some x) h,λh=>⟨_,qJs k F b c g j l m n o q r u a z none h⟩⟩
def i39p1:Pt:=nav [0,0,0,0] (nav [0] (bodyAt Tryz.f101))
def i39p2:Pt:=nav [0,0,0] i39p1
def i39p3:Pt:=nav [0,0,0,0] i39p2
def i39p4:Pt:=nav [0,0] i39p3
def i39p6:Pt:=nav [2,0,0,0,0] i39p4
def i39p10:Pt:=nav [0,0,0] (nav [0,0,0] i39p6)
def i39p11:Pt:=nav [0,0,0,0] i39p10
def i39p12:Pt:=nav [0,0,0] i39p11
def i39p13:Pt:=nav [0,0] i39p12
def i39p15:Pt:=nav [2,0,0] i39p13
def i39p17:Pt:=nav [0,0,0] i39p15
def i39p18:Pt:=nav [0,0,0] i39p17
def qFc (k:Nat) (F:Fns0)  (z:Int) (A:LN) (B:Bool) (C:LL) (E:LL) (D:LN) (o:LN) (q:List S43) (b:Int) (r:Bool) (ih:LL→Int→(List S28)→Option (Option Ri39)):LL→Int→(List S28)→Option (Option Ri39) :=
 λ(l:LL) (m:Int) (n:List S28)=>bT (F.i57 o q m b) λa=>(appS 104 n ([(⟨a.1.f0,a.1.f1,a.1.f2,a.1.f3,a.1.f4,l,a.1.f6⟩:S28)]:List S28)).bind λh=>(i11 k o q a.2 b).bind λc=>bT (i13 k D o q c.2 b) λg=>if g.1 then (some (some (z,A,r,B,C,c.1,g.2,h))) else (bT (i25 k (decide ((c.1.length:Int)=0))) λx=>bT (i41 k ([44]:LN) o q g.2 b) λu=>(i11 k o q u b).bind λj=>ih j.1 j.2 h)
def qHi (k:Nat) (F:Fns0)  (c:Int) (g:LN) (h:Bool) (j:LL) (l:LL) (m:LN) (o:LN) (q:List S43) (b:Int) (a:Bool) (n:Nat):LL→Int→(List S28)→Option (Option Ri39):=lp (λ_ _ _=>none) (qFc k F c g h j l m o q b a) n
theorem qKt (k:Nat) (F:Fns0) (hF:FnsOk0 F) (D:Int) (E:LN) (a2:Bool) (G:Bool) (I:LL) (N:LL) (K:LN) (u:LN) (x:List S43) (a9:Int) (h:Int) (b1:List S28)  (l:Bool)  : ∀ (n:Nat) (c:LL) (o:Int) (g:List S28),Ok (Xi39 D E a2 G I N K u x a9 h b1) i39p6 [(0,.ptr 0 4 0),(2,.str K),(3,.func 105 [.ptr 0 4 0] []),(5,.ptr 2 7 0),(8,.ptr 3 7 0),(9,w9 c)] (mkH [⟨[.str u,w44 x,.i o,.i h],4,false⟩,⟨(g).flatMap e29,0,false⟩,⟨[.i D,.str E,.own 1 (g).length 7,.bool l,.bool G,w9 I,w9 N],7,false⟩,⟨[.i 0,.str [],.nils,.bool false,.bool false,.nils,.nils],0,false⟩]) (qHi k F D E G I N K u x h l n c o g):=by
 intro n
 induction n with
 | zero=>intro c o g; exact ok_none
 | succ n ih =>
  intro c o g
  show Ok _ _ _ _ (qFc k F D E G I N K u x h l (qHi k F D E G I N K u x h l n) c o g)
  unfold qFc
  let E5:Env:=[(22,.func 105 [.ptr 0 4 0] []),(0,.ptr 0 4 0),(2,.str K),(3,.func 105 [.ptr 0 4 0] []),(5,.ptr 2 7 0),(8,.ptr 3 7 0),(9,w9 c)]
  let U:Blk:=⟨(g).flatMap e29,0,false⟩
  let S:Blk:=⟨[.i D,.str E,.own 1 (g).length 7,.bool l,.bool G,w9 I,w9 N],7,false⟩
  let A:Blk:=⟨[.i 0,.str [],.nils,.bool false,.bool false,.nils,.nils],0,false⟩
  refine oH 2 (atN 1 (ctl1 i39p6)) E5 (mkH [⟨[.str u,w44 x,.i o,.i h],4,false⟩,U,S,A]) ?_
  refine oX (λ(a:(S28×Int))=>n29 a.1) (λa=>[⟨[.str u,w44 x,.i a.2,.i h],4,false⟩,U,S,A]) (atN 2 (ctl1 i39p6)) 23 [0] [] [] [0,2] [0,1] [.ptr 0 4 0] (hF.i57_ok u x o h) trivial (λ_=>trivial) ⟨u29 _,trivial⟩ λa W=>?_
  let Y:Env:=((29,.slice 5 7 0 1 7)::(28,.agg [.i a.1.f0,.str a.1.f1,q29 a.1.f2,.bool a.1.f3,.bool a.1.f4,w9 c,w9 a.1.f6])::(27,.own 1 (g).length 7)::(26,.ptr 2 7 2)::(25,.ptr 4 7 5)::(24,w9 c)::(10,.ptr 4 7 0)::(23,n29 a.1)::E5)
  let V:Blk:=⟨[.str u,w44 x,.i a.2,.i h],4,false⟩
  let B:Blk:=⟨[.i a.1.f0,.str a.1.f1,q29 a.1.f2,.bool a.1.f3,.bool a.1.f4,w9 c,w9 a.1.f6],7,false⟩
  let C:Blk:=⟨[.i a.1.f0,.str a.1.f1,q29 a.1.f2,.bool a.1.f3,.bool a.1.f4,w9 c,w9 a.1.f6],0,false⟩
  refine oH 15 (atN 4 (ctl1 i39p10)) Y (mkH [V,U,S,A,B,C]) ?_
  refine oC (λ(j:List S28)=>(.own 1 (j).length 7,(mkH [V,⟨(j).flatMap e29,0,false⟩,S,A,B,C]))) (atN 5 (ctl1 i39p10)) 30 (appH (sz:=7) qA2 rfl qAh [V,U,S,A,B,C] 1 104 g ([(⟨a.1.f0,a.1.f1,a.1.f2,a.1.f3,a.1.f4,c,a.1.f6⟩:S28)]:List S28) rfl rfl Kr) λj Z=>?_
  let L:Blk:=⟨(j).flatMap e29,0,false⟩
  let O:Blk:=⟨[.i D,.str E,.own 1 (j).length 7,.bool l,.bool G,w9 I,w9 N],7,false⟩
  refine oH 5 i39p11 ((31,.ptr 2 7 2)::(30,.own 1 (j).length 7)::Y) (mkH [V,L,O,A,B,C]) ?_
  refine oK0 [0,2,3,5,8] ?_
  let E7:Env:=keepOnly ((31,.ptr 2 7 2)::(30,.own 1 (j).length 7)::Y) [0,2,3,5,8]
  refine oR 2 (atN 1 (ctl1 i39p11)) ((32,.ptr 0 4 0)::E7) ?_
  refine oN (λ(b:Ri11)=>w9 b.1) (λb=>[⟨[.str u,w44 x,.i b.2,.i h],4,false⟩,L,O,A,B,C]) (atN 2 (ctl1 i39p11)) 33 [0] [] [] [.ptr 0 4 0] (qAr k u x a.2 h) trivial (λ_=>trivial) λb b0=>?_
  let E8:Env:=((35,.str K)::(34,.ptr 0 4 0)::(9,w9 b.1)::(33,w9 b.1)::(32,.ptr 0 4 0)::E7)
  refine oR 6 (atN 2 (ctl1 i39p12)) E8 ?_
  refine oX (λ(m:(Bool×Int)) => .bool m.1) (λm=>[⟨[.str u,w44 x,.i m.2,.i h],4,false⟩,L,O,A,B,C]) (atN 3 (ctl1 i39p12)) 36 [0] [] [] [2] [0,1] [.ptr 0 4 0,.str K] (qAe k K u x b.2 h) trivial (λ_=>trivial) ⟨u29 _,trivial⟩ λm b3=>?_
  refine oR 1 i39p13 ((36,.bool m.1)::E8) ?_
  refine oS 36 (λhb=>?_) (λhb=>?_)
  ·let Q9:Blk:=⟨[.str u,w44 x,.i m.2,.i h],4,false⟩
   let J:Blk:=⟨[.i D,.str E,.own 1 (j).length 7,.bool l,.bool G,w9 I,w9 b.1],7,false⟩
   refine oLH 8 (nav [0,0,0] (nav [1,0] i39p13)) [(5,.ptr 2 7 0),(8,.ptr 3 7 0)] (mkH [Q9,L,J,A,B,C]) ?_
   refine oH 5 .fin ((39,.agg [.i D,.str E,.own 1 (j).length 7,.bool l,.bool G,w9 I,w9 b.1])::[(5,.ptr 2 7 0),(8,.ptr 3 7 0)]) (mkH [Q9,L,J,J,B,C]) ?_
   exact qAx (r:=some (D,E,l,G,I,b.1,m.2,j)) (xs:=[.agg [.i D,.str E,.own 1 (j).length 7,.bool l,.bool G,w9 I,w9 b.1]]) [Q9,L] [J,J,B,C] Kr Kr Kr Kr Kr ⟨Kr,⟨(qA _ (u29 _)),trivial⟩⟩ Kr Kr
  ·let Q:Env:=((42,.bool (decide ((b.1.length:Int)=0)))::(41,.i (b.1.length:Int))::(40,w9 b.1)::(36,.bool false)::(36,.bool m.1)::E8)
   refine oR 7 (atN 3 (ctl1 i39p15)) Q ?_
   refine oX (λ(M:Unit) => .tuple []) (λM=>[⟨[.str u,w44 x,.i m.2,.i h],4,false⟩,L,O,A,B,C]) (atN 4 (ctl1 i39p15)) 43 [] [] [] [2] [0,1] [.bool (decide ((b.1.length:Int)=0))] (qCp k (decide ((b.1.length:Int)=0))) trivial (λ_=>trivial) ⟨u29 _,trivial⟩ λM b5=>?_
   refine oR 2 i39p17 ((43,.tuple [])::Q) ?_
   refine oK0 [0,2,3,5,8] ?_
   let T:Env:=keepOnly ((43,.tuple [])::Q) [0,2,3,5,8]
   refine oR 2 (atN 1 (ctl1 i39p17)) ((44,.ptr 0 4 0)::T) ?_
   refine oX (λ(z:Int) => .tuple []) (λz=>[⟨[.str u,w44 x,.i z,.i h],4,false⟩,L,O,A,B,C]) (atN 2 (ctl1 i39p17)) 45 [0] [] [] [0,2] [0,1] [.ptr 0 4 0,.str [44]] (qB2 k ([44]:LN) u x m.2 h) trivial (λ_=>trivial) ⟨u29 _,trivial⟩ λz b6=>?_
   refine oR 4 (atN 1 (ctl1 i39p18)) ((46,.ptr 0 4 0)::(45,.tuple [])::(44,.ptr 0 4 0)::T) ?_
   refine oN (λ(q:Ri11)=>w9 q.1) (λq=>[⟨[.str u,w44 x,.i q.2,.i h],4,false⟩,L,O,A,B,C]) (atN 2 (ctl1 i39p18)) 47 [0] [] [] [.ptr 0 4 0] (qAr k u x z h) trivial (λ_=>trivial) λq b7=>?_
   refine oL 6 i39p6 [(0,.ptr 0 4 0),(2,.str K),(3,.func 105 [.ptr 0 4 0] []),(5,.ptr 2 7 0),(8,.ptr 3 7 0),(9,w9 q.1)] ?_
   refine qA8 [⟨[.str u,w44 x,.i q.2,.i h],4,false⟩,L,O,A] [B,C] Kr rfl Kr ⟨Kr,⟨(qA _ (u29 _)),⟨Kr,⟨Kr,trivial⟩⟩⟩⟩ ?_
   exact ih q.1 q.2 j
def i39B (k:Nat) (F:Fns0) (l:Int) (m:LN) (z:Bool) (n:Bool) (o:LL) (x:LL) (q:LN) (h:LN) (j:List S43) (r:Int) (c:Int) (u:List S28):Option (Option Ri39) :=
 (i47 k h j r c).bind λg=>(i11 k h j r c).bind λa=>bT (i13 k q h j a.2 c) λb=>if b.1 then (some (some (l,m,g,n,o,a.1,b.2,u))) else (qHi k F l m n o x q h j c g k a.1 b.2 u)
theorem qJr (k:Nat) (F:Fns0) (S:FnsOk0 F):∀ l m A n o z q u x B c j r,i39B k F l m A n o z q u x B c j=some r→CallT Tryz.prog 101 [.ptr 0 4 0,.agg [.i l,.str m,.own 1 (j).length 7,.bool A,.bool n,w9 o,w9 z],.str q,.func 105 [.ptr 0 4 0] []] (mkH [⟨[.str u,w44 x,.i B,.i c],4,false⟩,⟨(j).flatMap e29,0,false⟩]) ((Xi39 l m A n o z q u x B c j).thr r) ((Xi39 l m A n o z q u x B c j).enc r) ((Xi39 l m A n o z q u x B c j).fin r):=by
 intro l m A n o z q u x B c j r h
 refine qA0 (Xi39 l m A n o z q u x B c j) Tryz.func101 Kr Kr rfl (t:=i39B k F l m A n o z q u x B c j) ?_ h
 unfold i39B
 refine qA1 (eE:=[(0,.ptr 0 4 0),(1,.agg [.i l,.str m,.own 1 (j).length 7,.bool A,.bool n,w9 o,w9 z]),(2,.str q),(3,.func 105 [.ptr 0 4 0] [])]) Kr ?_
 let G:Env:=[(11,.ptr 0 4 0),(8,.ptr 3 7 0),(5,.ptr 2 7 0),(0,.ptr 0 4 0),(1,.agg [.i l,.str m,.own 1 (j).length 7,.bool A,.bool n,w9 o,w9 z]),(2,.str q),(3,.func 105 [.ptr 0 4 0] [])]
 let I:Blk:=⟨[.str u,w44 x,.i B,.i c],4,false⟩
 let C:Blk:=⟨(j).flatMap e29,0,false⟩
 let Q:Blk:=⟨[.i l,.str m,.own 1 (j).length 7,.bool A,.bool n,w9 o,w9 z],0,false⟩
 let D:Blk:=⟨[.i 0,.str [],.nils,.bool false,.bool false,.nils,.nils],0,false⟩
 refine oH 9 (atN 1 (ctl1 i39p1)) G (mkH [I,C,Q,D]) ?_
 refine oN (λ(b:Bool) => .bool b) (λb=>[I,C,Q,D]) (atN 2 (ctl1 i39p1)) 12 [0] [] [] [.ptr 0 4 0] (qG8 k u x B c) trivial (λ_=>trivial) λb J=>?_
 let K:Blk:=⟨[.i l,.str m,.own 1 (j).length 7,.bool b,.bool n,w9 o,w9 z],7,false⟩
 refine oH 6 (atN 1 (ctl1 i39p2)) ((14,.ptr 0 4 0)::(13,.ptr 2 7 3)::(12,.bool b)::G) (mkH [I,C,K,D]) ?_
 refine oN (λ(a:Ri11)=>w9 a.1) (λa=>[⟨[.str u,w44 x,.i a.2,.i c],4,false⟩,C,K,D]) (atN 2 (ctl1 i39p2)) 15 [0] [] [] [.ptr 0 4 0] (qAr k u x B c) trivial (λ_=>trivial) λa L=>?_
 let M:Env:=((17,.str q)::(16,.ptr 0 4 0)::(9,w9 a.1)::(15,w9 a.1)::(14,.ptr 0 4 0)::(13,.ptr 2 7 3)::(12,.bool b)::G)
 refine oR 7 (atN 2 (ctl1 i39p3)) M ?_
 refine oX (λ(g:(Bool×Int)) => .bool g.1) (λg=>[⟨[.str u,w44 x,.i g.2,.i c],4,false⟩,C,K,D]) (atN 3 (ctl1 i39p3)) 18 [0] [] [] [2] [0,1] [.ptr 0 4 0,.str q] (qAe k q u x a.2 c) trivial (λ_=>trivial) ⟨u29 _,trivial⟩ λg N=>?_
 refine oR 1 i39p4 ((18,.bool g.1)::M) ?_
 refine oK [0,2,3,5,8,9,18] [(0,.ptr 0 4 0),(2,.str q),(3,.func 105 [.ptr 0 4 0] []),(5,.ptr 2 7 0),(8,.ptr 3 7 0),(9,w9 a.1),(18,.bool g.1)] ?_
 refine oS 18 (λT=>?_) (λT=>?_)
 ·let O:Blk:=⟨[.str u,w44 x,.i g.2,.i c],4,false⟩
  let E:Blk:=⟨[.i l,.str m,.own 1 (j).length 7,.bool b,.bool n,w9 o,w9 a.1],7,false⟩
  refine oLH 8 (nav [0,0,0] (nav [1,0] i39p4)) [(5,.ptr 2 7 0),(8,.ptr 3 7 0)] (mkH [O,C,E,D]) ?_
  refine oH 5 .fin ((21,.agg [.i l,.str m,.own 1 (j).length 7,.bool b,.bool n,w9 o,w9 a.1])::[(5,.ptr 2 7 0),(8,.ptr 3 7 0)]) (mkH [O,C,E,E]) ?_
  exact qAx (r:=some (l,m,b,n,o,a.1,g.2,j)) (xs:=[.agg [.i l,.str m,.own 1 (j).length 7,.bool b,.bool n,w9 o,w9 a.1]]) [O,C] [E,E] Kr Kr Kr Kr Kr ⟨Kr,⟨(qA _ (u29 _)),trivial⟩⟩ Kr Kr
 ·refine oR 5 i39p6 ((18,.bool false)::(keepOnly ((18,.bool g.1)::M) [0,2,3,5,8,9,18])) ?_
  refine oK [0,2,3,5,8,9] [(0,.ptr 0 4 0),(2,.str q),(3,.func 105 [.ptr 0 4 0] []),(5,.ptr 2 7 0),(8,.ptr 3 7 0),(9,w9 a.1)] ?_
  exact (qKt k F S l m A n o z q u x B c j b k) a.1 g.2 j
theorem i39B_ok (k:Nat) (F:Fns0) (b:FnsOk0 F):Pi39 (i39B k F):=λc g j l m n o q r u a z=>⟨λx h=>qJr k F b c g j l m n o q r u a z (some x) h,λh=>⟨_,qJr k F b c g j l m n o q r u a z none h⟩⟩
def i42c0:LN:=[114,101,99,101,105,118,101]
def i42c1:LN:=[98,101,103,105,110]
def i42p1:Pt:=nav [0,0,0,0,0] (nav [0] (bodyAt Tryz.f107))
def i42p2:Pt:=nav [0,0] i42p1
def i42p3:Pt:=nav [1,0,0] i42p2
def i42p4:Pt:=nav [2,0] i42p2
def i42p5:Pt:=nav [0,0] i42p3
def i42p6:Pt:=nav [0,0] i42p4
def i42p7:Pt:=nav [1,0] i42p5
def i42p8:Pt:=nav [2,0,0] i42p5
def i42p9:Pt:=nav [1,0] i42p6
def i42p10:Pt:=nav [2,0] i42p6
def i42p12:Pt:=nav [0,0,0] i42p9
def i42p13:Pt:=nav [0,0] i42p10
def i42p14:Pt:=nav [0,0,0] i42p12
def i42p15:Pt:=nav [1,0] i42p13
def i42p16:Pt:=nav [2,0] i42p13
def i42p17:Pt:=nav [0,0] i42p16
def i42p18:Pt:=nav [1,0] i42p17
def i42p19:Pt:=nav [2,0,0] i42p17
def i42p20:Pt:=nav [0,0,0] i42p19
def i42p21:Pt:=nav [0,0,0] i42p20
def i42p22:Pt:=nav [0,0,0] i42p21
def i42B (k:Nat) (F:Fns0) (g:LN) (h:List S43) (E:Int) (j:Int):Option (Option (S28×Int)) :=
 bT (i13 k ([102,117,110]:LN) g h E j) λc=>if c.1 then ((i16 k ([40]:LN) g h c.2 j).bind λC=>if C then (bT (F.i59 g h c.2 j) λu=>some (some (u.1,u.2))) else (bT (i60 k g h c.2 j) λx=>some (some (x.1,x.2)))) else (bT (i13 k ([99,97,115,101]:LN) g h c.2 j) λn=>if n.1 then (bT (F.i9 (0:Int) g h n.2 j) λz=>bT (i41 k ([111,102]:LN) g h z.2 j) λD=>bT (F.i61 (18:Int) ([]:LN) false false ([]:LL) ([]:LL) g h D j ([z.1]:List S28)) λa=>some (some ((⟨a.1,a.2.1,⟨(a.2.2.2.2.2.2.2).length,(a.2.2.2.2.2.2.2).flatMap e29⟩,a.2.2.1,a.2.2.2.1,a.2.2.2.2.1,a.2.2.2.2.2.1⟩:S28),a.2.2.2.2.2.2.1))) else (bT (i13 k ([105,102]:LN) g h n.2 j) λo=>if o.1 then (bT (F.i62 (19:Int) ([]:LN) false false ([]:LL) ([]:LL) g h o.2 j ([]:List S28)) λb=>some (some ((⟨b.1,b.2.1,⟨(b.2.2.2.2.2.2.2).length,(b.2.2.2.2.2.2.2).flatMap e29⟩,b.2.2.1,b.2.2.2.1,b.2.2.2.2.1,b.2.2.2.2.2.1⟩:S28),b.2.2.2.2.2.2.1))) else (bT (i13 k i42c0 g h o.2 j) λl=>if l.1 then (bT (F.i63 g h l.2 j) λq=>some (some (q.1,q.2))) else (bT (i41 k i42c1 g h l.2 j) λA=>bT (F.i10 g h A j) λm=>(i11 k g h m.2 j).bind λr=>bT (i41 k ([101,110,100]:LN) g h r.2 j) λB=>some (some ((⟨(21:Int),([]:LN),⟨(([m.1]:List S28)).length,(([m.1]:List S28)).flatMap e29⟩,false,false,([]:LL),r.1⟩:S28),B))))))
theorem qJq (k:Nat) (F:Fns0) (M:FnsOk0 F):∀ g j J l r,i42B k F g j J l=some r→CallT Tryz.prog 107 [.ptr 0 4 0] (mkH [⟨[.str g,w44 j,.i J,.i l],4,false⟩]) ((Xi42 g j J l).thr r) ((Xi42 g j J l).enc r) ((Xi42 g j J l).fin r):=by
 intro g j J l r h
 refine qA0 (Xi42 g j J l) Tryz.func107 Kr Kr rfl (t:=i42B k F g j J l) ?_ h
 unfold i42B
 refine qA1 (eE:=[(0,.ptr 0 4 0)]) Kr ?_
 let C:Blk:=⟨[.i 0,.str [],.nils,.bool false,.bool false,.nils,.nils],0,false⟩
 refine oH 9 (atN 1 (ctl1 i42p1)) [(6,.ptr 0 4 0),(2,.ptr 1 7 0),(0,.ptr 0 4 0)] (mkH [⟨[.str g,w44 j,.i J,.i l],4,false⟩,C]) ?_
 refine oX (λ(u:(Bool×Int)) => .bool u.1) (λu=>[⟨[.str g,w44 j,.i u.2,.i l],4,false⟩,C]) (atN 2 (ctl1 i42p1)) 7 [0] [] [] [] [] [.ptr 0 4 0,.str [102,117,110]] (qAe k ([102,117,110]:LN) g j J l) trivial (λ_=>trivial) trivial λu a4=>?_
 let K:Env:=[(5,.bool u.1),(7,.bool u.1),(6,.ptr 0 4 0),(2,.ptr 1 7 0),(0,.ptr 0 4 0)]
 refine oR 2 i42p2 K ?_
 refine oS 5 (λL=>?_) (λL=>?_)
 ·refine oR 5 (atN 1 (ctl1 i42p3)) ((8,.ptr 0 4 0)::(5,.bool true)::K) ?_
  refine oN (λ(D:Bool) => .bool D) (λD=>[⟨[.str g,w44 j,.i u.2,.i l],4,false⟩,C]) (atN 2 (ctl1 i42p3)) 9 [0] [] [] [.ptr 0 4 0,.str [40]] (qGa k ([40]:LN) g j u.2 l) trivial (λ_=>trivial) λD a5=>?_
  refine oR 1 i42p5 ((9,.bool D)::(8,.ptr 0 4 0)::(5,.bool true)::K) ?_
  refine oS 9 (λL=>?_) (λL=>?_)
  ·refine oR 4 (atN 1 (ctl1 i42p7)) ((10,.ptr 0 4 0)::(9,.bool true)::(9,.bool D)::(8,.ptr 0 4 0)::(5,.bool true)::K) ?_
   refine oX (λ(A:(S28×Int))=>n29 A.1) (λA=>[⟨[.str g,w44 j,.i A.2,.i l],4,false⟩,C]) (atN 2 (ctl1 i42p7)) 11 [0] [] [] [0] [] [.ptr 0 4 0] (M.i59_ok g j u.2 l) trivial (λ_=>trivial) trivial λA a6=>?_
   exact oQF 3 [⟨[.str g,w44 j,.i A.2,.i l],4,false⟩,⟨e29 A.1,7,false⟩] 1 [] [n29 A.1] (n29 A.1) .ps trivial
  ·refine oR 5 (atN 1 (ctl1 i42p8)) ((12,.ptr 0 4 0)::(9,.bool false)::(9,.bool D)::(8,.ptr 0 4 0)::(5,.bool true)::K) ?_
   refine oX (λ(B:(S28×Int))=>n29 B.1) (λB=>[⟨[.str g,w44 j,.i B.2,.i l],4,false⟩,C]) (atN 2 (ctl1 i42p8)) 13 [0] [] [] [0] [] [.ptr 0 4 0] (i60_ok k g j u.2 l) trivial (λ_=>trivial) trivial λB a7=>?_
   exact oQF 3 [⟨[.str g,w44 j,.i B.2,.i l],4,false⟩,⟨e29 B.1,7,false⟩] 1 [] [n29 B.1] (n29 B.1) .ps trivial
 ·refine oR 4 (atN 1 (ctl1 i42p4)) ((15,.ptr 0 4 0)::(5,.bool false)::K) ?_
  refine oX (λ(q:(Bool×Int)) => .bool q.1) (λq=>[⟨[.str g,w44 j,.i q.2,.i l],4,false⟩,C]) (atN 2 (ctl1 i42p4)) 16 [0] [] [] [] [] [.ptr 0 4 0,.str [99,97,115,101]] (qAe k ([99,97,115,101]:LN) g j u.2 l) trivial (λ_=>trivial) trivial λq a8=>?_
  refine oR 2 i42p6 ((14,.bool q.1)::(16,.bool q.1)::(15,.ptr 0 4 0)::(5,.bool false)::K) ?_
  refine oS 14 (λL=>?_) (λL=>?_)
  ·let E4:Env:=((17,.ptr 0 4 0)::(14,.bool true)::(14,.bool q.1)::(16,.bool q.1)::(15,.ptr 0 4 0)::(5,.bool false)::K)
   refine oR 4 (atN 1 (ctl1 i42p9)) E4 ?_
   refine oX (λ(n:(S28×Int))=>n29 n.1) (λn=>[⟨[.str g,w44 j,.i n.2,.i l],4,false⟩,C]) (atN 2 (ctl1 i42p9)) 18 [0] [] [] [0] [] [.ptr 0 4 0,.i 0] (M.i9_ok (0:Int) g j q.2 l) trivial (λ_=>trivial) trivial λn a9=>?_
   let Q2:Blk:=⟨[.str g,w44 j,.i n.2,.i l],4,false⟩
   refine oH 1 (atN 3 (ctl1 i42p9)) ((19,.slice 2 7 0 1 7)::(18,n29 n.1)::E4) (mkH [Q2,C,⟨e29 n.1,0,false⟩]) ?_
   refine qAz 19 2 7 1 7 Kr rfl ?_
   let E6:Env:=[(0,.ptr 0 4 0),(2,.ptr 1 7 0),(3,.ptr 3 7 0)]
   let Q3:Blk:=⟨(([n.1]:List S28)).flatMap e29,0,false⟩
   let N:Blk:=⟨[.i 18,.str [],.own 2 (([n.1]:List S28)).length 7,.bool false,.bool false,.nils,.nils],7,false⟩
   refine oLH 5 i42p12 E6 (mkH [Q2,C,Q3,N]) ?_
   refine oR 2 (atN 1 (ctl1 i42p12)) ((21,.ptr 0 4 0)::E6) ?_
   refine oX (λ(I:Int) => .tuple []) (λI=>[⟨[.str g,w44 j,.i I,.i l],4,false⟩,C,Q3,N]) (atN 2 (ctl1 i42p12)) 22 [0] [] [] [0,3] [0,0,1] [.ptr 0 4 0,.str [111,102]] (qB2 k ([111,102]:LN) g j n.2 l) trivial (λ_=>trivial) ⟨u29 _,trivial⟩ λI b2=>?_
   refine oR 7 (atN 4 (ctl1 i42p14)) ((26,.func 34 [.ptr 0 4 0] [])::(25,.ptr 0 4 0)::(24,.agg [.i 18,.str [],.own 2 (([n.1]:List S28)).length 7,.bool false,.bool false,.nils,.nils])::(23,.ptr 0 4 0)::(22,.tuple [])::(21,.ptr 0 4 0)::E6) ?_
   refine oXW 0 [⟨[.str g,w44 j,.i I,.i l],4,false⟩,C,Q3,N] (λ(a:Ri61) => .agg [.i a.1,.str a.2.1,.own 2 (a.2.2.2.2.2.2.2).length 7,.bool a.2.2.1,.bool a.2.2.2.1,w9 a.2.2.2.2.1,w9 a.2.2.2.2.2.1]) (λa=>[⟨[.str g,w44 j,.i a.2.2.2.2.2.2.1,.i l],4,false⟩,C,⟨(a.2.2.2.2.2.2.2).flatMap e29,0,false⟩,N]) (atN 5 (ctl1 i42p14)) 27 [0,2] [0,1] [0,1] [0,2,3] [] [0,0,1] [.ptr 0 4 0,.agg [.i 18,.str [],.own 2 (([n.1]:List S28)).length 7,.bool false,.bool false,.nils,.nils],.func 34 [.ptr 0 4 0] []] [.ptr 0 4 0,.agg [.i 18,.str [],.own 2 (([n.1]:List S28)).length 7,.bool false,.bool false,w9 ([]:LL),w9 ([]:LL)],.func 34 [.ptr 0 4 0] []] (.cons (.agg (.cons (.cons (.cons (.cons (.cons (.nil (.nil (.refl)))))))) (.refl))) (M.i61_ok (18:Int) ([]:LN) false false ([]:LL) ([]:LL) g j I l ([n.1]:List S28)) ⟨u29 _,trivial⟩ (λ_=>⟨u29 _,trivial⟩) trivial λa b3=>?_
   exact oQF 3 [⟨[.str g,w44 j,.i a.2.2.2.2.2.2.1,.i l],4,false⟩,⟨[.i a.1,.str a.2.1,.own 2 (a.2.2.2.2.2.2.2).length 7,.bool a.2.2.1,.bool a.2.2.2.1,w9 a.2.2.2.2.1,w9 a.2.2.2.2.2.1],7,false⟩,⟨(a.2.2.2.2.2.2.2).flatMap e29,0,false⟩,N] 1 [] [.agg [.i a.1,.str a.2.1,.own 2 (a.2.2.2.2.2.2.2).length 7,.bool a.2.2.1,.bool a.2.2.2.1,w9 a.2.2.2.2.1,w9 a.2.2.2.2.2.1]] (.agg [.i a.1,.str a.2.1,w29 a.2.2.2.2.2.2.2,.bool a.2.2.1,.bool a.2.2.2.1,w9 a.2.2.2.2.1,w9 a.2.2.2.2.2.1]) (.agg (.cs (.cs (qAl qA2 qAf rfl rfl rfl .ps))) .ps) trivial
  ·refine oR 4 (atN 1 (ctl1 i42p10)) ((29,.ptr 0 4 0)::(14,.bool false)::(14,.bool q.1)::(16,.bool q.1)::(15,.ptr 0 4 0)::(5,.bool false)::K) ?_
   refine oX (λ(z:(Bool×Int)) => .bool z.1) (λz=>[⟨[.str g,w44 j,.i z.2,.i l],4,false⟩,C]) (atN 2 (ctl1 i42p10)) 30 [0] [] [] [] [] [.ptr 0 4 0,.str [105,102]] (qAe k ([105,102]:LN) g j q.2 l) trivial (λ_=>trivial) trivial λz b4=>?_
   refine oL 2 i42p13 [(0,.ptr 0 4 0),(2,.ptr 1 7 0),(28,.bool z.1)] ?_
   let O:Env:=[(0,.ptr 0 4 0),(2,.ptr 1 7 0),(28,.bool z.1)]
   refine oS 28 (λL=>?_) (λL=>?_)
   ·refine oR 7 (atN 4 (ctl1 i42p15)) ((34,.func 138 [.ptr 0 4 0] [])::(33,.ptr 0 4 0)::(32,.agg [.i 19,.str [],.nils,.bool false,.bool false,.nils,.nils])::(31,.ptr 0 4 0)::(28,.bool true)::O) ?_
    refine oXW 1 [⟨[.str g,w44 j,.i z.2,.i l],4,false⟩,C,⟨(([]:List S28)).flatMap e29,0,false⟩] (λ(b:Ri62) => .agg [.i b.1,.str b.2.1,.own 2 (b.2.2.2.2.2.2.2).length 7,.bool b.2.2.1,.bool b.2.2.2.1,w9 b.2.2.2.2.1,w9 b.2.2.2.2.2.1]) (λb=>[⟨[.str g,w44 j,.i b.2.2.2.2.2.2.1,.i l],4,false⟩,C,⟨(b.2.2.2.2.2.2.2).flatMap e29,0,false⟩]) (atN 5 (ctl1 i42p15)) 35 [0,2] [0,1] [0,1] [0,2] [] [0,0,1] [.ptr 0 4 0,.agg [.i 19,.str [],.nils,.bool false,.bool false,.nils,.nils],.func 138 [.ptr 0 4 0] []] [.ptr 0 4 0,.agg [.i 19,.str [],.own 2 (([]:List S28)).length 7,.bool false,.bool false,w9 ([]:LL),w9 ([]:LL)],.func 138 [.ptr 0 4 0] []] (.cons (.agg (.cons (.cons (.none (.cons (.cons (.nil (.nil (.refl)))))))) (.refl))) (M.i62_ok (19:Int) ([]:LN) false false ([]:LL) ([]:LL) g j z.2 l ([]:List S28)) ⟨u29 _,trivial⟩ (λ_=>⟨u29 _,trivial⟩) trivial λb b5=>?_
    exact oQF 3 [⟨[.str g,w44 j,.i b.2.2.2.2.2.2.1,.i l],4,false⟩,⟨[.i b.1,.str b.2.1,.own 2 (b.2.2.2.2.2.2.2).length 7,.bool b.2.2.1,.bool b.2.2.2.1,w9 b.2.2.2.2.1,w9 b.2.2.2.2.2.1],7,false⟩,⟨(b.2.2.2.2.2.2.2).flatMap e29,0,false⟩] 1 [] [.agg [.i b.1,.str b.2.1,.own 2 (b.2.2.2.2.2.2.2).length 7,.bool b.2.2.1,.bool b.2.2.2.1,w9 b.2.2.2.2.1,w9 b.2.2.2.2.2.1]] (.agg [.i b.1,.str b.2.1,w29 b.2.2.2.2.2.2.2,.bool b.2.2.1,.bool b.2.2.2.1,w9 b.2.2.2.2.1,w9 b.2.2.2.2.2.1]) (.agg (.cs (.cs (qAl qA2 qAf rfl rfl rfl .ps))) .ps) trivial
   ·refine oR 4 (atN 1 (ctl1 i42p16)) ((37,.ptr 0 4 0)::(28,.bool false)::O) ?_
    refine oX (λ(m:(Bool×Int)) => .bool m.1) (λm=>[⟨[.str g,w44 j,.i m.2,.i l],4,false⟩,C]) (atN 2 (ctl1 i42p16)) 38 [0] [] [] [] [] [.ptr 0 4 0,.str i42c0] (qAe k i42c0 g j z.2 l) trivial (λ_=>trivial) trivial λm S=>?_
    refine oR 2 i42p17 ((36,.bool m.1)::(38,.bool m.1)::(37,.ptr 0 4 0)::(28,.bool false)::O) ?_
    refine oS 36 (λL=>?_) (λL=>?_)
    ·refine oR 4 (atN 1 (ctl1 i42p18)) ((39,.ptr 0 4 0)::(36,.bool true)::(36,.bool m.1)::(38,.bool m.1)::(37,.ptr 0 4 0)::(28,.bool false)::O) ?_
     refine oX (λ(x:(S28×Int))=>n29 x.1) (λx=>[⟨[.str g,w44 j,.i x.2,.i l],4,false⟩,C]) (atN 2 (ctl1 i42p18)) 40 [0] [] [] [0] [] [.ptr 0 4 0] (M.i63_ok g j m.2 l) trivial (λ_=>trivial) trivial λx T=>?_
     exact oQF 3 [⟨[.str g,w44 j,.i x.2,.i l],4,false⟩,⟨e29 x.1,7,false⟩] 1 [] [n29 x.1] (n29 x.1) .ps trivial
    ·refine oR 5 (atN 1 (ctl1 i42p19)) ((41,.ptr 0 4 0)::(36,.bool false)::(36,.bool m.1)::(38,.bool m.1)::(37,.ptr 0 4 0)::(28,.bool false)::O) ?_
     refine oX (λ(E:Int) => .tuple []) (λE=>[⟨[.str g,w44 j,.i E,.i l],4,false⟩,C]) (atN 2 (ctl1 i42p19)) 42 [0] [] [] [0] [] [.ptr 0 4 0,.str i42c1] (qB2 k i42c1 g j m.2 l) trivial (λ_=>trivial) trivial λE U=>?_
     refine oL 2 i42p20 [(0,.ptr 0 4 0),(2,.ptr 1 7 0)] ?_
     let Q:Env:=[(0,.ptr 0 4 0),(2,.ptr 1 7 0)]
     refine oR 2 (atN 1 (ctl1 i42p20)) ((43,.ptr 0 4 0)::Q) ?_
     refine oX (λ(c:(S28×Int))=>n29 c.1) (λc=>[⟨[.str g,w44 j,.i c.2,.i l],4,false⟩,C]) (atN 2 (ctl1 i42p20)) 44 [0] [] [] [0] [] [.ptr 0 4 0] (M.i10_ok g j E l) trivial (λ_=>trivial) trivial λc V=>?_
     let Q5:Blk:=⟨[.str g,w44 j,.i c.2,.i l],4,false⟩
     refine oH 1 (atN 3 (ctl1 i42p20)) ((45,.slice 2 7 0 1 7)::(44,n29 c.1)::(43,.ptr 0 4 0)::Q) (mkH [Q5,C,⟨e29 c.1,0,false⟩]) ?_
     refine oZ 45 2 1 7 [.i c.1.f0,.str c.1.f1,q29 c.1.f2,.bool c.1.f3,.bool c.1.f4,w9 c.1.f5,w9 c.1.f6] [0,2,43,44] [] trivial ?_
     let Q6:Blk:=⟨[.i 21,.str [],w29 ([c.1]:List S28),.bool false,.bool false,.nils,.nils],7,false⟩
     refine oH 7 (atN 1 (ctl1 i42p21)) [(47,.ptr 0 4 0),(4,.ptr 3 7 0),(46,.agg [.i 21,.str [],w29 ([c.1]:List S28),.bool false,.bool false,.nils,.nils]),(45,w29 ([c.1]:List S28)),(0,.ptr 0 4 0),(2,.ptr 1 7 0),(43,.ptr 0 4 0),(44,n29 c.1)] (mkH [Q5,C,⟨[],0,false⟩,Q6]) ?_
     refine oN (λ(o:Ri11)=>w9 o.1) (λo=>[⟨[.str g,w44 j,.i o.2,.i l],4,false⟩,C,⟨[],0,false⟩,Q6]) (atN 2 (ctl1 i42p21)) 48 [0] [] [] [.ptr 0 4 0] (qAr k g j c.2 l) trivial (λ_=>trivial) λo W=>?_
     let Y:Blk:=⟨[.i 21,.str [],w29 ([c.1]:List S28),.bool false,.bool false,.nils,w9 o.1],7,false⟩
     refine oLH 4 i42p22 [(0,.ptr 0 4 0),(2,.ptr 1 7 0),(4,.ptr 3 7 0)] (mkH [⟨[.str g,w44 j,.i o.2,.i l],4,false⟩,C,⟨[],0,false⟩,Y]) ?_
     refine oR 2 (atN 1 (ctl1 i42p22)) ((50,.ptr 0 4 0)::[(0,.ptr 0 4 0),(2,.ptr 1 7 0),(4,.ptr 3 7 0)]) ?_
     refine oX (λ(G:Int) => .tuple []) (λG=>[⟨[.str g,w44 j,.i G,.i l],4,false⟩,C,⟨[],0,false⟩,Y]) (atN 2 (ctl1 i42p22)) 51 [0] [] [] [0] [] [.ptr 0 4 0,.str [101,110,100]] (qB2 k ([101,110,100]:LN) g j o.2 l) trivial (λ_=>trivial) trivial λG Z=>?_
     exact oQF 7 [⟨[.str g,w44 j,.i G,.i l],4,false⟩,Y,⟨[],0,false⟩,Y] 1 [] [.agg [.i 21,.str [],w29 ([c.1]:List S28),.bool false,.bool false,.nils,w9 o.1]] (.agg [.i 21,.str [],w29 ([c.1]:List S28),.bool false,.bool false,.vec 0 1 [],w9 o.1]) (.agg (.cs (.cs (.cs (.cs (.cs (.nil .ps)))))) .ps) trivial
theorem i42B_ok (k:Nat) (F:Fns0) (a:FnsOk0 F):Pi42 (i42B k F):=λb c g j=>⟨λx h=>qJq k F a b c g j (some x) h,λh=>⟨_,qJq k F a b c g j none h⟩⟩
def i43p1:Pt:=nav [0,0,0,0] (nav [0] (bodyAt Tryz.f109))
def i43p2:Pt:=nav [0,0] i43p1
def i43p3:Pt:=nav [1,0] i43p2
def i43p4:Pt:=nav [2,0,0] i43p2
def i43B (k:Nat) (F:Fns0) (g:LN) (h:List S43) (l:Int) (j:Int):Option (Option (S28×Int)) :=
 bT (i13 k ([40]:LN) g h l j) λa=>if a.1 then (bT (F.i35 g h a.2 j) λb=>some (some (b.1,b.2))) else (bT (i40 k g h a.2 j) λc=>some (some ((⟨(1:Int),c.1,⟨0,[]⟩,false,false,([]:LL),([]:LL)⟩:S28),c.2)))
theorem qJp (k:Nat) (F:Fns0) (x:FnsOk0 F):∀ g j m l r,i43B k F g j m l=some r→CallT Tryz.prog 109 [.ptr 0 4 0] (mkH [⟨[.str g,w44 j,.i m,.i l],4,false⟩]) ((Xi43 g j m l).thr r) ((Xi43 g j m l).enc r) ((Xi43 g j m l).fin r):=by
 intro g j m l r h
 refine qA0 (Xi43 g j m l) Tryz.func109 Kr Kr rfl (t:=i43B k F g j m l) ?_ h
 unfold i43B
 refine qA1 (eE:=[(0,.ptr 0 4 0)]) Kr ?_
 let n:Blk:=⟨[.i 0,.str [],.nils,.bool false,.bool false,.nils,.nils],0,false⟩
 refine oH 8 (atN 1 (ctl1 i43p1)) [(3,.ptr 0 4 0),(2,.ptr 1 7 0),(0,.ptr 0 4 0)] (mkH [⟨[.str g,w44 j,.i m,.i l],4,false⟩,n]) ?_
 refine oX (λ(a:(Bool×Int)) => .bool a.1) (λa=>[⟨[.str g,w44 j,.i a.2,.i l],4,false⟩,n]) (atN 2 (ctl1 i43p1)) 4 [0] [] [] [] [] [.ptr 0 4 0,.str [40]] (qAe k ([40]:LN) g j m l) trivial (λ_=>trivial) trivial λa o=>?_
 refine oR 1 i43p2 [(4,.bool a.1),(3,.ptr 0 4 0),(2,.ptr 1 7 0),(0,.ptr 0 4 0)] ?_
 refine oS 4 (λz=>?_) (λz=>?_)
 ·refine oR 4 (atN 1 (ctl1 i43p3)) [(5,.ptr 0 4 0),(4,.bool true),(4,.bool a.1),(3,.ptr 0 4 0),(2,.ptr 1 7 0),(0,.ptr 0 4 0)] ?_
  refine oX (λ(b:(S28×Int))=>n29 b.1) (λb=>[⟨[.str g,w44 j,.i b.2,.i l],4,false⟩,n]) (atN 2 (ctl1 i43p3)) 6 [0] [] [] [0] [] [.ptr 0 4 0] (x.i35_ok g j a.2 l) trivial (λ_=>trivial) trivial λb q=>?_
  exact oQF 3 [⟨[.str g,w44 j,.i b.2,.i l],4,false⟩,⟨e29 b.1,7,false⟩] 1 [] [n29 b.1] (n29 b.1) .ps trivial
 ·refine oR 5 (atN 1 (ctl1 i43p4)) [(7,.ptr 0 4 0),(4,.bool false),(4,.bool a.1),(3,.ptr 0 4 0),(2,.ptr 1 7 0),(0,.ptr 0 4 0)] ?_
  refine oX (λ(c:Ri40) => .str c.1) (λc=>[⟨[.str g,w44 j,.i c.2,.i l],4,false⟩,n]) (atN 2 (ctl1 i43p4)) 8 [0] [] [] [] [] [.ptr 0 4 0] (qG9 k g j a.2 l) trivial (λ_=>trivial) trivial λc u=>?_
  exact oQF 4 [⟨[.str g,w44 j,.i c.2,.i l],4,false⟩,⟨[.i 1,.str c.1,.nils,.bool false,.bool false,.nils,.nils],7,false⟩] 1 [] [.agg [.i 1,.str c.1,.nils,.bool false,.bool false,.nils,.nils]] (.agg [.i 1,.str c.1,.vec 0 7 [],.bool false,.bool false,.vec 0 1 [],.vec 0 1 []]) (.agg (.cs (.cs (.nil (.cs (.cs (.nil (.nil .ps))))))) .ps) trivial
theorem i43B_ok (k:Nat) (F:Fns0) (a:FnsOk0 F):Pi43 (i43B k F):=λb c g j=>⟨λx h=>qJp k F a b c g j (some x) h,λh=>⟨_,qJp k F a b c g j none h⟩⟩
def i44p1:Pt:=nav [0,0,0,0] (nav [0] (bodyAt Tryz.f110))
def i44p2:Pt:=nav [0,0] i44p1
def i44p3:Pt:=nav [1,0] i44p2
def i44p4:Pt:=nav [2,0,0] i44p2
def i44p6:Pt:=nav [0,0,0,0] i44p4
def i44p7:Pt:=nav [0,0] i44p6
def i44p8:Pt:=nav [1,0] i44p7
def i44p9:Pt:=nav [2,0,0] i44p7
def i44p10:Pt:=nav [0,0,0] i44p9
def i44d0:DP:=⟨[22,26],[(0,0,0),(1,0,0),(0,0,0),(0,0,0),(12,0,0),(31,0,0),(0,0,1),(64,0,0),(255,0,0),(511,0,0)],10,thrown,[],H0⟩
def i44B (k:Nat) (F:Fns0) (u:S28) (l:LN) (m:List S43) (x:Int) (n:Int):Option (Option (S28×Int)) :=
 bT (i13 k ([123]:LN) l m x n) λc=>if c.1 then (bT (F.i39 (9:Int) ([]:LN) false false ([]:LL) ([]:LL) ([125]:LN) l m c.2 n ([u]:List S28)) λa=>some (some ((⟨a.1,a.2.1,⟨(a.2.2.2.2.2.2.2).length,(a.2.2.2.2.2.2.2).flatMap e29⟩,a.2.2.1,a.2.2.2.1,a.2.2.2.2.1,a.2.2.2.2.2.1⟩:S28),a.2.2.2.2.2.2.1))) else (bT (i40 k l m c.2 n) λg=>bT (i13 k ([46]:LN) l m g.2 n) λh=>if h.1 then ((catS g.1 ([46]:LN)).bind λo=>bT (i58 k ([(1:Int)]:List Int) l m h.2 n) λj=>(catS o j.1).bind λq=>some (some ((⟨(12:Int),q,⟨(([u]:List S28)).length,(([u]:List S28)).flatMap e29⟩,false,false,([]:LL),([]:LL)⟩:S28),j.2))) else (bT (i41 k ([123]:LN) l m h.2 n) λr=>bT (F.i36 (11:Int) g.1 false false ([]:LL) ([]:LL) ([125]:LN) l m r n ([u]:List S28)) λb=>some (some ((⟨b.1,b.2.1,⟨(b.2.2.2.2.2.2.2).length,(b.2.2.2.2.2.2.2).flatMap e29⟩,b.2.2.1,b.2.2.2.1,b.2.2.2.2.1,b.2.2.2.2.2.1⟩:S28),b.2.2.2.2.2.2.1))))
theorem qJo (k:Nat) (F:Fns0) (hF:FnsOk0 F):∀ c o q I u r,i44B k F c o q I u=some r→CallT Tryz.prog 110 [.ptr 0 4 0,.agg [.i c.f0,.str c.f1,q29 c.f2,.bool c.f3,.bool c.f4,w9 c.f5,w9 c.f6]] (mkH [⟨[.str o,w44 q,.i I,.i u],4,false⟩]) ((Xi44 c o q I u).thr r) ((Xi44 c o q I u).enc r) ((Xi44 c o q I u).fin r):=by
 intro c o q I u r h
 refine qA0 (Xi44 c o q I u) Tryz.func110 Kr Kr rfl (t:=i44B k F c o q I u) ?_ h
 unfold i44B
 refine qA1 (eE:=[(0,.ptr 0 4 0),(1,.agg [.i c.f0,.str c.f1,q29 c.f2,.bool c.f3,.bool c.f4,w9 c.f5,w9 c.f6])]) Kr ?_
 let O:Env:=[(6,.ptr 0 4 0),(4,.ptr 2 7 0),(3,.ptr 1 7 0),(0,.ptr 0 4 0),(1,n29 c)]
 let Q1:Blk:=⟨[.str o,w44 q,.i I,.i u],4,false⟩
 let z:Blk:=⟨[.i 0,.str [],.nils,.bool false,.bool false,.nils,.nils],0,false⟩
 refine oH 9 (atN 1 (ctl1 i44p1)) O (mkH [Q1,⟨e29 c,0,false⟩,z]) ?_
 refine oX (λ(n:(Bool×Int)) => .bool n.1) (λn=>[⟨[.str o,w44 q,.i n.2,.i u],4,false⟩,⟨e29 c,0,false⟩,z]) (atN 2 (ctl1 i44p1)) 7 [0] [] [] [] [] [.ptr 0 4 0,.str [123]] (qAe k ([123]:LN) o q I u) trivial (λ_=>trivial) trivial λn S=>?_
 refine oR 1 i44p2 ((7,.bool n.1)::O) ?_
 refine oS 7 (λT=>?_) (λT=>?_)
 ·let E2:Env:=((10,.slice 3 7 0 1 7)::(9,n29 c)::(8,.ptr 0 4 0)::(7,.bool true)::(7,.bool n.1)::O)
  let U:Blk:=⟨[.str o,w44 q,.i n.2,.i u],4,false⟩
  refine oH 6 (atN 3 (ctl1 i44p3)) E2 (mkH [U,⟨e29 c,0,false⟩,z,⟨e29 c,0,false⟩]) ?_
  refine qAz 10 3 7 1 7 Kr rfl ?_
  let Q4:Blk:=⟨(([c]:List S28)).flatMap e29,0,false⟩
  refine oH 3 (atN 6 (ctl1 i44p3)) ((13,.func 105 [.ptr 0 4 0] [])::(12,.ptr 0 4 0)::(11,.agg [.i 9,.str [],.own 3 (([c]:List S28)).length 7,.bool false,.bool false,.nils,.nils])::(10,.own 3 (([c]:List S28)).length 7)::E2) (mkH [U,⟨e29 c,0,false⟩,z,Q4]) ?_
  refine oXW 0 [U,⟨e29 c,0,false⟩,z,Q4] (λ(a:Ri39) => .agg [.i a.1,.str a.2.1,.own 3 (a.2.2.2.2.2.2.2).length 7,.bool a.2.2.1,.bool a.2.2.2.1,w9 a.2.2.2.2.1,w9 a.2.2.2.2.2.1]) (λa=>[⟨[.str o,w44 q,.i a.2.2.2.2.2.2.1,.i u],4,false⟩,⟨e29 c,0,false⟩,z,⟨(a.2.2.2.2.2.2.2).flatMap e29,0,false⟩]) (atN 7 (ctl1 i44p3)) 14 [0,3] [0,1] [0,1] [0,3] [] [0,0,0,1] [.ptr 0 4 0,.agg [.i 9,.str [],.own 3 (([c]:List S28)).length 7,.bool false,.bool false,.nils,.nils],.str [125],.func 105 [.ptr 0 4 0] []] [.ptr 0 4 0,.agg [.i 9,.str [],.own 3 (([c]:List S28)).length 7,.bool false,.bool false,w9 ([]:LL),w9 ([]:LL)],.str [125],.func 105 [.ptr 0 4 0] []] (.cons (.agg (.cons (.cons (.cons (.cons (.cons (.nil (.nil (.refl)))))))) (.refl))) (hF.i39_ok (9:Int) ([]:LN) false false ([]:LL) ([]:LL) ([125]:LN) o q n.2 u ([c]:List S28)) ⟨u29 _,trivial⟩ (λ_=>⟨u29 _,trivial⟩) trivial λa V=>?_
  exact oQF 3 [⟨[.str o,w44 q,.i a.2.2.2.2.2.2.1,.i u],4,false⟩,⟨e29 c,0,false⟩,⟨[.i a.1,.str a.2.1,.own 3 (a.2.2.2.2.2.2.2).length 7,.bool a.2.2.1,.bool a.2.2.2.1,w9 a.2.2.2.2.1,w9 a.2.2.2.2.2.1],7,false⟩,⟨(a.2.2.2.2.2.2.2).flatMap e29,0,false⟩] 1 [] [.agg [.i a.1,.str a.2.1,.own 3 (a.2.2.2.2.2.2.2).length 7,.bool a.2.2.1,.bool a.2.2.2.1,w9 a.2.2.2.2.1,w9 a.2.2.2.2.2.1]] (.agg [.i a.1,.str a.2.1,w29 a.2.2.2.2.2.2.2,.bool a.2.2.1,.bool a.2.2.2.1,w9 a.2.2.2.2.1,w9 a.2.2.2.2.2.1]) (.agg (.cs (.cs (qAl qA2 qAf rfl rfl rfl .ps))) .ps) trivial
 ·refine oR 5 (atN 1 (ctl1 i44p4)) ((15,.ptr 0 4 0)::(7,.bool false)::(7,.bool n.1)::O) ?_
  refine oX (λ(g:Ri40) => .str g.1) (λg=>[⟨[.str o,w44 q,.i g.2,.i u],4,false⟩,⟨e29 c,0,false⟩,z]) (atN 2 (ctl1 i44p4)) 16 [0] [] [] [] [] [.ptr 0 4 0] (qG9 k o q n.2 u) trivial (λ_=>trivial) trivial λg W=>?_
  let Y:Env:=((17,.ptr 0 4 0)::(5,.str g.1)::(16,.str g.1)::(15,.ptr 0 4 0)::(7,.bool false)::(7,.bool n.1)::O)
  refine oR 6 (atN 1 (ctl1 i44p6)) Y ?_
  refine oX (λ(j:(Bool×Int)) => .bool j.1) (λj=>[⟨[.str o,w44 q,.i j.2,.i u],4,false⟩,⟨e29 c,0,false⟩,z]) (atN 2 (ctl1 i44p6)) 18 [0] [] [] [] [] [.ptr 0 4 0,.str [46]] (qAe k ([46]:LN) o q g.2 u) trivial (λ_=>trivial) trivial λj Z=>?_
  refine oR 1 i44p7 ((18,.bool j.1)::Y) ?_
  refine oK [0,3,4,5,18] [(0,.ptr 0 4 0),(3,.ptr 1 7 0),(4,.ptr 2 7 0),(5,.str g.1),(18,.bool j.1)] ?_
  let E5:Env:=keepOnly ((18,.bool j.1)::Y) [0,3,4,5,18]
  refine oS 18 (λT=>?_) (λT=>?_)
  ·refine oR 2 i44p8 ((18,.bool true)::E5) ?_
   refine qA7 (λl C=>?_)
   refine qC9 (λh=>?_) (λA K=>?_)
   ·let E:Env:=[(19,.str g.1),(18,.bool true),(0,.ptr 0 4 0),(3,.ptr 1 7 0),(4,.ptr 2 7 0),(5,.str g.1),(18,.bool j.1)]
    let Q:Env:=((24,.top)::(23,.top)::(22,w3 ([(1:Int)]:List Int))::(21,.ptr 0 4 0)::(20,.str l)::E)
    let G:Blk:=⟨[.str o,w44 q,.i j.2,.i u],4,false⟩
    exact qAu (eE:=((27,.top)::(26,w29 ([c]:List S28))::(25,n29 c)::Q)) (i44d0.th 4 thrown [] (mkH [G,⟨e29 c,0,false⟩,z])) (hs:=[(mkH [G,⟨e29 c,0,false⟩,z]),(mkH [G,⟨e29 c,0,false⟩,z])]) (LX:=[Q1]) (L:=[G,⟨e29 c,0,false⟩,z]) rfl rfl rfl Kr rfl ⟨.inl rfl,trivial⟩ Kr Kr Kr Kr (qAc 1 (l':=(opsAt i44p8).toList.drop 1) (eE:=E) (H':=(mkH [G,⟨e29 c,0,false⟩,z])) (hs:=[]) Kr (qAb (l':=(opsAt i44p8).toList.drop 2) (eE:=((20,.str l)::E)) (hs:=[]) (x:=l) (λ(l:LN)=>(.str l,(mkH [G,⟨e29 c,0,false⟩,z]))) (catH Kr) C Kr (qAc 2 (l':=(opsAt i44p8).toList.drop 4) (eE:=((22,w3 ([(1:Int)]:List Int))::(21,.ptr 0 4 0)::(20,.str l)::E)) (H':=(mkH [G,⟨e29 c,0,false⟩,z])) (hs:=[]) Kr (qAt (l':=(opsAt i44p8).toList.drop 5) (eE:=((23,.top)::(22,w3 ([(1:Int)]:List Int))::(21,.ptr 0 4 0)::(20,.str l)::E)) (hs:=[(mkH [G,⟨e29 c,0,false⟩,z])]) (fi:=134) (args:=[.ptr 0 4 0,w3 ([(1:Int)]:List Int)]) Kr Kr (frS 0 (M:=[G,⟨e29 c,0,false⟩,z]) (rs:=[0]) (ms:=[]) (mv:=[]) (mm:=[]) (D:=[]) (xs':=[.ptr 0 4 0,w3 ([(1:Int)]:List Int)]) (.refl) ((qEg k ([(1:Int)]:List Int) o q j.2 u).2 h) trivial trivial Kr) Kr (qA4 (l':=(opsAt i44p8).toList.drop 6) (eE:=Q) (hs:=[]) Kr Kr (qAc 2 (l':=(opsAt i44p8).toList.drop 8) (eE:=((26,w29 ([c]:List S28))::(25,n29 c)::Q)) (H':=(mkH [G,⟨e29 c,0,false⟩,z])) (hs:=[]) Kr (qA4 (l':=(opsAt i44p8).toList.drop 9) (eE:=((27,.top)::(26,w29 ([c]:List S28))::(25,n29 c)::Q)) (hs:=[]) Kr Kr (qA4 (l':=(opsAt i44p8).toList.drop 10) (eE:=((27,.top)::(26,w29 ([c]:List S28))::(25,n29 c)::Q)) (hs:=[(mkH [G,⟨e29 c,0,false⟩,z])]) Kr Kr (.nil))))))))) Kr Kr
   ·refine qA7 (λm N=>?_)
    let E:Env:=[(19,.str g.1),(18,.bool true),(0,.ptr 0 4 0),(3,.ptr 1 7 0),(4,.ptr 2 7 0),(5,.str g.1),(18,.bool j.1)]
    let E8:Env:=((24,.str m)::(23,.str A.1)::(22,w3 ([(1:Int)]:List Int))::(21,.ptr 0 4 0)::(20,.str l)::E)
    let J:Blk:=⟨[.str o,w44 q,.i A.2,.i u],4,false⟩
    refine oD (H':=(mkH [J,⟨e29 c,0,false⟩,⟨[.i 12,.str m,w29 ([c]:List S28),.bool false,.bool false,.nils,.nils],7,false⟩])) (nav [0] i44p8) ((27,.agg [.i 12,.str m,w29 ([c]:List S28),.bool false,.bool false,.nils,.nils])::(26,w29 ([c]:List S28))::(25,n29 c)::E8) [(mkH [J,⟨e29 c,0,false⟩,z]),(mkH [J,⟨e29 c,0,false⟩,⟨[.i 12,.str m,w29 ([c]:List S28),.bool false,.bool false,.nils,.nils],7,false⟩])] i44d0 (oDr 1 1 E (qAb (l':=(opsAt i44p8).toList.drop 2) (eE:=((20,.str l)::E)) (hs:=[]) (x:=l) (λ(l:LN)=>(.str l,(mkH [⟨[.str o,w44 q,.i j.2,.i u],4,false⟩,⟨e29 c,0,false⟩,z]))) (catH Kr) C Kr (oDr 2 4 ((22,w3 ([(1:Int)]:List Int))::(21,.ptr 0 4 0)::(20,.str l)::E) (qA6 (l':=(opsAt i44p8).toList.drop 5) (eE:=((23,.str A.1)::(22,w3 ([(1:Int)]:List Int))::(21,.ptr 0 4 0)::(20,.str l)::E)) (hs:=[(mkH [J,⟨e29 c,0,false⟩,z])]) (H':=(mkH [J,⟨e29 c,0,false⟩,z])) (fi:=134) (args:=[.ptr 0 4 0,w3 ([(1:Int)]:List Int)]) (v := .str A.1) Kr (frC (rs:=[0]) (ms:=[]) (ms':=[]) ((qEg k ([(1:Int)]:List Int) o q j.2 u).1 A K) trivial trivial Kr) Kr (qAb (l':=(opsAt i44p8).toList.drop 6) (eE:=E8) (hs:=[]) (x:=m) (λ(m:LN)=>(.str m,(mkH [J,⟨e29 c,0,false⟩,z]))) (catH Kr) N Kr (oDh 4 10 ((27,.agg [.i 12,.str m,w29 ([c]:List S28),.bool false,.bool false,.nils,.nils])::(26,w29 ([c]:List S28))::(25,n29 c)::E8) (mkH [J,⟨e29 c,0,false⟩,⟨[.i 12,.str m,w29 ([c]:List S28),.bool false,.bool false,.nils,.nils],7,false⟩]) [(mkH [J,⟨e29 c,0,false⟩,⟨[.i 12,.str m,w29 ([c]:List S28),.bool false,.bool false,.nils,.nils],7,false⟩])] .nil)))))) ?_
    exact oQF 1 [J,⟨e29 c,0,false⟩,⟨[.i 12,.str m,w29 ([c]:List S28),.bool false,.bool false,.nils,.nils],7,false⟩] 1 [] [.agg [.i 12,.str m,w29 ([c]:List S28),.bool false,.bool false,.nils,.nils]] (.agg [.i 12,.str m,w29 ([c]:List S28),.bool false,.bool false,.vec 0 1 [],.vec 0 1 []]) (.agg (.cs (.cs (.cs (.cs (.cs (.nil (.nil .ps))))))) .ps) trivial
  ·refine oR 5 (atN 1 (ctl1 i44p9)) ((28,.ptr 0 4 0)::(18,.bool false)::E5) ?_
   refine oX (λ(B:Int) => .tuple []) (λB=>[⟨[.str o,w44 q,.i B,.i u],4,false⟩,⟨e29 c,0,false⟩,z]) (atN 2 (ctl1 i44p9)) 29 [0] [] [] [0] [] [.ptr 0 4 0,.str [123]] (qB2 k ([123]:LN) o q j.2 u) trivial (λ_=>trivial) trivial λB a7=>?_
   let E9:Env:=((33,.slice 3 7 0 1 7)::(32,n29 c)::(31,.str g.1)::(30,.ptr 0 4 0)::(29,.tuple [])::(28,.ptr 0 4 0)::(18,.bool false)::E5)
   let Q7:Blk:=⟨[.str o,w44 q,.i B,.i u],4,false⟩
   refine oH 7 (atN 4 (ctl1 i44p10)) E9 (mkH [Q7,⟨e29 c,0,false⟩,z,⟨e29 c,0,false⟩]) ?_
   refine qAz 33 3 7 1 7 Kr rfl ?_
   let Q8:Blk:=⟨(([c]:List S28)).flatMap e29,0,false⟩
   refine oH 3 (atN 7 (ctl1 i44p10)) ((36,.func 102 [.ptr 0 4 0] [])::(35,.ptr 0 4 0)::(34,.agg [.i 11,.str g.1,.own 3 (([c]:List S28)).length 7,.bool false,.bool false,.nils,.nils])::(33,.own 3 (([c]:List S28)).length 7)::E9) (mkH [Q7,⟨e29 c,0,false⟩,z,Q8]) ?_
   refine oXW 0 [Q7,⟨e29 c,0,false⟩,z,Q8] (λ(b:Ri36) => .agg [.i b.1,.str b.2.1,.own 3 (b.2.2.2.2.2.2.2).length 7,.bool b.2.2.1,.bool b.2.2.2.1,w9 b.2.2.2.2.1,w9 b.2.2.2.2.2.1]) (λb=>[⟨[.str o,w44 q,.i b.2.2.2.2.2.2.1,.i u],4,false⟩,⟨e29 c,0,false⟩,z,⟨(b.2.2.2.2.2.2.2).flatMap e29,0,false⟩]) (atN 8 (ctl1 i44p10)) 37 [0,3] [0,1] [0,1] [0,3] [] [0,0,0,1] [.ptr 0 4 0,.agg [.i 11,.str g.1,.own 3 (([c]:List S28)).length 7,.bool false,.bool false,.nils,.nils],.str [125],.func 102 [.ptr 0 4 0] []] [.ptr 0 4 0,.agg [.i 11,.str g.1,.own 3 (([c]:List S28)).length 7,.bool false,.bool false,w9 ([]:LL),w9 ([]:LL)],.str [125],.func 102 [.ptr 0 4 0] []] (.cons (.agg (.cons (.cons (.cons (.cons (.cons (.nil (.nil (.refl)))))))) (.refl))) (hF.i36_ok (11:Int) g.1 false false ([]:LL) ([]:LL) ([125]:LN) o q B u ([c]:List S28)) ⟨u29 _,trivial⟩ (λ_=>⟨u29 _,trivial⟩) trivial λb a9=>?_
   exact oQF 3 [⟨[.str o,w44 q,.i b.2.2.2.2.2.2.1,.i u],4,false⟩,⟨e29 c,0,false⟩,⟨[.i b.1,.str b.2.1,.own 3 (b.2.2.2.2.2.2.2).length 7,.bool b.2.2.1,.bool b.2.2.2.1,w9 b.2.2.2.2.1,w9 b.2.2.2.2.2.1],7,false⟩,⟨(b.2.2.2.2.2.2.2).flatMap e29,0,false⟩] 1 [] [.agg [.i b.1,.str b.2.1,.own 3 (b.2.2.2.2.2.2.2).length 7,.bool b.2.2.1,.bool b.2.2.2.1,w9 b.2.2.2.2.1,w9 b.2.2.2.2.2.1]] (.agg [.i b.1,.str b.2.1,w29 b.2.2.2.2.2.2.2,.bool b.2.2.1,.bool b.2.2.2.1,w9 b.2.2.2.2.1,w9 b.2.2.2.2.2.1]) (.agg (.cs (.cs (qAl qA2 qAf rfl rfl rfl .ps))) .ps) trivial
theorem i44B_ok (k:Nat) (F:Fns0) (a:FnsOk0 F):Pi44 (i44B k F):=λb c g j l=>⟨λx h=>qJo k F a b c g j l (some x) h,λh=>⟨_,qJo k F a b c g j l none h⟩⟩
def i46p1:Pt:=nav [0,0,0] (nav [0] (bodyAt Tryz.f94))
def i46p2:Pt:=nav [0,0,0,0,0] i46p1
def i46p3:Pt:=nav [0,0,0] i46p2
def i46p4:Pt:=nav [0,0] i46p3
def i46p5:Pt:=nav [1,0,0] i46p4
def i46d0:DP:=⟨[14],[(0,0,0),(1,0,1),(0,0,0),(4,0,0),(12,0,0),(31,0,0),(63,0,0),(127,0,0)],8,thrown,[],H0⟩
def qHh (k:Nat) (F:Fns0)  (j:LN) (l:List S43) (n:Int) (m:Int) (ih:Int→(List S28)→Option (Option (S28×Int))):Int→(List S28)→Option (Option (S28×Int)) :=
 λ(g:Int) (a:List S28)=>bT (i13 k ([59]:LN) j l g m) λb=>if b.1 then (bT (F.i64 j l b.2 m) λc=>(appS 104 a ([c.1]:List S28)).bind λh=>ih c.2 h) else (some (some ((⟨(24:Int),([]:LN),⟨(a).length,(a).flatMap e29⟩,false,false,([]:LL),([]:LL)⟩:S28),b.2)))
def qMs (k:Nat) (F:Fns0)  (a:LN) (b:List S43) (c:Int) (g:Int) (n:Nat):Int→(List S28)→Option (Option (S28×Int)):=lp (λ_ _=>none) (qHh k F a b c g) n
theorem qMr (k:Nat) (F:Fns0) (J:FnsOk0 F) (q:LN) (r:List S43) (G:Int) (u:Int)    : ∀ (n:Nat) (j:Int) (c:List S28),Ok (Xi46 q r G u) i46p2 [(0,.ptr 0 4 0),(2,.ptr 1 7 0),(3,.ptr 3 7 0)] (mkH [⟨[.str q,w44 r,.i j,.i u],4,false⟩,⟨[.i 0,.str [],.nils,.bool false,.bool false,.nils,.nils],0,false⟩,⟨(c).flatMap e29,0,false⟩,⟨[.i 24,.str [],.own 2 (c).length 7,.bool false,.bool false,.nils,.nils],7,false⟩]) (qMs k F q r G u n j c):=by
 intro n
 induction n with
 | zero=>intro j c; exact ok_none
 | succ n ih =>
  intro j c
  show Ok _ _ _ _ (qHh k F q r G u (qMs k F q r G u n) j c)
  unfold qHh
  refine qAd (p':=nav [0] i46p2) Kr ?_
  let l:Blk:=⟨[.i 0,.str [],.nils,.bool false,.bool false,.nils,.nils],0,false⟩
  let o:Blk:=⟨(c).flatMap e29,0,false⟩
  let m:Blk:=⟨[.i 24,.str [],.own 2 (c).length 7,.bool false,.bool false,.nils,.nils],7,false⟩
  refine oH 4 (atN 1 (ctl1 i46p3)) [(8,.ptr 0 4 0),(0,.ptr 0 4 0),(2,.ptr 1 7 0),(3,.ptr 3 7 0)] (mkH [⟨[.str q,w44 r,.i j,.i u],4,false⟩,l,o,m]) ?_
  refine oX (λ(g:(Bool×Int)) => .bool g.1) (λg=>[⟨[.str q,w44 r,.i g.2,.i u],4,false⟩,l,o,m]) (atN 2 (ctl1 i46p3)) 9 [0] [] [] [3] [0,0,1] [.ptr 0 4 0,.str [59]] (qAe k ([59]:LN) q r j u) trivial (λ_=>trivial) ⟨u29 _,trivial⟩ λg I=>?_
  let K:Env:=[(9,.bool g.1),(8,.ptr 0 4 0),(0,.ptr 0 4 0),(2,.ptr 1 7 0),(3,.ptr 3 7 0)]
  refine oR 1 i46p4 K ?_
  refine oS 9 (λN=>?_) (λN=>?_)
  ·refine oR 3 i46p5 ((9,.bool true)::K) ?_
   refine qC9 (λh=>?_) (λb C=>?_)
   ·let z:Env:=[(12,.ptr 0 4 0),(11,.own 2 (c).length 7),(10,.ptr 3 7 2),(9,.bool true),(9,.bool g.1),(8,.ptr 0 4 0),(0,.ptr 0 4 0),(2,.ptr 1 7 0),(3,.ptr 3 7 0)]
    let B:Blk:=⟨[.str q,w44 r,.i g.2,.i u],4,false⟩
    exact qAu (eE:=((16,.top)::(15,.top)::(14,.top)::(13,.top)::z)) (i46d0.th 3 thrown [0,3] (mkH [B,l,o,m])) (hs:=[(mkH [B,l,o,m]),(mkH [B,l,o,m]),(mkH [B,l,o,m])]) (LX:=[⟨[.str q,w44 r,.i G,.i u],4,false⟩]) (L:=[B,l,o,m]) rfl rfl rfl Kr rfl ⟨.inl rfl,trivial⟩ Kr Kr Kr Kr (qAc 3 (l':=(opsAt i46p5).toList.drop 3) (eE:=z) (H':=(mkH [B,l,o,m])) (hs:=[]) Kr (qAt (l':=(opsAt i46p5).toList.drop 4) (eE:=((13,.top)::z)) (hs:=[(mkH [B,l,o,m])]) (fi:=129) (args:=[.ptr 0 4 0]) Kr Kr (frS 0 (M:=[B,l,o,m]) (rs:=[0]) (ms:=[]) (mv:=[0,0,1]) (mm:=[0,0,1]) (D:=[0,3]) (xs':=[.ptr 0 4 0]) (.refl) ((J.i64_ok q r g.2 u).2 h) trivial ⟨u29 _,trivial⟩ Kr) Kr (qA4 (l':=(opsAt i46p5).toList.drop 5) (eE:=((14,.top)::(13,.top)::z)) (hs:=[]) Kr Kr (qA4 (l':=(opsAt i46p5).toList.drop 6) (eE:=((15,.top)::(14,.top)::(13,.top)::z)) (hs:=[(mkH [B,l,o,m])]) Kr Kr (qA4 (l':=(opsAt i46p5).toList.drop 7) (eE:=((16,.top)::(15,.top)::(14,.top)::(13,.top)::z)) (hs:=[]) Kr Kr (qA4 (l':=(opsAt i46p5).toList.drop 8) (eE:=((16,.top)::(15,.top)::(14,.top)::(13,.top)::z)) (hs:=[(mkH [B,l,o,m])]) Kr Kr (.nil))))))) Kr Kr
   ·refine qA7 (λa E=>?_)
    let z:Env:=[(12,.ptr 0 4 0),(11,.own 2 (c).length 7),(10,.ptr 3 7 2),(9,.bool true),(9,.bool g.1),(8,.ptr 0 4 0),(0,.ptr 0 4 0),(2,.ptr 1 7 0),(3,.ptr 3 7 0)]
    let A:Blk:=⟨[.str q,w44 r,.i b.2,.i u],4,false⟩
    refine oD (H':=(mkH [A,l,⟨(a).flatMap e29,0,false⟩,⟨[.i 24,.str [],.own 2 (a).length 7,.bool false,.bool false,.nils,.nils],7,false⟩])) (nav [0] i46p5) ((16,.ptr 3 7 2)::(15,.own 2 (a).length 7)::(14,w29 ([b.1]:List S28))::(13,n29 b.1)::z) [(mkH [A,l,o,m]),(mkH [A,l,⟨(a).flatMap e29,0,false⟩,m]),(mkH [A,l,⟨(a).flatMap e29,0,false⟩,⟨[.i 24,.str [],.own 2 (a).length 7,.bool false,.bool false,.nils,.nils],7,false⟩])] i46d0 (oDr 3 3 z (qA6 (l':=(opsAt i46p5).toList.drop 4) (eE:=((13,n29 b.1)::z)) (hs:=[(mkH [A,l,o,m])]) (H':=(mkH [A,l,o,m])) (fi:=129) (args:=[.ptr 0 4 0]) (v:=n29 b.1) Kr (frC (rs:=[0]) (ms:=[]) (ms':=[]) ((J.i64_ok q r g.2 u).1 b C) trivial trivial Kr) Kr (oDr 1 5 ((14,w29 ([b.1]:List S28))::(13,n29 b.1)::z) (qAb (l':=(opsAt i46p5).toList.drop 6) (eE:=((15,.own 2 (a).length 7)::(14,w29 ([b.1]:List S28))::(13,n29 b.1)::z)) (hs:=[(mkH [A,l,⟨(a).flatMap e29,0,false⟩,m])]) (x:=a) (λ(a:List S28)=>(.own 2 (a).length 7,(mkH [A,l,⟨(a).flatMap e29,0,false⟩,m]))) (appHV (sz:=7) qA2 rfl qAh [A,l,o,m] 2 104 c ([b.1]:List S28) rfl rfl Kr) E Kr (oDh 2 8 ((16,.ptr 3 7 2)::(15,.own 2 (a).length 7)::(14,w29 ([b.1]:List S28))::(13,n29 b.1)::z) (mkH [A,l,⟨(a).flatMap e29,0,false⟩,⟨[.i 24,.str [],.own 2 (a).length 7,.bool false,.bool false,.nils,.nils],7,false⟩]) [(mkH [A,l,⟨(a).flatMap e29,0,false⟩,⟨[.i 24,.str [],.own 2 (a).length 7,.bool false,.bool false,.nils,.nils],7,false⟩])] .nil))))) ?_
    refine oK [0,2,3] [(0,.ptr 0 4 0),(2,.ptr 1 7 0),(3,.ptr 3 7 0)] ?_
    exact ih b.2 a
  ·exact oQF 8 [⟨[.str q,w44 r,.i g.2,.i u],4,false⟩,m,o,m] 1 [] [.agg [.i 24,.str [],.own 2 (c).length 7,.bool false,.bool false,.nils,.nils]] (.agg [.i 24,.str [],w29 c,.bool false,.bool false,.vec 0 1 [],.vec 0 1 []]) (.agg (.cs (.cs (qAl qA2 qAf rfl rfl rfl (.cs (.cs (.nil (.nil .ps))))))) .ps) trivial
def i46B (k:Nat) (F:Fns0) (b:LN) (c:List S43) (g:Int) (h:Int):Option (Option (S28×Int)) :=
 bT (F.i64 b c g h) λa=>qMs k F b c g h k a.2 ([a.1]:List S28)
theorem qJn (k:Nat) (F:Fns0) (n:FnsOk0 F):∀ b c j g r,i46B k F b c j g=some r→CallT Tryz.prog 94 [.ptr 0 4 0] (mkH [⟨[.str b,w44 c,.i j,.i g],4,false⟩]) ((Xi46 b c j g).thr r) ((Xi46 b c j g).enc r) ((Xi46 b c j g).fin r):=by
 intro b c j g r h
 refine qA0 (Xi46 b c j g) Tryz.func94 Kr Kr rfl (t:=i46B k F b c j g) ?_ h
 unfold i46B
 refine qA1 (eE:=[(0,.ptr 0 4 0)]) Kr ?_
 let l:Blk:=⟨[.i 0,.str [],.nils,.bool false,.bool false,.nils,.nils],0,false⟩
 refine oH 7 (atN 1 (ctl1 i46p1)) [(4,.ptr 0 4 0),(2,.ptr 1 7 0),(0,.ptr 0 4 0)] (mkH [⟨[.str b,w44 c,.i j,.i g],4,false⟩,l]) ?_
 refine oX (λ(a:(S28×Int))=>n29 a.1) (λa=>[⟨[.str b,w44 c,.i a.2,.i g],4,false⟩,l]) (atN 2 (ctl1 i46p1)) 5 [0] [] [] [0] [] [.ptr 0 4 0] (n.i64_ok b c j g) trivial (λ_=>trivial) trivial λa m=>?_
 let o:Blk:=⟨[.str b,w44 c,.i a.2,.i g],4,false⟩
 refine oH 1 (atN 3 (ctl1 i46p1)) [(6,.slice 2 7 0 1 7),(5,n29 a.1),(4,.ptr 0 4 0),(2,.ptr 1 7 0),(0,.ptr 0 4 0)] (mkH [o,l,⟨e29 a.1,0,false⟩]) ?_
 refine qAz 6 2 7 1 7 Kr rfl ?_
 refine oLH 7 i46p2 [(0,.ptr 0 4 0),(2,.ptr 1 7 0),(3,.ptr 3 7 0)] (mkH [o,l,⟨(([a.1]:List S28)).flatMap e29,0,false⟩,⟨[.i 24,.str [],.own 2 (([a.1]:List S28)).length 7,.bool false,.bool false,.nils,.nils],7,false⟩]) ?_
 exact (qMr k F n b c j g k) a.2 ([a.1]:List S28)
theorem i46B_ok (k:Nat) (F:Fns0) (a:FnsOk0 F):Pi46 (i46B k F):=λb c g j=>⟨λx h=>qJn k F a b c g j (some x) h,λh=>⟨_,qJn k F a b c g j none h⟩⟩
def i54p1:Pt:=nav [0,0,0] (nav [0] (bodyAt Tryz.f102))
def i54B (k:Nat) (F:Fns0) (b:LN) (c:List S43) (g:Int) (h:Int):Option (Option (S28×Int)) :=
 bT (F.i9 (0:Int) b c g h) λa=>some (some (a.1,a.2))
theorem qJl (k:Nat) (F:Fns0) (n:FnsOk0 F):∀ b c j g r,i54B k F b c j g=some r→CallT Tryz.prog 102 [.ptr 0 4 0] (mkH [⟨[.str b,w44 c,.i j,.i g],4,false⟩]) ((Xi54 b c j g).thr r) ((Xi54 b c j g).enc r) ((Xi54 b c j g).fin r):=by
 intro b c j g r h
 refine qA0 (Xi54 b c j g) Tryz.func102 Kr Kr rfl (t:=i54B k F b c j g) ?_ h
 unfold i54B
 refine qA1 (eE:=[(0,.ptr 0 4 0)]) Kr ?_
 let m:Blk:=⟨[.i 0,.str [],.nils,.bool false,.bool false,.nils,.nils],0,false⟩
 refine oH 7 (atN 1 (ctl1 i54p1)) [(3,.ptr 0 4 0),(2,.ptr 1 7 0),(0,.ptr 0 4 0)] (mkH [⟨[.str b,w44 c,.i j,.i g],4,false⟩,m]) ?_
 refine oX (λ(a:(S28×Int))=>n29 a.1) (λa=>[⟨[.str b,w44 c,.i a.2,.i g],4,false⟩,m]) (atN 2 (ctl1 i54p1)) 4 [0] [] [] [0] [] [.ptr 0 4 0,.i 0] (n.i9_ok (0:Int) b c j g) trivial (λ_=>trivial) trivial λa l=>?_
 exact oQF 3 [⟨[.str b,w44 c,.i a.2,.i g],4,false⟩,⟨e29 a.1,7,false⟩] 1 [] [n29 a.1] (n29 a.1) .ps trivial
theorem i54B_ok (k:Nat) (F:Fns0) (a:FnsOk0 F):Pi54 (i54B k F):=λb c g j=>⟨λx h=>qJl k F a b c g j (some x) h,λh=>⟨_,qJl k F a b c g j none h⟩⟩
def i55c0:LL:=[([60,45]:LN),([60,61]:LN)]
def i55p1:Pt:=nav [0,0,0,0] (nav [0] (bodyAt Tryz.f132))
def i55p2:Pt:=nav [0,0,0] i55p1
def i55p3:Pt:=nav [0,0,0,0] i55p2
def i55p4:Pt:=nav [0,0,0,0] i55p3
def i55p6:Pt:=nav [0,0,0] (nav [0,0] i55p4)
def i55p7:Pt:=nav [1,0,0,0,0] i55p6
def i55p8:Pt:=nav [2,0,0] i55p6
def i55p9:Pt:=nav [0,0,0] i55p7
def i55p10:Pt:=nav [0,0,0,0] i55p8
def i55p11:Pt:=nav [0,0] i55p9
def i55p12:Pt:=nav [0,0] i55p10
def i55p13:Pt:=nav [1,0] i55p11
def i55p16:Pt:=nav [2,0] i55p12
def i55d0:DP:=⟨[23],[(0,0,0),(0,0,1),(0,0,0),(4,0,0),(14,0,0),(31,0,0),(63,0,0)],7,thrown,[],H0⟩
def qHb (k:Nat) (F:Fns0) (A:Int→(List S28)→Option (Option Ri55)) (B:Int) (C:LN) (D:Bool) (E:Bool) (G:LL) (I:LL) (u:LN) (x:List S43) (L:Int) (z:Int) (M:List S28) (a:(S28×Int)) (ih:Int→Int→(List S28)→Option (Option Ri55)):Int→Int→(List S28)→Option (Option Ri55) :=
 λ(b:Int) (l:Int) (c:List S28)=>jn (λ(o:Int×S28×(List S28))=>(appS 104 o.2.2 ([o.2.1]:List S28)).bind λm=>bT (i13 k ([93]:LN) u x o.1 z) λg=>if g.1 then (some (some (B,C,D,E,G,I,g.2,m))) else (bT (i41 k ([44]:LN) u x g.2 z) λq=>A q m)) (λr=>if (decide (b < (i55c0.length:Int))) then ((nthL i55c0 b).bind λn=>bT (i13 k n u x l z) λh=>jn (λ(J:List S28)=>bT (F.i9 (3:Int) u x h.2 z) λj=>r (j.2,(⟨14,n,(⟨(([a.1,j.1]:List S28)).length,(([a.1,j.1]:List S28)).flatMap e29⟩:Raw),false,false,([]:LL),([]:LL)⟩:S28),J)) (λK=>if h.1 then (K c) else (ih (fW .i64 (b+1)) h.2 c))) else (r (l,a.1,c)))
def qMj (k:Nat) (F:Fns0) (b:Int→(List S28)→Option (Option Ri55)) (c:Int) (g:LN) (h:Bool) (j:Bool) (l:LL) (m:LL) (o:LN) (q:List S43) (r:Int) (u:Int) (x:List S28) (a:(S28×Int)) (n:Nat):Int→Int→(List S28)→Option (Option Ri55):=lp (λ_ _ _=>none) (qHb k F b c g h j l m o q r u x a) n
theorem qMi (k:Nat) (F:Fns0) (hF:FnsOk0 F) (J:Int) (K:LN) (N:Bool) (O:Bool) (Q:LL) (S:LL) (z:LN) (A:List S43) (a8:Int) (B:Int) (b1:List S28) (c7:Int→(List S28)→Option (Option Ri55)) (a:(S28×Int)) (c8:∀ (b2:Int) (Y:List S28),Ok (Xi55 J K N O Q S z A a8 B b1) i55p1 [(0,.ptr 0 4 0),(3,.ptr 2 7 0),(4,.ptr 3 7 0)] (mkH [⟨[.str z,w44 A,.i b2,.i B],4,false⟩,⟨(Y).flatMap e29,0,false⟩,⟨[.i J,.str K,.own 1 (Y).length 7,.bool N,.bool O,w9 Q,w9 S],7,false⟩,⟨[.i 0,.str [],.nils,.bool false,.bool false,.nils,.nils],0,false⟩]) (c7 b2 Y)):∀ (n:Nat) (o:Int) (x:Int) (j:List S28),Ok (Xi55 J K N O Q S z A a8 B b1) i55p4 [(0,.ptr 0 4 0),(3,.ptr 2 7 0),(4,.ptr 3 7 0),(5,.ptr 4 7 0),(10,w9 i55c0),(11,.i (i55c0.length:Int)),(12,.i o)] (mkH [⟨[.str z,w44 A,.i x,.i B],4,false⟩,⟨(j).flatMap e29,0,false⟩,⟨[.i J,.str K,.own 1 (j).length 7,.bool N,.bool O,w9 Q,w9 S],7,false⟩,⟨[.i 0,.str [],.nils,.bool false,.bool false,.nils,.nils],0,false⟩,⟨[.i a.1.f0,.str a.1.f1,q29 a.1.f2,.bool a.1.f3,.bool a.1.f4,w9 a.1.f5,w9 a.1.f6],7,false⟩]) (qMj k F c7 J K N O Q S z A a8 B b1 a n o x j):=by
 intro n
 induction n with
 | zero=>intro o x j; exact ok_none
 | succ n ih =>
  intro o x j
  show Ok _ _ _ _ (qHb k F c7 J K N O Q S z A a8 B b1 a (qMj k F c7 J K N O Q S z A a8 B b1 a n) o x j)
  unfold qHb
  refine qAd (p':=nav [0] i55p4) Kr ?_
  let E3:Env:=[(13,.bool (decide (o < (i55c0.length:Int)))),(0,.ptr 0 4 0),(3,.ptr 2 7 0),(4,.ptr 3 7 0),(5,.ptr 4 7 0),(10,w9 i55c0),(11,.i (i55c0.length:Int)),(12,.i o)]
  let Q1:Blk:=⟨[.str z,w44 A,.i x,.i B],4,false⟩
  let Q2:Blk:=⟨(j).flatMap e29,0,false⟩
  let Q3:Blk:=⟨[.i J,.str K,.own 1 (j).length 7,.bool N,.bool O,w9 Q,w9 S],7,false⟩
  let l:Blk:=⟨[.i 0,.str [],.nils,.bool false,.bool false,.nils,.nils],0,false⟩
  refine oH 5 i55p6 E3 (mkH [Q1,Q2,Q3,l,⟨e29 a.1,7,false⟩]) ?_
  refine oJ i55p8 (λ(g:Int×S28×(List S28))=>[(0,.ptr 0 4 0),(3,.ptr 2 7 0),(4,.ptr 3 7 0),(5,.ptr 4 7 0)]) (λ(g:Int×S28×(List S28))=>(mkH [⟨[.str z,w44 A,.i g.1,.i B],4,false⟩,⟨(g.2.2).flatMap e29,0,false⟩,⟨[.i J,.str K,.own 1 (g.2.2).length 7,.bool N,.bool O,w9 Q,w9 S],7,false⟩,l,⟨e29 g.2.1,7,false⟩])) (λg=>?_) (λf7 b5=>?_)
  ·let Q5:Blk:=⟨[.str z,w44 A,.i g.1,.i B],4,false⟩
   let Q7:Blk:=⟨[.i J,.str K,.own 1 (g.2.2).length 7,.bool N,.bool O,w9 Q,w9 S],7,false⟩
   let K1:List Blk:=[Q5,⟨(g.2.2).flatMap e29,0,false⟩,Q7,l,⟨e29 g.2.1,7,false⟩,⟨e29 g.2.1,0,false⟩]
   refine oH 5 (atN 4 (ctl1 i55p8)) [(29,.slice 5 7 0 1 7),(28,n29 g.2.1),(27,.own 1 (g.2.2).length 7),(26,.ptr 2 7 2),(0,.ptr 0 4 0),(3,.ptr 2 7 0),(4,.ptr 3 7 0),(5,.ptr 4 7 0)] (mkH K1) ?_
   refine oC (λ(q:List S28)=>(.own 1 (q).length 7,(mkH [Q5,⟨(q).flatMap e29,0,false⟩,Q7,l,⟨e29 g.2.1,7,false⟩,⟨e29 g.2.1,0,false⟩]))) (atN 5 (ctl1 i55p8)) 30 (appH (sz:=7) qA2 rfl qAh K1 1 104 g.2.2 ([g.2.1]:List S28) rfl rfl Kr) λq d0=>?_
   let Q8:Blk:=⟨(q).flatMap e29,0,false⟩
   let Q9:Blk:=⟨[.i J,.str K,.own 1 (q).length 7,.bool N,.bool O,w9 Q,w9 S],7,false⟩
   refine oLH 5 i55p10 [(0,.ptr 0 4 0),(3,.ptr 2 7 0),(4,.ptr 3 7 0)] (mkH [Q5,Q8,Q9,l,⟨e29 g.2.1,7,false⟩,⟨e29 g.2.1,0,false⟩]) ?_
   let E5:Env:=[(0,.ptr 0 4 0),(3,.ptr 2 7 0),(4,.ptr 3 7 0)]
   refine oR 2 (atN 1 (ctl1 i55p10)) ((32,.ptr 0 4 0)::E5) ?_
   refine oX (λ(m:(Bool×Int)) => .bool m.1) (λm=>[⟨[.str z,w44 A,.i m.2,.i B],4,false⟩,Q8,Q9,l,⟨e29 g.2.1,7,false⟩,⟨e29 g.2.1,0,false⟩]) (atN 2 (ctl1 i55p10)) 33 [0] [] [] [2] [0,1] [.ptr 0 4 0,.str [93]] (qAe k ([93]:LN) z A g.1 B) trivial (λ_=>trivial) ⟨u29 _,trivial⟩ λm d1=>?_
   refine oR 1 i55p12 ((33,.bool m.1)::(32,.ptr 0 4 0)::E5) ?_
   refine oS 33 (λhb=>?_) (λhb=>?_)
   ·let c3:Blk:=⟨[.str z,w44 A,.i m.2,.i B],4,false⟩
    refine oH 7 .fin ((34,.agg [.i J,.str K,.own 1 (q).length 7,.bool N,.bool O,w9 Q,w9 S])::(33,.bool true)::(33,.bool m.1)::(32,.ptr 0 4 0)::E5) (mkH [c3,Q8,Q9,Q9,⟨e29 g.2.1,7,false⟩,⟨e29 g.2.1,0,false⟩]) ?_
    exact qAx (r:=some (J,K,N,O,Q,S,m.2,q)) (xs:=[.agg [.i J,.str K,.own 1 (q).length 7,.bool N,.bool O,w9 Q,w9 S]]) [c3,Q8] [Q9,Q9,⟨e29 g.2.1,7,false⟩,⟨e29 g.2.1,0,false⟩] Kr Kr Kr Kr Kr ⟨Kr,⟨(qA _ (u29 _)),trivial⟩⟩ Kr Kr
   ·refine oR 4 (atN 1 (ctl1 i55p16)) ((35,.ptr 0 4 0)::(33,.bool false)::(33,.bool m.1)::(32,.ptr 0 4 0)::E5) ?_
    refine oX (λ(T:Int) => .tuple []) (λT=>[⟨[.str z,w44 A,.i T,.i B],4,false⟩,Q8,Q9,l,⟨e29 g.2.1,7,false⟩,⟨e29 g.2.1,0,false⟩]) (atN 2 (ctl1 i55p16)) 36 [0] [] [] [0,2] [0,1] [.ptr 0 4 0,.str [44]] (qB2 k ([44]:LN) z A m.2 B) trivial (λ_=>trivial) ⟨u29 _,trivial⟩ λT d2=>?_
    refine oL 1 i55p1 [(0,.ptr 0 4 0),(3,.ptr 2 7 0),(4,.ptr 3 7 0)] ?_
    refine qA8 [⟨[.str z,w44 A,.i T,.i B],4,false⟩,Q8,Q9,l] [⟨e29 g.2.1,7,false⟩,⟨e29 g.2.1,0,false⟩] Kr rfl Kr ⟨Kr,⟨(qA _ (u29 _)),⟨Kr,⟨Kr,trivial⟩⟩⟩⟩ ?_
    exact c8 T q
  ·refine oS 13 (λhb=>?_) (λhb=>?_)
   ·refine oH 6 (atN 0 (ctl1 i55p7)) ((13,.bool true)::E3) (mkH [Q1,Q2,Q3,l,⟨e29 a.1,7,false⟩]) ?_
    refine oC (λ(b:LN)=>(.vptr [.str b],(mkH [Q1,Q2,Q3,l,⟨e29 a.1,7,false⟩]))) (atN 1 (ctl1 i55p7)) 14 (vidxH (sz:=1) qBq Kr) λb d3=>?_
    let E8:Env:=((17,.str b)::(16,.ptr 0 4 0)::(7,.str b)::(15,.str b)::(14,.vptr [.str b])::(13,.bool true)::E3)
    refine oH 7 (atN 2 (ctl1 i55p9)) E8 (mkH [Q1,Q2,Q3,l,⟨e29 a.1,7,false⟩]) ?_
    refine oX (λ(u:(Bool×Int)) => .bool u.1) (λu=>[⟨[.str z,w44 A,.i u.2,.i B],4,false⟩,Q2,Q3,l,⟨e29 a.1,7,false⟩]) (atN 3 (ctl1 i55p9)) 18 [0] [] [] [2] [0,1] [.ptr 0 4 0,.str b] (qAe k b z A x B) trivial (λ_=>trivial) ⟨u29 _,trivial⟩ λu d4=>?_
    refine oR 1 i55p11 ((18,.bool u.1)::E8) ?_
    let C:Blk:=⟨[.str z,w44 A,.i u.2,.i B],4,false⟩
    refine oJ i55p13 (λ(z9:List S28)=>[(0,.ptr 0 4 0),(3,.ptr 2 7 0),(4,.ptr 3 7 0),(5,.ptr 4 7 0),(7,.str b)]) (λ(z9:List S28)=>(mkH [C,⟨(z9).flatMap e29,0,false⟩,⟨[.i J,.str K,.own 1 (z9).length 7,.bool N,.bool O,w9 Q,w9 S],7,false⟩,l,⟨e29 a.1,7,false⟩])) (λz9=>?_) (λj9 d5=>?_)
    ·refine qC9 (λh=>?_) (λc b7=>?_)
     ·let W:Env:=[(21,.ptr 0 4 0),(20,n29 a.1),(19,.str b),(0,.ptr 0 4 0),(3,.ptr 2 7 0),(4,.ptr 3 7 0),(5,.ptr 4 7 0),(7,.str b)]
      let U:Blk:=⟨(z9).flatMap e29,0,false⟩
      let V:Blk:=⟨[.i J,.str K,.own 1 (z9).length 7,.bool N,.bool O,w9 Q,w9 S],7,false⟩
      exact qAu (eE:=((24,.top)::(23,.top)::(22,.top)::W)) (i55d0.th 3 thrown [0,2] (mkH [C,U,V,l,⟨e29 a.1,7,false⟩])) (hs:=[(mkH [C,U,V,l,⟨e29 a.1,7,false⟩]),(mkH [C,U,V,l,⟨e29 a.1,7,false⟩])]) (LX:=[⟨[.str z,w44 A,.i a8,.i B],4,false⟩,⟨(b1).flatMap e29,0,false⟩]) (L:=[C,U,V,l,⟨e29 a.1,7,false⟩]) rfl rfl rfl Kr rfl ⟨.inl rfl,⟨.inl rfl,trivial⟩⟩ Kr Kr Kr Kr (qAc 3 (l':=(opsAt i55p13).toList.drop 3) (eE:=W) (H':=(mkH [C,U,V,l,⟨e29 a.1,7,false⟩])) (hs:=[]) Kr (qAt (l':=(opsAt i55p13).toList.drop 4) (eE:=((22,.top)::W)) (hs:=[(mkH [C,U,V,l,⟨e29 a.1,7,false⟩])]) (fi:=21) (args:=[.ptr 0 4 0,.i 3]) Kr Kr (frS 0 (M:=[C,U,V,l,⟨e29 a.1,7,false⟩]) (rs:=[0]) (ms:=[]) (mv:=[0,1]) (mm:=[0,1]) (D:=[0,2]) (xs':=[.ptr 0 4 0,.i 3]) (.refl) ((hF.i9_ok (3:Int) z A u.2 B).2 h) trivial ⟨u29 _,trivial⟩ Kr) Kr (qA4 (l':=(opsAt i55p13).toList.drop 5) (eE:=((23,.top)::(22,.top)::W)) (hs:=[]) Kr Kr (qA4 (l':=(opsAt i55p13).toList.drop 6) (eE:=((24,.top)::(23,.top)::(22,.top)::W)) (hs:=[]) Kr Kr (qA4 (l':=(opsAt i55p13).toList.drop 7) (eE:=((24,.top)::(23,.top)::(22,.top)::W)) (hs:=[(mkH [C,U,V,l,⟨e29 a.1,7,false⟩])]) Kr Kr (.nil)))))) Kr Kr
     ·let W:Env:=[(21,.ptr 0 4 0),(20,n29 a.1),(19,.str b),(0,.ptr 0 4 0),(3,.ptr 2 7 0),(4,.ptr 3 7 0),(5,.ptr 4 7 0),(7,.str b)]
      let E:Blk:=⟨[.str z,w44 A,.i c.2,.i B],4,false⟩
      let G:Blk:=⟨(z9).flatMap e29,0,false⟩
      let I:Blk:=⟨[.i J,.str K,.own 1 (z9).length 7,.bool N,.bool O,w9 Q,w9 S],7,false⟩
      let Z:Blk:=⟨[.i 14,.str b,w29 ([a.1,c.1]:List S28),.bool false,.bool false,.nils,.nils],7,false⟩
      refine oD (H':=(mkH [E,G,I,l,Z])) (nav [0] i55p13) ((24,.agg [.i 14,.str b,w29 ([a.1,c.1]:List S28),.bool false,.bool false,.nils,.nils])::(23,w29 ([a.1,c.1]:List S28))::(22,n29 c.1)::W) [(mkH [E,G,I,l,⟨e29 a.1,7,false⟩]),(mkH [E,G,I,l,Z])] i55d0 (oDr 3 3 W (qA6 (l':=(opsAt i55p13).toList.drop 4) (eE:=((22,n29 c.1)::W)) (hs:=[(mkH [E,G,I,l,⟨e29 a.1,7,false⟩])]) (H':=(mkH [E,G,I,l,⟨e29 a.1,7,false⟩])) (fi:=21) (args:=[.ptr 0 4 0,.i 3]) (v:=n29 c.1) Kr (frC (rs:=[0]) (ms:=[]) (ms':=[]) ((hF.i9_ok (3:Int) z A u.2 B).1 c b7) trivial trivial Kr) Kr (oDh 3 7 ((24,.agg [.i 14,.str b,w29 ([a.1,c.1]:List S28),.bool false,.bool false,.nils,.nils])::(23,w29 ([a.1,c.1]:List S28))::(22,n29 c.1)::W) (mkH [E,G,I,l,Z]) [(mkH [E,G,I,l,Z])] .nil))) ?_
      refine oR 2 i55p8 ((24,.agg [.i 14,.str b,w29 ([a.1,c.1]:List S28),.bool false,.bool false,.nils,.nils])::(23,w29 ([a.1,c.1]:List S28))::(22,n29 c.1)::W) ?_
      refine qAw [E,G,I,l,Z] 4 7 [.i 14,.str b,w29 ([a.1,c.1]:List S28),.bool false,.bool false,.nils,.nils] [.i 14,.str b,w29 ([a.1,c.1]:List S28),.bool false,.bool false,w9 ([]:LL),w9 ([]:LL)] Kr rfl (.cons (.cons (.cons (.cons (.cons (.nil (.nil (.refl)))))))) ?_
      refine oHp (mkH [E,G,I,l,⟨[.i 14,.str b,w29 ([a.1,c.1]:List S28),.bool false,.bool false,w9 ([]:LL),w9 ([]:LL)],7,false⟩]) ?_
      refine oK [0,3,4,5] [(0,.ptr 0 4 0),(3,.ptr 2 7 0),(4,.ptr 3 7 0),(5,.ptr 4 7 0)] ?_
      exact b5 (c.2,(⟨14,b,(⟨(([a.1,c.1]:List S28)).length,(([a.1,c.1]:List S28)).flatMap e29⟩:Raw),false,false,([]:LL),([]:LL)⟩:S28),z9)
    ·refine oS 18 (λhb=>?_) (λhb=>?_)
     ·refine oLH 2 i55p13 [(0,.ptr 0 4 0),(3,.ptr 2 7 0),(4,.ptr 3 7 0),(5,.ptr 4 7 0),(7,.str b)] (mkH [C,Q2,Q3,l,⟨e29 a.1,7,false⟩]) ?_
      exact d5 j
     ·refine oLH 6 i55p4 [(0,.ptr 0 4 0),(3,.ptr 2 7 0),(4,.ptr 3 7 0),(5,.ptr 4 7 0),(10,w9 i55c0),(11,.i (i55c0.length:Int)),(12,.i (fW .i64 (o+1)))] (mkH [C,Q2,Q3,l,⟨e29 a.1,7,false⟩]) ?_
      exact ih (fW .i64 (o+1)) u.2 j
   ·refine oH 3 i55p8 ((13,.bool false)::E3) (mkH [Q1,Q2,Q3,l,⟨e29 a.1,7,false⟩]) ?_
    refine oK [0,3,4,5] [(0,.ptr 0 4 0),(3,.ptr 2 7 0),(4,.ptr 3 7 0),(5,.ptr 4 7 0)] ?_
    exact b5 (x,a.1,j)
def qHc (k:Nat) (F:Fns0)  (l:Int) (m:LN) (n:Bool) (o:Bool) (q:LL) (r:LL) (g:LN) (h:List S43) (u:Int) (j:Int) (x:List S28) (ih:Int→(List S28)→Option (Option Ri55)):Int→(List S28)→Option (Option Ri55) :=
 λ(b:Int) (c:List S28)=>bT (F.i9 (3:Int) g h b j) λa=>qMj k F ih l m n o q r g h u j x a k 0 a.2 c
def qJj (k:Nat) (F:Fns0)  (a:Int) (b:LN) (c:Bool) (g:Bool) (h:LL) (j:LL) (l:LN) (m:List S43) (o:Int) (q:Int) (r:List S28) (n:Nat):Int→(List S28)→Option (Option Ri55):=lp (λ_ _=>none) (qHc k F a b c g h j l m o q r) n
theorem qMk (k:Nat) (F:Fns0) (G:FnsOk0 F) (l:Int) (m:LN) (o:Bool) (q:Bool) (r:LL) (u:LL) (g:LN) (h:List S43) (x:Int) (j:Int) (z:List S28)    : ∀ (n:Nat) (c:Int) (b:List S28),Ok (Xi55 l m o q r u g h x j z) i55p1 [(0,.ptr 0 4 0),(3,.ptr 2 7 0),(4,.ptr 3 7 0)] (mkH [⟨[.str g,w44 h,.i c,.i j],4,false⟩,⟨(b).flatMap e29,0,false⟩,⟨[.i l,.str m,.own 1 (b).length 7,.bool o,.bool q,w9 r,w9 u],7,false⟩,⟨[.i 0,.str [],.nils,.bool false,.bool false,.nils,.nils],0,false⟩]) (qJj k F l m o q r u g h x j z n c b):=by
 intro n
 induction n with
 | zero=>intro c b; exact ok_none
 | succ n ih =>
  intro c b
  show Ok _ _ _ _ (qHc k F l m o q r u g h x j z (qJj k F l m o q r u g h x j z n) c b)
  unfold qHc
  refine qAd (p':=nav [0] i55p1) Kr ?_
  let A:Blk:=⟨(b).flatMap e29,0,false⟩
  let B:Blk:=⟨[.i l,.str m,.own 1 (b).length 7,.bool o,.bool q,w9 r,w9 u],7,false⟩
  let C:Blk:=⟨[.i 0,.str [],.nils,.bool false,.bool false,.nils,.nils],0,false⟩
  refine oH 4 (atN 1 (ctl1 i55p2)) [(8,.ptr 0 4 0),(0,.ptr 0 4 0),(3,.ptr 2 7 0),(4,.ptr 3 7 0)] (mkH [⟨[.str g,w44 h,.i c,.i j],4,false⟩,A,B,C]) ?_
  refine oX (λ(a:(S28×Int))=>n29 a.1) (λa=>[⟨[.str g,w44 h,.i a.2,.i j],4,false⟩,A,B,C]) (atN 2 (ctl1 i55p2)) 9 [0] [] [] [0,2] [0,1] [.ptr 0 4 0,.i 3] (G.i9_ok (3:Int) g h c j) trivial (λ_=>trivial) ⟨u29 _,trivial⟩ λa D=>?_
  let E:Blk:=⟨[.str g,w44 h,.i a.2,.i j],4,false⟩
  refine oH 7 (atN 1 (ctl1 i55p3)) [(10,.slice 5 2 0 2 1),(5,.ptr 4 7 0),(9,n29 a.1),(8,.ptr 0 4 0),(0,.ptr 0 4 0),(3,.ptr 2 7 0),(4,.ptr 3 7 0)] (mkH [E,A,B,C,⟨e29 a.1,7,false⟩,⟨[.str [60,45],.str [60,61]],0,false⟩]) ?_
  refine oZ 10 5 2 1 [.str [60,45],.str [60,61]] [0,3,4,5,8,9] [0,1] ⟨u29 _,trivial⟩ ?_
  refine oLH 5 i55p4 [(0,.ptr 0 4 0),(3,.ptr 2 7 0),(4,.ptr 3 7 0),(5,.ptr 4 7 0),(10,w9 i55c0),(11,.i (i55c0.length:Int)),(12,.i 0)] (mkH [E,A,B,C,⟨e29 a.1,7,false⟩,⟨[],0,false⟩]) ?_
  refine qA8 [E,A,B,C,⟨e29 a.1,7,false⟩] [⟨[],0,false⟩] Kr rfl Kr ⟨Kr,⟨(qA _ (u29 _)),⟨Kr,⟨Kr,⟨Kr,trivial⟩⟩⟩⟩⟩ ?_
  exact (qMi k F G l m o q r u g h x j z (qJj k F l m o q r u g h x j z n) a ih k) 0 a.2 b
def i55B (k:Nat) (F:Fns0) (c:Int) (g:LN) (h:Bool) (j:Bool) (l:LL) (m:LL) (n:LN) (o:List S43) (a:Int) (q:Int) (b:List S28):Option (Option Ri55) :=
 qJj k F c g h j l m n o a q b k a b
theorem qJk (k:Nat) (F:Fns0) (C:FnsOk0 F):∀ b c g j l m o q n u a r,i55B k F b c g j l m o q n u a=some r→CallT Tryz.prog 132 [.ptr 0 4 0,.agg [.i b,.str c,.own 1 (a).length 7,.bool g,.bool j,w9 l,w9 m]] (mkH [⟨[.str o,w44 q,.i n,.i u],4,false⟩,⟨(a).flatMap e29,0,false⟩]) ((Xi55 b c g j l m o q n u a).thr r) ((Xi55 b c g j l m o q n u a).enc r) ((Xi55 b c g j l m o q n u a).fin r):=by
 intro b c g j l m o q n u a r h
 refine qA0 (Xi55 b c g j l m o q n u a) Tryz.func132 Kr Kr rfl (t:=i55B k F b c g j l m o q n u a) ?_ h
 unfold i55B
 refine qA1 (eE:=[(0,.ptr 0 4 0),(1,.agg [.i b,.str c,.own 1 (a).length 7,.bool g,.bool j,w9 l,w9 m])]) Kr ?_
 let x:Blk:=⟨[.str o,w44 q,.i n,.i u],4,false⟩
 let z:Blk:=⟨(a).flatMap e29,0,false⟩
 let B:Blk:=⟨[.i b,.str c,.own 1 (a).length 7,.bool g,.bool j,w9 l,w9 m],0,false⟩
 let A:Blk:=⟨[.i 0,.str [],.nils,.bool false,.bool false,.nils,.nils],0,false⟩
 refine oLH 7 i55p1 [(0,.ptr 0 4 0),(3,.ptr 2 7 0),(4,.ptr 3 7 0)] (mkH [x,z,B,A]) ?_
 refine qGw [x,z,B,A] 2 [.i b,.str c,.own 1 (a).length 7,.bool g,.bool j,w9 l,w9 m] 0 7 rfl rfl (by decide) ?_
 refine oHp (mkH [x,z,⟨[.i b,.str c,.own 1 (a).length 7,.bool g,.bool j,w9 l,w9 m],7,false⟩,A]) ?_
 exact (qMk k F C b c g j l m o q n u a k) n a
theorem i55B_ok (k:Nat) (F:Fns0) (a:FnsOk0 F):Pi55 (i55B k F):=λb c g j l m n o q r u=>⟨λx h=>qJk k F a b c g j l m n o q r u (some x) h,λh=>⟨_,qJk k F a b c g j l m n o q r u none h⟩⟩
def i56p2:Pt:=nav [0,0,0,0] (nav [0,0,0] (nav [0] (bodyAt Tryz.f104)))
def i56p3:Pt:=nav [0,0,0,0] i56p2
def i56p4:Pt:=nav [0,0] i56p3
def i56p5:Pt:=nav [1,0] i56p4
def i56p6:Pt:=nav [2,0] i56p4
def i56p7:Pt:=nav [0,0] i56p5
def i56p8:Pt:=nav [0,0] i56p6
def i56p9:Pt:=nav [0,0,0] i56p7
def i56p10:Pt:=nav [1] i56p8
def i56p11:Pt:=nav [2,0] i56p8
def i56p12:Pt:=nav [0,0,0,0] i56p9
def i56p13:Pt:=nav [0,0] i56p11
def i56p14:Pt:=nav [0,0] i56p12
def i56p15:Pt:=nav [1] i56p14
def i56p16:Pt:=nav [2,0,0,0] i56p14
def i56p17:Pt:=nav [0,0] i56p16
def i56p18:Pt:=nav [1,0] i56p17
def i56p19:Pt:=nav [2,0,0,0] i56p17
def i56p20:Pt:=nav [0,0,0,0] i56p18
def i56p21:Pt:=nav [0,0] i56p19
def i56p22:Pt:=nav [0,0,0] i56p20
def i56p25:Pt:=nav [0,0] i56p22
def i56p27:Pt:=nav [1,0,0] i56p25
def qFa (k:Nat) (F:Fns0) (l:LN×Int→Option (Option (S28×Int))) (m:LN) (n:List S43) (o:Int) (q:Int×S28) (ih:LN→Int→Option (Option (S28×Int))):LN→Int→Option (Option (S28×Int)) :=
 λ(b:LN) (g:Int)=>bT (i13 k ([45]:LN) m n g o) λa=>if a.1 then ((catS b ([45]:LN)).bind λh=>bT (i58 k ([(1:Int)]:List Int) m n a.2 o) λc=>(catS h c.1).bind λj=>ih j c.2) else (l (b,a.2))
def qHa (k:Nat) (F:Fns0) (a:LN×Int→Option (Option (S28×Int))) (c:LN) (g:List S43) (h:Int) (b:Int×S28) (n:Nat):LN→Int→Option (Option (S28×Int)):=lp (λ_ _=>none) (qFa k F a c g h b) n
theorem qKr (k:Nat) (F:Fns0) (L:FnsOk0 F) (o:LN) (q:List S43) (J:Int) (r:Int) (u:LN×Int→Option (Option (S28×Int))) (a:Int×S28) (z:∀ m:LN×Int,Ok (Xi56 o q J r) i56p19 ((λ(m:LN×Int)=>[(2,.ptr 1 7 0),(3,.ptr 2 7 0),(5,.str m.1)]) m) ((λ(m:LN×Int)=>(mkH [⟨[.str o,w44 q,.i m.2,.i r],4,false⟩,⟨[.i 0,.str [],.nils,.bool false,.bool false,.nils,.nils],0,false⟩,⟨[.i a.2.f0,.str a.2.f1,q29 a.2.f2,.bool a.2.f3,.bool a.2.f4,w9 a.2.f5,w9 a.2.f6],7,false⟩])) m) (u m)):∀ (n:Nat) (b:LN) (g:Int),Ok (Xi56 o q J r) i56p20 [(0,.ptr 0 4 0),(2,.ptr 1 7 0),(3,.ptr 2 7 0),(5,.str b)] (mkH [⟨[.str o,w44 q,.i g,.i r],4,false⟩,⟨[.i 0,.str [],.nils,.bool false,.bool false,.nils,.nils],0,false⟩,⟨[.i a.2.f0,.str a.2.f1,q29 a.2.f2,.bool a.2.f3,.bool a.2.f4,w9 a.2.f5,w9 a.2.f6],7,false⟩]) (qHa k F u o q r a n b g):=by
 intro n
 induction n with
 | zero=>intro b g; exact ok_none
 | succ n ih =>
  intro b g
  show Ok _ _ _ _ (qFa k F u o q r a (qHa k F u o q r a n) b g)
  unfold qFa
  refine qAd (p':=nav [0] i56p20) Kr ?_
  let A:Env:=[(42,.ptr 0 4 0),(0,.ptr 0 4 0),(2,.ptr 1 7 0),(3,.ptr 2 7 0),(5,.str b)]
  let x:Blk:=⟨[.i 0,.str [],.nils,.bool false,.bool false,.nils,.nils],0,false⟩
  refine oH 4 (atN 1 (ctl1 i56p22)) A (mkH [⟨[.str o,w44 q,.i g,.i r],4,false⟩,x,⟨e29 a.2,7,false⟩]) ?_
  refine oX (λ(c:(Bool×Int)) => .bool c.1) (λc=>[⟨[.str o,w44 q,.i c.2,.i r],4,false⟩,x,⟨e29 a.2,7,false⟩]) (atN 2 (ctl1 i56p22)) 43 [0] [] [] [] [] [.ptr 0 4 0,.str [45]] (qAe k ([45]:LN) o q g r) trivial (λ_=>trivial) trivial λc B=>?_
  refine oR 1 i56p25 ((43,.bool c.1)::A) ?_
  refine oS 43 (λK=>?_) (λK=>?_)
  ·refine oR 5 (atN 1 (ctl1 i56p27)) ((44,.str b)::(43,.bool true)::(43,.bool c.1)::A) ?_
   let G:Blk:=⟨[.str o,w44 q,.i c.2,.i r],4,false⟩
   refine oC (λ(j:LN)=>(.str j,(mkH [G,x,⟨e29 a.2,7,false⟩]))) (atN 2 (ctl1 i56p27)) 45 (catH Kr) λj C=>?_
   refine oH 2 (atN 4 (ctl1 i56p27)) ((47,.slice 3 1 0 1 1)::(46,.ptr 0 4 0)::(45,.str j)::(44,.str b)::(43,.bool true)::(43,.bool c.1)::A) (mkH [G,x,⟨e29 a.2,7,false⟩,⟨[.i 1],0,false⟩]) ?_
   refine oZ 47 3 1 1 [.i 1] [0,2,3,5,42,43,44,45,46] [] trivial ?_
   refine oE [(47,w3 ([(1:Int)]:List Int)),(0,.ptr 0 4 0),(2,.ptr 1 7 0),(3,.ptr 2 7 0),(5,.str b),(42,.ptr 0 4 0),(43,.bool true),(44,.str b),(45,.str j),(46,.ptr 0 4 0)] ?_
   refine oHp (mkH [G,x,⟨e29 a.2,7,false⟩,⟨[],0,false⟩]) ?_
   refine oX (λ(h:Ri58) => .str h.1) (λh=>[⟨[.str o,w44 q,.i h.2,.i r],4,false⟩,x,⟨e29 a.2,7,false⟩,⟨[],0,false⟩]) (atN 5 (ctl1 i56p27)) 48 [0] [] [] [] [] [.ptr 0 4 0,w3 ([(1:Int)]:List Int)] (qEg k ([(1:Int)]:List Int) o q c.2 r) trivial (λ_=>trivial) trivial λh D=>?_
   let I:Blk:=⟨[.str o,w44 q,.i h.2,.i r],4,false⟩
   refine oC (λ(l:LN)=>(.str l,(mkH [I,x,⟨e29 a.2,7,false⟩,⟨[],0,false⟩]))) (atN 6 (ctl1 i56p27)) 49 (catH Kr) λl E=>?_
   refine oLH 2 i56p20 [(0,.ptr 0 4 0),(2,.ptr 1 7 0),(3,.ptr 2 7 0),(5,.str l)] (mkH [I,x,⟨e29 a.2,7,false⟩,⟨[],0,false⟩]) ?_
   refine qA8 [I,x,⟨e29 a.2,7,false⟩] [⟨[],0,false⟩] Kr rfl Kr ⟨Kr,⟨Kr,⟨Kr,trivial⟩⟩⟩ ?_
   exact ih l h.2
  ·refine oL 4 i56p19 [(2,.ptr 1 7 0),(3,.ptr 2 7 0),(5,.str b)] ?_
   exact z (b,c.2)
def i56B (k:Nat) (F:Fns0) (b:LN) (c:List S43) (K:Int) (g:Int):Option (Option (S28×Int)) :=
 (i15 k b c K g).bind λq=>(g99 k q.f0).bind λC=>jn (λ(h:Int×S28)=>bT (i13 k ([58]:LN) b c h.1 g) λj=>jn (λ(x:LN×Int)=>bT (i13 k ([47]:LN) b c x.2 g) λl=>jn (λ(o:LN×Int)=>if (eqL o.1 []) then (some (some (h.2,o.2))) else (some (some ((⟨(7:Int),o.1,⟨(([h.2]:List S28)).length,(([h.2]:List S28)).flatMap e29⟩,false,false,([]:LL),([]:LL)⟩:S28),o.2)))) (λD=>if l.1 then ((catS x.1 ([47]:LN)).bind λz=>bT (i58 k ([(1:Int)]:List Int) b c l.2 g) λm=>(catS z m.1).bind λA=>qHa k F D b c g h k A m.2) else (D (x.1,l.2)))) (λE=>if j.1 then (bT (i77 k b c j.2 g) λr=>(catS ([58]:LN) r.1).bind λG=>E (G,r.2)) else (E (([]:LN),j.2)))) (λB=>if C then (bT (i17 k b c K g) λI=>B (I,(⟨1,q.f1,(⟨(([]:List S28)).length,(([]:List S28)).flatMap e29⟩:Raw),false,false,([]:LL),([]:LL)⟩:S28))) else (bT (i13 k ([40]:LN) b c K g) λn=>if n.1 then (bT (F.i35 b c n.2 g) λu=>B (u.2,u.1)) else (bT (i41 k ([60,60]:LN) b c n.2 g) λJ=>bT (F.i38 (6:Int) ([]:LN) false false ([]:LL) ([]:LL) ([62,62]:LN) b c J g ([]:List S28)) λa=>B (a.2.2.2.2.2.2.1,(⟨a.1,a.2.1,(⟨(a.2.2.2.2.2.2.2).length,(a.2.2.2.2.2.2.2).flatMap e29⟩:Raw),a.2.2.1,a.2.2.2.1,a.2.2.2.2.1,a.2.2.2.2.2.1⟩:S28)))))
theorem qJi (k:Nat) (F:Fns0) (hF:FnsOk0 F):∀ j l K m r,i56B k F j l K m=some r→CallT Tryz.prog 104 [.ptr 0 4 0] (mkH [⟨[.str j,w44 l,.i K,.i m],4,false⟩]) ((Xi56 j l K m).thr r) ((Xi56 j l K m).enc r) ((Xi56 j l K m).fin r):=by
 intro j l K m r h
 refine qA0 (Xi56 j l K m) Tryz.func104 Kr Kr rfl (t:=i56B k F j l K m) ?_ h
 unfold i56B
 refine qA1 (eE:=[(0,.ptr 0 4 0)]) Kr ?_
 let T:Blk:=⟨[.str j,w44 l,.i K,.i m],4,false⟩
 let g:Blk:=⟨[.i 0,.str [],.nils,.bool false,.bool false,.nils,.nils],0,false⟩
 refine oH 12 (atN 1 (ctl1 i56p2)) [(6,.ptr 0 4 0),(3,.ptr 2 7 0),(2,.ptr 1 7 0),(0,.ptr 0 4 0)] (mkH [T,g,g]) ?_
 refine oN (λ(b:S43)=>n44 b) (λb=>[T,g,g]) (atN 2 (ctl1 i56p2)) 7 [0] [] [] [.ptr 0 4 0] (qEi k j l K m) trivial (λ_=>trivial) λb b4=>?_
 let E1:Env:=[(17,.i b.f0),(16,.ptr 3 3 0),(4,.ptr 3 3 0),(7,n44 b),(6,.ptr 0 4 0),(3,.ptr 2 7 0),(2,.ptr 1 7 0),(0,.ptr 0 4 0)]
 refine oH 8 (atN 2 (ctl1 i56p3)) E1 (mkH [T,g,g,⟨e44 b,3,false⟩]) ?_
 refine oA (λ(z:Bool) => .bool z) (atN 3 (ctl1 i56p3)) 18 [.i b.f0] (g99_ok k b.f0) λz b5=>?_
 refine oR 2 i56p4 ((15,.bool z)::(18,.bool z)::E1) ?_
 refine oJ i56p9 (λ(c:Int×S28)=>[(0,.ptr 0 4 0),(2,.ptr 1 7 0),(3,.ptr 2 7 0)]) (λ(c:Int×S28)=>(mkH [⟨[.str j,w44 l,.i c.1,.i m],4,false⟩,g,⟨e29 c.2,7,false⟩])) (λc=>?_) (λd2 L=>?_)
 ·let E2:Env:=[(29,.ptr 0 4 0),(5,.str []),(0,.ptr 0 4 0),(2,.ptr 1 7 0),(3,.ptr 2 7 0)]
  refine oH 7 (atN 1 (ctl1 i56p12)) E2 (mkH [⟨[.str j,w44 l,.i c.1,.i m],4,false⟩,g,⟨e29 c.2,7,false⟩]) ?_
  refine oX (λ(o:(Bool×Int)) => .bool o.1) (λo=>[⟨[.str j,w44 l,.i o.2,.i m],4,false⟩,g,⟨e29 c.2,7,false⟩]) (atN 2 (ctl1 i56p12)) 30 [0] [] [] [] [] [.ptr 0 4 0,.str [58]] (qAe k ([58]:LN) j l c.1 m) trivial (λ_=>trivial) trivial λo b7=>?_
  refine oR 1 i56p14 ((30,.bool o.1)::E2) ?_
  refine oJ i56p16 (λ(u:LN×Int)=>[(0,.ptr 0 4 0),(2,.ptr 1 7 0),(3,.ptr 2 7 0),(5,.str u.1)]) (λ(u:LN×Int)=>(mkH [⟨[.str j,w44 l,.i u.2,.i m],4,false⟩,g,⟨e29 c.2,7,false⟩])) (λu=>?_) (λd3 Q=>?_)
  ·let E3:Env:=[(34,.ptr 0 4 0),(0,.ptr 0 4 0),(2,.ptr 1 7 0),(3,.ptr 2 7 0),(5,.str u.1)]
   refine oH 2 (atN 1 (ctl1 i56p16)) E3 (mkH [⟨[.str j,w44 l,.i u.2,.i m],4,false⟩,g,⟨e29 c.2,7,false⟩]) ?_
   refine oX (λ(n:(Bool×Int)) => .bool n.1) (λn=>[⟨[.str j,w44 l,.i n.2,.i m],4,false⟩,g,⟨e29 c.2,7,false⟩]) (atN 2 (ctl1 i56p16)) 35 [0] [] [] [] [] [.ptr 0 4 0,.str [47]] (qAe k ([47]:LN) j l u.2 m) trivial (λ_=>trivial) trivial λn b8=>?_
   refine oR 1 i56p17 ((35,.bool n.1)::E3) ?_
   refine oJ i56p19 (λ(A:LN×Int)=>[(2,.ptr 1 7 0),(3,.ptr 2 7 0),(5,.str A.1)]) (λ(A:LN×Int)=>(mkH [⟨[.str j,w44 l,.i A.2,.i m],4,false⟩,g,⟨e29 c.2,7,false⟩])) (λA=>?_) (λb9 S=>?_)
   ·let E4:Env:=[(51,.bool (eqL A.1 [])),(50,.str A.1),(2,.ptr 1 7 0),(3,.ptr 2 7 0),(5,.str A.1)]
    let Q3:Blk:=⟨[.str j,w44 l,.i A.2,.i m],4,false⟩
    refine oH 4 i56p21 E4 (mkH [Q3,g,⟨e29 c.2,7,false⟩]) ?_
    refine oS 51 (λM=>?_) (λM=>?_)
    ·exact oQF 7 [Q3,⟨e29 c.2,7,false⟩,⟨e29 c.2,7,false⟩] 1 [] [n29 c.2] (n29 c.2) .ps trivial
    ·refine oH 7 (atN 3 (ctl1 (nav [2,0,0] i56p21))) ((55,.slice 3 7 0 1 7)::(54,n29 c.2)::(53,.str A.1)::(51,.bool false)::E4) (mkH [Q3,g,⟨e29 c.2,7,false⟩,⟨e29 c.2,0,false⟩]) ?_
     refine oZ 55 3 1 7 [.i c.2.f0,.str c.2.f1,q29 c.2.f2,.bool c.2.f3,.bool c.2.f4,w9 c.2.f5,w9 c.2.f6] [2,3,5,50,51,53,54] [] trivial ?_
     exact oQF 4 [Q3,⟨[.i 7,.str A.1,w29 ([c.2]:List S28),.bool false,.bool false,.nils,.nils],7,false⟩,⟨e29 c.2,7,false⟩,⟨[],0,false⟩] 1 [] [.agg [.i 7,.str A.1,w29 ([c.2]:List S28),.bool false,.bool false,.nils,.nils]] (.agg [.i 7,.str A.1,w29 ([c.2]:List S28),.bool false,.bool false,.vec 0 1 [],.vec 0 1 []]) (.agg (.cs (.cs (.cs (.cs (.cs (.nil (.nil .ps))))))) .ps) trivial
   ·refine oS 35 (λM=>?_) (λM=>?_)
    ·let Q4:Blk:=⟨[.str j,w44 l,.i n.2,.i m],4,false⟩
     refine oH 4 (atN 1 (ctl1 i56p18)) ((36,.str u.1)::(35,.bool true)::(35,.bool n.1)::E3) (mkH [Q4,g,⟨e29 c.2,7,false⟩]) ?_
     refine oC (λ(D:LN)=>(.str D,(mkH [Q4,g,⟨e29 c.2,7,false⟩]))) (atN 2 (ctl1 i56p18)) 37 (catH Kr) λD a9=>?_
     refine oH 2 (atN 4 (ctl1 i56p18)) ((39,.slice 3 1 0 1 1)::(38,.ptr 0 4 0)::(37,.str D)::(36,.str u.1)::(35,.bool true)::(35,.bool n.1)::E3) (mkH [Q4,g,⟨e29 c.2,7,false⟩,⟨[.i 1],0,false⟩]) ?_
     refine oZ 39 3 1 1 [.i 1] [0,2,3,5,34,35,36,37,38] [] trivial ?_
     refine oE [(39,w3 ([(1:Int)]:List Int)),(0,.ptr 0 4 0),(2,.ptr 1 7 0),(3,.ptr 2 7 0),(5,.str u.1),(34,.ptr 0 4 0),(35,.bool true),(36,.str u.1),(37,.str D),(38,.ptr 0 4 0)] ?_
     refine oHp (mkH [Q4,g,⟨e29 c.2,7,false⟩,⟨[],0,false⟩]) ?_
     refine oX (λ(x:Ri58) => .str x.1) (λx=>[⟨[.str j,w44 l,.i x.2,.i m],4,false⟩,g,⟨e29 c.2,7,false⟩,⟨[],0,false⟩]) (atN 5 (ctl1 i56p18)) 40 [0] [] [] [] [] [.ptr 0 4 0,w3 ([(1:Int)]:List Int)] (qEg k ([(1:Int)]:List Int) j l n.2 m) trivial (λ_=>trivial) trivial λx b0=>?_
     let Q5:Blk:=⟨[.str j,w44 l,.i x.2,.i m],4,false⟩
     refine oC (λ(E:LN)=>(.str E,(mkH [Q5,g,⟨e29 c.2,7,false⟩,⟨[],0,false⟩]))) (atN 6 (ctl1 i56p18)) 41 (catH Kr) λE b1=>?_
     refine oLH 4 i56p20 [(0,.ptr 0 4 0),(2,.ptr 1 7 0),(3,.ptr 2 7 0),(5,.str E)] (mkH [Q5,g,⟨e29 c.2,7,false⟩,⟨[],0,false⟩]) ?_
     refine qA8 [Q5,g,⟨e29 c.2,7,false⟩] [⟨[],0,false⟩] Kr rfl Kr ⟨Kr,⟨Kr,⟨Kr,trivial⟩⟩⟩ ?_
     exact (qKr k F hF j l K m b9 c S k) E x.2
    ·refine oLH 4 i56p19 [(2,.ptr 1 7 0),(3,.ptr 2 7 0),(5,.str u.1)] (mkH [⟨[.str j,w44 l,.i n.2,.i m],4,false⟩,g,⟨e29 c.2,7,false⟩]) ?_
     exact S (u.1,n.2)
  ·refine oS 30 (λM=>?_) (λM=>?_)
   ·refine oH 3 (atN 1 (ctl1 i56p15)) ((31,.ptr 0 4 0)::(30,.bool true)::(30,.bool o.1)::E2) (mkH [⟨[.str j,w44 l,.i o.2,.i m],4,false⟩,g,⟨e29 c.2,7,false⟩]) ?_
    refine oX (λ(C:Ri77) => .str C.1) (λC=>[⟨[.str j,w44 l,.i C.2,.i m],4,false⟩,g,⟨e29 c.2,7,false⟩]) (atN 2 (ctl1 i56p15)) 32 [0] [] [] [] [] [.ptr 0 4 0] (i77_ok k j l o.2 m) trivial (λ_=>trivial) trivial λC c1=>?_
    let Q6:Blk:=⟨[.str j,w44 l,.i C.2,.i m],4,false⟩
    refine oC (λ(J:LN)=>(.str J,(mkH [Q6,g,⟨e29 c.2,7,false⟩]))) (atN 3 (ctl1 i56p15)) 33 (catH Kr) λJ c2=>?_
    refine oLH 4 i56p16 [(0,.ptr 0 4 0),(2,.ptr 1 7 0),(3,.ptr 2 7 0),(5,.str J)] (mkH [Q6,g,⟨e29 c.2,7,false⟩]) ?_
    exact Q (J,C.2)
   ·refine oLH 4 i56p16 [(0,.ptr 0 4 0),(2,.ptr 1 7 0),(3,.ptr 2 7 0),(5,.str [])] (mkH [⟨[.str j,w44 l,.i o.2,.i m],4,false⟩,g,⟨e29 c.2,7,false⟩]) ?_
    exact Q (([]:LN),o.2)
 ·refine oS 15 (λM=>?_) (λM=>?_)
  ·refine oH 4 (atN 1 (ctl1 i56p5)) ((19,.ptr 0 4 0)::(15,.bool true)::(15,.bool z)::(18,.bool z)::E1) (mkH [T,g,g,⟨e44 b,3,false⟩]) ?_
   refine oX (λ(G:Int) => .tuple []) (λG=>[⟨[.str j,w44 l,.i G,.i m],4,false⟩,g,g,⟨e44 b,3,false⟩]) (atN 2 (ctl1 i56p5)) 20 [0] [] [] [] [] [.ptr 0 4 0] (qEh k j l K m) trivial (λ_=>trivial) trivial λG c3=>?_
   let U:Env:=[(0,.ptr 0 4 0),(2,.ptr 1 7 0),(3,.ptr 2 7 0),(4,.ptr 3 3 0)]
   refine oL 1 i56p7 U ?_
   let Q7:Blk:=⟨[.str j,w44 l,.i G,.i m],4,false⟩
   let Q8:Blk:=⟨[.i 1,.str b.f1,.nils,.bool false,.bool false,.nils,.nils],7,false⟩
   refine oH 7 i56p9 ((23,.agg [.i 1,.str b.f1,.nils,.bool false,.bool false,.nils,.nils])::(22,.str b.f1)::(21,.ptr 3 3 1)::U) (mkH [Q7,g,Q8,⟨e44 b,3,false⟩]) ?_
   refine qAw [Q7,g,Q8,⟨e44 b,3,false⟩] 2 7 [.i 1,.str b.f1,.nils,.bool false,.bool false,.nils,.nils] [.i 1,.str b.f1,w29 ([]:List S28),.bool false,.bool false,w9 ([]:LL),w9 ([]:LL)] Kr rfl (.cons (.cons (.nil (.cons (.cons (.nil (.nil (.refl)))))))) ?_
   let Q9:Blk:=⟨[.i 1,.str b.f1,w29 ([]:List S28),.bool false,.bool false,w9 ([]:LL),w9 ([]:LL)],7,false⟩
   refine oHp (mkH [Q7,g,Q9,⟨e44 b,3,false⟩]) ?_
   refine oK [0,2,3] [(0,.ptr 0 4 0),(2,.ptr 1 7 0),(3,.ptr 2 7 0)] ?_
   refine qA8 [Q7,g,Q9] [⟨e44 b,3,false⟩] Kr rfl Kr ⟨Kr,⟨Kr,⟨Kr,trivial⟩⟩⟩ ?_
   exact L (G,(⟨1,b.f1,(⟨(([]:List S28)).length,(([]:List S28)).flatMap e29⟩:Raw),false,false,([]:LL),([]:LL)⟩:S28))
  ·refine oH 4 (atN 1 (ctl1 i56p6)) ((25,.ptr 0 4 0)::(15,.bool false)::(15,.bool z)::(18,.bool z)::E1) (mkH [T,g,g,⟨e44 b,3,false⟩]) ?_
   refine oX (λ(B:(Bool×Int)) => .bool B.1) (λB=>[⟨[.str j,w44 l,.i B.2,.i m],4,false⟩,g,g,⟨e44 b,3,false⟩]) (atN 2 (ctl1 i56p6)) 26 [0] [] [] [] [] [.ptr 0 4 0,.str [40]] (qAe k ([40]:LN) j l K m) trivial (λ_=>trivial) trivial λB c4=>?_
   let N:Env:=[(0,.ptr 0 4 0),(2,.ptr 1 7 0),(3,.ptr 2 7 0),(24,.bool B.1)]
   refine oL 2 i56p8 N ?_
   refine oS 24 (λM=>?_) (λM=>?_)
   ·refine oR 3 (atN 1 (ctl1 i56p10)) ((27,.ptr 0 4 0)::(24,.bool true)::N) ?_
    refine oX (λ(q:(S28×Int))=>n29 q.1) (λq=>[⟨[.str j,w44 l,.i q.2,.i m],4,false⟩,g,g,⟨e44 b,3,false⟩]) (atN 2 (ctl1 i56p10)) 28 [0] [] [] [0] [] [.ptr 0 4 0] (hF.i35_ok j l B.2 m) trivial (λ_=>trivial) trivial λq c5=>?_
    let V:Blk:=⟨[.str j,w44 l,.i q.2,.i m],4,false⟩
    refine oLH 3 i56p9 [(0,.ptr 0 4 0),(2,.ptr 1 7 0),(3,.ptr 2 7 0)] (mkH [V,g,⟨e29 q.1,7,false⟩,⟨e44 b,3,false⟩]) ?_
    refine qA8 [V,g,⟨e29 q.1,7,false⟩] [⟨e44 b,3,false⟩] Kr rfl Kr ⟨Kr,⟨Kr,⟨Kr,trivial⟩⟩⟩ ?_
    exact L (q.2,q.1)
   ·refine oR 4 (atN 1 (ctl1 i56p11)) ((8,.ptr 0 4 0)::(24,.bool false)::N) ?_
    refine oX (λ(I:Int) => .tuple []) (λI=>[⟨[.str j,w44 l,.i I,.i m],4,false⟩,g,g,⟨e44 b,3,false⟩]) (atN 2 (ctl1 i56p11)) 9 [0] [] [] [0] [] [.ptr 0 4 0,.str [60,60]] (qB2 k ([60,60]:LN) j l B.2 m) trivial (λ_=>trivial) trivial λI c6=>?_
    let W:Env:=((13,.func 104 [.ptr 0 4 0] [])::(12,.ptr 0 4 0)::(11,.agg [.i 6,.str [],.nils,.bool false,.bool false,.nils,.nils])::(10,.ptr 0 4 0)::(9,.tuple [])::(8,.ptr 0 4 0)::(24,.bool false)::N)
    refine oR 6 (atN 4 (ctl1 i56p13)) W ?_
    refine oXW 1 [⟨[.str j,w44 l,.i I,.i m],4,false⟩,g,g,⟨e44 b,3,false⟩,⟨(([]:List S28)).flatMap e29,0,false⟩] (λ(a:Ri38) => .agg [.i a.1,.str a.2.1,.own 4 (a.2.2.2.2.2.2.2).length 7,.bool a.2.2.1,.bool a.2.2.2.1,w9 a.2.2.2.2.1,w9 a.2.2.2.2.2.1]) (λa=>[⟨[.str j,w44 l,.i a.2.2.2.2.2.2.1,.i m],4,false⟩,g,g,⟨e44 b,3,false⟩,⟨(a.2.2.2.2.2.2.2).flatMap e29,0,false⟩]) (atN 5 (ctl1 i56p13)) 14 [0,4] [0,1] [0,1] [0,4] [] [0,0,0,0,1] [.ptr 0 4 0,.agg [.i 6,.str [],.nils,.bool false,.bool false,.nils,.nils],.str [62,62],.func 104 [.ptr 0 4 0] []] [.ptr 0 4 0,.agg [.i 6,.str [],.own 4 (([]:List S28)).length 7,.bool false,.bool false,w9 ([]:LL),w9 ([]:LL)],.str [62,62],.func 104 [.ptr 0 4 0] []] (.cons (.agg (.cons (.cons (.none (.cons (.cons (.nil (.nil (.refl)))))))) (.refl))) (hF.i38_ok (6:Int) ([]:LN) false false ([]:LL) ([]:LL) ([62,62]:LN) j l I m ([]:List S28)) ⟨u29 _,trivial⟩ (λ_=>⟨u29 _,trivial⟩) trivial λa c7=>?_
    let O:Blk:=⟨[.str j,w44 l,.i a.2.2.2.2.2.2.1,.i m],4,false⟩
    let Y:Blk:=⟨[.i a.1,.str a.2.1,.own 4 (a.2.2.2.2.2.2.2).length 7,.bool a.2.2.1,.bool a.2.2.2.1,w9 a.2.2.2.2.1,w9 a.2.2.2.2.2.1],7,false⟩
    let Z:Blk:=⟨(a.2.2.2.2.2.2.2).flatMap e29,0,false⟩
    refine oH 3 i56p9 ((14,.agg [.i a.1,.str a.2.1,.own 4 (a.2.2.2.2.2.2.2).length 7,.bool a.2.2.1,.bool a.2.2.2.1,w9 a.2.2.2.2.1,w9 a.2.2.2.2.2.1])::W) (mkH [O,g,Y,⟨e44 b,3,false⟩,Z]) ?_
    let a4:Blk:=⟨[.i a.1,.str a.2.1,w29 a.2.2.2.2.2.2.2,.bool a.2.2.1,.bool a.2.2.2.1,w9 a.2.2.2.2.1,w9 a.2.2.2.2.2.1],7,false⟩
    refine qB1 [O,g,Y,⟨e44 b,3,false⟩,Z] [O,g,a4,⟨e44 b,3,false⟩,⟨[],0,false⟩] 4 (a.2.2.2.2.2.2.2).length 7 0 ((a.2.2.2.2.2.2.2).flatMap e29) [0,2,3] (env0:=[(0,.ptr 0 4 0),(2,.ptr 1 7 0),(3,.ptr 2 7 0)]) (eE:=[(0,.ptr 0 4 0),(2,.ptr 1 7 0),(3,.ptr 2 7 0)]) Kr rfl rfl (qA9 qA2 _) (Nat.zero_le _) (u29 _) Kr ⟨⟨rfl,.refl Kr⟩,⟨⟨rfl,.refl Kr⟩,⟨⟨rfl,.refl Kr⟩,trivial⟩⟩⟩ ⟨.inr ⟨rfl,rfl,rfl,.refl Kr⟩,⟨.inr ⟨rfl,rfl,rfl,.refl Kr⟩,⟨.inr ⟨rfl,rfl,rfl,.cons Kr (.cons Kr (.own (.refl Kr)))⟩,⟨.inr ⟨rfl,rfl,rfl,.refl Kr⟩,⟨.inl ⟨rfl,rfl⟩,trivial⟩⟩⟩⟩⟩ ?_
    refine qA8 [O,g,a4] [⟨e44 b,3,false⟩,⟨[],0,false⟩] Kr rfl Kr ⟨Kr,⟨Kr,⟨Kr,trivial⟩⟩⟩ ?_
    exact L (a.2.2.2.2.2.2.1,(⟨a.1,a.2.1,(⟨(a.2.2.2.2.2.2.2).length,(a.2.2.2.2.2.2.2).flatMap e29⟩:Raw),a.2.2.1,a.2.2.2.1,a.2.2.2.2.1,a.2.2.2.2.2.1⟩:S28))
theorem i56B_ok (k:Nat) (F:Fns0) (a:FnsOk0 F):Pi56 (i56B k F):=λb c g j=>⟨λx h=>qJi k F a b c g j (some x) h,λh=>⟨_,qJi k F a b c g j none h⟩⟩
def i57c0:LL:=[([61,62]:LN),([58,61]:LN)]
def i57p1:Pt:=nav [0,0,0] (nav [0] (bodyAt Tryz.f105))
def i57p2:Pt:=nav [0,0,0,0] i57p1
def i57p3:Pt:=nav [0,0,0,0] i57p2
def i57p5:Pt:=nav [0,0,0] (nav [0,0] i57p3)
def i57p6:Pt:=nav [1,0,0,0,0] i57p5
def i57p8:Pt:=nav [0,0,0] i57p6
def i57p10:Pt:=nav [0,0] i57p8
def i57p11:Pt:=nav [1,0] i57p10
def i57d0:DP:=⟨[21],[(0,0,0),(0,0,1),(0,0,0),(4,0,0),(14,0,0),(31,0,0),(63,0,0)],7,thrown,[],H0⟩
def qH9 (k:Nat) (F:Fns0)  (l:LN) (m:List S43) (o:Int) (n:Int) (a:(S28×Int)) (ih:Int→Int→Option (Option (S28×Int))):Int→Int→Option (Option (S28×Int)) :=
 λ(b:Int) (h:Int)=>if (decide (b < (i57c0.length:Int))) then ((nthL i57c0 b).bind λj=>bT (i13 k j l m h n) λc=>if c.1 then (bT (F.i9 (1:Int) l m c.2 n) λg=>some (some ((⟨(14:Int),j,⟨(([a.1,g.1]:List S28)).length,(([a.1,g.1]:List S28)).flatMap e29⟩,false,false,([]:LL),([]:LL)⟩:S28),g.2))) else (ih (fW .i64 (b+1)) c.2)) else (some (some (a.1,h)))
def qMh (k:Nat) (F:Fns0)  (b:LN) (c:List S43) (g:Int) (h:Int) (a:(S28×Int)) (n:Nat):Int→Int→Option (Option (S28×Int)):=lp (λ_ _=>none) (qH9 k F b c g h a) n
theorem qMg (k:Nat) (F:Fns0) (O:FnsOk0 F) (o:LN) (q:List S43) (B:Int) (r:Int)  (a:(S28×Int))  : ∀ (n:Nat) (c:Int) (l:Int),Ok (Xi57 o q B r) i57p3 [(0,.ptr 0 4 0),(2,.ptr 1 7 0),(3,.ptr 2 7 0),(8,w9 i57c0),(9,.i (i57c0.length:Int)),(10,.i c)] (mkH [⟨[.str o,w44 q,.i l,.i r],4,false⟩,⟨[.i 0,.str [],.nils,.bool false,.bool false,.nils,.nils],0,false⟩,⟨[.i a.1.f0,.str a.1.f1,q29 a.1.f2,.bool a.1.f3,.bool a.1.f4,w9 a.1.f5,w9 a.1.f6],7,false⟩]) (qMh k F o q B r a n c l):=by
 intro n
 induction n with
 | zero=>intro c l; exact ok_none
 | succ n ih =>
  intro c l
  show Ok _ _ _ _ (qH9 k F o q B r a (qMh k F o q B r a n) c l)
  unfold qH9
  refine qAd (p':=nav [0] i57p3) Kr ?_
  let G:Env:=[(11,.bool (decide (c < (i57c0.length:Int)))),(0,.ptr 0 4 0),(2,.ptr 1 7 0),(3,.ptr 2 7 0),(8,w9 i57c0),(9,.i (i57c0.length:Int)),(10,.i c)]
  let E:Blk:=⟨[.str o,w44 q,.i l,.i r],4,false⟩
  let m:Blk:=⟨[.i 0,.str [],.nils,.bool false,.bool false,.nils,.nils],0,false⟩
  refine oH 5 i57p5 G (mkH [E,m,⟨e29 a.1,7,false⟩]) ?_
  refine oS 11 (λI=>?_) (λI=>?_)
  ·refine oR 6 (atN 0 (ctl1 i57p6)) ((11,.bool true)::G) ?_
   refine oC (λ(b:LN)=>(.vptr [.str b],(mkH [E,m,⟨e29 a.1,7,false⟩]))) (atN 1 (ctl1 i57p6)) 12 (vidxH (sz:=1) qBq Kr) λb J=>?_
   let K:Env:=((15,.str b)::(14,.ptr 0 4 0)::(5,.str b)::(13,.str b)::(12,.vptr [.str b])::(11,.bool true)::G)
   refine oH 7 (atN 2 (ctl1 i57p8)) K (mkH [E,m,⟨e29 a.1,7,false⟩]) ?_
   refine oX (λ(j:(Bool×Int)) => .bool j.1) (λj=>[⟨[.str o,w44 q,.i j.2,.i r],4,false⟩,m,⟨e29 a.1,7,false⟩]) (atN 3 (ctl1 i57p8)) 16 [0] [] [] [] [] [.ptr 0 4 0,.str b] (qAe k b o q l r) trivial (λ_=>trivial) trivial λj N=>?_
   refine oR 1 i57p10 ((16,.bool j.1)::K) ?_
   refine oS 16 (λI=>?_) (λI=>?_)
   ·refine oR 2 i57p11 ((16,.bool true)::(16,.bool j.1)::K) ?_
    refine qC9 (λh=>?_) (λg A=>?_)
    ·let u:Env:=[(19,.ptr 0 4 0),(18,n29 a.1),(17,.str b),(16,.bool true),(16,.bool j.1),(15,.str b),(14,.ptr 0 4 0),(5,.str b),(13,.str b),(12,.vptr [.str b]),(11,.bool true),(11,.bool (decide (c < (i57c0.length:Int)))),(0,.ptr 0 4 0),(2,.ptr 1 7 0),(3,.ptr 2 7 0),(8,w9 i57c0),(9,.i (i57c0.length:Int)),(10,.i c)]
     let x:Blk:=⟨[.str o,w44 q,.i j.2,.i r],4,false⟩
     exact qAu (eE:=((22,.top)::(21,.top)::(20,.top)::u)) (i57d0.th 3 thrown [0] (mkH [x,m,⟨e29 a.1,7,false⟩])) (hs:=[(mkH [x,m,⟨e29 a.1,7,false⟩]),(mkH [x,m,⟨e29 a.1,7,false⟩])]) (LX:=[⟨[.str o,w44 q,.i B,.i r],4,false⟩]) (L:=[x,m,⟨e29 a.1,7,false⟩]) rfl rfl rfl Kr rfl ⟨.inl rfl,trivial⟩ Kr Kr Kr Kr (qAc 3 (l':=(opsAt i57p11).toList.drop 3) (eE:=u) (H':=(mkH [x,m,⟨e29 a.1,7,false⟩])) (hs:=[]) Kr (qAt (l':=(opsAt i57p11).toList.drop 4) (eE:=((20,.top)::u)) (hs:=[(mkH [x,m,⟨e29 a.1,7,false⟩])]) (fi:=21) (args:=[.ptr 0 4 0,.i 1]) Kr Kr (frS 0 (M:=[x,m,⟨e29 a.1,7,false⟩]) (rs:=[0]) (ms:=[]) (mv:=[]) (mm:=[]) (D:=[0]) (xs':=[.ptr 0 4 0,.i 1]) (.refl) ((O.i9_ok (1:Int) o q j.2 r).2 h) trivial trivial Kr) Kr (qA4 (l':=(opsAt i57p11).toList.drop 5) (eE:=((21,.top)::(20,.top)::u)) (hs:=[]) Kr Kr (qA4 (l':=(opsAt i57p11).toList.drop 6) (eE:=((22,.top)::(21,.top)::(20,.top)::u)) (hs:=[]) Kr Kr (qA4 (l':=(opsAt i57p11).toList.drop 7) (eE:=((22,.top)::(21,.top)::(20,.top)::u)) (hs:=[(mkH [x,m,⟨e29 a.1,7,false⟩])]) Kr Kr (.nil)))))) Kr Kr
    ·let u:Env:=[(19,.ptr 0 4 0),(18,n29 a.1),(17,.str b),(16,.bool true),(16,.bool j.1),(15,.str b),(14,.ptr 0 4 0),(5,.str b),(13,.str b),(12,.vptr [.str b]),(11,.bool true),(11,.bool (decide (c < (i57c0.length:Int)))),(0,.ptr 0 4 0),(2,.ptr 1 7 0),(3,.ptr 2 7 0),(8,w9 i57c0),(9,.i (i57c0.length:Int)),(10,.i c)]
     let z:Blk:=⟨[.str o,w44 q,.i g.2,.i r],4,false⟩
     let C:Blk:=⟨[.i 14,.str b,w29 ([a.1,g.1]:List S28),.bool false,.bool false,.nils,.nils],7,false⟩
     refine oD (H':=(mkH [z,C,⟨e29 a.1,7,false⟩])) (nav [0] i57p11) ((22,.agg [.i 14,.str b,w29 ([a.1,g.1]:List S28),.bool false,.bool false,.nils,.nils])::(21,w29 ([a.1,g.1]:List S28))::(20,n29 g.1)::u) [(mkH [z,m,⟨e29 a.1,7,false⟩]),(mkH [z,C,⟨e29 a.1,7,false⟩])] i57d0 (oDr 3 3 u (qA6 (l':=(opsAt i57p11).toList.drop 4) (eE:=((20,n29 g.1)::u)) (hs:=[(mkH [z,m,⟨e29 a.1,7,false⟩])]) (H':=(mkH [z,m,⟨e29 a.1,7,false⟩])) (fi:=21) (args:=[.ptr 0 4 0,.i 1]) (v:=n29 g.1) Kr (frC (rs:=[0]) (ms:=[]) (ms':=[]) ((O.i9_ok (1:Int) o q j.2 r).1 g A) trivial trivial Kr) Kr (oDh 3 7 ((22,.agg [.i 14,.str b,w29 ([a.1,g.1]:List S28),.bool false,.bool false,.nils,.nils])::(21,w29 ([a.1,g.1]:List S28))::(20,n29 g.1)::u) (mkH [z,C,⟨e29 a.1,7,false⟩]) [(mkH [z,C,⟨e29 a.1,7,false⟩])] .nil))) ?_
     exact oQF 1 [z,C,⟨e29 a.1,7,false⟩] 1 [] [.agg [.i 14,.str b,w29 ([a.1,g.1]:List S28),.bool false,.bool false,.nils,.nils]] (.agg [.i 14,.str b,w29 ([a.1,g.1]:List S28),.bool false,.bool false,.vec 0 1 [],.vec 0 1 []]) (.agg (.cs (.cs (.cs (.cs (.cs (.nil (.nil .ps))))))) .ps) trivial
   ·refine oL 6 i57p3 [(0,.ptr 0 4 0),(2,.ptr 1 7 0),(3,.ptr 2 7 0),(8,w9 i57c0),(9,.i (i57c0.length:Int)),(10,.i (fW .i64 (c+1)))] ?_
    exact ih (fW .i64 (c+1)) j.2
  ·exact oQF 8 [E,⟨e29 a.1,7,false⟩,⟨e29 a.1,7,false⟩] 1 [] [n29 a.1] (n29 a.1) .ps trivial
def i57B (k:Nat) (F:Fns0) (b:LN) (c:List S43) (g:Int) (h:Int):Option (Option (S28×Int)) :=
 bT (F.i9 (1:Int) b c g h) λa=>qMh k F b c g h a k 0 a.2
theorem qJh (k:Nat) (F:Fns0) (o:FnsOk0 F):∀ b c j g r,i57B k F b c j g=some r→CallT Tryz.prog 105 [.ptr 0 4 0] (mkH [⟨[.str b,w44 c,.i j,.i g],4,false⟩]) ((Xi57 b c j g).thr r) ((Xi57 b c j g).enc r) ((Xi57 b c j g).fin r):=by
 intro b c j g r h
 refine qA0 (Xi57 b c j g) Tryz.func105 Kr Kr rfl (t:=i57B k F b c j g) ?_ h
 unfold i57B
 refine qA1 (eE:=[(0,.ptr 0 4 0)]) Kr ?_
 let l:Blk:=⟨[.i 0,.str [],.nils,.bool false,.bool false,.nils,.nils],0,false⟩
 refine oH 7 (atN 1 (ctl1 i57p1)) [(6,.ptr 0 4 0),(2,.ptr 1 7 0),(0,.ptr 0 4 0)] (mkH [⟨[.str b,w44 c,.i j,.i g],4,false⟩,l]) ?_
 refine oX (λ(a:(S28×Int))=>n29 a.1) (λa=>[⟨[.str b,w44 c,.i a.2,.i g],4,false⟩,l]) (atN 2 (ctl1 i57p1)) 7 [0] [] [] [0] [] [.ptr 0 4 0,.i 1] (o.i9_ok (1:Int) b c j g) trivial (λ_=>trivial) trivial λa m=>?_
 let n:Blk:=⟨[.str b,w44 c,.i a.2,.i g],4,false⟩
 refine oH 7 (atN 1 (ctl1 i57p2)) [(8,.slice 3 2 0 2 1),(3,.ptr 2 7 0),(7,n29 a.1),(6,.ptr 0 4 0),(2,.ptr 1 7 0),(0,.ptr 0 4 0)] (mkH [n,l,⟨e29 a.1,7,false⟩,⟨[.str [61,62],.str [58,61]],0,false⟩]) ?_
 refine oZ 8 3 2 1 [.str [61,62],.str [58,61]] [0,2,3,6,7] [] trivial ?_
 refine oLH 5 i57p3 [(0,.ptr 0 4 0),(2,.ptr 1 7 0),(3,.ptr 2 7 0),(8,w9 i57c0),(9,.i (i57c0.length:Int)),(10,.i 0)] (mkH [n,l,⟨e29 a.1,7,false⟩,⟨[],0,false⟩]) ?_
 refine qA8 [n,l,⟨e29 a.1,7,false⟩] [⟨[],0,false⟩] Kr rfl Kr ⟨Kr,⟨Kr,⟨Kr,trivial⟩⟩⟩ ?_
 exact (qMg k F o b c j g a k) 0 a.2
theorem i57B_ok (k:Nat) (F:Fns0) (a:FnsOk0 F):Pi57 (i57B k F):=λb c g j=>⟨λx h=>qJh k F a b c g j (some x) h,λh=>⟨_,qJh k F a b c g j none h⟩⟩
def i59p1:Pt:=nav [0,0,0] (nav [0] (bodyAt Tryz.f135))
def i59p2:Pt:=nav [0,0,0] i59p1
def i59p3:Pt:=nav [0,0,0] i59p2
def i59B (k:Nat) (F:Fns0) (g:LN) (h:List S43) (l:Int) (j:Int):Option (Option (S28×Int)) :=
 bT (F.i78 ([]:LL) g h l j) λa=>(i11 k g h a.2 j).bind λb=>bT (i41 k ([101,110,100]:LN) g h b.2 j) λc=>some (some ((⟨(17:Int),([]:LN),⟨(a.1).length,(a.1).flatMap e29⟩,false,false,([]:LL),b.1⟩:S28),c))
theorem qJg (k:Nat) (F:Fns0) (D:FnsOk0 F):∀ c g m j r,i59B k F c g m j=some r→CallT Tryz.prog 135 [.ptr 0 4 0] (mkH [⟨[.str c,w44 g,.i m,.i j],4,false⟩]) ((Xi59 c g m j).thr r) ((Xi59 c g m j).enc r) ((Xi59 c g m j).fin r):=by
 intro c g m j r h
 refine qA0 (Xi59 c g m j) Tryz.func135 Kr Kr rfl (t:=i59B k F c g m j) ?_ h
 unfold i59B
 refine qA1 (eE:=[(0,.ptr 0 4 0)]) Kr ?_
 let z:Env:=[(5,.func 145 [] [.ptr 1 1 0]),(4,.ptr 0 4 0),(2,.ptr 2 7 0),(1,.ptr 1 1 0),(0,.ptr 0 4 0)]
 let A:Blk:=⟨[.str c,w44 g,.i m,.i j],4,false⟩
 let n:Blk:=⟨[.i 0,.str [],.nils,.bool false,.bool false,.nils,.nils],0,false⟩
 refine oH 9 (atN 2 (ctl1 i59p1)) z (mkH [A,⟨[.ptr 0 4 0],0,false⟩,n]) ?_
 refine oXW 0 [A,⟨[.ptr 0 4 0],1,false⟩,n] (λ(a:Ri78)=>w29 a.1) (λa=>[⟨[.str c,w44 g,.i a.2,.i j],4,false⟩,⟨[.ptr 0 4 0],1,false⟩,n]) (atN 3 (ctl1 i59p1)) 6 [0,1] [] [] [0,1] [] [] [.ptr 0 4 0,.nils,.func 145 [] [.ptr 1 1 0]] [.ptr 0 4 0,w9 ([]:LL),.func 145 [] [.ptr 1 1 0]] (.cons (.nil (.refl))) (D.i78_ok ([]:LL) c g m j) trivial (λ_=>trivial) trivial λa q=>?_
 let B:Blk:=⟨[.i 17,.str [],w29 a.1,.bool false,.bool false,.nils,.nils],7,false⟩
 refine oH 7 (atN 1 (ctl1 i59p2)) ((8,.ptr 0 4 0)::(3,.ptr 3 7 0)::(7,.agg [.i 17,.str [],w29 a.1,.bool false,.bool false,.nils,.nils])::(6,w29 a.1)::z) (mkH [⟨[.str c,w44 g,.i a.2,.i j],4,false⟩,⟨[.ptr 0 4 0],1,false⟩,n,B]) ?_
 refine oN (λ(b:Ri11)=>w9 b.1) (λb=>[⟨[.str c,w44 g,.i b.2,.i j],4,false⟩,⟨[.ptr 0 4 0],1,false⟩,n,B]) (atN 2 (ctl1 i59p2)) 9 [0] [] [] [.ptr 0 4 0] (qAr k c g a.2 j) trivial (λ_=>trivial) λb u=>?_
 let C:Env:=[(1,.ptr 1 1 0),(2,.ptr 2 7 0),(3,.ptr 3 7 0)]
 let o:Blk:=⟨[.i 17,.str [],w29 a.1,.bool false,.bool false,.nils,w9 b.1],7,false⟩
 refine oLH 4 i59p3 C (mkH [⟨[.str c,w44 g,.i b.2,.i j],4,false⟩,⟨[.ptr 0 4 0],1,false⟩,n,o]) ?_
 refine oR 2 (atN 1 (ctl1 i59p3)) ((11,.ptr 0 4 0)::C) ?_
 refine oX (λ(l:Int) => .tuple []) (λl=>[⟨[.str c,w44 g,.i l,.i j],4,false⟩,⟨[.ptr 0 4 0],1,false⟩,n,o]) (atN 2 (ctl1 i59p3)) 12 [0] [] [] [0,1] [] [.ptr 0 4 0,.str [101,110,100]] (qB2 k ([101,110,100]:LN) c g b.2 j) trivial (λ_=>trivial) trivial λl x=>?_
 exact oQF 7 [⟨[.str c,w44 g,.i l,.i j],4,false⟩,⟨[.ptr 0 4 0],1,false⟩,o,o] 1 [] [.agg [.i 17,.str [],w29 a.1,.bool false,.bool false,.nils,w9 b.1]] (.agg [.i 17,.str [],w29 a.1,.bool false,.bool false,.vec 0 1 [],w9 b.1]) (.agg (.cs (.cs (.cs (.cs (.cs (.nil .ps)))))) .ps) trivial
theorem i59B_ok (k:Nat) (F:Fns0) (a:FnsOk0 F):Pi59 (i59B k F):=λb c g j=>⟨λx h=>qJg k F a b c g j (some x) h,λh=>⟨_,qJg k F a b c g j none h⟩⟩
def i61p1:Pt:=nav [0,0,0] (nav [0] (bodyAt Tryz.f137))
def i61p2:Pt:=nav [0,0] i61p1
def i61p3:Pt:=nav [0,0,0] i61p2
def i61d0:DP:=⟨[],[(0,0,0),(1,0,2),(0,0,0),(0,0,0),(8,0,0),(0,0,0),(60,0,0),(127,0,0),(255,0,0),(511,0,0)],10,thrown,[],H0⟩
def i61B (k:Nat) (F:Fns0) (n:Int) (o:LN) (q:Bool) (r:Bool) (u:LL) (A:LL) (j:LN) (l:List S43) (x:Int) (m:Int) (z:List S28):Option (Option Ri61) :=
 (i11 k j l x m).bind λa=>bT (F.i12 a.1 j l a.2 m) λb=>(appS 104 z b.1).bind λg=>(i11 k j l b.2 m).bind λc=>bT (i41 k ([101,110,100]:LN) j l c.2 m) λh=>some (some (n,o,q,r,u,c.1,h,g))
theorem qJf (k:Nat) (F:Fns0) (hF:FnsOk0 F):∀ n o q u z E A B N C G r,i61B k F n o q u z E A B N C G=some r→CallT Tryz.prog 137 [.ptr 0 4 0,.agg [.i n,.str o,.own 1 (G).length 7,.bool q,.bool u,w9 z,w9 E],.func 34 [.ptr 0 4 0] []] (mkH [⟨[.str A,w44 B,.i N,.i C],4,false⟩,⟨(G).flatMap e29,0,false⟩]) ((Xi61 n o q u z E A B N C G).thr r) ((Xi61 n o q u z E A B N C G).enc r) ((Xi61 n o q u z E A B N C G).fin r):=by
 intro n o q u z E A B N C G r h
 refine qA0 (Xi61 n o q u z E A B N C G) Tryz.func137 Kr Kr rfl (t:=i61B k F n o q u z E A B N C G) ?_ h
 unfold i61B
 refine qA1 (eE:=[(0,.ptr 0 4 0),(1,.agg [.i n,.str o,.own 1 (G).length 7,.bool q,.bool u,w9 z,w9 E]),(2,.func 34 [.ptr 0 4 0] [])]) Kr ?_
 let Y:Blk:=⟨[.str A,w44 B,.i N,.i C],4,false⟩
 let m:Blk:=⟨(G).flatMap e29,0,false⟩
 let l:Blk:=⟨[.i n,.str o,.own 1 (G).length 7,.bool q,.bool u,w9 z,w9 E],0,false⟩
 let c:Blk:=⟨[.i 0,.str [],.nils,.bool false,.bool false,.nils,.nils],0,false⟩
 refine oH 6 i61p1 [(6,.ptr 3 7 0),(4,.ptr 2 7 0),(0,.ptr 0 4 0),(1,.agg [.i n,.str o,.own 1 (G).length 7,.bool q,.bool u,w9 z,w9 E]),(2,.func 34 [.ptr 0 4 0] [])] (mkH [Y,m,l,c]) ?_
 refine qA7 (λa O=>?_)
 refine qC9 (λh=>?_) (λj S=>?_)
 ·let J:Env:=[(10,.ptr 0 4 0),(9,.ptr 0 4 0),(8,.own 1 (G).length 7),(7,.ptr 2 7 2),(6,.ptr 3 7 0),(4,.ptr 2 7 0),(0,.ptr 0 4 0),(1,.agg [.i n,.str o,.own 1 (G).length 7,.bool q,.bool u,w9 z,w9 E]),(2,.func 34 [.ptr 0 4 0] [])]
  let Z:Env:=((15,.top)::(14,.top)::(13,.top)::(12,.func 34 [.ptr 0 4 0] [])::(11,w9 a.1)::J)
  let K:Blk:=⟨[.str A,w44 B,.i a.2,.i C],4,false⟩
  exact qAu (eE:=Z) (i61d0.th 6 thrown [0,2] (mkH [K,m,l,c])) (hs:=[(mkH [K,m,l,c]),(mkH [K,m,l,c]),(mkH [K,m,l,c]),(mkH [K,m,l,c])]) (LX:=[Y,m]) (L:=[K,m,l,c]) rfl rfl rfl Kr rfl ⟨.inl rfl,⟨.inl rfl,trivial⟩⟩ Kr Kr Kr Kr (qAc 4 (l':=(opsAt i61p1).toList.drop 4) (eE:=J) (H':=(mkH [Y,m,l,c])) (hs:=[]) Kr (qA6 (l':=(opsAt i61p1).toList.drop 5) (eE:=((11,w9 a.1)::J)) (hs:=[(mkH [K,m,l,c])]) (H':=(mkH [K,m,l,c])) (fi:=33) (args:=[.ptr 0 4 0]) (v:=w9 a.1) Kr (frC (rs:=[0]) (ms:=[]) (ms':=[]) (qAr k A B N C a O) trivial trivial Kr) Kr (qAc 1 (l':=(opsAt i61p1).toList.drop 6) (eE:=((12,.func 34 [.ptr 0 4 0] [])::(11,w9 a.1)::J)) (H':=(mkH [K,m,l,c])) (hs:=[]) Kr (qAt (l':=(opsAt i61p1).toList.drop 7) (eE:=((13,.top)::(12,.func 34 [.ptr 0 4 0] [])::(11,w9 a.1)::J)) (hs:=[(mkH [K,m,l,c])]) (fi:=32) (args:=[.ptr 0 4 0,w9 a.1,.func 34 [.ptr 0 4 0] []]) Kr Kr (frS 0 (M:=[K,m,l,c]) (rs:=[0]) (ms:=[]) (mv:=[0,1]) (mm:=[0,1]) (D:=[0,2]) (xs':=[.ptr 0 4 0,w9 a.1,.func 34 [.ptr 0 4 0] []]) (.refl) ((hF.i12_ok a.1 A B a.2 C).2 h) trivial ⟨u29 _,trivial⟩ Kr) Kr (qA4 (l':=(opsAt i61p1).toList.drop 8) (eE:=((14,.top)::(13,.top)::(12,.func 34 [.ptr 0 4 0] [])::(11,w9 a.1)::J)) (hs:=[(mkH [K,m,l,c])]) Kr Kr (qA4 (l':=(opsAt i61p1).toList.drop 9) (eE:=Z) (hs:=[]) Kr Kr (qA4 (l':=(opsAt i61p1).toList.drop 10) (eE:=Z) (hs:=[(mkH [K,m,l,c])]) Kr Kr (.nil)))))))) Kr Kr
 ·refine qA7 (λb T=>?_)
  let J:Env:=[(10,.ptr 0 4 0),(9,.ptr 0 4 0),(8,.own 1 (G).length 7),(7,.ptr 2 7 2),(6,.ptr 3 7 0),(4,.ptr 2 7 0),(0,.ptr 0 4 0),(1,.agg [.i n,.str o,.own 1 (G).length 7,.bool q,.bool u,w9 z,w9 E]),(2,.func 34 [.ptr 0 4 0] [])]
  let E4:Env:=((15,.ptr 2 7 2)::(14,.own 1 (b).length 7)::(13,w29 j.1)::(12,.func 34 [.ptr 0 4 0] [])::(11,w9 a.1)::J)
  let Q:Blk:=⟨[.str A,w44 B,.i j.2,.i C],4,false⟩
  let Q7:Blk:=⟨[.str A,w44 B,.i a.2,.i C],4,false⟩
  refine oD (H':=(mkH [Q,⟨(b).flatMap e29,0,false⟩,⟨[.i n,.str o,.own 1 (b).length 7,.bool q,.bool u,w9 z,w9 E],7,false⟩,c])) (nav [0] i61p1) E4 [(mkH [Q7,m,l,c]),(mkH [Q,m,l,c]),(mkH [Q,⟨(b).flatMap e29,0,false⟩,l,c]),(mkH [Q,⟨(b).flatMap e29,0,false⟩,⟨[.i n,.str o,.own 1 (b).length 7,.bool q,.bool u,w9 z,w9 E],7,false⟩,c])] i61d0 (oDr 4 4 J (qA6 (l':=(opsAt i61p1).toList.drop 5) (eE:=((11,w9 a.1)::J)) (hs:=[(mkH [Q7,m,l,c])]) (H':=(mkH [Q7,m,l,c])) (fi:=33) (args:=[.ptr 0 4 0]) (v:=w9 a.1) Kr (frC (rs:=[0]) (ms:=[]) (ms':=[]) (qAr k A B N C a O) trivial trivial Kr) Kr (oDr 1 6 ((12,.func 34 [.ptr 0 4 0] [])::(11,w9 a.1)::J) (qA6 (l':=(opsAt i61p1).toList.drop 7) (eE:=((13,w29 j.1)::(12,.func 34 [.ptr 0 4 0] [])::(11,w9 a.1)::J)) (hs:=[(mkH [Q,m,l,c])]) (H':=(mkH [Q,m,l,c])) (fi:=32) (args:=[.ptr 0 4 0,w9 a.1,.func 34 [.ptr 0 4 0] []]) (v:=w29 j.1) Kr (frC (rs:=[0]) (ms:=[]) (ms':=[]) ((hF.i12_ok a.1 A B a.2 C).1 j S) trivial trivial Kr) Kr (qAb (l':=(opsAt i61p1).toList.drop 8) (eE:=((14,.own 1 (b).length 7)::(13,w29 j.1)::(12,.func 34 [.ptr 0 4 0] [])::(11,w9 a.1)::J)) (hs:=[(mkH [Q,⟨(b).flatMap e29,0,false⟩,l,c])]) (x:=b) (λ(b:List S28)=>(.own 1 (b).length 7,(mkH [Q,⟨(b).flatMap e29,0,false⟩,l,c]))) (appHV (sz:=7) qA2 rfl qAh [Q,m,l,c] 1 104 G j.1 rfl rfl Kr) T Kr (oDh 2 10 E4 (mkH [Q,⟨(b).flatMap e29,0,false⟩,⟨[.i n,.str o,.own 1 (b).length 7,.bool q,.bool u,w9 z,w9 E],7,false⟩,c]) [(mkH [Q,⟨(b).flatMap e29,0,false⟩,⟨[.i n,.str o,.own 1 (b).length 7,.bool q,.bool u,w9 z,w9 E],7,false⟩,c])] .nil)))))) ?_
  refine oR 3 (atN 1 (ctl1 i61p2)) ((16,.ptr 0 4 0)::E4) ?_
  let V:Blk:=⟨(b).flatMap e29,0,false⟩
  refine oN (λ(g:Ri11)=>w9 g.1) (λg=>[⟨[.str A,w44 B,.i g.2,.i C],4,false⟩,V,⟨[.i n,.str o,.own 1 (b).length 7,.bool q,.bool u,w9 z,w9 E],7,false⟩,c]) (atN 2 (ctl1 i61p2)) 17 [0] [] [] [.ptr 0 4 0] (qAr k A B j.2 C) trivial (λ_=>trivial) λg b3=>?_
  let U:Blk:=⟨[.i n,.str o,.own 1 (b).length 7,.bool q,.bool u,w9 z,w9 g.1],7,false⟩
  refine oLH 4 i61p3 [(0,.ptr 0 4 0),(4,.ptr 2 7 0),(6,.ptr 3 7 0)] (mkH [⟨[.str A,w44 B,.i g.2,.i C],4,false⟩,V,U,c]) ?_
  let E5:Env:=[(0,.ptr 0 4 0),(4,.ptr 2 7 0),(6,.ptr 3 7 0)]
  refine oR 2 (atN 1 (ctl1 i61p3)) ((19,.ptr 0 4 0)::E5) ?_
  refine oX (λ(I:Int) => .tuple []) (λI=>[⟨[.str A,w44 B,.i I,.i C],4,false⟩,V,U,c]) (atN 2 (ctl1 i61p3)) 20 [0] [] [] [0,2] [0,1] [.ptr 0 4 0,.str [101,110,100]] (qB2 k ([101,110,100]:LN) A B g.2 C) trivial (λ_=>trivial) ⟨u29 _,trivial⟩ λI b4=>?_
  let W:Blk:=⟨[.str A,w44 B,.i I,.i C],4,false⟩
  refine oH 7 .fin ((21,.agg [.i n,.str o,.own 1 (b).length 7,.bool q,.bool u,w9 z,w9 g.1])::(20,.tuple [])::(19,.ptr 0 4 0)::E5) (mkH [W,V,U,U]) ?_
  exact qAx (r:=some (n,o,q,u,z,g.1,I,b)) (xs:=[.agg [.i n,.str o,.own 1 (b).length 7,.bool q,.bool u,w9 z,w9 g.1]]) [W,V] [U,U] Kr Kr Kr Kr Kr ⟨Kr,⟨(qA _ (u29 _)),trivial⟩⟩ Kr Kr
theorem i61B_ok (k:Nat) (F:Fns0) (a:FnsOk0 F):Pi61 (i61B k F):=λb c g j l m n o q r u=>⟨λx h=>qJf k F a b c g j l m n o q r u (some x) h,λh=>⟨_,qJf k F a b c g j l m n o q r u none h⟩⟩
def i62p1:Pt:=nav [0,0,0] (nav [0] (bodyAt Tryz.f137))
def i62p2:Pt:=nav [0,0] i62p1
def i62p3:Pt:=nav [0,0,0] i62p2
def i62d0:DP:=⟨[],[(0,0,0),(1,0,2),(0,0,0),(0,0,0),(8,0,0),(0,0,0),(60,0,0),(127,0,0),(255,0,0),(511,0,0)],10,thrown,[],H0⟩
def i62B (k:Nat) (F:Fns0) (n:Int) (o:LN) (q:Bool) (r:Bool) (u:LL) (A:LL) (j:LN) (l:List S43) (x:Int) (m:Int) (z:List S28):Option (Option Ri62) :=
 (i11 k j l x m).bind λa=>bT (F.i79 a.1 j l a.2 m) λb=>(appS 104 z b.1).bind λg=>(i11 k j l b.2 m).bind λc=>bT (i41 k ([101,110,100]:LN) j l c.2 m) λh=>some (some (n,o,q,r,u,c.1,h,g))
theorem qJe (k:Nat) (F:Fns0) (hF:FnsOk0 F):∀ n o q u z E A B N C G r,i62B k F n o q u z E A B N C G=some r→CallT Tryz.prog 137 [.ptr 0 4 0,.agg [.i n,.str o,.own 1 (G).length 7,.bool q,.bool u,w9 z,w9 E],.func 138 [.ptr 0 4 0] []] (mkH [⟨[.str A,w44 B,.i N,.i C],4,false⟩,⟨(G).flatMap e29,0,false⟩]) ((Xi62 n o q u z E A B N C G).thr r) ((Xi62 n o q u z E A B N C G).enc r) ((Xi62 n o q u z E A B N C G).fin r):=by
 intro n o q u z E A B N C G r h
 refine qA0 (Xi62 n o q u z E A B N C G) Tryz.func137 Kr Kr rfl (t:=i62B k F n o q u z E A B N C G) ?_ h
 unfold i62B
 refine qA1 (eE:=[(0,.ptr 0 4 0),(1,.agg [.i n,.str o,.own 1 (G).length 7,.bool q,.bool u,w9 z,w9 E]),(2,.func 138 [.ptr 0 4 0] [])]) Kr ?_
 let Y:Blk:=⟨[.str A,w44 B,.i N,.i C],4,false⟩
 let m:Blk:=⟨(G).flatMap e29,0,false⟩
 let l:Blk:=⟨[.i n,.str o,.own 1 (G).length 7,.bool q,.bool u,w9 z,w9 E],0,false⟩
 let c:Blk:=⟨[.i 0,.str [],.nils,.bool false,.bool false,.nils,.nils],0,false⟩
 refine oH 6 i62p1 [(6,.ptr 3 7 0),(4,.ptr 2 7 0),(0,.ptr 0 4 0),(1,.agg [.i n,.str o,.own 1 (G).length 7,.bool q,.bool u,w9 z,w9 E]),(2,.func 138 [.ptr 0 4 0] [])] (mkH [Y,m,l,c]) ?_
 refine qA7 (λa O=>?_)
 refine qC9 (λh=>?_) (λj S=>?_)
 ·let J:Env:=[(10,.ptr 0 4 0),(9,.ptr 0 4 0),(8,.own 1 (G).length 7),(7,.ptr 2 7 2),(6,.ptr 3 7 0),(4,.ptr 2 7 0),(0,.ptr 0 4 0),(1,.agg [.i n,.str o,.own 1 (G).length 7,.bool q,.bool u,w9 z,w9 E]),(2,.func 138 [.ptr 0 4 0] [])]
  let Z:Env:=((15,.top)::(14,.top)::(13,.top)::(12,.func 138 [.ptr 0 4 0] [])::(11,w9 a.1)::J)
  let K:Blk:=⟨[.str A,w44 B,.i a.2,.i C],4,false⟩
  exact qAu (eE:=Z) (i62d0.th 6 thrown [0,2] (mkH [K,m,l,c])) (hs:=[(mkH [K,m,l,c]),(mkH [K,m,l,c]),(mkH [K,m,l,c]),(mkH [K,m,l,c])]) (LX:=[Y,m]) (L:=[K,m,l,c]) rfl rfl rfl Kr rfl ⟨.inl rfl,⟨.inl rfl,trivial⟩⟩ Kr Kr Kr Kr (qAc 4 (l':=(opsAt i62p1).toList.drop 4) (eE:=J) (H':=(mkH [Y,m,l,c])) (hs:=[]) Kr (qA6 (l':=(opsAt i62p1).toList.drop 5) (eE:=((11,w9 a.1)::J)) (hs:=[(mkH [K,m,l,c])]) (H':=(mkH [K,m,l,c])) (fi:=33) (args:=[.ptr 0 4 0]) (v:=w9 a.1) Kr (frC (rs:=[0]) (ms:=[]) (ms':=[]) (qAr k A B N C a O) trivial trivial Kr) Kr (qAc 1 (l':=(opsAt i62p1).toList.drop 6) (eE:=((12,.func 138 [.ptr 0 4 0] [])::(11,w9 a.1)::J)) (H':=(mkH [K,m,l,c])) (hs:=[]) Kr (qAt (l':=(opsAt i62p1).toList.drop 7) (eE:=((13,.top)::(12,.func 138 [.ptr 0 4 0] [])::(11,w9 a.1)::J)) (hs:=[(mkH [K,m,l,c])]) (fi:=32) (args:=[.ptr 0 4 0,w9 a.1,.func 138 [.ptr 0 4 0] []]) Kr Kr (frS 0 (M:=[K,m,l,c]) (rs:=[0]) (ms:=[]) (mv:=[0,1]) (mm:=[0,1]) (D:=[0,2]) (xs':=[.ptr 0 4 0,w9 a.1,.func 138 [.ptr 0 4 0] []]) (.refl) ((hF.i79_ok a.1 A B a.2 C).2 h) trivial ⟨u29 _,trivial⟩ Kr) Kr (qA4 (l':=(opsAt i62p1).toList.drop 8) (eE:=((14,.top)::(13,.top)::(12,.func 138 [.ptr 0 4 0] [])::(11,w9 a.1)::J)) (hs:=[(mkH [K,m,l,c])]) Kr Kr (qA4 (l':=(opsAt i62p1).toList.drop 9) (eE:=Z) (hs:=[]) Kr Kr (qA4 (l':=(opsAt i62p1).toList.drop 10) (eE:=Z) (hs:=[(mkH [K,m,l,c])]) Kr Kr (.nil)))))))) Kr Kr
 ·refine qA7 (λb T=>?_)
  let J:Env:=[(10,.ptr 0 4 0),(9,.ptr 0 4 0),(8,.own 1 (G).length 7),(7,.ptr 2 7 2),(6,.ptr 3 7 0),(4,.ptr 2 7 0),(0,.ptr 0 4 0),(1,.agg [.i n,.str o,.own 1 (G).length 7,.bool q,.bool u,w9 z,w9 E]),(2,.func 138 [.ptr 0 4 0] [])]
  let E4:Env:=((15,.ptr 2 7 2)::(14,.own 1 (b).length 7)::(13,w29 j.1)::(12,.func 138 [.ptr 0 4 0] [])::(11,w9 a.1)::J)
  let Q:Blk:=⟨[.str A,w44 B,.i j.2,.i C],4,false⟩
  let Q7:Blk:=⟨[.str A,w44 B,.i a.2,.i C],4,false⟩
  refine oD (H':=(mkH [Q,⟨(b).flatMap e29,0,false⟩,⟨[.i n,.str o,.own 1 (b).length 7,.bool q,.bool u,w9 z,w9 E],7,false⟩,c])) (nav [0] i62p1) E4 [(mkH [Q7,m,l,c]),(mkH [Q,m,l,c]),(mkH [Q,⟨(b).flatMap e29,0,false⟩,l,c]),(mkH [Q,⟨(b).flatMap e29,0,false⟩,⟨[.i n,.str o,.own 1 (b).length 7,.bool q,.bool u,w9 z,w9 E],7,false⟩,c])] i62d0 (oDr 4 4 J (qA6 (l':=(opsAt i62p1).toList.drop 5) (eE:=((11,w9 a.1)::J)) (hs:=[(mkH [Q7,m,l,c])]) (H':=(mkH [Q7,m,l,c])) (fi:=33) (args:=[.ptr 0 4 0]) (v:=w9 a.1) Kr (frC (rs:=[0]) (ms:=[]) (ms':=[]) (qAr k A B N C a O) trivial trivial Kr) Kr (oDr 1 6 ((12,.func 138 [.ptr 0 4 0] [])::(11,w9 a.1)::J) (qA6 (l':=(opsAt i62p1).toList.drop 7) (eE:=((13,w29 j.1)::(12,.func 138 [.ptr 0 4 0] [])::(11,w9 a.1)::J)) (hs:=[(mkH [Q,m,l,c])]) (H':=(mkH [Q,m,l,c])) (fi:=32) (args:=[.ptr 0 4 0,w9 a.1,.func 138 [.ptr 0 4 0] []]) (v:=w29 j.1) Kr (frC (rs:=[0]) (ms:=[]) (ms':=[]) ((hF.i79_ok a.1 A B a.2 C).1 j S) trivial trivial Kr) Kr (qAb (l':=(opsAt i62p1).toList.drop 8) (eE:=((14,.own 1 (b).length 7)::(13,w29 j.1)::(12,.func 138 [.ptr 0 4 0] [])::(11,w9 a.1)::J)) (hs:=[(mkH [Q,⟨(b).flatMap e29,0,false⟩,l,c])]) (x:=b) (λ(b:List S28)=>(.own 1 (b).length 7,(mkH [Q,⟨(b).flatMap e29,0,false⟩,l,c]))) (appHV (sz:=7) qA2 rfl qAh [Q,m,l,c] 1 104 G j.1 rfl rfl Kr) T Kr (oDh 2 10 E4 (mkH [Q,⟨(b).flatMap e29,0,false⟩,⟨[.i n,.str o,.own 1 (b).length 7,.bool q,.bool u,w9 z,w9 E],7,false⟩,c]) [(mkH [Q,⟨(b).flatMap e29,0,false⟩,⟨[.i n,.str o,.own 1 (b).length 7,.bool q,.bool u,w9 z,w9 E],7,false⟩,c])] .nil)))))) ?_
  refine oR 3 (atN 1 (ctl1 i62p2)) ((16,.ptr 0 4 0)::E4) ?_
  let V:Blk:=⟨(b).flatMap e29,0,false⟩
  refine oN (λ(g:Ri11)=>w9 g.1) (λg=>[⟨[.str A,w44 B,.i g.2,.i C],4,false⟩,V,⟨[.i n,.str o,.own 1 (b).length 7,.bool q,.bool u,w9 z,w9 E],7,false⟩,c]) (atN 2 (ctl1 i62p2)) 17 [0] [] [] [.ptr 0 4 0] (qAr k A B j.2 C) trivial (λ_=>trivial) λg b3=>?_
  let U:Blk:=⟨[.i n,.str o,.own 1 (b).length 7,.bool q,.bool u,w9 z,w9 g.1],7,false⟩
  refine oLH 4 i62p3 [(0,.ptr 0 4 0),(4,.ptr 2 7 0),(6,.ptr 3 7 0)] (mkH [⟨[.str A,w44 B,.i g.2,.i C],4,false⟩,V,U,c]) ?_
  let E5:Env:=[(0,.ptr 0 4 0),(4,.ptr 2 7 0),(6,.ptr 3 7 0)]
  refine oR 2 (atN 1 (ctl1 i62p3)) ((19,.ptr 0 4 0)::E5) ?_
  refine oX (λ(I:Int) => .tuple []) (λI=>[⟨[.str A,w44 B,.i I,.i C],4,false⟩,V,U,c]) (atN 2 (ctl1 i62p3)) 20 [0] [] [] [0,2] [0,1] [.ptr 0 4 0,.str [101,110,100]] (qB2 k ([101,110,100]:LN) A B g.2 C) trivial (λ_=>trivial) ⟨u29 _,trivial⟩ λI b4=>?_
  let W:Blk:=⟨[.str A,w44 B,.i I,.i C],4,false⟩
  refine oH 7 .fin ((21,.agg [.i n,.str o,.own 1 (b).length 7,.bool q,.bool u,w9 z,w9 g.1])::(20,.tuple [])::(19,.ptr 0 4 0)::E5) (mkH [W,V,U,U]) ?_
  exact qAx (r:=some (n,o,q,u,z,g.1,I,b)) (xs:=[.agg [.i n,.str o,.own 1 (b).length 7,.bool q,.bool u,w9 z,w9 g.1]]) [W,V] [U,U] Kr Kr Kr Kr Kr ⟨Kr,⟨(qA _ (u29 _)),trivial⟩⟩ Kr Kr
theorem i62B_ok (k:Nat) (F:Fns0) (a:FnsOk0 F):Pi62 (i62B k F):=λb c g j l m n o q r u=>⟨λx h=>qJe k F a b c g j l m n o q r u (some x) h,λh=>⟨_,qJe k F a b c g j l m n o q r u none h⟩⟩
def i63c0:LN:=[97,102,116,101,114]
def i63p2:Pt:=nav [0,0,0] (nav [0,0,0] (nav [0] (bodyAt Tryz.f139)))
def i63p3:Pt:=nav [0,0,0,0] i63p2
def i63p4:Pt:=nav [0,0] i63p3
def i63p5:Pt:=nav [1,0] i63p4
def i63p6:Pt:=nav [2,0,0,0] i63p4
def i63p7:Pt:=nav [0,0] i63p5
def i63p8:Pt:=nav [0,0] i63p6
def i63p9:Pt:=nav [1,0] i63p8
def i63p11:Pt:=nav [0,0,0] i63p9
def i63p12:Pt:=nav [0,0,0] (nav [2,0,0] i63p8)
def i63p13:Pt:=nav [0,0,0] i63p11
def i63p14:Pt:=nav [0,0,0] i63p12
def i63p15:Pt:=nav [0,0,0] i63p13
def i63p17:Pt:=nav [0,0] i63p15
def i63B (k:Nat) (F:Fns0) (m:LN) (n:List S43) (x:Int) (o:Int):Option (Option (S28×Int)) :=
 (i11 k m n x o).bind λh=>(i16 k i63c0 m n h.2 o).bind λu=>if (!u) then (bT (F.i80 h.1 m n h.2 o) λq=>(i11 k m n q.1 o).bind λr=>bT (i13 k i63c0 m n r.2 o) λb=>if b.1 then (bT (F.i9 (1:Int) m n b.2 o) λc=>bT (F.i27 ([]:LN) (⟨23,([]:LN),(⟨(([c.1]:List S28)).length,(([c.1]:List S28)).flatMap e29⟩:Raw),false,false,([]:LL),([]:LL)⟩:S28) (⟨24,([]:LN),(⟨(([]:List S28)).length,(([]:List S28)).flatMap e29⟩:Raw),false,false,([]:LL),([]:LL)⟩:S28) m n c.2 o) λa=>(appS 104 q.2 ([(⟨a.1.f0,a.1.f1,a.1.f2,a.1.f3,a.1.f4,r.1,a.1.f6⟩:S28)]:List S28)).bind λj=>(i11 k m n a.2 o).bind λl=>bT (i41 k ([101,110,100]:LN) m n l.2 o) λg=>some (some ((⟨(20:Int),i63c0,⟨(j).length,(j).flatMap e29⟩,false,false,([]:LL),l.1⟩:S28),g))) else (bT (i41 k ([101,110,100]:LN) m n b.2 o) λg=>some (some ((⟨(20:Int),([]:LN),⟨(q.2).length,(q.2).flatMap e29⟩,false,false,([]:LL),r.1⟩:S28),g)))) else (bT (i13 k i63c0 m n h.2 o) λb=>if b.1 then (bT (F.i9 (1:Int) m n b.2 o) λc=>bT (F.i27 ([]:LN) (⟨23,([]:LN),(⟨(([c.1]:List S28)).length,(([c.1]:List S28)).flatMap e29⟩:Raw),false,false,([]:LL),([]:LL)⟩:S28) (⟨24,([]:LN),(⟨(([]:List S28)).length,(([]:List S28)).flatMap e29⟩:Raw),false,false,([]:LL),([]:LL)⟩:S28) m n c.2 o) λa=>(appS 104 ([]:List S28) ([(⟨a.1.f0,a.1.f1,a.1.f2,a.1.f3,a.1.f4,h.1,a.1.f6⟩:S28)]:List S28)).bind λj=>(i11 k m n a.2 o).bind λl=>bT (i41 k ([101,110,100]:LN) m n l.2 o) λg=>some (some ((⟨(20:Int),i63c0,⟨(j).length,(j).flatMap e29⟩,false,false,([]:LL),l.1⟩:S28),g))) else (bT (i41 k ([101,110,100]:LN) m n b.2 o) λg=>some (some ((⟨(20:Int),([]:LN),⟨(([]:List S28)).length,(([]:List S28)).flatMap e29⟩,false,false,([]:LL),h.1⟩:S28),g))))
theorem qJd (k:Nat) (F:Fns0) (hF:FnsOk0 F):∀ m n T o r,i63B k F m n T o=some r→CallT Tryz.prog 139 [.ptr 0 4 0] (mkH [⟨[.str m,w44 n,.i T,.i o],4,false⟩]) ((Xi63 m n T o).thr r) ((Xi63 m n T o).enc r) ((Xi63 m n T o).fin r):=by
 intro m n T o r h
 refine qA0 (Xi63 m n T o) Tryz.func139 Kr Kr rfl (t:=i63B k F m n T o) ?_ h
 unfold i63B
 refine qA1 (eE:=[(0,.ptr 0 4 0)]) Kr ?_
 let Q1:Blk:=⟨[.str m,w44 n,.i T,.i o],4,false⟩
 let z:Blk:=⟨[.i 0,.str [],.nils,.bool false,.bool false,.nils,.nils],0,false⟩
 let Q3:Blk:=⟨[.i 20,.str [],.nils,.bool false,.bool false,.nils,.nils],7,false⟩
 refine oH 11 i63p2 [(3,.ptr 2 7 0),(7,.agg [.i 20,.str [],.nils,.bool false,.bool false,.nils,.nils]),(2,.ptr 1 7 0),(0,.ptr 0 4 0)] (mkH [Q1,z,Q3]) ?_
 refine qBu [Q1,z,Q3] Kr ?_
 let A:Blk:=⟨(([]:List S28)).flatMap e29,0,false⟩
 refine oHp (mkH [Q1,z,Q3,A]) ?_
 refine qAw [Q1,z,Q3,A] 2 7 [.i 20,.str [],.nils,.bool false,.bool false,.nils,.nils] [.i 20,.str [],.own 3 (([]:List S28)).length 7,.bool false,.bool false,.nils,.nils] Kr rfl (.cons (.cons (.none (.refl)))) ?_
 let E1:Env:=[(8,.ptr 0 4 0),(3,.ptr 2 7 0),(7,.agg [.i 20,.str [],.nils,.bool false,.bool false,.nils,.nils]),(2,.ptr 1 7 0),(0,.ptr 0 4 0)]
 let K:Blk:=⟨[.i 20,.str [],.own 3 (([]:List S28)).length 7,.bool false,.bool false,.nils,.nils],7,false⟩
 refine oH 2 (atN 1 (ctl1 i63p2)) E1 (mkH [Q1,z,K,A]) ?_
 refine oN (λ(c:Ri11)=>w9 c.1) (λc=>[⟨[.str m,w44 n,.i c.2,.i o],4,false⟩,z,K,A]) (atN 2 (ctl1 i63p2)) 9 [0] [] [] [.ptr 0 4 0] (qAr k m n T o) trivial (λ_=>trivial) λc c0=>?_
 refine oR 6 (atN 1 (ctl1 i63p3)) ((10,.ptr 0 4 0)::(4,w9 c.1)::(9,w9 c.1)::E1) ?_
 refine oN (λ(C:Bool) => .bool C) (λC=>[⟨[.str m,w44 n,.i c.2,.i o],4,false⟩,z,K,A]) (atN 2 (ctl1 i63p3)) 11 [0] [] [] [.ptr 0 4 0,.str i63c0] (qGa k i63c0 m n c.2 o) trivial (λ_=>trivial) λC c1=>?_
 let E2:Env:=((12,.bool (!C))::(11,.bool C)::(10,.ptr 0 4 0)::(4,w9 c.1)::(9,w9 c.1)::E1)
 refine oR 2 i63p4 E2 ?_
 refine oS 12 (λhb=>?_) (λhb=>?_)
 ·refine oR 7 (atN 4 (ctl1 i63p5)) ((16,.func 34 [.ptr 0 4 0] [])::(15,.ptr 0 4 0)::(14,w9 c.1)::(13,.ptr 0 4 0)::(12,.bool true)::E2) ?_
  refine oX (λ(x:Ri80) => .own 4 (x.2).length 7) (λx=>[⟨[.str m,w44 n,.i x.1,.i o],4,false⟩,z,K,A,⟨(x.2).flatMap e29,0,false⟩]) (atN 5 (ctl1 i63p5)) 17 [0,4] [] [0,1] [0,2] [0,0,0,1] [.ptr 0 4 0,w9 c.1,.func 34 [.ptr 0 4 0] []] (hF.i80_ok c.1 m n c.2 o) trivial (λ_=>⟨u29 _,trivial⟩) ⟨u29 _,trivial⟩ λx c3=>?_
  let M:Blk:=⟨[.i 20,.str [],.own 4 (x.2).length 7,.bool false,.bool false,.nils,.nils],7,false⟩
  let L:Blk:=⟨(x.2).flatMap e29,0,false⟩
  refine oLH 3 i63p7 [(0,.ptr 0 4 0),(2,.ptr 1 7 0),(3,.ptr 2 7 0)] (mkH [⟨[.str m,w44 n,.i x.1,.i o],4,false⟩,z,M,A,L]) ?_
  let E4:Env:=[(0,.ptr 0 4 0),(2,.ptr 1 7 0),(3,.ptr 2 7 0)]
  refine oR 2 (atN 1 (ctl1 i63p7)) ((19,.ptr 0 4 0)::E4) ?_
  refine oN (λ(q:Ri11)=>w9 q.1) (λq=>[⟨[.str m,w44 n,.i q.2,.i o],4,false⟩,z,M,A,L]) (atN 2 (ctl1 i63p7)) 20 [0] [] [] [.ptr 0 4 0] (qAr k m n x.1 o) trivial (λ_=>trivial) λq c5=>?_
  refine oR 6 (atN 1 (ctl1 i63p6)) ((21,.ptr 0 4 0)::(4,w9 q.1)::(20,w9 q.1)::(19,.ptr 0 4 0)::E4) ?_
  refine oX (λ(l:(Bool×Int)) => .bool l.1) (λl=>[⟨[.str m,w44 n,.i l.2,.i o],4,false⟩,z,M,A,L]) (atN 2 (ctl1 i63p6)) 22 [0] [] [] [2] [0,0,0,1,1] [.ptr 0 4 0,.str i63c0] (qAe k i63c0 m n q.2 o) trivial (λ_=>trivial) ⟨u29 _,u29 _,trivial⟩ λl a4=>?_
  let E5:Env:=((22,.bool l.1)::(21,.ptr 0 4 0)::(4,w9 q.1)::(20,w9 q.1)::(19,.ptr 0 4 0)::E4)
  refine oR 1 i63p8 E5 ?_
  refine oS 22 (λhb=>?_) (λhb=>?_)
  ·refine oR 4 (atN 1 (ctl1 i63p9)) ((23,.ptr 0 4 0)::(22,.bool true)::E5) ?_
   refine oX (λ(b:(S28×Int))=>n29 b.1) (λb=>[⟨[.str m,w44 n,.i b.2,.i o],4,false⟩,z,M,A,L]) (atN 2 (ctl1 i63p9)) 24 [0] [] [] [0,2] [0,0,0,1,1] [.ptr 0 4 0,.i 1] (hF.i9_ok (1:Int) m n l.2 o) trivial (λ_=>trivial) ⟨u29 _,u29 _,trivial⟩ λb a5=>?_
   let Q8:Blk:=⟨[.str m,w44 n,.i b.2,.i o],4,false⟩
   refine oH 1 (atN 3 (ctl1 i63p9)) ((25,.slice 5 7 0 1 7)::(24,n29 b.1)::(23,.ptr 0 4 0)::(22,.bool true)::E5) (mkH [Q8,z,M,A,L,⟨e29 b.1,0,false⟩]) ?_
   refine oZ 25 5 1 7 [.i b.1.f0,.str b.1.f1,q29 b.1.f2,.bool b.1.f3,.bool b.1.f4,w9 b.1.f5,w9 b.1.f6] [0,2,3,4,19,20,21,22,23,24] [0,0,0,1,1] ⟨u29 _,u29 _,trivial⟩ ?_
   let E7:Env:=[(0,.ptr 0 4 0),(2,.ptr 1 7 0),(3,.ptr 2 7 0),(4,w9 q.1),(5,.ptr 6 7 0)]
   let N:Blk:=⟨[.i 23,.str [],w29 ([b.1]:List S28),.bool false,.bool false,.nils,.nils],7,false⟩
   refine oLH 5 i63p11 E7 (mkH [Q8,z,M,A,L,⟨[],0,false⟩,N]) ?_
   refine oR 4 (atN 3 (ctl1 i63p11)) ((29,.agg [.i 24,.str [],.nils,.bool false,.bool false,.nils,.nils])::(28,.agg [.i 23,.str [],w29 ([b.1]:List S28),.bool false,.bool false,.nils,.nils])::(27,.ptr 0 4 0)::E7) ?_
   refine oXW 0 [Q8,z,M,A,L,⟨[],0,false⟩,N] (λ(a:(S28×Int))=>n29 a.1) (λa=>[⟨[.str m,w44 n,.i a.2,.i o],4,false⟩,z,M,A,L,⟨[],0,false⟩,N]) (atN 4 (ctl1 i63p11)) 30 [0] [] [] [0,2] [0,0,0,1,1] [0,0,0,1,1] [.ptr 0 4 0,.str [],.agg [.i 23,.str [],w29 ([b.1]:List S28),.bool false,.bool false,.nils,.nils],.agg [.i 24,.str [],.nils,.bool false,.bool false,.nils,.nils]] [.ptr 0 4 0,.str [],.agg [.i 23,.str [],w29 ([b.1]:List S28),.bool false,.bool false,w9 ([]:LL),w9 ([]:LL)],.agg [.i 24,.str [],w29 ([]:List S28),.bool false,.bool false,w9 ([]:LL),w9 ([]:LL)]] (.cons (.cons (.agg (.cons (.cons (.cons (.cons (.cons (.nil (.nil (.refl)))))))) (.agg (.cons (.cons (.nil (.cons (.cons (.nil (.nil (.refl)))))))) (.refl))))) (hF.i27_ok ([]:LN) (⟨23,([]:LN),(⟨(([b.1]:List S28)).length,(([b.1]:List S28)).flatMap e29⟩:Raw),false,false,([]:LL),([]:LL)⟩:S28) (⟨24,([]:LN),(⟨(([]:List S28)).length,(([]:List S28)).flatMap e29⟩:Raw),false,false,([]:LL),([]:LL)⟩:S28) m n b.2 o) trivial (λ_=>trivial) ⟨u29 _,u29 _,trivial⟩ λa a6=>?_
   let E9:Env:=[(0,.ptr 0 4 0),(2,.ptr 1 7 0),(3,.ptr 2 7 0),(6,.ptr 7 7 0)]
   let U:Blk:=⟨[.str m,w44 n,.i a.2,.i o],4,false⟩
   let D:Blk:=⟨[.i a.1.f0,.str a.1.f1,q29 a.1.f2,.bool a.1.f3,.bool a.1.f4,w9 q.1,w9 a.1.f6],7,false⟩
   refine oLH 10 i63p15 E9 (mkH [U,z,M,A,L,⟨[],0,false⟩,N,D]) ?_
   let I:Blk:=⟨[.i a.1.f0,.str a.1.f1,q29 a.1.f2,.bool a.1.f3,.bool a.1.f4,w9 q.1,w9 a.1.f6],0,false⟩
   let K1:List Blk:=[U,z,M,A,L,⟨[],0,false⟩,N,D,I]
   refine oH 5 (atN 4 (ctl1 i63p15)) ((36,.slice 8 7 0 1 7)::(35,.agg [.i a.1.f0,.str a.1.f1,q29 a.1.f2,.bool a.1.f3,.bool a.1.f4,w9 q.1,w9 a.1.f6])::(34,.own 4 (x.2).length 7)::(33,.ptr 2 7 2)::E9) (mkH K1) ?_
   refine oC (λ(u:List S28)=>(.own 4 (u).length 7,(mkH [U,z,M,A,⟨(u).flatMap e29,0,false⟩,⟨[],0,false⟩,N,D,I]))) (atN 5 (ctl1 i63p15)) 37 (appH (sz:=7) qA2 rfl qAh K1 4 104 x.2 ([(⟨a.1.f0,a.1.f1,a.1.f2,a.1.f3,a.1.f4,q.1,a.1.f6⟩:S28)]:List S28) rfl rfl Kr) λu a7=>?_
   let a8:Env:=[(0,.ptr 0 4 0),(2,.ptr 1 7 0),(3,.ptr 2 7 0)]
   let b5:Blk:=⟨[.i 20,.str i63c0,.own 4 (u).length 7,.bool false,.bool false,.nils,.nils],7,false⟩
   let O:Blk:=⟨(u).flatMap e29,0,false⟩
   refine oLH 5 i63p17 a8 (mkH [U,z,b5,A,O,⟨[],0,false⟩,N,D,I]) ?_
   refine oR 2 (atN 1 (ctl1 i63p17)) ((40,.ptr 0 4 0)::a8) ?_
   refine oN (λ(g:Ri11)=>w9 g.1) (λg=>[⟨[.str m,w44 n,.i g.2,.i o],4,false⟩,z,b5,A,O,⟨[],0,false⟩,N,D,I]) (atN 2 (ctl1 i63p17)) 41 [0] [] [] [.ptr 0 4 0] (qAr k m n a.2 o) trivial (λ_=>trivial) λg a9=>?_
   let V:Blk:=⟨[.i 20,.str i63c0,.own 4 (u).length 7,.bool false,.bool false,.nils,w9 g.1],7,false⟩
   refine oH 11 (atN 1 (ctl1 i63p12)) ((44,.ptr 0 4 0)::(43,.ptr 2 7 6)::(42,w9 g.1)::(4,w9 g.1)::(41,w9 g.1)::(40,.ptr 0 4 0)::a8) (mkH [⟨[.str m,w44 n,.i g.2,.i o],4,false⟩,z,V,A,O,⟨[],0,false⟩,N,D,I]) ?_
   refine oX (λ(j:Int) => .tuple []) (λj=>[⟨[.str m,w44 n,.i j,.i o],4,false⟩,z,V,A,O,⟨[],0,false⟩,N,D,I]) (atN 2 (ctl1 i63p12)) 45 [0] [] [] [0,2] [0,0,0,1,1] [.ptr 0 4 0,.str [101,110,100]] (qB2 k ([101,110,100]:LN) m n g.2 o) trivial (λ_=>trivial) ⟨u29 _,u29 _,trivial⟩ λj J=>?_
   refine oL 2 i63p14 [(2,.ptr 1 7 0),(3,.ptr 2 7 0)] ?_
   exact oQF 5 [⟨[.str m,w44 n,.i j,.i o],4,false⟩,V,V,A,O,⟨[],0,false⟩,N,D,I] 1 [] [.agg [.i 20,.str i63c0,.own 4 (u).length 7,.bool false,.bool false,.nils,w9 g.1]] (.agg [.i 20,.str i63c0,w29 u,.bool false,.bool false,.vec 0 1 [],w9 g.1]) (.agg (.cs (.cs (qAl qA2 qAf rfl rfl rfl (.cs (.cs (.nil .ps)))))) .ps) trivial
  ·let W:Blk:=⟨[.i 20,.str [],.own 4 (x.2).length 7,.bool false,.bool false,.nils,w9 q.1],7,false⟩
   refine oLH 9 i63p12 [(0,.ptr 0 4 0),(2,.ptr 1 7 0),(3,.ptr 2 7 0)] (mkH [⟨[.str m,w44 n,.i l.2,.i o],4,false⟩,z,W,A,L]) ?_
   refine oR 2 (atN 1 (ctl1 i63p12)) ((44,.ptr 0 4 0)::[(0,.ptr 0 4 0),(2,.ptr 1 7 0),(3,.ptr 2 7 0)]) ?_
   refine oX (λ(j:Int) => .tuple []) (λj=>[⟨[.str m,w44 n,.i j,.i o],4,false⟩,z,W,A,L]) (atN 2 (ctl1 i63p12)) 45 [0] [] [] [0,2] [0,0,0,1,1] [.ptr 0 4 0,.str [101,110,100]] (qB2 k ([101,110,100]:LN) m n l.2 o) trivial (λ_=>trivial) ⟨u29 _,u29 _,trivial⟩ λj J=>?_
   exact oQF 7 [⟨[.str m,w44 n,.i j,.i o],4,false⟩,W,W,A,L] 1 [] [.agg [.i 20,.str [],.own 4 (x.2).length 7,.bool false,.bool false,.nils,w9 q.1]] (.agg [.i 20,.str [],w29 x.2,.bool false,.bool false,.vec 0 1 [],w9 q.1]) (.agg (.cs (.cs (qAl qA2 qAf rfl rfl rfl (.cs (.cs (.nil .ps)))))) .ps) trivial
 ·refine oR 6 (atN 1 (ctl1 i63p6)) ((21,.ptr 0 4 0)::(12,.bool false)::E2) ?_
  refine oX (λ(l:(Bool×Int)) => .bool l.1) (λl=>[⟨[.str m,w44 n,.i l.2,.i o],4,false⟩,z,K,A]) (atN 2 (ctl1 i63p6)) 22 [0] [] [] [2] [0,0,0,1] [.ptr 0 4 0,.str i63c0] (qAe k i63c0 m n c.2 o) trivial (λ_=>trivial) ⟨u29 _,trivial⟩ λl a4=>?_
  refine oL 1 i63p8 [(0,.ptr 0 4 0),(2,.ptr 1 7 0),(3,.ptr 2 7 0),(4,w9 c.1),(22,.bool l.1)] ?_
  let b0:Env:=[(0,.ptr 0 4 0),(2,.ptr 1 7 0),(3,.ptr 2 7 0),(4,w9 c.1),(22,.bool l.1)]
  refine oS 22 (λhb=>?_) (λhb=>?_)
  ·refine oR 4 (atN 1 (ctl1 i63p9)) ((23,.ptr 0 4 0)::(22,.bool true)::b0) ?_
   refine oX (λ(b:(S28×Int))=>n29 b.1) (λb=>[⟨[.str m,w44 n,.i b.2,.i o],4,false⟩,z,K,A]) (atN 2 (ctl1 i63p9)) 24 [0] [] [] [0,2] [0,0,0,1] [.ptr 0 4 0,.i 1] (hF.i9_ok (1:Int) m n l.2 o) trivial (λ_=>trivial) ⟨u29 _,trivial⟩ λb a5=>?_
   let b1:Blk:=⟨[.str m,w44 n,.i b.2,.i o],4,false⟩
   refine oH 1 (atN 3 (ctl1 i63p9)) ((25,.slice 4 7 0 1 7)::(24,n29 b.1)::(23,.ptr 0 4 0)::(22,.bool true)::b0) (mkH [b1,z,K,A,⟨e29 b.1,0,false⟩]) ?_
   refine oZ 25 4 1 7 [.i b.1.f0,.str b.1.f1,q29 b.1.f2,.bool b.1.f3,.bool b.1.f4,w9 b.1.f5,w9 b.1.f6] [0,2,3,4,22,23,24] [0,0,0,1] ⟨u29 _,trivial⟩ ?_
   let B:Blk:=⟨[.i 23,.str [],w29 ([b.1]:List S28),.bool false,.bool false,.nils,.nils],7,false⟩
   refine oH 9 (atN 3 (ctl1 i63p11)) [(29,.agg [.i 24,.str [],.nils,.bool false,.bool false,.nils,.nils]),(28,.agg [.i 23,.str [],w29 ([b.1]:List S28),.bool false,.bool false,.nils,.nils]),(27,.ptr 0 4 0),(5,.ptr 5 7 0),(26,.agg [.i 23,.str [],w29 ([b.1]:List S28),.bool false,.bool false,.nils,.nils]),(25,w29 ([b.1]:List S28)),(0,.ptr 0 4 0),(2,.ptr 1 7 0),(3,.ptr 2 7 0),(4,w9 c.1),(22,.bool true),(23,.ptr 0 4 0),(24,n29 b.1)] (mkH [b1,z,K,A,⟨[],0,false⟩,B]) ?_
   refine oXW 0 [b1,z,K,A,⟨[],0,false⟩,B] (λ(a:(S28×Int))=>n29 a.1) (λa=>[⟨[.str m,w44 n,.i a.2,.i o],4,false⟩,z,K,A,⟨[],0,false⟩,B]) (atN 4 (ctl1 i63p11)) 30 [0] [] [] [0,2] [0,0,0,1] [0,0,0,1] [.ptr 0 4 0,.str [],.agg [.i 23,.str [],w29 ([b.1]:List S28),.bool false,.bool false,.nils,.nils],.agg [.i 24,.str [],.nils,.bool false,.bool false,.nils,.nils]] [.ptr 0 4 0,.str [],.agg [.i 23,.str [],w29 ([b.1]:List S28),.bool false,.bool false,w9 ([]:LL),w9 ([]:LL)],.agg [.i 24,.str [],w29 ([]:List S28),.bool false,.bool false,w9 ([]:LL),w9 ([]:LL)]] (.cons (.cons (.agg (.cons (.cons (.cons (.cons (.cons (.nil (.nil (.refl)))))))) (.agg (.cons (.cons (.nil (.cons (.cons (.nil (.nil (.refl)))))))) (.refl))))) (hF.i27_ok ([]:LN) (⟨23,([]:LN),(⟨(([b.1]:List S28)).length,(([b.1]:List S28)).flatMap e29⟩:Raw),false,false,([]:LL),([]:LL)⟩:S28) (⟨24,([]:LN),(⟨(([]:List S28)).length,(([]:List S28)).flatMap e29⟩:Raw),false,false,([]:LL),([]:LL)⟩:S28) m n b.2 o) trivial (λ_=>trivial) ⟨u29 _,trivial⟩ λa a6=>?_
   let Q:Blk:=⟨[.str m,w44 n,.i a.2,.i o],4,false⟩
   refine oLH 4 i63p13 [(0,.ptr 0 4 0),(2,.ptr 1 7 0),(3,.ptr 2 7 0),(4,w9 c.1),(6,.ptr 6 7 0)] (mkH [Q,z,K,A,⟨[],0,false⟩,B,⟨e29 a.1,7,false⟩]) ?_
   let E:Blk:=⟨[.i a.1.f0,.str a.1.f1,q29 a.1.f2,.bool a.1.f3,.bool a.1.f4,w9 c.1,w9 a.1.f6],7,false⟩
   let G:Blk:=⟨[.i a.1.f0,.str a.1.f1,q29 a.1.f2,.bool a.1.f3,.bool a.1.f4,w9 c.1,w9 a.1.f6],0,false⟩
   refine oH 11 (atN 4 (ctl1 i63p15)) ((36,.slice 7 7 0 1 7)::(35,.agg [.i a.1.f0,.str a.1.f1,q29 a.1.f2,.bool a.1.f3,.bool a.1.f4,w9 c.1,w9 a.1.f6])::(34,.own 3 (([]:List S28)).length 7)::(33,.ptr 2 7 2)::(32,.ptr 6 7 5)::(31,w9 c.1)::[(0,.ptr 0 4 0),(2,.ptr 1 7 0),(3,.ptr 2 7 0),(4,w9 c.1),(6,.ptr 6 7 0)]) (mkH [Q,z,K,A,⟨[],0,false⟩,B,E,G]) ?_
   refine oC (λ(u:List S28)=>(.own 3 (u).length 7,(mkH [Q,z,K,⟨(u).flatMap e29,0,false⟩,⟨[],0,false⟩,B,E,G]))) (atN 5 (ctl1 i63p15)) 37 (appH (sz:=7) qA2 rfl qAh [Q,z,K,A,⟨[],0,false⟩,B,E,G] 3 104 ([]:List S28) ([(⟨a.1.f0,a.1.f1,a.1.f2,a.1.f3,a.1.f4,c.1,a.1.f6⟩:S28)]:List S28) rfl rfl Kr) λu a7=>?_
   let b6:Blk:=⟨[.i 20,.str i63c0,.own 3 (u).length 7,.bool false,.bool false,.nils,.nils],7,false⟩
   let S:Blk:=⟨(u).flatMap e29,0,false⟩
   refine oLH 5 i63p17 [(0,.ptr 0 4 0),(2,.ptr 1 7 0),(3,.ptr 2 7 0)] (mkH [Q,z,b6,S,⟨[],0,false⟩,B,E,G]) ?_
   let b7:Env:=[(0,.ptr 0 4 0),(2,.ptr 1 7 0),(3,.ptr 2 7 0)]
   refine oR 2 (atN 1 (ctl1 i63p17)) ((40,.ptr 0 4 0)::b7) ?_
   refine oN (λ(g:Ri11)=>w9 g.1) (λg=>[⟨[.str m,w44 n,.i g.2,.i o],4,false⟩,z,b6,S,⟨[],0,false⟩,B,E,G]) (atN 2 (ctl1 i63p17)) 41 [0] [] [] [.ptr 0 4 0] (qAr k m n a.2 o) trivial (λ_=>trivial) λg a9=>?_
   let Y:Blk:=⟨[.i 20,.str i63c0,.own 3 (u).length 7,.bool false,.bool false,.nils,w9 g.1],7,false⟩
   refine oH 11 (atN 1 (ctl1 i63p12)) ((44,.ptr 0 4 0)::(43,.ptr 2 7 6)::(42,w9 g.1)::(4,w9 g.1)::(41,w9 g.1)::(40,.ptr 0 4 0)::b7) (mkH [⟨[.str m,w44 n,.i g.2,.i o],4,false⟩,z,Y,S,⟨[],0,false⟩,B,E,G]) ?_
   refine oX (λ(j:Int) => .tuple []) (λj=>[⟨[.str m,w44 n,.i j,.i o],4,false⟩,z,Y,S,⟨[],0,false⟩,B,E,G]) (atN 2 (ctl1 i63p12)) 45 [0] [] [] [0,2] [0,0,0,1] [.ptr 0 4 0,.str [101,110,100]] (qB2 k ([101,110,100]:LN) m n g.2 o) trivial (λ_=>trivial) ⟨u29 _,trivial⟩ λj J=>?_
   refine oL 2 i63p14 [(2,.ptr 1 7 0),(3,.ptr 2 7 0)] ?_
   exact oQF 5 [⟨[.str m,w44 n,.i j,.i o],4,false⟩,Y,Y,S,⟨[],0,false⟩,B,E,G] 1 [] [.agg [.i 20,.str i63c0,.own 3 (u).length 7,.bool false,.bool false,.nils,w9 g.1]] (.agg [.i 20,.str i63c0,w29 u,.bool false,.bool false,.vec 0 1 [],w9 g.1]) (.agg (.cs (.cs (qAl qA2 qAf rfl rfl rfl (.cs (.cs (.nil .ps)))))) .ps) trivial
  ·let Z:Blk:=⟨[.i 20,.str [],.own 3 (([]:List S28)).length 7,.bool false,.bool false,.nils,w9 c.1],7,false⟩
   refine oH 11 (atN 1 (ctl1 i63p12)) ((44,.ptr 0 4 0)::(43,.ptr 2 7 6)::(42,w9 c.1)::(22,.bool false)::b0) (mkH [⟨[.str m,w44 n,.i l.2,.i o],4,false⟩,z,Z,A]) ?_
   refine oX (λ(j:Int) => .tuple []) (λj=>[⟨[.str m,w44 n,.i j,.i o],4,false⟩,z,Z,A]) (atN 2 (ctl1 i63p12)) 45 [0] [] [] [0,2] [0,0,0,1] [.ptr 0 4 0,.str [101,110,100]] (qB2 k ([101,110,100]:LN) m n l.2 o) trivial (λ_=>trivial) ⟨u29 _,trivial⟩ λj J=>?_
   refine oL 2 i63p14 [(2,.ptr 1 7 0),(3,.ptr 2 7 0)] ?_
   exact oQF 5 [⟨[.str m,w44 n,.i j,.i o],4,false⟩,Z,Z,A] 1 [] [.agg [.i 20,.str [],.own 3 (([]:List S28)).length 7,.bool false,.bool false,.nils,w9 c.1]] (.agg [.i 20,.str [],w29 ([]:List S28),.bool false,.bool false,.vec 0 1 [],w9 c.1]) (.agg (.cs (.cs (qAl qA2 qAf rfl rfl rfl (.cs (.cs (.nil .ps)))))) .ps) trivial
theorem i63B_ok (k:Nat) (F:Fns0) (a:FnsOk0 F):Pi63 (i63B k F):=λb c g j=>⟨λx h=>qJd k F a b c g j (some x) h,λh=>⟨_,qJd k F a b c g j none h⟩⟩
def i64p1:Pt:=nav [0,0,0] (nav [0] (bodyAt Tryz.f129))
def i64p2:Pt:=nav [0,0,0,0,0] i64p1
def i64p3:Pt:=nav [0,0,0] i64p2
def i64p4:Pt:=nav [0,0] i64p3
def i64p5:Pt:=nav [1,0,0] i64p4
def i64d0:DP:=⟨[14],[(0,0,0),(1,0,1),(0,0,0),(4,0,0),(12,0,0),(31,0,0),(63,0,0),(127,0,0)],8,thrown,[],H0⟩
def qH8 (k:Nat) (F:Fns0)  (j:LN) (l:List S43) (n:Int) (m:Int) (ih:Int→(List S28)→Option (Option (S28×Int))):Int→(List S28)→Option (Option (S28×Int)) :=
 λ(g:Int) (a:List S28)=>bT (i13 k ([44]:LN) j l g m) λb=>if b.1 then (bT (F.i9 (1:Int) j l b.2 m) λc=>(appS 104 a ([c.1]:List S28)).bind λh=>ih c.2 h) else (some (some ((⟨(25:Int),([]:LN),⟨(a).length,(a).flatMap e29⟩,false,false,([]:LL),([]:LL)⟩:S28),b.2)))
def qMd (k:Nat) (F:Fns0)  (a:LN) (b:List S43) (c:Int) (g:Int) (n:Nat):Int→(List S28)→Option (Option (S28×Int)):=lp (λ_ _=>none) (qH8 k F a b c g) n
theorem qMc (k:Nat) (F:Fns0) (J:FnsOk0 F) (q:LN) (r:List S43) (G:Int) (u:Int)    : ∀ (n:Nat) (j:Int) (c:List S28),Ok (Xi64 q r G u) i64p2 [(0,.ptr 0 4 0),(2,.ptr 1 7 0),(3,.ptr 3 7 0)] (mkH [⟨[.str q,w44 r,.i j,.i u],4,false⟩,⟨[.i 0,.str [],.nils,.bool false,.bool false,.nils,.nils],0,false⟩,⟨(c).flatMap e29,0,false⟩,⟨[.i 25,.str [],.own 2 (c).length 7,.bool false,.bool false,.nils,.nils],7,false⟩]) (qMd k F q r G u n j c):=by
 intro n
 induction n with
 | zero=>intro j c; exact ok_none
 | succ n ih =>
  intro j c
  show Ok _ _ _ _ (qH8 k F q r G u (qMd k F q r G u n) j c)
  unfold qH8
  refine qAd (p':=nav [0] i64p2) Kr ?_
  let l:Blk:=⟨[.i 0,.str [],.nils,.bool false,.bool false,.nils,.nils],0,false⟩
  let o:Blk:=⟨(c).flatMap e29,0,false⟩
  let m:Blk:=⟨[.i 25,.str [],.own 2 (c).length 7,.bool false,.bool false,.nils,.nils],7,false⟩
  refine oH 4 (atN 1 (ctl1 i64p3)) [(8,.ptr 0 4 0),(0,.ptr 0 4 0),(2,.ptr 1 7 0),(3,.ptr 3 7 0)] (mkH [⟨[.str q,w44 r,.i j,.i u],4,false⟩,l,o,m]) ?_
  refine oX (λ(g:(Bool×Int)) => .bool g.1) (λg=>[⟨[.str q,w44 r,.i g.2,.i u],4,false⟩,l,o,m]) (atN 2 (ctl1 i64p3)) 9 [0] [] [] [3] [0,0,1] [.ptr 0 4 0,.str [44]] (qAe k ([44]:LN) q r j u) trivial (λ_=>trivial) ⟨u29 _,trivial⟩ λg I=>?_
  let K:Env:=[(9,.bool g.1),(8,.ptr 0 4 0),(0,.ptr 0 4 0),(2,.ptr 1 7 0),(3,.ptr 3 7 0)]
  refine oR 1 i64p4 K ?_
  refine oS 9 (λN=>?_) (λN=>?_)
  ·refine oR 3 i64p5 ((9,.bool true)::K) ?_
   refine qC9 (λh=>?_) (λb C=>?_)
   ·let z:Env:=[(12,.ptr 0 4 0),(11,.own 2 (c).length 7),(10,.ptr 3 7 2),(9,.bool true),(9,.bool g.1),(8,.ptr 0 4 0),(0,.ptr 0 4 0),(2,.ptr 1 7 0),(3,.ptr 3 7 0)]
    let B:Blk:=⟨[.str q,w44 r,.i g.2,.i u],4,false⟩
    exact qAu (eE:=((16,.top)::(15,.top)::(14,.top)::(13,.top)::z)) (i64d0.th 3 thrown [0,3] (mkH [B,l,o,m])) (hs:=[(mkH [B,l,o,m]),(mkH [B,l,o,m]),(mkH [B,l,o,m])]) (LX:=[⟨[.str q,w44 r,.i G,.i u],4,false⟩]) (L:=[B,l,o,m]) rfl rfl rfl Kr rfl ⟨.inl rfl,trivial⟩ Kr Kr Kr Kr (qAc 3 (l':=(opsAt i64p5).toList.drop 3) (eE:=z) (H':=(mkH [B,l,o,m])) (hs:=[]) Kr (qAt (l':=(opsAt i64p5).toList.drop 4) (eE:=((13,.top)::z)) (hs:=[(mkH [B,l,o,m])]) (fi:=21) (args:=[.ptr 0 4 0,.i 1]) Kr Kr (frS 0 (M:=[B,l,o,m]) (rs:=[0]) (ms:=[]) (mv:=[0,0,1]) (mm:=[0,0,1]) (D:=[0,3]) (xs':=[.ptr 0 4 0,.i 1]) (.refl) ((J.i9_ok (1:Int) q r g.2 u).2 h) trivial ⟨u29 _,trivial⟩ Kr) Kr (qA4 (l':=(opsAt i64p5).toList.drop 5) (eE:=((14,.top)::(13,.top)::z)) (hs:=[]) Kr Kr (qA4 (l':=(opsAt i64p5).toList.drop 6) (eE:=((15,.top)::(14,.top)::(13,.top)::z)) (hs:=[(mkH [B,l,o,m])]) Kr Kr (qA4 (l':=(opsAt i64p5).toList.drop 7) (eE:=((16,.top)::(15,.top)::(14,.top)::(13,.top)::z)) (hs:=[]) Kr Kr (qA4 (l':=(opsAt i64p5).toList.drop 8) (eE:=((16,.top)::(15,.top)::(14,.top)::(13,.top)::z)) (hs:=[(mkH [B,l,o,m])]) Kr Kr (.nil))))))) Kr Kr
   ·refine qA7 (λa E=>?_)
    let z:Env:=[(12,.ptr 0 4 0),(11,.own 2 (c).length 7),(10,.ptr 3 7 2),(9,.bool true),(9,.bool g.1),(8,.ptr 0 4 0),(0,.ptr 0 4 0),(2,.ptr 1 7 0),(3,.ptr 3 7 0)]
    let A:Blk:=⟨[.str q,w44 r,.i b.2,.i u],4,false⟩
    refine oD (H':=(mkH [A,l,⟨(a).flatMap e29,0,false⟩,⟨[.i 25,.str [],.own 2 (a).length 7,.bool false,.bool false,.nils,.nils],7,false⟩])) (nav [0] i64p5) ((16,.ptr 3 7 2)::(15,.own 2 (a).length 7)::(14,w29 ([b.1]:List S28))::(13,n29 b.1)::z) [(mkH [A,l,o,m]),(mkH [A,l,⟨(a).flatMap e29,0,false⟩,m]),(mkH [A,l,⟨(a).flatMap e29,0,false⟩,⟨[.i 25,.str [],.own 2 (a).length 7,.bool false,.bool false,.nils,.nils],7,false⟩])] i64d0 (oDr 3 3 z (qA6 (l':=(opsAt i64p5).toList.drop 4) (eE:=((13,n29 b.1)::z)) (hs:=[(mkH [A,l,o,m])]) (H':=(mkH [A,l,o,m])) (fi:=21) (args:=[.ptr 0 4 0,.i 1]) (v:=n29 b.1) Kr (frC (rs:=[0]) (ms:=[]) (ms':=[]) ((J.i9_ok (1:Int) q r g.2 u).1 b C) trivial trivial Kr) Kr (oDr 1 5 ((14,w29 ([b.1]:List S28))::(13,n29 b.1)::z) (qAb (l':=(opsAt i64p5).toList.drop 6) (eE:=((15,.own 2 (a).length 7)::(14,w29 ([b.1]:List S28))::(13,n29 b.1)::z)) (hs:=[(mkH [A,l,⟨(a).flatMap e29,0,false⟩,m])]) (x:=a) (λ(a:List S28)=>(.own 2 (a).length 7,(mkH [A,l,⟨(a).flatMap e29,0,false⟩,m]))) (appHV (sz:=7) qA2 rfl qAh [A,l,o,m] 2 104 c ([b.1]:List S28) rfl rfl Kr) E Kr (oDh 2 8 ((16,.ptr 3 7 2)::(15,.own 2 (a).length 7)::(14,w29 ([b.1]:List S28))::(13,n29 b.1)::z) (mkH [A,l,⟨(a).flatMap e29,0,false⟩,⟨[.i 25,.str [],.own 2 (a).length 7,.bool false,.bool false,.nils,.nils],7,false⟩]) [(mkH [A,l,⟨(a).flatMap e29,0,false⟩,⟨[.i 25,.str [],.own 2 (a).length 7,.bool false,.bool false,.nils,.nils],7,false⟩])] .nil))))) ?_
    refine oK [0,2,3] [(0,.ptr 0 4 0),(2,.ptr 1 7 0),(3,.ptr 3 7 0)] ?_
    exact ih b.2 a
  ·exact oQF 8 [⟨[.str q,w44 r,.i g.2,.i u],4,false⟩,m,o,m] 1 [] [.agg [.i 25,.str [],.own 2 (c).length 7,.bool false,.bool false,.nils,.nils]] (.agg [.i 25,.str [],w29 c,.bool false,.bool false,.vec 0 1 [],.vec 0 1 []]) (.agg (.cs (.cs (qAl qA2 qAf rfl rfl rfl (.cs (.cs (.nil (.nil .ps))))))) .ps) trivial
def i64B (k:Nat) (F:Fns0) (b:LN) (c:List S43) (g:Int) (h:Int):Option (Option (S28×Int)) :=
 bT (F.i9 (1:Int) b c g h) λa=>qMd k F b c g h k a.2 ([a.1]:List S28)
theorem qJc (k:Nat) (F:Fns0) (n:FnsOk0 F):∀ b c j g r,i64B k F b c j g=some r→CallT Tryz.prog 129 [.ptr 0 4 0] (mkH [⟨[.str b,w44 c,.i j,.i g],4,false⟩]) ((Xi64 b c j g).thr r) ((Xi64 b c j g).enc r) ((Xi64 b c j g).fin r):=by
 intro b c j g r h
 refine qA0 (Xi64 b c j g) Tryz.func129 Kr Kr rfl (t:=i64B k F b c j g) ?_ h
 unfold i64B
 refine qA1 (eE:=[(0,.ptr 0 4 0)]) Kr ?_
 let l:Blk:=⟨[.i 0,.str [],.nils,.bool false,.bool false,.nils,.nils],0,false⟩
 refine oH 7 (atN 1 (ctl1 i64p1)) [(4,.ptr 0 4 0),(2,.ptr 1 7 0),(0,.ptr 0 4 0)] (mkH [⟨[.str b,w44 c,.i j,.i g],4,false⟩,l]) ?_
 refine oX (λ(a:(S28×Int))=>n29 a.1) (λa=>[⟨[.str b,w44 c,.i a.2,.i g],4,false⟩,l]) (atN 2 (ctl1 i64p1)) 5 [0] [] [] [0] [] [.ptr 0 4 0,.i 1] (n.i9_ok (1:Int) b c j g) trivial (λ_=>trivial) trivial λa m=>?_
 let o:Blk:=⟨[.str b,w44 c,.i a.2,.i g],4,false⟩
 refine oH 1 (atN 3 (ctl1 i64p1)) [(6,.slice 2 7 0 1 7),(5,n29 a.1),(4,.ptr 0 4 0),(2,.ptr 1 7 0),(0,.ptr 0 4 0)] (mkH [o,l,⟨e29 a.1,0,false⟩]) ?_
 refine qAz 6 2 7 1 7 Kr rfl ?_
 refine oLH 7 i64p2 [(0,.ptr 0 4 0),(2,.ptr 1 7 0),(3,.ptr 3 7 0)] (mkH [o,l,⟨(([a.1]:List S28)).flatMap e29,0,false⟩,⟨[.i 25,.str [],.own 2 (([a.1]:List S28)).length 7,.bool false,.bool false,.nils,.nils],7,false⟩]) ?_
 exact (qMc k F n b c j g k) a.2 ([a.1]:List S28)
theorem i64B_ok (k:Nat) (F:Fns0) (a:FnsOk0 F):Pi64 (i64B k F):=λb c g j=>⟨λx h=>qJc k F a b c g j (some x) h,λh=>⟨_,qJc k F a b c g j none h⟩⟩
def i78p1:Pt:=nav [0,0,0,0] (nav [0] (bodyAt Tryz.f32))
def i78p2:Pt:=nav [0,0,0,0,0] i78p1
def i78p4:Pt:=nav [0,0,0] (nav [0,0,0] i78p2)
def i78p5:Pt:=nav [0,0,0,0] i78p4
def i78p6:Pt:=nav [0,0] i78p5
def i78p7:Pt:=nav [1,0] i78p6
def qH3 (k:Nat) (F:Fns0)  (m:LN) (n:List S43) (o:Int) (ih:LL→Int→(List S28)→Option (Option Ri78)):LL→Int→(List S28)→Option (Option Ri78) :=
 λ(h:LL) (j:Int) (l:List S28)=>bT (F.i85 m n j o) λa=>(appS 104 l ([(⟨a.1.f0,a.1.f1,a.1.f2,a.1.f3,a.1.f4,h,a.1.f6⟩:S28)]:List S28)).bind λc=>bT (i13 k ([59]:LN) m n a.2 o) λb=>if b.1 then ((i11 k m n b.2 o).bind λg=>ih g.1 g.2 c) else (some (some (c,b.2)))
def qM7 (k:Nat) (F:Fns0)  (a:LN) (b:List S43) (c:Int) (n:Nat):LL→Int→(List S28)→Option (Option Ri78):=lp (λ_ _ _=>none) (qH3 k F a b c) n
theorem qM6 (k:Nat) (F:Fns0) (J:FnsOk0 F) (K:LL) (m:LN) (o:List S43) (L:Int) (q:Int)    : ∀ (n:Nat) (b:LL) (l:Int) (c:List S28),Ok (Xi78 K m o L q) i78p2 [(0,.ptr 0 4 0),(1,w9 b),(2,.func 145 [] [.ptr 1 1 0]),(7,.own 2 (c).length 7)] (mkH [⟨[.str m,w44 o,.i l,.i q],4,false⟩,⟨[.ptr 0 4 0],1,false⟩,⟨(c).flatMap e29,0,false⟩]) (qM7 k F m o q n b l c):=by
 intro n
 induction n with
 | zero=>intro b l c; exact ok_none
 | succ n ih =>
  intro b l c
  show Ok _ _ _ _ (qH3 k F m o q (qM7 k F m o q n) b l c)
  unfold qH3
  let I:Env:=[(9,.func 145 [] [.ptr 1 1 0]),(0,.ptr 0 4 0),(1,w9 b),(2,.func 145 [] [.ptr 1 1 0]),(7,.own 2 (c).length 7)]
  let z:Blk:=⟨(c).flatMap e29,0,false⟩
  refine oH 2 (atN 1 (ctl1 i78p2)) I (mkH [⟨[.str m,w44 o,.i l,.i q],4,false⟩,⟨[.ptr 0 4 0],1,false⟩,z]) ?_
  refine oX (λ(a:(S28×Int))=>n29 a.1) (λa=>[⟨[.str m,w44 o,.i a.2,.i q],4,false⟩,⟨[.ptr 0 4 0],1,false⟩,z]) (atN 2 (ctl1 i78p2)) 10 [0,1] [] [] [0,1] [0,0,1] [.ptr 1 1 0] (J.i85_ok m o l q) trivial (λ_=>trivial) ⟨u29 _,trivial⟩ λa B=>?_
  let A:Blk:=⟨[.str m,w44 o,.i a.2,.i q],4,false⟩
  let r:Blk:=⟨[.i a.1.f0,.str a.1.f1,q29 a.1.f2,.bool a.1.f3,.bool a.1.f4,w9 b,w9 a.1.f6],7,false⟩
  let u:Blk:=⟨[.i a.1.f0,.str a.1.f1,q29 a.1.f2,.bool a.1.f3,.bool a.1.f4,w9 b,w9 a.1.f6],0,false⟩
  refine oH 14 (atN 3 (ctl1 i78p4)) ((15,.slice 4 7 0 1 7)::(14,.agg [.i a.1.f0,.str a.1.f1,q29 a.1.f2,.bool a.1.f3,.bool a.1.f4,w9 b,w9 a.1.f6])::(13,.own 2 (c).length 7)::(12,.ptr 3 7 5)::(11,w9 b)::(8,.ptr 3 7 0)::(10,n29 a.1)::I) (mkH [A,⟨[.ptr 0 4 0],1,false⟩,z,r,u]) ?_
  refine oC (λ(g:List S28)=>(.own 2 (g).length 7,(mkH [A,⟨[.ptr 0 4 0],1,false⟩,⟨(g).flatMap e29,0,false⟩,r,u]))) (atN 4 (ctl1 i78p4)) 16 (appH (sz:=7) qA2 rfl qAh [A,⟨[.ptr 0 4 0],1,false⟩,z,r,u] 2 104 c ([(⟨a.1.f0,a.1.f1,a.1.f2,a.1.f3,a.1.f4,b,a.1.f6⟩:S28)]:List S28) rfl rfl Kr) λg C=>?_
  let x:Blk:=⟨(g).flatMap e29,0,false⟩
  refine oLH 4 i78p5 [(0,.ptr 0 4 0),(2,.func 145 [] [.ptr 1 1 0]),(7,.own 2 (g).length 7)] (mkH [A,⟨[.ptr 0 4 0],1,false⟩,x,r,u]) ?_
  let D:Env:=[(0,.ptr 0 4 0),(2,.func 145 [] [.ptr 1 1 0]),(7,.own 2 (g).length 7)]
  refine oR 2 (atN 1 (ctl1 i78p5)) ((17,.ptr 0 4 0)::D) ?_
  refine oX (λ(h:(Bool×Int)) => .bool h.1) (λh=>[⟨[.str m,w44 o,.i h.2,.i q],4,false⟩,⟨[.ptr 0 4 0],1,false⟩,x,r,u]) (atN 2 (ctl1 i78p5)) 18 [0] [] [] [1] [0,0,1] [.ptr 0 4 0,.str [59]] (qAe k ([59]:LN) m o a.2 q) trivial (λ_=>trivial) ⟨u29 _,trivial⟩ λh E=>?_
  refine oR 1 i78p6 ((18,.bool h.1)::(17,.ptr 0 4 0)::D) ?_
  refine oS 18 (λM=>?_) (λM=>?_)
  ·refine oR 4 (atN 1 (ctl1 i78p7)) ((19,.ptr 0 4 0)::(18,.bool true)::(18,.bool h.1)::(17,.ptr 0 4 0)::D) ?_
   refine oN (λ(j:Ri11)=>w9 j.1) (λj=>[⟨[.str m,w44 o,.i j.2,.i q],4,false⟩,⟨[.ptr 0 4 0],1,false⟩,x,r,u]) (atN 2 (ctl1 i78p7)) 20 [0] [] [] [.ptr 0 4 0] (qAr k m o h.2 q) trivial (λ_=>trivial) λj G=>?_
   refine oL 6 i78p2 [(0,.ptr 0 4 0),(1,w9 j.1),(2,.func 145 [] [.ptr 1 1 0]),(7,.own 2 (g).length 7)] ?_
   refine qA8 [⟨[.str m,w44 o,.i j.2,.i q],4,false⟩,⟨[.ptr 0 4 0],1,false⟩,x] [r,u] Kr rfl Kr ⟨Kr,⟨Kr,⟨(qA _ (u29 _)),trivial⟩⟩⟩ ?_
   exact ih j.1 j.2 g
  ·exact oQF 8 [⟨[.str m,w44 o,.i h.2,.i q],4,false⟩,⟨[.ptr 0 4 0],1,false⟩,x,r,u] 2 [] [.own 2 (g).length 7] (w29 g) (qAl qA2 qAf rfl rfl rfl .ps) trivial
def i78B (k:Nat) (F:Fns0) (a:LL) (b:LN) (c:List S43) (g:Int) (h:Int):Option (Option Ri78) :=
 qM7 k F b c h k a g ([]:List S28)
theorem qJb (k:Nat) (F:Fns0) (n:FnsOk0 F):∀ a c g b j r,i78B k F a c g b j=some r→CallT Tryz.prog 32 [.ptr 0 4 0,w9 a,.func 145 [] [.ptr 1 1 0]] (mkH [⟨[.str c,w44 g,.i b,.i j],4,false⟩,⟨[.ptr 0 4 0],1,false⟩]) ((Xi78 a c g b j).thr r) ((Xi78 a c g b j).enc r) ((Xi78 a c g b j).fin r):=by
 intro a c g b j r h
 refine qA0 (Xi78 a c g b j) Tryz.func32 Kr Kr rfl (t:=i78B k F a c g b j) ?_ h
 unfold i78B
 refine qA1 (eE:=[(0,.ptr 0 4 0),(1,w9 a),(2,.func 145 [] [.ptr 1 1 0])]) Kr ?_
 let m:Env:=[(7,.nils),(6,.nils),(0,.ptr 0 4 0),(1,w9 a),(2,.func 145 [] [.ptr 1 1 0])]
 let l:Blk:=⟨[.str c,w44 g,.i b,.i j],4,false⟩
 refine oH 8 (atN 1 (ctl1 i78p1)) m (mkH [l,⟨[.ptr 0 4 0],1,false⟩]) ?_
 refine qCn [l,⟨[.ptr 0 4 0],1,false⟩] 7 7 rfl Kr ?_
 refine oH 4 i78p2 ((7,.own 2 (([]:List S28)).length 7)::m) (mkH [l,⟨[.ptr 0 4 0],1,false⟩,⟨(([]:List S28)).flatMap e29,0,false⟩]) ?_
 refine oK [0,1,2,7] [(0,.ptr 0 4 0),(1,w9 a),(2,.func 145 [] [.ptr 1 1 0]),(7,.own 2 (([]:List S28)).length 7)] ?_
 exact (qM6 k F n a c g b j k) a b ([]:List S28)
theorem i78B_ok (k:Nat) (F:Fns0) (a:FnsOk0 F):Pi78 (i78B k F):=λb c g j l=>⟨λx h=>qJb k F a b c g j l (some x) h,λh=>⟨_,qJb k F a b c g j l none h⟩⟩
def i79p1:Pt:=nav [0,0,0,0] (nav [0] (bodyAt Tryz.f32))
def i79p2:Pt:=nav [0,0,0,0,0] i79p1
def i79p4:Pt:=nav [0,0,0] (nav [0,0,0] i79p2)
def i79p5:Pt:=nav [0,0,0,0] i79p4
def i79p6:Pt:=nav [0,0] i79p5
def i79p7:Pt:=nav [1,0] i79p6
def qH2 (k:Nat) (F:Fns0)  (m:LN) (n:List S43) (o:Int) (ih:LL→Int→(List S28)→Option (Option Ri79)):LL→Int→(List S28)→Option (Option Ri79) :=
 λ(h:LL) (j:Int) (l:List S28)=>bT (F.i86 m n j o) λa=>(appS 104 l ([(⟨a.1.f0,a.1.f1,a.1.f2,a.1.f3,a.1.f4,h,a.1.f6⟩:S28)]:List S28)).bind λc=>bT (i13 k ([59]:LN) m n a.2 o) λb=>if b.1 then ((i11 k m n b.2 o).bind λg=>ih g.1 g.2 c) else (some (some (c,b.2)))
def qM5 (k:Nat) (F:Fns0)  (a:LN) (b:List S43) (c:Int) (n:Nat):LL→Int→(List S28)→Option (Option Ri79):=lp (λ_ _ _=>none) (qH2 k F a b c) n
theorem qM4 (k:Nat) (F:Fns0) (J:FnsOk0 F) (K:LL) (m:LN) (o:List S43) (L:Int) (q:Int)    : ∀ (n:Nat) (b:LL) (l:Int) (c:List S28),Ok (Xi79 K m o L q) i79p2 [(0,.ptr 0 4 0),(1,w9 b),(2,.func 138 [.ptr 0 4 0] []),(7,.own 1 (c).length 7)] (mkH [⟨[.str m,w44 o,.i l,.i q],4,false⟩,⟨(c).flatMap e29,0,false⟩]) (qM5 k F m o q n b l c):=by
 intro n
 induction n with
 | zero=>intro b l c; exact ok_none
 | succ n ih =>
  intro b l c
  show Ok _ _ _ _ (qH2 k F m o q (qM5 k F m o q n) b l c)
  unfold qH2
  let I:Env:=[(9,.func 138 [.ptr 0 4 0] []),(0,.ptr 0 4 0),(1,w9 b),(2,.func 138 [.ptr 0 4 0] []),(7,.own 1 (c).length 7)]
  let z:Blk:=⟨(c).flatMap e29,0,false⟩
  refine oH 2 (atN 1 (ctl1 i79p2)) I (mkH [⟨[.str m,w44 o,.i l,.i q],4,false⟩,z]) ?_
  refine oX (λ(a:(S28×Int))=>n29 a.1) (λa=>[⟨[.str m,w44 o,.i a.2,.i q],4,false⟩,z]) (atN 2 (ctl1 i79p2)) 10 [0] [] [] [0] [0,1] [.ptr 0 4 0] (J.i86_ok m o l q) trivial (λ_=>trivial) ⟨u29 _,trivial⟩ λa B=>?_
  let A:Blk:=⟨[.str m,w44 o,.i a.2,.i q],4,false⟩
  let r:Blk:=⟨[.i a.1.f0,.str a.1.f1,q29 a.1.f2,.bool a.1.f3,.bool a.1.f4,w9 b,w9 a.1.f6],7,false⟩
  let u:Blk:=⟨[.i a.1.f0,.str a.1.f1,q29 a.1.f2,.bool a.1.f3,.bool a.1.f4,w9 b,w9 a.1.f6],0,false⟩
  refine oH 14 (atN 3 (ctl1 i79p4)) ((15,.slice 3 7 0 1 7)::(14,.agg [.i a.1.f0,.str a.1.f1,q29 a.1.f2,.bool a.1.f3,.bool a.1.f4,w9 b,w9 a.1.f6])::(13,.own 1 (c).length 7)::(12,.ptr 2 7 5)::(11,w9 b)::(8,.ptr 2 7 0)::(10,n29 a.1)::I) (mkH [A,z,r,u]) ?_
  refine oC (λ(g:List S28)=>(.own 1 (g).length 7,(mkH [A,⟨(g).flatMap e29,0,false⟩,r,u]))) (atN 4 (ctl1 i79p4)) 16 (appH (sz:=7) qA2 rfl qAh [A,z,r,u] 1 104 c ([(⟨a.1.f0,a.1.f1,a.1.f2,a.1.f3,a.1.f4,b,a.1.f6⟩:S28)]:List S28) rfl rfl Kr) λg C=>?_
  let x:Blk:=⟨(g).flatMap e29,0,false⟩
  refine oLH 4 i79p5 [(0,.ptr 0 4 0),(2,.func 138 [.ptr 0 4 0] []),(7,.own 1 (g).length 7)] (mkH [A,x,r,u]) ?_
  let D:Env:=[(0,.ptr 0 4 0),(2,.func 138 [.ptr 0 4 0] []),(7,.own 1 (g).length 7)]
  refine oR 2 (atN 1 (ctl1 i79p5)) ((17,.ptr 0 4 0)::D) ?_
  refine oX (λ(h:(Bool×Int)) => .bool h.1) (λh=>[⟨[.str m,w44 o,.i h.2,.i q],4,false⟩,x,r,u]) (atN 2 (ctl1 i79p5)) 18 [0] [] [] [] [0,1] [.ptr 0 4 0,.str [59]] (qAe k ([59]:LN) m o a.2 q) trivial (λ_=>trivial) ⟨u29 _,trivial⟩ λh E=>?_
  refine oR 1 i79p6 ((18,.bool h.1)::(17,.ptr 0 4 0)::D) ?_
  refine oS 18 (λM=>?_) (λM=>?_)
  ·refine oR 4 (atN 1 (ctl1 i79p7)) ((19,.ptr 0 4 0)::(18,.bool true)::(18,.bool h.1)::(17,.ptr 0 4 0)::D) ?_
   refine oN (λ(j:Ri11)=>w9 j.1) (λj=>[⟨[.str m,w44 o,.i j.2,.i q],4,false⟩,x,r,u]) (atN 2 (ctl1 i79p7)) 20 [0] [] [] [.ptr 0 4 0] (qAr k m o h.2 q) trivial (λ_=>trivial) λj G=>?_
   refine oL 6 i79p2 [(0,.ptr 0 4 0),(1,w9 j.1),(2,.func 138 [.ptr 0 4 0] []),(7,.own 1 (g).length 7)] ?_
   refine qA8 [⟨[.str m,w44 o,.i j.2,.i q],4,false⟩,x] [r,u] Kr rfl Kr ⟨Kr,⟨(qA _ (u29 _)),trivial⟩⟩ ?_
   exact ih j.1 j.2 g
  ·exact oQF 8 [⟨[.str m,w44 o,.i h.2,.i q],4,false⟩,x,r,u] 1 [] [.own 1 (g).length 7] (w29 g) (qAl qA2 qAf rfl rfl rfl .ps) trivial
def i79B (k:Nat) (F:Fns0) (a:LL) (b:LN) (c:List S43) (g:Int) (h:Int):Option (Option Ri79) :=
 qM5 k F b c h k a g ([]:List S28)
theorem qJa (k:Nat) (F:Fns0) (n:FnsOk0 F):∀ a c g b j r,i79B k F a c g b j=some r→CallT Tryz.prog 32 [.ptr 0 4 0,w9 a,.func 138 [.ptr 0 4 0] []] (mkH [⟨[.str c,w44 g,.i b,.i j],4,false⟩]) ((Xi79 a c g b j).thr r) ((Xi79 a c g b j).enc r) ((Xi79 a c g b j).fin r):=by
 intro a c g b j r h
 refine qA0 (Xi79 a c g b j) Tryz.func32 Kr Kr rfl (t:=i79B k F a c g b j) ?_ h
 unfold i79B
 refine qA1 (eE:=[(0,.ptr 0 4 0),(1,w9 a),(2,.func 138 [.ptr 0 4 0] [])]) Kr ?_
 let m:Env:=[(7,.nils),(6,.nils),(0,.ptr 0 4 0),(1,w9 a),(2,.func 138 [.ptr 0 4 0] [])]
 let l:Blk:=⟨[.str c,w44 g,.i b,.i j],4,false⟩
 refine oH 8 (atN 1 (ctl1 i79p1)) m (mkH [l]) ?_
 refine qCn [l] 7 7 rfl Kr ?_
 refine oH 4 i79p2 ((7,.own 1 (([]:List S28)).length 7)::m) (mkH [l,⟨(([]:List S28)).flatMap e29,0,false⟩]) ?_
 refine oK [0,1,2,7] [(0,.ptr 0 4 0),(1,w9 a),(2,.func 138 [.ptr 0 4 0] []),(7,.own 1 (([]:List S28)).length 7)] ?_
 exact (qM4 k F n a c g b j k) a b ([]:List S28)
theorem i79B_ok (k:Nat) (F:Fns0) (a:FnsOk0 F):Pi79 (i79B k F):=λb c g j l=>⟨λx h=>qJa k F a b c g j l (some x) h,λh=>⟨_,qJa k F a b c g j l none h⟩⟩
def i80p1:Pt:=nav [0,0,0,0] (nav [0] (bodyAt Tryz.f32))
def i80p2:Pt:=nav [0,0,0,0,0] i80p1
def i80p4:Pt:=nav [0,0,0] (nav [0,0,0] i80p2)
def i80p5:Pt:=nav [0,0,0,0] i80p4
def i80p6:Pt:=nav [0,0] i80p5
def i80p7:Pt:=nav [1,0] i80p6
def qH1 (k:Nat) (F:Fns0)  (m:LN) (n:List S43) (o:Int) (ih:LL→Int→(List S28)→Option (Option Ri80)):LL→Int→(List S28)→Option (Option Ri80) :=
 λ(h:LL) (j:Int) (l:List S28)=>bT (F.i19 m n j o) λa=>(appS 104 l ([(⟨a.1.f0,a.1.f1,a.1.f2,a.1.f3,a.1.f4,h,a.1.f6⟩:S28)]:List S28)).bind λc=>bT (i13 k ([59]:LN) m n a.2 o) λb=>if b.1 then ((i11 k m n b.2 o).bind λg=>ih g.1 g.2 c) else (some (some (b.2,c)))
def qM3 (k:Nat) (F:Fns0)  (a:LN) (b:List S43) (c:Int) (n:Nat):LL→Int→(List S28)→Option (Option Ri80):=lp (λ_ _ _=>none) (qH1 k F a b c) n
theorem qM2 (k:Nat) (F:Fns0) (K:FnsOk0 F) (L:LL) (m:LN) (o:List S43) (M:Int) (q:Int)    : ∀ (n:Nat) (c:LL) (l:Int) (g:List S28),Ok (Xi80 L m o M q) i80p2 [(0,.ptr 0 4 0),(1,w9 c),(2,.func 34 [.ptr 0 4 0] []),(7,.own 1 (g).length 7)] (mkH [⟨[.str m,w44 o,.i l,.i q],4,false⟩,⟨(g).flatMap e29,0,false⟩]) (qM3 k F m o q n c l g):=by
 intro n
 induction n with
 | zero=>intro c l g; exact ok_none
 | succ n ih =>
  intro c l g
  show Ok _ _ _ _ (qH1 k F m o q (qM3 k F m o q n) c l g)
  unfold qH1
  let J:Env:=[(9,.func 34 [.ptr 0 4 0] []),(0,.ptr 0 4 0),(1,w9 c),(2,.func 34 [.ptr 0 4 0] []),(7,.own 1 (g).length 7)]
  let A:Blk:=⟨(g).flatMap e29,0,false⟩
  refine oH 2 (atN 1 (ctl1 i80p2)) J (mkH [⟨[.str m,w44 o,.i l,.i q],4,false⟩,A]) ?_
  refine oX (λ(a:(S28×Int))=>n29 a.1) (λa=>[⟨[.str m,w44 o,.i a.2,.i q],4,false⟩,A]) (atN 2 (ctl1 i80p2)) 10 [0] [] [] [0] [0,1] [.ptr 0 4 0] (K.i19_ok m o l q) trivial (λ_=>trivial) ⟨u29 _,trivial⟩ λa D=>?_
  let B:Blk:=⟨[.str m,w44 o,.i a.2,.i q],4,false⟩
  let u:Blk:=⟨[.i a.1.f0,.str a.1.f1,q29 a.1.f2,.bool a.1.f3,.bool a.1.f4,w9 c,w9 a.1.f6],7,false⟩
  let x:Blk:=⟨[.i a.1.f0,.str a.1.f1,q29 a.1.f2,.bool a.1.f3,.bool a.1.f4,w9 c,w9 a.1.f6],0,false⟩
  refine oH 14 (atN 3 (ctl1 i80p4)) ((15,.slice 3 7 0 1 7)::(14,.agg [.i a.1.f0,.str a.1.f1,q29 a.1.f2,.bool a.1.f3,.bool a.1.f4,w9 c,w9 a.1.f6])::(13,.own 1 (g).length 7)::(12,.ptr 2 7 5)::(11,w9 c)::(8,.ptr 2 7 0)::(10,n29 a.1)::J) (mkH [B,A,u,x]) ?_
  refine oC (λ(b:List S28)=>(.own 1 (b).length 7,(mkH [B,⟨(b).flatMap e29,0,false⟩,u,x]))) (atN 4 (ctl1 i80p4)) 16 (appH (sz:=7) qA2 rfl qAh [B,A,u,x] 1 104 g ([(⟨a.1.f0,a.1.f1,a.1.f2,a.1.f3,a.1.f4,c,a.1.f6⟩:S28)]:List S28) rfl rfl Kr) λb E=>?_
  let z:Blk:=⟨(b).flatMap e29,0,false⟩
  refine oLH 4 i80p5 [(0,.ptr 0 4 0),(2,.func 34 [.ptr 0 4 0] []),(7,.own 1 (b).length 7)] (mkH [B,z,u,x]) ?_
  let C:Env:=[(0,.ptr 0 4 0),(2,.func 34 [.ptr 0 4 0] []),(7,.own 1 (b).length 7)]
  refine oR 2 (atN 1 (ctl1 i80p5)) ((17,.ptr 0 4 0)::C) ?_
  refine oX (λ(h:(Bool×Int)) => .bool h.1) (λh=>[⟨[.str m,w44 o,.i h.2,.i q],4,false⟩,z,u,x]) (atN 2 (ctl1 i80p5)) 18 [0] [] [] [] [0,1] [.ptr 0 4 0,.str [59]] (qAe k ([59]:LN) m o a.2 q) trivial (λ_=>trivial) ⟨u29 _,trivial⟩ λh G=>?_
  refine oR 1 i80p6 ((18,.bool h.1)::(17,.ptr 0 4 0)::C) ?_
  refine oS 18 (λN=>?_) (λN=>?_)
  ·refine oR 4 (atN 1 (ctl1 i80p7)) ((19,.ptr 0 4 0)::(18,.bool true)::(18,.bool h.1)::(17,.ptr 0 4 0)::C) ?_
   refine oN (λ(j:Ri11)=>w9 j.1) (λj=>[⟨[.str m,w44 o,.i j.2,.i q],4,false⟩,z,u,x]) (atN 2 (ctl1 i80p7)) 20 [0] [] [] [.ptr 0 4 0] (qAr k m o h.2 q) trivial (λ_=>trivial) λj I=>?_
   refine oL 6 i80p2 [(0,.ptr 0 4 0),(1,w9 j.1),(2,.func 34 [.ptr 0 4 0] []),(7,.own 1 (b).length 7)] ?_
   refine qA8 [⟨[.str m,w44 o,.i j.2,.i q],4,false⟩,z] [u,x] Kr rfl Kr ⟨Kr,⟨(qA _ (u29 _)),trivial⟩⟩ ?_
   exact ih j.1 j.2 b
  ·refine oR 8 .fin ((6,.own 1 (b).length 7)::(21,.own 1 (b).length 7)::(18,.bool false)::(18,.bool h.1)::(17,.ptr 0 4 0)::C) ?_
   exact qAx (r:=some (h.2,b)) (xs:=[.own 1 (b).length 7]) [⟨[.str m,w44 o,.i h.2,.i q],4,false⟩,z] [u,x] Kr Kr Kr Kr Kr ⟨Kr,⟨(qA _ (u29 _)),trivial⟩⟩ Kr Kr
def i80B (k:Nat) (F:Fns0) (a:LL) (b:LN) (c:List S43) (g:Int) (h:Int):Option (Option Ri80) :=
 qM3 k F b c h k a g ([]:List S28)
theorem qJ9 (k:Nat) (F:Fns0) (n:FnsOk0 F):∀ a c g b j r,i80B k F a c g b j=some r→CallT Tryz.prog 32 [.ptr 0 4 0,w9 a,.func 34 [.ptr 0 4 0] []] (mkH [⟨[.str c,w44 g,.i b,.i j],4,false⟩]) ((Xi80 a c g b j).thr r) ((Xi80 a c g b j).enc r) ((Xi80 a c g b j).fin r):=by
 intro a c g b j r h
 refine qA0 (Xi80 a c g b j) Tryz.func32 Kr Kr rfl (t:=i80B k F a c g b j) ?_ h
 unfold i80B
 refine qA1 (eE:=[(0,.ptr 0 4 0),(1,w9 a),(2,.func 34 [.ptr 0 4 0] [])]) Kr ?_
 let m:Env:=[(7,.nils),(6,.nils),(0,.ptr 0 4 0),(1,w9 a),(2,.func 34 [.ptr 0 4 0] [])]
 let l:Blk:=⟨[.str c,w44 g,.i b,.i j],4,false⟩
 refine oH 8 (atN 1 (ctl1 i80p1)) m (mkH [l]) ?_
 refine qCn [l] 7 7 rfl Kr ?_
 refine oH 4 i80p2 ((7,.own 1 (([]:List S28)).length 7)::m) (mkH [l,⟨(([]:List S28)).flatMap e29,0,false⟩]) ?_
 refine oK [0,1,2,7] [(0,.ptr 0 4 0),(1,w9 a),(2,.func 34 [.ptr 0 4 0] []),(7,.own 1 (([]:List S28)).length 7)] ?_
 exact (qM2 k F n a c g b j k) a b ([]:List S28)
theorem i80B_ok (k:Nat) (F:Fns0) (a:FnsOk0 F):Pi80 (i80B k F):=λb c g j l=>⟨λx h=>qJ9 k F a b c g j l (some x) h,λh=>⟨_,qJ9 k F a b c g j l none h⟩⟩
def i85p1:Pt:=nav [0,0,0] (nav [0] (bodyAt Tryz.f145))
def i85B (k:Nat) (F:Fns0) (b:LN) (c:List S43) (g:Int) (h:Int):Option (Option (S28×Int)) :=
 bT (F.i88 ([]:LN) b c g h) λa=>some (some (a.1,a.2))
theorem qJ8 (k:Nat) (F:Fns0) (n:FnsOk0 F):∀ b c j g r,i85B k F b c j g=some r→CallT Tryz.prog 145 [.ptr 1 1 0] (mkH [⟨[.str b,w44 c,.i j,.i g],4,false⟩,⟨[.ptr 0 4 0],1,false⟩]) ((Xi85 b c j g).thr r) ((Xi85 b c j g).enc r) ((Xi85 b c j g).fin r):=by
 intro b c j g r h
 refine qA0 (Xi85 b c j g) Tryz.func145 Kr Kr rfl (t:=i85B k F b c j g) ?_ h
 unfold i85B
 refine qA1 (eE:=[(0,.ptr 1 1 0)]) Kr ?_
 let m:Blk:=⟨[.i 0,.str [],.nils,.bool false,.bool false,.nils,.nils],0,false⟩
 refine oH 7 (atN 1 (ctl1 i85p1)) [(2,.ptr 0 4 0),(1,.ptr 2 7 0),(0,.ptr 1 1 0)] (mkH [⟨[.str b,w44 c,.i j,.i g],4,false⟩,⟨[.ptr 0 4 0],1,false⟩,m]) ?_
 refine oX (λ(a:(S28×Int))=>n29 a.1) (λa=>[⟨[.str b,w44 c,.i a.2,.i g],4,false⟩,⟨[.ptr 0 4 0],1,false⟩,m]) (atN 2 (ctl1 i85p1)) 3 [0] [] [] [0,1] [] [.ptr 0 4 0,.str []] (n.i88_ok ([]:LN) b c j g) trivial (λ_=>trivial) trivial λa l=>?_
 exact oQF 3 [⟨[.str b,w44 c,.i a.2,.i g],4,false⟩,⟨[.ptr 0 4 0],1,false⟩,⟨e29 a.1,7,false⟩] 2 [] [n29 a.1] (n29 a.1) .ps trivial
theorem i85B_ok (k:Nat) (F:Fns0) (a:FnsOk0 F):Pi85 (i85B k F):=λb c g j=>⟨λx h=>qJ8 k F a b c g j (some x) h,λh=>⟨_,qJ8 k F a b c g j none h⟩⟩
def i86p1:Pt:=nav [0,0,0] (nav [0] (bodyAt Tryz.f138))
def i86B (k:Nat) (F:Fns0) (c:LN) (g:List S43) (j:Int) (h:Int):Option (Option (S28×Int)) :=
 bT (F.i46 c g j h) λa=>bT (F.i27 ([]:LN) (⟨23,([]:LN),(⟨(([]:List S28)).length,(([]:List S28)).flatMap e29⟩:Raw),false,false,([]:LL),([]:LL)⟩:S28) a.1 c g a.2 h) λb=>some (some (b.1,b.2))
theorem qJ7 (k:Nat) (F:Fns0) (q:FnsOk0 F):∀ c g l j r,i86B k F c g l j=some r→CallT Tryz.prog 138 [.ptr 0 4 0] (mkH [⟨[.str c,w44 g,.i l,.i j],4,false⟩]) ((Xi86 c g l j).thr r) ((Xi86 c g l j).enc r) ((Xi86 c g l j).fin r):=by
 intro c g l j r h
 refine qA0 (Xi86 c g l j) Tryz.func138 Kr Kr rfl (t:=i86B k F c g l j) ?_ h
 unfold i86B
 refine qA1 (eE:=[(0,.ptr 0 4 0)]) Kr ?_
 let m:Blk:=⟨[.i 0,.str [],.nils,.bool false,.bool false,.nils,.nils],0,false⟩
 refine oH 9 (atN 3 (ctl1 i86p1)) [(5,.ptr 0 4 0),(4,.agg [.i 23,.str [],.nils,.bool false,.bool false,.nils,.nils]),(3,.ptr 0 4 0),(2,.ptr 1 7 0),(0,.ptr 0 4 0)] (mkH [⟨[.str c,w44 g,.i l,.i j],4,false⟩,m]) ?_
 refine oX (λ(a:(S28×Int))=>n29 a.1) (λa=>[⟨[.str c,w44 g,.i a.2,.i j],4,false⟩,m]) (atN 4 (ctl1 i86p1)) 6 [0] [] [] [0] [] [.ptr 0 4 0] (q.i46_ok c g l j) trivial (λ_=>trivial) trivial λa n=>?_
 refine oXW 0 [⟨[.str c,w44 g,.i a.2,.i j],4,false⟩,m] (λ(b:(S28×Int))=>n29 b.1) (λb=>[⟨[.str c,w44 g,.i b.2,.i j],4,false⟩,m]) (atN 5 (ctl1 i86p1)) 7 [0] [] [] [0] [] [] [.ptr 0 4 0,.str [],.agg [.i 23,.str [],.nils,.bool false,.bool false,.nils,.nils],n29 a.1] [.ptr 0 4 0,.str [],.agg [.i 23,.str [],w29 ([]:List S28),.bool false,.bool false,w9 ([]:LL),w9 ([]:LL)],n29 a.1] (.cons (.cons (.agg (.cons (.cons (.nil (.cons (.cons (.nil (.nil (.refl)))))))) (.refl)))) (q.i27_ok ([]:LN) (⟨23,([]:LN),(⟨(([]:List S28)).length,(([]:List S28)).flatMap e29⟩:Raw),false,false,([]:LL),([]:LL)⟩:S28) a.1 c g a.2 j) trivial (λ_=>trivial) trivial λb o=>?_
 exact oQF 3 [⟨[.str c,w44 g,.i b.2,.i j],4,false⟩,⟨e29 b.1,7,false⟩] 1 [] [n29 b.1] (n29 b.1) .ps trivial
theorem i86B_ok (k:Nat) (F:Fns0) (a:FnsOk0 F):Pi86 (i86B k F):=λb c g j=>⟨λx h=>qJ7 k F a b c g j (some x) h,λh=>⟨_,qJ7 k F a b c g j none h⟩⟩
def i88p1:Pt:=nav [0,0,0] (nav [0] (bodyAt Tryz.f146))
def i88p2:Pt:=nav [0,0,0] i88p1
def i88d0:DP:=⟨[],[(0,0,0),(0,0,0),(0,0,1),(0,0,0),(8,0,0),(31,0,0),(63,0,0)],7,thrown,[],H0⟩
def i88B (k:Nat) (F:Fns0) (l:LN) (g:LN) (h:List S43) (m:Int) (j:Int):Option (Option (S28×Int)) :=
 bT (F.i89 g h m j) λa=>bT (F.i26 g h a.2 j) λb=>bT (F.i27 l a.1 b.1 g h b.2 j) λc=>some (some (c.1,c.2))
theorem qJ6 (k:Nat) (F:Fns0) (B:FnsOk0 F):∀ j l m x n r,i88B k F j l m x n=some r→CallT Tryz.prog 146 [.ptr 0 4 0,.str j] (mkH [⟨[.str l,w44 m,.i x,.i n],4,false⟩]) ((Xi88 j l m x n).thr r) ((Xi88 j l m x n).enc r) ((Xi88 j l m x n).fin r):=by
 intro j l m x n r h
 refine qA0 (Xi88 j l m x n) Tryz.func146 Kr Kr rfl (t:=i88B k F j l m x n) ?_ h
 unfold i88B
 refine qA1 (eE:=[(0,.ptr 0 4 0),(1,.str j)]) Kr ?_
 let G:Blk:=⟨[.str l,w44 m,.i x,.i n],4,false⟩
 let c:Blk:=⟨[.i 0,.str [],.nils,.bool false,.bool false,.nils,.nils],0,false⟩
 refine oH 7 (atN 1 (ctl1 i88p1)) [(6,.ptr 0 4 0),(4,.ptr 1 7 0),(0,.ptr 0 4 0),(1,.str j)] (mkH [G,c]) ?_
 refine oX (λ(a:(S28×Int))=>n29 a.1) (λa=>[⟨[.str l,w44 m,.i a.2,.i n],4,false⟩,c]) (atN 2 (ctl1 i88p1)) 7 [0] [] [] [0] [] [.ptr 0 4 0] (B.i89_ok l m x n) trivial (λ_=>trivial) trivial λa I=>?_
 let q:Blk:=⟨[.str l,w44 m,.i a.2,.i n],4,false⟩
 refine oH 4 i88p2 [(5,.ptr 2 7 0),(7,n29 a.1),(6,.ptr 0 4 0),(4,.ptr 1 7 0),(0,.ptr 0 4 0),(1,.str j)] (mkH [q,c,⟨e29 a.1,7,false⟩]) ?_
 refine qC9 (λh=>?_) (λb u=>?_)
 ·let o:Env:=[(11,.ptr 0 4 0),(10,n29 a.1),(9,.str j),(8,.ptr 0 4 0),(5,.ptr 2 7 0),(7,n29 a.1),(6,.ptr 0 4 0),(4,.ptr 1 7 0),(0,.ptr 0 4 0),(1,.str j)]
  exact qAu (eE:=((13,.top)::(12,.top)::o)) (i88d0.th 4 thrown [0] (mkH [q,c,⟨e29 a.1,7,false⟩])) (hs:=[(mkH [q,c,⟨e29 a.1,7,false⟩]),(mkH [q,c,⟨e29 a.1,7,false⟩]),(mkH [q,c,⟨e29 a.1,7,false⟩])]) (LX:=[G]) (L:=[q,c,⟨e29 a.1,7,false⟩]) rfl rfl rfl Kr rfl ⟨.inl rfl,trivial⟩ Kr Kr Kr Kr (qAc 4 (l':=(opsAt i88p2).toList.drop 4) (eE:=o) (H':=(mkH [q,c,⟨e29 a.1,7,false⟩])) (hs:=[]) Kr (qAt (l':=(opsAt i88p2).toList.drop 5) (eE:=((12,.top)::o)) (hs:=[(mkH [q,c,⟨e29 a.1,7,false⟩])]) (fi:=70) (args:=[.ptr 0 4 0]) Kr Kr (frS 0 (M:=[q,c,⟨e29 a.1,7,false⟩]) (rs:=[0]) (ms:=[]) (mv:=[]) (mm:=[]) (D:=[0]) (xs':=[.ptr 0 4 0]) (.refl) ((B.i26_ok l m a.2 n).2 h) trivial trivial Kr) Kr (qA4 (l':=(opsAt i88p2).toList.drop 6) (eE:=((13,.top)::(12,.top)::o)) (hs:=[(mkH [q,c,⟨e29 a.1,7,false⟩])]) Kr Kr (qA4 (l':=(opsAt i88p2).toList.drop 7) (eE:=((13,.top)::(12,.top)::o)) (hs:=[(mkH [q,c,⟨e29 a.1,7,false⟩])]) Kr Kr (.nil))))) Kr Kr
 ·refine qC9 (λh=>?_) (λg A=>?_)
  ·let o:Env:=[(11,.ptr 0 4 0),(10,n29 a.1),(9,.str j),(8,.ptr 0 4 0),(5,.ptr 2 7 0),(7,n29 a.1),(6,.ptr 0 4 0),(4,.ptr 1 7 0),(0,.ptr 0 4 0),(1,.str j)]
   let z:Blk:=⟨[.str l,w44 m,.i b.2,.i n],4,false⟩
   exact qAu (eE:=((13,.top)::(12,n29 b.1)::o)) (i88d0.th 5 thrown [0] (mkH [z,c,⟨e29 a.1,7,false⟩])) (hs:=[(mkH [z,c,⟨e29 a.1,7,false⟩]),(mkH [z,c,⟨e29 a.1,7,false⟩]),(mkH [z,c,⟨e29 a.1,7,false⟩])]) (LX:=[G]) (L:=[z,c,⟨e29 a.1,7,false⟩]) rfl rfl rfl Kr rfl ⟨.inl rfl,trivial⟩ Kr Kr Kr Kr (qAc 4 (l':=(opsAt i88p2).toList.drop 4) (eE:=o) (H':=(mkH [q,c,⟨e29 a.1,7,false⟩])) (hs:=[]) Kr (qA6 (l':=(opsAt i88p2).toList.drop 5) (eE:=((12,n29 b.1)::o)) (hs:=[(mkH [z,c,⟨e29 a.1,7,false⟩])]) (H':=(mkH [z,c,⟨e29 a.1,7,false⟩])) (fi:=70) (args:=[.ptr 0 4 0]) (v:=n29 b.1) Kr (frC (rs:=[0]) (ms:=[]) (ms':=[]) ((B.i26_ok l m a.2 n).1 b u) trivial trivial Kr) Kr (qAt (l':=(opsAt i88p2).toList.drop 6) (eE:=((13,.top)::(12,n29 b.1)::o)) (hs:=[(mkH [z,c,⟨e29 a.1,7,false⟩])]) (fi:=69) (args:=[.ptr 0 4 0,.str j,n29 a.1,n29 b.1]) Kr Kr (frS 0 (M:=[z,c,⟨e29 a.1,7,false⟩]) (rs:=[0]) (ms:=[]) (mv:=[]) (mm:=[]) (D:=[0]) (xs':=[.ptr 0 4 0,.str j,n29 a.1,n29 b.1]) (.refl) ((B.i27_ok j a.1 b.1 l m b.2 n).2 h) trivial trivial Kr) Kr (qA4 (l':=(opsAt i88p2).toList.drop 7) (eE:=((13,.top)::(12,n29 b.1)::o)) (hs:=[(mkH [z,c,⟨e29 a.1,7,false⟩])]) Kr Kr (.nil))))) Kr Kr
  ·let o:Env:=[(11,.ptr 0 4 0),(10,n29 a.1),(9,.str j),(8,.ptr 0 4 0),(5,.ptr 2 7 0),(7,n29 a.1),(6,.ptr 0 4 0),(4,.ptr 1 7 0),(0,.ptr 0 4 0),(1,.str j)]
   let E:Blk:=⟨[.str l,w44 m,.i g.2,.i n],4,false⟩
   let J:Blk:=⟨[.str l,w44 m,.i b.2,.i n],4,false⟩
   let C:List Blk:=[E,⟨e29 g.1,7,false⟩,⟨e29 a.1,7,false⟩]
   refine oD (H':=(mkH C)) (nav [0] i88p2) ((13,n29 g.1)::(12,n29 b.1)::o) [(mkH [J,c,⟨e29 a.1,7,false⟩]),(mkH [E,c,⟨e29 a.1,7,false⟩]),(mkH C)] i88d0 (oDr 4 4 o (qA6 (l':=(opsAt i88p2).toList.drop 5) (eE:=((12,n29 b.1)::o)) (hs:=[(mkH [J,c,⟨e29 a.1,7,false⟩])]) (H':=(mkH [J,c,⟨e29 a.1,7,false⟩])) (fi:=70) (args:=[.ptr 0 4 0]) (v:=n29 b.1) Kr (frC (rs:=[0]) (ms:=[]) (ms':=[]) ((B.i26_ok l m a.2 n).1 b u) trivial trivial Kr) Kr (qA6 (l':=(opsAt i88p2).toList.drop 6) (eE:=((13,n29 g.1)::(12,n29 b.1)::o)) (hs:=[(mkH [E,c,⟨e29 a.1,7,false⟩])]) (H':=(mkH [E,c,⟨e29 a.1,7,false⟩])) (fi:=69) (args:=[.ptr 0 4 0,.str j,n29 a.1,n29 b.1]) (v:=n29 g.1) Kr (frC (rs:=[0]) (ms:=[]) (ms':=[]) ((B.i27_ok j a.1 b.1 l m b.2 n).1 g A) trivial trivial Kr) Kr (oDh 1 7 ((13,n29 g.1)::(12,n29 b.1)::o) (mkH C) [(mkH C)] .nil)))) ?_
   exact oQF 1 C 1 [] [n29 g.1] (n29 g.1) .ps trivial
theorem i88B_ok (k:Nat) (F:Fns0) (a:FnsOk0 F):Pi88 (i88B k F):=λb c g j l=>⟨λx h=>qJ6 k F a b c g j l (some x) h,λh=>⟨_,qJ6 k F a b c g j l none h⟩⟩
def i89p1:Pt:=nav [0,0,0] (nav [0] (bodyAt Tryz.f149))
def i89p2:Pt:=nav [0,0,0] i89p1
def i89B (k:Nat) (F:Fns0) (c:LN) (g:List S43) (j:Int) (h:Int):Option (Option (S28×Int)) :=
 bT (i41 k ([40]:LN) c g j h) λb=>bT (F.i36 (23:Int) ([]:LN) false false ([]:LL) ([]:LL) ([41]:LN) c g b h ([]:List S28)) λa=>some (some ((⟨a.1,a.2.1,⟨(a.2.2.2.2.2.2.2).length,(a.2.2.2.2.2.2.2).flatMap e29⟩,a.2.2.1,a.2.2.2.1,a.2.2.2.2.1,a.2.2.2.2.2.1⟩:S28),a.2.2.2.2.2.2.1))
theorem qJ5 (k:Nat) (F:Fns0) (q:FnsOk0 F):∀ c g l j r,i89B k F c g l j=some r→CallT Tryz.prog 149 [.ptr 0 4 0] (mkH [⟨[.str c,w44 g,.i l,.i j],4,false⟩]) ((Xi89 c g l j).thr r) ((Xi89 c g l j).enc r) ((Xi89 c g l j).fin r):=by
 intro c g l j r h
 refine qA0 (Xi89 c g l j) Tryz.func149 Kr Kr rfl (t:=i89B k F c g l j) ?_ h
 unfold i89B
 refine qA1 (eE:=[(0,.ptr 0 4 0)]) Kr ?_
 let m:Blk:=⟨[.i 0,.str [],.nils,.bool false,.bool false,.nils,.nils],0,false⟩
 refine oH 7 (atN 1 (ctl1 i89p1)) [(3,.ptr 0 4 0),(2,.ptr 1 7 0),(0,.ptr 0 4 0)] (mkH [⟨[.str c,w44 g,.i l,.i j],4,false⟩,m]) ?_
 refine oX (λ(b:Int) => .tuple []) (λb=>[⟨[.str c,w44 g,.i b,.i j],4,false⟩,m]) (atN 2 (ctl1 i89p1)) 4 [0] [] [] [0] [] [.ptr 0 4 0,.str [40]] (qB2 k ([40]:LN) c g l j) trivial (λ_=>trivial) trivial λb n=>?_
 refine oR 7 (atN 4 (ctl1 i89p2)) [(8,.func 102 [.ptr 0 4 0] []),(7,.ptr 0 4 0),(6,.agg [.i 23,.str [],.nils,.bool false,.bool false,.nils,.nils]),(5,.ptr 0 4 0),(4,.tuple []),(3,.ptr 0 4 0),(2,.ptr 1 7 0),(0,.ptr 0 4 0)] ?_
 refine oXW 1 [⟨[.str c,w44 g,.i b,.i j],4,false⟩,m,⟨(([]:List S28)).flatMap e29,0,false⟩] (λ(a:Ri36) => .agg [.i a.1,.str a.2.1,.own 2 (a.2.2.2.2.2.2.2).length 7,.bool a.2.2.1,.bool a.2.2.2.1,w9 a.2.2.2.2.1,w9 a.2.2.2.2.2.1]) (λa=>[⟨[.str c,w44 g,.i a.2.2.2.2.2.2.1,.i j],4,false⟩,m,⟨(a.2.2.2.2.2.2.2).flatMap e29,0,false⟩]) (atN 5 (ctl1 i89p2)) 9 [0,2] [0,1] [0,1] [0,2] [] [0,0,1] [.ptr 0 4 0,.agg [.i 23,.str [],.nils,.bool false,.bool false,.nils,.nils],.str [41],.func 102 [.ptr 0 4 0] []] [.ptr 0 4 0,.agg [.i 23,.str [],.own 2 (([]:List S28)).length 7,.bool false,.bool false,w9 ([]:LL),w9 ([]:LL)],.str [41],.func 102 [.ptr 0 4 0] []] (.cons (.agg (.cons (.cons (.none (.cons (.cons (.nil (.nil (.refl)))))))) (.refl))) (q.i36_ok (23:Int) ([]:LN) false false ([]:LL) ([]:LL) ([41]:LN) c g b j ([]:List S28)) ⟨u29 _,trivial⟩ (λ_=>⟨u29 _,trivial⟩) trivial λa o=>?_
 exact oQF 3 [⟨[.str c,w44 g,.i a.2.2.2.2.2.2.1,.i j],4,false⟩,⟨[.i a.1,.str a.2.1,.own 2 (a.2.2.2.2.2.2.2).length 7,.bool a.2.2.1,.bool a.2.2.2.1,w9 a.2.2.2.2.1,w9 a.2.2.2.2.2.1],7,false⟩,⟨(a.2.2.2.2.2.2.2).flatMap e29,0,false⟩] 1 [] [.agg [.i a.1,.str a.2.1,.own 2 (a.2.2.2.2.2.2.2).length 7,.bool a.2.2.1,.bool a.2.2.2.1,w9 a.2.2.2.2.1,w9 a.2.2.2.2.2.1]] (.agg [.i a.1,.str a.2.1,w29 a.2.2.2.2.2.2.2,.bool a.2.2.1,.bool a.2.2.2.1,w9 a.2.2.2.2.1,w9 a.2.2.2.2.2.1]) (.agg (.cs (.cs (qAl qA2 qAf rfl rfl rfl .ps))) .ps) trivial
theorem i89B_ok (k:Nat) (F:Fns0) (a:FnsOk0 F):Pi89 (i89B k F):=λb c g j=>⟨λx h=>qJ5 k F a b c g j (some x) h,λh=>⟨_,qJ5 k F a b c g j none h⟩⟩
def i9p1:Pt:=nav [0,0,0,0] (nav [0] (bodyAt Tryz.f21))
def i9p2:Pt:=nav [0,0] i9p1
def i9p3:Pt:=nav [1,0] i9p2
def i9p4:Pt:=nav [2,0,0] i9p2
def i9p6:Pt:=nav [0,0,0,0,0] i9p4
def i9p8:Pt:=nav [0,0] (nav [0,0,0] i9p6)
def i9p9:Pt:=nav [1,0,0,0] i9p8
def i9p10:Pt:=nav [2,0,0] i9p8
def i9p11:Pt:=nav [0,0,0] i9p9
def i9p12:Pt:=nav [0,0,0,0] i9p11
def i9p13:Pt:=nav [0,0] i9p12
def i9p14:Pt:=nav [2,0,0] i9p13
def i9p15:Pt:=nav [0,0] i9p14
def i9d0:DP:=⟨[59],[(0,0,0),(1,0,2),(0,0,2),(0,0,0),(0,0,0),(16,0,0),(48,0,0),(120,0,0),(252,0,0),(511,0,0),(0,0,0),(1023,0,0),(4095,0,0)],13,thrown,[],H0⟩
def qLz (k:Nat) (F:Fns0)  (C:Int) (z:LN) (A:List S43) (D:Int) (B:Int) (ih:Int→Int→S28→Option (Option (S28×Int))):Int→Int→S28→Option (Option (S28×Int)) :=
 λ(n:Int) (a:Int) (c:S28)=>jn (λ(o:Int×S28)=>some (some (o.2,o.1))) (λq=>if (decide (C≤9)) then ((i15 k z A a B).bind λb=>(g50 k b.f1).bind λj=>(i16 k b.f1 z A a B).bind λr=>jn (λ(g:Bool×Int×S28)=>if g.1 then (q (g.2.1,g.2.2)) else (bT (i17 k z A g.2.1 B) λu=>(g54 k b.f1).bind λx=>bT (F.i9 x z A u B) λh=>ih j h.2 (⟨14,b.f1,(⟨(([g.2.2,h.1]:List S28)).length,(([g.2.2,h.1]:List S28)).flatMap e29⟩:Raw),false,false,([]:LL),([]:LL)⟩:S28))) (λl=>if (!r) then (l (true,a,c)) else (if (decide (j < maxI C 1)) then (l (true,a,c)) else ((g52 k b.f1).bind λm=>l (decide (n < m),a,c))))) else (q (a,c)))
def i9_l9 (k:Nat) (F:Fns0)  (a:Int) (b:LN) (c:List S43) (g:Int) (h:Int) (n:Nat):Int→Int→S28→Option (Option (S28×Int)):=lp (λ_ _ _=>none) (qLz k F a b c g h) n
theorem i9_l9_ok (k:Nat) (F:Fns0) (hF:FnsOk0 F) (u:Int) (x:LN) (z:List S43) (U:Int) (A:Int)    : ∀ (n:Nat) (o:Int) (m:Int) (c:S28),Ok (Xi9 u x z U A) i9p6 [(0,.ptr 0 4 0),(1,.i u),(4,.ptr 1 7 0),(5,.ptr 2 7 0),(6,.i o)] (mkH [⟨[.str x,w44 z,.i m,.i A],4,false⟩,⟨[.i 0,.str [],.nils,.bool false,.bool false,.nils,.nils],0,false⟩,⟨[.i c.f0,.str c.f1,q29 c.f2,.bool c.f3,.bool c.f4,w9 c.f5,w9 c.f6],7,false⟩]) (i9_l9 k F u x z U A n o m c):=by
 intro n
 induction n with
 | zero=>intro o m c; exact ok_none
 | succ n ih =>
  intro o m c
  show Ok _ _ _ _ (qLz k F u x z U A (i9_l9 k F u x z U A n) o m c)
  unfold qLz
  refine qAd (p':=nav [0] i9p6) Kr ?_
  let E6:Env:=[(25,.bool (decide (u≤9))),(24,.i u),(0,.ptr 0 4 0),(1,.i u),(4,.ptr 1 7 0),(5,.ptr 2 7 0),(6,.i o)]
  let V:Blk:=⟨[.str x,w44 z,.i m,.i A],4,false⟩
  let B:Blk:=⟨[.i 0,.str [],.nils,.bool false,.bool false,.nils,.nils],0,false⟩
  refine oH 6 i9p8 E6 (mkH [V,B,⟨e29 c,7,false⟩]) ?_
  refine oJ i9p10 (λ(E:Int×S28)=>[(4,.ptr 1 7 0),(5,.ptr 2 7 0)]) (λ(E:Int×S28)=>(mkH [⟨[.str x,w44 z,.i E.1,.i A],4,false⟩,B,⟨e29 E.2,7,false⟩])) (λE=>?_) (λc1 O=>?_)
  ·exact oQF 5 [⟨[.str x,w44 z,.i E.1,.i A],4,false⟩,⟨e29 E.2,7,false⟩,⟨e29 E.2,7,false⟩] 1 [] [n29 E.2] (n29 E.2) .ps trivial
  ·refine oS 25 (λS=>?_) (λS=>?_)
   ·refine oH 6 (atN 1 (ctl1 i9p9)) ((26,.ptr 0 4 0)::(25,.bool true)::E6) (mkH [V,B,⟨e29 c,7,false⟩]) ?_
    refine oN (λ(a:S43)=>n44 a) (λa=>[V,B,⟨e29 c,7,false⟩]) (atN 2 (ctl1 i9p9)) 27 [0] [] [] [.ptr 0 4 0] (qEi k x z m A) trivial (λ_=>trivial) λa a9=>?_
    let E7:Env:=((29,.str a.f1)::(28,.ptr 3 3 1)::(7,.ptr 3 3 0)::(27,n44 a)::(26,.ptr 0 4 0)::(25,.bool true)::E6)
    let K1:List Blk:=[V,B,⟨e29 c,7,false⟩,⟨e44 a,3,false⟩]
    refine oH 7 (atN 2 (ctl1 i9p11)) E7 (mkH K1) ?_
    refine oA (λ(b:Int) => .i b) (atN 3 (ctl1 i9p11)) 30 [.str a.f1] (qEl k a.f1) λb b1=>?_
    refine oR 4 i9p12 ((8,.i b)::(30,.i b)::E7) ?_
    refine oK0 [0,1,4,5,6,7,8] ?_
    let E8:Env:=keepOnly ((8,.i b)::(30,.i b)::E7) [0,1,4,5,6,7,8]
    refine oR 4 (atN 3 (ctl1 i9p12)) ((33,.str a.f1)::(32,.ptr 3 3 1)::(31,.ptr 0 4 0)::E8) ?_
    refine oN (λ(C:Bool) => .bool C) (λC=>K1) (atN 4 (ctl1 i9p12)) 34 [0] [] [] [.ptr 0 4 0,.str a.f1] (qGa k a.f1 x z m A) trivial (λ_=>trivial) λC b2=>?_
    let E9:Env:=((36,.bool (!C))::(35,.bool (!C))::(34,.bool C)::(33,.str a.f1)::(32,.ptr 3 3 1)::(31,.ptr 0 4 0)::E8)
    refine oR 2 (atN 6 (ctl1 i9p12)) E9 ?_
    refine oJ i9p13 (λ(g:Bool×Int×S28)=>[(0,.ptr 0 4 0),(1,.i u),(4,.ptr 1 7 0),(5,.ptr 2 7 0),(7,.ptr 3 3 0),(8,.i b),(48,.bool g.1)]) (λ(g:Bool×Int×S28)=>(mkH [⟨[.str x,w44 z,.i g.2.1,.i A],4,false⟩,B,⟨e29 g.2.2,7,false⟩,⟨e44 a,3,false⟩])) (λg=>?_) (λc2 I=>?_)
    ·refine oS 48 (λS=>?_) (λS=>?_)
     ·let Q3:Blk:=⟨[.str x,w44 z,.i g.2.1,.i A],4,false⟩
      refine oLH 3 i9p10 [(4,.ptr 1 7 0),(5,.ptr 2 7 0)] (mkH [Q3,B,⟨e29 g.2.2,7,false⟩,⟨e44 a,3,false⟩]) ?_
      refine qA8 [Q3,B,⟨e29 g.2.2,7,false⟩] [⟨e44 a,3,false⟩] Kr rfl Kr ⟨Kr,⟨Kr,⟨Kr,trivial⟩⟩⟩ ?_
      exact O (g.2.1,g.2.2)
     ·let W:Env:=[(49,.ptr 0 4 0),(48,.bool false),(0,.ptr 0 4 0),(1,.i u),(4,.ptr 1 7 0),(5,.ptr 2 7 0),(7,.ptr 3 3 0),(8,.i b),(48,.bool g.1)]
      refine oH 5 (atN 1 (ctl1 i9p14)) W (mkH [⟨[.str x,w44 z,.i g.2.1,.i A],4,false⟩,B,⟨e29 g.2.2,7,false⟩,⟨e44 a,3,false⟩]) ?_
      refine oX (λ(q:Int) => .tuple []) (λq=>[⟨[.str x,w44 z,.i q,.i A],4,false⟩,B,⟨e29 g.2.2,7,false⟩,⟨e44 a,3,false⟩]) (atN 2 (ctl1 i9p14)) 50 [0] [] [] [] [] [.ptr 0 4 0] (qEh k x z g.2.1 A) trivial (λ_=>trivial) trivial λq b3=>?_
      refine oR 1 i9p15 ((50,.tuple [])::W) ?_
      refine qA7 (λj J=>?_)
      refine qC9 (λh=>?_) (λl T=>?_)
      ·let r:Env:=[(56,.str a.f1),(55,.ptr 3 3 1),(54,.ptr 0 4 0),(53,n29 g.2.2),(52,.str a.f1),(51,.ptr 3 3 1),(50,.tuple []),(49,.ptr 0 4 0),(48,.bool false),(0,.ptr 0 4 0),(1,.i u),(4,.ptr 1 7 0),(5,.ptr 2 7 0),(7,.ptr 3 3 0),(8,.i b),(48,.bool g.1)]
       let N:Env:=((61,.i b)::(60,.top)::(59,.top)::(58,.top)::(57,.i j)::r)
       let K:List Blk:=[⟨[.str x,w44 z,.i q,.i A],4,false⟩,B,⟨e29 g.2.2,7,false⟩,⟨e44 a,3,false⟩]
       exact qAu (eE:=((6,.top)::N)) (i9d0.th 7 thrown [0] (mkH K)) (hs:=[(mkH K),(mkH K),(mkH K)]) (LX:=[⟨[.str x,w44 z,.i U,.i A],4,false⟩]) (L:=K) rfl rfl rfl Kr rfl ⟨.inl rfl,trivial⟩ Kr Kr Kr Kr (qAc 6 (l':=(opsAt i9p15).toList.drop 6) (eE:=r) (H':=(mkH K)) (hs:=[]) Kr (qAq (l':=(opsAt i9p15).toList.drop 7) (eE:=((57,.i j)::r)) (hs:=[(mkH K)]) (fi:=54) (args:=[.str a.f1]) (v := .i j) Kr Kr Kr (g54_ok k a.f1 j J) Kr (qAt (l':=(opsAt i9p15).toList.drop 8) (eE:=((58,.top)::(57,.i j)::r)) (hs:=[(mkH K)]) (fi:=21) (args:=[.ptr 0 4 0,.i j]) Kr Kr (frS 0 (M:=K) (rs:=[0]) (ms:=[]) (mv:=[]) (mm:=[]) (D:=[0]) (xs':=[.ptr 0 4 0,.i j]) (.refl) ((hF.i9_ok j x z q A).2 h) trivial trivial Kr) Kr (qA4 (l':=(opsAt i9p15).toList.drop 9) (eE:=((59,.top)::(58,.top)::(57,.i j)::r)) (hs:=[]) Kr Kr (qA4 (l':=(opsAt i9p15).toList.drop 10) (eE:=((60,.top)::(59,.top)::(58,.top)::(57,.i j)::r)) (hs:=[]) Kr Kr (qAc 1 (l':=(opsAt i9p15).toList.drop 11) (eE:=N) (H':=(mkH K)) (hs:=[]) Kr (qA4 (l':=(opsAt i9p15).toList.drop 12) (eE:=N) (hs:=[(mkH K)]) Kr Kr (qA4 (l':=(opsAt i9p15).toList.drop 13) (eE:=((6,.top)::N)) (hs:=[]) Kr Kr (.nil))))))))) Kr Kr
      ·let r:Env:=[(56,.str a.f1),(55,.ptr 3 3 1),(54,.ptr 0 4 0),(53,n29 g.2.2),(52,.str a.f1),(51,.ptr 3 3 1),(50,.tuple []),(49,.ptr 0 4 0),(48,.bool false),(0,.ptr 0 4 0),(1,.i u),(4,.ptr 1 7 0),(5,.ptr 2 7 0),(7,.ptr 3 3 0),(8,.i b),(48,.bool g.1)]
       let Y:Env:=((6,.i b)::(61,.i b)::(60,.agg [.i 14,.str a.f1,w29 ([g.2.2,l.1]:List S28),.bool false,.bool false,.nils,.nils])::(59,w29 ([g.2.2,l.1]:List S28))::(58,n29 l.1)::(57,.i j)::r)
       let Q:Blk:=⟨[.str x,w44 z,.i l.2,.i A],4,false⟩
       let Z:Blk:=⟨[.i 14,.str a.f1,w29 ([g.2.2,l.1]:List S28),.bool false,.bool false,.nils,.nils],7,false⟩
       let K3:List Blk:=[⟨[.str x,w44 z,.i q,.i A],4,false⟩,B,⟨e29 g.2.2,7,false⟩,⟨e44 a,3,false⟩]
       let K4:List Blk:=[Q,B,⟨e29 g.2.2,7,false⟩,⟨e44 a,3,false⟩]
       refine oD (H':=(mkH [Q,B,Z,⟨e44 a,3,false⟩])) (nav [0] i9p15) Y [(mkH K3),(mkH K4),(mkH [Q,B,Z,⟨e44 a,3,false⟩])] i9d0 (oDr 6 6 r (qAq (l':=(opsAt i9p15).toList.drop 7) (eE:=((57,.i j)::r)) (hs:=[(mkH K3)]) (fi:=54) (args:=[.str a.f1]) (v := .i j) Kr Kr Kr (g54_ok k a.f1 j J) Kr (qA6 (l':=(opsAt i9p15).toList.drop 8) (eE:=((58,n29 l.1)::(57,.i j)::r)) (hs:=[(mkH K4)]) (H':=(mkH K4)) (fi:=21) (args:=[.ptr 0 4 0,.i j]) (v:=n29 l.1) Kr (frC (rs:=[0]) (ms:=[]) (ms':=[]) ((hF.i9_ok j x z q A).1 l T) trivial trivial Kr) Kr (oDh 5 13 Y (mkH [Q,B,Z,⟨e44 a,3,false⟩]) [(mkH [Q,B,Z,⟨e44 a,3,false⟩])] .nil)))) ?_
       refine qAw [Q,B,Z,⟨e44 a,3,false⟩] 2 7 [.i 14,.str a.f1,w29 ([g.2.2,l.1]:List S28),.bool false,.bool false,.nils,.nils] [.i 14,.str a.f1,w29 ([g.2.2,l.1]:List S28),.bool false,.bool false,w9 ([]:LL),w9 ([]:LL)] Kr rfl (.cons (.cons (.cons (.cons (.cons (.nil (.nil (.refl)))))))) ?_
       let Q8:Blk:=⟨[.i 14,.str a.f1,w29 ([g.2.2,l.1]:List S28),.bool false,.bool false,w9 ([]:LL),w9 ([]:LL)],7,false⟩
       refine oHp (mkH [Q,B,Q8,⟨e44 a,3,false⟩]) ?_
       refine oK [0,1,4,5,6] [(0,.ptr 0 4 0),(1,.i u),(4,.ptr 1 7 0),(5,.ptr 2 7 0),(6,.i b)] ?_
       refine qA8 [Q,B,Q8] [⟨e44 a,3,false⟩] Kr rfl Kr ⟨Kr,⟨Kr,⟨Kr,trivial⟩⟩⟩ ?_
       exact ih b l.2 (⟨14,a.f1,(⟨(([g.2.2,l.1]:List S28)).length,(([g.2.2,l.1]:List S28)).flatMap e29⟩:Raw),false,false,([]:LL),([]:LL)⟩:S28)
    ·refine oS 36 (λS=>?_) (λS=>?_)
     ·refine oLH 13 i9p13 [(0,.ptr 0 4 0),(1,.i u),(4,.ptr 1 7 0),(5,.ptr 2 7 0),(7,.ptr 3 3 0),(8,.i b),(48,.bool true)] (mkH K1) ?_
      exact I (true,m,c)
     ·let a5:Env:=((42,.bool (decide (b < maxI u 1)))::(41,.bool (decide (b < maxI u 1)))::(40,.bool (decide (b < maxI u 1)))::(39,.i (maxI u 1))::(38,.i u)::(37,.i b)::(36,.bool false)::E9)
      refine oH 6 (atN 12 (ctl1 i9p12)) a5 (mkH K1) ?_
      refine oS 42 (λS=>?_) (λS=>?_)
      ·refine oL 7 i9p13 [(0,.ptr 0 4 0),(1,.i u),(4,.ptr 1 7 0),(5,.ptr 2 7 0),(7,.ptr 3 3 0),(8,.i b),(48,.bool true)] ?_
       exact I (true,m,c)
      ·refine oR 3 (atN 15 (ctl1 i9p12)) ((45,.str a.f1)::(44,.ptr 3 3 1)::(43,.i o)::(42,.bool false)::a5) ?_
       refine oA (λ(G:Int) => .i G) (atN 16 (ctl1 i9p12)) 46 [.str a.f1] (g52_ok k a.f1) λG a7=>?_
       refine oL 3 i9p13 [(0,.ptr 0 4 0),(1,.i u),(4,.ptr 1 7 0),(5,.ptr 2 7 0),(7,.ptr 3 3 0),(8,.i b),(48,.bool (decide (o < G)))] ?_
       exact I (decide (o < G),m,c)
   ·refine oLH 3 i9p10 [(4,.ptr 1 7 0),(5,.ptr 2 7 0)] (mkH [V,B,⟨e29 c,7,false⟩]) ?_
    exact O (m,c)
def i9B (k:Nat) (F:Fns0) (n:Int) (g:LN) (h:List S43) (l:Int) (j:Int):Option (Option (S28×Int)) :=
 jn (λ(m:Bool×Int)=>if m.1 then (bT (F.i9 (0:Int) g h m.2 j) λa=>some (some ((⟨(13:Int),([99,97,116,99,104]:LN),⟨(([a.1]:List S28)).length,(([a.1]:List S28)).flatMap e29⟩,false,false,([]:LL),([]:LL)⟩:S28),a.2))) else (bT (F.i14 g h m.2 j) λb=>i9_l9 k F n g h l j k b.2.1 b.2.2 b.1)) (λo=>if (decide (n≤0)) then (bT (i13 k ([99,97,116,99,104]:LN) g h l j) λc=>o (c.1,c.2)) else (o (false,l)))
theorem qM (k:Nat) (F:Fns0) (x:FnsOk0 F):∀ m g j n l r,i9B k F m g j n l=some r→CallT Tryz.prog 21 [.ptr 0 4 0,.i m] (mkH [⟨[.str g,w44 j,.i n,.i l],4,false⟩]) ((Xi9 m g j n l).thr r) ((Xi9 m g j n l).enc r) ((Xi9 m g j n l).fin r):=by
 intro m g j n l r h
 refine qA0 (Xi9 m g j n l) Tryz.func21 Kr Kr rfl (t:=i9B k F m g j n l) ?_ h
 unfold i9B
 refine qA1 (eE:=[(0,.ptr 0 4 0),(1,.i m)]) Kr ?_
 let E:Env:=[(11,.bool (decide (m≤0))),(10,.bool (decide (m≤0))),(9,.i m),(4,.ptr 1 7 0),(0,.ptr 0 4 0),(1,.i m)]
 let z:Blk:=⟨[.str g,w44 j,.i n,.i l],4,false⟩
 let o:Blk:=⟨[.i 0,.str [],.nils,.bool false,.bool false,.nils,.nils],0,false⟩
 refine oH 10 (atN 3 (ctl1 i9p1)) E (mkH [z,o]) ?_
 refine oJ i9p2 (λ(q:Bool×Int)=>[(0,.ptr 0 4 0),(1,.i m),(4,.ptr 1 7 0),(14,.bool q.1)]) (λ(q:Bool×Int)=>(mkH [⟨[.str g,w44 j,.i q.2,.i l],4,false⟩,o])) (λq=>?_) (λJ u=>?_)
 ·refine oS 14 (λA=>?_) (λA=>?_)
  ·let G:Env:=[(15,.ptr 0 4 0),(14,.bool true),(0,.ptr 0 4 0),(1,.i m),(4,.ptr 1 7 0),(14,.bool q.1)]
   refine oH 4 (atN 1 (ctl1 i9p3)) G (mkH [⟨[.str g,w44 j,.i q.2,.i l],4,false⟩,o]) ?_
   refine oX (λ(a:(S28×Int))=>n29 a.1) (λa=>[⟨[.str g,w44 j,.i a.2,.i l],4,false⟩,o]) (atN 2 (ctl1 i9p3)) 16 [0] [] [] [0] [] [.ptr 0 4 0,.i 0] (x.i9_ok (0:Int) g j q.2 l) trivial (λ_=>trivial) trivial λa B=>?_
   let I:Blk:=⟨[.str g,w44 j,.i a.2,.i l],4,false⟩
   refine oH 1 (atN 3 (ctl1 i9p3)) ((17,.slice 2 7 0 1 7)::(16,n29 a.1)::G) (mkH [I,o,⟨e29 a.1,0,false⟩]) ?_
   refine oZ 17 2 1 7 [.i a.1.f0,.str a.1.f1,q29 a.1.f2,.bool a.1.f3,.bool a.1.f4,w9 a.1.f5,w9 a.1.f6] [0,1,4,14,15,16] [] trivial ?_
   exact oQF 4 [I,⟨[.i 13,.str [99,97,116,99,104],w29 ([a.1]:List S28),.bool false,.bool false,.nils,.nils],7,false⟩,⟨[],0,false⟩] 1 [] [.agg [.i 13,.str [99,97,116,99,104],w29 ([a.1]:List S28),.bool false,.bool false,.nils,.nils]] (.agg [.i 13,.str [99,97,116,99,104],w29 ([a.1]:List S28),.bool false,.bool false,.vec 0 1 [],.vec 0 1 []]) (.agg (.cs (.cs (.cs (.cs (.cs (.nil (.nil .ps))))))) .ps) trivial
  ·refine oH 5 (atN 1 (ctl1 i9p4)) [(20,.ptr 0 4 0),(14,.bool false),(0,.ptr 0 4 0),(1,.i m),(4,.ptr 1 7 0),(14,.bool q.1)] (mkH [⟨[.str g,w44 j,.i q.2,.i l],4,false⟩,o]) ?_
   refine oX (λ(b:Ri14) => .tuple [n29 b.1,.i b.2.1]) (λb=>[⟨[.str g,w44 j,.i b.2.2,.i l],4,false⟩,o]) (atN 2 (ctl1 i9p4)) 21 [0] [] [] [0] [] [.ptr 0 4 0] (x.i14_ok g j q.2 l) trivial (λ_=>trivial) trivial λb C=>?_
   refine oLH 10 i9p6 [(0,.ptr 0 4 0),(1,.i m),(4,.ptr 1 7 0),(5,.ptr 2 7 0),(6,.i b.2.1)] (mkH [⟨[.str g,w44 j,.i b.2.2,.i l],4,false⟩,o,⟨e29 b.1,7,false⟩]) ?_
   exact (i9_l9_ok k F x m g j n l k) b.2.1 b.2.2 b.1
 ·refine oS 11 (λA=>?_) (λA=>?_)
  ·refine oH 1 (atN 4 (ctl1 i9p1)) ((12,.ptr 0 4 0)::(11,.bool true)::E) (mkH [z,o]) ?_
   refine oX (λ(c:(Bool×Int)) => .bool c.1) (λc=>[⟨[.str g,w44 j,.i c.2,.i l],4,false⟩,o]) (atN 5 (ctl1 i9p1)) 13 [0] [] [] [] [] [.ptr 0 4 0,.str [99,97,116,99,104]] (qAe k ([99,97,116,99,104]:LN) g j n l) trivial (λ_=>trivial) trivial λc D=>?_
   refine oL 2 i9p2 [(0,.ptr 0 4 0),(1,.i m),(4,.ptr 1 7 0),(14,.bool c.1)] ?_
   exact u (c.1,c.2)
  ·refine oLH 4 i9p2 [(0,.ptr 0 4 0),(1,.i m),(4,.ptr 1 7 0),(14,.bool false)] (mkH [z,o]) ?_
   exact u (false,n)
theorem i9B_ok (k:Nat) (F:Fns0) (a:FnsOk0 F):Pi9 (i9B k F):=λb c g j l=>⟨λx h=>qM k F a b c g j l (some x) h,λh=>⟨_,qM k F a b c g j l none h⟩⟩
def par0 (n:Nat):Fns0:=Nat.rec (motive:=λ_=>Fns0) ⟨λ_ _ _ _ _=>none,λ_ _ _ _=>none,λ_ _ _ _ _=>none,λ_ _ _ _=>none,λ_ _ _ _=>none,λ_ _ _ _=>none,λ_ _ _ _ _ _=>none,λ_ _ _ _=>none,λ_ _ _ _ _ _ _=>none,λ_ _ _ _=>none,λ_ _ _ _ _ _ _ _ _ _ _ _=>none,λ_ _ _ _=>none,λ_ _ _ _ _ _ _ _ _ _ _ _=>none,λ_ _ _ _ _ _ _ _ _ _ _ _=>none,λ_ _ _ _=>none,λ_ _ _ _=>none,λ_ _ _ _ _=>none,λ_ _ _ _=>none,λ_ _ _ _=>none,λ_ _ _ _ _ _ _ _ _ _ _=>none,λ_ _ _ _=>none,λ_ _ _ _=>none,λ_ _ _ _=>none,λ_ _ _ _ _ _ _ _ _ _ _=>none,λ_ _ _ _ _ _ _ _ _ _ _=>none,λ_ _ _ _=>none,λ_ _ _ _=>none,λ_ _ _ _ _=>none,λ_ _ _ _ _=>none,λ_ _ _ _ _=>none,λ_ _ _ _=>none,λ_ _ _ _=>none,λ_ _ _ _ _=>none,λ_ _ _ _=>none⟩ (λk F=>⟨i9B k F,i10B k F,i12B k F,i14B k F,i19B k F,i23B k F,i24B k F,i26B k F,i27B k F,i35B k F,i36B k F,i37B k F,i38B k F,i39B k F,i42B k F,i43B k F,i44B k F,i46B k F,i54B k F,i55B k F,i56B k F,i57B k F,i59B k F,i61B k F,i62B k F,i63B k F,i64B k F,i78B k F,i79B k F,i80B k F,i85B k F,i86B k F,i88B k F,i89B k F⟩) n
theorem qA3 : ∀ k, FnsOk0 (par0 k)
 | 0=>⟨(λ_ _ _ _ _=>⟨λ_ h=>(nomatch h),λh=>(nomatch h)⟩),(λ_ _ _ _=>⟨λ_ h=>(nomatch h),λh=>(nomatch h)⟩),(λ_ _ _ _ _=>⟨λ_ h=>(nomatch h),λh=>(nomatch h)⟩),(λ_ _ _ _=>⟨λ_ h=>(nomatch h),λh=>(nomatch h)⟩),(λ_ _ _ _=>⟨λ_ h=>(nomatch h),λh=>(nomatch h)⟩),(λ_ _ _ _=>⟨λ_ h=>(nomatch h),λh=>(nomatch h)⟩),(λ_ _ _ _ _ _=>⟨λ_ h=>(nomatch h),λh=>(nomatch h)⟩),(λ_ _ _ _=>⟨λ_ h=>(nomatch h),λh=>(nomatch h)⟩),(λ_ _ _ _ _ _ _=>⟨λ_ h=>(nomatch h),λh=>(nomatch h)⟩),(λ_ _ _ _=>⟨λ_ h=>(nomatch h),λh=>(nomatch h)⟩),(λ_ _ _ _ _ _ _ _ _ _ _ _=>⟨λ_ h=>(nomatch h),λh=>(nomatch h)⟩),(λ_ _ _ _=>⟨λ_ h=>(nomatch h),λh=>(nomatch h)⟩),(λ_ _ _ _ _ _ _ _ _ _ _ _=>⟨λ_ h=>(nomatch h),λh=>(nomatch h)⟩),(λ_ _ _ _ _ _ _ _ _ _ _ _=>⟨λ_ h=>(nomatch h),λh=>(nomatch h)⟩),(λ_ _ _ _=>⟨λ_ h=>(nomatch h),λh=>(nomatch h)⟩),(λ_ _ _ _=>⟨λ_ h=>(nomatch h),λh=>(nomatch h)⟩),(λ_ _ _ _ _=>⟨λ_ h=>(nomatch h),λh=>(nomatch h)⟩),(λ_ _ _ _=>⟨λ_ h=>(nomatch h),λh=>(nomatch h)⟩),(λ_ _ _ _=>⟨λ_ h=>(nomatch h),λh=>(nomatch h)⟩),(λ_ _ _ _ _ _ _ _ _ _ _=>⟨λ_ h=>(nomatch h),λh=>(nomatch h)⟩),(λ_ _ _ _=>⟨λ_ h=>(nomatch h),λh=>(nomatch h)⟩),(λ_ _ _ _=>⟨λ_ h=>(nomatch h),λh=>(nomatch h)⟩),(λ_ _ _ _=>⟨λ_ h=>(nomatch h),λh=>(nomatch h)⟩),(λ_ _ _ _ _ _ _ _ _ _ _=>⟨λ_ h=>(nomatch h),λh=>(nomatch h)⟩),(λ_ _ _ _ _ _ _ _ _ _ _=>⟨λ_ h=>(nomatch h),λh=>(nomatch h)⟩),(λ_ _ _ _=>⟨λ_ h=>(nomatch h),λh=>(nomatch h)⟩),(λ_ _ _ _=>⟨λ_ h=>(nomatch h),λh=>(nomatch h)⟩),(λ_ _ _ _ _=>⟨λ_ h=>(nomatch h),λh=>(nomatch h)⟩),(λ_ _ _ _ _=>⟨λ_ h=>(nomatch h),λh=>(nomatch h)⟩),(λ_ _ _ _ _=>⟨λ_ h=>(nomatch h),λh=>(nomatch h)⟩),(λ_ _ _ _=>⟨λ_ h=>(nomatch h),λh=>(nomatch h)⟩),(λ_ _ _ _=>⟨λ_ h=>(nomatch h),λh=>(nomatch h)⟩),(λ_ _ _ _ _=>⟨λ_ h=>(nomatch h),λh=>(nomatch h)⟩),(λ_ _ _ _=>⟨λ_ h=>(nomatch h),λh=>(nomatch h)⟩)⟩
 | k+1=>⟨i9B_ok k (par0 k) (qA3 k),i10B_ok k (par0 k) (qA3 k),i12B_ok k (par0 k) (qA3 k),i14B_ok k (par0 k) (qA3 k),i19B_ok k (par0 k) (qA3 k),i23B_ok k (par0 k) (qA3 k),i24B_ok k (par0 k) (qA3 k),i26B_ok k (par0 k) (qA3 k),i27B_ok k (par0 k) (qA3 k),i35B_ok k (par0 k) (qA3 k),i36B_ok k (par0 k) (qA3 k),i37B_ok k (par0 k) (qA3 k),i38B_ok k (par0 k) (qA3 k),i39B_ok k (par0 k) (qA3 k),i42B_ok k (par0 k) (qA3 k),i43B_ok k (par0 k) (qA3 k),i44B_ok k (par0 k) (qA3 k),i46B_ok k (par0 k) (qA3 k),i54B_ok k (par0 k) (qA3 k),i55B_ok k (par0 k) (qA3 k),i56B_ok k (par0 k) (qA3 k),i57B_ok k (par0 k) (qA3 k),i59B_ok k (par0 k) (qA3 k),i61B_ok k (par0 k) (qA3 k),i62B_ok k (par0 k) (qA3 k),i63B_ok k (par0 k) (qA3 k),i64B_ok k (par0 k) (qA3 k),i78B_ok k (par0 k) (qA3 k),i79B_ok k (par0 k) (qA3 k),i80B_ok k (par0 k) (qA3 k),i85B_ok k (par0 k) (qA3 k),i86B_ok k (par0 k) (qA3 k),i88B_ok k (par0 k) (qA3 k),i89B_ok k (par0 k) (qA3 k)⟩
def i9 (k:Nat):Ti9:=(par0 k).i9
theorem i9_ok (k:Nat):Pi9 (i9 k):=(qA3 k).i9_ok
def i10 (k:Nat):Ti10:=(par0 k).i10
theorem i10_ok (k:Nat):Pi10 (i10 k):=(qA3 k).i10_ok
def i12 (k:Nat):Ti12:=(par0 k).i12
theorem i12_ok (k:Nat):Pi12 (i12 k):=(qA3 k).i12_ok
def i14 (k:Nat):Ti14:=(par0 k).i14
theorem i14_ok (k:Nat):Pi14 (i14 k):=(qA3 k).i14_ok
def i19 (k:Nat):Ti19:=(par0 k).i19
theorem i19_ok (k:Nat):Pi19 (i19 k):=(qA3 k).i19_ok
def i23 (k:Nat):Ti23:=(par0 k).i23
theorem i23_ok (k:Nat):Pi23 (i23 k):=(qA3 k).i23_ok
def i24 (k:Nat):Ti24:=(par0 k).i24
theorem i24_ok (k:Nat):Pi24 (i24 k):=(qA3 k).i24_ok
def i26 (k:Nat):Ti26:=(par0 k).i26
theorem i26_ok (k:Nat):Pi26 (i26 k):=(qA3 k).i26_ok
def i27 (k:Nat):Ti27:=(par0 k).i27
theorem i27_ok (k:Nat):Pi27 (i27 k):=(qA3 k).i27_ok
def i35 (k:Nat):Ti35:=(par0 k).i35
theorem i35_ok (k:Nat):Pi35 (i35 k):=(qA3 k).i35_ok
def i36 (k:Nat):Ti36:=(par0 k).i36
theorem i36_ok (k:Nat):Pi36 (i36 k):=(qA3 k).i36_ok
def i37 (k:Nat):Ti37:=(par0 k).i37
theorem i37_ok (k:Nat):Pi37 (i37 k):=(qA3 k).i37_ok
def i38 (k:Nat):Ti38:=(par0 k).i38
theorem i38_ok (k:Nat):Pi38 (i38 k):=(qA3 k).i38_ok
def i39 (k:Nat):Ti39:=(par0 k).i39
theorem i39_ok (k:Nat):Pi39 (i39 k):=(qA3 k).i39_ok
def i42 (k:Nat):Ti42:=(par0 k).i42
theorem i42_ok (k:Nat):Pi42 (i42 k):=(qA3 k).i42_ok
def i43 (k:Nat):Ti43:=(par0 k).i43
theorem i43_ok (k:Nat):Pi43 (i43 k):=(qA3 k).i43_ok
def i44 (k:Nat):Ti44:=(par0 k).i44
theorem i44_ok (k:Nat):Pi44 (i44 k):=(qA3 k).i44_ok
def i46 (k:Nat):Ti46:=(par0 k).i46
theorem i46_ok (k:Nat):Pi46 (i46 k):=(qA3 k).i46_ok
def i54 (k:Nat):Ti54:=(par0 k).i54
theorem i54_ok (k:Nat):Pi54 (i54 k):=(qA3 k).i54_ok
def i55 (k:Nat):Ti55:=(par0 k).i55
theorem i55_ok (k:Nat):Pi55 (i55 k):=(qA3 k).i55_ok
def i56 (k:Nat):Ti56:=(par0 k).i56
theorem i56_ok (k:Nat):Pi56 (i56 k):=(qA3 k).i56_ok
def i57 (k:Nat):Ti57:=(par0 k).i57
theorem i57_ok (k:Nat):Pi57 (i57 k):=(qA3 k).i57_ok
def i59 (k:Nat):Ti59:=(par0 k).i59
theorem i59_ok (k:Nat):Pi59 (i59 k):=(qA3 k).i59_ok
def i61 (k:Nat):Ti61:=(par0 k).i61
theorem i61_ok (k:Nat):Pi61 (i61 k):=(qA3 k).i61_ok
def i62 (k:Nat):Ti62:=(par0 k).i62
theorem i62_ok (k:Nat):Pi62 (i62 k):=(qA3 k).i62_ok
def i63 (k:Nat):Ti63:=(par0 k).i63
theorem i63_ok (k:Nat):Pi63 (i63 k):=(qA3 k).i63_ok
def i64 (k:Nat):Ti64:=(par0 k).i64
theorem i64_ok (k:Nat):Pi64 (i64 k):=(qA3 k).i64_ok
def i78 (k:Nat):Ti78:=(par0 k).i78
theorem i78_ok (k:Nat):Pi78 (i78 k):=(qA3 k).i78_ok
def i79 (k:Nat):Ti79:=(par0 k).i79
theorem i79_ok (k:Nat):Pi79 (i79 k):=(qA3 k).i79_ok
def i80 (k:Nat):Ti80:=(par0 k).i80
theorem i80_ok (k:Nat):Pi80 (i80 k):=(qA3 k).i80_ok
def i85 (k:Nat):Ti85:=(par0 k).i85
theorem i85_ok (k:Nat):Pi85 (i85 k):=(qA3 k).i85_ok
def i86 (k:Nat):Ti86:=(par0 k).i86
theorem i86_ok (k:Nat):Pi86 (i86 k):=(qA3 k).i86_ok
def i88 (k:Nat):Ti88:=(par0 k).i88
theorem i88_ok (k:Nat):Pi88 (i88 k):=(qA3 k).i88_ok
def i89 (k:Nat):Ti89:=(par0 k).i89
theorem i89_ok (k:Nat):Pi89 (i89 k):=(qA3 k).i89_ok
abbrev Ri5:Type:=(Int×Int×LN×Raw×Bool×Bool×LL×LL)
abbrev Ti5:Type:=Int→Int→LN→Raw→Bool→Bool→LL→LL→LN→(List S43)→Int→Int→Option (Option Ri5)
def Xi5 (c:Int) (j:Int) (k:LN) (l:Raw) (m:Bool) (n:Bool) (o:LL) (q:LL) (g:LN) (h:List S43) (b:Int) (a:Int):Fx (Option Ri5):=⟨Tryz.prog,cx,Tryz.f20,λr=>match r with | some r => .tuple [] | none => .top,3,λr=>match r with | some r=>(mkH [⟨[.i c],1,false⟩,⟨[.i r.1,.str r.2.2.1,q29 r.2.2.2.1,.bool r.2.2.2.2.1,.bool r.2.2.2.2.2.1,w9 r.2.2.2.2.2.2.1,w9 r.2.2.2.2.2.2.2],7,false⟩,⟨[.str g,w44 h,.i r.2.1,.i a],4,false⟩]) | none=>(mkH [⟨[.i c],1,false⟩,⟨[.i j,.str k,q29 l,.bool m,.bool n,w9 o,w9 q],7,false⟩,⟨[.str g,w44 h,.i b,.i a],4,false⟩]),cxTi,cxOrd,λr=>match r with | some _=>none | none=>some (thrown,[2]),false⟩
def Pi5 (f:Ti5):Prop := ∀ c g h j k l m n o q a b,PQh (Xi5 c g h j k l m n o q a b) 20 [.ptr 2 4 0,.ptr 0 1 0,.ptr 1 7 0] (f c g h j k l m n o q a b)
def i5p0:Pt:=nav [] (bodyAt Tryz.f20)
def i5 (k:Nat) (g:Int) (l:Int) (m:LN) (n:Raw) (o:Bool) (q:Bool) (r:LL) (u:LL) (h:LN) (j:List S43) (b:Int) (c:Int):Option (Option Ri5) :=
 bT (i9 k g h j b c) λa=>some (some (a.1.f0,a.2,a.1.f1,a.1.f2,a.1.f3,a.1.f4,a.1.f5,a.1.f6))
theorem i5_all (k:Nat):∀ g m n o q u x z j l b a r,i5 k g m n o q u x z j l b a=some r→CallT Tryz.prog 20 [.ptr 2 4 0,.ptr 0 1 0,.ptr 1 7 0] (mkH [⟨[.i g],1,false⟩,⟨[.i m,.str n,q29 o,.bool q,.bool u,w9 x,w9 z],7,false⟩,⟨[.str j,w44 l,.i b,.i a],4,false⟩]) ((Xi5 g m n o q u x z j l b a).thr r) ((Xi5 g m n o q u x z j l b a).enc r) ((Xi5 g m n o q u x z j l b a).fin r):=by
 intro g m n o q u x z j l b a r h
 refine qA0 (Xi5 g m n o q u x z j l b a) Tryz.func20 Kr Kr rfl (t:=i5 k g m n o q u x z j l b a) ?_ h
 unfold i5
 refine qA1 (eE:=[(0,.ptr 2 4 0),(1,.ptr 0 1 0),(2,.ptr 1 7 0)]) Kr ?_
 let B:Blk:=⟨[.i m,.str n,q29 o,.bool q,.bool u,w9 x,w9 z],7,false⟩
 refine oH 3 (atN 2 (ctl1 i5p0)) [(5,.i g),(4,.ptr 2 4 0),(0,.ptr 2 4 0),(1,.ptr 0 1 0),(2,.ptr 1 7 0)] (mkH [⟨[.i g],1,false⟩,B,⟨[.str j,w44 l,.i b,.i a],4,false⟩]) ?_
 refine oX (λ(c:(S28×Int))=>n29 c.1) (λc=>[⟨[.i g],1,false⟩,B,⟨[.str j,w44 l,.i c.2,.i a],4,false⟩]) (atN 3 (ctl1 i5p0)) 6 [2] [] [] [2] [] [.ptr 2 4 0,.i g] (i9_ok k g j l b a) trivial (λ_=>trivial) trivial λc A=>?_
 exact oQF 2 [⟨[.i g],1,false⟩,⟨e29 c.1,7,false⟩,⟨[.str j,w44 l,.i c.2,.i a],4,false⟩] 3 [] [] (.tuple []) .ps trivial
theorem i5_ok (k:Nat):Pi5 (i5 k):=λc g j l m n o q r u a b=>⟨λx h=>i5_all k c g j l m n o q r u a b (some x) h,λh=>⟨_,i5_all k c g j l m n o q r u a b none h⟩⟩
abbrev Ri0:Type:=(Int×Int×LL×LL×Int×LN×Raw×Bool×Bool)
abbrev Ti0:Type:=LN→(List S43)→Int→Int→Int→Int→LN→Raw→Bool→Bool→LL→LL→Option Ri0
def Xi0 (g:LN) (h:List S43) (j:Int) (k:Int) (a:Int) (l:Int) (m:LN) (n:Raw) (o:Bool) (q:Bool) (b:LL) (c:LL):Fx Ri0:=⟨Tryz.prog,cx,Tryz.f19,λr => .tuple [.i r.1,.i r.2.1],2,λr=>(mkH [⟨[.i a],1,false⟩,⟨[.i r.2.2.2.2.1,.str r.2.2.2.2.2.1,q29 r.2.2.2.2.2.2.1,.bool r.2.2.2.2.2.2.2.1,.bool r.2.2.2.2.2.2.2.2,w9 r.2.2.1,w9 r.2.2.2.1],7,false⟩]),cxTi,cxOrd,λ_=>none,true⟩
def Pi0 (f:Ti0):Prop := ∀ c g h j k l m n o q a b,PNh (Xi0 c g h j k l m n o q a b) 19 [.str c,w44 g,.i h,.i j,.func 20 [] [.ptr 0 1 0,.ptr 1 7 0]] (mkH [⟨[.i k],1,false⟩,⟨[.i l,.str m,q29 n,.bool o,.bool q,w9 a,w9 b],7,false⟩]) (f c g h j k l m n o q a b)
def i0p1:Pt:=nav [0,0,0,0] (nav [0] (bodyAt Tryz.f19))
def i0p2:Pt:=nav [0,0] i0p1
def i0p6:Pt:=nav [0,0,0] (nav [2,0,0] i0p2)
def i0p7:Pt:=nav [0,0,0] i0p6
def i0 (k:Nat) (u:LN) (r:List S43) (g:Int) (h:Int) (x:Int) (j:Int) (l:LN) (m:Raw) (n:Bool) (o:Bool) (b:LL) (c:LL):Option Ri0 :=
 jn (λ(z:Bool)=>if z then (some ((0:Int),(8:Int),b,c,j,l,m,n,o)) else (cT (i5 k x j l m n o b c u r g h) (some ((0:Int),(8:Int),b,c,j,l,m,n,o)) λa=>some (a.2.1,(0:Int),a.2.2.2.2.2.2.1,a.2.2.2.2.2.2.2,a.1,a.2.2.1,a.2.2.2.1,a.2.2.2.2.1,a.2.2.2.2.2.1))) (λq=>if (decide (g < 0)) then (q true) else (if (decide ((r.length:Int) < h)) then (q true) else (q (decide (h < g)))))
theorem i0_all (k:Nat):∀ m j l b n o q u z A c g r,i0 k m j l b n o q u z A c g=some r→CallT Tryz.prog 19 [.str m,w44 j,.i l,.i b,.func 20 [] [.ptr 0 1 0,.ptr 1 7 0]] (mkH [⟨[.i n],1,false⟩,⟨[.i o,.str q,q29 u,.bool z,.bool A,w9 c,w9 g],7,false⟩]) ((Xi0 m j l b n o q u z A c g).thr r) ((Xi0 m j l b n o q u z A c g).enc r) ((Xi0 m j l b n o q u z A c g).fin r):=by
 intro m j l b n o q u z A c g r h
 refine qA0 (Xi0 m j l b n o q u z A c g) Tryz.func19 Kr Kr rfl (t:=i0 k m j l b n o q u z A c g) ?_ h
 unfold i0
 refine qA1 (eE:=[(0,.str m),(1,w44 j),(2,.i l),(3,.i b),(4,.func 20 [] [.ptr 0 1 0,.ptr 1 7 0])]) Kr ?_
 let E:Env:=[(15,.bool (decide (l < 0))),(14,.bool (decide (l < 0))),(13,.i l),(11,.ptr 3 1 0),(10,.ptr 2 1 0),(0,.str m),(1,w44 j),(2,.i l),(3,.i b),(4,.func 20 [] [.ptr 0 1 0,.ptr 1 7 0])]
 let B:Blk:=⟨[.i o,.str q,q29 u,.bool z,.bool A,w9 c,w9 g],7,false⟩
 let I:List Blk:=[⟨[.i n],1,false⟩,B,⟨[.i 0],0,false⟩,⟨[.i 0],0,false⟩]
 refine oH 11 (atN 3 (ctl1 i0p1)) E (mkH I) ?_
 refine oJ i0p2 (λ(J:Bool)=>[(0,.str m),(1,w44 j),(2,.i l),(3,.i b),(4,.func 20 [] [.ptr 0 1 0,.ptr 1 7 0]),(10,.ptr 2 1 0),(11,.ptr 3 1 0),(25,.bool J)]) (λ(J:Bool)=>(mkH I)) (λJ=>?_) (λZ C=>?_)
 ·refine oS 25 (λF=>?_) (λF=>?_)
  ·let N:Env:=[(25,.bool true),(0,.str m),(1,w44 j),(2,.i l),(3,.i b),(4,.func 20 [] [.ptr 0 1 0,.ptr 1 7 0]),(10,.ptr 2 1 0),(11,.ptr 3 1 0),(25,.bool J)]
   exact oQF 7 [⟨[.i n],1,false⟩,B,⟨[.i 0],1,false⟩,⟨[.i 8],1,false⟩] 2 [] [.i 0,.i 8] (.tuple [.i 0,.i 8]) .ps trivial
  ·let K:Env:=[(4,.func 20 [] [.ptr 0 1 0,.ptr 1 7 0]),(10,.ptr 2 1 0),(11,.ptr 3 1 0),(12,.ptr 4 4 0)]
   let S:List Blk:=[⟨[.i n],1,false⟩,B,⟨[.i 0],0,false⟩,⟨[.i 0],0,false⟩,⟨[.str m,w44 j,.i l,.i b],0,false⟩]
   refine oLH 13 i0p6 K (mkH S) ?_
   refine oR 2 (atN 1 (ctl1 i0p6)) ((32,.func 46 [] [.ptr 2 1 0,.ptr 3 1 0])::K) ?_
   refine qIy (f:=46) (caps:=[.ptr 2 1 0,.ptr 3 1 0]) Kr ?_
   refine okD_at (p':=(atN 2 (ctl1 i0p6))) Kr ?_
   refine qDv 5 (p':=(atN 2 (ctl1 i0p7))) (eE:=((34,.ptr 4 4 0)::(33,.func 20 [] [.ptr 0 1 0,.ptr 1 7 0])::(32,.func 46 [] [.ptr 2 1 0,.ptr 3 1 0])::K)) (H':=(mkH S)) Kr ?_
   let G:Blk:=⟨[.str m,w44 j,.i l,.i b],4,false⟩
   let O:List Blk:=[⟨[.i n],1,false⟩,B,⟨[.i 0],0,false⟩,⟨[.i 0],0,false⟩,G]
   let T:List Blk:=[⟨[.i n],1,false⟩,B,⟨[.i 0],1,false⟩,⟨[.i 8],1,false⟩,G]
   refine qJ (tv:=thrown) (D:=[4]) (rc:=((0:Int),(8:Int),c,g,o,q,u,z,A)) (tc:=some ((0:Int),(8:Int),c,g,o,q,u,z,A)) (xs:=[.i 0,.i 8]) (v := .tuple [.i 0,.i 8]) (fi:=20) (args:=[.ptr 4 4 0,.ptr 0 1 0,.ptr 1 7 0]) (λ(a:Ri5) => .tuple []) (λ(a:Ri5)=>(mkH [⟨[.i n],1,false⟩,⟨[.i a.1,.str a.2.2.1,q29 a.2.2.2.1,.bool a.2.2.2.2.1,.bool a.2.2.2.2.2.1,w9 a.2.2.2.2.2.2.1,w9 a.2.2.2.2.2.2.2],7,false⟩,⟨[.i 0],0,false⟩,⟨[.i 0],0,false⟩,⟨[.str m,w44 j,.i a.2.1,.i b],4,false⟩])) (atN 3 (ctl1 i0p7)) (λa=>[(35,.tuple []),(34,.ptr 4 4 0),(33,.func 20 [] [.ptr 0 1 0,.ptr 1 7 0]),(32,.func 46 [] [.ptr 2 1 0,.ptr 3 1 0]),(4,.func 20 [] [.ptr 0 1 0,.ptr 1 7 0]),(10,.ptr 2 1 0),(11,.ptr 3 1 0),(12,.ptr 4 4 0)]) O [⟨[.i n],1,false⟩,B] [⟨[.i 0],1,false⟩,⟨[.i 8],1,false⟩,G] [(10,.ptr 2 1 0),(11,.ptr 3 1 0)] [10,11] 4 rfl rfl Kr (λh=>frS 0 (M:=O) (rs:=[0,1,4]) (ms:=[]) (mv:=[]) (mm:=[]) (D:=[4]) (xs':=[.ptr 4 4 0,.ptr 0 1 0,.ptr 1 7 0]) (.refl) ((i5_ok k n o q u z A c g m j l b).2 h) trivial trivial Kr) Kr Kr Kr Kr (qDj (⟨Tryz.prog,cx,Tryz.f46,λ_ => .tuple [],5,λ_=>(mkH T),cxTi,cxOrd,λ_=>none,false⟩:Fx Unit) 5 2 (x := .iface 70 (.agg [])) qE8 Kr Kr Kr rfl rfl rfl rfl ?_) rfl Kr Kr Kr (.pures Kr) ⟨Kr,⟨Kr,trivial⟩⟩ Kr Kr (λa h=>frW 0 O (rs:=[0,1,4]) (ms:=[]) (ms':=[]) (mv:=[]) (xs':=[.ptr 4 4 0,.ptr 0 1 0,.ptr 1 7 0]) (.refl) ((i5_ok k n o q u z A c g m j l b).1 a h) trivial trivial Kr) (λ_=>by kernel_rfl) (λa Q=>?_)
   ·refine oE [(2,.iface 70 (.agg [])),(5,.iface 70 (.agg [])),(0,.ptr 2 1 0),(1,.ptr 3 1 0)] ?_
    let E:Env:=[(4,.bool true),(3,.ptr 5 0 0),(12,.bool true),(11,.agg []),(8,.tuple [.agg [],.bool true]),(10,.tuple [.agg [],.bool true]),(9,.iface 70 (.agg [])),(7,.bool true),(6,.iface 70 (.agg [])),(2,.iface 70 (.agg [])),(5,.iface 70 (.agg [])),(0,.ptr 2 1 0),(1,.ptr 3 1 0)]
    let N:Env:=[(0,.ptr 2 1 0),(1,.ptr 3 1 0),(2,.iface 70 (.agg [])),(4,.bool true)]
    refine oLH 19 (nav [0,0,0] (nav [1,0,0] (nav [0,0] (nav [0] (restAt Tryz.f46))))) N (mkH [⟨[.i n],1,false⟩,B,⟨[.i 0],0,false⟩,⟨[.i 0],0,false⟩,G,⟨[],0,false⟩]) ?_
    refine oH 10 .fin ((14,.bool false)::(13,.bool true)::N) (mkH [⟨[.i n],1,false⟩,B,⟨[.i 0],1,false⟩,⟨[.i 8],1,false⟩,G,⟨[],0,false⟩]) ?_
    refine qA8 T [⟨[],0,false⟩] Kr rfl Kr ⟨Kr,⟨Kr,⟨Kr,⟨Kr,⟨Kr,trivial⟩⟩⟩⟩⟩ ?_
    exact qF0 (r:=()) (xs:=[]) Kr Kr Kr Kr
   ·let U:Blk:=⟨[.i a.1,.str a.2.2.1,q29 a.2.2.2.1,.bool a.2.2.2.2.1,.bool a.2.2.2.2.2.1,w9 a.2.2.2.2.2.2.1,w9 a.2.2.2.2.2.2.2],7,false⟩
    let V:Blk:=⟨[.i a.2.1],1,false⟩
    let W:Blk:=⟨[.str m,w44 j,.i a.2.1,.i b],4,false⟩
    let L:List Blk:=[⟨[.i n],1,false⟩,U,V,⟨[.i 0],1,false⟩,W]
    refine qDv 11 (p' := .fin) (eE:=((39,.i a.2.1)::(38,.ptr 4 4 2)::(37,.ptr 4 4 0)::(36,.ptr 4 4 0)::(35,.tuple [])::(34,.ptr 4 4 0)::(33,.func 20 [] [.ptr 0 1 0,.ptr 1 7 0])::(32,.func 46 [] [.ptr 2 1 0,.ptr 3 1 0])::K)) (H':=(mkH L)) Kr ?_
    refine qLv (r:=(a.2.1,(0:Int),a.2.2.2.2.2.2.1,a.2.2.2.2.2.2.2,a.1,a.2.2.1,a.2.2.2.1,a.2.2.2.2.1,a.2.2.2.2.2.1)) (xs:=[.i a.2.1,.i 0]) (v := .tuple [.i a.2.1,.i 0]) L [⟨[.i n],1,false⟩,U] [V,⟨[.i 0],1,false⟩,W] rfl rfl (qDj (⟨Tryz.prog,cx,Tryz.f46,λ_ => .tuple [],5,λ_=>(mkH L),cxTi,cxOrd,λ_=>none,false⟩:Fx Unit) 5 2 (x := .nili) qJ1 Kr Kr Kr rfl rfl rfl rfl ?_) Kr Kr Kr Kr (.pures Kr) ⟨Kr,⟨Kr,trivial⟩⟩ Kr Kr
    let E:Env:=[(7,.bool false),(6,.nili),(2,.nili),(5,.nili),(0,.ptr 2 1 0),(1,.ptr 3 1 0)]
    refine oH 7 .fin E (mkH L) ?_
    exact qF0 (r:=()) (xs:=[]) Kr Kr Kr Kr
 ·refine oS 15 (λF=>?_) (λF=>?_)
  ·refine oLH 11 i0p2 [(0,.str m),(1,w44 j),(2,.i l),(3,.i b),(4,.func 20 [] [.ptr 0 1 0,.ptr 1 7 0]),(10,.ptr 2 1 0),(11,.ptr 3 1 0),(25,.bool true)] (mkH I) ?_
   exact C true
  ·let Y:Env:=((21,.bool (decide ((j.length:Int) < b)))::(20,.bool (decide ((j.length:Int) < b)))::(19,.bool (decide ((j.length:Int) < b)))::(18,.i (j.length:Int))::(17,w44 j)::(16,.i b)::(15,.bool false)::E)
   refine oH 6 (atN 9 (ctl1 i0p1)) Y (mkH I) ?_
   refine oS 21 (λF=>?_) (λF=>?_)
   ·refine oR 5 i0p2 ((25,.bool true)::(24,.tuple [])::(23,.tuple [])::(22,.tuple [])::(21,.bool true)::Y) ?_
    refine oK [0,1,2,3,4,10,11,25] [(0,.str m),(1,w44 j),(2,.i l),(3,.i b),(4,.func 20 [] [.ptr 0 1 0,.ptr 1 7 0]),(10,.ptr 2 1 0),(11,.ptr 3 1 0),(25,.bool true)] ?_
    exact C true
   ·refine oL 5 i0p2 [(0,.str m),(1,w44 j),(2,.i l),(3,.i b),(4,.func 20 [] [.ptr 0 1 0,.ptr 1 7 0]),(10,.ptr 2 1 0),(11,.ptr 3 1 0),(25,.bool (decide (b < l)))] ?_
    exact C (decide (b < l))
theorem i0_ok (k:Nat):Pi0 (i0 k):=λc g j l m n o q r u a b=>λx h=>i0_all k c g j l m n o q r u a b x h
def Xg6:Fx (S28×Int×Int):=⟨Tryz.prog,cx,Tryz.f6,λr => .tuple [.agg [.i r.1.f0,.str r.1.f1,q29 r.1.f2,.bool r.1.f3,.bool r.1.f4,w9 r.1.f5,w9 r.1.f6],.i r.2.1,.i r.2.2],0,λ_=>H0,cxTi,cxOrd,λ_=>none,false⟩
def g6p2:Pt:=nav [0,0,0] (nav [0,0,0] (nav [0] (bodyAt Tryz.f6)))
def g6p3:Pt:=nav [0,0,0] g6p2
def g6 (k:Nat) (c:LN) (g:List S43) (h:Int) (j:Int) (l:Int):Option (S28×Int×Int) :=
 (i0 k c g h j l (0:Int) ([]:LN) (⟨(([]:List S28)).length,(([]:List S28)).flatMap e29⟩:Raw) false false ([]:LL) ([]:LL)).bind λa=>(g22 k (⟨a.2.2.2.2.1,a.2.2.2.2.2.1,a.2.2.2.2.2.2.1,a.2.2.2.2.2.2.2.1,a.2.2.2.2.2.2.2.2,a.2.2.1,a.2.2.2.1⟩:S28) a.2.1).bind λb=>some (b,a.1,a.2.1)
theorem g6_ok (k:Nat) (c:LN) (g:List S43) (j:Int) (l:Int) (b:Int) (r:(S28×Int×Int)) (h:g6 k c g j l b=some r):PureOk Tryz.prog 6 [.str c,w44 g,.i j,.i l,.i b] (.tuple [.agg [.i r.1.f0,.str r.1.f1,q29 r.1.f2,.bool r.1.f3,.bool r.1.f4,w9 r.1.f5,w9 r.1.f6],.i r.2.1,.i r.2.2]):=by
 refine qA5 Xg6 (λ_=>⟨rfl,rfl⟩) Tryz.func6 (by decide +kernel) Kr (t:=g6 k c g j l b) ?_ h
 unfold g6
 refine qA1 (eE:=[(0,.str c),(1,w44 g),(2,.i j),(3,.i l),(4,.i b)]) Kr ?_
 let u:Env:=[(13,.ptr 2 7 0),(12,.i 0),(11,.i 0),(10,.ptr 1 7 0),(9,.ptr 0 1 0),(0,.str c),(1,w44 g),(2,.i j),(3,.i l),(4,.i b)]
 let m:Blk:=⟨[.i 0,.str [],.nils,.bool false,.bool false,.nils,.nils],0,false⟩
 refine oH 12 g6p2 u (mkH [⟨[.i b],0,false⟩,m,m]) ?_
 refine qAw [⟨[.i b],0,false⟩,m,m] 2 0 [.i 0,.str [],.nils,.bool false,.bool false,.nils,.nils] [.i 0,.str [],w29 ([]:List S28),.bool false,.bool false,w9 ([]:LL),w9 ([]:LL)] Kr rfl (.cons (.cons (.nil (.cons (.cons (.nil (.nil (.refl)))))))) ?_
 let x:Env:=((21,.func 20 [] [.ptr 0 1 0,.ptr 2 7 0])::(20,.i l)::(19,.i j)::(18,w44 g)::(17,.str c)::u)
 refine oH 6 (atN 5 (ctl1 g6p2)) x (mkH [⟨[.i b],0,false⟩,m,⟨[.i 0,.str [],w29 ([]:List S28),.bool false,.bool false,w9 ([]:LL),w9 ([]:LL)],0,false⟩]) ?_
 refine qAg (λ(a:Ri0) => .tuple [.i a.1,.i a.2.1]) (λ(a:Ri0)=>(mkH [⟨[.i b],1,false⟩,m,⟨[.i a.2.2.2.2.1,.str a.2.2.2.2.2.1,q29 a.2.2.2.2.2.2.1,.bool a.2.2.2.2.2.2.2.1,.bool a.2.2.2.2.2.2.2.2,w9 a.2.2.1,w9 a.2.2.2.1],7,false⟩])) (atN 6 (ctl1 g6p2)) (λa=>((22,.tuple [.i a.1,.i a.2.1])::x)) (fi:=19) (args:=[.str c,w44 g,.i j,.i l,.func 20 [] [.ptr 0 1 0,.ptr 2 7 0]]) Kr (λa h=>frW 0 [⟨[.i b],1,false⟩,m,⟨[.i 0,.str [],w29 ([]:List S28),.bool false,.bool false,w9 ([]:LL),w9 ([]:LL)],7,false⟩] (rs:=[0,2]) (ms:=[]) (ms':=[]) (mv:=[]) (xs':=[.str c,w44 g,.i j,.i l,.func 20 [] [.ptr 0 1 0,.ptr 2 7 0]]) (.refl) (i0_ok k c g j l b (0:Int) ([]:LN) (⟨(([]:List S28)).length,(([]:List S28)).flatMap e29⟩:Raw) false false ([]:LL) ([]:LL) a h) trivial trivial Kr) (λ_=>by kernel_rfl) (λa o=>?_)
 let z:Env:=[(10,.ptr 1 7 0),(13,.ptr 2 7 0),(14,.i a.1),(15,.i a.2.1)]
 refine oLH 7 g6p3 z (mkH [⟨[.i b],1,false⟩,m,⟨[.i a.2.2.2.2.1,.str a.2.2.2.2.2.1,q29 a.2.2.2.2.2.2.1,.bool a.2.2.2.2.2.2.2.1,.bool a.2.2.2.2.2.2.2.2,w9 a.2.2.1,w9 a.2.2.2.1],7,false⟩]) ?_
 refine oR 3 (atN 2 (ctl1 g6p3)) ((26,.i a.2.1)::(25,.agg [.i a.2.2.2.2.1,.str a.2.2.2.2.2.1,q29 a.2.2.2.2.2.2.1,.bool a.2.2.2.2.2.2.2.1,.bool a.2.2.2.2.2.2.2.2,w9 a.2.2.1,w9 a.2.2.2.1])::z) ?_
 refine oA (λ(n:S28)=>n29 n) (atN 3 (ctl1 g6p3)) 27 [.agg [.i a.2.2.2.2.1,.str a.2.2.2.2.2.1,q29 a.2.2.2.2.2.2.1,.bool a.2.2.2.2.2.2.2.1,.bool a.2.2.2.2.2.2.2.2,w9 a.2.2.1,w9 a.2.2.2.1],.i a.2.1] (g22_ok k (⟨a.2.2.2.2.1,a.2.2.2.2.2.1,a.2.2.2.2.2.2.1,a.2.2.2.2.2.2.2.1,a.2.2.2.2.2.2.2.2,a.2.2.1,a.2.2.2.1⟩:S28) a.2.1) λn q=>?_
 exact oQ 7
abbrev Ti1:Type:=LN→(List S43)→Int→Int→Option Unit
def Xi1 (a:LN) (b:List S43) (c:Int) (g:Int):Fx Unit:=⟨Tryz.prog,cx,Tryz.f23,λr => .nilp,0,λr=>(mkH []),cxTi,cxOrd,λ_=>none,false⟩
def Pi1 (f:Ti1):Prop := ∀ a b c g,PNh (Xi1 a b c g) 23 [.str a,w44 b,.i c,.i g] (mkH []) (f a b c g)
def i1p1:Pt:=nav [0,0,0,0] (nav [0] (bodyAt Tryz.f23))
def i1p2:Pt:=nav [0,0] i1p1
def i1 (k:Nat) (j:LN) (g:List S43) (b:Int) (c:Int):Option Unit :=
 jn (λ(h:Bool)=>if h then (some ()) else none) (λa=>if (decide (b < 0)) then (a true) else (if (decide ((g.length:Int) < c)) then (a true) else (a (decide (c < b)))))
theorem i1_all (k:Nat):∀ g b c a r,i1 k g b c a=some r→CallT Tryz.prog 23 [.str g,w44 b,.i c,.i a] (mkH []) ((Xi1 g b c a).thr r) ((Xi1 g b c a).enc r) ((Xi1 g b c a).fin r):=by
 intro g b c a r h
 refine qA0 (Xi1 g b c a) Tryz.func23 Kr Kr rfl (t:=i1 k g b c a) ?_ h
 unfold i1
 refine qA1 (eE:=[(0,.str g),(1,w44 b),(2,.i c),(3,.i a)]) Kr ?_
 let n:Env:=[(11,.bool (decide (c < 0))),(10,.bool (decide (c < 0))),(9,.i c),(8,.nilp),(0,.str g),(1,w44 b),(2,.i c),(3,.i a)]
 refine oH 10 (atN 3 (ctl1 i1p1)) n (mkH []) ?_
 refine oJ i1p2 (λ(m:Bool)=>[(0,.str g),(1,w44 b),(2,.i c),(3,.i a),(21,.bool m)]) (λ(m:Bool)=>(mkH [])) (λm=>?_) (λo j=>?_)
 ·refine oS 21 (λl=>?_) (λl=>?_)
  ·refine oH 6 .fin [(8,.nilp),(21,.bool true),(0,.str g),(1,w44 b),(2,.i c),(3,.i a),(21,.bool m)] (mkH []) ?_
   exact qAx (r:=()) (xs:=[.nilp]) [] [] Kr Kr Kr Kr Kr trivial Kr Kr
  ·exact ok_none
 ·refine oS 11 (λl=>?_) (λl=>?_)
  ·refine oLH 11 i1p2 [(0,.str g),(1,w44 b),(2,.i c),(3,.i a),(21,.bool true)] (mkH []) ?_
   exact j true
  ·refine oH 6 (atN 9 (ctl1 i1p1)) ((17,.bool (decide ((b.length:Int) < a)))::(16,.bool (decide ((b.length:Int) < a)))::(15,.bool (decide ((b.length:Int) < a)))::(14,.i (b.length:Int))::(13,w44 b)::(12,.i a)::(11,.bool false)::n) (mkH []) ?_
   refine oS 17 (λl=>?_) (λl=>?_)
   ·refine oL 5 i1p2 [(0,.str g),(1,w44 b),(2,.i c),(3,.i a),(21,.bool true)] ?_
    exact j true
   ·refine oL 5 i1p2 [(0,.str g),(1,w44 b),(2,.i c),(3,.i a),(21,.bool (decide (a < c)))] ?_
    exact j (decide (a < c))
theorem i1_ok (k:Nat):Pi1 (i1 k):=λa b c g=>λx h=>i1_all k a b c g x h
abbrev Ri8:Type:=(LN×(List S43)×Int×Int×Bool)
abbrev Ti8:Type:=LN→(List S43)→Int→Int→Option Ri8
def Xi8 (a:LN) (b:List S43) (c:Int) (g:Int):Fx Ri8:=⟨Tryz.prog,cx,Tryz.f23,λr => .ptr 0 5 0,0,λr=>(mkH [⟨[.str r.1,w44 r.2.1,.i r.2.2.1,.i r.2.2.2.1,.bool r.2.2.2.2],0,false⟩]),cxTi,cxOrd,λ_=>none,false⟩
def Pi8 (f:Ti8):Prop := ∀ a b c g,PNh (Xi8 a b c g) 23 [.str a,w44 b,.i c,.i g] (mkH []) (f a b c g)
def i8p1:Pt:=nav [0,0,0,0] (nav [0] (bodyAt Tryz.f23))
def i8p2:Pt:=nav [0,0] i8p1
def i8 (k:Nat) (h:LN) (g:List S43) (a:Int) (b:Int):Option Ri8 :=
 jn (λ(j:Bool)=>if j then none else (some (h,g,a,b,false))) (λc=>if (decide (a < 0)) then (c true) else (if (decide ((g.length:Int) < b)) then (c true) else (c (decide (b < a)))))
theorem i8_all (k:Nat):∀ g b c a r,i8 k g b c a=some r→CallT Tryz.prog 23 [.str g,w44 b,.i c,.i a] (mkH []) ((Xi8 g b c a).thr r) ((Xi8 g b c a).enc r) ((Xi8 g b c a).fin r):=by
 intro g b c a r h
 refine qA0 (Xi8 g b c a) Tryz.func23 Kr Kr rfl (t:=i8 k g b c a) ?_ h
 unfold i8
 refine qA1 (eE:=[(0,.str g),(1,w44 b),(2,.i c),(3,.i a)]) Kr ?_
 let n:Env:=[(11,.bool (decide (c < 0))),(10,.bool (decide (c < 0))),(9,.i c),(8,.nilp),(0,.str g),(1,w44 b),(2,.i c),(3,.i a)]
 refine oH 10 (atN 3 (ctl1 i8p1)) n (mkH []) ?_
 refine oJ i8p2 (λ(m:Bool)=>[(0,.str g),(1,w44 b),(2,.i c),(3,.i a),(21,.bool m)]) (λ(m:Bool)=>(mkH [])) (λm=>?_) (λq j=>?_)
 ·refine oS 21 (λl=>?_) (λl=>?_)
  ·exact ok_none
  ·let o:Blk:=⟨[.str g,w44 b,.i c,.i a,.bool false],0,false⟩
   refine oH 13 .fin [(8,.ptr 0 5 0),(27,.ptr 0 5 0),(26,.agg [.str g,w44 b,.i c,.i a,.bool false]),(25,.i a),(24,.i c),(23,w44 b),(22,.str g),(21,.bool false),(0,.str g),(1,w44 b),(2,.i c),(3,.i a),(21,.bool m)] (mkH [o]) ?_
   exact qAx (r:=(g,b,c,a,false)) (xs:=[.ptr 0 5 0]) [o] [] Kr Kr Kr Kr Kr ⟨Kr,trivial⟩ Kr Kr
 ·refine oS 11 (λl=>?_) (λl=>?_)
  ·refine oLH 11 i8p2 [(0,.str g),(1,w44 b),(2,.i c),(3,.i a),(21,.bool true)] (mkH []) ?_
   exact j true
  ·refine oH 6 (atN 9 (ctl1 i8p1)) ((17,.bool (decide ((b.length:Int) < a)))::(16,.bool (decide ((b.length:Int) < a)))::(15,.bool (decide ((b.length:Int) < a)))::(14,.i (b.length:Int))::(13,w44 b)::(12,.i a)::(11,.bool false)::n) (mkH []) ?_
   refine oS 17 (λl=>?_) (λl=>?_)
   ·refine oL 5 i8p2 [(0,.str g),(1,w44 b),(2,.i c),(3,.i a),(21,.bool true)] ?_
    exact j true
   ·refine oL 5 i8p2 [(0,.str g),(1,w44 b),(2,.i c),(3,.i a),(21,.bool (decide (a < c)))] ?_
    exact j (decide (a < c))
theorem i8_ok (k:Nat):Pi8 (i8 k):=λa b c g=>λx h=>i8_all k a b c g x h
def Xg112:Fx Bool:=⟨Tryz.prog,cx,Tryz.f112,λr => .bool r,0,λ_=>H0,cxTi,cxOrd,λ_=>none,false⟩
def g112p3:Pt:=nav [0,0] (nav [0,0,0,0] (nav [0,0,0,0] (nav [0] (bodyAt Tryz.f112))))
def g112p4:Pt:=nav [1,0] g112p3
def g112p7:Pt:=nav [0,0] (nav [2,0,0] g112p3)
def g112p8:Pt:=nav [1,0] g112p7
def g112p12:Pt:=nav [0,0] (nav [2,0] g112p7)
def g112p14:Pt:=nav [0,0] (nav [2,0] g112p12)
def g112p16:Pt:=nav [0,0] (nav [2,0] g112p14)
def g112p18:Pt:=nav [0,0] (nav [2,0] g112p16)
def g112 (k:Nat) (a:S28):Option Bool :=
 if (decide (a.f0=1)) then (if (!(eqL a.f1 [])) then ((nthS a.f1 0).bind λj=>if (decide (48≤j)) then ((nthS a.f1 0).bind λg=>if (!(decide (g≤57))) then ((nthS a.f1 0).bind λb=>if (!decide (b=36)) then ((nthS a.f1 0).bind λc=>some (!decide (c=34))) else (some false)) else (some false)) else ((nthS a.f1 0).bind λb=>if (!decide (b=36)) then ((nthS a.f1 0).bind λc=>some (!decide (c=34))) else (some false))) else (some false)) else (jn (λ(l:Bool)=>if l then (some true) else (some false)) (λh=>if (decide (a.f0=2)) then (h true) else (if (decide (a.f0=3)) then (h true) else (if (decide (a.f0=8)) then (h true) else (if (decide (a.f0=9)) then (h true) else (if (decide (a.f0=10)) then (h true) else (if (decide (a.f0=11)) then (h true) else (h (decide (a.f0=12))))))))))
theorem g112_ok (k:Nat) (a:S28) (r:Bool) (h:g112 k a=some r):PureOk Tryz.prog 112 [.agg [.i a.f0,.str a.f1,q29 a.f2,.bool a.f3,.bool a.f4,w9 a.f5,w9 a.f6]] (.bool r):=by
 refine qA5 Xg112 (λ_=>⟨rfl,rfl⟩) Tryz.func112 (by decide +kernel) Kr (t:=g112 k a) ?_ h
 unfold g112
 refine qA1 (eE:=[(0,.agg [.i a.f0,.str a.f1,q29 a.f2,.bool a.f3,.bool a.f4,w9 a.f5,w9 a.f6])]) Kr ?_
 let F:Env:=[(5,.bool (decide (a.f0=1))),(6,.bool (decide (a.f0=1))),(4,.i a.f0),(3,.ptr 0 7 0),(2,.bool false),(1,.ptr 0 7 0),(0,n29 a)]
 refine oH 17 g112p3 F (mkH [⟨e29 a,0,false⟩]) ?_
 refine oS 5 (λg=>?_) (λg=>?_)
 ·let A:Env:=((10,.bool (!(eqL a.f1 [])))::(9,.bool (!(eqL a.f1 [])))::(8,.str a.f1)::(7,.ptr 0 7 1)::(5,.bool true)::F)
  refine oR 7 (atN 4 (ctl1 g112p4)) A ?_
  refine oS 10 (λg=>?_) (λg=>?_)
  ·refine oR 2 (atN 6 (ctl1 g112p4)) ((12,.str a.f1)::(11,.ptr 0 7 1)::(10,.bool true)::A) ?_
   refine oC (λ(l:Int)=>(.y l,(mkH [⟨e29 a,0,false⟩]))) (atN 7 (ctl1 g112p4)) 13 (idxH Kr) λl B=>?_
   let x:Env:=((15,.bool (decide (48≤l)))::(14,.bool (decide (48≤l)))::(13,.y l)::(12,.str a.f1)::(11,.ptr 0 7 1)::(10,.bool true)::A)
   refine oH 2 (atN 9 (ctl1 g112p4)) x (mkH [⟨e29 a,0,false⟩]) ?_
   refine oS 15 (λg=>?_) (λg=>?_)
   ·refine oR 2 (atN 11 (ctl1 g112p4)) ((17,.str a.f1)::(16,.ptr 0 7 1)::(15,.bool true)::x) ?_
    refine oC (λ(c:Int)=>(.y c,(mkH [⟨e29 a,0,false⟩]))) (atN 12 (ctl1 g112p4)) 18 (idxH Kr) λc z=>?_
    let C:Env:=((23,.bool (!(decide (c≤57))))::(22,.bool (!(decide (c≤57))))::(21,.bool (!(decide (c≤57))))::(20,.bool (decide (c≤57)))::(19,.bool (decide (c≤57)))::(18,.y c)::(17,.str a.f1)::(16,.ptr 0 7 1)::(15,.bool true)::x)
    refine oH 5 (atN 17 (ctl1 g112p4)) C (mkH [⟨e29 a,0,false⟩]) ?_
    refine oS 23 (λg=>?_) (λg=>?_)
    ·refine oR 2 (atN 19 (ctl1 g112p4)) ((25,.str a.f1)::(24,.ptr 0 7 1)::(23,.bool true)::C) ?_
     refine oC (λ(b:Int)=>(.y b,(mkH [⟨e29 a,0,false⟩]))) (atN 20 (ctl1 g112p4)) 26 (idxH Kr) λb n=>?_
     let G:Env:=((29,.bool (!decide (b=36)))::(28,.bool (!decide (b=36)))::(27,.bool (!decide (b=36)))::(26,.y b)::(25,.str a.f1)::(24,.ptr 0 7 1)::(23,.bool true)::C)
     refine oH 3 (atN 23 (ctl1 g112p4)) G (mkH [⟨e29 a,0,false⟩]) ?_
     refine oS 29 (λg=>?_) (λg=>?_)
     ·refine oR 2 (atN 25 (ctl1 g112p4)) ((31,.str a.f1)::(30,.ptr 0 7 1)::(29,.bool true)::G) ?_
      refine oC (λ(j:Int)=>(.y j,(mkH [⟨e29 a,0,false⟩]))) (atN 26 (ctl1 g112p4)) 32 (idxH Kr) λj o=>?_
      exact oQ 5
     ·exact oQ 8
    ·exact oQ 14
   ·let D:Env:=((25,.str a.f1)::(24,.ptr 0 7 1)::(23,.bool true)::(22,.bool true)::(21,.bool true)::(20,.bool false)::(19,.tuple [])::(18,.tuple [])::(17,.tuple [])::(16,.tuple [])::(15,.bool false)::x)
    refine oR 10 (atN 19 (ctl1 g112p4)) D ?_
    refine oC (λ(b:Int)=>(.y b,(mkH [⟨e29 a,0,false⟩]))) (atN 20 (ctl1 g112p4)) 26 (idxH Kr) λb n=>?_
    refine oH 3 (atN 23 (ctl1 g112p4)) ((29,.bool (!decide (b=36)))::(28,.bool (!decide (b=36)))::(27,.bool (!decide (b=36)))::(26,.y b)::D) (mkH [⟨e29 a,0,false⟩]) ?_
    refine oS 29 (λg=>?_) (λg=>?_)
    ·refine oR 2 (atN 25 (ctl1 g112p4)) ((31,.str a.f1)::(30,.ptr 0 7 1)::(29,.bool true)::(29,.bool (!decide (b=36)))::(28,.bool (!decide (b=36)))::(27,.bool (!decide (b=36)))::(26,.y b)::D) ?_
     refine oC (λ(j:Int)=>(.y j,(mkH [⟨e29 a,0,false⟩]))) (atN 26 (ctl1 g112p4)) 32 (idxH Kr) λj o=>?_
     exact oQ 5
    ·exact oQ 8
  ·exact oQ 27
 ·refine oL 7 g112p7 [(4,.i a.f0),(35,.bool (decide (a.f0=2)))] ?_
  let q:Env:=[(4,.i a.f0),(35,.bool (decide (a.f0=2)))]
  refine oJ g112p8 (λ(E:Bool)=>[(35,.bool E)]) (λ(E:Bool)=>(mkH [])) (λE=>?_) (λI m=>?_)
  ·refine oS 35 (λg=>?_) (λg=>?_)
   ·exact oQ 6
   ·exact oQ 7
  ·refine oS 35 (λg=>?_) (λg=>?_)
   ·refine oLH 2 g112p8 [(35,.bool true)] (mkH [⟨e29 a,0,false⟩]) ?_
    refine qA8 [] [⟨e29 a,0,false⟩] Kr rfl Kr trivial ?_
    exact m true
   ·refine oH 6 g112p12 ((35,.bool (decide (a.f0=3)))::(37,.bool (decide (a.f0=3)))::(35,.bool false)::q) (mkH [⟨e29 a,0,false⟩]) ?_
    refine oS 35 (λg=>?_) (λg=>?_)
    ·refine oL 2 g112p8 [(35,.bool true)] ?_
     refine qA8 [] [⟨e29 a,0,false⟩] Kr rfl Kr trivial ?_
     exact m true
    ·refine oR 6 g112p14 ((35,.bool (decide (a.f0=8)))::(38,.bool (decide (a.f0=8)))::(35,.bool false)::(35,.bool (decide (a.f0=3)))::(37,.bool (decide (a.f0=3)))::(35,.bool false)::q) ?_
     refine oS 35 (λg=>?_) (λg=>?_)
     ·refine oL 2 g112p8 [(35,.bool true)] ?_
      refine qA8 [] [⟨e29 a,0,false⟩] Kr rfl Kr trivial ?_
      exact m true
     ·refine oL 6 g112p16 [(4,.i a.f0),(35,.bool (decide (a.f0=9)))] ?_
      let u:Env:=[(4,.i a.f0),(35,.bool (decide (a.f0=9)))]
      refine oS 35 (λg=>?_) (λg=>?_)
      ·refine oL 2 g112p8 [(35,.bool true)] ?_
       refine qA8 [] [⟨e29 a,0,false⟩] Kr rfl Kr trivial ?_
       exact m true
      ·refine oR 6 g112p18 ((35,.bool (decide (a.f0=10)))::(40,.bool (decide (a.f0=10)))::(35,.bool false)::u) ?_
       refine oS 35 (λg=>?_) (λg=>?_)
       ·refine oL 2 g112p8 [(35,.bool true)] ?_
        refine qA8 [] [⟨e29 a,0,false⟩] Kr rfl Kr trivial ?_
        exact m true
       ·refine oR 6 (nav [0,0] (nav [2,0] g112p18)) ((35,.bool (decide (a.f0=11)))::(41,.bool (decide (a.f0=11)))::(35,.bool false)::(35,.bool (decide (a.f0=10)))::(40,.bool (decide (a.f0=10)))::(35,.bool false)::u) ?_
        refine oS 35 (λg=>?_) (λg=>?_)
        ·refine oL 2 g112p8 [(35,.bool true)] ?_
         refine qA8 [] [⟨e29 a,0,false⟩] Kr rfl Kr trivial ?_
         exact m true
        ·refine oL 5 g112p8 [(35,.bool (decide (a.f0=12)))] ?_
         refine qA8 [] [⟨e29 a,0,false⟩] Kr rfl Kr trivial ?_
         exact m (decide (a.f0=12))
def Xg116:Fx Bool:=⟨Tryz.prog,cx,Tryz.f116,λr => .bool r,0,λ_=>H0,cxTi,cxOrd,λ_=>none,false⟩
def g116p1:Pt:=nav [0,0,0] (nav [0] (bodyAt Tryz.f116))
def g116 (k:Nat) (a:S43):Option Bool :=
 if (decide (a.f0=1)) then (some true) else (if (decide (a.f0=2)) then (some true) else (some (decide (a.f0=7))))
theorem qDy (k:Nat) (a:S43) (r:Bool) (h:g116 k a=some r):PureOk Tryz.prog 116 [.agg [.i a.f0,.str a.f1,.i a.f2]] (.bool r):=by
 refine qA5 Xg116 (λ_=>⟨rfl,rfl⟩) Tryz.func116 (by decide +kernel) Kr (t:=g116 k a) ?_ h
 unfold g116
 refine qA1 (eE:=[(0,.agg [.i a.f0,.str a.f1,.i a.f2])]) Kr ?_
 let c:Env:=[(6,.bool (decide (a.f0=1))),(5,.bool (decide (a.f0=1))),(4,.i a.f0),(3,.ptr 0 3 0),(2,.bool false),(1,.ptr 0 3 0),(0,n44 a)]
 refine oH 11 (atN 4 (ctl1 g116p1)) c (mkH [⟨e44 a,0,false⟩]) ?_
 refine oS 6 (λb=>?_) (λb=>?_)
 ·exact oQ 12
 ·refine oR 5 (atN 9 (ctl1 g116p1)) ((11,.bool (decide (a.f0=2)))::(10,.bool (decide (a.f0=2)))::(9,.bool (decide (a.f0=2)))::(8,.i a.f0)::(7,.ptr 0 3 0)::(6,.bool false)::c) ?_
  refine oS 11 (λb=>?_) (λb=>?_)
  ·exact oQ 7
  ·exact oQ 7
def Xg118:Fx Bool:=⟨Tryz.prog,cx,Tryz.f118,λr => .bool r,0,λ_=>H0,cxTi,cxOrd,λ_=>none,false⟩
def g118 (k:Nat) (a:S43):Option Bool :=
 if (decide (1≤a.f0)) then (some (decide (a.f0≤7))) else (some false)
theorem qOn (k:Nat) (a:S43) (r:Bool) (h:g118 k a=some r):PureOk Tryz.prog 118 [.agg [.i a.f0,.str a.f1,.i a.f2]] (.bool r):=by
 refine qA5 Xg118 (λ_=>⟨rfl,rfl⟩) Tryz.func118 (by decide +kernel) Kr (t:=g118 k a) ?_ h
 unfold g118
 refine qA1 (eE:=[(0,.agg [.i a.f0,.str a.f1,.i a.f2])]) Kr ?_
 refine oH 11 (atN 4 (ctl1 (nav [0,0,0] (nav [0] (bodyAt Tryz.f118))))) [(6,.bool (decide (1≤a.f0))),(5,.bool (decide (1≤a.f0))),(4,.i a.f0),(3,.ptr 0 3 0),(2,.bool false),(1,.ptr 0 3 0),(0,n44 a)] (mkH [⟨e44 a,0,false⟩]) ?_
 refine oS 6 (λb=>?_) (λb=>?_)
 ·exact oQ 7
 ·exact oQ 7
def Xg142:Fx Bool:=⟨Tryz.prog,cx,Tryz.f142,λr => .bool r,0,λ_=>H0,cxTi,cxOrd,λ_=>none,false⟩
def g142p1:Pt:=nav [0,0,0] (nav [0] (bodyAt Tryz.f142))
def g142 (k:Nat) (a:S43):Option Bool :=
 if (decide (a.f0=3)) then (some true) else (if (decide (a.f0=2)) then (some true) else (some (decide (a.f0=7))))
theorem qOl (k:Nat) (a:S43) (r:Bool) (h:g142 k a=some r):PureOk Tryz.prog 142 [.agg [.i a.f0,.str a.f1,.i a.f2]] (.bool r):=by
 refine qA5 Xg142 (λ_=>⟨rfl,rfl⟩) Tryz.func142 (by decide +kernel) Kr (t:=g142 k a) ?_ h
 unfold g142
 refine qA1 (eE:=[(0,.agg [.i a.f0,.str a.f1,.i a.f2])]) Kr ?_
 let c:Env:=[(6,.bool (decide (a.f0=3))),(5,.bool (decide (a.f0=3))),(4,.i a.f0),(3,.ptr 0 3 0),(2,.bool false),(1,.ptr 0 3 0),(0,n44 a)]
 refine oH 11 (atN 4 (ctl1 g142p1)) c (mkH [⟨e44 a,0,false⟩]) ?_
 refine oS 6 (λb=>?_) (λb=>?_)
 ·exact oQ 12
 ·refine oR 5 (atN 9 (ctl1 g142p1)) ((11,.bool (decide (a.f0=2)))::(10,.bool (decide (a.f0=2)))::(9,.bool (decide (a.f0=2)))::(8,.i a.f0)::(7,.ptr 0 3 0)::(6,.bool false)::c) ?_
  refine oS 11 (λb=>?_) (λb=>?_)
  ·exact oQ 7
  ·exact oQ 7
def Xg59:Fx Int:=⟨Tryz.prog,cx,Tryz.f59,λr => .i r,0,λ_=>H0,cxTi,cxOrd,λ_=>none,false⟩
def g59c0:LL:=[([61]:LN),([33]:LN)]
def g59c1:LN:=[111,114,101,108,115,101]
def g59c2:LN:=[97,110,100,97,108,115,111]
def g59c3:LL:=[([61,61]:LN),([47,61]:LN),([61,60]:LN),([60]:LN),([62,61]:LN),([62]:LN),([61,58,61]:LN),([61,47,61]:LN)]
def g59c4:LL:=[([43,43]:LN),([45,45]:LN)]
def g59c5:LL:=[([43]:LN),([45]:LN),([98,111,114]:LN),([98,120,111,114]:LN),([98,115,108]:LN),([98,115,114]:LN),([111,114]:LN),([120,111,114]:LN)]
def g59c6:LL:=[([42]:LN),([47]:LN),([100,105,118]:LN),([114,101,109]:LN),([98,97,110,100]:LN),([97,110,100]:LN)]
def g59c7:List LL:=[([]:LL),([([58,58]:LN)]:LL),([([124]:LN)]:LL),g59c0,([g59c1]:LL),([g59c2]:LL),g59c3,g59c4,g59c5,g59c6]
def g59p1:Pt:=nav [0,0,0] (nav [0] (bodyAt Tryz.f59))
def g59p2:Pt:=nav [0,0,0,0] g59p1
def g59p3:Pt:=nav [0,0,0,0] g59p2
def g59p5:Pt:=nav [0,0] (nav [0,0,0] g59p3)
def g59p8:Pt:=nav [0,0,0,0] (nav [1,0,0,0,0] g59p5)
def g59p10:Pt:=nav [0,0,0] g59p8
def g59p11:Pt:=nav [0,0] g59p10
def g59p12:Pt:=nav [1,0,0,0,0] g59p11
def g59p13:Pt:=nav [2,0] g59p11
def qI1 (k:Nat) (l:Int→Option Int) (m:LN) (j:Int) (ih:Int→Int→Option Int):Int→Int→Option Int :=
 λ(b:Int) (a:Int)=>(nthL g59c7 a).bind λc=>jn (λ(n:Int)=>l (fW .i64 (n+1))) (λo=>if (decide (b < (c.length:Int))) then ((nthL g59c7 a).bind λg=>(nthL g b).bind λh=>if (eqL h m) then (some a) else (ih (fW .i64 (b+1)) a)) else (o a))
def qNv (k:Nat) (b:Int→Option Int) (c:LN) (a:Int) (n:Nat):Int→Int→Option Int:=lp (λ_ _=>none) (qI1 k b c a) n
theorem qNu (k:Nat)  (r:Int→Option Int) (j:LN) (g:Int) (u:∀ (g:Int),Ok Xg59 g59p3 [(0,.str j),(3,w22 g59c7),(4,.i g)] (mkH []) (r g)):∀ (n:Nat) (a:Int) (b:Int),Ok Xg59 g59p8 [(0,.str j),(3,w22 g59c7),(4,.i b),(5,.i a)] (mkH []) (qNv k r j g n a b):=by
 intro n
 induction n with
 | zero=>intro a b; exact ok_none
 | succ n ih =>
  intro a b
  show Ok _ _ _ _ (qI1 k r j g (qNv k r j g n) a b)
  unfold qI1
  refine qAd (p':=nav [0] g59p8) Kr ?_
  let m:Env:=[(25,.i b),(24,w22 g59c7),(23,.i a),(0,.str j),(3,w22 g59c7),(4,.i b),(5,.i a)]
  refine oH 6 (atN 3 (ctl1 g59p10)) m (mkH []) ?_
  refine oC (λ(c:LL)=>(.vptr [w9 c],(mkH []))) (atN 4 (ctl1 g59p10)) 26 (vidxH (sz:=1) qOu Kr) λc x=>?_
  refine oH 4 g59p11 ((29,.bool (decide (a < (c.length:Int))))::(28,.i (c.length:Int))::(27,w9 c)::(26,.vptr [w9 c])::m) (mkH []) ?_
  refine oJ g59p13 (λ(o:Int)=>[(0,.str j),(3,w22 g59c7),(4,.i o)]) (λ(o:Int)=>(mkH [])) (λo=>?_) (λD z=>?_)
  ·refine oLH 5 g59p3 [(0,.str j),(3,w22 g59c7),(4,.i (fW .i64 (o+1)))] (mkH []) ?_
   exact u (fW .i64 (o+1))
  ·refine oS 29 (λA=>?_) (λA=>?_)
   ·let q:Env:=((33,.i b)::(32,w22 g59c7)::(29,.bool true)::(29,.bool (decide (a < (c.length:Int))))::(28,.i (c.length:Int))::(27,w9 c)::(26,.vptr [w9 c])::m)
    refine oH 8 (atN 2 (ctl1 g59p12)) q (mkH []) ?_
    refine oC (λ(h:LL)=>(.vptr [w9 h],(mkH []))) (atN 3 (ctl1 g59p12)) 34 (vidxH (sz:=1) qOu Kr) λh B=>?_
    refine oH 2 (atN 5 (ctl1 g59p12)) ((36,.i a)::(35,w9 h)::(34,.vptr [w9 h])::q) (mkH []) ?_
    refine oC (λ(l:LN)=>(.vptr [.str l],(mkH []))) (atN 6 (ctl1 g59p12)) 37 (vidxH (sz:=1) qBq Kr) λl C=>?_
    refine oLH 4 (nav [0,0] g59p12) [(0,.str j),(3,w22 g59c7),(4,.i b),(5,.i a),(40,.bool (eqL l j))] (mkH []) ?_
    refine oS 40 (λA=>?_) (λA=>?_)
    ·exact oQ 7
    ·refine oL 7 g59p8 [(0,.str j),(3,w22 g59c7),(4,.i b),(5,.i (fW .i64 (a+1)))] ?_
     exact ih (fW .i64 (a+1)) b
   ·refine oLH 2 g59p13 [(0,.str j),(3,w22 g59c7),(4,.i b)] (mkH []) ?_
    exact z b
def qI2 (k:Nat)  (b:LN) (ih:Int→Option Int):Int→Option Int :=
 λ(a:Int)=>if (decide (a < (g59c7.length:Int))) then (qNv k ih b a k 0 a) else (some (0:Int))
def qK5 (k:Nat)  (a:LN) (n:Nat):Int→Option Int:=lp (λ_=>none) (qI2 k a) n
theorem qNw (k:Nat)   (b:LN)  : ∀ (n:Nat) (a:Int),Ok Xg59 g59p3 [(0,.str b),(3,w22 g59c7),(4,.i a)] (mkH []) (qK5 k b n a):=by
 intro n
 induction n with
 | zero=>intro a; exact ok_none
 | succ n ih =>
  intro a
  show Ok _ _ _ _ (qI2 k b (qK5 k b n) a)
  unfold qI2
  refine qAd (p':=nav [0] g59p3) Kr ?_
  refine oH 8 g59p5 [(20,.bool (decide (a < (g59c7.length:Int)))),(19,.i (g59c7.length:Int)),(18,w22 g59c7),(17,.i a),(0,.str b),(3,w22 g59c7),(4,.i a)] (mkH []) ?_
  refine oS 20 (λc=>?_) (λc=>?_)
  ·refine oL 10 g59p8 [(0,.str b),(3,w22 g59c7),(4,.i a),(5,.i 0)] ?_
   exact (qNu k (qK5 k b n) b a ih k) 0 a
  ·exact oQ 7
def g59 (k:Nat) (a:LN):Option Int :=
 qK5 k a k 0
theorem qK4 (k:Nat) (a:LN) (r:Int) (h:g59 k a=some r):PureOk Tryz.prog 59 [.str a] (.i r):=by
 refine qA5 Xg59 (λ_=>⟨rfl,rfl⟩) Tryz.func59 (by decide +kernel) Kr (t:=g59 k a) ?_ h
 unfold g59
 refine qA1 (eE:=[(0,.str a)]) Kr ?_
 refine oH 7 (atN 1 (ctl1 g59p1)) [(6,.slice 0 0 0 0 1),(2,.i 0),(0,.str a)] (mkH [⟨[],0,false⟩]) ?_
 refine oZ 6 0 0 1 [] [0,2] [] trivial ?_
 refine oH 1 (atN 2 (ctl1 g59p1)) [(7,.slice 1 1 0 1 1),(6,w9 ([]:LL)),(0,.str a),(2,.i 0)] (mkH [⟨[],0,false⟩,⟨[.str [58,58]],0,false⟩]) ?_
 refine oZ 7 1 1 1 [.str [58,58]] [0,2,6] [] trivial ?_
 refine oH 1 (atN 3 (ctl1 g59p1)) [(8,.slice 2 1 0 1 1),(7,w9 ([([58,58]:LN)]:LL)),(0,.str a),(2,.i 0),(6,w9 ([]:LL))] (mkH [⟨[],0,false⟩,⟨[],0,false⟩,⟨[.str [124]],0,false⟩]) ?_
 refine oZ 8 2 1 1 [.str [124]] [0,2,6,7] [] trivial ?_
 refine oH 1 (atN 4 (ctl1 g59p1)) [(9,.slice 3 2 0 2 1),(8,w9 ([([124]:LN)]:LL)),(0,.str a),(2,.i 0),(6,w9 ([]:LL)),(7,w9 ([([58,58]:LN)]:LL))] (mkH [⟨[],0,false⟩,⟨[],0,false⟩,⟨[],0,false⟩,⟨[.str [61],.str [33]],0,false⟩]) ?_
 refine oZ 9 3 2 1 [.str [61],.str [33]] [0,2,6,7,8] [] trivial ?_
 refine oH 1 (atN 5 (ctl1 g59p1)) [(10,.slice 4 1 0 1 1),(9,w9 g59c0),(0,.str a),(2,.i 0),(6,w9 ([]:LL)),(7,w9 ([([58,58]:LN)]:LL)),(8,w9 ([([124]:LN)]:LL))] (mkH [⟨[],0,false⟩,⟨[],0,false⟩,⟨[],0,false⟩,⟨[],0,false⟩,⟨[.str g59c1],0,false⟩]) ?_
 refine oZ 10 4 1 1 [.str g59c1] [0,2,6,7,8,9] [] trivial ?_
 refine oH 1 (atN 6 (ctl1 g59p1)) [(11,.slice 5 1 0 1 1),(10,w9 ([g59c1]:LL)),(0,.str a),(2,.i 0),(6,w9 ([]:LL)),(7,w9 ([([58,58]:LN)]:LL)),(8,w9 ([([124]:LN)]:LL)),(9,w9 g59c0)] (mkH [⟨[],0,false⟩,⟨[],0,false⟩,⟨[],0,false⟩,⟨[],0,false⟩,⟨[],0,false⟩,⟨[.str g59c2],0,false⟩]) ?_
 refine oZ 11 5 1 1 [.str g59c2] [0,2,6,7,8,9,10] [] trivial ?_
 refine oH 1 (atN 7 (ctl1 g59p1)) [(12,.slice 6 8 0 8 1),(11,w9 ([g59c2]:LL)),(0,.str a),(2,.i 0),(6,w9 ([]:LL)),(7,w9 ([([58,58]:LN)]:LL)),(8,w9 ([([124]:LN)]:LL)),(9,w9 g59c0),(10,w9 ([g59c1]:LL))] (mkH [⟨[],0,false⟩,⟨[],0,false⟩,⟨[],0,false⟩,⟨[],0,false⟩,⟨[],0,false⟩,⟨[],0,false⟩,⟨[.str [61,61],.str [47,61],.str [61,60],.str [60],.str [62,61],.str [62],.str [61,58,61],.str [61,47,61]],0,false⟩]) ?_
 refine oZ 12 6 8 1 [.str [61,61],.str [47,61],.str [61,60],.str [60],.str [62,61],.str [62],.str [61,58,61],.str [61,47,61]] [0,2,6,7,8,9,10,11] [] trivial ?_
 refine oH 1 (atN 8 (ctl1 g59p1)) [(13,.slice 7 2 0 2 1),(12,w9 g59c3),(0,.str a),(2,.i 0),(6,w9 ([]:LL)),(7,w9 ([([58,58]:LN)]:LL)),(8,w9 ([([124]:LN)]:LL)),(9,w9 g59c0),(10,w9 ([g59c1]:LL)),(11,w9 ([g59c2]:LL))] (mkH [⟨[],0,false⟩,⟨[],0,false⟩,⟨[],0,false⟩,⟨[],0,false⟩,⟨[],0,false⟩,⟨[],0,false⟩,⟨[],0,false⟩,⟨[.str [43,43],.str [45,45]],0,false⟩]) ?_
 refine oZ 13 7 2 1 [.str [43,43],.str [45,45]] [0,2,6,7,8,9,10,11,12] [] trivial ?_
 refine oH 1 (atN 9 (ctl1 g59p1)) [(14,.slice 8 8 0 8 1),(13,w9 g59c4),(0,.str a),(2,.i 0),(6,w9 ([]:LL)),(7,w9 ([([58,58]:LN)]:LL)),(8,w9 ([([124]:LN)]:LL)),(9,w9 g59c0),(10,w9 ([g59c1]:LL)),(11,w9 ([g59c2]:LL)),(12,w9 g59c3)] (mkH [⟨[],0,false⟩,⟨[],0,false⟩,⟨[],0,false⟩,⟨[],0,false⟩,⟨[],0,false⟩,⟨[],0,false⟩,⟨[],0,false⟩,⟨[],0,false⟩,⟨[.str [43],.str [45],.str [98,111,114],.str [98,120,111,114],.str [98,115,108],.str [98,115,114],.str [111,114],.str [120,111,114]],0,false⟩]) ?_
 refine oZ 14 8 8 1 [.str [43],.str [45],.str [98,111,114],.str [98,120,111,114],.str [98,115,108],.str [98,115,114],.str [111,114],.str [120,111,114]] [0,2,6,7,8,9,10,11,12,13] [] trivial ?_
 refine oH 1 (atN 10 (ctl1 g59p1)) [(15,.slice 9 6 0 6 1),(14,w9 g59c5),(0,.str a),(2,.i 0),(6,w9 ([]:LL)),(7,w9 ([([58,58]:LN)]:LL)),(8,w9 ([([124]:LN)]:LL)),(9,w9 g59c0),(10,w9 ([g59c1]:LL)),(11,w9 ([g59c2]:LL)),(12,w9 g59c3),(13,w9 g59c4)] (mkH [⟨[],0,false⟩,⟨[],0,false⟩,⟨[],0,false⟩,⟨[],0,false⟩,⟨[],0,false⟩,⟨[],0,false⟩,⟨[],0,false⟩,⟨[],0,false⟩,⟨[],0,false⟩,⟨[.str [42],.str [47],.str [100,105,118],.str [114,101,109],.str [98,97,110,100],.str [97,110,100]],0,false⟩]) ?_
 refine oZ 15 9 6 1 [.str [42],.str [47],.str [100,105,118],.str [114,101,109],.str [98,97,110,100],.str [97,110,100]] [0,2,6,7,8,9,10,11,12,13,14] [] trivial ?_
 refine oH 1 (atN 11 (ctl1 g59p1)) [(16,.slice 10 10 0 10 1),(15,w9 g59c6),(0,.str a),(2,.i 0),(6,w9 ([]:LL)),(7,w9 ([([58,58]:LN)]:LL)),(8,w9 ([([124]:LN)]:LL)),(9,w9 g59c0),(10,w9 ([g59c1]:LL)),(11,w9 ([g59c2]:LL)),(12,w9 g59c3),(13,w9 g59c4),(14,w9 g59c5)] (mkH [⟨[],0,false⟩,⟨[],0,false⟩,⟨[],0,false⟩,⟨[],0,false⟩,⟨[],0,false⟩,⟨[],0,false⟩,⟨[],0,false⟩,⟨[],0,false⟩,⟨[],0,false⟩,⟨[],0,false⟩,⟨[w9 ([]:LL),w9 ([([58,58]:LN)]:LL),w9 ([([124]:LN)]:LL),w9 g59c0,w9 ([g59c1]:LL),w9 ([g59c2]:LL),w9 g59c3,w9 g59c4,w9 g59c5,w9 g59c6],0,false⟩]) ?_
 refine oZ 16 10 10 1 [w9 ([]:LL),w9 ([([58,58]:LN)]:LL),w9 ([([124]:LN)]:LL),w9 g59c0,w9 ([g59c1]:LL),w9 ([g59c2]:LL),w9 g59c3,w9 g59c4,w9 g59c5,w9 g59c6] [0,2,6,7,8,9,10,11,12,13,14,15] [] trivial ?_
 let b:List Blk:=[⟨[],0,false⟩,⟨[],0,false⟩,⟨[],0,false⟩,⟨[],0,false⟩,⟨[],0,false⟩,⟨[],0,false⟩,⟨[],0,false⟩,⟨[],0,false⟩,⟨[],0,false⟩,⟨[],0,false⟩,⟨[],0,false⟩]
 refine oLH 4 g59p2 [(0,.str a),(3,w22 g59c7)] (mkH b) ?_
 refine oL 5 g59p3 [(0,.str a),(3,w22 g59c7),(4,.i 0)] ?_
 refine qA8 [] b Kr rfl Kr trivial ?_
 exact (qNw k a k) 0
def Xg89:Fx Int:=⟨Tryz.prog,cx,Tryz.f89,λr => .i r,0,λ_=>H0,cxTi,cxOrd,λ_=>none,false⟩
def g89c0:List Int:=[(0:Int),(2:Int),(1:Int),(2:Int),(2:Int),(2:Int),(3:Int),(2:Int),(1:Int),(1:Int)]
def g89p1:Pt:=nav [0,0,0] (nav [0] (bodyAt Tryz.f89))
def g89 (k:Nat) (c:LN):Option Int :=
 (g59 k c).bind λa=>(nthL g89c0 a).bind λb=>some b
theorem g89_ok (k:Nat) (a:LN) (r:Int) (h:g89 k a=some r):PureOk Tryz.prog 89 [.str a] (.i r):=by
 refine qA5 Xg89 (λ_=>⟨rfl,rfl⟩) Tryz.func89 (by decide +kernel) Kr (t:=g89 k a) ?_ h
 unfold g89
 refine qA1 (eE:=[(0,.str a)]) Kr ?_
 refine oH 7 (atN 1 (ctl1 g89p1)) [(3,.slice 0 10 0 10 1),(2,.i 0),(0,.str a)] (mkH [⟨[.i 0,.i 2,.i 1,.i 2,.i 2,.i 2,.i 3,.i 2,.i 1,.i 1],0,false⟩]) ?_
 refine oZ 3 0 10 1 [.i 0,.i 2,.i 1,.i 2,.i 2,.i 2,.i 3,.i 2,.i 1,.i 1] [0,2] [] trivial ?_
 refine oH 1 (atN 2 (ctl1 g89p1)) [(4,.str a),(3,w3 g89c0),(0,.str a),(2,.i 0)] (mkH [⟨[],0,false⟩]) ?_
 refine oA (λ(b:Int) => .i b) (atN 3 (ctl1 g89p1)) 5 [.str a] (qK4 k a) λb g=>?_
 refine oC (λ(c:Int)=>(.vptr [.i c],(mkH [⟨[],0,false⟩]))) (atN 4 (ctl1 g89p1)) 6 (vidxH (sz:=1) qOt Kr) λc j=>?_
 exact oQ 4
def Xg60:Fx Int:=⟨Tryz.prog,cx,Tryz.f60,λr => .i r,0,λ_=>H0,cxTi,cxOrd,λ_=>none,false⟩
def g60p1:Pt:=nav [0,0,0] (nav [0] (bodyAt Tryz.f60))
def g60p2:Pt:=nav [0,0,0,0] g60p1
def g60p3:Pt:=nav [0,0] g60p2
def g60 (k:Nat) (c:LN):Option Int :=
 (g59 k c).bind λa=>jn (λ(h:Bool)=>if h then (some (fW .i64 (a+1))) else (some a)) (λg=>if (decide (0 < a)) then ((g89 k c).bind λb=>g (!decide (b=1))) else (g false))
theorem g60_ok (k:Nat) (c:LN) (r:Int) (h:g60 k c=some r):PureOk Tryz.prog 60 [.str c] (.i r):=by
 refine qA5 Xg60 (λ_=>⟨rfl,rfl⟩) Tryz.func60 (by decide +kernel) Kr (t:=g60 k c) ?_ h
 unfold g60
 refine qA1 (eE:=[(0,.str c)]) Kr ?_
 refine oH 7 (atN 1 (ctl1 g60p1)) [(4,.str c),(2,.i 0),(0,.str c)] (mkH []) ?_
 refine oA (λ(a:Int) => .i a) (atN 2 (ctl1 g60p1)) 5 [.str c] (qK4 k c) λa j=>?_
 let o:Env:=[(8,.bool (decide (0 < a))),(7,.bool (decide (0 < a))),(6,.i a),(3,.i a),(5,.i a),(4,.str c),(2,.i 0),(0,.str c)]
 refine oR 8 (atN 3 (ctl1 g60p2)) o ?_
 refine oJ g60p3 (λ(l:Bool)=>[(3,.i a),(12,.bool l)]) (λ(l:Bool)=>(mkH [])) (λl=>?_) (λq g=>?_)
 ·refine oS 12 (λm=>?_) (λm=>?_)
  ·exact oQ 8
  ·exact oQ 8
 ·refine oS 8 (λm=>?_) (λm=>?_)
  ·refine oH 1 (atN 4 (ctl1 g60p2)) ((9,.str c)::(8,.bool true)::o) (mkH []) ?_
   refine oA (λ(b:Int) => .i b) (atN 5 (ctl1 g60p2)) 10 [.str c] (g89_ok k c) λb n=>?_
   refine oL 3 g60p3 [(3,.i a),(12,.bool (!decide (b=1)))] ?_
   exact g (!decide (b=1))
  ·refine oLH 5 g60p3 [(3,.i a),(12,.bool false)] (mkH []) ?_
   exact g false
def Xg61:Fx Int:=⟨Tryz.prog,cx,Tryz.f61,λr => .i r,0,λ_=>H0,cxTi,cxOrd,λ_=>none,false⟩
def g61p1:Pt:=nav [0,0,0] (nav [0] (bodyAt Tryz.f61))
def g61p2:Pt:=nav [0,0,0,0] g61p1
def g61p3:Pt:=nav [0,0] g61p2
def g61 (k:Nat) (c:LN):Option Int :=
 (g59 k c).bind λa=>jn (λ(h:Bool)=>if h then (some (fW .i64 (a+1))) else (some a)) (λg=>if (decide (0 < a)) then ((g89 k c).bind λb=>g (!decide (b=2))) else (g false))
theorem g61_ok (k:Nat) (c:LN) (r:Int) (h:g61 k c=some r):PureOk Tryz.prog 61 [.str c] (.i r):=by
 refine qA5 Xg61 (λ_=>⟨rfl,rfl⟩) Tryz.func61 (by decide +kernel) Kr (t:=g61 k c) ?_ h
 unfold g61
 refine qA1 (eE:=[(0,.str c)]) Kr ?_
 refine oH 7 (atN 1 (ctl1 g61p1)) [(4,.str c),(2,.i 0),(0,.str c)] (mkH []) ?_
 refine oA (λ(a:Int) => .i a) (atN 2 (ctl1 g61p1)) 5 [.str c] (qK4 k c) λa j=>?_
 let o:Env:=[(8,.bool (decide (0 < a))),(7,.bool (decide (0 < a))),(6,.i a),(3,.i a),(5,.i a),(4,.str c),(2,.i 0),(0,.str c)]
 refine oR 8 (atN 3 (ctl1 g61p2)) o ?_
 refine oJ g61p3 (λ(l:Bool)=>[(3,.i a),(12,.bool l)]) (λ(l:Bool)=>(mkH [])) (λl=>?_) (λq g=>?_)
 ·refine oS 12 (λm=>?_) (λm=>?_)
  ·exact oQ 8
  ·exact oQ 8
 ·refine oS 8 (λm=>?_) (λm=>?_)
  ·refine oH 1 (atN 4 (ctl1 g61p2)) ((9,.str c)::(8,.bool true)::o) (mkH []) ?_
   refine oA (λ(b:Int) => .i b) (atN 5 (ctl1 g61p2)) 10 [.str c] (g89_ok k c) λb n=>?_
   refine oL 3 g61p3 [(3,.i a),(12,.bool (!decide (b=2)))] ?_
   exact g (!decide (b=2))
  ·refine oLH 5 g61p3 [(3,.i a),(12,.bool false)] (mkH []) ?_
   exact g false
def Xg91:Fx Int:=⟨Tryz.prog,cx,Tryz.f91,λr => .i r,0,λ_=>H0,cxTi,cxOrd,λ_=>none,false⟩
def g91 (k:Nat) (a:S43):Option Int :=
 some (fW .i64 (a.f2+(a.f1.length:Int)))
theorem g91_ok (k:Nat) (a:S43) (r:Int) (h:g91 k a=some r):PureOk Tryz.prog 91 [.agg [.i a.f0,.str a.f1,.i a.f2]] (.i r):=by
 refine qA5 Xg91 (λ_=>⟨rfl,rfl⟩) Tryz.func91 (by decide +kernel) Kr (t:=g91 k a) ?_ h
 unfold g91
 refine qA1 (eE:=[(0,.agg [.i a.f0,.str a.f1,.i a.f2])]) Kr ?_
 exact oQ 16
def Xg66:Fx Int:=⟨Tryz.prog,cx,Tryz.f66,λr => .i r,0,λ_=>H0,cxTi,cxOrd,λ_=>none,false⟩
def g66p2:Pt:=nav [0,0,0,0] (nav [0,0,0] (nav [0] (bodyAt Tryz.f66)))
def g66p3:Pt:=nav [0,0] g66p2
def g66p5:Pt:=nav [2,0,0,0] g66p3
def g66p7:Pt:=nav [0,0,0,0] g66p5
def g66p8:Pt:=nav [0,0,0] g66p7
def g66p9:Pt:=nav [0,0] g66p8
def g66p10:Pt:=nav [1,0,0,0,0] g66p9
def g66p12:Pt:=nav [0,0] g66p10
def g66p14:Pt:=nav [2,0] g66p12
def qI (k:Nat)  (l:LN) (m:List S43) (n:Int) (ih:Int→Int→Option Int):Int→Int→Option Int :=
 λ(b:Int) (a:Int)=>(nthL m n).bind λc=>if (decide (a < c.f2)) then ((nthS l a).bind λg=>jn (λ(h:Int×Int)=>ih h.1 (fW .i64 (h.2+1))) (λj=>if (decide (g=10)) then (j (fW .i64 (b+1),a)) else (j (b,a)))) else (some b)
def qNq (k:Nat)  (a:LN) (b:List S43) (c:Int) (n:Nat):Int→Int→Option Int:=lp (λ_ _=>none) (qI k a b c) n
theorem qNp (k:Nat)   (h:LN) (j:List S43) (l:Int)  : ∀ (n:Nat) (c:Int) (b:Int),Ok Xg66 g66p7 [(0,.str h),(1,w44 j),(2,.i l),(7,.i c),(8,.i b)] (mkH []) (qNq k h j l n c b):=by
 intro n
 induction n with
 | zero=>intro c b; exact ok_none
 | succ n ih =>
  intro c b
  show Ok _ _ _ _ (qI k h j l (qNq k h j l n) c b)
  unfold qI
  refine qAd (p':=nav [0] g66p7) Kr ?_
  let q:Env:=[(25,.i l),(24,w44 j),(23,.i b),(0,.str h),(1,w44 j),(2,.i l),(7,.i c),(8,.i b)]
  refine oH 6 (atN 3 (ctl1 g66p8)) q (mkH []) ?_
  refine oC (λ(a:S43)=>(.vptr [.i a.f0,.str a.f1,.i a.f2],(mkH []))) (atN 4 (ctl1 g66p8)) 26 (vidxH (sz:=3) qAs Kr) λa r=>?_
  refine oH 4 g66p9 ((29,.bool (decide (b < a.f2)))::(28,.i a.f2)::(27,.vptr [.i a.f2])::(26,.vptr [.i a.f0,.str a.f1,.i a.f2])::q) (mkH []) ?_
  refine oS 29 (λu=>?_) (λu=>?_)
  ·let x:Env:=((33,.i b)::(32,.str h)::(29,.bool true)::(29,.bool (decide (b < a.f2)))::(28,.i a.f2)::(27,.vptr [.i a.f2])::(26,.vptr [.i a.f0,.str a.f1,.i a.f2])::q)
   refine oR 8 (atN 2 (ctl1 g66p10)) x ?_
   refine oC (λ(g:Int)=>(.y g,(mkH []))) (atN 3 (ctl1 g66p10)) 34 (idxH Kr) λg z=>?_
   refine oH 2 g66p12 ((35,.bool (decide (g=10)))::(34,.y g)::x) (mkH []) ?_
   refine oK [0,1,2,7,8,35] [(0,.str h),(1,w44 j),(2,.i l),(7,.i c),(8,.i b),(35,.bool (decide (g=10)))] ?_
   refine oJ g66p14 (λ(m:Int×Int)=>[(0,.str h),(1,w44 j),(2,.i l),(7,.i m.1),(8,.i m.2)]) (λ(m:Int×Int)=>(mkH [])) (λm=>?_) (λA o=>?_)
   ·refine oLH 5 g66p7 [(0,.str h),(1,w44 j),(2,.i l),(7,.i m.1),(8,.i (fW .i64 (m.2+1)))] (mkH []) ?_
    exact ih m.1 (fW .i64 (m.2+1))
   ·refine oS 35 (λu=>?_) (λu=>?_)
    ·refine oLH 6 g66p14 [(0,.str h),(1,w44 j),(2,.i l),(7,.i (fW .i64 (c+1))),(8,.i b)] (mkH []) ?_
     exact o (fW .i64 (c+1),b)
    ·refine oH 2 g66p14 ((35,.bool false)::(keepOnly ((35,.bool (decide (g=10)))::(34,.y g)::x) [0,1,2,7,8,35])) (mkH []) ?_
     refine oK [0,1,2,7,8] [(0,.str h),(1,w44 j),(2,.i l),(7,.i c),(8,.i b)] ?_
     exact o (c,b)
  ·exact oQ 8
def g66 (k:Nat) (j:LN) (g:List S43) (c:Int):Option Int :=
 jn (λ(l:Bool)=>if l then (some (0:Int)) else ((nthL g (fW .i64 (c - 1))).bind λa=>(g91 k a).bind λb=>qNq k j g c k 0 b)) (λh=>if (decide (c < 1)) then (h true) else (h (decide ((g.length:Int)≤c))))
theorem g66_ok (k:Nat) (j:LN) (c:List S43) (b:Int) (r:Int) (h:g66 k j c b=some r):PureOk Tryz.prog 66 [.str j,w44 c,.i b] (.i r):=by
 refine qA5 Xg66 (λ_=>⟨rfl,rfl⟩) Tryz.func66 (by decide +kernel) Kr (t:=g66 k j c b) ?_ h
 unfold g66
 refine qA1 (eE:=[(0,.str j),(1,w44 c),(2,.i b)]) Kr ?_
 refine oH 14 (atN 3 (ctl1 g66p2)) [(11,.bool (decide (b < 1))),(10,.bool (decide (b < 1))),(9,.i b),(7,.i 0),(6,.i 0),(0,.str j),(1,w44 c),(2,.i b)] (mkH []) ?_
 refine oJ g66p3 (λ(m:Bool)=>[(0,.str j),(1,w44 c),(2,.i b),(7,.i 0),(16,.bool m)]) (λ(m:Bool)=>(mkH [])) (λm=>?_) (λx l=>?_)
 ·refine oS 16 (λn=>?_) (λn=>?_)
  ·exact oQ 6
  ·let u:Env:=[(19,.i (fW .i64 (b - 1))),(18,.i b),(17,w44 c),(16,.bool false),(0,.str j),(1,w44 c),(2,.i b),(7,.i 0),(16,.bool m)]
   refine oH 8 (atN 3 (ctl1 g66p5)) u (mkH []) ?_
   refine oC (λ(a:S43)=>(.vptr [.i a.f0,.str a.f1,.i a.f2],(mkH []))) (atN 4 (ctl1 g66p5)) 20 (vidxH (sz:=3) qAs Kr) λa o=>?_
   refine oH 1 (atN 5 (ctl1 g66p5)) ((21,n44 a)::(20,.vptr [.i a.f0,.str a.f1,.i a.f2])::u) (mkH []) ?_
   refine oA (λ(g:Int) => .i g) (atN 6 (ctl1 g66p5)) 22 [n44 a] (g91_ok k a) λg q=>?_
   refine oL 4 g66p7 [(0,.str j),(1,w44 c),(2,.i b),(7,.i 0),(8,.i g)] ?_
   exact (qNp k j c b k) 0 g
 ·refine oS 11 (λn=>?_) (λn=>?_)
  ·refine oLH 6 g66p3 [(0,.str j),(1,w44 c),(2,.i b),(7,.i 0),(16,.bool true)] (mkH []) ?_
   exact l true
  ·refine oLH 6 g66p3 [(0,.str j),(1,w44 c),(2,.i b),(7,.i 0),(16,.bool (decide ((c.length:Int)≤b)))] (mkH []) ?_
   exact l (decide ((c.length:Int)≤b))
def Xg85:Fx Int:=⟨Tryz.prog,cx,Tryz.f85,λr => .i r,0,λ_=>H0,cxTi,cxOrd,λ_=>none,false⟩
def g85p1:Pt:=nav [0,0,0,0] (nav [0] (bodyAt Tryz.f85))
def g85p2:Pt:=nav [0,0] g85p1
def g85 (k:Nat) (a:LN):Option Int :=
 jn (λ(c:Bool)=>if c then (some (10:Int)) else (some (0:Int))) (λb=>if (eqL a [43]) then (b true) else (if (eqL a [45]) then (b true) else (if (eqL a [110,111,116]) then (b true) else (b (eqL a [98,110,111,116])))))
theorem g85_ok (k:Nat) (a:LN) (r:Int) (h:g85 k a=some r):PureOk Tryz.prog 85 [.str a] (.i r):=by
 refine qA5 Xg85 (λ_=>⟨rfl,rfl⟩) Tryz.func85 (by decide +kernel) Kr (t:=g85 k a) ?_ h
 unfold g85
 refine qA1 (eE:=[(0,.str a)]) Kr ?_
 let j:Env:=[(5,.bool (eqL a [43])),(4,.bool (eqL a [43])),(3,.str a),(2,.i 0),(0,.str a)]
 refine oH 10 (atN 3 (ctl1 g85p1)) j (mkH []) ?_
 refine oJ g85p2 (λ(g:Bool)=>[(16,.bool g)]) (λ(g:Bool)=>(mkH [])) (λg=>?_) (λm b=>?_)
 ·refine oS 16 (λc=>?_) (λc=>?_)
  ·exact oQ 6
  ·exact oQ 7
 ·refine oS 5 (λc=>?_) (λc=>?_)
  ·refine oLH 12 g85p2 [(16,.bool true)] (mkH []) ?_
   exact b true
  ·let l:Env:=((9,.bool (eqL a [45]))::(8,.bool (eqL a [45]))::(7,.bool (eqL a [45]))::(6,.str a)::(5,.bool false)::j)
   refine oH 4 (atN 7 (ctl1 g85p1)) l (mkH []) ?_
   refine oS 9 (λc=>?_) (λc=>?_)
   ·refine oL 8 g85p2 [(16,.bool true)] ?_
    exact b true
   ·refine oR 4 (atN 11 (ctl1 g85p1)) ((13,.bool (eqL a [110,111,116]))::(12,.bool (eqL a [110,111,116]))::(11,.bool (eqL a [110,111,116]))::(10,.str a)::(9,.bool false)::l) ?_
    refine oS 13 (λc=>?_) (λc=>?_)
    ·refine oL 4 g85p2 [(16,.bool true)] ?_
     exact b true
    ·refine oL 4 g85p2 [(16,.bool (eqL a [98,110,111,116]))] ?_
     exact b (eqL a [98,110,111,116])
abbrev Ti51:Type:=LN→(List S43)→Int→Int→Bool→Option Int
def Xi51 (a:LN) (b:List S43) (c:Int) (g:Int) (h:Bool):Fx Int:=⟨Tryz.prog,cx,Tryz.f88,λr => .i r,1,λr=>(mkH [⟨[.str a,w44 b,.i c,.i g,.bool h],5,false⟩]),cxTi,cxOrd,λ_=>none,false⟩
def Pi51 (f:Ti51):Prop := ∀ a b c g h,PNh (Xi51 a b c g h) 88 [.ptr 0 5 0] (mkH [⟨[.str a,w44 b,.i c,.i g,.bool h],5,false⟩]) (f a b c g h)
def i51p2:Pt:=nav [0,0,0,0,0] (nav [0,0,0] (nav [0] (bodyAt Tryz.f88)))
def i51p3:Pt:=nav [0,0,0] i51p2
def i51p4:Pt:=nav [0,0] i51p3
def qHf (k:Nat)  (l:LN) (h:List S43) (m:Int) (j:Int) (n:Bool) (ih:Int→Option Int):Int→Option Int :=
 λ(a:Int)=>jn (λ(c:Bool×Int)=>if c.1 then (ih (fW .i64 (c.2+1))) else (some c.2)) (λg=>if (decide (a < j)) then ((nthL h a).bind λb=>g (decide (b.f0=11),a)) else (g (false,a)))
def qMp (k:Nat)  (a:LN) (b:List S43) (c:Int) (g:Int) (h:Bool) (n:Nat):Int→Option Int:=lp (λ_=>none) (qHf k a b c g h) n
theorem qMo (k:Nat) (l:LN) (j:List S43) (m:Int) (c:Int) (o:Bool)    : ∀ (n:Nat) (a:Int),Ok (Xi51 l j m c o) i51p2 [(0,.ptr 0 5 0),(3,.i a)] (mkH [⟨[.str l,w44 j,.i m,.i c,.bool o],5,false⟩]) (qMp k l j m c o n a):=by
 intro n
 induction n with
 | zero=>intro a; exact ok_none
 | succ n ih =>
  intro a
  show Ok _ _ _ _ (qHf k l j m c o (qMp k l j m c o n) a)
  unfold qHf
  refine qAd (p':=nav [0] i51p2) Kr ?_
  let x:Env:=[(14,.bool (decide (a < c))),(13,.bool (decide (a < c))),(12,.i c),(11,.ptr 0 5 3),(10,.ptr 0 5 0),(9,.ptr 0 5 0),(8,.i a),(0,.ptr 0 5 0),(3,.i a)]
  let g:Blk:=⟨[.str l,w44 j,.i m,.i c,.bool o],5,false⟩
  refine oH 10 (atN 7 (ctl1 i51p3)) x (mkH [g]) ?_
  refine oJ i51p4 (λ(h:Bool×Int)=>[(0,.ptr 0 5 0),(3,.i h.2),(24,.bool h.1)]) (λ(h:Bool×Int)=>(mkH [g])) (λh=>?_) (λz q=>?_)
  ·refine oS 24 (λu=>?_) (λu=>?_)
   ·refine oLH 8 i51p2 [(0,.ptr 0 5 0),(3,.i (fW .i64 (h.2+1)))] (mkH [g]) ?_
    exact ih (fW .i64 (h.2+1))
   ·exact oQF 8 [g] 1 [] [.i h.2] (.i h.2) .ps trivial
  ·refine oS 14 (λu=>?_) (λu=>?_)
   ·refine oH 5 (atN 12 (ctl1 i51p3)) ((19,.i a)::(18,w44 j)::(17,.ptr 0 5 1)::(16,.ptr 0 5 0)::(15,.ptr 0 5 0)::(14,.bool true)::x) (mkH [g]) ?_
    refine oC (λ(b:S43)=>(.vptr [.i b.f0,.str b.f1,.i b.f2],(mkH [g]))) (atN 13 (ctl1 i51p3)) 20 (vidxH (sz:=3) qAs Kr) λb r=>?_
    refine oLH 5 i51p4 [(0,.ptr 0 5 0),(3,.i a),(24,.bool (decide (b.f0=11)))] (mkH [g]) ?_
    exact q (decide (b.f0=11),a)
   ·refine oLH 11 i51p4 [(0,.ptr 0 5 0),(3,.i a),(24,.bool false)] (mkH [g]) ?_
    exact q (false,a)
def i51 (k:Nat) (b:LN) (c:List S43) (a:Int) (g:Int) (h:Bool):Option Int :=
 qMp k b c a g h k a
theorem i51_all (k:Nat):∀ b c a g j r,i51 k b c a g j=some r→CallT Tryz.prog 88 [.ptr 0 5 0] (mkH [⟨[.str b,w44 c,.i a,.i g,.bool j],5,false⟩]) ((Xi51 b c a g j).thr r) ((Xi51 b c a g j).enc r) ((Xi51 b c a g j).fin r):=by
 intro b c a g j r h
 refine qA0 (Xi51 b c a g j) Tryz.func88 Kr Kr rfl (t:=i51 k b c a g j) ?_ h
 unfold i51
 refine qA1 (eE:=[(0,.ptr 0 5 0)]) Kr ?_
 refine oLH 15 i51p2 [(0,.ptr 0 5 0),(3,.i a)] (mkH [⟨[.str b,w44 c,.i a,.i g,.bool j],5,false⟩]) ?_
 exact (qMo k b c a g j k) a
theorem i51_ok (k:Nat):Pi51 (i51 k):=λa b c g j=>λx h=>i51_all k a b c g j x h
abbrev Ti31:Type:=LN→(List S43)→Int→Int→Bool→Option S43
def Xi31 (a:LN) (b:List S43) (c:Int) (g:Int) (h:Bool):Fx S43:=⟨Tryz.prog,cx,Tryz.f58,λr=>n44 r,1,λr=>(mkH [⟨[.str a,w44 b,.i c,.i g,.bool h],5,false⟩]),cxTi,cxOrd,λ_=>none,false⟩
def Pi31 (f:Ti31):Prop := ∀ a b c g h,PNh (Xi31 a b c g h) 58 [.ptr 0 5 0] (mkH [⟨[.str a,w44 b,.i c,.i g,.bool h],5,false⟩]) (f a b c g h)
def i31p1:Pt:=nav [0,0,0,0] (nav [0] (bodyAt Tryz.f58))
def i31p2:Pt:=nav [0,0,0] i31p1
def i31p3:Pt:=nav [0,0] i31p2
def i31p4:Pt:=nav [1,0] i31p3
def i31 (k:Nat) (l:LN) (c:List S43) (m:Int) (g:Int) (h:Bool):Option S43 :=
 (i51 k l c m g h).bind λa=>jn (λ(n:Bool)=>if n then ((nthL c a).bind λb=>some b) else (some (⟨(0:Int),([]:LN),(0:Int)⟩:S43))) (λj=>if (decide (a < g)) then (j (!h)) else (j false))
theorem i31_all (k:Nat):∀ l j m c g r,i31 k l j m c g=some r→CallT Tryz.prog 58 [.ptr 0 5 0] (mkH [⟨[.str l,w44 j,.i m,.i c,.bool g],5,false⟩]) ((Xi31 l j m c g).thr r) ((Xi31 l j m c g).enc r) ((Xi31 l j m c g).fin r):=by
 intro l j m c g r h
 refine qA0 (Xi31 l j m c g) Tryz.func58 Kr Kr rfl (t:=i31 k l j m c g) ?_ h
 unfold i31
 refine qA1 (eE:=[(0,.ptr 0 5 0)]) Kr ?_
 let n:Blk:=⟨[.str l,w44 j,.i m,.i c,.bool g],5,false⟩
 let o:Blk:=⟨[.i 0,.str [],.i 0],0,false⟩
 refine oH 8 (atN 1 (ctl1 i31p1)) [(4,.ptr 0 5 0),(2,.ptr 1 3 0),(0,.ptr 0 5 0)] (mkH [n,o]) ?_
 refine oN (λ(a:Int) => .i a) (λa=>[n,o]) (atN 2 (ctl1 i31p1)) 5 [0] [] [] [.ptr 0 5 0] (i51_ok k l j m c g) trivial (λ_=>trivial) λa x=>?_
 refine oR 11 (atN 7 (ctl1 i31p2)) [(12,.bool (decide (a < c))),(11,.bool (decide (a < c))),(10,.i c),(9,.ptr 0 5 3),(8,.ptr 0 5 0),(7,.ptr 0 5 0),(6,.i a),(3,.i a),(5,.i a),(4,.ptr 0 5 0),(2,.ptr 1 3 0),(0,.ptr 0 5 0)] ?_
 refine oJ i31p3 (λ(u:Bool)=>[(0,.ptr 0 5 0),(2,.ptr 1 3 0),(3,.i a),(18,.bool u)]) (λ(u:Bool)=>(mkH [n,o])) (λu=>?_) (λB q=>?_)
 ·refine oS 18 (λz=>?_) (λz=>?_)
  ·refine oH 8 (atN 5 (ctl1 i31p4)) [(23,.i a),(22,w44 j),(21,.ptr 0 5 1),(20,.ptr 0 5 0),(19,.ptr 0 5 0),(18,.bool true),(0,.ptr 0 5 0),(2,.ptr 1 3 0),(3,.i a),(18,.bool u)] (mkH [n,o]) ?_
   refine oC (λ(b:S43)=>(.vptr [.i b.f0,.str b.f1,.i b.f2],(mkH [n,o]))) (atN 6 (ctl1 i31p4)) 24 (vidxH (sz:=3) qAs Kr) λb A=>?_
   exact oQF 4 [n,⟨e44 b,3,false⟩] 1 [] [n44 b] (n44 b) .ps trivial
  ·exact oQF 8 [n,⟨[.i 0,.str [],.i 0],3,false⟩] 1 [] [.agg [.i 0,.str [],.i 0]] (.agg [.i 0,.str [],.i 0]) .ps trivial
 ·refine oS 12 (λz=>?_) (λz=>?_)
  ·refine oLH 7 i31p3 [(0,.ptr 0 5 0),(2,.ptr 1 3 0),(3,.i a),(18,.bool (!g))] (mkH [n,o]) ?_
   exact q (!g)
  ·refine oLH 7 i31p3 [(0,.ptr 0 5 0),(2,.ptr 1 3 0),(3,.i a),(18,.bool false)] (mkH [n,o]) ?_
   exact q false
theorem qBh (k:Nat):Pi31 (i31 k):=λa b c g j=>λx h=>i31_all k a b c g j x h
abbrev Ti48:Type:=Int→LN→LN→(List S43)→Int→Int→Bool→Option Bool
def Xi48 (j:Int) (k:LN) (a:LN) (b:List S43) (c:Int) (g:Int) (h:Bool):Fx Bool:=⟨Tryz.prog,cx,Tryz.f84,λr => .bool r,1,λr=>(mkH [⟨[.str a,w44 b,.i c,.i g,.bool h],5,false⟩]),cxTi,cxOrd,λ_=>none,false⟩
def Pi48 (f:Ti48):Prop := ∀ a b c g h j k,PNh (Xi48 a b c g h j k) 84 [.ptr 0 5 0,.i a,.str b] (mkH [⟨[.str c,w44 g,.i h,.i j,.bool k],5,false⟩]) (f a b c g h j k)
def i48p1:Pt:=nav [0,0,0] (nav [0] (bodyAt Tryz.f84))
def i48 (k:Nat) (b:Int) (c:LN) (g:LN) (h:List S43) (j:Int) (l:Int) (m:Bool):Option Bool :=
 (i31 k g h j l m).bind λa=>if (decide (a.f0=b)) then (some (eqL a.f1 c)) else (some false)
theorem i48_all (k:Nat):∀ b c g j l m n r,i48 k b c g j l m n=some r→CallT Tryz.prog 84 [.ptr 0 5 0,.i b,.str c] (mkH [⟨[.str g,w44 j,.i l,.i m,.bool n],5,false⟩]) ((Xi48 b c g j l m n).thr r) ((Xi48 b c g j l m n).enc r) ((Xi48 b c g j l m n).fin r):=by
 intro b c g j l m n r h
 refine qA0 (Xi48 b c g j l m n) Tryz.func84 Kr Kr rfl (t:=i48 k b c g j l m n) ?_ h
 unfold i48
 refine qA1 (eE:=[(0,.ptr 0 5 0),(1,.i b),(2,.str c)]) Kr ?_
 let u:Env:=[(8,.ptr 0 5 0),(6,.bool false),(0,.ptr 0 5 0),(1,.i b),(2,.str c)]
 let o:Blk:=⟨[.str g,w44 j,.i l,.i m,.bool n],5,false⟩
 refine oH 7 (atN 1 (ctl1 i48p1)) u (mkH [o]) ?_
 refine oN (λ(a:S43)=>n44 a) (λa=>[o]) (atN 2 (ctl1 i48p1)) 9 [0] [] [] [.ptr 0 5 0] (qBh k g j l m n) trivial (λ_=>trivial) λa q=>?_
 refine oH 10 (atN 5 (ctl1 (nav [0,0,0] i48p1))) ((14,.bool (decide (a.f0=b)))::(13,.bool (decide (a.f0=b)))::(12,.i b)::(11,.i a.f0)::(10,.ptr 1 3 0)::(7,.ptr 1 3 0)::(9,n44 a)::u) (mkH [o,⟨e44 a,3,false⟩]) ?_
 refine oS 14 (λx=>?_) (λx=>?_)
 ·exact oQF 8 [o,⟨e44 a,3,false⟩] 1 [] [.bool (eqL a.f1 c)] (.bool (eqL a.f1 c)) .ps trivial
 ·exact oQF 8 [o,⟨e44 a,3,false⟩] 1 [] [.bool false] (.bool false) .ps trivial
theorem qMq (k:Nat):Pi48 (i48 k):=λa b c g j l m=>λx h=>i48_all k a b c g j l m x h
abbrev Ti28:Type:=LN→LN→(List S43)→Int→Int→Bool→Option Bool
def Xi28 (j:LN) (a:LN) (b:List S43) (c:Int) (g:Int) (h:Bool):Fx Bool:=⟨Tryz.prog,cx,Tryz.f55,λr => .bool r,1,λr=>(mkH [⟨[.str a,w44 b,.i c,.i g,.bool h],5,false⟩]),cxTi,cxOrd,λ_=>none,false⟩
def Pi28 (f:Ti28):Prop := ∀ a b c g h j,PNh (Xi28 a b c g h j) 55 [.ptr 0 5 0,.str a] (mkH [⟨[.str b,w44 c,.i g,.i h,.bool j],5,false⟩]) (f a b c g h j)
def i28p1:Pt:=nav [0,0,0] (nav [0] (bodyAt Tryz.f55))
def i28 (k:Nat) (b:LN) (c:LN) (g:List S43) (h:Int) (j:Int) (l:Bool):Option Bool :=
 (i48 k (8:Int) b c g h j l).bind λa=>some a
theorem i28_all (k:Nat):∀ b c g j l m r,i28 k b c g j l m=some r→CallT Tryz.prog 55 [.ptr 0 5 0,.str b] (mkH [⟨[.str c,w44 g,.i j,.i l,.bool m],5,false⟩]) ((Xi28 b c g j l m).thr r) ((Xi28 b c g j l m).enc r) ((Xi28 b c g j l m).fin r):=by
 intro b c g j l m r h
 refine qA0 (Xi28 b c g j l m) Tryz.func55 Kr Kr rfl (t:=i28 k b c g j l m) ?_ h
 unfold i28
 refine qA1 (eE:=[(0,.ptr 0 5 0),(1,.str b)]) Kr ?_
 let n:Blk:=⟨[.str c,w44 g,.i j,.i l,.bool m],5,false⟩
 refine oH 8 (atN 2 (ctl1 i28p1)) [(6,.str b),(5,.ptr 0 5 0),(4,.bool false),(0,.ptr 0 5 0),(1,.str b)] (mkH [n]) ?_
 refine oN (λ(a:Bool) => .bool a) (λa=>[n]) (atN 3 (ctl1 i28p1)) 7 [0] [] [] [.ptr 0 5 0,.i 8,.str b] (qMq k (8:Int) b c g j l m) trivial (λ_=>trivial) λa o=>?_
 exact oQF 3 [n] 1 [] [.bool a] (.bool a) .ps trivial
theorem qCo (k:Nat):Pi28 (i28 k):=λa b c g j l=>λx h=>i28_all k a b c g j l x h
abbrev Ri29:Type:=(Int×Int×Bool)
abbrev Ti29:Type:=LN→(List S43)→Int→Int→Bool→Option Ri29
def Xi29 (a:LN) (b:List S43) (g:Int) (c:Int) (h:Bool):Fx Ri29:=⟨Tryz.prog,cx,Tryz.f56,λr => .i r.1,1,λr=>(mkH [⟨[.str a,w44 b,.i r.2.1,.i c,.bool r.2.2],5,false⟩]),cxTi,cxOrd,λ_=>none,false⟩
def Pi29 (f:Ti29):Prop := ∀ a b c g h,PNh (Xi29 a b c g h) 56 [.ptr 0 5 0] (mkH [⟨[.str a,w44 b,.i c,.i g,.bool h],5,false⟩]) (f a b c g h)
def i29p2:Pt:=nav [0,0,0,0] (nav [0,0,0] (nav [0] (bodyAt Tryz.f56)))
def i29p3:Pt:=nav [0,0] i29p2
def i29 (k:Nat) (m:LN) (h:List S43) (b:Int) (j:Int) (g:Bool):Option Ri29 :=
 jn (λ(l:Bool)=>if l then (some ((0:Int),b,true)) else (some (b,fW .i64 (b+1),g))) (λc=>if g then (c true) else (if (decide (j≤b)) then (c true) else ((nthL h b).bind λa=>c (decide (a.f0=11)))))
theorem i29_all (k:Nat):∀ l g b c j r,i29 k l g b c j=some r→CallT Tryz.prog 56 [.ptr 0 5 0] (mkH [⟨[.str l,w44 g,.i b,.i c,.bool j],5,false⟩]) ((Xi29 l g b c j).thr r) ((Xi29 l g b c j).enc r) ((Xi29 l g b c j).fin r):=by
 intro l g b c j r h
 refine qA0 (Xi29 l g b c j) Tryz.func56 Kr Kr rfl (t:=i29 k l g b c j) ?_ h
 unfold i29
 refine qA1 (eE:=[(0,.ptr 0 5 0)]) Kr ?_
 let x:Env:=[(12,.bool j),(11,.bool j),(10,.ptr 0 5 4),(9,.ptr 0 5 0),(8,.ptr 0 5 0),(3,.i b),(7,.i b),(6,.ptr 0 5 2),(5,.ptr 0 5 0),(4,.ptr 0 5 0),(2,.i 0),(0,.ptr 0 5 0)]
 let n:Blk:=⟨[.str l,w44 g,.i b,.i c,.bool j],5,false⟩
 refine oH 20 (atN 5 (ctl1 i29p2)) x (mkH [n]) ?_
 refine oJ i29p3 (λ(u:Bool)=>[(0,.ptr 0 5 0),(3,.i b),(30,.bool u)]) (λ(u:Bool)=>(mkH [n])) (λu=>?_) (λC m=>?_)
 ·refine oS 30 (λo=>?_) (λo=>?_)
  ·let z:Blk:=⟨[.str l,w44 g,.i b,.i c,.bool true],5,false⟩
   refine oLH 9 (nav [0,0,0] (nav [1,0] i29p3)) [] (mkH [z]) ?_
   exact oQF 4 [z] 1 [] [.i 0] (.i 0) .ps trivial
  ·let A:Blk:=⟨[.str l,w44 g,.i (fW .i64 (b+1)),.i c,.bool j],5,false⟩
   refine oLH 14 (nav [0,0,0] (nav [2,0,0] i29p3)) [(3,.i b)] (mkH [A]) ?_
   exact oQF 5 [A] 1 [] [.i b] (.i b) .ps trivial
 ·refine oS 12 (λo=>?_) (λo=>?_)
  ·refine oLH 19 i29p3 [(0,.ptr 0 5 0),(3,.i b),(30,.bool true)] (mkH [n]) ?_
   exact m true
  ·let B:Env:=((20,.bool (decide (c≤b)))::(19,.bool (decide (c≤b)))::(18,.bool (decide (c≤b)))::(17,.i c)::(16,.ptr 0 5 3)::(15,.ptr 0 5 0)::(14,.ptr 0 5 0)::(13,.i b)::(12,.bool false)::x)
   refine oH 8 (atN 13 (ctl1 i29p2)) B (mkH [n]) ?_
   refine oS 20 (λo=>?_) (λo=>?_)
   ·refine oL 11 i29p3 [(0,.ptr 0 5 0),(3,.i b),(30,.bool true)] ?_
    exact m true
   ·refine oR 5 (atN 18 (ctl1 i29p2)) ((25,.i b)::(24,w44 g)::(23,.ptr 0 5 1)::(22,.ptr 0 5 0)::(21,.ptr 0 5 0)::(20,.bool false)::B) ?_
    refine oC (λ(a:S43)=>(.vptr [.i a.f0,.str a.f1,.i a.f2],(mkH [n]))) (atN 19 (ctl1 i29p2)) 26 (vidxH (sz:=3) qAs Kr) λa q=>?_
    refine oLH 5 i29p3 [(0,.ptr 0 5 0),(3,.i b),(30,.bool (decide (a.f0=11)))] (mkH [n]) ?_
    exact m (decide (a.f0=11))
theorem qAk (k:Nat):Pi29 (i29 k):=λa b c g j=>λx h=>i29_all k a b c g j x h
abbrev Ri32:Type:=(LL×Int)
abbrev Ti32:Type:=LN→(List S43)→Int→Int→Bool→Option Ri32
def Xi32 (a:LN) (b:List S43) (h:Int) (c:Int) (g:Bool):Fx Ri32:=⟨Tryz.prog,cx,Tryz.f65,λr=>w9 r.1,1,λr=>(mkH [⟨[.str a,w44 b,.i r.2,.i c,.bool g],5,false⟩]),cxTi,cxOrd,λ_=>none,false⟩
def Pi32 (f:Ti32):Prop := ∀ a b c g h,PNh (Xi32 a b c g h) 65 [.ptr 0 5 0] (mkH [⟨[.str a,w44 b,.i c,.i g,.bool h],5,false⟩]) (f a b c g h)
def i32p1:Pt:=nav [0,0,0] (nav [0] (bodyAt Tryz.f65))
def i32p2:Pt:=nav [0,0,0,0] i32p1
def i32p3:Pt:=nav [0,0,0,0] i32p2
def i32p5:Pt:=nav [0,0] (nav [0,0,0] i32p3)
def i32p6:Pt:=nav [1,0,0,0] i32p5
def i32d0:DP:=⟨[32],[(0,0,0),(0,0,0),(2,0,0),(6,0,0),(14,0,0),(0,0,0),(32,0,0),(96,0,0),(224,0,0),(510,0,0),(1022,0,0),(2046,0,0),(4094,0,0),(8191,0,0),(16383,0,0)],15,thrown,[],H0⟩
def qHm (k:Nat)  (l:LN) (j:List S43) (m:Int) (n:Bool) (g:Int) (ih:Int→LL→Option Ri32):Int→LL→Option Ri32 :=
 λ(a:Int) (b:LL)=>if (decide (a < g)) then ((nthL j a).bind λh=>(appS 16 b ([h.f1]:LL)).bind λc=>ih (fW .i64 (a+1)) c) else (some (b,a))
def qMx (k:Nat)  (b:LN) (c:List S43) (g:Int) (h:Bool) (a:Int) (n:Nat):Int→LL→Option Ri32:=lp (λ_ _=>none) (qHm k b c g h a) n
theorem qMw (k:Nat) (o:LN) (l:List S43) (D:Int) (q:Int) (r:Bool)  (h:Int)  : ∀ (n:Nat) (c:Int) (g:LL),Ok (Xi32 o l D q r) i32p3 [(0,.ptr 0 5 0),(3,.own 1 (g).length 1),(4,.i h)] (mkH [⟨[.str o,w44 l,.i c,.i q,.bool r],5,false⟩,⟨(g).flatMap e9,0,false⟩]) (qMx k o l q r h n c g):=by
 intro n
 induction n with
 | zero=>intro c g; exact ok_none
 | succ n ih =>
  intro c g
  show Ok _ _ _ _ (qHm k o l q r h (qMx k o l q r h n) c g)
  unfold qHm
  refine qAd (p':=nav [0] i32p3) Kr ?_
  let C:Env:=[(12,.bool (decide (c < h))),(11,.i h),(10,.i c),(9,.ptr 0 5 2),(8,.ptr 0 5 0),(7,.ptr 0 5 0),(0,.ptr 0 5 0),(3,.own 1 (g).length 1),(4,.i h)]
  let m:Blk:=⟨[.str o,w44 l,.i c,.i q,.bool r],5,false⟩
  let z:Blk:=⟨(g).flatMap e9,0,false⟩
  refine oH 10 i32p5 C (mkH [m,z]) ?_
  refine oS 12 (λE=>?_) (λE=>?_)
  ·refine oR 4 i32p6 ((12,.bool true)::C) ?_
   refine qA7 (λa u=>?_)
   refine qA7 (λb j=>?_)
   let A:Env:=[(28,.i c),(27,.ptr 0 5 2),(26,.ptr 0 5 0),(25,.ptr 0 5 0),(24,w44 l),(23,.ptr 0 5 1),(22,.ptr 0 5 0),(21,.ptr 0 5 0),(20,.own 1 (g).length 1),(12,.bool true),(12,.bool (decide (c < h))),(11,.i h),(10,.i c),(9,.ptr 0 5 2),(8,.ptr 0 5 0),(7,.ptr 0 5 0),(0,.ptr 0 5 0),(3,.own 1 (g).length 1),(4,.i h)]
   let B:Env:=((33,.own 1 (b).length 1)::(32,w9 ([a.f1]:LL))::(31,.str a.f1)::(30,.vptr [.str a.f1,.i a.f2])::(29,.vptr [.i a.f0,.str a.f1,.i a.f2])::A)
   refine oD (H':=(mkH [m,⟨(b).flatMap e9,0,false⟩])) (nav [0] i32p6) ((3,.own 1 (b).length 1)::B) [(mkH [m,⟨(b).flatMap e9,0,false⟩])] i32d0 (oDr 9 9 A (qAb (l':=(opsAt i32p6).toList.drop 10) (eE:=((29,.vptr [.i a.f0,.str a.f1,.i a.f2])::A)) (hs:=[]) (x:=a) (λ(a:S43)=>(.vptr [.i a.f0,.str a.f1,.i a.f2],(mkH [m,z]))) (vidxH (sz:=3) qAs Kr) u Kr (oDr 3 13 ((32,w9 ([a.f1]:LL))::(31,.str a.f1)::(30,.vptr [.str a.f1,.i a.f2])::(29,.vptr [.i a.f0,.str a.f1,.i a.f2])::A) (qAb (l':=(opsAt i32p6).toList.drop 14) (eE:=B) (hs:=[(mkH [m,⟨(b).flatMap e9,0,false⟩])]) (x:=b) (λ(b:LL)=>(.own 1 (b).length 1,(mkH [m,⟨(b).flatMap e9,0,false⟩]))) (appHV (sz:=1) qBq rfl e9_one [m,z] 1 16 g ([a.f1]:LL) rfl rfl Kr) j Kr (oDr 1 15 ((3,.own 1 (b).length 1)::B) .nil))))) ?_
   refine oLH 10 i32p3 [(0,.ptr 0 5 0),(3,.own 1 (b).length 1),(4,.i h)] (mkH [⟨[.str o,w44 l,.i (fW .i64 (c+1)),.i q,.bool r],5,false⟩,⟨(b).flatMap e9,0,false⟩]) ?_
   exact ih (fW .i64 (c+1)) b
  ·exact oQF 8 [m,z] 1 [] [.own 1 (g).length 1] (w9 g) (qAl qBq e9_pur rfl rfl rfl .ps) trivial
def i32 (k:Nat) (b:LN) (c:List S43) (g:Int) (h:Int) (j:Bool):Option Ri32 :=
 (i51 k b c g h j).bind λa=>qMx k b c h j a k g ([]:LL)
theorem i32_all (k:Nat):∀ c g b j l r,i32 k c g b j l=some r→CallT Tryz.prog 65 [.ptr 0 5 0] (mkH [⟨[.str c,w44 g,.i b,.i j,.bool l],5,false⟩]) ((Xi32 c g b j l).thr r) ((Xi32 c g b j l).enc r) ((Xi32 c g b j l).fin r):=by
 intro c g b j l r h
 refine qA0 (Xi32 c g b j l) Tryz.func65 Kr Kr rfl (t:=i32 k c g b j l) ?_ h
 unfold i32
 refine qA1 (eE:=[(0,.ptr 0 5 0)]) Kr ?_
 let m:Blk:=⟨[.str c,w44 g,.i b,.i j,.bool l],5,false⟩
 refine oH 7 (atN 1 (ctl1 i32p1)) [(3,.nils),(2,.nils),(0,.ptr 0 5 0)] (mkH [m]) ?_
 refine qCn [m] 3 1 rfl Kr ?_
 let o:Blk:=⟨(([]:LL)).flatMap e9,0,false⟩
 refine oH 5 (atN 1 (ctl1 i32p2)) [(5,.ptr 0 5 0),(3,.own 1 (([]:LL)).length 1),(3,.nils),(2,.nils),(0,.ptr 0 5 0)] (mkH [m,o]) ?_
 refine oN (λ(a:Int) => .i a) (λa=>[m,o]) (atN 2 (ctl1 i32p2)) 6 [0] [] [] [.ptr 0 5 0] (i51_ok k c g b j l) trivial (λ_=>trivial) λa n=>?_
 refine oL 4 i32p3 [(0,.ptr 0 5 0),(3,.own 1 (([]:LL)).length 1),(4,.i a)] ?_
 exact (qMw k c g b j l a k) b ([]:LL)
theorem qBp (k:Nat):Pi32 (i32 k):=λa b c g j=>λx h=>i32_all k a b c g j x h
abbrev Ti33:Type:=LN→LN→(List S43)→Int→Int→Bool→Option Bool
def Xi33 (j:LN) (a:LN) (b:List S43) (c:Int) (g:Int) (h:Bool):Fx Bool:=⟨Tryz.prog,cx,Tryz.f67,λr => .bool r,1,λr=>(mkH [⟨[.str a,w44 b,.i c,.i g,.bool h],5,false⟩]),cxTi,cxOrd,λ_=>none,false⟩
def Pi33 (f:Ti33):Prop := ∀ a b c g h j,PNh (Xi33 a b c g h j) 67 [.ptr 0 5 0,.str a] (mkH [⟨[.str b,w44 c,.i g,.i h,.bool j],5,false⟩]) (f a b c g h j)
def i33p1:Pt:=nav [0,0,0] (nav [0] (bodyAt Tryz.f67))
def i33 (k:Nat) (b:LN) (c:LN) (g:List S43) (h:Int) (j:Int) (l:Bool):Option Bool :=
 (i48 k (9:Int) b c g h j l).bind λa=>some a
theorem i33_all (k:Nat):∀ b c g j l m r,i33 k b c g j l m=some r→CallT Tryz.prog 67 [.ptr 0 5 0,.str b] (mkH [⟨[.str c,w44 g,.i j,.i l,.bool m],5,false⟩]) ((Xi33 b c g j l m).thr r) ((Xi33 b c g j l m).enc r) ((Xi33 b c g j l m).fin r):=by
 intro b c g j l m r h
 refine qA0 (Xi33 b c g j l m) Tryz.func67 Kr Kr rfl (t:=i33 k b c g j l m) ?_ h
 unfold i33
 refine qA1 (eE:=[(0,.ptr 0 5 0),(1,.str b)]) Kr ?_
 let n:Blk:=⟨[.str c,w44 g,.i j,.i l,.bool m],5,false⟩
 refine oH 8 (atN 2 (ctl1 i33p1)) [(6,.str b),(5,.ptr 0 5 0),(4,.bool false),(0,.ptr 0 5 0),(1,.str b)] (mkH [n]) ?_
 refine oN (λ(a:Bool) => .bool a) (λa=>[n]) (atN 3 (ctl1 i33p1)) 7 [0] [] [] [.ptr 0 5 0,.i 9,.str b] (qMq k (9:Int) b c g j l m) trivial (λ_=>trivial) λa o=>?_
 exact oQF 3 [n] 1 [] [.bool a] (.bool a) .ps trivial
theorem qAi (k:Nat):Pi33 (i33 k):=λa b c g j l=>λx h=>i33_all k a b c g j l x h
abbrev Ri65:Type:=(LN×Int×Bool)
abbrev Ti65:Type:=Bool→LN→(List S43)→Int→Int→Bool→Option Ri65
def Xi65 (g:Bool) (a:LN) (b:List S43) (h:Int) (c:Int) (j:Bool):Fx Ri65:=⟨Tryz.prog,cx,Tryz.f115,λr => .str r.1,1,λr=>(mkH [⟨[.str a,w44 b,.i r.2.1,.i c,.bool r.2.2],5,false⟩]),cxTi,cxOrd,λ_=>none,false⟩
def Pi65 (f:Ti65):Prop := ∀ a b c g h j,PNh (Xi65 a b c g h j) 115 [.ptr 0 5 0,.bool a] (mkH [⟨[.str b,w44 c,.i g,.i h,.bool j],5,false⟩]) (f a b c g h j)
def i65p2:Pt:=nav [0,0] (nav [0,0,0,0] (nav [0] (bodyAt Tryz.f115)))
def i65p4:Pt:=nav [2,0,0] i65p2
def i65p6:Pt:=nav [0,0] (nav [0,0,0,0] i65p4)
def i65p8:Pt:=nav [2,0,0] i65p6
def i65 (k:Nat) (h:Bool) (j:LN) (c:List S43) (l:Int) (m:Int) (n:Bool):Option Ri65 :=
 jn (λ(o:Bool)=>(i29 k j c l m o).bind λa=>if a.2.2 then (some (([]:LN),a.2.1,a.2.2)) else ((nthL c a.1).bind λb=>some (b.f1,a.2.1,a.2.2))) (λg=>if (!h) then (g true) else (g n))
theorem i65_all (k:Nat):∀ m g c l j n r,i65 k m g c l j n=some r→CallT Tryz.prog 115 [.ptr 0 5 0,.bool m] (mkH [⟨[.str g,w44 c,.i l,.i j,.bool n],5,false⟩]) ((Xi65 m g c l j n).thr r) ((Xi65 m g c l j n).enc r) ((Xi65 m g c l j n).fin r):=by
 intro m g c l j n r h
 refine qA0 (Xi65 m g c l j n) Tryz.func115 Kr Kr rfl (t:=i65 k m g c l j n) ?_ h
 unfold i65
 refine qA1 (eE:=[(0,.ptr 0 5 0),(1,.bool m)]) Kr ?_
 let A:Blk:=⟨[.str g,w44 c,.i l,.i j,.bool n],5,false⟩
 refine oH 10 i65p2 [(7,.bool (!m)),(6,.bool m),(4,.str []),(0,.ptr 0 5 0),(1,.bool m)] (mkH [A]) ?_
 refine oJ i65p4 (λ(o:Bool)=>[(0,.ptr 0 5 0)]) (λ(o:Bool)=>(mkH [⟨[.str g,w44 c,.i l,.i j,.bool o],5,false⟩])) (λo=>?_) (λD q=>?_)
 ·refine oH 2 (atN 1 (ctl1 i65p4)) [(11,.ptr 0 5 0),(0,.ptr 0 5 0)] (mkH [⟨[.str g,w44 c,.i l,.i j,.bool o],5,false⟩]) ?_
  refine oN (λ(a:Ri29) => .i a.1) (λa=>[⟨[.str g,w44 c,.i a.2.1,.i j,.bool a.2.2],5,false⟩]) (atN 2 (ctl1 i65p4)) 12 [0] [] [] [.ptr 0 5 0] (qAk k g c l j o) trivial (λ_=>trivial) λa u=>?_
  let B:Env:=[(16,.bool a.2.2),(15,.ptr 0 5 4),(14,.ptr 0 5 0),(13,.ptr 0 5 0),(5,.i a.1),(12,.i a.1),(11,.ptr 0 5 0),(0,.ptr 0 5 0)]
  refine oR 10 i65p6 B ?_
  refine oS 16 (λx=>?_) (λx=>?_)
  ·exact oQF 6 [⟨[.str g,w44 c,.i a.2.1,.i j,.bool a.2.2],5,false⟩] 1 [] [.str []] (.str []) .ps trivial
  ·refine oR 9 (atN 5 (ctl1 i65p8)) ((21,.i a.1)::(20,w44 c)::(19,.ptr 0 5 1)::(18,.ptr 0 5 0)::(17,.ptr 0 5 0)::(16,.bool false)::B) ?_
   let C:Blk:=⟨[.str g,w44 c,.i a.2.1,.i j,.bool a.2.2],5,false⟩
   refine oC (λ(b:S43)=>(.vptr [.i b.f0,.str b.f1,.i b.f2],(mkH [C]))) (atN 6 (ctl1 i65p8)) 22 (vidxH (sz:=3) qAs Kr) λb z=>?_
   exact oQF 5 [C] 1 [] [.str b.f1] (.str b.f1) .ps trivial
 ·refine oS 7 (λx=>?_) (λx=>?_)
  ·refine oLH 8 i65p4 [(0,.ptr 0 5 0)] (mkH [⟨[.str g,w44 c,.i l,.i j,.bool true],5,false⟩]) ?_
   exact q true
  ·refine oLH 3 i65p4 [(0,.ptr 0 5 0)] (mkH [A]) ?_
   exact q n
theorem qC6 (k:Nat):Pi65 (i65 k):=λa b c g j l=>λx h=>i65_all k a b c g j l x h
abbrev Ri66:Type:=(Int×Int×Bool)
abbrev Ti66:Type:=Int→LN→LN→(List S43)→Int→Int→Bool→Option Ri66
def Xi66 (g:Int) (h:LN) (a:LN) (b:List S43) (j:Int) (c:Int) (k:Bool):Fx Ri66:=⟨Tryz.prog,cx,Tryz.f114,λr => .i r.1,1,λr=>(mkH [⟨[.str a,w44 b,.i r.2.1,.i c,.bool r.2.2],5,false⟩]),cxTi,cxOrd,λ_=>none,false⟩
def Pi66 (f:Ti66):Prop := ∀ a b c g h j k,PNh (Xi66 a b c g h j k) 114 [.ptr 0 5 0,.i a,.str b] (mkH [⟨[.str c,w44 g,.i h,.i j,.bool k],5,false⟩]) (f a b c g h j k)
def i66p1:Pt:=nav [0,0,0,0] (nav [0] (bodyAt Tryz.f114))
def i66p2:Pt:=nav [0,0] i66p1
def i66p4:Pt:=nav [2,0,0] i66p2
def i66 (k:Nat) (n:Int) (o:LN) (c:LN) (g:List S43) (h:Int) (j:Int) (l:Bool):Option Ri66 :=
 (i48 k n o c g h j l).bind λb=>jn (λ(q:Bool)=>(i29 k c g h j q).bind λa=>some (a.1,a.2.1,a.2.2)) (λm=>if (!b) then (m true) else (m l))
theorem i66_all (k:Nat):∀ m n b c j g o r,i66 k m n b c j g o=some r→CallT Tryz.prog 114 [.ptr 0 5 0,.i m,.str n] (mkH [⟨[.str b,w44 c,.i j,.i g,.bool o],5,false⟩]) ((Xi66 m n b c j g o).thr r) ((Xi66 m n b c j g o).enc r) ((Xi66 m n b c j g o).fin r):=by
 intro m n b c j g o r h
 refine qA0 (Xi66 m n b c j g o) Tryz.func114 Kr Kr rfl (t:=i66 k m n b c j g o) ?_ h
 unfold i66
 refine qA1 (eE:=[(0,.ptr 0 5 0),(1,.i m),(2,.str n)]) Kr ?_
 let x:Blk:=⟨[.str b,w44 c,.i j,.i g,.bool o],5,false⟩
 refine oH 10 (atN 3 (ctl1 i66p1)) [(9,.str n),(8,.i m),(7,.ptr 0 5 0),(6,.i 0),(0,.ptr 0 5 0),(1,.i m),(2,.str n)] (mkH [x]) ?_
 refine oN (λ(l:Bool) => .bool l) (λl=>[x]) (atN 4 (ctl1 i66p1)) 10 [0] [] [] [.ptr 0 5 0,.i m,.str n] (qMq k m n b c j g o) trivial (λ_=>trivial) λl z=>?_
 refine oL 2 i66p2 [(0,.ptr 0 5 0),(11,.bool (!l))] ?_
 refine oJ i66p4 (λ(q:Bool)=>[(0,.ptr 0 5 0)]) (λ(q:Bool)=>(mkH [⟨[.str b,w44 c,.i j,.i g,.bool q],5,false⟩])) (λq=>?_) (λC u=>?_)
 ·refine oH 2 (atN 1 (ctl1 i66p4)) [(15,.ptr 0 5 0),(0,.ptr 0 5 0)] (mkH [⟨[.str b,w44 c,.i j,.i g,.bool q],5,false⟩]) ?_
  refine oN (λ(a:Ri29) => .i a.1) (λa=>[⟨[.str b,w44 c,.i a.2.1,.i g,.bool a.2.2],5,false⟩]) (atN 2 (ctl1 i66p4)) 16 [0] [] [] [.ptr 0 5 0] (qAk k b c j g q) trivial (λ_=>trivial) λa A=>?_
  exact oQF 3 [⟨[.str b,w44 c,.i a.2.1,.i g,.bool a.2.2],5,false⟩] 1 [] [.i a.1] (.i a.1) .ps trivial
 ·refine oS 11 (λB=>?_) (λB=>?_)
  ·refine oLH 8 i66p4 [(0,.ptr 0 5 0)] (mkH [⟨[.str b,w44 c,.i j,.i g,.bool true],5,false⟩]) ?_
   exact u true
  ·refine oLH 3 i66p4 [(0,.ptr 0 5 0)] (mkH [x]) ?_
   exact u o
theorem qBy (k:Nat):Pi66 (i66 k):=λa b c g j l m=>λx h=>i66_all k a b c g j l m x h
abbrev Ri72:Type:=(S28×Int×Bool)
abbrev Ti72:Type:=S28→LN→(List S43)→Int→Int→Bool→Option Ri72
def Xi72 (g:S28) (a:LN) (b:List S43) (h:Int) (c:Int) (j:Bool):Fx Ri72:=⟨Tryz.prog,cx,Tryz.f122,λr=>n29 r.1,1,λr=>(mkH [⟨[.str a,w44 b,.i r.2.1,.i c,.bool r.2.2],5,false⟩]),cxTi,cxOrd,λ_=>none,false⟩
def Pi72 (f:Ti72):Prop := ∀ a b c g h j,PNh (Xi72 a b c g h j) 122 [.ptr 0 5 0,n29 a] (mkH [⟨[.str b,w44 c,.i g,.i h,.bool j],5,false⟩]) (f a b c g h j)
def i72p1:Pt:=nav [0,0,0] (nav [0] (bodyAt Tryz.f122))
def i72p2:Pt:=nav [0,0,0] i72p1
def i72 (k:Nat) (c:S28) (g:LN) (h:List S43) (m:Int) (j:Int) (l:Bool):Option Ri72 :=
 (i32 k g h m j l).bind λa=>(i66 k (8:Int) ([101,110,100]:LN) g h a.2 j l).bind λb=>some ((⟨c.f0,c.f1,c.f2,c.f3,c.f4,c.f5,a.1⟩:S28),b.2.1,b.2.2)
theorem i72_all (k:Nat):∀ a g j n l m r,i72 k a g j n l m=some r→CallT Tryz.prog 122 [.ptr 0 5 0,.agg [.i a.f0,.str a.f1,q29 a.f2,.bool a.f3,.bool a.f4,w9 a.f5,w9 a.f6]] (mkH [⟨[.str g,w44 j,.i n,.i l,.bool m],5,false⟩]) ((Xi72 a g j n l m).thr r) ((Xi72 a g j n l m).enc r) ((Xi72 a g j n l m).fin r):=by
 intro a g j n l m r h
 refine qA0 (Xi72 a g j n l m) Tryz.func122 Kr Kr rfl (t:=i72 k a g j n l m) ?_ h
 unfold i72
 refine qA1 (eE:=[(0,.ptr 0 5 0),(1,.agg [.i a.f0,.str a.f1,q29 a.f2,.bool a.f3,.bool a.f4,w9 a.f5,w9 a.f6])]) Kr ?_
 let z:Env:=[(5,.ptr 0 5 0),(4,.ptr 2 7 0),(3,.ptr 1 7 0),(0,.ptr 0 5 0),(1,n29 a)]
 let o:Blk:=⟨[.i 0,.str [],.nils,.bool false,.bool false,.nils,.nils],0,false⟩
 refine oH 8 (atN 1 (ctl1 i72p1)) z (mkH [⟨[.str g,w44 j,.i n,.i l,.bool m],5,false⟩,⟨e29 a,0,false⟩,o]) ?_
 refine oN (λ(b:Ri32)=>w9 b.1) (λb=>[⟨[.str g,w44 j,.i b.2,.i l,.bool m],5,false⟩,⟨e29 a,0,false⟩,o]) (atN 2 (ctl1 i72p1)) 6 [0] [] [] [.ptr 0 5 0] (qBp k g j n l m) trivial (λ_=>trivial) λb u=>?_
 let q:Blk:=⟨[.i a.f0,.str a.f1,q29 a.f2,.bool a.f3,.bool a.f4,w9 a.f5,w9 b.1],7,false⟩
 refine oH 6 (atN 1 (ctl1 i72p2)) ((8,.ptr 0 5 0)::(7,.ptr 1 7 6)::(6,w9 b.1)::z) (mkH [⟨[.str g,w44 j,.i b.2,.i l,.bool m],5,false⟩,q,o]) ?_
 refine oN (λ(c:Ri66) => .i c.1) (λc=>[⟨[.str g,w44 j,.i c.2.1,.i l,.bool c.2.2],5,false⟩,q,o]) (atN 2 (ctl1 i72p2)) 9 [0] [] [] [.ptr 0 5 0,.i 8,.str [101,110,100]] (qBy k (8:Int) ([101,110,100]:LN) g j b.2 l m) trivial (λ_=>trivial) λc x=>?_
 refine oL 2 (nav [0,0,0] i72p2) [(3,.ptr 1 7 0),(4,.ptr 2 7 0)] ?_
 exact oQF 5 [⟨[.str g,w44 j,.i c.2.1,.i l,.bool c.2.2],5,false⟩,q,q] 1 [] [.agg [.i a.f0,.str a.f1,q29 a.f2,.bool a.f3,.bool a.f4,w9 a.f5,w9 b.1]] (.agg [.i a.f0,.str a.f1,q29 a.f2,.bool a.f3,.bool a.f4,w9 a.f5,w9 b.1]) .ps trivial
theorem qDa (k:Nat):Pi72 (i72 k):=λa b c g j l=>λx h=>i72_all k a b c g j l x h
abbrev Ti76:Type:=Int→LN→(List S43)→Int→Int→Bool→Option Bool
def Xi76 (j:Int) (a:LN) (b:List S43) (c:Int) (g:Int) (h:Bool):Fx Bool:=⟨Tryz.prog,cx,Tryz.f130,λr => .bool r,1,λr=>(mkH [⟨[.str a,w44 b,.i c,.i g,.bool h],5,false⟩]),cxTi,cxOrd,λ_=>none,false⟩
def Pi76 (f:Ti76):Prop := ∀ a b c g h j,PNh (Xi76 a b c g h j) 130 [.ptr 0 5 0,.i a] (mkH [⟨[.str b,w44 c,.i g,.i h,.bool j],5,false⟩]) (f a b c g h j)
def i76p1:Pt:=nav [0,0,0] (nav [0] (bodyAt Tryz.f130))
def i76d0:DP:=⟨[],[(0,0,0),(1,0,0),(3,0,0),(7,0,0),(15,0,0),(31,0,0),(63,0,0),(127,0,0),(255,0,0),(511,0,0),(63,0,0),(1087,0,0),(3135,0,0),(7231,0,0),(63,0,0),(16447,0,0),(65535,0,0),(131071,0,0),(262143,0,0),(524287,0,0)],20,thrown,[],H0⟩
def i76 (k:Nat) (b:Int) (c:LN) (g:List S43) (j:Int) (l:Int) (h:Bool):Option Bool :=
 if (!h) then ((g66 k c g (fW .i64 (b+1))).bind λa=>some (decide (0 < a))) else (some false)
theorem i76_all (k:Nat):∀ b g j m n c r,i76 k b g j m n c=some r→CallT Tryz.prog 130 [.ptr 0 5 0,.i b] (mkH [⟨[.str g,w44 j,.i m,.i n,.bool c],5,false⟩]) ((Xi76 b g j m n c).thr r) ((Xi76 b g j m n c).enc r) ((Xi76 b g j m n c).fin r):=by
 intro b g j m n c r h
 refine qA0 (Xi76 b g j m n c) Tryz.func130 Kr Kr rfl (t:=i76 k b g j m n c) ?_ h
 unfold i76
 refine qA1 (eE:=[(0,.ptr 0 5 0),(1,.i b)]) Kr ?_
 let l:Blk:=⟨[.str g,w44 j,.i m,.i n,.bool c],5,false⟩
 refine oH 5 i76p1 [(4,.bool false),(0,.ptr 0 5 0),(1,.i b)] (mkH [l]) ?_
 refine qDf (λq=>?_) (λq=>?_)
 ·refine qA7 (λa o=>?_)
  let x:Env:=[(10,.bool (!c)),(9,.bool (!c)),(8,.bool c),(7,.ptr 0 5 4),(6,.ptr 0 5 0),(5,.ptr 0 5 0),(4,.bool false),(0,.ptr 0 5 0),(1,.i b)]
  let u:Env:=[(20,.i (fW .i64 (b+1))),(19,.i b),(18,w44 j),(17,.ptr 0 5 1),(16,.ptr 0 5 0),(15,.ptr 0 5 0),(14,.str g),(13,.ptr 0 5 0),(12,.ptr 0 5 0),(11,.ptr 0 5 0),(10,.bool true),(9,.bool true),(8,.bool c),(7,.ptr 0 5 4),(6,.ptr 0 5 0),(5,.ptr 0 5 0),(4,.bool false),(0,.ptr 0 5 0),(1,.i b)]
  refine oD (H':=(mkH [l])) (nav [0] i76p1) ((4,.bool (decide (0 < a)))::(23,.bool (decide (0 < a)))::(22,.bool (decide (0 < a)))::(21,.i a)::u) [(mkH [l])] i76d0 (oDr 6 6 x (oDe (λz=>[(10,.bool z),(9,.bool z),(8,.bool c),(7,.ptr 0 5 4),(6,.ptr 0 5 0),(5,.ptr 0 5 0),(4,.bool false),(0,.ptr 0 5 0),(1,.i b)]) q (oDr 10 16 u (qAq (l':=(opsAt i76p1).toList.drop 17) (eE:=((21,.i a)::u)) (hs:=[(mkH [l])]) (fi:=66) (args:=[.str g,w44 j,.i (fW .i64 (b+1))]) (v := .i a) Kr Kr Kr (g66_ok k g j (fW .i64 (b+1)) a o) Kr (oDr 3 20 ((4,.bool (decide (0 < a)))::(23,.bool (decide (0 < a)))::(22,.bool (decide (0 < a)))::(21,.i a)::u) .nil))))) ?_
  exact oQF 1 [l] 1 [] [.bool (decide (0 < a))] (.bool (decide (0 < a))) .ps trivial
 ·let x:Env:=[(10,.bool (!c)),(9,.bool (!c)),(8,.bool c),(7,.ptr 0 5 4),(6,.ptr 0 5 0),(5,.ptr 0 5 0),(4,.bool false),(0,.ptr 0 5 0),(1,.i b)]
  let A:Env:=[(4,.bool false),(23,.bool false),(22,.tuple []),(21,.tuple []),(20,.tuple []),(19,.tuple []),(18,.tuple []),(17,.tuple []),(16,.tuple []),(15,.tuple []),(14,.tuple []),(13,.tuple []),(12,.tuple []),(11,.tuple []),(10,.bool false),(9,.bool false),(8,.bool c),(7,.ptr 0 5 4),(6,.ptr 0 5 0),(5,.ptr 0 5 0),(4,.bool false),(0,.ptr 0 5 0),(1,.i b)]
  refine oD (H':=(mkH [l])) (nav [0] i76p1) A [(mkH [l])] i76d0 (oDr 6 6 x (oDe (λz=>[(10,.bool z),(9,.bool z),(8,.bool c),(7,.ptr 0 5 4),(6,.ptr 0 5 0),(5,.ptr 0 5 0),(4,.bool false),(0,.ptr 0 5 0),(1,.i b)]) q (oDh 14 20 A (mkH [l]) [(mkH [l])] .nil))) ?_
  exact oQF 1 [l] 1 [] [.bool false] (.bool false) .ps trivial
theorem qM9 (k:Nat):Pi76 (i76 k):=λa b c g j l=>λx h=>i76_all k a b c g j l x h
abbrev Ri20:Type:=(S28×Int×Bool)
abbrev Ti20:Type:=Int→LN→(List S43)→Int→Int→Bool→Option Ri20
def Xi20 (g:Int) (a:LN) (b:List S43) (h:Int) (c:Int) (j:Bool):Fx Ri20:=⟨Tryz.prog,cx,Tryz.f24,λr=>n29 r.1,1,λr=>(mkH [⟨[.str a,w44 b,.i r.2.1,.i c,.bool r.2.2],5,false⟩]),cxTi,cxOrd,λ_=>none,false⟩
def Pi20 (f:Ti20):Prop := ∀ a b c g h j,PNh (Xi20 a b c g h j) 24 [.ptr 0 5 0,.i a] (mkH [⟨[.str b,w44 c,.i g,.i h,.bool j],5,false⟩]) (f a b c g h j)
abbrev Ri21:Type:=(S28×Int×Bool)
abbrev Ti21:Type:=LN→(List S43)→Int→Int→Bool→Option Ri21
def Xi21 (a:LN) (b:List S43) (g:Int) (c:Int) (h:Bool):Fx Ri21:=⟨Tryz.prog,cx,Tryz.f30,λr=>n29 r.1,1,λr=>(mkH [⟨[.str a,w44 b,.i r.2.1,.i c,.bool r.2.2],5,false⟩]),cxTi,cxOrd,λ_=>none,false⟩
def Pi21 (f:Ti21):Prop := ∀ a b c g h,PNh (Xi21 a b c g h) 30 [.ptr 0 5 0] (mkH [⟨[.str a,w44 b,.i c,.i g,.bool h],5,false⟩]) (f a b c g h)
abbrev Ri22:Type:=((List S28)×Int×Bool)
abbrev Ti22:Type:=LN→(List S43)→Int→Int→Bool→Option Ri22
def Xi22 (a:LN) (b:List S43) (g:Int) (c:Int) (h:Bool):Fx Ri22:=⟨Tryz.prog,cx,Tryz.f35,λr=>w29 r.1,1,λr=>(mkH [⟨[.str a,w44 b,.i r.2.1,.i c,.bool r.2.2],5,false⟩]),cxTi,cxOrd,λ_=>none,false⟩
def Pi22 (f:Ti22):Prop := ∀ a b c g h,PNh (Xi22 a b c g h) 35 [.ptr 0 5 0] (mkH [⟨[.str a,w44 b,.i c,.i g,.bool h],5,false⟩]) (f a b c g h)
abbrev Ri30:Type:=(S28×Int×Int×Bool)
abbrev Ti30:Type:=LN→(List S43)→Int→Int→Bool→Option Ri30
def Xi30 (a:LN) (b:List S43) (g:Int) (c:Int) (h:Bool):Fx Ri30:=⟨Tryz.prog,cx,Tryz.f57,λr => .tuple [n29 r.1,.i r.2.1],1,λr=>(mkH [⟨[.str a,w44 b,.i r.2.2.1,.i c,.bool r.2.2.2],5,false⟩]),cxTi,cxOrd,λ_=>none,false⟩
def Pi30 (f:Ti30):Prop := ∀ a b c g h,PNh (Xi30 a b c g h) 57 [.ptr 0 5 0] (mkH [⟨[.str a,w44 b,.i c,.i g,.bool h],5,false⟩]) (f a b c g h)
abbrev Ri34:Type:=(Int×LN×Bool×Bool×LL×LL×Bool×Int×(List S28))
abbrev Ti34:Type:=Int→LN→Bool→Bool→LL→LL→LN→(List S43)→Int→Int→Bool→(List S28)→Option Ri34
def Xi34 (h:Int) (j:LN) (k:Bool) (l:Bool) (m:LL) (n:LL) (a:LN) (b:List S43) (o:Int) (c:Int) (g:Bool) (q:List S28):Fx Ri34:=⟨Tryz.prog,cx,Tryz.f71,λr => .agg [.i r.1,.str r.2.1,.own 1 (r.2.2.2.2.2.2.2.2).length 7,.bool r.2.2.1,.bool r.2.2.2.1,w9 r.2.2.2.2.1,w9 r.2.2.2.2.2.1],2,λr=>(mkH [⟨[.str a,w44 b,.i r.2.2.2.2.2.2.2.1,.i c,.bool r.2.2.2.2.2.2.1],5,false⟩,⟨(r.2.2.2.2.2.2.2.2).flatMap e29,0,false⟩]),cxTi,cxOrd,λ_=>none,false⟩
def Pi34 (f:Ti34):Prop := ∀ c g h j k l m n o q a b,PNh (Xi34 c g h j k l m n o q a b) 71 [.ptr 0 5 0,.agg [.i c,.str g,.own 1 (b).length 7,.bool h,.bool j,w9 k,w9 l]] (mkH [⟨[.str m,w44 n,.i o,.i q,.bool a],5,false⟩,⟨(b).flatMap e29,0,false⟩]) (f c g h j k l m n o q a b)
abbrev Ri49:Type:=(S28×Int×Bool)
abbrev Ti49:Type:=LN→(List S43)→Int→Int→Bool→Option Ri49
def Xi49 (a:LN) (b:List S43) (g:Int) (c:Int) (h:Bool):Fx Ri49:=⟨Tryz.prog,cx,Tryz.f87,λr=>n29 r.1,1,λr=>(mkH [⟨[.str a,w44 b,.i r.2.1,.i c,.bool r.2.2],5,false⟩]),cxTi,cxOrd,λ_=>none,false⟩
def Pi49 (f:Ti49):Prop := ∀ a b c g h,PNh (Xi49 a b c g h) 87 [.ptr 0 5 0] (mkH [⟨[.str a,w44 b,.i c,.i g,.bool h],5,false⟩]) (f a b c g h)
abbrev Ri50:Type:=(S28×Int×Bool)
abbrev Ti50:Type:=S28→Bool→LN→(List S43)→Int→Int→Bool→Option Ri50
def Xi50 (g:S28) (h:Bool) (a:LN) (b:List S43) (j:Int) (c:Int) (k:Bool):Fx Ri50:=⟨Tryz.prog,cx,Tryz.f86,λr=>n29 r.1,1,λr=>(mkH [⟨[.str a,w44 b,.i r.2.1,.i c,.bool r.2.2],5,false⟩]),cxTi,cxOrd,λ_=>none,false⟩
def Pi50 (f:Ti50):Prop := ∀ a b c g h j k,PNh (Xi50 a b c g h j k) 86 [.ptr 0 5 0,n29 a,.bool b] (mkH [⟨[.str c,w44 g,.i h,.i j,.bool k],5,false⟩]) (f a b c g h j k)
abbrev Ri52:Type:=(S28×Int×Bool)
abbrev Ti52:Type:=LN→(List S43)→Int→Int→Bool→Option Ri52
def Xi52 (a:LN) (b:List S43) (g:Int) (c:Int) (h:Bool):Fx Ri52:=⟨Tryz.prog,cx,Tryz.f95,λr=>n29 r.1,1,λr=>(mkH [⟨[.str a,w44 b,.i r.2.1,.i c,.bool r.2.2],5,false⟩]),cxTi,cxOrd,λ_=>none,false⟩
def Pi52 (f:Ti52):Prop := ∀ a b c g h,PNh (Xi52 a b c g h) 95 [.ptr 0 5 0] (mkH [⟨[.str a,w44 b,.i c,.i g,.bool h],5,false⟩]) (f a b c g h)
abbrev Ri53:Type:=(Int×LN×Bool×Bool×LL×LL×Bool×Int×(List S28))
abbrev Ti53:Type:=Int→LN→Bool→Bool→LL→LL→S28→LN→(List S43)→Int→Int→Bool→(List S28)→Option Ri53
def Xi53 (h:Int) (j:LN) (k:Bool) (l:Bool) (m:LL) (n:LL) (o:S28) (b:LN) (c:List S43) (q:Int) (a:Int) (g:Bool) (u:List S28):Fx Ri53:=⟨Tryz.prog,cx,Tryz.f96,λr => .agg [.i r.1,.str r.2.1,.own 1 (r.2.2.2.2.2.2.2.2).length 7,.bool r.2.2.1,.bool r.2.2.2.1,w9 r.2.2.2.2.1,w9 r.2.2.2.2.2.1],2,λr=>(mkH [⟨[.str b,w44 c,.i r.2.2.2.2.2.2.2.1,.i a,.bool r.2.2.2.2.2.2.1],5,false⟩,⟨(r.2.2.2.2.2.2.2.2).flatMap e29,0,false⟩]),cxTi,cxOrd,λ_=>none,false⟩
def Pi53 (f:Ti53):Prop := ∀ g h j k l m n o q r a b c,PNh (Xi53 g h j k l m n o q r a b c) 96 [.ptr 0 5 0,.agg [.i g,.str h,.own 1 (c).length 7,.bool j,.bool k,w9 l,w9 m],n29 n] (mkH [⟨[.str o,w44 q,.i r,.i a,.bool b],5,false⟩,⟨(c).flatMap e29,0,false⟩]) (f g h j k l m n o q r a b c)
abbrev Ri67:Type:=(Int×LN×Bool×Bool×LL×LL×Int×Bool×(List S28))
abbrev Ti67:Type:=Int→LN→Bool→Bool→LL→LL→LN→LN→Int→LN→(List S43)→Int→Int→Bool→(List S28)→Option Ri67
def Xi67 (j:Int) (k:LN) (l:Bool) (m:Bool) (n:LL) (o:LL) (q:LN) (u:LN) (x:Int) (c:LN) (a:List S43) (g:Int) (b:Int) (h:Bool) (z:List S28):Fx Ri67:=⟨Tryz.prog,cx,Tryz.f113,λr => .agg [.i r.1,.str r.2.1,.own 1 (r.2.2.2.2.2.2.2.2).length 7,.bool r.2.2.1,.bool r.2.2.2.1,w9 r.2.2.2.2.1,w9 r.2.2.2.2.2.1],2,λr=>(mkH [⟨[.str c,w44 a,.i r.2.2.2.2.2.2.1,.i b,.bool r.2.2.2.2.2.2.2.1],5,false⟩,⟨(r.2.2.2.2.2.2.2.2).flatMap e29,0,false⟩]),cxTi,cxOrd,λ_=>none,false⟩
def Pi67 (f:Ti67):Prop := ∀ j k l m n o q r u x a b c g h,PNh (Xi67 j k l m n o q r u x a b c g h) 113 [.ptr 0 5 0,.agg [.i j,.str k,.own 1 (h).length 7,.bool l,.bool m,w9 n,w9 o],.str q,.str r,.i u] (mkH [⟨[.str x,w44 a,.i b,.i c,.bool g],5,false⟩,⟨(h).flatMap e29,0,false⟩]) (f j k l m n o q r u x a b c g h)
abbrev Ri68:Type:=(S28×Int×Bool)
abbrev Ti68:Type:=LN→(List S43)→Int→Int→Bool→Option Ri68
def Xi68 (a:LN) (b:List S43) (g:Int) (c:Int) (h:Bool):Fx Ri68:=⟨Tryz.prog,cx,Tryz.f119,λr=>n29 r.1,1,λr=>(mkH [⟨[.str a,w44 b,.i r.2.1,.i c,.bool r.2.2],5,false⟩]),cxTi,cxOrd,λ_=>none,false⟩
def Pi68 (f:Ti68):Prop := ∀ a b c g h,PNh (Xi68 a b c g h) 119 [.ptr 0 5 0] (mkH [⟨[.str a,w44 b,.i c,.i g,.bool h],5,false⟩]) (f a b c g h)
abbrev Ri69:Type:=(S28×Int×Bool)
abbrev Ti69:Type:=LN→(List S43)→Int→Int→Bool→Option Ri69
def Xi69 (a:LN) (b:List S43) (g:Int) (c:Int) (h:Bool):Fx Ri69:=⟨Tryz.prog,cx,Tryz.f120,λr=>n29 r.1,1,λr=>(mkH [⟨[.str a,w44 b,.i r.2.1,.i c,.bool r.2.2],5,false⟩]),cxTi,cxOrd,λ_=>none,false⟩
def Pi69 (f:Ti69):Prop := ∀ a b c g h,PNh (Xi69 a b c g h) 120 [.ptr 0 5 0] (mkH [⟨[.str a,w44 b,.i c,.i g,.bool h],5,false⟩]) (f a b c g h)
abbrev Ri70:Type:=(S28×Int×Bool)
abbrev Ti70:Type:=LN→(List S43)→Int→Int→Bool→Option Ri70
def Xi70 (a:LN) (b:List S43) (g:Int) (c:Int) (h:Bool):Fx Ri70:=⟨Tryz.prog,cx,Tryz.f117,λr=>n29 r.1,1,λr=>(mkH [⟨[.str a,w44 b,.i r.2.1,.i c,.bool r.2.2],5,false⟩]),cxTi,cxOrd,λ_=>none,false⟩
def Pi70 (f:Ti70):Prop := ∀ a b c g h,PNh (Xi70 a b c g h) 117 [.ptr 0 5 0,.nils] (mkH [⟨[.str a,w44 b,.i c,.i g,.bool h],5,false⟩]) (f a b c g h)
abbrev Ri71:Type:=(S28×Int×Bool)
abbrev Ti71:Type:=LN→(List S43)→Int→Int→Bool→Option Ri71
def Xi71 (a:LN) (b:List S43) (g:Int) (c:Int) (h:Bool):Fx Ri71:=⟨Tryz.prog,cx,Tryz.f121,λr=>n29 r.1,1,λr=>(mkH [⟨[.str a,w44 b,.i r.2.1,.i c,.bool r.2.2],5,false⟩]),cxTi,cxOrd,λ_=>none,false⟩
def Pi71 (f:Ti71):Prop := ∀ a b c g h,PNh (Xi71 a b c g h) 121 [.ptr 0 5 0] (mkH [⟨[.str a,w44 b,.i c,.i g,.bool h],5,false⟩]) (f a b c g h)
abbrev Ri73:Type:=((List S28)×Int×Bool)
abbrev Ti73:Type:=LN→(List S43)→Int→Int→Bool→Option Ri73
def Xi73 (a:LN) (b:List S43) (g:Int) (c:Int) (h:Bool):Fx Ri73:=⟨Tryz.prog,cx,Tryz.f123,λr=>w29 r.1,1,λr=>(mkH [⟨[.str a,w44 b,.i r.2.1,.i c,.bool r.2.2],5,false⟩]),cxTi,cxOrd,λ_=>none,false⟩
def Pi73 (f:Ti73):Prop := ∀ a b c g h,PNh (Xi73 a b c g h) 123 [.ptr 0 5 0] (mkH [⟨[.str a,w44 b,.i c,.i g,.bool h],5,false⟩]) (f a b c g h)
abbrev Ri74:Type:=(S28×Int×Bool)
abbrev Ti74:Type:=LN→(List S43)→Int→Int→Bool→Option Ri74
def Xi74 (a:LN) (b:List S43) (g:Int) (c:Int) (h:Bool):Fx Ri74:=⟨Tryz.prog,cx,Tryz.f124,λr=>n29 r.1,1,λr=>(mkH [⟨[.str a,w44 b,.i r.2.1,.i c,.bool r.2.2],5,false⟩]),cxTi,cxOrd,λ_=>none,false⟩
def Pi74 (f:Ti74):Prop := ∀ a b c g h,PNh (Xi74 a b c g h) 124 [.ptr 0 5 0] (mkH [⟨[.str a,w44 b,.i c,.i g,.bool h],5,false⟩]) (f a b c g h)
abbrev Ri75:Type:=(Int×LN×Bool×Bool×LL×LL×(List S28)×Int×Bool)
abbrev Ti75:Type:=LN→(List S43)→Int→Int→Bool→S28→Option Ri75
def Xi75 (a:LN) (b:List S43) (g:Int) (c:Int) (h:Bool) (j:S28):Fx Ri75:=⟨Tryz.prog,cx,Tryz.f117,λr => .agg [.i r.1,.str r.2.1,.own 1 (r.2.2.2.2.2.2.1).length 7,.bool r.2.2.1,.bool r.2.2.2.1,w9 r.2.2.2.2.1,w9 r.2.2.2.2.2.1],2,λr=>(mkH [⟨[.str a,w44 b,.i r.2.2.2.2.2.2.2.1,.i c,.bool r.2.2.2.2.2.2.2.2],5,false⟩,⟨(r.2.2.2.2.2.2.1).flatMap e29,0,false⟩]),cxTi,cxOrd,λ_=>none,false⟩
def Pi75 (f:Ti75):Prop := ∀ b c g h j a,PNh (Xi75 b c g h j a) 117 [.ptr 0 5 0,.own 1 (([a]:List S28)).length 7] (mkH [⟨[.str b,w44 c,.i g,.i h,.bool j],5,false⟩,⟨(([a]:List S28)).flatMap e29,0,false⟩]) (f b c g h j a)
abbrev Ri81:Type:=(S28×Int×Bool)
abbrev Ti81:Type:=Int→Int→LN→(List S43)→Int→Int→Bool→Option Ri81
def Xi81 (g:Int) (h:Int) (a:LN) (b:List S43) (j:Int) (c:Int) (k:Bool):Fx Ri81:=⟨Tryz.prog,cx,Tryz.f140,λr=>n29 r.1,1,λr=>(mkH [⟨[.str a,w44 b,.i r.2.1,.i c,.bool r.2.2],5,false⟩]),cxTi,cxOrd,λ_=>none,false⟩
def Pi81 (f:Ti81):Prop := ∀ a b c g h j k,PNh (Xi81 a b c g h j k) 140 [.ptr 0 5 0,.i a,.i b] (mkH [⟨[.str c,w44 g,.i h,.i j,.bool k],5,false⟩]) (f a b c g h j k)
abbrev Ri82:Type:=(S28×Int×Bool)
abbrev Ti82:Type:=S28→Bool→LN→(List S43)→Int→Int→Bool→Option Ri82
def Xi82 (g:S28) (h:Bool) (a:LN) (b:List S43) (j:Int) (c:Int) (k:Bool):Fx Ri82:=⟨Tryz.prog,cx,Tryz.f141,λr=>n29 r.1,1,λr=>(mkH [⟨[.str a,w44 b,.i r.2.1,.i c,.bool r.2.2],5,false⟩]),cxTi,cxOrd,λ_=>none,false⟩
def Pi82 (f:Ti82):Prop := ∀ a b c g h j k,PNh (Xi82 a b c g h j k) 141 [.ptr 0 5 0,n29 a,.bool b] (mkH [⟨[.str c,w44 g,.i h,.i j,.bool k],5,false⟩]) (f a b c g h j k)
abbrev Ri83:Type:=(S28×Int×Bool)
abbrev Ti83:Type:=LN→LN→(List S43)→Int→Int→Bool→Option Ri83
def Xi83 (g:LN) (a:LN) (b:List S43) (h:Int) (c:Int) (j:Bool):Fx Ri83:=⟨Tryz.prog,cx,Tryz.f143,λr=>n29 r.1,1,λr=>(mkH [⟨[.str a,w44 b,.i r.2.1,.i c,.bool r.2.2],5,false⟩]),cxTi,cxOrd,λ_=>none,false⟩
def Pi83 (f:Ti83):Prop := ∀ a b c g h j,PNh (Xi83 a b c g h j) 143 [.ptr 0 5 0,.str a] (mkH [⟨[.str b,w44 c,.i g,.i h,.bool j],5,false⟩]) (f a b c g h j)
abbrev Ri84:Type:=(Int×Bool×(List S28))
abbrev Ti84:Type:=LN→(List S43)→Int→Int→Bool→Option Ri84
def Xi84 (a:LN) (b:List S43) (g:Int) (c:Int) (h:Bool):Fx Ri84:=⟨Tryz.prog,cx,Tryz.f35,λr => .own 1 (r.2.2).length 7,1,λr=>(mkH [⟨[.str a,w44 b,.i r.1,.i c,.bool r.2.1],5,false⟩,⟨(r.2.2).flatMap e29,0,false⟩]),cxTi,cxOrd,λ_=>none,false⟩
def Pi84 (f:Ti84):Prop := ∀ a b c g h,PNh (Xi84 a b c g h) 35 [.ptr 0 5 0] (mkH [⟨[.str a,w44 b,.i c,.i g,.bool h],5,false⟩]) (f a b c g h)
abbrev Ri87:Type:=(S28×Int×Bool)
abbrev Ti87:Type:=LN→(List S43)→Int→Int→Bool→Option Ri87
def Xi87 (a:LN) (b:List S43) (g:Int) (c:Int) (h:Bool):Fx Ri87:=⟨Tryz.prog,cx,Tryz.f147,λr=>n29 r.1,1,λr=>(mkH [⟨[.str a,w44 b,.i r.2.1,.i c,.bool r.2.2],5,false⟩]),cxTi,cxOrd,λ_=>none,false⟩
def Pi87 (f:Ti87):Prop := ∀ a b c g h,PNh (Xi87 a b c g h) 147 [.ptr 0 5 0] (mkH [⟨[.str a,w44 b,.i c,.i g,.bool h],5,false⟩]) (f a b c g h)
structure Fns1 where
 i20:Ti20
 i21:Ti21
 i22:Ti22
 i30:Ti30
 i34:Ti34
 i49:Ti49
 i50:Ti50
 i52:Ti52
 i53:Ti53
 i67:Ti67
 i68:Ti68
 i69:Ti69
 i70:Ti70
 i71:Ti71
 i73:Ti73
 i74:Ti74
 i75:Ti75
 i81:Ti81
 i82:Ti82
 i83:Ti83
 i84:Ti84
 i87:Ti87
end
end Go.Proofs.YthpplbkobokghaaGreat.Am
