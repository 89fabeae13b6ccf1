/- LawShapeClauses, part 5: whatever the input, the law comes out true: our texts, joined by a tool, without what the claim does not name. -/
import Derived.Test.YtjmmjhojbodbdaaPkShapeClauses4
set_option maxRecDepth 100000
set_option linter.unusedVariables false
set_option linter.unusedSimpArgs false
set_option maxRecDepth 100000
set_option linter.unusedVariables false
namespace Go.Proofs.Ytjmmjhojbodbdaa.Am
noncomputable section
open Go
def i44B (k:Nat) (F:Fns0) (n:Int) (o:LN) (q:Bool) (r:Bool) (u:LL) (B:LL) (j:LN) (l:List S38) (x:Int) (m:Int) (A:List S31):Option (Option Ri44) :=
 (i12 k j l x m).bind λa=>bT (F.i50 a.1 j l a.2 m) λb=>(appS 104 A b.1).bind λg=>(i12 k j l b.2 m).bind λc=>bT (i14 k ([101,110,100]:LN) j l c.2 m) λh=>some (some (n,o,q,r,u,c.1,h,g))
theorem qL5 (k:Nat) (F:Fns0) (hF:FnsOk0 F):∀ n o q u A G B C S E J r,i44B k F n o q u A G B C S E J=some r→CallT Try.prog 101 [.ptr 0 4 0,.agg [.i n,.str o,.own 1 (J).length 7,.bool q,.bool u,w9 A,w9 G],.func 102 [.ptr 0 4 0] []] (mkH [⟨[.str B,w39 C,.i S,.i E],4,false⟩,⟨(J).flatMap e32,0,false⟩]) ((Xi44 n o q u A G B C S E J).thr r) ((Xi44 n o q u A G B C S E J).enc r) ((Xi44 n o q u A G B C S E J).fin r):=by
 intro n o q u A G B C S E J r h
 refine qA1 (Xi44 n o q u A G B C S E J) Try.func101 Kr Kr rfl (t:=i44B k F n o q u A G B C S E J) ?_ h
 unfold i44B
 refine qA (eE:=[(0,.ptr 0 4 0),(1,.agg [.i n,.str o,.own 1 (J).length 7,.bool q,.bool u,w9 A,w9 G]),(2,.func 102 [.ptr 0 4 0] [])]) Kr ?_
 let Q1:Blk:=⟨[.str B,w39 C,.i S,.i E],4,false⟩
 let m:Blk:=⟨(J).flatMap e32,0,false⟩
 let l:Blk:=⟨[.i n,.str o,.own 1 (J).length 7,.bool q,.bool u,w9 A,w9 G],0,false⟩
 let c:Blk:=⟨[.i 0,.str [],.nils,.bool false,.bool false,.nils,.nils],0,false⟩
 refine oH 6 i44p1 [(6,.ptr 3 7 0),(4,.ptr 2 7 0),(0,.ptr 0 4 0),(1,.agg [.i n,.str o,.own 1 (J).length 7,.bool q,.bool u,w9 A,w9 G]),(2,.func 102 [.ptr 0 4 0] [])] (mkH [Q1,m,l,c]) ?_
 refine qA7 (λa T=>?_)
 refine qCe (λh=>?_) (λj V=>?_)
 ·let N:Env:=[(10,.ptr 0 4 0),(9,.ptr 0 4 0),(8,.own 1 (J).length 7),(7,.ptr 2 7 2),(6,.ptr 3 7 0),(4,.ptr 2 7 0),(0,.ptr 0 4 0),(1,.agg [.i n,.str o,.own 1 (J).length 7,.bool q,.bool u,w9 A,w9 G]),(2,.func 102 [.ptr 0 4 0] [])]
  let E3:Env:=((15,.top)::(14,.top)::(13,.top)::(12,.func 102 [.ptr 0 4 0] [])::(11,w9 a.1)::N)
  let O:Blk:=⟨[.str B,w39 C,.i a.2,.i E],4,false⟩
  exact qAm (eE:=E3) (i44d0.th 6 thrown [0,2] (mkH [O,m,l,c])) (hs:=[(mkH [O,m,l,c]),(mkH [O,m,l,c]),(mkH [O,m,l,c]),(mkH [O,m,l,c])]) (LX:=[Q1,m]) (L:=[O,m,l,c]) rfl rfl rfl Kr rfl ⟨.inl rfl,⟨.inl rfl,trivial⟩⟩ Kr Kr Kr Kr (qA8 4 (l':=(opsAt i44p1).toList.drop 4) (eE:=N) (H':=(mkH [Q1,m,l,c])) (hs:=[]) Kr (qA5 (l':=(opsAt i44p1).toList.drop 5) (eE:=((11,w9 a.1)::N)) (hs:=[(mkH [O,m,l,c])]) (H':=(mkH [O,m,l,c])) (fi:=62) (args:=[.ptr 0 4 0]) (v:=w9 a.1) Kr (frC (rs:=[0]) (ms:=[]) (ms':=[]) (qAp k B C S E a T) trivial trivial Kr) Kr (qA8 1 (l':=(opsAt i44p1).toList.drop 6) (eE:=((12,.func 102 [.ptr 0 4 0] [])::(11,w9 a.1)::N)) (H':=(mkH [O,m,l,c])) (hs:=[]) Kr (qAh (l':=(opsAt i44p1).toList.drop 7) (eE:=((13,.top)::(12,.func 102 [.ptr 0 4 0] [])::(11,w9 a.1)::N)) (hs:=[(mkH [O,m,l,c])]) (fi:=48) (args:=[.ptr 0 4 0,w9 a.1,.func 102 [.ptr 0 4 0] []]) Kr Kr (frS 0 (M:=[O,m,l,c]) (rs:=[0]) (ms:=[]) (mv:=[0,1]) (mm:=[0,1]) (D:=[0,2]) (xs':=[.ptr 0 4 0,w9 a.1,.func 102 [.ptr 0 4 0] []]) (.refl) ((hF.i50_ok a.1 B C a.2 E).2 h) trivial ⟨u32 _,trivial⟩ Kr) Kr (qA0 (l':=(opsAt i44p1).toList.drop 8) (eE:=((14,.top)::(13,.top)::(12,.func 102 [.ptr 0 4 0] [])::(11,w9 a.1)::N)) (hs:=[(mkH [O,m,l,c])]) Kr Kr (qA0 (l':=(opsAt i44p1).toList.drop 9) (eE:=E3) (hs:=[]) Kr Kr (qA0 (l':=(opsAt i44p1).toList.drop 10) (eE:=E3) (hs:=[(mkH [O,m,l,c])]) Kr Kr (.nil)))))))) Kr Kr
 ·refine qA7 (λb W=>?_)
  let N:Env:=[(10,.ptr 0 4 0),(9,.ptr 0 4 0),(8,.own 1 (J).length 7),(7,.ptr 2 7 2),(6,.ptr 3 7 0),(4,.ptr 2 7 0),(0,.ptr 0 4 0),(1,.agg [.i n,.str o,.own 1 (J).length 7,.bool q,.bool u,w9 A,w9 G]),(2,.func 102 [.ptr 0 4 0] [])]
  let E4:Env:=((15,.ptr 2 7 2)::(14,.own 1 (b).length 7)::(13,w32 j.1)::(12,.func 102 [.ptr 0 4 0] [])::(11,w9 a.1)::N)
  let U:Blk:=⟨[.str B,w39 C,.i j.2,.i E],4,false⟩
  let Q7:Blk:=⟨[.str B,w39 C,.i a.2,.i E],4,false⟩
  refine oD (H':=(mkH [U,⟨(b).flatMap e32,0,false⟩,⟨[.i n,.str o,.own 1 (b).length 7,.bool q,.bool u,w9 A,w9 G],7,false⟩,c])) (nav [0] i44p1) E4 [(mkH [Q7,m,l,c]),(mkH [U,m,l,c]),(mkH [U,⟨(b).flatMap e32,0,false⟩,l,c]),(mkH [U,⟨(b).flatMap e32,0,false⟩,⟨[.i n,.str o,.own 1 (b).length 7,.bool q,.bool u,w9 A,w9 G],7,false⟩,c])] i44d0 (oDr 4 4 N (qA5 (l':=(opsAt i44p1).toList.drop 5) (eE:=((11,w9 a.1)::N)) (hs:=[(mkH [Q7,m,l,c])]) (H':=(mkH [Q7,m,l,c])) (fi:=62) (args:=[.ptr 0 4 0]) (v:=w9 a.1) Kr (frC (rs:=[0]) (ms:=[]) (ms':=[]) (qAp k B C S E a T) trivial trivial Kr) Kr (oDr 1 6 ((12,.func 102 [.ptr 0 4 0] [])::(11,w9 a.1)::N) (qA5 (l':=(opsAt i44p1).toList.drop 7) (eE:=((13,w32 j.1)::(12,.func 102 [.ptr 0 4 0] [])::(11,w9 a.1)::N)) (hs:=[(mkH [U,m,l,c])]) (H':=(mkH [U,m,l,c])) (fi:=48) (args:=[.ptr 0 4 0,w9 a.1,.func 102 [.ptr 0 4 0] []]) (v:=w32 j.1) Kr (frC (rs:=[0]) (ms:=[]) (ms':=[]) ((hF.i50_ok a.1 B C a.2 E).1 j V) trivial trivial Kr) Kr (qAa (l':=(opsAt i44p1).toList.drop 8) (eE:=((14,.own 1 (b).length 7)::(13,w32 j.1)::(12,.func 102 [.ptr 0 4 0] [])::(11,w9 a.1)::N)) (hs:=[(mkH [U,⟨(b).flatMap e32,0,false⟩,l,c])]) (x:=b) (λ(b:List S31)=>(.own 1 (b).length 7,(mkH [U,⟨(b).flatMap e32,0,false⟩,l,c]))) (appHV (sz:=7) qA4 rfl qB0 [U,m,l,c] 1 104 J j.1 rfl rfl Kr) W Kr (oDh 2 10 E4 (mkH [U,⟨(b).flatMap e32,0,false⟩,⟨[.i n,.str o,.own 1 (b).length 7,.bool q,.bool u,w9 A,w9 G],7,false⟩,c]) [(mkH [U,⟨(b).flatMap e32,0,false⟩,⟨[.i n,.str o,.own 1 (b).length 7,.bool q,.bool u,w9 A,w9 G],7,false⟩,c])] .nil)))))) ?_
  refine oR 3 (atN 1 (ctl1 i44p2)) ((16,.ptr 0 4 0)::E4) ?_
  let Z:Blk:=⟨(b).flatMap e32,0,false⟩
  refine oN (λ(g:Ri12)=>w9 g.1) (λg=>[⟨[.str B,w39 C,.i g.2,.i E],4,false⟩,Z,⟨[.i n,.str o,.own 1 (b).length 7,.bool q,.bool u,w9 A,w9 G],7,false⟩,c]) (atN 2 (ctl1 i44p2)) 17 [0] [] [] [.ptr 0 4 0] (qAp k B C j.2 E) trivial (λ_=>trivial) λg b7=>?_
  let Y:Blk:=⟨[.i n,.str o,.own 1 (b).length 7,.bool q,.bool u,w9 A,w9 g.1],7,false⟩
  refine oLH 4 i44p3 [(0,.ptr 0 4 0),(4,.ptr 2 7 0),(6,.ptr 3 7 0)] (mkH [⟨[.str B,w39 C,.i g.2,.i E],4,false⟩,Z,Y,c]) ?_
  let E5:Env:=[(0,.ptr 0 4 0),(4,.ptr 2 7 0),(6,.ptr 3 7 0)]
  refine oR 2 (atN 1 (ctl1 i44p3)) ((19,.ptr 0 4 0)::E5) ?_
  refine oX (λ(K:Int) => .tuple []) (λK=>[⟨[.str B,w39 C,.i K,.i E],4,false⟩,Z,Y,c]) (atN 2 (ctl1 i44p3)) 20 [0] [] [] [0,2] [0,1] [.ptr 0 4 0,.str [101,110,100]] (qB2 k ([101,110,100]:LN) B C g.2 E) trivial (λ_=>trivial) ⟨u32 _,trivial⟩ λK b8=>?_
  let b2:Blk:=⟨[.str B,w39 C,.i K,.i E],4,false⟩
  refine oH 7 .fin ((21,.agg [.i n,.str o,.own 1 (b).length 7,.bool q,.bool u,w9 A,w9 g.1])::(20,.tuple [])::(19,.ptr 0 4 0)::E5) (mkH [b2,Z,Y,Y]) ?_
  exact qC1 (r:=some (n,o,q,u,A,g.1,K,b)) (xs:=[.agg [.i n,.str o,.own 1 (b).length 7,.bool q,.bool u,w9 A,w9 g.1]]) [b2,Z] [Y,Y] Kr Kr Kr Kr Kr ⟨Kr,⟨(qA3 _ (u32 _)),trivial⟩⟩ Kr Kr
theorem i44B_ok (k:Nat) (F:Fns0) (a:FnsOk0 F):Pi44 (i44B k F):=λb c g j l m n o q r u=>⟨λx h=>qL5 k F a b c g j l m n o q r u (some x) h,λh=>⟨_,qL5 k F a b c g j l m n o q r u none h⟩⟩
def i45p1:Pt:=nav [0,0,0] (nav [0] (bodyAt Try.f101))
def i45p2:Pt:=nav [0,0] i45p1
def i45p3:Pt:=nav [0,0,0] i45p2
def i45d0:DP:=⟨[],[(0,0,0),(1,0,2),(0,0,0),(0,0,0),(8,0,0),(0,0,0),(60,0,0),(127,0,0),(255,0,0),(511,0,0)],10,thrown,[],H0⟩
def i45B (k:Nat) (F:Fns0) (n:Int) (o:LN) (q:Bool) (r:Bool) (u:LL) (B:LL) (j:LN) (l:List S38) (x:Int) (m:Int) (A:List S31):Option (Option Ri45) :=
 (i12 k j l x m).bind λa=>bT (F.i51 a.1 j l a.2 m) λb=>(appS 104 A b.1).bind λg=>(i12 k j l b.2 m).bind λc=>bT (i14 k ([101,110,100]:LN) j l c.2 m) λh=>some (some (n,o,q,r,u,c.1,h,g))
theorem qL4 (k:Nat) (F:Fns0) (hF:FnsOk0 F):∀ n o q u A G B C S E J r,i45B k F n o q u A G B C S E J=some r→CallT Try.prog 101 [.ptr 0 4 0,.agg [.i n,.str o,.own 1 (J).length 7,.bool q,.bool u,w9 A,w9 G],.func 103 [.ptr 0 4 0] []] (mkH [⟨[.str B,w39 C,.i S,.i E],4,false⟩,⟨(J).flatMap e32,0,false⟩]) ((Xi45 n o q u A G B C S E J).thr r) ((Xi45 n o q u A G B C S E J).enc r) ((Xi45 n o q u A G B C S E J).fin r):=by
 intro n o q u A G B C S E J r h
 refine qA1 (Xi45 n o q u A G B C S E J) Try.func101 Kr Kr rfl (t:=i45B k F n o q u A G B C S E J) ?_ h
 unfold i45B
 refine qA (eE:=[(0,.ptr 0 4 0),(1,.agg [.i n,.str o,.own 1 (J).length 7,.bool q,.bool u,w9 A,w9 G]),(2,.func 103 [.ptr 0 4 0] [])]) Kr ?_
 let Q1:Blk:=⟨[.str B,w39 C,.i S,.i E],4,false⟩
 let m:Blk:=⟨(J).flatMap e32,0,false⟩
 let l:Blk:=⟨[.i n,.str o,.own 1 (J).length 7,.bool q,.bool u,w9 A,w9 G],0,false⟩
 let c:Blk:=⟨[.i 0,.str [],.nils,.bool false,.bool false,.nils,.nils],0,false⟩
 refine oH 6 i45p1 [(6,.ptr 3 7 0),(4,.ptr 2 7 0),(0,.ptr 0 4 0),(1,.agg [.i n,.str o,.own 1 (J).length 7,.bool q,.bool u,w9 A,w9 G]),(2,.func 103 [.ptr 0 4 0] [])] (mkH [Q1,m,l,c]) ?_
 refine qA7 (λa T=>?_)
 refine qCe (λh=>?_) (λj V=>?_)
 ·let N:Env:=[(10,.ptr 0 4 0),(9,.ptr 0 4 0),(8,.own 1 (J).length 7),(7,.ptr 2 7 2),(6,.ptr 3 7 0),(4,.ptr 2 7 0),(0,.ptr 0 4 0),(1,.agg [.i n,.str o,.own 1 (J).length 7,.bool q,.bool u,w9 A,w9 G]),(2,.func 103 [.ptr 0 4 0] [])]
  let E3:Env:=((15,.top)::(14,.top)::(13,.top)::(12,.func 103 [.ptr 0 4 0] [])::(11,w9 a.1)::N)
  let O:Blk:=⟨[.str B,w39 C,.i a.2,.i E],4,false⟩
  exact qAm (eE:=E3) (i45d0.th 6 thrown [0,2] (mkH [O,m,l,c])) (hs:=[(mkH [O,m,l,c]),(mkH [O,m,l,c]),(mkH [O,m,l,c]),(mkH [O,m,l,c])]) (LX:=[Q1,m]) (L:=[O,m,l,c]) rfl rfl rfl Kr rfl ⟨.inl rfl,⟨.inl rfl,trivial⟩⟩ Kr Kr Kr Kr (qA8 4 (l':=(opsAt i45p1).toList.drop 4) (eE:=N) (H':=(mkH [Q1,m,l,c])) (hs:=[]) Kr (qA5 (l':=(opsAt i45p1).toList.drop 5) (eE:=((11,w9 a.1)::N)) (hs:=[(mkH [O,m,l,c])]) (H':=(mkH [O,m,l,c])) (fi:=62) (args:=[.ptr 0 4 0]) (v:=w9 a.1) Kr (frC (rs:=[0]) (ms:=[]) (ms':=[]) (qAp k B C S E a T) trivial trivial Kr) Kr (qA8 1 (l':=(opsAt i45p1).toList.drop 6) (eE:=((12,.func 103 [.ptr 0 4 0] [])::(11,w9 a.1)::N)) (H':=(mkH [O,m,l,c])) (hs:=[]) Kr (qAh (l':=(opsAt i45p1).toList.drop 7) (eE:=((13,.top)::(12,.func 103 [.ptr 0 4 0] [])::(11,w9 a.1)::N)) (hs:=[(mkH [O,m,l,c])]) (fi:=48) (args:=[.ptr 0 4 0,w9 a.1,.func 103 [.ptr 0 4 0] []]) Kr Kr (frS 0 (M:=[O,m,l,c]) (rs:=[0]) (ms:=[]) (mv:=[0,1]) (mm:=[0,1]) (D:=[0,2]) (xs':=[.ptr 0 4 0,w9 a.1,.func 103 [.ptr 0 4 0] []]) (.refl) ((hF.i51_ok a.1 B C a.2 E).2 h) trivial ⟨u32 _,trivial⟩ Kr) Kr (qA0 (l':=(opsAt i45p1).toList.drop 8) (eE:=((14,.top)::(13,.top)::(12,.func 103 [.ptr 0 4 0] [])::(11,w9 a.1)::N)) (hs:=[(mkH [O,m,l,c])]) Kr Kr (qA0 (l':=(opsAt i45p1).toList.drop 9) (eE:=E3) (hs:=[]) Kr Kr (qA0 (l':=(opsAt i45p1).toList.drop 10) (eE:=E3) (hs:=[(mkH [O,m,l,c])]) Kr Kr (.nil)))))))) Kr Kr
 ·refine qA7 (λb W=>?_)
  let N:Env:=[(10,.ptr 0 4 0),(9,.ptr 0 4 0),(8,.own 1 (J).length 7),(7,.ptr 2 7 2),(6,.ptr 3 7 0),(4,.ptr 2 7 0),(0,.ptr 0 4 0),(1,.agg [.i n,.str o,.own 1 (J).length 7,.bool q,.bool u,w9 A,w9 G]),(2,.func 103 [.ptr 0 4 0] [])]
  let E4:Env:=((15,.ptr 2 7 2)::(14,.own 1 (b).length 7)::(13,w32 j.1)::(12,.func 103 [.ptr 0 4 0] [])::(11,w9 a.1)::N)
  let U:Blk:=⟨[.str B,w39 C,.i j.2,.i E],4,false⟩
  let Q7:Blk:=⟨[.str B,w39 C,.i a.2,.i E],4,false⟩
  refine oD (H':=(mkH [U,⟨(b).flatMap e32,0,false⟩,⟨[.i n,.str o,.own 1 (b).length 7,.bool q,.bool u,w9 A,w9 G],7,false⟩,c])) (nav [0] i45p1) E4 [(mkH [Q7,m,l,c]),(mkH [U,m,l,c]),(mkH [U,⟨(b).flatMap e32,0,false⟩,l,c]),(mkH [U,⟨(b).flatMap e32,0,false⟩,⟨[.i n,.str o,.own 1 (b).length 7,.bool q,.bool u,w9 A,w9 G],7,false⟩,c])] i45d0 (oDr 4 4 N (qA5 (l':=(opsAt i45p1).toList.drop 5) (eE:=((11,w9 a.1)::N)) (hs:=[(mkH [Q7,m,l,c])]) (H':=(mkH [Q7,m,l,c])) (fi:=62) (args:=[.ptr 0 4 0]) (v:=w9 a.1) Kr (frC (rs:=[0]) (ms:=[]) (ms':=[]) (qAp k B C S E a T) trivial trivial Kr) Kr (oDr 1 6 ((12,.func 103 [.ptr 0 4 0] [])::(11,w9 a.1)::N) (qA5 (l':=(opsAt i45p1).toList.drop 7) (eE:=((13,w32 j.1)::(12,.func 103 [.ptr 0 4 0] [])::(11,w9 a.1)::N)) (hs:=[(mkH [U,m,l,c])]) (H':=(mkH [U,m,l,c])) (fi:=48) (args:=[.ptr 0 4 0,w9 a.1,.func 103 [.ptr 0 4 0] []]) (v:=w32 j.1) Kr (frC (rs:=[0]) (ms:=[]) (ms':=[]) ((hF.i51_ok a.1 B C a.2 E).1 j V) trivial trivial Kr) Kr (qAa (l':=(opsAt i45p1).toList.drop 8) (eE:=((14,.own 1 (b).length 7)::(13,w32 j.1)::(12,.func 103 [.ptr 0 4 0] [])::(11,w9 a.1)::N)) (hs:=[(mkH [U,⟨(b).flatMap e32,0,false⟩,l,c])]) (x:=b) (λ(b:List S31)=>(.own 1 (b).length 7,(mkH [U,⟨(b).flatMap e32,0,false⟩,l,c]))) (appHV (sz:=7) qA4 rfl qB0 [U,m,l,c] 1 104 J j.1 rfl rfl Kr) W Kr (oDh 2 10 E4 (mkH [U,⟨(b).flatMap e32,0,false⟩,⟨[.i n,.str o,.own 1 (b).length 7,.bool q,.bool u,w9 A,w9 G],7,false⟩,c]) [(mkH [U,⟨(b).flatMap e32,0,false⟩,⟨[.i n,.str o,.own 1 (b).length 7,.bool q,.bool u,w9 A,w9 G],7,false⟩,c])] .nil)))))) ?_
  refine oR 3 (atN 1 (ctl1 i45p2)) ((16,.ptr 0 4 0)::E4) ?_
  let Z:Blk:=⟨(b).flatMap e32,0,false⟩
  refine oN (λ(g:Ri12)=>w9 g.1) (λg=>[⟨[.str B,w39 C,.i g.2,.i E],4,false⟩,Z,⟨[.i n,.str o,.own 1 (b).length 7,.bool q,.bool u,w9 A,w9 G],7,false⟩,c]) (atN 2 (ctl1 i45p2)) 17 [0] [] [] [.ptr 0 4 0] (qAp k B C j.2 E) trivial (λ_=>trivial) λg b7=>?_
  let Y:Blk:=⟨[.i n,.str o,.own 1 (b).length 7,.bool q,.bool u,w9 A,w9 g.1],7,false⟩
  refine oLH 4 i45p3 [(0,.ptr 0 4 0),(4,.ptr 2 7 0),(6,.ptr 3 7 0)] (mkH [⟨[.str B,w39 C,.i g.2,.i E],4,false⟩,Z,Y,c]) ?_
  let E5:Env:=[(0,.ptr 0 4 0),(4,.ptr 2 7 0),(6,.ptr 3 7 0)]
  refine oR 2 (atN 1 (ctl1 i45p3)) ((19,.ptr 0 4 0)::E5) ?_
  refine oX (λ(K:Int) => .tuple []) (λK=>[⟨[.str B,w39 C,.i K,.i E],4,false⟩,Z,Y,c]) (atN 2 (ctl1 i45p3)) 20 [0] [] [] [0,2] [0,1] [.ptr 0 4 0,.str [101,110,100]] (qB2 k ([101,110,100]:LN) B C g.2 E) trivial (λ_=>trivial) ⟨u32 _,trivial⟩ λK b8=>?_
  let b2:Blk:=⟨[.str B,w39 C,.i K,.i E],4,false⟩
  refine oH 7 .fin ((21,.agg [.i n,.str o,.own 1 (b).length 7,.bool q,.bool u,w9 A,w9 g.1])::(20,.tuple [])::(19,.ptr 0 4 0)::E5) (mkH [b2,Z,Y,Y]) ?_
  exact qC1 (r:=some (n,o,q,u,A,g.1,K,b)) (xs:=[.agg [.i n,.str o,.own 1 (b).length 7,.bool q,.bool u,w9 A,w9 g.1]]) [b2,Z] [Y,Y] Kr Kr Kr Kr Kr ⟨Kr,⟨(qA3 _ (u32 _)),trivial⟩⟩ Kr Kr
theorem i45B_ok (k:Nat) (F:Fns0) (a:FnsOk0 F):Pi45 (i45B k F):=λb c g j l m n o q r u=>⟨λx h=>qL4 k F a b c g j l m n o q r u (some x) h,λh=>⟨_,qL4 k F a b c g j l m n o q r u none h⟩⟩
def i46c0:LN:=[97,102,116,101,114]
def i46p2:Pt:=nav [0,0,0] (nav [0,0,0] (nav [0] (bodyAt Try.f104)))
def i46p3:Pt:=nav [0,0,0,0] i46p2
def i46p4:Pt:=nav [0,0] i46p3
def i46p5:Pt:=nav [1,0] i46p4
def i46p6:Pt:=nav [2,0,0,0] i46p4
def i46p7:Pt:=nav [0,0] i46p5
def i46p8:Pt:=nav [0,0] i46p6
def i46p9:Pt:=nav [1,0] i46p8
def i46p11:Pt:=nav [0,0,0] i46p9
def i46p12:Pt:=nav [0,0,0] (nav [2,0,0] i46p8)
def i46p13:Pt:=nav [0,0,0] i46p11
def i46p14:Pt:=nav [0,0,0] i46p12
def i46p15:Pt:=nav [0,0,0] i46p13
def i46p17:Pt:=nav [0,0] i46p15
def i46B (k:Nat) (F:Fns0) (m:LN) (n:List S38) (x:Int) (o:Int):Option (Option (S31×Int)) :=
 (i12 k m n x o).bind λh=>(i7 k i46c0 m n h.2 o).bind λu=>if (!u) then (bT (F.i52 h.1 m n h.2 o) λq=>(i12 k m n q.1 o).bind λr=>bT (i11 k i46c0 m n r.2 o) λb=>if b.1 then (bT (F.i9 (1:Int) m n b.2 o) λc=>bT (F.i27 ([]:LN) (⟨23,([]:LN),(⟨(([c.1]:List S31)).length,(([c.1]:List S31)).flatMap e32⟩:Raw),false,false,([]:LL),([]:LL)⟩:S31) (⟨24,([]:LN),(⟨(([]:List S31)).length,(([]:List S31)).flatMap e32⟩:Raw),false,false,([]:LL),([]:LL)⟩:S31) m n c.2 o) λa=>(appS 104 q.2 ([(⟨a.1.f0,a.1.f1,a.1.f2,a.1.f3,a.1.f4,r.1,a.1.f6⟩:S31)]:List S31)).bind λj=>(i12 k m n a.2 o).bind λl=>bT (i14 k ([101,110,100]:LN) m n l.2 o) λg=>some (some ((⟨(20:Int),i46c0,⟨(j).length,(j).flatMap e32⟩,false,false,([]:LL),l.1⟩:S31),g))) else (bT (i14 k ([101,110,100]:LN) m n b.2 o) λg=>some (some ((⟨(20:Int),([]:LN),⟨(q.2).length,(q.2).flatMap e32⟩,false,false,([]:LL),r.1⟩:S31),g)))) else (bT (i11 k i46c0 m n h.2 o) λb=>if b.1 then (bT (F.i9 (1:Int) m n b.2 o) λc=>bT (F.i27 ([]:LN) (⟨23,([]:LN),(⟨(([c.1]:List S31)).length,(([c.1]:List S31)).flatMap e32⟩:Raw),false,false,([]:LL),([]:LL)⟩:S31) (⟨24,([]:LN),(⟨(([]:List S31)).length,(([]:List S31)).flatMap e32⟩:Raw),false,false,([]:LL),([]:LL)⟩:S31) m n c.2 o) λa=>(appS 104 ([]:List S31) ([(⟨a.1.f0,a.1.f1,a.1.f2,a.1.f3,a.1.f4,h.1,a.1.f6⟩:S31)]:List S31)).bind λj=>(i12 k m n a.2 o).bind λl=>bT (i14 k ([101,110,100]:LN) m n l.2 o) λg=>some (some ((⟨(20:Int),i46c0,⟨(j).length,(j).flatMap e32⟩,false,false,([]:LL),l.1⟩:S31),g))) else (bT (i14 k ([101,110,100]:LN) m n b.2 o) λg=>some (some ((⟨(20:Int),([]:LN),⟨(([]:List S31)).length,(([]:List S31)).flatMap e32⟩,false,false,([]:LL),h.1⟩:S31),g))))
theorem qL3 (k:Nat) (F:Fns0) (hF:FnsOk0 F):∀ m n W o r,i46B k F m n W o=some r→CallT Try.prog 104 [.ptr 0 4 0] (mkH [⟨[.str m,w39 n,.i W,.i o],4,false⟩]) ((Xi46 m n W o).thr r) ((Xi46 m n W o).enc r) ((Xi46 m n W o).fin r):=by
 intro m n W o r h
 refine qA1 (Xi46 m n W o) Try.func104 Kr Kr rfl (t:=i46B k F m n W o) ?_ h
 unfold i46B
 refine qA (eE:=[(0,.ptr 0 4 0)]) Kr ?_
 let Q1:Blk:=⟨[.str m,w39 n,.i W,.i o],4,false⟩
 let A:Blk:=⟨[.i 0,.str [],.nils,.bool false,.bool false,.nils,.nils],0,false⟩
 let Q3:Blk:=⟨[.i 20,.str [],.nils,.bool false,.bool false,.nils,.nils],7,false⟩
 refine oH 11 i46p2 [(3,.ptr 2 7 0),(7,.agg [.i 20,.str [],.nils,.bool false,.bool false,.nils,.nils]),(2,.ptr 1 7 0),(0,.ptr 0 4 0)] (mkH [Q1,A,Q3]) ?_
 refine qGv [Q1,A,Q3] Kr ?_
 let B:Blk:=⟨(([]:List S31)).flatMap e32,0,false⟩
 refine oHp (mkH [Q1,A,Q3,B]) ?_
 refine qBu [Q1,A,Q3,B] 2 7 [.i 20,.str [],.nils,.bool false,.bool false,.nils,.nils] [.i 20,.str [],.own 3 (([]:List S31)).length 7,.bool false,.bool false,.nils,.nils] Kr rfl (.cons (.cons (.none (.refl)))) ?_
 let E1:Env:=[(8,.ptr 0 4 0),(3,.ptr 2 7 0),(7,.agg [.i 20,.str [],.nils,.bool false,.bool false,.nils,.nils]),(2,.ptr 1 7 0),(0,.ptr 0 4 0)]
 let M:Blk:=⟨[.i 20,.str [],.own 3 (([]:List S31)).length 7,.bool false,.bool false,.nils,.nils],7,false⟩
 refine oH 2 (atN 1 (ctl1 i46p2)) E1 (mkH [Q1,A,M,B]) ?_
 refine oN (λ(c:Ri12)=>w9 c.1) (λc=>[⟨[.str m,w39 n,.i c.2,.i o],4,false⟩,A,M,B]) (atN 2 (ctl1 i46p2)) 9 [0] [] [] [.ptr 0 4 0] (qAp k m n W o) trivial (λ_=>trivial) λc c4=>?_
 refine oR 6 (atN 1 (ctl1 i46p3)) ((10,.ptr 0 4 0)::(4,w9 c.1)::(9,w9 c.1)::E1) ?_
 refine oN (λ(D:Bool) => .bool D) (λD=>[⟨[.str m,w39 n,.i c.2,.i o],4,false⟩,A,M,B]) (atN 2 (ctl1 i46p3)) 11 [0] [] [] [.ptr 0 4 0,.str i46c0] (qMj k i46c0 m n c.2 o) trivial (λ_=>trivial) λD c5=>?_
 let E2:Env:=((12,.bool (!D))::(11,.bool D)::(10,.ptr 0 4 0)::(4,w9 c.1)::(9,w9 c.1)::E1)
 refine oR 2 i46p4 E2 ?_
 refine oS 12 (λhb=>?_) (λhb=>?_)
 ·refine oR 7 (atN 4 (ctl1 i46p5)) ((16,.func 102 [.ptr 0 4 0] [])::(15,.ptr 0 4 0)::(14,w9 c.1)::(13,.ptr 0 4 0)::(12,.bool true)::E2) ?_
  refine oX (λ(x:Ri52) => .own 4 (x.2).length 7) (λx=>[⟨[.str m,w39 n,.i x.1,.i o],4,false⟩,A,M,B,⟨(x.2).flatMap e32,0,false⟩]) (atN 5 (ctl1 i46p5)) 17 [0,4] [] [0,1] [0,2] [0,0,0,1] [.ptr 0 4 0,w9 c.1,.func 102 [.ptr 0 4 0] []] (hF.i52_ok c.1 m n c.2 o) trivial (λ_=>⟨u32 _,trivial⟩) ⟨u32 _,trivial⟩ λx c7=>?_
  let O:Blk:=⟨[.i 20,.str [],.own 4 (x.2).length 7,.bool false,.bool false,.nils,.nils],7,false⟩
  let N:Blk:=⟨(x.2).flatMap e32,0,false⟩
  refine oLH 3 i46p7 [(0,.ptr 0 4 0),(2,.ptr 1 7 0),(3,.ptr 2 7 0)] (mkH [⟨[.str m,w39 n,.i x.1,.i o],4,false⟩,A,O,B,N]) ?_
  let E4:Env:=[(0,.ptr 0 4 0),(2,.ptr 1 7 0),(3,.ptr 2 7 0)]
  refine oR 2 (atN 1 (ctl1 i46p7)) ((19,.ptr 0 4 0)::E4) ?_
  refine oN (λ(q:Ri12)=>w9 q.1) (λq=>[⟨[.str m,w39 n,.i q.2,.i o],4,false⟩,A,O,B,N]) (atN 2 (ctl1 i46p7)) 20 [0] [] [] [.ptr 0 4 0] (qAp k m n x.1 o) trivial (λ_=>trivial) λq c9=>?_
  refine oR 6 (atN 1 (ctl1 i46p6)) ((21,.ptr 0 4 0)::(4,w9 q.1)::(20,w9 q.1)::(19,.ptr 0 4 0)::E4) ?_
  refine oX (λ(l:(Bool×Int)) => .bool l.1) (λl=>[⟨[.str m,w39 n,.i l.2,.i o],4,false⟩,A,O,B,N]) (atN 2 (ctl1 i46p6)) 22 [0] [] [] [2] [0,0,0,1,1] [.ptr 0 4 0,.str i46c0] (qAb k i46c0 m n q.2 o) trivial (λ_=>trivial) ⟨u32 _,u32 _,trivial⟩ λl a7=>?_
  let E5:Env:=((22,.bool l.1)::(21,.ptr 0 4 0)::(4,w9 q.1)::(20,w9 q.1)::(19,.ptr 0 4 0)::E4)
  refine oR 1 i46p8 E5 ?_
  refine oS 22 (λhb=>?_) (λhb=>?_)
  ·refine oR 4 (atN 1 (ctl1 i46p9)) ((23,.ptr 0 4 0)::(22,.bool true)::E5) ?_
   refine oX (λ(b:(S31×Int))=>n32 b.1) (λb=>[⟨[.str m,w39 n,.i b.2,.i o],4,false⟩,A,O,B,N]) (atN 2 (ctl1 i46p9)) 24 [0] [] [] [0,2] [0,0,0,1,1] [.ptr 0 4 0,.i 1] (hF.i9_ok (1:Int) m n l.2 o) trivial (λ_=>trivial) ⟨u32 _,u32 _,trivial⟩ λb a8=>?_
   let Q8:Blk:=⟨[.str m,w39 n,.i b.2,.i o],4,false⟩
   refine oH 1 (atN 3 (ctl1 i46p9)) ((25,.slice 5 7 0 1 7)::(24,n32 b.1)::(23,.ptr 0 4 0)::(22,.bool true)::E5) (mkH [Q8,A,O,B,N,⟨e32 b.1,0,false⟩]) ?_
   refine oZ 25 5 1 7 [.i b.1.f0,.str b.1.f1,q32 b.1.f2,.bool b.1.f3,.bool b.1.f4,w9 b.1.f5,w9 b.1.f6] [0,2,3,4,19,20,21,22,23,24] [0,0,0,1,1] ⟨u32 _,u32 _,trivial⟩ ?_
   let E7:Env:=[(0,.ptr 0 4 0),(2,.ptr 1 7 0),(3,.ptr 2 7 0),(4,w9 q.1),(5,.ptr 6 7 0)]
   let S:Blk:=⟨[.i 23,.str [],w32 ([b.1]:List S31),.bool false,.bool false,.nils,.nils],7,false⟩
   refine oLH 5 i46p11 E7 (mkH [Q8,A,O,B,N,⟨[],0,false⟩,S]) ?_
   refine oR 4 (atN 3 (ctl1 i46p11)) ((29,.agg [.i 24,.str [],.nils,.bool false,.bool false,.nils,.nils])::(28,.agg [.i 23,.str [],w32 ([b.1]:List S31),.bool false,.bool false,.nils,.nils])::(27,.ptr 0 4 0)::E7) ?_
   refine oXW 0 [Q8,A,O,B,N,⟨[],0,false⟩,S] (λ(a:(S31×Int))=>n32 a.1) (λa=>[⟨[.str m,w39 n,.i a.2,.i o],4,false⟩,A,O,B,N,⟨[],0,false⟩,S]) (atN 4 (ctl1 i46p11)) 30 [0] [] [] [0,2] [0,0,0,1,1] [0,0,0,1,1] [.ptr 0 4 0,.str [],.agg [.i 23,.str [],w32 ([b.1]:List S31),.bool false,.bool false,.nils,.nils],.agg [.i 24,.str [],.nils,.bool false,.bool false,.nils,.nils]] [.ptr 0 4 0,.str [],.agg [.i 23,.str [],w32 ([b.1]:List S31),.bool false,.bool false,w9 ([]:LL),w9 ([]:LL)],.agg [.i 24,.str [],w32 ([]:List S31),.bool false,.bool false,w9 ([]:LL),w9 ([]:LL)]] (.cons (.cons (.agg (.cons (.cons (.cons (.cons (.cons (.nil (.nil (.refl)))))))) (.agg (.cons (.cons (.nil (.cons (.cons (.nil (.nil (.refl)))))))) (.refl))))) (hF.i27_ok ([]:LN) (⟨23,([]:LN),(⟨(([b.1]:List S31)).length,(([b.1]:List S31)).flatMap e32⟩:Raw),false,false,([]:LL),([]:LL)⟩:S31) (⟨24,([]:LN),(⟨(([]:List S31)).length,(([]:List S31)).flatMap e32⟩:Raw),false,false,([]:LL),([]:LL)⟩:S31) m n b.2 o) trivial (λ_=>trivial) ⟨u32 _,u32 _,trivial⟩ λa a9=>?_
   let E9:Env:=[(0,.ptr 0 4 0),(2,.ptr 1 7 0),(3,.ptr 2 7 0),(6,.ptr 7 7 0)]
   let Y:Blk:=⟨[.str m,w39 n,.i a.2,.i o],4,false⟩
   let E:Blk:=⟨[.i a.1.f0,.str a.1.f1,q32 a.1.f2,.bool a.1.f3,.bool a.1.f4,w9 q.1,w9 a.1.f6],7,false⟩
   refine oLH 10 i46p15 E9 (mkH [Y,A,O,B,N,⟨[],0,false⟩,S,E]) ?_
   let K:Blk:=⟨[.i a.1.f0,.str a.1.f1,q32 a.1.f2,.bool a.1.f3,.bool a.1.f4,w9 q.1,w9 a.1.f6],0,false⟩
   let K1:List Blk:=[Y,A,O,B,N,⟨[],0,false⟩,S,E,K]
   refine oH 5 (atN 4 (ctl1 i46p15)) ((36,.slice 8 7 0 1 7)::(35,.agg [.i a.1.f0,.str a.1.f1,q32 a.1.f2,.bool a.1.f3,.bool a.1.f4,w9 q.1,w9 a.1.f6])::(34,.own 4 (x.2).length 7)::(33,.ptr 2 7 2)::E9) (mkH K1) ?_
   refine oC (λ(u:List S31)=>(.own 4 (u).length 7,(mkH [Y,A,O,B,⟨(u).flatMap e32,0,false⟩,⟨[],0,false⟩,S,E,K]))) (atN 5 (ctl1 i46p15)) 37 (appH (sz:=7) qA4 rfl qB0 K1 4 104 x.2 ([(⟨a.1.f0,a.1.f1,a.1.f2,a.1.f3,a.1.f4,q.1,a.1.f6⟩:S31)]:List S31) rfl rfl Kr) λu b1=>?_
   let b2:Env:=[(0,.ptr 0 4 0),(2,.ptr 1 7 0),(3,.ptr 2 7 0)]
   let b9:Blk:=⟨[.i 20,.str i46c0,.own 4 (u).length 7,.bool false,.bool false,.nils,.nils],7,false⟩
   let T:Blk:=⟨(u).flatMap e32,0,false⟩
   refine oLH 5 i46p17 b2 (mkH [Y,A,b9,B,T,⟨[],0,false⟩,S,E,K]) ?_
   refine oR 2 (atN 1 (ctl1 i46p17)) ((40,.ptr 0 4 0)::b2) ?_
   refine oN (λ(g:Ri12)=>w9 g.1) (λg=>[⟨[.str m,w39 n,.i g.2,.i o],4,false⟩,A,b9,B,T,⟨[],0,false⟩,S,E,K]) (atN 2 (ctl1 i46p17)) 41 [0] [] [] [.ptr 0 4 0] (qAp k m n a.2 o) trivial (λ_=>trivial) λg b3=>?_
   let Z:Blk:=⟨[.i 20,.str i46c0,.own 4 (u).length 7,.bool false,.bool false,.nils,w9 g.1],7,false⟩
   refine oH 11 (atN 1 (ctl1 i46p12)) ((44,.ptr 0 4 0)::(43,.ptr 2 7 6)::(42,w9 g.1)::(4,w9 g.1)::(41,w9 g.1)::(40,.ptr 0 4 0)::b2) (mkH [⟨[.str m,w39 n,.i g.2,.i o],4,false⟩,A,Z,B,T,⟨[],0,false⟩,S,E,K]) ?_
   refine oX (λ(j:Int) => .tuple []) (λj=>[⟨[.str m,w39 n,.i j,.i o],4,false⟩,A,Z,B,T,⟨[],0,false⟩,S,E,K]) (atN 2 (ctl1 i46p12)) 45 [0] [] [] [0,2] [0,0,0,1,1] [.ptr 0 4 0,.str [101,110,100]] (qB2 k ([101,110,100]:LN) m n g.2 o) trivial (λ_=>trivial) ⟨u32 _,u32 _,trivial⟩ λj L=>?_
   refine oL 2 i46p14 [(2,.ptr 1 7 0),(3,.ptr 2 7 0)] ?_
   exact oQF 5 [⟨[.str m,w39 n,.i j,.i o],4,false⟩,Z,Z,B,T,⟨[],0,false⟩,S,E,K] 1 [] [.agg [.i 20,.str i46c0,.own 4 (u).length 7,.bool false,.bool false,.nils,w9 g.1]] (.agg [.i 20,.str i46c0,w32 u,.bool false,.bool false,.vec 0 1 [],w9 g.1]) (.agg (.cs (.cs (qAw qA4 qAg rfl rfl rfl (.cs (.cs (.nil .ps)))))) .ps) trivial
  ·let a4:Blk:=⟨[.i 20,.str [],.own 4 (x.2).length 7,.bool false,.bool false,.nils,w9 q.1],7,false⟩
   refine oLH 9 i46p12 [(0,.ptr 0 4 0),(2,.ptr 1 7 0),(3,.ptr 2 7 0)] (mkH [⟨[.str m,w39 n,.i l.2,.i o],4,false⟩,A,a4,B,N]) ?_
   refine oR 2 (atN 1 (ctl1 i46p12)) ((44,.ptr 0 4 0)::[(0,.ptr 0 4 0),(2,.ptr 1 7 0),(3,.ptr 2 7 0)]) ?_
   refine oX (λ(j:Int) => .tuple []) (λj=>[⟨[.str m,w39 n,.i j,.i o],4,false⟩,A,a4,B,N]) (atN 2 (ctl1 i46p12)) 45 [0] [] [] [0,2] [0,0,0,1,1] [.ptr 0 4 0,.str [101,110,100]] (qB2 k ([101,110,100]:LN) m n l.2 o) trivial (λ_=>trivial) ⟨u32 _,u32 _,trivial⟩ λj L=>?_
   exact oQF 7 [⟨[.str m,w39 n,.i j,.i o],4,false⟩,a4,a4,B,N] 1 [] [.agg [.i 20,.str [],.own 4 (x.2).length 7,.bool false,.bool false,.nils,w9 q.1]] (.agg [.i 20,.str [],w32 x.2,.bool false,.bool false,.vec 0 1 [],w9 q.1]) (.agg (.cs (.cs (qAw qA4 qAg rfl rfl rfl (.cs (.cs (.nil .ps)))))) .ps) trivial
 ·refine oR 6 (atN 1 (ctl1 i46p6)) ((21,.ptr 0 4 0)::(12,.bool false)::E2) ?_
  refine oX (λ(l:(Bool×Int)) => .bool l.1) (λl=>[⟨[.str m,w39 n,.i l.2,.i o],4,false⟩,A,M,B]) (atN 2 (ctl1 i46p6)) 22 [0] [] [] [2] [0,0,0,1] [.ptr 0 4 0,.str i46c0] (qAb k i46c0 m n c.2 o) trivial (λ_=>trivial) ⟨u32 _,trivial⟩ λl a7=>?_
  refine oL 1 i46p8 [(0,.ptr 0 4 0),(2,.ptr 1 7 0),(3,.ptr 2 7 0),(4,w9 c.1),(22,.bool l.1)] ?_
  let b4:Env:=[(0,.ptr 0 4 0),(2,.ptr 1 7 0),(3,.ptr 2 7 0),(4,w9 c.1),(22,.bool l.1)]
  refine oS 22 (λhb=>?_) (λhb=>?_)
  ·refine oR 4 (atN 1 (ctl1 i46p9)) ((23,.ptr 0 4 0)::(22,.bool true)::b4) ?_
   refine oX (λ(b:(S31×Int))=>n32 b.1) (λb=>[⟨[.str m,w39 n,.i b.2,.i o],4,false⟩,A,M,B]) (atN 2 (ctl1 i46p9)) 24 [0] [] [] [0,2] [0,0,0,1] [.ptr 0 4 0,.i 1] (hF.i9_ok (1:Int) m n l.2 o) trivial (λ_=>trivial) ⟨u32 _,trivial⟩ λb a8=>?_
   let b5:Blk:=⟨[.str m,w39 n,.i b.2,.i o],4,false⟩
   refine oH 1 (atN 3 (ctl1 i46p9)) ((25,.slice 4 7 0 1 7)::(24,n32 b.1)::(23,.ptr 0 4 0)::(22,.bool true)::b4) (mkH [b5,A,M,B,⟨e32 b.1,0,false⟩]) ?_
   refine oZ 25 4 1 7 [.i b.1.f0,.str b.1.f1,q32 b.1.f2,.bool b.1.f3,.bool b.1.f4,w9 b.1.f5,w9 b.1.f6] [0,2,3,4,22,23,24] [0,0,0,1] ⟨u32 _,trivial⟩ ?_
   let C:Blk:=⟨[.i 23,.str [],w32 ([b.1]:List S31),.bool false,.bool false,.nils,.nils],7,false⟩
   refine oH 9 (atN 3 (ctl1 i46p11)) [(29,.agg [.i 24,.str [],.nils,.bool false,.bool false,.nils,.nils]),(28,.agg [.i 23,.str [],w32 ([b.1]:List S31),.bool false,.bool false,.nils,.nils]),(27,.ptr 0 4 0),(5,.ptr 5 7 0),(26,.agg [.i 23,.str [],w32 ([b.1]:List S31),.bool false,.bool false,.nils,.nils]),(25,w32 ([b.1]:List S31)),(0,.ptr 0 4 0),(2,.ptr 1 7 0),(3,.ptr 2 7 0),(4,w9 c.1),(22,.bool true),(23,.ptr 0 4 0),(24,n32 b.1)] (mkH [b5,A,M,B,⟨[],0,false⟩,C]) ?_
   refine oXW 0 [b5,A,M,B,⟨[],0,false⟩,C] (λ(a:(S31×Int))=>n32 a.1) (λa=>[⟨[.str m,w39 n,.i a.2,.i o],4,false⟩,A,M,B,⟨[],0,false⟩,C]) (atN 4 (ctl1 i46p11)) 30 [0] [] [] [0,2] [0,0,0,1] [0,0,0,1] [.ptr 0 4 0,.str [],.agg [.i 23,.str [],w32 ([b.1]:List S31),.bool false,.bool false,.nils,.nils],.agg [.i 24,.str [],.nils,.bool false,.bool false,.nils,.nils]] [.ptr 0 4 0,.str [],.agg [.i 23,.str [],w32 ([b.1]:List S31),.bool false,.bool false,w9 ([]:LL),w9 ([]:LL)],.agg [.i 24,.str [],w32 ([]:List S31),.bool false,.bool false,w9 ([]:LL),w9 ([]:LL)]] (.cons (.cons (.agg (.cons (.cons (.cons (.cons (.cons (.nil (.nil (.refl)))))))) (.agg (.cons (.cons (.nil (.cons (.cons (.nil (.nil (.refl)))))))) (.refl))))) (hF.i27_ok ([]:LN) (⟨23,([]:LN),(⟨(([b.1]:List S31)).length,(([b.1]:List S31)).flatMap e32⟩:Raw),false,false,([]:LL),([]:LL)⟩:S31) (⟨24,([]:LN),(⟨(([]:List S31)).length,(([]:List S31)).flatMap e32⟩:Raw),false,false,([]:LL),([]:LL)⟩:S31) m n b.2 o) trivial (λ_=>trivial) ⟨u32 _,trivial⟩ λa a9=>?_
   let U:Blk:=⟨[.str m,w39 n,.i a.2,.i o],4,false⟩
   refine oLH 4 i46p13 [(0,.ptr 0 4 0),(2,.ptr 1 7 0),(3,.ptr 2 7 0),(4,w9 c.1),(6,.ptr 6 7 0)] (mkH [U,A,M,B,⟨[],0,false⟩,C,⟨e32 a.1,7,false⟩]) ?_
   let G:Blk:=⟨[.i a.1.f0,.str a.1.f1,q32 a.1.f2,.bool a.1.f3,.bool a.1.f4,w9 c.1,w9 a.1.f6],7,false⟩
   let J:Blk:=⟨[.i a.1.f0,.str a.1.f1,q32 a.1.f2,.bool a.1.f3,.bool a.1.f4,w9 c.1,w9 a.1.f6],0,false⟩
   refine oH 11 (atN 4 (ctl1 i46p15)) ((36,.slice 7 7 0 1 7)::(35,.agg [.i a.1.f0,.str a.1.f1,q32 a.1.f2,.bool a.1.f3,.bool a.1.f4,w9 c.1,w9 a.1.f6])::(34,.own 3 (([]:List S31)).length 7)::(33,.ptr 2 7 2)::(32,.ptr 6 7 5)::(31,w9 c.1)::[(0,.ptr 0 4 0),(2,.ptr 1 7 0),(3,.ptr 2 7 0),(4,w9 c.1),(6,.ptr 6 7 0)]) (mkH [U,A,M,B,⟨[],0,false⟩,C,G,J]) ?_
   refine oC (λ(u:List S31)=>(.own 3 (u).length 7,(mkH [U,A,M,⟨(u).flatMap e32,0,false⟩,⟨[],0,false⟩,C,G,J]))) (atN 5 (ctl1 i46p15)) 37 (appH (sz:=7) qA4 rfl qB0 [U,A,M,B,⟨[],0,false⟩,C,G,J] 3 104 ([]:List S31) ([(⟨a.1.f0,a.1.f1,a.1.f2,a.1.f3,a.1.f4,c.1,a.1.f6⟩:S31)]:List S31) rfl rfl Kr) λu b1=>?_
   let c0:Blk:=⟨[.i 20,.str i46c0,.own 3 (u).length 7,.bool false,.bool false,.nils,.nils],7,false⟩
   let V:Blk:=⟨(u).flatMap e32,0,false⟩
   refine oLH 5 i46p17 [(0,.ptr 0 4 0),(2,.ptr 1 7 0),(3,.ptr 2 7 0)] (mkH [U,A,c0,V,⟨[],0,false⟩,C,G,J]) ?_
   let c1:Env:=[(0,.ptr 0 4 0),(2,.ptr 1 7 0),(3,.ptr 2 7 0)]
   refine oR 2 (atN 1 (ctl1 i46p17)) ((40,.ptr 0 4 0)::c1) ?_
   refine oN (λ(g:Ri12)=>w9 g.1) (λg=>[⟨[.str m,w39 n,.i g.2,.i o],4,false⟩,A,c0,V,⟨[],0,false⟩,C,G,J]) (atN 2 (ctl1 i46p17)) 41 [0] [] [] [.ptr 0 4 0] (qAp k m n a.2 o) trivial (λ_=>trivial) λg b3=>?_
   let a5:Blk:=⟨[.i 20,.str i46c0,.own 3 (u).length 7,.bool false,.bool false,.nils,w9 g.1],7,false⟩
   refine oH 11 (atN 1 (ctl1 i46p12)) ((44,.ptr 0 4 0)::(43,.ptr 2 7 6)::(42,w9 g.1)::(4,w9 g.1)::(41,w9 g.1)::(40,.ptr 0 4 0)::c1) (mkH [⟨[.str m,w39 n,.i g.2,.i o],4,false⟩,A,a5,V,⟨[],0,false⟩,C,G,J]) ?_
   refine oX (λ(j:Int) => .tuple []) (λj=>[⟨[.str m,w39 n,.i j,.i o],4,false⟩,A,a5,V,⟨[],0,false⟩,C,G,J]) (atN 2 (ctl1 i46p12)) 45 [0] [] [] [0,2] [0,0,0,1] [.ptr 0 4 0,.str [101,110,100]] (qB2 k ([101,110,100]:LN) m n g.2 o) trivial (λ_=>trivial) ⟨u32 _,trivial⟩ λj L=>?_
   refine oL 2 i46p14 [(2,.ptr 1 7 0),(3,.ptr 2 7 0)] ?_
   exact oQF 5 [⟨[.str m,w39 n,.i j,.i o],4,false⟩,a5,a5,V,⟨[],0,false⟩,C,G,J] 1 [] [.agg [.i 20,.str i46c0,.own 3 (u).length 7,.bool false,.bool false,.nils,w9 g.1]] (.agg [.i 20,.str i46c0,w32 u,.bool false,.bool false,.vec 0 1 [],w9 g.1]) (.agg (.cs (.cs (qAw qA4 qAg rfl rfl rfl (.cs (.cs (.nil .ps)))))) .ps) trivial
  ·let a6:Blk:=⟨[.i 20,.str [],.own 3 (([]:List S31)).length 7,.bool false,.bool false,.nils,w9 c.1],7,false⟩
   refine oH 11 (atN 1 (ctl1 i46p12)) ((44,.ptr 0 4 0)::(43,.ptr 2 7 6)::(42,w9 c.1)::(22,.bool false)::b4) (mkH [⟨[.str m,w39 n,.i l.2,.i o],4,false⟩,A,a6,B]) ?_
   refine oX (λ(j:Int) => .tuple []) (λj=>[⟨[.str m,w39 n,.i j,.i o],4,false⟩,A,a6,B]) (atN 2 (ctl1 i46p12)) 45 [0] [] [] [0,2] [0,0,0,1] [.ptr 0 4 0,.str [101,110,100]] (qB2 k ([101,110,100]:LN) m n l.2 o) trivial (λ_=>trivial) ⟨u32 _,trivial⟩ λj L=>?_
   refine oL 2 i46p14 [(2,.ptr 1 7 0),(3,.ptr 2 7 0)] ?_
   exact oQF 5 [⟨[.str m,w39 n,.i j,.i o],4,false⟩,a6,a6,B] 1 [] [.agg [.i 20,.str [],.own 3 (([]:List S31)).length 7,.bool false,.bool false,.nils,w9 c.1]] (.agg [.i 20,.str [],w32 ([]:List S31),.bool false,.bool false,.vec 0 1 [],w9 c.1]) (.agg (.cs (.cs (qAw qA4 qAg rfl rfl rfl (.cs (.cs (.nil .ps)))))) .ps) trivial
theorem i46B_ok (k:Nat) (F:Fns0) (a:FnsOk0 F):Pi46 (i46B k F):=λb c g j=>⟨λx h=>qL3 k F a b c g j (some x) h,λh=>⟨_,qL3 k F a b c g j none h⟩⟩
def i47p1:Pt:=nav [0,0,0] (nav [0] (bodyAt Try.f86))
def i47p2:Pt:=nav [0,0,0,0,0] i47p1
def i47p3:Pt:=nav [0,0,0] i47p2
def i47p4:Pt:=nav [0,0] i47p3
def i47p5:Pt:=nav [1,0,0] i47p4
def i47d0:DP:=⟨[14],[(0,0,0),(1,0,1),(0,0,0),(4,0,0),(12,0,0),(31,0,0),(63,0,0),(127,0,0)],8,thrown,[],H0⟩
def qJ4 (k:Nat) (F:Fns0)  (j:LN) (l:List S38) (n:Int) (m:Int) (ih:Int→(List S31)→Option (Option (S31×Int))):Int→(List S31)→Option (Option (S31×Int)) :=
 λ(g:Int) (a:List S31)=>bT (i11 k ([44]:LN) j l g m) λb=>if b.1 then (bT (F.i9 (1:Int) j l b.2 m) λc=>(appS 104 a ([c.1]:List S31)).bind λh=>ih c.2 h) else (some (some ((⟨(25:Int),([]:LN),⟨(a).length,(a).flatMap e32⟩,false,false,([]:LL),([]:LL)⟩:S31),b.2)))
def qOn (k:Nat) (F:Fns0)  (a:LN) (b:List S38) (c:Int) (g:Int) (n:Nat):Int→(List S31)→Option (Option (S31×Int)):=lp (λ_ _=>none) (qJ4 k F a b c g) n
theorem qOm (k:Nat) (F:Fns0) (N:FnsOk0 F) (q:LN) (r:List S38) (J:Int) (u:Int)    : ∀ (n:Nat) (j:Int) (c:List S31),Ok (Xi47 q r J u) i47p2 [(0,.ptr 0 4 0),(2,.ptr 1 7 0),(3,.ptr 3 7 0)] (mkH [⟨[.str q,w39 r,.i j,.i u],4,false⟩,⟨[.i 0,.str [],.nils,.bool false,.bool false,.nils,.nils],0,false⟩,⟨(c).flatMap e32,0,false⟩,⟨[.i 25,.str [],.own 2 (c).length 7,.bool false,.bool false,.nils,.nils],7,false⟩]) (qOn k F q r J u n j c):=by
 intro n
 induction n with
 | zero=>intro j c; exact ok_none
 | succ n ih =>
  intro j c
  show Ok _ _ _ _ (qJ4 k F q r J u (qOn k F q r J u n) j c)
  unfold qJ4
  refine qAk (p':=nav [0] i47p2) Kr ?_
  let l:Blk:=⟨[.i 0,.str [],.nils,.bool false,.bool false,.nils,.nils],0,false⟩
  let o:Blk:=⟨(c).flatMap e32,0,false⟩
  let m:Blk:=⟨[.i 25,.str [],.own 2 (c).length 7,.bool false,.bool false,.nils,.nils],7,false⟩
  refine oH 4 (atN 1 (ctl1 i47p3)) [(8,.ptr 0 4 0),(0,.ptr 0 4 0),(2,.ptr 1 7 0),(3,.ptr 3 7 0)] (mkH [⟨[.str q,w39 r,.i j,.i u],4,false⟩,l,o,m]) ?_
  refine oX (λ(g:(Bool×Int)) => .bool g.1) (λg=>[⟨[.str q,w39 r,.i g.2,.i u],4,false⟩,l,o,m]) (atN 2 (ctl1 i47p3)) 9 [0] [] [] [3] [0,0,1] [.ptr 0 4 0,.str [44]] (qAb k ([44]:LN) q r j u) trivial (λ_=>trivial) ⟨u32 _,trivial⟩ λg K=>?_
  let O:Env:=[(9,.bool g.1),(8,.ptr 0 4 0),(0,.ptr 0 4 0),(2,.ptr 1 7 0),(3,.ptr 3 7 0)]
  refine oR 1 i47p4 O ?_
  refine oS 9 (λS=>?_) (λS=>?_)
  ·refine oR 3 i47p5 ((9,.bool true)::O) ?_
   refine qCe (λh=>?_) (λb E=>?_)
   ·let A:Env:=[(12,.ptr 0 4 0),(11,.own 2 (c).length 7),(10,.ptr 3 7 2),(9,.bool true),(9,.bool g.1),(8,.ptr 0 4 0),(0,.ptr 0 4 0),(2,.ptr 1 7 0),(3,.ptr 3 7 0)]
    let C:Blk:=⟨[.str q,w39 r,.i g.2,.i u],4,false⟩
    exact qAm (eE:=((16,.top)::(15,.top)::(14,.top)::(13,.top)::A)) (i47d0.th 3 thrown [0,3] (mkH [C,l,o,m])) (hs:=[(mkH [C,l,o,m]),(mkH [C,l,o,m]),(mkH [C,l,o,m])]) (LX:=[⟨[.str q,w39 r,.i J,.i u],4,false⟩]) (L:=[C,l,o,m]) rfl rfl rfl Kr rfl ⟨.inl rfl,trivial⟩ Kr Kr Kr Kr (qA8 3 (l':=(opsAt i47p5).toList.drop 3) (eE:=A) (H':=(mkH [C,l,o,m])) (hs:=[]) Kr (qAh (l':=(opsAt i47p5).toList.drop 4) (eE:=((13,.top)::A)) (hs:=[(mkH [C,l,o,m])]) (fi:=57) (args:=[.ptr 0 4 0,.i 1]) Kr Kr (frS 0 (M:=[C,l,o,m]) (rs:=[0]) (ms:=[]) (mv:=[0,0,1]) (mm:=[0,0,1]) (D:=[0,3]) (xs':=[.ptr 0 4 0,.i 1]) (.refl) ((N.i9_ok (1:Int) q r g.2 u).2 h) trivial ⟨u32 _,trivial⟩ Kr) Kr (qA0 (l':=(opsAt i47p5).toList.drop 5) (eE:=((14,.top)::(13,.top)::A)) (hs:=[]) Kr Kr (qA0 (l':=(opsAt i47p5).toList.drop 6) (eE:=((15,.top)::(14,.top)::(13,.top)::A)) (hs:=[(mkH [C,l,o,m])]) Kr Kr (qA0 (l':=(opsAt i47p5).toList.drop 7) (eE:=((16,.top)::(15,.top)::(14,.top)::(13,.top)::A)) (hs:=[]) Kr Kr (qA0 (l':=(opsAt i47p5).toList.drop 8) (eE:=((16,.top)::(15,.top)::(14,.top)::(13,.top)::A)) (hs:=[(mkH [C,l,o,m])]) Kr Kr (.nil))))))) Kr Kr
   ·refine qA7 (λa G=>?_)
    let A:Env:=[(12,.ptr 0 4 0),(11,.own 2 (c).length 7),(10,.ptr 3 7 2),(9,.bool true),(9,.bool g.1),(8,.ptr 0 4 0),(0,.ptr 0 4 0),(2,.ptr 1 7 0),(3,.ptr 3 7 0)]
    let B:Blk:=⟨[.str q,w39 r,.i b.2,.i u],4,false⟩
    refine oD (H':=(mkH [B,l,⟨(a).flatMap e32,0,false⟩,⟨[.i 25,.str [],.own 2 (a).length 7,.bool false,.bool false,.nils,.nils],7,false⟩])) (nav [0] i47p5) ((16,.ptr 3 7 2)::(15,.own 2 (a).length 7)::(14,w32 ([b.1]:List S31))::(13,n32 b.1)::A) [(mkH [B,l,o,m]),(mkH [B,l,⟨(a).flatMap e32,0,false⟩,m]),(mkH [B,l,⟨(a).flatMap e32,0,false⟩,⟨[.i 25,.str [],.own 2 (a).length 7,.bool false,.bool false,.nils,.nils],7,false⟩])] i47d0 (oDr 3 3 A (qA5 (l':=(opsAt i47p5).toList.drop 4) (eE:=((13,n32 b.1)::A)) (hs:=[(mkH [B,l,o,m])]) (H':=(mkH [B,l,o,m])) (fi:=57) (args:=[.ptr 0 4 0,.i 1]) (v:=n32 b.1) Kr (frC (rs:=[0]) (ms:=[]) (ms':=[]) ((N.i9_ok (1:Int) q r g.2 u).1 b E) trivial trivial Kr) Kr (oDr 1 5 ((14,w32 ([b.1]:List S31))::(13,n32 b.1)::A) (qAa (l':=(opsAt i47p5).toList.drop 6) (eE:=((15,.own 2 (a).length 7)::(14,w32 ([b.1]:List S31))::(13,n32 b.1)::A)) (hs:=[(mkH [B,l,⟨(a).flatMap e32,0,false⟩,m])]) (x:=a) (λ(a:List S31)=>(.own 2 (a).length 7,(mkH [B,l,⟨(a).flatMap e32,0,false⟩,m]))) (appHV (sz:=7) qA4 rfl qB0 [B,l,o,m] 2 104 c ([b.1]:List S31) rfl rfl Kr) G Kr (oDh 2 8 ((16,.ptr 3 7 2)::(15,.own 2 (a).length 7)::(14,w32 ([b.1]:List S31))::(13,n32 b.1)::A) (mkH [B,l,⟨(a).flatMap e32,0,false⟩,⟨[.i 25,.str [],.own 2 (a).length 7,.bool false,.bool false,.nils,.nils],7,false⟩]) [(mkH [B,l,⟨(a).flatMap e32,0,false⟩,⟨[.i 25,.str [],.own 2 (a).length 7,.bool false,.bool false,.nils,.nils],7,false⟩])] .nil))))) ?_
    refine oK [0,2,3] [(0,.ptr 0 4 0),(2,.ptr 1 7 0),(3,.ptr 3 7 0)] ?_
    exact ih b.2 a
  ·exact oQF 8 [⟨[.str q,w39 r,.i g.2,.i u],4,false⟩,m,o,m] 1 [] [.agg [.i 25,.str [],.own 2 (c).length 7,.bool false,.bool false,.nils,.nils]] (.agg [.i 25,.str [],w32 c,.bool false,.bool false,.vec 0 1 [],.vec 0 1 []]) (.agg (.cs (.cs (qAw qA4 qAg rfl rfl rfl (.cs (.cs (.nil (.nil .ps))))))) .ps) trivial
def i47B (k:Nat) (F:Fns0) (b:LN) (c:List S38) (g:Int) (h:Int):Option (Option (S31×Int)) :=
 bT (F.i9 (1:Int) b c g h) λa=>qOn k F b c g h k a.2 ([a.1]:List S31)
theorem qL2 (k:Nat) (F:Fns0) (n:FnsOk0 F):∀ b c j g r,i47B k F b c j g=some r→CallT Try.prog 86 [.ptr 0 4 0] (mkH [⟨[.str b,w39 c,.i j,.i g],4,false⟩]) ((Xi47 b c j g).thr r) ((Xi47 b c j g).enc r) ((Xi47 b c j g).fin r):=by
 intro b c j g r h
 refine qA1 (Xi47 b c j g) Try.func86 Kr Kr rfl (t:=i47B k F b c j g) ?_ h
 unfold i47B
 refine qA (eE:=[(0,.ptr 0 4 0)]) Kr ?_
 let l:Blk:=⟨[.i 0,.str [],.nils,.bool false,.bool false,.nils,.nils],0,false⟩
 refine oH 7 (atN 1 (ctl1 i47p1)) [(4,.ptr 0 4 0),(2,.ptr 1 7 0),(0,.ptr 0 4 0)] (mkH [⟨[.str b,w39 c,.i j,.i g],4,false⟩,l]) ?_
 refine oX (λ(a:(S31×Int))=>n32 a.1) (λa=>[⟨[.str b,w39 c,.i a.2,.i g],4,false⟩,l]) (atN 2 (ctl1 i47p1)) 5 [0] [] [] [0] [] [.ptr 0 4 0,.i 1] (n.i9_ok (1:Int) b c j g) trivial (λ_=>trivial) trivial λa m=>?_
 let o:Blk:=⟨[.str b,w39 c,.i a.2,.i g],4,false⟩
 refine oH 1 (atN 3 (ctl1 i47p1)) [(6,.slice 2 7 0 1 7),(5,n32 a.1),(4,.ptr 0 4 0),(2,.ptr 1 7 0),(0,.ptr 0 4 0)] (mkH [o,l,⟨e32 a.1,0,false⟩]) ?_
 refine qDa 6 2 7 1 7 Kr rfl ?_
 refine oLH 7 i47p2 [(0,.ptr 0 4 0),(2,.ptr 1 7 0),(3,.ptr 3 7 0)] (mkH [o,l,⟨(([a.1]:List S31)).flatMap e32,0,false⟩,⟨[.i 25,.str [],.own 2 (([a.1]:List S31)).length 7,.bool false,.bool false,.nils,.nils],7,false⟩]) ?_
 exact (qOm k F n b c j g k) a.2 ([a.1]:List S31)
theorem i47B_ok (k:Nat) (F:Fns0) (a:FnsOk0 F):Pi47 (i47B k F):=λb c g j=>⟨λx h=>qL2 k F a b c g j (some x) h,λh=>⟨_,qL2 k F a b c g j none h⟩⟩
def i49p1:Pt:=nav [0,0,0,0] (nav [0] (bodyAt Try.f48))
def i49p2:Pt:=nav [0,0,0,0,0] i49p1
def i49p4:Pt:=nav [0,0,0] (nav [0,0,0] i49p2)
def i49p5:Pt:=nav [0,0,0,0] i49p4
def i49p6:Pt:=nav [0,0] i49p5
def i49p7:Pt:=nav [1,0] i49p6
def qJ3 (k:Nat) (F:Fns0)  (m:LN) (n:List S38) (o:Int) (ih:LL→Int→(List S31)→Option (Option Ri49)):LL→Int→(List S31)→Option (Option Ri49) :=
 λ(h:LL) (j:Int) (l:List S31)=>bT (F.i53 m n j o) λa=>(appS 104 l ([(⟨a.1.f0,a.1.f1,a.1.f2,a.1.f3,a.1.f4,h,a.1.f6⟩:S31)]:List S31)).bind λc=>bT (i11 k ([59]:LN) m n a.2 o) λb=>if b.1 then ((i12 k m n b.2 o).bind λg=>ih g.1 g.2 c) else (some (some (c,b.2)))
def qOk (k:Nat) (F:Fns0)  (a:LN) (b:List S38) (c:Int) (n:Nat):LL→Int→(List S31)→Option (Option Ri49):=lp (λ_ _ _=>none) (qJ3 k F a b c) n
theorem qOj (k:Nat) (F:Fns0) (L:FnsOk0 F) (M:LL) (m:LN) (o:List S38) (N:Int) (q:Int)    : ∀ (n:Nat) (b:LL) (l:Int) (c:List S31),Ok (Xi49 M m o N q) i49p2 [(0,.ptr 0 4 0),(1,w9 b),(2,.func 105 [] [.ptr 1 1 0]),(7,.own 2 (c).length 7)] (mkH [⟨[.str m,w39 o,.i l,.i q],4,false⟩,⟨[.ptr 0 4 0],1,false⟩,⟨(c).flatMap e32,0,false⟩]) (qOk k F m o q n b l c):=by
 intro n
 induction n with
 | zero=>intro b l c; exact ok_none
 | succ n ih =>
  intro b l c
  show Ok _ _ _ _ (qJ3 k F m o q (qOk k F m o q n) b l c)
  unfold qJ3
  let K:Env:=[(9,.func 105 [] [.ptr 1 1 0]),(0,.ptr 0 4 0),(1,w9 b),(2,.func 105 [] [.ptr 1 1 0]),(7,.own 2 (c).length 7)]
  let A:Blk:=⟨(c).flatMap e32,0,false⟩
  refine oH 2 (atN 1 (ctl1 i49p2)) K (mkH [⟨[.str m,w39 o,.i l,.i q],4,false⟩,⟨[.ptr 0 4 0],1,false⟩,A]) ?_
  refine oX (λ(a:(S31×Int))=>n32 a.1) (λa=>[⟨[.str m,w39 o,.i a.2,.i q],4,false⟩,⟨[.ptr 0 4 0],1,false⟩,A]) (atN 2 (ctl1 i49p2)) 10 [0,1] [] [] [0,1] [0,0,1] [.ptr 1 1 0] (L.i53_ok m o l q) trivial (λ_=>trivial) ⟨u32 _,trivial⟩ λa C=>?_
  let B:Blk:=⟨[.str m,w39 o,.i a.2,.i q],4,false⟩
  let r:Blk:=⟨[.i a.1.f0,.str a.1.f1,q32 a.1.f2,.bool a.1.f3,.bool a.1.f4,w9 b,w9 a.1.f6],7,false⟩
  let u:Blk:=⟨[.i a.1.f0,.str a.1.f1,q32 a.1.f2,.bool a.1.f3,.bool a.1.f4,w9 b,w9 a.1.f6],0,false⟩
  refine oH 14 (atN 3 (ctl1 i49p4)) ((15,.slice 4 7 0 1 7)::(14,.agg [.i a.1.f0,.str a.1.f1,q32 a.1.f2,.bool a.1.f3,.bool a.1.f4,w9 b,w9 a.1.f6])::(13,.own 2 (c).length 7)::(12,.ptr 3 7 5)::(11,w9 b)::(8,.ptr 3 7 0)::(10,n32 a.1)::K) (mkH [B,⟨[.ptr 0 4 0],1,false⟩,A,r,u]) ?_
  refine oC (λ(g:List S31)=>(.own 2 (g).length 7,(mkH [B,⟨[.ptr 0 4 0],1,false⟩,⟨(g).flatMap e32,0,false⟩,r,u]))) (atN 4 (ctl1 i49p4)) 16 (appH (sz:=7) qA4 rfl qB0 [B,⟨[.ptr 0 4 0],1,false⟩,A,r,u] 2 104 c ([(⟨a.1.f0,a.1.f1,a.1.f2,a.1.f3,a.1.f4,b,a.1.f6⟩:S31)]:List S31) rfl rfl Kr) λg D=>?_
  let x:Blk:=⟨(g).flatMap e32,0,false⟩
  refine oLH 4 i49p5 [(0,.ptr 0 4 0),(2,.func 105 [] [.ptr 1 1 0]),(7,.own 2 (g).length 7)] (mkH [B,⟨[.ptr 0 4 0],1,false⟩,x,r,u]) ?_
  let E:Env:=[(0,.ptr 0 4 0),(2,.func 105 [] [.ptr 1 1 0]),(7,.own 2 (g).length 7)]
  refine oR 2 (atN 1 (ctl1 i49p5)) ((17,.ptr 0 4 0)::E) ?_
  refine oX (λ(h:(Bool×Int)) => .bool h.1) (λh=>[⟨[.str m,w39 o,.i h.2,.i q],4,false⟩,⟨[.ptr 0 4 0],1,false⟩,x,r,u]) (atN 2 (ctl1 i49p5)) 18 [0] [] [] [1] [0,0,1] [.ptr 0 4 0,.str [59]] (qAb k ([59]:LN) m o a.2 q) trivial (λ_=>trivial) ⟨u32 _,trivial⟩ λh G=>?_
  refine oR 1 i49p6 ((18,.bool h.1)::(17,.ptr 0 4 0)::E) ?_
  refine oS 18 (λO=>?_) (λO=>?_)
  ·refine oR 4 (atN 1 (ctl1 i49p7)) ((19,.ptr 0 4 0)::(18,.bool true)::(18,.bool h.1)::(17,.ptr 0 4 0)::E) ?_
   refine oN (λ(j:Ri12)=>w9 j.1) (λj=>[⟨[.str m,w39 o,.i j.2,.i q],4,false⟩,⟨[.ptr 0 4 0],1,false⟩,x,r,u]) (atN 2 (ctl1 i49p7)) 20 [0] [] [] [.ptr 0 4 0] (qAp k m o h.2 q) trivial (λ_=>trivial) λj J=>?_
   refine oL 6 i49p2 [(0,.ptr 0 4 0),(1,w9 j.1),(2,.func 105 [] [.ptr 1 1 0]),(7,.own 2 (g).length 7)] ?_
   refine qA9 [⟨[.str m,w39 o,.i j.2,.i q],4,false⟩,⟨[.ptr 0 4 0],1,false⟩,x] [r,u] Kr rfl Kr ⟨Kr,⟨Kr,⟨(qA3 _ (u32 _)),trivial⟩⟩⟩ ?_
   exact ih j.1 j.2 g
  ·exact oQF 8 [⟨[.str m,w39 o,.i h.2,.i q],4,false⟩,⟨[.ptr 0 4 0],1,false⟩,x,r,u] 2 [] [.own 2 (g).length 7] (w32 g) (qAw qA4 qAg rfl rfl rfl .ps) trivial
def i49B (k:Nat) (F:Fns0) (a:LL) (b:LN) (c:List S38) (g:Int) (h:Int):Option (Option Ri49) :=
 qOk k F b c h k a g ([]:List S31)
theorem qL1 (k:Nat) (F:Fns0) (n:FnsOk0 F):∀ a c g b j r,i49B k F a c g b j=some r→CallT Try.prog 48 [.ptr 0 4 0,w9 a,.func 105 [] [.ptr 1 1 0]] (mkH [⟨[.str c,w39 g,.i b,.i j],4,false⟩,⟨[.ptr 0 4 0],1,false⟩]) ((Xi49 a c g b j).thr r) ((Xi49 a c g b j).enc r) ((Xi49 a c g b j).fin r):=by
 intro a c g b j r h
 refine qA1 (Xi49 a c g b j) Try.func48 Kr Kr rfl (t:=i49B k F a c g b j) ?_ h
 unfold i49B
 refine qA (eE:=[(0,.ptr 0 4 0),(1,w9 a),(2,.func 105 [] [.ptr 1 1 0])]) Kr ?_
 let m:Env:=[(7,.nils),(6,.nils),(0,.ptr 0 4 0),(1,w9 a),(2,.func 105 [] [.ptr 1 1 0])]
 let l:Blk:=⟨[.str c,w39 g,.i b,.i j],4,false⟩
 refine oH 8 (atN 1 (ctl1 i49p1)) m (mkH [l,⟨[.ptr 0 4 0],1,false⟩]) ?_
 refine qE4 [l,⟨[.ptr 0 4 0],1,false⟩] 7 7 rfl Kr ?_
 refine oH 4 i49p2 ((7,.own 2 (([]:List S31)).length 7)::m) (mkH [l,⟨[.ptr 0 4 0],1,false⟩,⟨(([]:List S31)).flatMap e32,0,false⟩]) ?_
 refine oK [0,1,2,7] [(0,.ptr 0 4 0),(1,w9 a),(2,.func 105 [] [.ptr 1 1 0]),(7,.own 2 (([]:List S31)).length 7)] ?_
 exact (qOj k F n a c g b j k) a b ([]:List S31)
theorem i49B_ok (k:Nat) (F:Fns0) (a:FnsOk0 F):Pi49 (i49B k F):=λb c g j l=>⟨λx h=>qL1 k F a b c g j l (some x) h,λh=>⟨_,qL1 k F a b c g j l none h⟩⟩
def i50p1:Pt:=nav [0,0,0,0] (nav [0] (bodyAt Try.f48))
def i50p2:Pt:=nav [0,0,0,0,0] i50p1
def i50p4:Pt:=nav [0,0,0] (nav [0,0,0] i50p2)
def i50p5:Pt:=nav [0,0,0,0] i50p4
def i50p6:Pt:=nav [0,0] i50p5
def i50p7:Pt:=nav [1,0] i50p6
def qJ2 (k:Nat) (F:Fns0)  (m:LN) (n:List S38) (o:Int) (ih:LL→Int→(List S31)→Option (Option Ri50)):LL→Int→(List S31)→Option (Option Ri50) :=
 λ(h:LL) (j:Int) (l:List S31)=>bT (F.i54 m n j o) λa=>(appS 104 l ([(⟨a.1.f0,a.1.f1,a.1.f2,a.1.f3,a.1.f4,h,a.1.f6⟩:S31)]:List S31)).bind λc=>bT (i11 k ([59]:LN) m n a.2 o) λb=>if b.1 then ((i12 k m n b.2 o).bind λg=>ih g.1 g.2 c) else (some (some (c,b.2)))
def qOi (k:Nat) (F:Fns0)  (a:LN) (b:List S38) (c:Int) (n:Nat):LL→Int→(List S31)→Option (Option Ri50):=lp (λ_ _ _=>none) (qJ2 k F a b c) n
theorem qOh (k:Nat) (F:Fns0) (L:FnsOk0 F) (M:LL) (m:LN) (o:List S38) (N:Int) (q:Int)    : ∀ (n:Nat) (b:LL) (l:Int) (c:List S31),Ok (Xi50 M m o N q) i50p2 [(0,.ptr 0 4 0),(1,w9 b),(2,.func 102 [.ptr 0 4 0] []),(7,.own 1 (c).length 7)] (mkH [⟨[.str m,w39 o,.i l,.i q],4,false⟩,⟨(c).flatMap e32,0,false⟩]) (qOi k F m o q n b l c):=by
 intro n
 induction n with
 | zero=>intro b l c; exact ok_none
 | succ n ih =>
  intro b l c
  show Ok _ _ _ _ (qJ2 k F m o q (qOi k F m o q n) b l c)
  unfold qJ2
  let K:Env:=[(9,.func 102 [.ptr 0 4 0] []),(0,.ptr 0 4 0),(1,w9 b),(2,.func 102 [.ptr 0 4 0] []),(7,.own 1 (c).length 7)]
  let A:Blk:=⟨(c).flatMap e32,0,false⟩
  refine oH 2 (atN 1 (ctl1 i50p2)) K (mkH [⟨[.str m,w39 o,.i l,.i q],4,false⟩,A]) ?_
  refine oX (λ(a:(S31×Int))=>n32 a.1) (λa=>[⟨[.str m,w39 o,.i a.2,.i q],4,false⟩,A]) (atN 2 (ctl1 i50p2)) 10 [0] [] [] [0] [0,1] [.ptr 0 4 0] (L.i54_ok m o l q) trivial (λ_=>trivial) ⟨u32 _,trivial⟩ λa C=>?_
  let B:Blk:=⟨[.str m,w39 o,.i a.2,.i q],4,false⟩
  let r:Blk:=⟨[.i a.1.f0,.str a.1.f1,q32 a.1.f2,.bool a.1.f3,.bool a.1.f4,w9 b,w9 a.1.f6],7,false⟩
  let u:Blk:=⟨[.i a.1.f0,.str a.1.f1,q32 a.1.f2,.bool a.1.f3,.bool a.1.f4,w9 b,w9 a.1.f6],0,false⟩
  refine oH 14 (atN 3 (ctl1 i50p4)) ((15,.slice 3 7 0 1 7)::(14,.agg [.i a.1.f0,.str a.1.f1,q32 a.1.f2,.bool a.1.f3,.bool a.1.f4,w9 b,w9 a.1.f6])::(13,.own 1 (c).length 7)::(12,.ptr 2 7 5)::(11,w9 b)::(8,.ptr 2 7 0)::(10,n32 a.1)::K) (mkH [B,A,r,u]) ?_
  refine oC (λ(g:List S31)=>(.own 1 (g).length 7,(mkH [B,⟨(g).flatMap e32,0,false⟩,r,u]))) (atN 4 (ctl1 i50p4)) 16 (appH (sz:=7) qA4 rfl qB0 [B,A,r,u] 1 104 c ([(⟨a.1.f0,a.1.f1,a.1.f2,a.1.f3,a.1.f4,b,a.1.f6⟩:S31)]:List S31) rfl rfl Kr) λg D=>?_
  let x:Blk:=⟨(g).flatMap e32,0,false⟩
  refine oLH 4 i50p5 [(0,.ptr 0 4 0),(2,.func 102 [.ptr 0 4 0] []),(7,.own 1 (g).length 7)] (mkH [B,x,r,u]) ?_
  let E:Env:=[(0,.ptr 0 4 0),(2,.func 102 [.ptr 0 4 0] []),(7,.own 1 (g).length 7)]
  refine oR 2 (atN 1 (ctl1 i50p5)) ((17,.ptr 0 4 0)::E) ?_
  refine oX (λ(h:(Bool×Int)) => .bool h.1) (λh=>[⟨[.str m,w39 o,.i h.2,.i q],4,false⟩,x,r,u]) (atN 2 (ctl1 i50p5)) 18 [0] [] [] [] [0,1] [.ptr 0 4 0,.str [59]] (qAb k ([59]:LN) m o a.2 q) trivial (λ_=>trivial) ⟨u32 _,trivial⟩ λh G=>?_
  refine oR 1 i50p6 ((18,.bool h.1)::(17,.ptr 0 4 0)::E) ?_
  refine oS 18 (λO=>?_) (λO=>?_)
  ·refine oR 4 (atN 1 (ctl1 i50p7)) ((19,.ptr 0 4 0)::(18,.bool true)::(18,.bool h.1)::(17,.ptr 0 4 0)::E) ?_
   refine oN (λ(j:Ri12)=>w9 j.1) (λj=>[⟨[.str m,w39 o,.i j.2,.i q],4,false⟩,x,r,u]) (atN 2 (ctl1 i50p7)) 20 [0] [] [] [.ptr 0 4 0] (qAp k m o h.2 q) trivial (λ_=>trivial) λj J=>?_
   refine oL 6 i50p2 [(0,.ptr 0 4 0),(1,w9 j.1),(2,.func 102 [.ptr 0 4 0] []),(7,.own 1 (g).length 7)] ?_
   refine qA9 [⟨[.str m,w39 o,.i j.2,.i q],4,false⟩,x] [r,u] Kr rfl Kr ⟨Kr,⟨(qA3 _ (u32 _)),trivial⟩⟩ ?_
   exact ih j.1 j.2 g
  ·exact oQF 8 [⟨[.str m,w39 o,.i h.2,.i q],4,false⟩,x,r,u] 1 [] [.own 1 (g).length 7] (w32 g) (qAw qA4 qAg rfl rfl rfl .ps) trivial
def i50B (k:Nat) (F:Fns0) (a:LL) (b:LN) (c:List S38) (g:Int) (h:Int):Option (Option Ri50) :=
 qOi k F b c h k a g ([]:List S31)
theorem qL0 (k:Nat) (F:Fns0) (n:FnsOk0 F):∀ a c g b j r,i50B k F a c g b j=some r→CallT Try.prog 48 [.ptr 0 4 0,w9 a,.func 102 [.ptr 0 4 0] []] (mkH [⟨[.str c,w39 g,.i b,.i j],4,false⟩]) ((Xi50 a c g b j).thr r) ((Xi50 a c g b j).enc r) ((Xi50 a c g b j).fin r):=by
 intro a c g b j r h
 refine qA1 (Xi50 a c g b j) Try.func48 Kr Kr rfl (t:=i50B k F a c g b j) ?_ h
 unfold i50B
 refine qA (eE:=[(0,.ptr 0 4 0),(1,w9 a),(2,.func 102 [.ptr 0 4 0] [])]) Kr ?_
 let m:Env:=[(7,.nils),(6,.nils),(0,.ptr 0 4 0),(1,w9 a),(2,.func 102 [.ptr 0 4 0] [])]
 let l:Blk:=⟨[.str c,w39 g,.i b,.i j],4,false⟩
 refine oH 8 (atN 1 (ctl1 i50p1)) m (mkH [l]) ?_
 refine qE4 [l] 7 7 rfl Kr ?_
 refine oH 4 i50p2 ((7,.own 1 (([]:List S31)).length 7)::m) (mkH [l,⟨(([]:List S31)).flatMap e32,0,false⟩]) ?_
 refine oK [0,1,2,7] [(0,.ptr 0 4 0),(1,w9 a),(2,.func 102 [.ptr 0 4 0] []),(7,.own 1 (([]:List S31)).length 7)] ?_
 exact (qOh k F n a c g b j k) a b ([]:List S31)
theorem i50B_ok (k:Nat) (F:Fns0) (a:FnsOk0 F):Pi50 (i50B k F):=λb c g j l=>⟨λx h=>qL0 k F a b c g j l (some x) h,λh=>⟨_,qL0 k F a b c g j l none h⟩⟩
def i51p1:Pt:=nav [0,0,0,0] (nav [0] (bodyAt Try.f48))
def i51p2:Pt:=nav [0,0,0,0,0] i51p1
def i51p4:Pt:=nav [0,0,0] (nav [0,0,0] i51p2)
def i51p5:Pt:=nav [0,0,0,0] i51p4
def i51p6:Pt:=nav [0,0] i51p5
def i51p7:Pt:=nav [1,0] i51p6
def qJ1 (k:Nat) (F:Fns0)  (m:LN) (n:List S38) (o:Int) (ih:LL→Int→(List S31)→Option (Option Ri51)):LL→Int→(List S31)→Option (Option Ri51) :=
 λ(h:LL) (j:Int) (l:List S31)=>bT (F.i55 m n j o) λa=>(appS 104 l ([(⟨a.1.f0,a.1.f1,a.1.f2,a.1.f3,a.1.f4,h,a.1.f6⟩:S31)]:List S31)).bind λc=>bT (i11 k ([59]:LN) m n a.2 o) λb=>if b.1 then ((i12 k m n b.2 o).bind λg=>ih g.1 g.2 c) else (some (some (c,b.2)))
def qOg (k:Nat) (F:Fns0)  (a:LN) (b:List S38) (c:Int) (n:Nat):LL→Int→(List S31)→Option (Option Ri51):=lp (λ_ _ _=>none) (qJ1 k F a b c) n
theorem qOf (k:Nat) (F:Fns0) (L:FnsOk0 F) (M:LL) (m:LN) (o:List S38) (N:Int) (q:Int)    : ∀ (n:Nat) (b:LL) (l:Int) (c:List S31),Ok (Xi51 M m o N q) i51p2 [(0,.ptr 0 4 0),(1,w9 b),(2,.func 103 [.ptr 0 4 0] []),(7,.own 1 (c).length 7)] (mkH [⟨[.str m,w39 o,.i l,.i q],4,false⟩,⟨(c).flatMap e32,0,false⟩]) (qOg k F m o q n b l c):=by
 intro n
 induction n with
 | zero=>intro b l c; exact ok_none
 | succ n ih =>
  intro b l c
  show Ok _ _ _ _ (qJ1 k F m o q (qOg k F m o q n) b l c)
  unfold qJ1
  let K:Env:=[(9,.func 103 [.ptr 0 4 0] []),(0,.ptr 0 4 0),(1,w9 b),(2,.func 103 [.ptr 0 4 0] []),(7,.own 1 (c).length 7)]
  let A:Blk:=⟨(c).flatMap e32,0,false⟩
  refine oH 2 (atN 1 (ctl1 i51p2)) K (mkH [⟨[.str m,w39 o,.i l,.i q],4,false⟩,A]) ?_
  refine oX (λ(a:(S31×Int))=>n32 a.1) (λa=>[⟨[.str m,w39 o,.i a.2,.i q],4,false⟩,A]) (atN 2 (ctl1 i51p2)) 10 [0] [] [] [0] [0,1] [.ptr 0 4 0] (L.i55_ok m o l q) trivial (λ_=>trivial) ⟨u32 _,trivial⟩ λa C=>?_
  let B:Blk:=⟨[.str m,w39 o,.i a.2,.i q],4,false⟩
  let r:Blk:=⟨[.i a.1.f0,.str a.1.f1,q32 a.1.f2,.bool a.1.f3,.bool a.1.f4,w9 b,w9 a.1.f6],7,false⟩
  let u:Blk:=⟨[.i a.1.f0,.str a.1.f1,q32 a.1.f2,.bool a.1.f3,.bool a.1.f4,w9 b,w9 a.1.f6],0,false⟩
  refine oH 14 (atN 3 (ctl1 i51p4)) ((15,.slice 3 7 0 1 7)::(14,.agg [.i a.1.f0,.str a.1.f1,q32 a.1.f2,.bool a.1.f3,.bool a.1.f4,w9 b,w9 a.1.f6])::(13,.own 1 (c).length 7)::(12,.ptr 2 7 5)::(11,w9 b)::(8,.ptr 2 7 0)::(10,n32 a.1)::K) (mkH [B,A,r,u]) ?_
  refine oC (λ(g:List S31)=>(.own 1 (g).length 7,(mkH [B,⟨(g).flatMap e32,0,false⟩,r,u]))) (atN 4 (ctl1 i51p4)) 16 (appH (sz:=7) qA4 rfl qB0 [B,A,r,u] 1 104 c ([(⟨a.1.f0,a.1.f1,a.1.f2,a.1.f3,a.1.f4,b,a.1.f6⟩:S31)]:List S31) rfl rfl Kr) λg D=>?_
  let x:Blk:=⟨(g).flatMap e32,0,false⟩
  refine oLH 4 i51p5 [(0,.ptr 0 4 0),(2,.func 103 [.ptr 0 4 0] []),(7,.own 1 (g).length 7)] (mkH [B,x,r,u]) ?_
  let E:Env:=[(0,.ptr 0 4 0),(2,.func 103 [.ptr 0 4 0] []),(7,.own 1 (g).length 7)]
  refine oR 2 (atN 1 (ctl1 i51p5)) ((17,.ptr 0 4 0)::E) ?_
  refine oX (λ(h:(Bool×Int)) => .bool h.1) (λh=>[⟨[.str m,w39 o,.i h.2,.i q],4,false⟩,x,r,u]) (atN 2 (ctl1 i51p5)) 18 [0] [] [] [] [0,1] [.ptr 0 4 0,.str [59]] (qAb k ([59]:LN) m o a.2 q) trivial (λ_=>trivial) ⟨u32 _,trivial⟩ λh G=>?_
  refine oR 1 i51p6 ((18,.bool h.1)::(17,.ptr 0 4 0)::E) ?_
  refine oS 18 (λO=>?_) (λO=>?_)
  ·refine oR 4 (atN 1 (ctl1 i51p7)) ((19,.ptr 0 4 0)::(18,.bool true)::(18,.bool h.1)::(17,.ptr 0 4 0)::E) ?_
   refine oN (λ(j:Ri12)=>w9 j.1) (λj=>[⟨[.str m,w39 o,.i j.2,.i q],4,false⟩,x,r,u]) (atN 2 (ctl1 i51p7)) 20 [0] [] [] [.ptr 0 4 0] (qAp k m o h.2 q) trivial (λ_=>trivial) λj J=>?_
   refine oL 6 i51p2 [(0,.ptr 0 4 0),(1,w9 j.1),(2,.func 103 [.ptr 0 4 0] []),(7,.own 1 (g).length 7)] ?_
   refine qA9 [⟨[.str m,w39 o,.i j.2,.i q],4,false⟩,x] [r,u] Kr rfl Kr ⟨Kr,⟨(qA3 _ (u32 _)),trivial⟩⟩ ?_
   exact ih j.1 j.2 g
  ·exact oQF 8 [⟨[.str m,w39 o,.i h.2,.i q],4,false⟩,x,r,u] 1 [] [.own 1 (g).length 7] (w32 g) (qAw qA4 qAg rfl rfl rfl .ps) trivial
def i51B (k:Nat) (F:Fns0) (a:LL) (b:LN) (c:List S38) (g:Int) (h:Int):Option (Option Ri51) :=
 qOg k F b c h k a g ([]:List S31)
theorem qL (k:Nat) (F:Fns0) (n:FnsOk0 F):∀ a c g b j r,i51B k F a c g b j=some r→CallT Try.prog 48 [.ptr 0 4 0,w9 a,.func 103 [.ptr 0 4 0] []] (mkH [⟨[.str c,w39 g,.i b,.i j],4,false⟩]) ((Xi51 a c g b j).thr r) ((Xi51 a c g b j).enc r) ((Xi51 a c g b j).fin r):=by
 intro a c g b j r h
 refine qA1 (Xi51 a c g b j) Try.func48 Kr Kr rfl (t:=i51B k F a c g b j) ?_ h
 unfold i51B
 refine qA (eE:=[(0,.ptr 0 4 0),(1,w9 a),(2,.func 103 [.ptr 0 4 0] [])]) Kr ?_
 let m:Env:=[(7,.nils),(6,.nils),(0,.ptr 0 4 0),(1,w9 a),(2,.func 103 [.ptr 0 4 0] [])]
 let l:Blk:=⟨[.str c,w39 g,.i b,.i j],4,false⟩
 refine oH 8 (atN 1 (ctl1 i51p1)) m (mkH [l]) ?_
 refine qE4 [l] 7 7 rfl Kr ?_
 refine oH 4 i51p2 ((7,.own 1 (([]:List S31)).length 7)::m) (mkH [l,⟨(([]:List S31)).flatMap e32,0,false⟩]) ?_
 refine oK [0,1,2,7] [(0,.ptr 0 4 0),(1,w9 a),(2,.func 103 [.ptr 0 4 0] []),(7,.own 1 (([]:List S31)).length 7)] ?_
 exact (qOf k F n a c g b j k) a b ([]:List S31)
theorem i51B_ok (k:Nat) (F:Fns0) (a:FnsOk0 F):Pi51 (i51B k F):=λb c g j l=>⟨λx h=>qL k F a b c g j l (some x) h,λh=>⟨_,qL k F a b c g j l none h⟩⟩
def i52p1:Pt:=nav [0,0,0,0] (nav [0] (bodyAt Try.f48))
def i52p2:Pt:=nav [0,0,0,0,0] i52p1
def i52p4:Pt:=nav [0,0,0] (nav [0,0,0] i52p2)
def i52p5:Pt:=nav [0,0,0,0] i52p4
def i52p6:Pt:=nav [0,0] i52p5
def i52p7:Pt:=nav [1,0] i52p6
def qJ0 (k:Nat) (F:Fns0)  (m:LN) (n:List S38) (o:Int) (ih:LL→Int→(List S31)→Option (Option Ri52)):LL→Int→(List S31)→Option (Option Ri52) :=
 λ(h:LL) (j:Int) (l:List S31)=>bT (F.i54 m n j o) λa=>(appS 104 l ([(⟨a.1.f0,a.1.f1,a.1.f2,a.1.f3,a.1.f4,h,a.1.f6⟩:S31)]:List S31)).bind λc=>bT (i11 k ([59]:LN) m n a.2 o) λb=>if b.1 then ((i12 k m n b.2 o).bind λg=>ih g.1 g.2 c) else (some (some (b.2,c)))
def qOe (k:Nat) (F:Fns0)  (a:LN) (b:List S38) (c:Int) (n:Nat):LL→Int→(List S31)→Option (Option Ri52):=lp (λ_ _ _=>none) (qJ0 k F a b c) n
theorem qOd (k:Nat) (F:Fns0) (M:FnsOk0 F) (N:LL) (m:LN) (o:List S38) (O:Int) (q:Int)    : ∀ (n:Nat) (c:LL) (l:Int) (g:List S31),Ok (Xi52 N m o O q) i52p2 [(0,.ptr 0 4 0),(1,w9 c),(2,.func 102 [.ptr 0 4 0] []),(7,.own 1 (g).length 7)] (mkH [⟨[.str m,w39 o,.i l,.i q],4,false⟩,⟨(g).flatMap e32,0,false⟩]) (qOe k F m o q n c l g):=by
 intro n
 induction n with
 | zero=>intro c l g; exact ok_none
 | succ n ih =>
  intro c l g
  show Ok _ _ _ _ (qJ0 k F m o q (qOe k F m o q n) c l g)
  unfold qJ0
  let L:Env:=[(9,.func 102 [.ptr 0 4 0] []),(0,.ptr 0 4 0),(1,w9 c),(2,.func 102 [.ptr 0 4 0] []),(7,.own 1 (g).length 7)]
  let B:Blk:=⟨(g).flatMap e32,0,false⟩
  refine oH 2 (atN 1 (ctl1 i52p2)) L (mkH [⟨[.str m,w39 o,.i l,.i q],4,false⟩,B]) ?_
  refine oX (λ(a:(S31×Int))=>n32 a.1) (λa=>[⟨[.str m,w39 o,.i a.2,.i q],4,false⟩,B]) (atN 2 (ctl1 i52p2)) 10 [0] [] [] [0] [0,1] [.ptr 0 4 0] (M.i54_ok m o l q) trivial (λ_=>trivial) ⟨u32 _,trivial⟩ λa E=>?_
  let C:Blk:=⟨[.str m,w39 o,.i a.2,.i q],4,false⟩
  let u:Blk:=⟨[.i a.1.f0,.str a.1.f1,q32 a.1.f2,.bool a.1.f3,.bool a.1.f4,w9 c,w9 a.1.f6],7,false⟩
  let x:Blk:=⟨[.i a.1.f0,.str a.1.f1,q32 a.1.f2,.bool a.1.f3,.bool a.1.f4,w9 c,w9 a.1.f6],0,false⟩
  refine oH 14 (atN 3 (ctl1 i52p4)) ((15,.slice 3 7 0 1 7)::(14,.agg [.i a.1.f0,.str a.1.f1,q32 a.1.f2,.bool a.1.f3,.bool a.1.f4,w9 c,w9 a.1.f6])::(13,.own 1 (g).length 7)::(12,.ptr 2 7 5)::(11,w9 c)::(8,.ptr 2 7 0)::(10,n32 a.1)::L) (mkH [C,B,u,x]) ?_
  refine oC (λ(b:List S31)=>(.own 1 (b).length 7,(mkH [C,⟨(b).flatMap e32,0,false⟩,u,x]))) (atN 4 (ctl1 i52p4)) 16 (appH (sz:=7) qA4 rfl qB0 [C,B,u,x] 1 104 g ([(⟨a.1.f0,a.1.f1,a.1.f2,a.1.f3,a.1.f4,c,a.1.f6⟩:S31)]:List S31) rfl rfl Kr) λb G=>?_
  let A:Blk:=⟨(b).flatMap e32,0,false⟩
  refine oLH 4 i52p5 [(0,.ptr 0 4 0),(2,.func 102 [.ptr 0 4 0] []),(7,.own 1 (b).length 7)] (mkH [C,A,u,x]) ?_
  let D:Env:=[(0,.ptr 0 4 0),(2,.func 102 [.ptr 0 4 0] []),(7,.own 1 (b).length 7)]
  refine oR 2 (atN 1 (ctl1 i52p5)) ((17,.ptr 0 4 0)::D) ?_
  refine oX (λ(h:(Bool×Int)) => .bool h.1) (λh=>[⟨[.str m,w39 o,.i h.2,.i q],4,false⟩,A,u,x]) (atN 2 (ctl1 i52p5)) 18 [0] [] [] [] [0,1] [.ptr 0 4 0,.str [59]] (qAb k ([59]:LN) m o a.2 q) trivial (λ_=>trivial) ⟨u32 _,trivial⟩ λh J=>?_
  refine oR 1 i52p6 ((18,.bool h.1)::(17,.ptr 0 4 0)::D) ?_
  refine oS 18 (λS=>?_) (λS=>?_)
  ·refine oR 4 (atN 1 (ctl1 i52p7)) ((19,.ptr 0 4 0)::(18,.bool true)::(18,.bool h.1)::(17,.ptr 0 4 0)::D) ?_
   refine oN (λ(j:Ri12)=>w9 j.1) (λj=>[⟨[.str m,w39 o,.i j.2,.i q],4,false⟩,A,u,x]) (atN 2 (ctl1 i52p7)) 20 [0] [] [] [.ptr 0 4 0] (qAp k m o h.2 q) trivial (λ_=>trivial) λj K=>?_
   refine oL 6 i52p2 [(0,.ptr 0 4 0),(1,w9 j.1),(2,.func 102 [.ptr 0 4 0] []),(7,.own 1 (b).length 7)] ?_
   refine qA9 [⟨[.str m,w39 o,.i j.2,.i q],4,false⟩,A] [u,x] Kr rfl Kr ⟨Kr,⟨(qA3 _ (u32 _)),trivial⟩⟩ ?_
   exact ih j.1 j.2 b
  ·refine oR 8 .fin ((6,.own 1 (b).length 7)::(21,.own 1 (b).length 7)::(18,.bool false)::(18,.bool h.1)::(17,.ptr 0 4 0)::D) ?_
   exact qC1 (r:=some (h.2,b)) (xs:=[.own 1 (b).length 7]) [⟨[.str m,w39 o,.i h.2,.i q],4,false⟩,A] [u,x] Kr Kr Kr Kr Kr ⟨Kr,⟨(qA3 _ (u32 _)),trivial⟩⟩ Kr Kr
def i52B (k:Nat) (F:Fns0) (a:LL) (b:LN) (c:List S38) (g:Int) (h:Int):Option (Option Ri52) :=
 qOe k F b c h k a g ([]:List S31)
theorem qKz (k:Nat) (F:Fns0) (n:FnsOk0 F):∀ a c g b j r,i52B k F a c g b j=some r→CallT Try.prog 48 [.ptr 0 4 0,w9 a,.func 102 [.ptr 0 4 0] []] (mkH [⟨[.str c,w39 g,.i b,.i j],4,false⟩]) ((Xi52 a c g b j).thr r) ((Xi52 a c g b j).enc r) ((Xi52 a c g b j).fin r):=by
 intro a c g b j r h
 refine qA1 (Xi52 a c g b j) Try.func48 Kr Kr rfl (t:=i52B k F a c g b j) ?_ h
 unfold i52B
 refine qA (eE:=[(0,.ptr 0 4 0),(1,w9 a),(2,.func 102 [.ptr 0 4 0] [])]) Kr ?_
 let m:Env:=[(7,.nils),(6,.nils),(0,.ptr 0 4 0),(1,w9 a),(2,.func 102 [.ptr 0 4 0] [])]
 let l:Blk:=⟨[.str c,w39 g,.i b,.i j],4,false⟩
 refine oH 8 (atN 1 (ctl1 i52p1)) m (mkH [l]) ?_
 refine qE4 [l] 7 7 rfl Kr ?_
 refine oH 4 i52p2 ((7,.own 1 (([]:List S31)).length 7)::m) (mkH [l,⟨(([]:List S31)).flatMap e32,0,false⟩]) ?_
 refine oK [0,1,2,7] [(0,.ptr 0 4 0),(1,w9 a),(2,.func 102 [.ptr 0 4 0] []),(7,.own 1 (([]:List S31)).length 7)] ?_
 exact (qOd k F n a c g b j k) a b ([]:List S31)
theorem i52B_ok (k:Nat) (F:Fns0) (a:FnsOk0 F):Pi52 (i52B k F):=λb c g j l=>⟨λx h=>qKz k F a b c g j l (some x) h,λh=>⟨_,qKz k F a b c g j l none h⟩⟩
def i53p1:Pt:=nav [0,0,0] (nav [0] (bodyAt Try.f105))
def i53B (k:Nat) (F:Fns0) (b:LN) (c:List S38) (g:Int) (h:Int):Option (Option (S31×Int)) :=
 bT (F.i19 ([]:LN) b c g h) λa=>some (some (a.1,a.2))
theorem qKy (k:Nat) (F:Fns0) (n:FnsOk0 F):∀ b c j g r,i53B k F b c j g=some r→CallT Try.prog 105 [.ptr 1 1 0] (mkH [⟨[.str b,w39 c,.i j,.i g],4,false⟩,⟨[.ptr 0 4 0],1,false⟩]) ((Xi53 b c j g).thr r) ((Xi53 b c j g).enc r) ((Xi53 b c j g).fin r):=by
 intro b c j g r h
 refine qA1 (Xi53 b c j g) Try.func105 Kr Kr rfl (t:=i53B k F b c j g) ?_ h
 unfold i53B
 refine qA (eE:=[(0,.ptr 1 1 0)]) Kr ?_
 let m:Blk:=⟨[.i 0,.str [],.nils,.bool false,.bool false,.nils,.nils],0,false⟩
 refine oH 7 (atN 1 (ctl1 i53p1)) [(2,.ptr 0 4 0),(1,.ptr 2 7 0),(0,.ptr 1 1 0)] (mkH [⟨[.str b,w39 c,.i j,.i g],4,false⟩,⟨[.ptr 0 4 0],1,false⟩,m]) ?_
 refine oX (λ(a:(S31×Int))=>n32 a.1) (λa=>[⟨[.str b,w39 c,.i a.2,.i g],4,false⟩,⟨[.ptr 0 4 0],1,false⟩,m]) (atN 2 (ctl1 i53p1)) 3 [0] [] [] [0,1] [] [.ptr 0 4 0,.str []] (n.i19_ok ([]:LN) b c j g) trivial (λ_=>trivial) trivial λa l=>?_
 exact oQF 3 [⟨[.str b,w39 c,.i a.2,.i g],4,false⟩,⟨[.ptr 0 4 0],1,false⟩,⟨e32 a.1,7,false⟩] 2 [] [n32 a.1] (n32 a.1) .ps trivial
theorem i53B_ok (k:Nat) (F:Fns0) (a:FnsOk0 F):Pi53 (i53B k F):=λb c g j=>⟨λx h=>qKy k F a b c g j (some x) h,λh=>⟨_,qKy k F a b c g j none h⟩⟩
def i54p1:Pt:=nav [0,0,0] (nav [0] (bodyAt Try.f102))
def i54p2:Pt:=nav [0,0,0] i54p1
def i54d0:DP:=⟨[],[(0,0,0),(0,0,1),(0,0,0),(4,0,0),(15,0,0),(31,0,0)],6,thrown,[],H0⟩
def i54B (k:Nat) (F:Fns0) (g:LN) (h:List S38) (l:Int) (j:Int):Option (Option (S31×Int)) :=
 bT (F.i9 (1:Int) g h l j) λa=>bT (F.i26 g h a.2 j) λb=>bT (F.i27 ([]:LN) (⟨23,([]:LN),(⟨(([a.1]:List S31)).length,(([a.1]:List S31)).flatMap e32⟩:Raw),false,false,([]:LL),([]:LL)⟩:S31) b.1 g h b.2 j) λc=>some (some (c.1,c.2))
theorem qKx (k:Nat) (F:Fns0) (E:FnsOk0 F):∀ l m x n r,i54B k F l m x n=some r→CallT Try.prog 102 [.ptr 0 4 0] (mkH [⟨[.str l,w39 m,.i x,.i n],4,false⟩]) ((Xi54 l m x n).thr r) ((Xi54 l m x n).enc r) ((Xi54 l m x n).fin r):=by
 intro l m x n r h
 refine qA1 (Xi54 l m x n) Try.func102 Kr Kr rfl (t:=i54B k F l m x n) ?_ h
 unfold i54B
 refine qA (eE:=[(0,.ptr 0 4 0)]) Kr ?_
 let J:Blk:=⟨[.str l,w39 m,.i x,.i n],4,false⟩
 let j:Blk:=⟨[.i 0,.str [],.nils,.bool false,.bool false,.nils,.nils],0,false⟩
 refine oH 7 (atN 1 (ctl1 i54p1)) [(4,.ptr 0 4 0),(2,.ptr 1 7 0),(0,.ptr 0 4 0)] (mkH [J,j]) ?_
 refine oX (λ(a:(S31×Int))=>n32 a.1) (λa=>[⟨[.str l,w39 m,.i a.2,.i n],4,false⟩,j]) (atN 2 (ctl1 i54p1)) 5 [0] [] [] [0] [] [.ptr 0 4 0,.i 1] (E.i9_ok (1:Int) l m x n) trivial (λ_=>trivial) trivial λa K=>?_
 let q:Blk:=⟨[.str l,w39 m,.i a.2,.i n],4,false⟩
 refine oH 1 (atN 3 (ctl1 i54p1)) [(6,.slice 2 7 0 1 7),(5,n32 a.1),(4,.ptr 0 4 0),(2,.ptr 1 7 0),(0,.ptr 0 4 0)] (mkH [q,j,⟨e32 a.1,0,false⟩]) ?_
 refine oZ 6 2 1 7 [.i a.1.f0,.str a.1.f1,q32 a.1.f2,.bool a.1.f3,.bool a.1.f4,w9 a.1.f5,w9 a.1.f6] [0,2,4,5] [] trivial ?_
 let g:Blk:=⟨[.i 23,.str [],w32 ([a.1]:List S31),.bool false,.bool false,.nils,.nils],7,false⟩
 refine oH 5 i54p2 [(3,.ptr 3 7 0),(7,.agg [.i 23,.str [],w32 ([a.1]:List S31),.bool false,.bool false,.nils,.nils]),(6,w32 ([a.1]:List S31)),(0,.ptr 0 4 0),(2,.ptr 1 7 0),(4,.ptr 0 4 0),(5,n32 a.1)] (mkH [q,j,⟨[],0,false⟩,g]) ?_
 refine qCe (λh=>?_) (λb u=>?_)
 ·let o:Env:=[(10,.ptr 0 4 0),(9,.agg [.i 23,.str [],w32 ([a.1]:List S31),.bool false,.bool false,.nils,.nils]),(8,.ptr 0 4 0),(3,.ptr 3 7 0),(7,.agg [.i 23,.str [],w32 ([a.1]:List S31),.bool false,.bool false,.nils,.nils]),(6,w32 ([a.1]:List S31)),(0,.ptr 0 4 0),(2,.ptr 1 7 0),(4,.ptr 0 4 0),(5,n32 a.1)]
  exact qAm (eE:=((12,.top)::(11,.top)::o)) (i54d0.th 3 thrown [0] (mkH [q,j,⟨[],0,false⟩,g])) (hs:=[(mkH [q,j,⟨[],0,false⟩,g]),(mkH [q,j,⟨[],0,false⟩,g]),(mkH [q,j,⟨[],0,false⟩,g])]) (LX:=[J]) (L:=[q,j,⟨[],0,false⟩,g]) rfl rfl rfl Kr rfl ⟨.inl rfl,trivial⟩ Kr Kr Kr Kr (qA8 3 (l':=(opsAt i54p2).toList.drop 3) (eE:=o) (H':=(mkH [q,j,⟨[],0,false⟩,g])) (hs:=[]) Kr (qAh (l':=(opsAt i54p2).toList.drop 4) (eE:=((11,.top)::o)) (hs:=[(mkH [q,j,⟨[],0,false⟩,g])]) (fi:=64) (args:=[.ptr 0 4 0]) Kr Kr (frS 0 (M:=[q,j,⟨[],0,false⟩,g]) (rs:=[0]) (ms:=[]) (mv:=[]) (mm:=[]) (D:=[0]) (xs':=[.ptr 0 4 0]) (.refl) ((E.i26_ok l m a.2 n).2 h) trivial trivial Kr) Kr (qA0 (l':=(opsAt i54p2).toList.drop 5) (eE:=((12,.top)::(11,.top)::o)) (hs:=[(mkH [q,j,⟨[],0,false⟩,g])]) Kr Kr (qA0 (l':=(opsAt i54p2).toList.drop 6) (eE:=((12,.top)::(11,.top)::o)) (hs:=[(mkH [q,j,⟨[],0,false⟩,g])]) Kr Kr (.nil))))) Kr Kr
 ·refine qCe (λh=>?_) (λc C=>?_)
  ·let o:Env:=[(10,.ptr 0 4 0),(9,.agg [.i 23,.str [],w32 ([a.1]:List S31),.bool false,.bool false,.nils,.nils]),(8,.ptr 0 4 0),(3,.ptr 3 7 0),(7,.agg [.i 23,.str [],w32 ([a.1]:List S31),.bool false,.bool false,.nils,.nils]),(6,w32 ([a.1]:List S31)),(0,.ptr 0 4 0),(2,.ptr 1 7 0),(4,.ptr 0 4 0),(5,n32 a.1)]
   let A:Blk:=⟨[.str l,w39 m,.i b.2,.i n],4,false⟩
   exact qAm (eE:=((12,.top)::(11,n32 b.1)::o)) (i54d0.th 4 thrown [0] (mkH [A,j,⟨[],0,false⟩,g])) (hs:=[(mkH [A,j,⟨[],0,false⟩,g]),(mkH [A,j,⟨[],0,false⟩,g]),(mkH [A,j,⟨[],0,false⟩,g])]) (LX:=[J]) (L:=[A,j,⟨[],0,false⟩,g]) rfl rfl rfl Kr rfl ⟨.inl rfl,trivial⟩ Kr Kr Kr Kr (qA8 3 (l':=(opsAt i54p2).toList.drop 3) (eE:=o) (H':=(mkH [q,j,⟨[],0,false⟩,g])) (hs:=[]) Kr (qA5 (l':=(opsAt i54p2).toList.drop 4) (eE:=((11,n32 b.1)::o)) (hs:=[(mkH [A,j,⟨[],0,false⟩,g])]) (H':=(mkH [A,j,⟨[],0,false⟩,g])) (fi:=64) (args:=[.ptr 0 4 0]) (v:=n32 b.1) Kr (frC (rs:=[0]) (ms:=[]) (ms':=[]) ((E.i26_ok l m a.2 n).1 b u) trivial trivial Kr) Kr (qAh (l':=(opsAt i54p2).toList.drop 5) (eE:=((12,.top)::(11,n32 b.1)::o)) (hs:=[(mkH [A,j,⟨[],0,false⟩,g])]) (fi:=63) (args:=[.ptr 0 4 0,.str [],.agg [.i 23,.str [],w32 ([a.1]:List S31),.bool false,.bool false,.nils,.nils],n32 b.1]) Kr Kr (frS 0 (M:=[A,j,⟨[],0,false⟩,g]) (rs:=[0]) (ms:=[]) (mv:=[]) (mm:=[]) (D:=[0]) (xs':=[.ptr 0 4 0,.str [],.agg [.i 23,.str [],w32 ([a.1]:List S31),.bool false,.bool false,w9 ([]:LL),w9 ([]:LL)],n32 b.1]) (.cons (.cons (.agg (.cons (.cons (.cons (.cons (.cons (.nil (.nil (.refl)))))))) (.refl)))) ((E.i27_ok ([]:LN) (⟨23,([]:LN),(⟨(([a.1]:List S31)).length,(([a.1]:List S31)).flatMap e32⟩:Raw),false,false,([]:LL),([]:LL)⟩:S31) b.1 l m b.2 n).2 h) trivial trivial Kr) Kr (qA0 (l':=(opsAt i54p2).toList.drop 6) (eE:=((12,.top)::(11,n32 b.1)::o)) (hs:=[(mkH [A,j,⟨[],0,false⟩,g])]) Kr Kr (.nil))))) Kr Kr
  ·let o:Env:=[(10,.ptr 0 4 0),(9,.agg [.i 23,.str [],w32 ([a.1]:List S31),.bool false,.bool false,.nils,.nils]),(8,.ptr 0 4 0),(3,.ptr 3 7 0),(7,.agg [.i 23,.str [],w32 ([a.1]:List S31),.bool false,.bool false,.nils,.nils]),(6,w32 ([a.1]:List S31)),(0,.ptr 0 4 0),(2,.ptr 1 7 0),(4,.ptr 0 4 0),(5,n32 a.1)]
   let B:Blk:=⟨[.str l,w39 m,.i c.2,.i n],4,false⟩
   let G:Blk:=⟨[.str l,w39 m,.i b.2,.i n],4,false⟩
   refine oD (H':=(mkH [B,⟨e32 c.1,7,false⟩,⟨[],0,false⟩,g])) (nav [0] i54p2) ((12,n32 c.1)::(11,n32 b.1)::o) [(mkH [G,j,⟨[],0,false⟩,g]),(mkH [B,j,⟨[],0,false⟩,g]),(mkH [B,⟨e32 c.1,7,false⟩,⟨[],0,false⟩,g])] i54d0 (oDr 3 3 o (qA5 (l':=(opsAt i54p2).toList.drop 4) (eE:=((11,n32 b.1)::o)) (hs:=[(mkH [G,j,⟨[],0,false⟩,g])]) (H':=(mkH [G,j,⟨[],0,false⟩,g])) (fi:=64) (args:=[.ptr 0 4 0]) (v:=n32 b.1) Kr (frC (rs:=[0]) (ms:=[]) (ms':=[]) ((E.i26_ok l m a.2 n).1 b u) trivial trivial Kr) Kr (qA5 (l':=(opsAt i54p2).toList.drop 5) (eE:=((12,n32 c.1)::(11,n32 b.1)::o)) (hs:=[(mkH [B,j,⟨[],0,false⟩,g])]) (H':=(mkH [B,j,⟨[],0,false⟩,g])) (fi:=63) (args:=[.ptr 0 4 0,.str [],.agg [.i 23,.str [],w32 ([a.1]:List S31),.bool false,.bool false,.nils,.nils],n32 b.1]) (v:=n32 c.1) Kr (frW 0 [G,j,⟨[],0,false⟩,g] (rs:=[0]) (ms:=[]) (ms':=[]) (mv:=[]) (xs':=[.ptr 0 4 0,.str [],.agg [.i 23,.str [],w32 ([a.1]:List S31),.bool false,.bool false,w9 ([]:LL),w9 ([]:LL)],n32 b.1]) (.cons (.cons (.agg (.cons (.cons (.cons (.cons (.cons (.nil (.nil (.refl)))))))) (.refl)))) ((E.i27_ok ([]:LN) (⟨23,([]:LN),(⟨(([a.1]:List S31)).length,(([a.1]:List S31)).flatMap e32⟩:Raw),false,false,([]:LL),([]:LL)⟩:S31) b.1 l m b.2 n).1 c C) trivial trivial Kr) Kr (oDh 1 6 ((12,n32 c.1)::(11,n32 b.1)::o) (mkH [B,⟨e32 c.1,7,false⟩,⟨[],0,false⟩,g]) [(mkH [B,⟨e32 c.1,7,false⟩,⟨[],0,false⟩,g])] .nil)))) ?_
   exact oQF 1 [B,⟨e32 c.1,7,false⟩,⟨[],0,false⟩,g] 1 [] [n32 c.1] (n32 c.1) .ps trivial
theorem i54B_ok (k:Nat) (F:Fns0) (a:FnsOk0 F):Pi54 (i54B k F):=λb c g j=>⟨λx h=>qKx k F a b c g j (some x) h,λh=>⟨_,qKx k F a b c g j none h⟩⟩
def i55p1:Pt:=nav [0,0,0] (nav [0] (bodyAt Try.f103))
def i55B (k:Nat) (F:Fns0) (c:LN) (g:List S38) (j:Int) (h:Int):Option (Option (S31×Int)) :=
 bT (F.i37 c g j h) λa=>bT (F.i27 ([]:LN) (⟨23,([]:LN),(⟨(([]:List S31)).length,(([]:List S31)).flatMap e32⟩:Raw),false,false,([]:LL),([]:LL)⟩:S31) a.1 c g a.2 h) λb=>some (some (b.1,b.2))
theorem qKw (k:Nat) (F:Fns0) (q:FnsOk0 F):∀ c g l j r,i55B k F c g l j=some r→CallT Try.prog 103 [.ptr 0 4 0] (mkH [⟨[.str c,w39 g,.i l,.i j],4,false⟩]) ((Xi55 c g l j).thr r) ((Xi55 c g l j).enc r) ((Xi55 c g l j).fin r):=by
 intro c g l j r h
 refine qA1 (Xi55 c g l j) Try.func103 Kr Kr rfl (t:=i55B k F c g l j) ?_ h
 unfold i55B
 refine qA (eE:=[(0,.ptr 0 4 0)]) Kr ?_
 let m:Blk:=⟨[.i 0,.str [],.nils,.bool false,.bool false,.nils,.nils],0,false⟩
 refine oH 9 (atN 3 (ctl1 i55p1)) [(5,.ptr 0 4 0),(4,.agg [.i 23,.str [],.nils,.bool false,.bool false,.nils,.nils]),(3,.ptr 0 4 0),(2,.ptr 1 7 0),(0,.ptr 0 4 0)] (mkH [⟨[.str c,w39 g,.i l,.i j],4,false⟩,m]) ?_
 refine oX (λ(a:(S31×Int))=>n32 a.1) (λa=>[⟨[.str c,w39 g,.i a.2,.i j],4,false⟩,m]) (atN 4 (ctl1 i55p1)) 6 [0] [] [] [0] [] [.ptr 0 4 0] (q.i37_ok c g l j) trivial (λ_=>trivial) trivial λa n=>?_
 refine oXW 0 [⟨[.str c,w39 g,.i a.2,.i j],4,false⟩,m] (λ(b:(S31×Int))=>n32 b.1) (λb=>[⟨[.str c,w39 g,.i b.2,.i j],4,false⟩,m]) (atN 5 (ctl1 i55p1)) 7 [0] [] [] [0] [] [] [.ptr 0 4 0,.str [],.agg [.i 23,.str [],.nils,.bool false,.bool false,.nils,.nils],n32 a.1] [.ptr 0 4 0,.str [],.agg [.i 23,.str [],w32 ([]:List S31),.bool false,.bool false,w9 ([]:LL),w9 ([]:LL)],n32 a.1] (.cons (.cons (.agg (.cons (.cons (.nil (.cons (.cons (.nil (.nil (.refl)))))))) (.refl)))) (q.i27_ok ([]:LN) (⟨23,([]:LN),(⟨(([]:List S31)).length,(([]:List S31)).flatMap e32⟩:Raw),false,false,([]:LL),([]:LL)⟩:S31) a.1 c g a.2 j) trivial (λ_=>trivial) trivial λb o=>?_
 exact oQF 3 [⟨[.str c,w39 g,.i b.2,.i j],4,false⟩,⟨e32 b.1,7,false⟩] 1 [] [n32 b.1] (n32 b.1) .ps trivial
theorem i55B_ok (k:Nat) (F:Fns0) (a:FnsOk0 F):Pi55 (i55B k F):=λb c g j=>⟨λx h=>qKw k F a b c g j (some x) h,λh=>⟨_,qKw k F a b c g j none h⟩⟩
def i8p1:Pt:=nav [0,0,0] (nav [0] (bodyAt Try.f54))
def i8p2:Pt:=nav [0,0,0] i8p1
def i8B (k:Nat) (F:Fns0) (c:LN) (g:List S38) (j:Int) (h:Int):Option (Option (S31×Int)) :=
 bT (i14 k ([40]:LN) c g j h) λb=>bT (F.i15 (23:Int) ([]:LN) false false ([]:LL) ([]:LL) ([41]:LN) c g b h ([]:List S31)) λa=>some (some ((⟨a.1,a.2.1,⟨(a.2.2.2.2.2.2.2).length,(a.2.2.2.2.2.2.2).flatMap e32⟩,a.2.2.1,a.2.2.2.1,a.2.2.2.2.1,a.2.2.2.2.2.1⟩:S31),a.2.2.2.2.2.2.1))
theorem qOb (k:Nat) (F:Fns0) (q:FnsOk0 F):∀ c g l j r,i8B k F c g l j=some r→CallT Try.prog 54 [.ptr 0 4 0] (mkH [⟨[.str c,w39 g,.i l,.i j],4,false⟩]) ((Xi8 c g l j).thr r) ((Xi8 c g l j).enc r) ((Xi8 c g l j).fin r):=by
 intro c g l j r h
 refine qA1 (Xi8 c g l j) Try.func54 Kr Kr rfl (t:=i8B k F c g l j) ?_ h
 unfold i8B
 refine qA (eE:=[(0,.ptr 0 4 0)]) Kr ?_
 let m:Blk:=⟨[.i 0,.str [],.nils,.bool false,.bool false,.nils,.nils],0,false⟩
 refine oH 7 (atN 1 (ctl1 i8p1)) [(3,.ptr 0 4 0),(2,.ptr 1 7 0),(0,.ptr 0 4 0)] (mkH [⟨[.str c,w39 g,.i l,.i j],4,false⟩,m]) ?_
 refine oX (λ(b:Int) => .tuple []) (λb=>[⟨[.str c,w39 g,.i b,.i j],4,false⟩,m]) (atN 2 (ctl1 i8p1)) 4 [0] [] [] [0] [] [.ptr 0 4 0,.str [40]] (qB2 k ([40]:LN) c g l j) trivial (λ_=>trivial) trivial λb n=>?_
 refine oR 7 (atN 4 (ctl1 i8p2)) [(8,.func 70 [.ptr 0 4 0] []),(7,.ptr 0 4 0),(6,.agg [.i 23,.str [],.nils,.bool false,.bool false,.nils,.nils]),(5,.ptr 0 4 0),(4,.tuple []),(3,.ptr 0 4 0),(2,.ptr 1 7 0),(0,.ptr 0 4 0)] ?_
 refine oXW 1 [⟨[.str c,w39 g,.i b,.i j],4,false⟩,m,⟨(([]:List S31)).flatMap e32,0,false⟩] (λ(a:Ri15) => .agg [.i a.1,.str a.2.1,.own 2 (a.2.2.2.2.2.2.2).length 7,.bool a.2.2.1,.bool a.2.2.2.1,w9 a.2.2.2.2.1,w9 a.2.2.2.2.2.1]) (λa=>[⟨[.str c,w39 g,.i a.2.2.2.2.2.2.1,.i j],4,false⟩,m,⟨(a.2.2.2.2.2.2.2).flatMap e32,0,false⟩]) (atN 5 (ctl1 i8p2)) 9 [0,2] [0,1] [0,1] [0,2] [] [0,0,1] [.ptr 0 4 0,.agg [.i 23,.str [],.nils,.bool false,.bool false,.nils,.nils],.str [41],.func 70 [.ptr 0 4 0] []] [.ptr 0 4 0,.agg [.i 23,.str [],.own 2 (([]:List S31)).length 7,.bool false,.bool false,w9 ([]:LL),w9 ([]:LL)],.str [41],.func 70 [.ptr 0 4 0] []] (.cons (.agg (.cons (.cons (.none (.cons (.cons (.nil (.nil (.refl)))))))) (.refl))) (q.i15_ok (23:Int) ([]:LN) false false ([]:LL) ([]:LL) ([41]:LN) c g b j ([]:List S31)) ⟨u32 _,trivial⟩ (λ_=>⟨u32 _,trivial⟩) trivial λa o=>?_
 exact oQF 3 [⟨[.str c,w39 g,.i a.2.2.2.2.2.2.1,.i j],4,false⟩,⟨[.i a.1,.str a.2.1,.own 2 (a.2.2.2.2.2.2.2).length 7,.bool a.2.2.1,.bool a.2.2.2.1,w9 a.2.2.2.2.1,w9 a.2.2.2.2.2.1],7,false⟩,⟨(a.2.2.2.2.2.2.2).flatMap e32,0,false⟩] 1 [] [.agg [.i a.1,.str a.2.1,.own 2 (a.2.2.2.2.2.2.2).length 7,.bool a.2.2.1,.bool a.2.2.2.1,w9 a.2.2.2.2.1,w9 a.2.2.2.2.2.1]] (.agg [.i a.1,.str a.2.1,w32 a.2.2.2.2.2.2.2,.bool a.2.2.1,.bool a.2.2.2.1,w9 a.2.2.2.2.1,w9 a.2.2.2.2.2.1]) (.agg (.cs (.cs (qAw qA4 qAg rfl rfl rfl .ps))) .ps) trivial
theorem i8B_ok (k:Nat) (F:Fns0) (a:FnsOk0 F):Pi8 (i8B k F):=λb c g j=>⟨λx h=>qOb k F a b c g j (some x) h,λh=>⟨_,qOb k F a b c g j none h⟩⟩
def i9p1:Pt:=nav [0,0,0,0] (nav [0] (bodyAt Try.f57))
def i9p2:Pt:=nav [0,0] i9p1
def i9p3:Pt:=nav [1,0] i9p2
def i9p4:Pt:=nav [2,0,0] i9p2
def i9p6:Pt:=nav [0,0,0,0,0] i9p4
def i9p8:Pt:=nav [0,0] (nav [0,0,0] i9p6)
def i9p9:Pt:=nav [1,0,0,0] i9p8
def i9p10:Pt:=nav [2,0,0] i9p8
def i9p11:Pt:=nav [0,0,0] i9p9
def i9p12:Pt:=nav [0,0,0,0] i9p11
def i9p13:Pt:=nav [0,0] i9p12
def i9p14:Pt:=nav [2,0,0] i9p13
def i9p15:Pt:=nav [0,0] i9p14
def i9d0:DP:=⟨[59],[(0,0,0),(1,0,2),(0,0,2),(0,0,0),(0,0,0),(16,0,0),(48,0,0),(120,0,0),(252,0,0),(511,0,0),(0,0,0),(1023,0,0),(4095,0,0)],13,thrown,[],H0⟩
def qO9 (k:Nat) (F:Fns0)  (D:Int) (A:LN) (B:List S38) (E:Int) (C:Int) (ih:Int→Int→S31→Option (Option (S31×Int))):Int→Int→S31→Option (Option (S31×Int)) :=
 λ(n:Int) (a:Int) (c:S31)=>jn (λ(o:Int×S31)=>some (some (o.2,o.1))) (λq=>if (decide (D≤9)) then ((i13 k A B a C).bind λb=>(g73 k b.f1).bind λj=>(i7 k b.f1 A B a C).bind λr=>jn (λ(g:Bool×Int×S31)=>if g.1 then (q (g.2.1,g.2.2)) else (bT (i17 k A B g.2.1 C) λu=>(g75 k b.f1).bind λx=>bT (F.i9 x A B u C) λh=>ih j h.2 (⟨14,b.f1,(⟨(([g.2.2,h.1]:List S31)).length,(([g.2.2,h.1]:List S31)).flatMap e32⟩:Raw),false,false,([]:LL),([]:LL)⟩:S31))) (λl=>if (!r) then (l (true,a,c)) else (if (decide (j < maxI D 1)) then (l (true,a,c)) else ((g74 k b.f1).bind λm=>l (decide (n < m),a,c))))) else (q (a,c)))
def i9_l9 (k:Nat) (F:Fns0)  (a:Int) (b:LN) (c:List S38) (g:Int) (h:Int) (n:Nat):Int→Int→S31→Option (Option (S31×Int)):=lp (λ_ _ _=>none) (qO9 k F a b c g h) n
theorem i9_l9_ok (k:Nat) (F:Fns0) (hF:FnsOk0 F) (u:Int) (x:LN) (A:List S38) (Y:Int) (B:Int)    : ∀ (n:Nat) (o:Int) (m:Int) (c:S31),Ok (Xi9 u x A Y B) i9p6 [(0,.ptr 0 4 0),(1,.i u),(4,.ptr 1 7 0),(5,.ptr 2 7 0),(6,.i o)] (mkH [⟨[.str x,w39 A,.i m,.i B],4,false⟩,⟨[.i 0,.str [],.nils,.bool false,.bool false,.nils,.nils],0,false⟩,⟨[.i c.f0,.str c.f1,q32 c.f2,.bool c.f3,.bool c.f4,w9 c.f5,w9 c.f6],7,false⟩]) (i9_l9 k F u x A Y B n o m c):=by
 intro n
 induction n with
 | zero=>intro o m c; exact ok_none
 | succ n ih =>
  intro o m c
  show Ok _ _ _ _ (qO9 k F u x A Y B (i9_l9 k F u x A Y B n) o m c)
  unfold qO9
  refine qAk (p':=nav [0] i9p6) Kr ?_
  let E6:Env:=[(25,.bool (decide (u≤9))),(24,.i u),(0,.ptr 0 4 0),(1,.i u),(4,.ptr 1 7 0),(5,.ptr 2 7 0),(6,.i o)]
  let Z:Blk:=⟨[.str x,w39 A,.i m,.i B],4,false⟩
  let C:Blk:=⟨[.i 0,.str [],.nils,.bool false,.bool false,.nils,.nils],0,false⟩
  refine oH 6 i9p8 E6 (mkH [Z,C,⟨e32 c,7,false⟩]) ?_
  refine oJ i9p10 (λ(G:Int×S31)=>[(4,.ptr 1 7 0),(5,.ptr 2 7 0)]) (λ(G:Int×S31)=>(mkH [⟨[.str x,w39 A,.i G.1,.i B],4,false⟩,C,⟨e32 G.2,7,false⟩])) (λG=>?_) (λc5 T=>?_)
  ·exact oQF 5 [⟨[.str x,w39 A,.i G.1,.i B],4,false⟩,⟨e32 G.2,7,false⟩,⟨e32 G.2,7,false⟩] 1 [] [n32 G.2] (n32 G.2) .ps trivial
  ·refine oS 25 (λV=>?_) (λV=>?_)
   ·refine oH 6 (atN 1 (ctl1 i9p9)) ((26,.ptr 0 4 0)::(25,.bool true)::E6) (mkH [Z,C,⟨e32 c,7,false⟩]) ?_
    refine oN (λ(a:S38)=>n39 a) (λa=>[Z,C,⟨e32 c,7,false⟩]) (atN 2 (ctl1 i9p9)) 27 [0] [] [] [.ptr 0 4 0] (qG2 k x A m B) trivial (λ_=>trivial) λa b3=>?_
    let E7:Env:=((29,.str a.f1)::(28,.ptr 3 3 1)::(7,.ptr 3 3 0)::(27,n39 a)::(26,.ptr 0 4 0)::(25,.bool true)::E6)
    let K1:List Blk:=[Z,C,⟨e32 c,7,false⟩,⟨e39 a,3,false⟩]
    refine oH 7 (atN 2 (ctl1 i9p11)) E7 (mkH K1) ?_
    refine oA (λ(b:Int) => .i b) (atN 3 (ctl1 i9p11)) 30 [.str a.f1] (qG4 k a.f1) λb b5=>?_
    refine oR 4 i9p12 ((8,.i b)::(30,.i b)::E7) ?_
    refine oK0 [0,1,4,5,6,7,8] ?_
    let E8:Env:=keepOnly ((8,.i b)::(30,.i b)::E7) [0,1,4,5,6,7,8]
    refine oR 4 (atN 3 (ctl1 i9p12)) ((33,.str a.f1)::(32,.ptr 3 3 1)::(31,.ptr 0 4 0)::E8) ?_
    refine oN (λ(E:Bool) => .bool E) (λE=>K1) (atN 4 (ctl1 i9p12)) 34 [0] [] [] [.ptr 0 4 0,.str a.f1] (qMj k a.f1 x A m B) trivial (λ_=>trivial) λE b6=>?_
    let E9:Env:=((36,.bool (!E))::(35,.bool (!E))::(34,.bool E)::(33,.str a.f1)::(32,.ptr 3 3 1)::(31,.ptr 0 4 0)::E8)
    refine oR 2 (atN 6 (ctl1 i9p12)) E9 ?_
    refine oJ i9p13 (λ(g:Bool×Int×S31)=>[(0,.ptr 0 4 0),(1,.i u),(4,.ptr 1 7 0),(5,.ptr 2 7 0),(7,.ptr 3 3 0),(8,.i b),(48,.bool g.1)]) (λ(g:Bool×Int×S31)=>(mkH [⟨[.str x,w39 A,.i g.2.1,.i B],4,false⟩,C,⟨e32 g.2.2,7,false⟩,⟨e39 a,3,false⟩])) (λg=>?_) (λc6 K=>?_)
    ·refine oS 48 (λV=>?_) (λV=>?_)
     ·let Q3:Blk:=⟨[.str x,w39 A,.i g.2.1,.i B],4,false⟩
      refine oLH 3 i9p10 [(4,.ptr 1 7 0),(5,.ptr 2 7 0)] (mkH [Q3,C,⟨e32 g.2.2,7,false⟩,⟨e39 a,3,false⟩]) ?_
      refine qA9 [Q3,C,⟨e32 g.2.2,7,false⟩] [⟨e39 a,3,false⟩] Kr rfl Kr ⟨Kr,⟨Kr,⟨Kr,trivial⟩⟩⟩ ?_
      exact T (g.2.1,g.2.2)
     ·let a5:Env:=[(49,.ptr 0 4 0),(48,.bool false),(0,.ptr 0 4 0),(1,.i u),(4,.ptr 1 7 0),(5,.ptr 2 7 0),(7,.ptr 3 3 0),(8,.i b),(48,.bool g.1)]
      refine oH 5 (atN 1 (ctl1 i9p14)) a5 (mkH [⟨[.str x,w39 A,.i g.2.1,.i B],4,false⟩,C,⟨e32 g.2.2,7,false⟩,⟨e39 a,3,false⟩]) ?_
      refine oX (λ(q:Int) => .tuple []) (λq=>[⟨[.str x,w39 A,.i q,.i B],4,false⟩,C,⟨e32 g.2.2,7,false⟩,⟨e39 a,3,false⟩]) (atN 2 (ctl1 i9p14)) 50 [0] [] [] [] [] [.ptr 0 4 0] (qG1 k x A g.2.1 B) trivial (λ_=>trivial) trivial λq b7=>?_
      refine oR 1 i9p15 ((50,.tuple [])::a5) ?_
      refine qA7 (λj N=>?_)
      refine qCe (λh=>?_) (λl W=>?_)
      ·let r:Env:=[(56,.str a.f1),(55,.ptr 3 3 1),(54,.ptr 0 4 0),(53,n32 g.2.2),(52,.str a.f1),(51,.ptr 3 3 1),(50,.tuple []),(49,.ptr 0 4 0),(48,.bool false),(0,.ptr 0 4 0),(1,.i u),(4,.ptr 1 7 0),(5,.ptr 2 7 0),(7,.ptr 3 3 0),(8,.i b),(48,.bool g.1)]
       let S:Env:=((61,.i b)::(60,.top)::(59,.top)::(58,.top)::(57,.i j)::r)
       let O:List Blk:=[⟨[.str x,w39 A,.i q,.i B],4,false⟩,C,⟨e32 g.2.2,7,false⟩,⟨e39 a,3,false⟩]
       exact qAm (eE:=((6,.top)::S)) (i9d0.th 7 thrown [0] (mkH O)) (hs:=[(mkH O),(mkH O),(mkH O)]) (LX:=[⟨[.str x,w39 A,.i Y,.i B],4,false⟩]) (L:=O) rfl rfl rfl Kr rfl ⟨.inl rfl,trivial⟩ Kr Kr Kr Kr (qA8 6 (l':=(opsAt i9p15).toList.drop 6) (eE:=r) (H':=(mkH O)) (hs:=[]) Kr (qAs (l':=(opsAt i9p15).toList.drop 7) (eE:=((57,.i j)::r)) (hs:=[(mkH O)]) (fi:=75) (args:=[.str a.f1]) (v := .i j) Kr Kr Kr (g75_ok k a.f1 j N) Kr (qAh (l':=(opsAt i9p15).toList.drop 8) (eE:=((58,.top)::(57,.i j)::r)) (hs:=[(mkH O)]) (fi:=57) (args:=[.ptr 0 4 0,.i j]) Kr Kr (frS 0 (M:=O) (rs:=[0]) (ms:=[]) (mv:=[]) (mm:=[]) (D:=[0]) (xs':=[.ptr 0 4 0,.i j]) (.refl) ((hF.i9_ok j x A q B).2 h) trivial trivial Kr) Kr (qA0 (l':=(opsAt i9p15).toList.drop 9) (eE:=((59,.top)::(58,.top)::(57,.i j)::r)) (hs:=[]) Kr Kr (qA0 (l':=(opsAt i9p15).toList.drop 10) (eE:=((60,.top)::(59,.top)::(58,.top)::(57,.i j)::r)) (hs:=[]) Kr Kr (qA8 1 (l':=(opsAt i9p15).toList.drop 11) (eE:=S) (H':=(mkH O)) (hs:=[]) Kr (qA0 (l':=(opsAt i9p15).toList.drop 12) (eE:=S) (hs:=[(mkH O)]) Kr Kr (qA0 (l':=(opsAt i9p15).toList.drop 13) (eE:=((6,.top)::S)) (hs:=[]) Kr Kr (.nil))))))))) Kr Kr
      ·let r:Env:=[(56,.str a.f1),(55,.ptr 3 3 1),(54,.ptr 0 4 0),(53,n32 g.2.2),(52,.str a.f1),(51,.ptr 3 3 1),(50,.tuple []),(49,.ptr 0 4 0),(48,.bool false),(0,.ptr 0 4 0),(1,.i u),(4,.ptr 1 7 0),(5,.ptr 2 7 0),(7,.ptr 3 3 0),(8,.i b),(48,.bool g.1)]
       let a6:Env:=((6,.i b)::(61,.i b)::(60,.agg [.i 14,.str a.f1,w32 ([g.2.2,l.1]:List S31),.bool false,.bool false,.nils,.nils])::(59,w32 ([g.2.2,l.1]:List S31))::(58,n32 l.1)::(57,.i j)::r)
       let U:Blk:=⟨[.str x,w39 A,.i l.2,.i B],4,false⟩
       let Q6:Blk:=⟨[.i 14,.str a.f1,w32 ([g.2.2,l.1]:List S31),.bool false,.bool false,.nils,.nils],7,false⟩
       let K3:List Blk:=[⟨[.str x,w39 A,.i q,.i B],4,false⟩,C,⟨e32 g.2.2,7,false⟩,⟨e39 a,3,false⟩]
       let K4:List Blk:=[U,C,⟨e32 g.2.2,7,false⟩,⟨e39 a,3,false⟩]
       refine oD (H':=(mkH [U,C,Q6,⟨e39 a,3,false⟩])) (nav [0] i9p15) a6 [(mkH K3),(mkH K4),(mkH [U,C,Q6,⟨e39 a,3,false⟩])] i9d0 (oDr 6 6 r (qAs (l':=(opsAt i9p15).toList.drop 7) (eE:=((57,.i j)::r)) (hs:=[(mkH K3)]) (fi:=75) (args:=[.str a.f1]) (v := .i j) Kr Kr Kr (g75_ok k a.f1 j N) Kr (qA5 (l':=(opsAt i9p15).toList.drop 8) (eE:=((58,n32 l.1)::(57,.i j)::r)) (hs:=[(mkH K4)]) (H':=(mkH K4)) (fi:=57) (args:=[.ptr 0 4 0,.i j]) (v:=n32 l.1) Kr (frC (rs:=[0]) (ms:=[]) (ms':=[]) ((hF.i9_ok j x A q B).1 l W) trivial trivial Kr) Kr (oDh 5 13 a6 (mkH [U,C,Q6,⟨e39 a,3,false⟩]) [(mkH [U,C,Q6,⟨e39 a,3,false⟩])] .nil)))) ?_
       refine qBu [U,C,Q6,⟨e39 a,3,false⟩] 2 7 [.i 14,.str a.f1,w32 ([g.2.2,l.1]:List S31),.bool false,.bool false,.nils,.nils] [.i 14,.str a.f1,w32 ([g.2.2,l.1]:List S31),.bool false,.bool false,w9 ([]:LL),w9 ([]:LL)] Kr rfl (.cons (.cons (.cons (.cons (.cons (.nil (.nil (.refl)))))))) ?_
       let Q8:Blk:=⟨[.i 14,.str a.f1,w32 ([g.2.2,l.1]:List S31),.bool false,.bool false,w9 ([]:LL),w9 ([]:LL)],7,false⟩
       refine oHp (mkH [U,C,Q8,⟨e39 a,3,false⟩]) ?_
       refine oK [0,1,4,5,6] [(0,.ptr 0 4 0),(1,.i u),(4,.ptr 1 7 0),(5,.ptr 2 7 0),(6,.i b)] ?_
       refine qA9 [U,C,Q8] [⟨e39 a,3,false⟩] Kr rfl Kr ⟨Kr,⟨Kr,⟨Kr,trivial⟩⟩⟩ ?_
       exact ih b l.2 (⟨14,a.f1,(⟨(([g.2.2,l.1]:List S31)).length,(([g.2.2,l.1]:List S31)).flatMap e32⟩:Raw),false,false,([]:LL),([]:LL)⟩:S31)
    ·refine oS 36 (λV=>?_) (λV=>?_)
     ·refine oLH 13 i9p13 [(0,.ptr 0 4 0),(1,.i u),(4,.ptr 1 7 0),(5,.ptr 2 7 0),(7,.ptr 3 3 0),(8,.i b),(48,.bool true)] (mkH K1) ?_
      exact K (true,m,c)
     ·let a8:Env:=((42,.bool (decide (b < maxI u 1)))::(41,.bool (decide (b < maxI u 1)))::(40,.bool (decide (b < maxI u 1)))::(39,.i (maxI u 1))::(38,.i u)::(37,.i b)::(36,.bool false)::E9)
      refine oH 6 (atN 12 (ctl1 i9p12)) a8 (mkH K1) ?_
      refine oS 42 (λV=>?_) (λV=>?_)
      ·refine oL 7 i9p13 [(0,.ptr 0 4 0),(1,.i u),(4,.ptr 1 7 0),(5,.ptr 2 7 0),(7,.ptr 3 3 0),(8,.i b),(48,.bool true)] ?_
       exact K (true,m,c)
      ·refine oR 3 (atN 15 (ctl1 i9p12)) ((45,.str a.f1)::(44,.ptr 3 3 1)::(43,.i o)::(42,.bool false)::a8) ?_
       refine oA (λ(J:Int) => .i J) (atN 16 (ctl1 i9p12)) 46 [.str a.f1] (g74_ok k a.f1) λJ b1=>?_
       refine oL 3 i9p13 [(0,.ptr 0 4 0),(1,.i u),(4,.ptr 1 7 0),(5,.ptr 2 7 0),(7,.ptr 3 3 0),(8,.i b),(48,.bool (decide (o < J)))] ?_
       exact K (decide (o < J),m,c)
   ·refine oLH 3 i9p10 [(4,.ptr 1 7 0),(5,.ptr 2 7 0)] (mkH [Z,C,⟨e32 c,7,false⟩]) ?_
    exact T (m,c)
def i9B (k:Nat) (F:Fns0) (n:Int) (g:LN) (h:List S38) (l:Int) (j:Int):Option (Option (S31×Int)) :=
 jn (λ(m:Bool×Int)=>if m.1 then (bT (F.i9 (0:Int) g h m.2 j) λa=>some (some ((⟨(13:Int),([99,97,116,99,104]:LN),⟨(([a.1]:List S31)).length,(([a.1]:List S31)).flatMap e32⟩,false,false,([]:LL),([]:LL)⟩:S31),a.2))) else (bT (F.i16 g h m.2 j) λb=>i9_l9 k F n g h l j k b.2.1 b.2.2 b.1)) (λo=>if (decide (n≤0)) then (bT (i11 k ([99,97,116,99,104]:LN) g h l j) λc=>o (c.1,c.2)) else (o (false,l)))
theorem qOa (k:Nat) (F:Fns0) (x:FnsOk0 F):∀ m g j n l r,i9B k F m g j n l=some r→CallT Try.prog 57 [.ptr 0 4 0,.i m] (mkH [⟨[.str g,w39 j,.i n,.i l],4,false⟩]) ((Xi9 m g j n l).thr r) ((Xi9 m g j n l).enc r) ((Xi9 m g j n l).fin r):=by
 intro m g j n l r h
 refine qA1 (Xi9 m g j n l) Try.func57 Kr Kr rfl (t:=i9B k F m g j n l) ?_ h
 unfold i9B
 refine qA (eE:=[(0,.ptr 0 4 0),(1,.i m)]) Kr ?_
 let G:Env:=[(11,.bool (decide (m≤0))),(10,.bool (decide (m≤0))),(9,.i m),(4,.ptr 1 7 0),(0,.ptr 0 4 0),(1,.i m)]
 let A:Blk:=⟨[.str g,w39 j,.i n,.i l],4,false⟩
 let o:Blk:=⟨[.i 0,.str [],.nils,.bool false,.bool false,.nils,.nils],0,false⟩
 refine oH 10 (atN 3 (ctl1 i9p1)) G (mkH [A,o]) ?_
 refine oJ i9p2 (λ(q:Bool×Int)=>[(0,.ptr 0 4 0),(1,.i m),(4,.ptr 1 7 0),(14,.bool q.1)]) (λ(q:Bool×Int)=>(mkH [⟨[.str g,w39 j,.i q.2,.i l],4,false⟩,o])) (λq=>?_) (λL u=>?_)
 ·refine oS 14 (λB=>?_) (λB=>?_)
  ·let J:Env:=[(15,.ptr 0 4 0),(14,.bool true),(0,.ptr 0 4 0),(1,.i m),(4,.ptr 1 7 0),(14,.bool q.1)]
   refine oH 4 (atN 1 (ctl1 i9p3)) J (mkH [⟨[.str g,w39 j,.i q.2,.i l],4,false⟩,o]) ?_
   refine oX (λ(a:(S31×Int))=>n32 a.1) (λa=>[⟨[.str g,w39 j,.i a.2,.i l],4,false⟩,o]) (atN 2 (ctl1 i9p3)) 16 [0] [] [] [0] [] [.ptr 0 4 0,.i 0] (x.i9_ok (0:Int) g j q.2 l) trivial (λ_=>trivial) trivial λa C=>?_
   let K:Blk:=⟨[.str g,w39 j,.i a.2,.i l],4,false⟩
   refine oH 1 (atN 3 (ctl1 i9p3)) ((17,.slice 2 7 0 1 7)::(16,n32 a.1)::J) (mkH [K,o,⟨e32 a.1,0,false⟩]) ?_
   refine oZ 17 2 1 7 [.i a.1.f0,.str a.1.f1,q32 a.1.f2,.bool a.1.f3,.bool a.1.f4,w9 a.1.f5,w9 a.1.f6] [0,1,4,14,15,16] [] trivial ?_
   exact oQF 4 [K,⟨[.i 13,.str [99,97,116,99,104],w32 ([a.1]:List S31),.bool false,.bool false,.nils,.nils],7,false⟩,⟨[],0,false⟩] 1 [] [.agg [.i 13,.str [99,97,116,99,104],w32 ([a.1]:List S31),.bool false,.bool false,.nils,.nils]] (.agg [.i 13,.str [99,97,116,99,104],w32 ([a.1]:List S31),.bool false,.bool false,.vec 0 1 [],.vec 0 1 []]) (.agg (.cs (.cs (.cs (.cs (.cs (.nil (.nil .ps))))))) .ps) trivial
  ·refine oH 5 (atN 1 (ctl1 i9p4)) [(20,.ptr 0 4 0),(14,.bool false),(0,.ptr 0 4 0),(1,.i m),(4,.ptr 1 7 0),(14,.bool q.1)] (mkH [⟨[.str g,w39 j,.i q.2,.i l],4,false⟩,o]) ?_
   refine oX (λ(b:Ri16) => .tuple [n32 b.1,.i b.2.1]) (λb=>[⟨[.str g,w39 j,.i b.2.2,.i l],4,false⟩,o]) (atN 2 (ctl1 i9p4)) 21 [0] [] [] [0] [] [.ptr 0 4 0] (x.i16_ok g j q.2 l) trivial (λ_=>trivial) trivial λb D=>?_
   refine oLH 10 i9p6 [(0,.ptr 0 4 0),(1,.i m),(4,.ptr 1 7 0),(5,.ptr 2 7 0),(6,.i b.2.1)] (mkH [⟨[.str g,w39 j,.i b.2.2,.i l],4,false⟩,o,⟨e32 b.1,7,false⟩]) ?_
   exact (i9_l9_ok k F x m g j n l k) b.2.1 b.2.2 b.1
 ·refine oS 11 (λB=>?_) (λB=>?_)
  ·refine oH 1 (atN 4 (ctl1 i9p1)) ((12,.ptr 0 4 0)::(11,.bool true)::G) (mkH [A,o]) ?_
   refine oX (λ(c:(Bool×Int)) => .bool c.1) (λc=>[⟨[.str g,w39 j,.i c.2,.i l],4,false⟩,o]) (atN 5 (ctl1 i9p1)) 13 [0] [] [] [] [] [.ptr 0 4 0,.str [99,97,116,99,104]] (qAb k ([99,97,116,99,104]:LN) g j n l) trivial (λ_=>trivial) trivial λc E=>?_
   refine oL 2 i9p2 [(0,.ptr 0 4 0),(1,.i m),(4,.ptr 1 7 0),(14,.bool c.1)] ?_
   exact u (c.1,c.2)
  ·refine oLH 4 i9p2 [(0,.ptr 0 4 0),(1,.i m),(4,.ptr 1 7 0),(14,.bool false)] (mkH [A,o]) ?_
   exact u (false,n)
theorem i9B_ok (k:Nat) (F:Fns0) (a:FnsOk0 F):Pi9 (i9B k F):=λb c g j l=>⟨λx h=>qOa k F a b c g j l (some x) h,λh=>⟨_,qOa k F a b c g j l none h⟩⟩
def par0 (n:Nat):Fns0:=Nat.rec (motive:=λ_=>Fns0) ⟨λ_ _ _ _=>none,λ_ _ _ _ _=>none,λ_ _ _ _ _ _ _ _ _ _ _ _=>none,λ_ _ _ _=>none,λ_ _ _ _ _=>none,λ_ _ _ _=>none,λ_ _ _ _=>none,λ_ _ _ _ _ _=>none,λ_ _ _ _=>none,λ_ _ _ _ _ _ _=>none,λ_ _ _ _=>none,λ_ _ _ _=>none,λ_ _ _ _ _ _ _ _ _ _ _ _=>none,λ_ _ _ _ _ _ _ _ _ _ _ _=>none,λ_ _ _ _=>none,λ_ _ _ _=>none,λ_ _ _ _ _=>none,λ_ _ _ _=>none,λ_ _ _ _=>none,λ_ _ _ _ _ _ _ _ _ _ _=>none,λ_ _ _ _=>none,λ_ _ _ _=>none,λ_ _ _ _=>none,λ_ _ _ _ _ _ _ _ _ _ _=>none,λ_ _ _ _ _ _ _ _ _ _ _=>none,λ_ _ _ _=>none,λ_ _ _ _=>none,λ_ _ _ _ _=>none,λ_ _ _ _ _=>none,λ_ _ _ _ _=>none,λ_ _ _ _ _=>none,λ_ _ _ _=>none,λ_ _ _ _=>none,λ_ _ _ _=>none⟩ (λk F=>⟨i8B k F,i9B k F,i15B k F,i16B k F,i19B k F,i23B k F,i24B k F,i25B k F,i26B k F,i27B k F,i29B k F,i30B k F,i31B k F,i32B k F,i34B k F,i35B k F,i36B k F,i37B k F,i38B k F,i39B k F,i40B k F,i41B k F,i42B k F,i44B k F,i45B k F,i46B k F,i47B k F,i49B k F,i50B k F,i51B k F,i52B k F,i53B k F,i54B k F,i55B k F⟩) n
theorem qA2 : ∀ k, FnsOk0 (par0 k)
 | 0=>⟨(λ_ _ _ _=>⟨λ_ h=>(nomatch h),λh=>(nomatch h)⟩),(λ_ _ _ _ _=>⟨λ_ h=>(nomatch h),λh=>(nomatch h)⟩),(λ_ _ _ _ _ _ _ _ _ _ _ _=>⟨λ_ h=>(nomatch h),λh=>(nomatch h)⟩),(λ_ _ _ _=>⟨λ_ h=>(nomatch h),λh=>(nomatch h)⟩),(λ_ _ _ _ _=>⟨λ_ h=>(nomatch h),λh=>(nomatch h)⟩),(λ_ _ _ _=>⟨λ_ h=>(nomatch h),λh=>(nomatch h)⟩),(λ_ _ _ _=>⟨λ_ h=>(nomatch h),λh=>(nomatch h)⟩),(λ_ _ _ _ _ _=>⟨λ_ h=>(nomatch h),λh=>(nomatch h)⟩),(λ_ _ _ _=>⟨λ_ h=>(nomatch h),λh=>(nomatch h)⟩),(λ_ _ _ _ _ _ _=>⟨λ_ h=>(nomatch h),λh=>(nomatch h)⟩),(λ_ _ _ _=>⟨λ_ h=>(nomatch h),λh=>(nomatch h)⟩),(λ_ _ _ _=>⟨λ_ h=>(nomatch h),λh=>(nomatch h)⟩),(λ_ _ _ _ _ _ _ _ _ _ _ _=>⟨λ_ h=>(nomatch h),λh=>(nomatch h)⟩),(λ_ _ _ _ _ _ _ _ _ _ _ _=>⟨λ_ h=>(nomatch h),λh=>(nomatch h)⟩),(λ_ _ _ _=>⟨λ_ h=>(nomatch h),λh=>(nomatch h)⟩),(λ_ _ _ _=>⟨λ_ h=>(nomatch h),λh=>(nomatch h)⟩),(λ_ _ _ _ _=>⟨λ_ h=>(nomatch h),λh=>(nomatch h)⟩),(λ_ _ _ _=>⟨λ_ h=>(nomatch h),λh=>(nomatch h)⟩),(λ_ _ _ _=>⟨λ_ h=>(nomatch h),λh=>(nomatch h)⟩),(λ_ _ _ _ _ _ _ _ _ _ _=>⟨λ_ h=>(nomatch h),λh=>(nomatch h)⟩),(λ_ _ _ _=>⟨λ_ h=>(nomatch h),λh=>(nomatch h)⟩),(λ_ _ _ _=>⟨λ_ h=>(nomatch h),λh=>(nomatch h)⟩),(λ_ _ _ _=>⟨λ_ h=>(nomatch h),λh=>(nomatch h)⟩),(λ_ _ _ _ _ _ _ _ _ _ _=>⟨λ_ h=>(nomatch h),λh=>(nomatch h)⟩),(λ_ _ _ _ _ _ _ _ _ _ _=>⟨λ_ h=>(nomatch h),λh=>(nomatch h)⟩),(λ_ _ _ _=>⟨λ_ h=>(nomatch h),λh=>(nomatch h)⟩),(λ_ _ _ _=>⟨λ_ h=>(nomatch h),λh=>(nomatch h)⟩),(λ_ _ _ _ _=>⟨λ_ h=>(nomatch h),λh=>(nomatch h)⟩),(λ_ _ _ _ _=>⟨λ_ h=>(nomatch h),λh=>(nomatch h)⟩),(λ_ _ _ _ _=>⟨λ_ h=>(nomatch h),λh=>(nomatch h)⟩),(λ_ _ _ _ _=>⟨λ_ h=>(nomatch h),λh=>(nomatch h)⟩),(λ_ _ _ _=>⟨λ_ h=>(nomatch h),λh=>(nomatch h)⟩),(λ_ _ _ _=>⟨λ_ h=>(nomatch h),λh=>(nomatch h)⟩),(λ_ _ _ _=>⟨λ_ h=>(nomatch h),λh=>(nomatch h)⟩)⟩
 | k+1=>⟨i8B_ok k (par0 k) (qA2 k),i9B_ok k (par0 k) (qA2 k),i15B_ok k (par0 k) (qA2 k),i16B_ok k (par0 k) (qA2 k),i19B_ok k (par0 k) (qA2 k),i23B_ok k (par0 k) (qA2 k),i24B_ok k (par0 k) (qA2 k),i25B_ok k (par0 k) (qA2 k),i26B_ok k (par0 k) (qA2 k),i27B_ok k (par0 k) (qA2 k),i29B_ok k (par0 k) (qA2 k),i30B_ok k (par0 k) (qA2 k),i31B_ok k (par0 k) (qA2 k),i32B_ok k (par0 k) (qA2 k),i34B_ok k (par0 k) (qA2 k),i35B_ok k (par0 k) (qA2 k),i36B_ok k (par0 k) (qA2 k),i37B_ok k (par0 k) (qA2 k),i38B_ok k (par0 k) (qA2 k),i39B_ok k (par0 k) (qA2 k),i40B_ok k (par0 k) (qA2 k),i41B_ok k (par0 k) (qA2 k),i42B_ok k (par0 k) (qA2 k),i44B_ok k (par0 k) (qA2 k),i45B_ok k (par0 k) (qA2 k),i46B_ok k (par0 k) (qA2 k),i47B_ok k (par0 k) (qA2 k),i49B_ok k (par0 k) (qA2 k),i50B_ok k (par0 k) (qA2 k),i51B_ok k (par0 k) (qA2 k),i52B_ok k (par0 k) (qA2 k),i53B_ok k (par0 k) (qA2 k),i54B_ok k (par0 k) (qA2 k),i55B_ok k (par0 k) (qA2 k)⟩
def i8 (k:Nat):Ti8:=(par0 k).i8
theorem i8_ok (k:Nat):Pi8 (i8 k):=(qA2 k).i8_ok
def i9 (k:Nat):Ti9:=(par0 k).i9
theorem i9_ok (k:Nat):Pi9 (i9 k):=(qA2 k).i9_ok
def i15 (k:Nat):Ti15:=(par0 k).i15
theorem i15_ok (k:Nat):Pi15 (i15 k):=(qA2 k).i15_ok
def i16 (k:Nat):Ti16:=(par0 k).i16
theorem i16_ok (k:Nat):Pi16 (i16 k):=(qA2 k).i16_ok
def i19 (k:Nat):Ti19:=(par0 k).i19
theorem i19_ok (k:Nat):Pi19 (i19 k):=(qA2 k).i19_ok
def i23 (k:Nat):Ti23:=(par0 k).i23
theorem i23_ok (k:Nat):Pi23 (i23 k):=(qA2 k).i23_ok
def i24 (k:Nat):Ti24:=(par0 k).i24
theorem i24_ok (k:Nat):Pi24 (i24 k):=(qA2 k).i24_ok
def i25 (k:Nat):Ti25:=(par0 k).i25
theorem i25_ok (k:Nat):Pi25 (i25 k):=(qA2 k).i25_ok
def i26 (k:Nat):Ti26:=(par0 k).i26
theorem i26_ok (k:Nat):Pi26 (i26 k):=(qA2 k).i26_ok
def i27 (k:Nat):Ti27:=(par0 k).i27
theorem i27_ok (k:Nat):Pi27 (i27 k):=(qA2 k).i27_ok
def i29 (k:Nat):Ti29:=(par0 k).i29
theorem i29_ok (k:Nat):Pi29 (i29 k):=(qA2 k).i29_ok
def i30 (k:Nat):Ti30:=(par0 k).i30
theorem i30_ok (k:Nat):Pi30 (i30 k):=(qA2 k).i30_ok
def i31 (k:Nat):Ti31:=(par0 k).i31
theorem i31_ok (k:Nat):Pi31 (i31 k):=(qA2 k).i31_ok
def i32 (k:Nat):Ti32:=(par0 k).i32
theorem i32_ok (k:Nat):Pi32 (i32 k):=(qA2 k).i32_ok
def i34 (k:Nat):Ti34:=(par0 k).i34
theorem i34_ok (k:Nat):Pi34 (i34 k):=(qA2 k).i34_ok
def i35 (k:Nat):Ti35:=(par0 k).i35
theorem i35_ok (k:Nat):Pi35 (i35 k):=(qA2 k).i35_ok
def i36 (k:Nat):Ti36:=(par0 k).i36
theorem i36_ok (k:Nat):Pi36 (i36 k):=(qA2 k).i36_ok
def i37 (k:Nat):Ti37:=(par0 k).i37
theorem i37_ok (k:Nat):Pi37 (i37 k):=(qA2 k).i37_ok
def i38 (k:Nat):Ti38:=(par0 k).i38
theorem i38_ok (k:Nat):Pi38 (i38 k):=(qA2 k).i38_ok
def i39 (k:Nat):Ti39:=(par0 k).i39
theorem i39_ok (k:Nat):Pi39 (i39 k):=(qA2 k).i39_ok
def i40 (k:Nat):Ti40:=(par0 k).i40
theorem i40_ok (k:Nat):Pi40 (i40 k):=(qA2 k).i40_ok
def i41 (k:Nat):Ti41:=(par0 k).i41
theorem i41_ok (k:Nat):Pi41 (i41 k):=(qA2 k).i41_ok
def i42 (k:Nat):Ti42:=(par0 k).i42
theorem i42_ok (k:Nat):Pi42 (i42 k):=(qA2 k).i42_ok
def i44 (k:Nat):Ti44:=(par0 k).i44
theorem i44_ok (k:Nat):Pi44 (i44 k):=(qA2 k).i44_ok
def i45 (k:Nat):Ti45:=(par0 k).i45
theorem i45_ok (k:Nat):Pi45 (i45 k):=(qA2 k).i45_ok
def i46 (k:Nat):Ti46:=(par0 k).i46
theorem i46_ok (k:Nat):Pi46 (i46 k):=(qA2 k).i46_ok
def i47 (k:Nat):Ti47:=(par0 k).i47
theorem i47_ok (k:Nat):Pi47 (i47 k):=(qA2 k).i47_ok
def i49 (k:Nat):Ti49:=(par0 k).i49
theorem i49_ok (k:Nat):Pi49 (i49 k):=(qA2 k).i49_ok
def i50 (k:Nat):Ti50:=(par0 k).i50
theorem i50_ok (k:Nat):Pi50 (i50 k):=(qA2 k).i50_ok
def i51 (k:Nat):Ti51:=(par0 k).i51
theorem i51_ok (k:Nat):Pi51 (i51 k):=(qA2 k).i51_ok
def i52 (k:Nat):Ti52:=(par0 k).i52
theorem i52_ok (k:Nat):Pi52 (i52 k):=(qA2 k).i52_ok
def i53 (k:Nat):Ti53:=(par0 k).i53
theorem i53_ok (k:Nat):Pi53 (i53 k):=(qA2 k).i53_ok
def i54 (k:Nat):Ti54:=(par0 k).i54
theorem i54_ok (k:Nat):Pi54 (i54 k):=(qA2 k).i54_ok
def i55 (k:Nat):Ti55:=(par0 k).i55
theorem i55_ok (k:Nat):Pi55 (i55 k):=(qA2 k).i55_ok
def nGu:S31:=⟨24,[],⟨0,[]⟩,false,false,[],[]⟩
def nBo (x:S31):S31:=⟨25,[],⟨([x]:List S31).length,([x]:List S31).flatMap e32⟩,false,false,[],[]⟩
def nCl (s:LN) (b:Bool) (l:List S31):S31:=⟨22,s,⟨l.length,l.flatMap e32⟩,b,false,[],[]⟩
def XS1 (a0:LN) (a1:List S38) (a2:Int) (a3:Int):Fx (S31 ⊕ (S31×Int)):=⟨Try.prog,cx,Try.f53,λr=>match r with | .inr r => .tuple [] | .inl _ => .top,2,λr=>match r with | .inr r=>(mkH [⟨e32 r.1,7,false⟩,⟨[.str a0,w39 a1,.i r.2,.i a3],4,false⟩]) | .inl v=>(mkH [⟨e32 v,7,false⟩,⟨[.str a0,w39 a1,.i a2,.i a3],4,false⟩]),cxTi,cxOrd,λr=>match r with | .inr _=>none | .inl _=>some (thrown,[1]),false⟩
def s1p0:Pt:=nav [0] (bodyAt Try.f53)
def s1p1:Pt:=nav [0,0,0] s1p0
def s1p2:Pt:=nav [0,0,0] s1p1
def s1p3:Pt:=nav [0,0,0] s1p2
def s1p4:Pt:=nav [0,0] s1p3
def s1d:DP:=⟨[20],[(0,0,1),(0,0,0),(0,0,0),(4,0,0),(12,0,0),(28,0,0),(63,0,0),(127,0,0),(255,0,0)],9,thrown,[],H0⟩
def iS1 (k:Nat) (n0:S31) (a0:LN) (a1:List S38) (a2:Int) (a3:Int):Option (S31 ⊕ (S31×Int)) :=
 sT (i18 k ([(1:Int)]:List Int) a0 a1 a2 a3) (.inl n0) λx0=>sT (i8 k a0 a1 x0.2 a3) (.inl n0) λx1=>sT (i14 k ([45,62]:LN) a0 a1 x1.2 a3) (.inl n0) λx2=>(i22 k a0 a1 x2 a3).bind λx3=>sT (i9 k (0:Int) a0 a1 x2 a3) (.inl (nCl x0.1 x3 [])) λx4=>some (.inr (nCl x0.1 x3 [x1.1,nGu,nBo x4.1],x4.2))
theorem qO8 (k:Nat):∀ n0 a0 a1 a2 a3 r,iS1 k n0 a0 a1 a2 a3=some r→CallT Try.prog 53 [.ptr 1 4 0,.ptr 0 7 0] (mkH [⟨e32 n0,7,false⟩,⟨[.str a0,w39 a1,.i a2,.i a3],4,false⟩]) ((XS1 a0 a1 a2 a3).thr r) ((XS1 a0 a1 a2 a3).enc r) ((XS1 a0 a1 a2 a3).fin r):=by
 intro n0 a0 a1 a2 a3 r h
 refine qA1 (XS1 a0 a1 a2 a3) Try.func53 Kr Kr rfl (t:=iS1 k n0 a0 a1 a2 a3) ?_ h
 unfold iS1
 refine qA (eE:=[(0,.ptr 1 4 0),(1,.ptr 0 7 0)]) Kr ?_
 let N:Blk:=⟨e32 n0,7,false⟩
 let Q1:Blk:=⟨[.str a0,w39 a1,.i a2,.i a3],4,false⟩
 refine oH 4 (atN 2 (ctl1 s1p0)) [(6,.slice 2 1 0 1 1),(5,.ptr 1 4 0),(0,.ptr 1 4 0),(1,.ptr 0 7 0)] (mkH [N,Q1,⟨[.i 1],0,false⟩]) ?_
 refine oZ 6 2 1 1 [.i 1] [0,1,5] [] trivial ?_
 refine oE [(6,w3 ([(1:Int)]:List Int)),(0,.ptr 1 4 0),(1,.ptr 0 7 0),(5,.ptr 1 4 0)] ?_
 refine oHp (mkH [N,Q1,⟨[],0,false⟩]) ?_
 refine oXs (X:=XS1 a0 a1 a2 a3) (z:=Sum.inl n0) (DX:=[1]) (LX:=[⟨e32 n0,7,false⟩,Q1]) (λ(x0:Ri18) => .str x0.1) (λx0=>[N,⟨[.str a0,w39 a1,.i x0.2,.i a3],4,false⟩,⟨[],0,false⟩]) (atN 3 (ctl1 s1p0)) 7 [1] [] [] [] [] [.ptr 1 4 0,w3 ([(1:Int)]:List Int)] (by exact ⟨.inr ⟨by kernel_rfl,by kernel_rfl,.refl⟩,⟨.inl rfl,trivial⟩⟩) (qD6 k ([(1:Int)]:List Int) a0 a1 a2 a3) trivial (λ_=>trivial) trivial λx0 hx0=>?_
 let Q2:Blk:=⟨[.str a0,w39 a1,.i x0.2,.i a3],4,false⟩
 refine oL 5 (atN 1 (ctl1 s1p1)) [(0,.ptr 1 4 0),(1,.ptr 0 7 0),(3,.str x0.1),(8,.ptr 1 4 0)] ?_
 refine oXs (X:=XS1 a0 a1 a2 a3) (z:=Sum.inl n0) (DX:=[1]) (LX:=[⟨e32 n0,7,false⟩,Q1]) (λ(x1:(S31×Int))=>n32 x1.1) (λx1=>[N,⟨[.str a0,w39 a1,.i x1.2,.i a3],4,false⟩,⟨[],0,false⟩]) (atN 2 (ctl1 s1p1)) 9 [1] [] [] [1] [] [.ptr 1 4 0] (by exact ⟨.inr ⟨by kernel_rfl,by kernel_rfl,.refl⟩,⟨.inl rfl,trivial⟩⟩) (i8_ok k a0 a1 x0.2 a3) trivial (λ_=>trivial) trivial λx1 hx1=>?_
 let Q3:Blk:=⟨[.str a0,w39 a1,.i x1.2,.i a3],4,false⟩
 refine oLH 6 (atN 1 (ctl1 s1p2)) [(0,.ptr 1 4 0),(1,.ptr 0 7 0),(3,.str x0.1),(4,.ptr 3 7 0),(10,.ptr 1 4 0)] (mkH [N,Q3,⟨[],0,false⟩,⟨e32 x1.1,7,false⟩]) ?_
 refine oXs (X:=XS1 a0 a1 a2 a3) (z:=Sum.inl n0) (DX:=[1]) (LX:=[⟨e32 n0,7,false⟩,Q1]) (λ(x2:Int) => .tuple []) (λx2=>[N,⟨[.str a0,w39 a1,.i x2,.i a3],4,false⟩,⟨[],0,false⟩,⟨e32 x1.1,7,false⟩]) (atN 2 (ctl1 s1p2)) 11 [1] [] [] [1] [] [.ptr 1 4 0,.str [45,62]] (by exact ⟨.inr ⟨by kernel_rfl,by kernel_rfl,.refl⟩,⟨.inl rfl,trivial⟩⟩) (qB2 k ([45,62]:LN) a0 a1 x1.2 a3) trivial (λ_=>trivial) trivial λx2 hx2=>?_
 let Q4:Blk:=⟨[.str a0,w39 a1,.i x2,.i a3],4,false⟩
 refine oL 5 (atN 2 (ctl1 s1p3)) [(0,.ptr 1 4 0),(1,.ptr 0 7 0),(3,.str x0.1),(4,.ptr 3 7 0),(12,.str x0.1),(13,.ptr 1 4 0)] ?_
 refine oN (λ(x3:Bool) => .bool x3) (λx3=>[N,Q4,⟨[],0,false⟩,⟨e32 x1.1,7,false⟩]) (atN 3 (ctl1 s1p3)) 14 [1] [] [] [.ptr 1 4 0] (qG0 k a0 a1 x2 a3) trivial (λ_=>trivial) λx3 hx3=>?_
 let K1:List Blk:=[⟨[.i 22,.str x0.1,.nils,.bool x3,.bool false,.nils,.nils],7,false⟩,Q4,⟨[],0,false⟩,⟨e32 x1.1,7,false⟩]
 refine oLH 3 s1p4 [(0,.ptr 1 4 0),(1,.ptr 0 7 0),(4,.ptr 3 7 0)] (mkH K1) ?_
 let E4:Env:=[(18,.ptr 1 4 0),(17,.agg [.i 24,.str [],.nils,.bool false,.bool false,.nils,.nils]),(16,n32 x1.1),(0,.ptr 1 4 0),(1,.ptr 0 7 0),(4,.ptr 3 7 0)]
 refine qA7 (λy4 hy4=>?_)
 rcases y4 with _ | x4
 ·show Ok _ _ _ _ (some (Sum.inl (nCl x0.1 x3 [])))
  exact qNz (eE := ((23, .top) :: (22, .top) :: (21, .top) :: (20, .top) :: (19, .top) :: E4)) (s1d.th 3 thrown [1] (mkH K1)) (hs := [(mkH K1), (mkH K1), (mkH K1)]) (LX := [⟨e32 (nCl x0.1 x3 []), 7, false⟩, Q1]) (L := K1) rfl rfl rfl Kr rfl ⟨.inr ⟨by kernel_rfl, by kernel_rfl, .cons (.cons (.nil (.cons (.cons (.nil (.nil .refl))))))⟩, ⟨.inl rfl, trivial⟩⟩ Kr Kr Kr Kr
   (qA8 3 (l':=(opsAt s1p4).toList.drop 3) (eE:=E4) (H':=(mkH K1)) (hs:=[]) Kr (qAh (l':=(opsAt s1p4).toList.drop 4) (eE:=((19,.top)::E4)) (hs:=[(mkH K1)]) (fi:=57) (args:=[.ptr 1 4 0,.i 0]) Kr Kr (frS 0 (M:=K1) (rs:=[1]) (ms:=[]) (mv:=[]) (mm:=[]) (D:=[1]) (xs':=[.ptr 1 4 0,.i 0]) (.refl) ((i9_ok k (0:Int) a0 a1 x2 a3).2 hy4) trivial trivial Kr) Kr
   (qA0 (l':=(opsAt s1p4).toList.drop 5) (eE:=((20,.top)::(19,.top)::E4)) (hs:=[]) Kr Kr (qA0 (l':=(opsAt s1p4).toList.drop 6) (eE:=((21,.top)::(20,.top)::(19,.top)::E4)) (hs:=[]) Kr Kr (qA0 (l':=(opsAt s1p4).toList.drop 7) (eE:=((22,.top)::(21,.top)::(20,.top)::(19,.top)::E4)) (hs:=[(mkH K1)]) Kr Kr (qA0 (l':=(opsAt s1p4).toList.drop 8) (eE:=((23,.top)::(22,.top)::(21,.top)::(20,.top)::(19,.top)::E4)) (hs:=[]) Kr Kr (qA0 (l':=(opsAt s1p4).toList.drop 9) (eE:=((23,.top)::(22,.top)::(21,.top)::(20,.top)::(19,.top)::E4)) (hs:=[(mkH K1)]) Kr Kr (.nil)))))))) Kr Kr
 ·show Ok _ _ _ _ (some (Sum.inr (nCl x0.1 x3 [x1.1,nGu,nBo x4.1],x4.2)))
  let Q5:Blk:=⟨[.str a0,w39 a1,.i x4.2,.i a3],4,false⟩
  let C:List AV:=[.i x1.1.f0,.str x1.1.f1,q32 x1.1.f2,.bool x1.1.f3,.bool x1.1.f4,w9 x1.1.f5,w9 x1.1.f6,.i 24,.str [],.nils,.bool false,.bool false,.nils,.nils,.i 25,.str [],w32 ([x4.1]:List S31),.bool false,.bool false,.nils,.nils]
  let K3:List Blk:=[⟨[.i 22,.str x0.1,.nils,.bool x3,.bool false,.nils,.nils],7,false⟩,Q5,⟨[],0,false⟩,⟨e32 x1.1,7,false⟩]
  let K4:List Blk:=[⟨[.i 22,.str x0.1,.nils,.bool x3,.bool false,.nils,.nils],7,false⟩,Q5,⟨[],0,false⟩,⟨e32 x1.1,7,false⟩,⟨C,0,false⟩]
  let K5:List Blk:=[⟨[.i 22,.str x0.1,.slice 4 21 0 3 7,.bool x3,.bool false,.nils,.nils],7,false⟩,Q5,⟨[],0,false⟩,⟨e32 x1.1,7,false⟩,⟨C,0,false⟩]
  let E5:Env:=(23,.ptr 0 7 2)::(22,.slice 4 21 0 3 7)::(21,.agg [.i 25,.str [],w32 ([x4.1]:List S31),.bool false,.bool false,.nils,.nils])::(20,w32 ([x4.1]:List S31))::(19,n32 x4.1)::E4
  refine oD (H':=(mkH K5)) (nav [0] s1p4) E5 [(mkH K3),(mkH K4),(mkH K5)] s1d (oDr 3 3 E4 (qA5 (l':=(opsAt s1p4).toList.drop 4) (eE:=((19,n32 x4.1)::E4)) (hs:=[(mkH K3)]) (H':=(mkH K3)) (fi:=57) (args:=[.ptr 1 4 0,.i 0]) (v:=n32 x4.1) Kr (frC (rs:=[1]) (ms:=[]) (ms':=[]) ((i9_ok k (0:Int) a0 a1 x2 a3).1 x4 hy4) trivial trivial Kr) Kr (oDh 5 9 E5 (mkH K5) [(mkH K4),(mkH K5)] .nil))) ?_
  let l3:List S31:=[x1.1,nGu,nBo x4.1]
  refine qBu K5 4 0 C (l3.flatMap e32) Kr rfl (.cons (.cons (.cons (.cons (.cons (.cons (.cons (.cons (.cons (.nil (.cons (.cons (.nil (.nil (.cons (.cons (.cons (.cons (.cons (.nil (.nil .refl))))))))))))))))))))) ?_
  refine oHp (mkH [⟨[.i 22,.str x0.1,.slice 4 21 0 3 7,.bool x3,.bool false,.nils,.nils],7,false⟩,Q5,⟨[],0,false⟩,⟨e32 x1.1,7,false⟩,⟨l3.flatMap e32,0,false⟩]) ?_
  refine qBu [⟨[.i 22,.str x0.1,.slice 4 21 0 3 7,.bool x3,.bool false,.nils,.nils],7,false⟩,Q5,⟨[],0,false⟩,⟨e32 x1.1,7,false⟩,⟨l3.flatMap e32,0,false⟩] 0 7 [.i 22,.str x0.1,.slice 4 21 0 3 7,.bool x3,.bool false,.nils,.nils] [.i 22,.str x0.1,.own 4 3 7,.bool x3,.bool false,.vec 0 1 [],.vec 0 1 []] Kr rfl (.cons (.cons (.slice rfl (.cons (.cons (.nil (.nil .refl))))))) ?_
  refine qIv [⟨[.i 22, .str x0.1, .own 4 3 7, .bool x3, .bool false, .vec 0 1 [], .vec 0 1 []], 7, false⟩, Q5, ⟨[], 0, false⟩, ⟨e32 x1.1, 7, false⟩, ⟨l3.flatMap e32, 0, false⟩] [⟨e32 (nCl x0.1 x3 l3), 7, false⟩, Q5, ⟨[], 0, false⟩, ⟨e32 x1.1, 7, false⟩, ⟨[], 0, false⟩] 4 3 7 0 (l3.flatMap e32) [] (env0 := []) (eE := []) Kr rfl rfl rfl (Nat.zero_le _) (u32 _) Kr trivial
   ⟨.inr ⟨rfl,rfl,rfl,.cons Kr (.cons Kr (.own (.refl Kr)))⟩,⟨.inr ⟨rfl,rfl,rfl,.refl Kr⟩,⟨.inr ⟨rfl,rfl,rfl,.refl Kr⟩,⟨.inr ⟨rfl,rfl,rfl,.refl Kr⟩,⟨.inl ⟨rfl,rfl⟩,trivial⟩⟩⟩⟩⟩ ?_
  exact oQF 0 [⟨e32 (nCl x0.1 x3 l3),7,false⟩,Q5,⟨[],0,false⟩,⟨e32 x1.1,7,false⟩,⟨[],0,false⟩] 2 [] [] (.tuple []) .ps trivial
def XRd (a0:LN) (a1:List S38) (a2:Int) (a3:Int):Fx (Int×Int×S31):=⟨Try.prog,cx,Try.f46,λr => .tuple [.i r.1,.i r.2.1],1,λr=>(mkH [⟨e32 r.2.2,7,false⟩]),cxTi,cxOrd,λ_=>none,true⟩
def s2p1:Pt:=nav [0,0,0,0] (nav [0] (bodyAt Try.f46))
def s2p2:Pt:=nav [0,0] s2p1
def s2p6:Pt:=nav [0,0,0] (nav [2,0,0] s2p2)
def s2p7:Pt:=nav [0,0,0] s2p6
def iRd (k:Nat) (a4:S31) (a0:LN) (a1:List S38) (a2:Int) (a3:Int):Option (Int×Int×S31) :=
 jn (λ(z1:Bool)=>if z1 then (some ((0:Int),(8:Int),a4)) else ((iS1 k a4 a0 a1 a2 a3).bind λx=>match x with | .inl v=>some ((0:Int),(8:Int),v) | .inr x0_2=>some (x0_2.2,(0:Int),x0_2.1))) (λj1=>if (decide (a2 < 0)) then (j1 true) else (if (decide ((a1.length:Int) < a3)) then (j1 true) else (j1 (decide (a3 < a2)))))
theorem iRd_all (k:Nat):∀ a4 a0 a1 a2 a3 r,iRd k a4 a0 a1 a2 a3=some r→CallT Try.prog 46 [.str a0,w39 a1,.i a2,.i a3,.func 53 [] [.ptr 0 7 0]] (mkH [⟨e32 a4,7,false⟩]) ((XRd a0 a1 a2 a3).thr r) ((XRd a0 a1 a2 a3).enc r) ((XRd a0 a1 a2 a3).fin r):=by
 intro a4 a0 a1 a2 a3 r h
 refine qA1 (XRd a0 a1 a2 a3) Try.func46 Kr Kr rfl (t:=iRd k a4 a0 a1 a2 a3) ?_ h
 unfold iRd
 refine qA (eE:=[(0,.str a0),(1,w39 a1),(2,.i a2),(3,.i a3),(4,.func 53 [] [.ptr 0 7 0])]) Kr ?_
 let E1:Env:=[(15,.bool (decide (a2 < 0))),(14,.bool (decide (a2 < 0))),(13,.i a2),(11,.ptr 2 1 0),(10,.ptr 1 1 0),(0,.str a0),(1,w39 a1),(2,.i a2),(3,.i a3),(4,.func 53 [] [.ptr 0 7 0])]
 let K1:List Blk:=[⟨e32 a4,7,false⟩,⟨[.i 0],0,false⟩,⟨[.i 0],0,false⟩]
 refine oH 11 (atN 3 (ctl1 s2p1)) E1 (mkH K1) ?_
 refine oJ s2p2 (λ(z1:Bool)=>[(0,.str a0),(1,w39 a1),(2,.i a2),(3,.i a3),(4,.func 53 [] [.ptr 0 7 0]),(10,.ptr 1 1 0),(11,.ptr 2 1 0),(25,.bool z1)]) (λ(z1:Bool)=>(mkH K1)) (λz1=>?_) (λj1 hj1=>?_)
 ·refine oS 25 (λhb=>?_) (λhb=>?_)
  ·let E2:Env:=[(25,.bool true),(0,.str a0),(1,w39 a1),(2,.i a2),(3,.i a3),(4,.func 53 [] [.ptr 0 7 0]),(10,.ptr 1 1 0),(11,.ptr 2 1 0),(25,.bool z1)]
   exact oQF 7 [⟨e32 a4,7,false⟩,⟨[.i 0],1,false⟩,⟨[.i 8],1,false⟩] 1 [] [.i 0,.i 8] (.tuple [.i 0,.i 8]) .ps trivial
  ·let E4:Env:=[(4,.func 53 [] [.ptr 0 7 0]),(10,.ptr 1 1 0),(11,.ptr 2 1 0),(12,.ptr 3 4 0)]
   let K2:List Blk:=[⟨e32 a4,7,false⟩,⟨[.i 0],0,false⟩,⟨[.i 0],0,false⟩,⟨[.str a0,w39 a1,.i a2,.i a3],0,false⟩]
   refine qA7 (λx hx=>?_)
   rcases x with v | x0_2
   ·show Ok _ _ _ _ (cT (some none:Option (Option Empty)) (some ((0:Int),(8:Int),v)) (λx=>nomatch x))
    refine oLH 13 s2p6 E4 (mkH K2) ?_
    refine oR 2 (atN 1 (ctl1 s2p6)) ((32,.func 60 [] [.ptr 1 1 0,.ptr 2 1 0])::E4) ?_
    refine qEg (f:=60) (caps:=[.ptr 1 1 0,.ptr 2 1 0]) Kr ?_
    refine qKp (p':=(atN 2 (ctl1 s2p6))) Kr ?_
    refine qCp 5 (p':=(atN 2 (ctl1 s2p7))) (eE:=((34,.ptr 3 4 0)::(33,.func 53 [] [.ptr 0 7 0])::(32,.func 60 [] [.ptr 1 1 0,.ptr 2 1 0])::E4)) (H':=(mkH K2)) Kr ?_
    let Q2:Blk:=⟨[.str a0,w39 a1,.i a2,.i a3],4,false⟩
    let K3:List Blk:=[⟨e32 a4,7,false⟩,⟨[.i 0],0,false⟩,⟨[.i 0],0,false⟩,Q2]
    let K3v:List Blk:=[⟨e32 v,7,false⟩,⟨[.i 0],0,false⟩,⟨[.i 0],0,false⟩,Q2]
    let K4:List Blk:=[⟨e32 v,7,false⟩,⟨[.i 0],1,false⟩,⟨[.i 8],1,false⟩,Q2]
    refine qGw (tv:=thrown) (D:=[3]) (rc:=((0:Int),(8:Int),v)) (tc:=some ((0:Int),(8:Int),v)) (xs:=[.i 0,.i 8]) (v := .tuple [.i 0,.i 8]) (fi:=53) (args:=[.ptr 3 4 0,.ptr 0 7 0]) (λ(x:Empty)=>nomatch x) (λ(x:Empty)=>nomatch x) (atN 3 (ctl1 s2p7)) (λ(x:Empty)=>nomatch x) K3v [⟨e32 v,7,false⟩] [⟨[.i 0],1,false⟩,⟨[.i 8],1,false⟩,Q2] [(10,.ptr 1 1 0),(11,.ptr 2 1 0)] [10,11] 3 rfl rfl Kr (λ_=>frS2 (L:=[⟨e32 a4,7,false⟩,Q2]) (L':=[⟨e32 v,7,false⟩,Q2]) (M:=K3) (rs:=[0,3]) (ms:=[]) (ms':=[]) (mv:=[]) (mm:=[]) (D:=[3]) (xs':=[.ptr 3 4 0,.ptr 0 7 0]) 0 (.refl) (qO8 k a4 a0 a1 a2 a3 _ hx) trivial trivial trivial Kr) Kr Kr Kr Kr (qD (⟨Try.prog,cx,Try.f60,λ_ => .tuple [],4,λ_=>(mkH K4),cxTi,cxOrd,λ_=>none,false⟩:Fx Unit) 5 2 (x := .iface 88 (.agg [])) qDs Kr Kr Kr rfl rfl rfl rfl ?_) rfl Kr Kr Kr (.pures Kr) ⟨Kr,trivial⟩ Kr Kr (λx=>nomatch x) (λx=>nomatch x) (λx=>nomatch x)
    refine oE [(2,.iface 88 (.agg [])),(5,.iface 88 (.agg [])),(0,.ptr 1 1 0),(1,.ptr 2 1 0)] ?_
    let E1:Env:=[(4,.bool true),(3,.ptr 4 0 0),(12,.bool true),(11,.agg []),(8,.tuple [.agg [],.bool true]),(10,.tuple [.agg [],.bool true]),(9,.iface 88 (.agg [])),(7,.bool true),(6,.iface 88 (.agg [])),(2,.iface 88 (.agg [])),(5,.iface 88 (.agg [])),(0,.ptr 1 1 0),(1,.ptr 2 1 0)]
    let E2:Env:=[(0,.ptr 1 1 0),(1,.ptr 2 1 0),(2,.iface 88 (.agg [])),(4,.bool true)]
    refine oLH 19 (nav [0,0,0] (nav [1,0,0] (nav [0,0] (nav [0] (restAt Try.f60))))) E2 (mkH [⟨e32 v,7,false⟩,⟨[.i 0],0,false⟩,⟨[.i 0],0,false⟩,Q2,⟨[],0,false⟩]) ?_
    refine oH 10 .fin ((14,.bool false)::(13,.bool true)::E2) (mkH [⟨e32 v,7,false⟩,⟨[.i 0],1,false⟩,⟨[.i 8],1,false⟩,Q2,⟨[],0,false⟩]) ?_
    refine qA9 K4 [⟨[],0,false⟩] Kr rfl Kr ⟨Kr,⟨Kr,⟨Kr,⟨Kr,trivial⟩⟩⟩⟩ ?_
    exact qDv (r:=()) (xs:=[]) Kr Kr Kr Kr
   ·show Ok _ _ _ _ (some (x0_2.2,(0:Int),x0_2.1))
    refine oLH 13 s2p6 E4 (mkH K2) ?_
    refine oR 2 (atN 1 (ctl1 s2p6)) ((32,.func 60 [] [.ptr 1 1 0,.ptr 2 1 0])::E4) ?_
    refine qEg (f:=60) (caps:=[.ptr 1 1 0,.ptr 2 1 0]) Kr ?_
    refine qKp (p':=(atN 2 (ctl1 s2p6))) Kr ?_
    refine qCp 5 (p':=(atN 2 (ctl1 s2p7))) (eE:=((34,.ptr 3 4 0)::(33,.func 53 [] [.ptr 0 7 0])::(32,.func 60 [] [.ptr 1 1 0,.ptr 2 1 0])::E4)) (H':=(mkH K2)) Kr ?_
    refine qO1 (H':=mkH [⟨e32 x0_2.1,7,false⟩,⟨[.i 0],0,false⟩,⟨[.i 0],0,false⟩,⟨[.str a0,w39 a1,.i x0_2.2,.i a3],4,false⟩]) (.tuple []) (atN 3 (ctl1 s2p7)) [(35,.tuple []),(34,.ptr 3 4 0),(33,.func 53 [] [.ptr 0 7 0]),(32,.func 60 [] [.ptr 1 1 0,.ptr 2 1 0]),(4,.func 53 [] [.ptr 0 7 0]),(10,.ptr 1 1 0),(11,.ptr 2 1 0),(12,.ptr 3 4 0)] (fi:=53) (args:=[.ptr 3 4 0,.ptr 0 7 0]) Kr (frW (L:=[⟨e32 a4,7,false⟩,⟨[.str a0,w39 a1,.i a2,.i a3],4,false⟩]) (L':=[⟨e32 x0_2.1,7,false⟩,⟨[.str a0,w39 a1,.i x0_2.2,.i a3],4,false⟩]) (v := .tuple []) 0 [⟨e32 a4,7,false⟩,⟨[.i 0],0,false⟩,⟨[.i 0],0,false⟩,⟨[.str a0,w39 a1,.i a2,.i a3],4,false⟩] (rs:=[0,3]) (ms:=[]) (ms':=[]) (mv:=[]) (xs':=[.ptr 3 4 0,.ptr 0 7 0]) (.refl) (qO8 k a4 a0 a1 a2 a3 _ hx) trivial trivial Kr) Kr ?_
    let Q3:Blk:=⟨[.i x0_2.2],1,false⟩
    let Q4:Blk:=⟨[.str a0,w39 a1,.i x0_2.2,.i a3],4,false⟩
    let K5:List Blk:=[⟨e32 x0_2.1,7,false⟩,Q3,⟨[.i 0],1,false⟩,Q4]
    refine qCp 11 (p' := .fin) (eE:=((39,.i x0_2.2)::(38,.ptr 3 4 2)::(37,.ptr 3 4 0)::(36,.ptr 3 4 0)::(35,.tuple [])::(34,.ptr 3 4 0)::(33,.func 53 [] [.ptr 0 7 0])::(32,.func 60 [] [.ptr 1 1 0,.ptr 2 1 0])::E4)) (H':=(mkH K5)) Kr ?_
    refine qIx (r:=(x0_2.2,(0:Int),x0_2.1)) (xs:=[.i x0_2.2,.i 0]) (v := .tuple [.i x0_2.2,.i 0]) K5 [⟨e32 x0_2.1,7,false⟩] [Q3,⟨[.i 0],1,false⟩,Q4] rfl rfl (qD (⟨Try.prog,cx,Try.f60,λ_ => .tuple [],4,λ_=>(mkH K5),cxTi,cxOrd,λ_=>none,false⟩:Fx Unit) 5 2 (x := .nili) qGy Kr Kr Kr rfl rfl rfl rfl ?_) Kr Kr Kr Kr (.pures Kr) ⟨Kr,trivial⟩ Kr Kr
    let E1:Env:=[(7,.bool false),(6,.nili),(2,.nili),(5,.nili),(0,.ptr 1 1 0),(1,.ptr 2 1 0)]
    refine oH 7 .fin E1 (mkH K5) ?_
    exact qDv (r:=()) (xs:=[]) Kr Kr Kr Kr
 ·refine oS 15 (λhb=>?_) (λhb=>?_)
  ·refine oLH 11 s2p2 [(0,.str a0),(1,w39 a1),(2,.i a2),(3,.i a3),(4,.func 53 [] [.ptr 0 7 0]),(10,.ptr 1 1 0),(11,.ptr 2 1 0),(25,.bool true)] (mkH K1) ?_
   exact hj1 true
  ·let E8:Env:=((21,.bool (decide ((a1.length:Int) < a3)))::(20,.bool (decide ((a1.length:Int) < a3)))::(19,.bool (decide ((a1.length:Int) < a3)))::(18,.i (a1.length:Int))::(17,w39 a1)::(16,.i a3)::(15,.bool false)::E1)
   refine oH 6 (atN 9 (ctl1 s2p1)) E8 (mkH K1) ?_
   refine oS 21 (λhb=>?_) (λhb=>?_)
   ·refine oR 5 s2p2 ((25,.bool true)::(24,.tuple [])::(23,.tuple [])::(22,.tuple [])::(21,.bool true)::E8) ?_
    refine oK [0,1,2,3,4,10,11,25] [(0,.str a0),(1,w39 a1),(2,.i a2),(3,.i a3),(4,.func 53 [] [.ptr 0 7 0]),(10,.ptr 1 1 0),(11,.ptr 2 1 0),(25,.bool true)] ?_
    exact hj1 true
   ·refine oL 5 s2p2 [(0,.str a0),(1,w39 a1),(2,.i a2),(3,.i a3),(4,.func 53 [] [.ptr 0 7 0]),(10,.ptr 1 1 0),(11,.ptr 2 1 0),(25,.bool (decide (a3 < a2)))] ?_
    exact hj1 (decide (a3 < a2))
theorem iRd_ok (k:Nat) (a4:S31) (a0:LN) (a1:List S38) (a2:Int) (a3:Int):PNh (XRd a0 a1 a2 a3) 46 [.str a0,w39 a1,.i a2,.i a3,.func 53 [] [.ptr 0 7 0]] (mkH [⟨e32 a4,7,false⟩]) (iRd k a4 a0 a1 a2 a3):=λx h=>iRd_all k a4 a0 a1 a2 a3 x h
def Xg44:Fx (S31×Int):=⟨Try.prog,cx,Try.f44,λr => .tuple [n32 r.1,.i r.2],0,λ_=>H0,cxTi,cxOrd,λ_=>none,false⟩
def z44:S31:=⟨(0:Int),([]:LN),⟨0,[]⟩,false,false,([]:LL),([]:LL)⟩
def g44p2:Pt:=nav [0,0,0] (nav [0,0,0] (nav [0] (bodyAt Try.f44)))
def g44p3:Pt:=nav [0,0,0,0] g44p2
def g44p4:Pt:=nav [0,0] g44p3
def g44p6:Pt:=nav [2,0,0] g44p4
def g44 (k:Nat) (c:LN) (g:List S38) (h:Int) (a:Int):Option (S31×Int) :=
 (iRd k z44 c g h a).bind λx=>jn (λ(j:Bool)=>if j then (some (x.2.2,(8:Int))) else (some (x.2.2,x.2.1))) (λb=>if (decide (x.2.1=0)) then (b (!decide (x.1=a))) else (b false))
theorem g44_ok (k:Nat) (b:LN) (c:List S38) (g:Int) (a:Int) (r:(S31×Int)) (h:g44 k b c g a=some r):PureOk Try.prog 44 [.str b,w39 c,.i g,.i a] (.tuple [n32 r.1,.i r.2]):=by
 refine qA6 Xg44 (λ_=>⟨rfl,rfl⟩) Try.func44 (by decide +kernel) Kr (t:=g44 k b c g a) ?_ h
 unfold g44
 refine qA (eE:=[(0,.str b),(1,w39 c),(2,.i g),(3,.i a)]) Kr ?_
 let n:Env:=[(10,.ptr 1 7 0),(9,.i 0),(8,.ptr 0 7 0),(0,.str b),(1,w39 c),(2,.i g),(3,.i a)]
 let Z:Blk:=⟨[.i 0,.str [],.nils,.bool false,.bool false,.nils,.nils],0,false⟩
 refine oH 10 g44p2 n (mkH [Z,Z]) ?_
 refine qBu [Z,Z] 1 0 [.i 0,.str [],.nils,.bool false,.bool false,.nils,.nils] (e32 z44) Kr rfl (.cons (.cons (.nil (.cons (.cons (.nil (.nil .refl))))))) ?_
 let o:Env:=((18,.func 53 [] [.ptr 1 7 0])::(17,.i a)::(16,.i g)::(15,w39 c)::(14,.str b)::n)
 refine oH 6 (atN 5 (ctl1 g44p2)) o (mkH [Z,⟨e32 z44,0,false⟩]) ?_
 refine qDk (λ(x : Int × Int × S31) => .tuple [.i x.1, .i x.2.1]) (λx => (mkH [Z, ⟨e32 x.2.2, 7, false⟩])) (atN 6 (ctl1 g44p2)) (λx => ((19, .tuple [.i x.1, .i x.2.1]) :: o)) (fi := 46) (args := [.str b, w39 c, .i g, .i a, .func 53 [] [.ptr 1 7 0]]) Kr
  (λx h=>frW 0 [Z,⟨e32 z44,7,false⟩] (rs:=[1]) (ms:=[]) (ms':=[]) (mv:=[]) (xs':=[.str b,w39 c,.i g,.i a,.func 53 [] [.ptr 1 7 0]]) (.refl) (iRd_ok k z44 b c g a x h) trivial trivial Kr) (λ_=>by kernel_rfl) (λx u=>?_)
 let q:Env:=[(3,.i a),(8,.ptr 0 7 0),(10,.ptr 1 7 0),(11,.i x.1),(12,.i x.2.1)]
 let K:List Blk:=[Z,⟨e32 x.2.2,7,false⟩]
 refine oLH 8 g44p3 q (mkH K) ?_
 refine oR 4 (atN 3 (ctl1 g44p3)) ((24,.bool (decide (x.2.1=0)))::(23,.bool (decide (x.2.1=0)))::(22,.i x.2.1)::q) ?_
 refine oJ g44p4 (λ(l:Bool)=>[(8,.ptr 0 7 0),(10,.ptr 1 7 0),(12,.i x.2.1),(28,.bool l)]) (λ(l:Bool)=>(mkH K)) (λl=>?_) (λA j=>?_)
 ·refine oS 28 (λm=>?_) (λm=>?_)
  ·refine oLH 5 g44p6 [(8,.ptr 0 7 0),(10,.ptr 1 7 0),(12,.i 8)] (mkH K) ?_
   exact oQ 7
  ·refine oLH 3 g44p6 [(8,.ptr 0 7 0),(10,.ptr 1 7 0),(12,.i x.2.1)] (mkH K) ?_
   exact oQ 7
 ·refine oS 24 (λm=>?_) (λm=>?_)
  ·refine oLH 5 g44p4 [(8,.ptr 0 7 0),(10,.ptr 1 7 0),(12,.i x.2.1),(28,.bool (!decide (x.1=a)))] (mkH K) ?_
   exact j (!decide (x.1=a))
  ·refine oLH 5 g44p4 [(8,.ptr 0 7 0),(10,.ptr 1 7 0),(12,.i x.2.1),(28,.bool false)] (mkH K) ?_
   exact j false
abbrev Ri5:Type:=((List S31)×Int)
abbrev Ti5:Type:=(List S31)→LN→(List S38)→Int→Int→Option (Option Ri5)
def Xi5 (g:List S31) (a:LN) (b:List S38) (h:Int) (c:Int):Fx (Option Ri5):=⟨Try.prog,cx,Try.f58,λr=>match r with | some r => .tuple [] | none => .top,2,λr=>match r with | some r=>(mkH [⟨[w32 r.1],1,false⟩,⟨[.str a,w39 b,.i r.2,.i c],4,false⟩]) | none=>(mkH [⟨[w32 g],1,false⟩,⟨[.str a,w39 b,.i h,.i c],4,false⟩]),cxTi,cxOrd,λr=>match r with | some _=>none | none=>some (thrown,[1]),false⟩
def Pi5 (f:Ti5):Prop := ∀ a b c g h,PQh (Xi5 a b c g h) 58 [.ptr 1 4 0,.ptr 0 1 0] (f a b c g h)
def i5p0:Pt:=nav [0,0] (bodyAt Try.f58)
def i5p3:Pt:=nav [2,0] (nav [0] i5p0)
def i5p4:Pt:=nav [0,0] i5p3
def i5p5:Pt:=nav [1] i5p4
def i5p6:Pt:=nav [2] i5p4
def i5d0:DP:=⟨[],[(0,0,0),(1,0,0),(3,0,0),(7,0,0),(0,0,0),(16,0,0),(48,0,0),(112,0,0),(255,0,0),(511,0,0)],10,thrown,[],H0⟩
def i5 (k:Nat) (m:List S31) (j:LN) (l:List S38) (c:Int) (h:Int):Option (Option Ri5) :=
 if (decide (c=h)) then (some (some (m,c))) else ((i7 k ([40]:LN) j l c h).bind λg=>if g then (bT (i8 k j l c h) λa=>some (some (([a.1]:List S31),a.2))) else (bT (i9 k (1:Int) j l c h) λb=>some (some (([b.1]:List S31),b.2))))
theorem i5_all (k:Nat):∀ j l m n c r,i5 k j l m n c=some r→CallT Try.prog 58 [.ptr 1 4 0,.ptr 0 1 0] (mkH [⟨[w32 j],1,false⟩,⟨[.str l,w39 m,.i n,.i c],4,false⟩]) ((Xi5 j l m n c).thr r) ((Xi5 j l m n c).enc r) ((Xi5 j l m n c).fin r):=by
 intro j l m n c r h
 refine qA1 (Xi5 j l m n c) Try.func58 Kr Kr rfl (t:=i5 k j l m n c) ?_ h
 unfold i5
 refine qA (eE:=[(0,.ptr 1 4 0),(1,.ptr 0 1 0)]) Kr ?_
 let o:Blk:=⟨[.str l,w39 m,.i n,.i c],4,false⟩
 refine oH 2 i5p0 [(0,.ptr 1 4 0),(1,.ptr 0 1 0)] (mkH [⟨[w32 j],1,false⟩,o]) ?_
 let u:Env:=[(6,.bool (decide (n=c))),(15,.bool (decide (n=c))),(14,.i c),(13,.ptr 1 4 3),(12,.ptr 1 4 0),(11,.ptr 1 4 0),(10,.i n),(9,.ptr 1 4 2),(8,.ptr 1 4 0),(7,.ptr 1 4 0),(0,.ptr 1 4 0),(1,.ptr 0 1 0)]
 refine oD (H':=(mkH [⟨[w32 j],1,false⟩,o])) (nav [0] i5p0) u [] i5d0 (oDr 10 10 u .nil) ?_
 refine oS 6 (λx=>?_) (λx=>?_)
 ·exact oQF 2 [⟨[w32 j],1,false⟩,o] 2 [] [] (.tuple []) .ps trivial
 ·refine oR 4 (atN 1 (ctl1 i5p3)) ((17,.ptr 1 4 0)::(6,.bool false)::u) ?_
  refine oN (λ(g:Bool) => .bool g) (λg=>[⟨[w32 j],1,false⟩,o]) (atN 2 (ctl1 i5p3)) 18 [1] [] [] [.ptr 1 4 0,.str [40]] (qMj k ([40]:LN) l m n c) trivial (λ_=>trivial) λg A=>?_
  refine oL 2 i5p4 [(0,.ptr 1 4 0),(1,.ptr 0 1 0),(16,.bool g)] ?_
  let q:Env:=[(0,.ptr 1 4 0),(1,.ptr 0 1 0),(16,.bool g)]
  refine oS 16 (λx=>?_) (λx=>?_)
  ·refine oR 3 (atN 1 (ctl1 i5p5)) ((19,.ptr 1 4 0)::(16,.bool true)::q) ?_
   refine oX (λ(a:(S31×Int))=>n32 a.1) (λa=>[⟨[w32 j],1,false⟩,⟨[.str l,w39 m,.i a.2,.i c],4,false⟩]) (atN 2 (ctl1 i5p5)) 20 [1] [] [] [1] [] [.ptr 1 4 0] (i8_ok k l m n c) trivial (λ_=>trivial) trivial λa B=>?_
   let D:Blk:=⟨[.str l,w39 m,.i a.2,.i c],4,false⟩
   refine oH 1 (atN 3 (ctl1 i5p5)) ((21,.slice 2 7 0 1 7)::(20,n32 a.1)::(19,.ptr 1 4 0)::(16,.bool true)::q) (mkH [⟨[w32 j],1,false⟩,D,⟨e32 a.1,0,false⟩]) ?_
   refine oZ 21 2 1 7 [.i a.1.f0,.str a.1.f1,q32 a.1.f2,.bool a.1.f3,.bool a.1.f4,w9 a.1.f5,w9 a.1.f6] [0,1,16,19,20] [] trivial ?_
   exact oQF 2 [⟨[w32 ([a.1]:List S31)],1,false⟩,D,⟨[],0,false⟩] 2 [] [] (.tuple []) .ps trivial
  ·refine oR 3 (atN 1 (ctl1 i5p6)) ((3,.ptr 1 4 0)::(16,.bool false)::q) ?_
   refine oX (λ(b:(S31×Int))=>n32 b.1) (λb=>[⟨[w32 j],1,false⟩,⟨[.str l,w39 m,.i b.2,.i c],4,false⟩]) (atN 2 (ctl1 i5p6)) 4 [1] [] [] [1] [] [.ptr 1 4 0,.i 1] (i9_ok k (1:Int) l m n c) trivial (λ_=>trivial) trivial λb C=>?_
   let E:Blk:=⟨[.str l,w39 m,.i b.2,.i c],4,false⟩
   refine oH 1 (atN 3 (ctl1 i5p6)) ((5,.slice 2 7 0 1 7)::(4,n32 b.1)::(3,.ptr 1 4 0)::(16,.bool false)::q) (mkH [⟨[w32 j],1,false⟩,E,⟨e32 b.1,0,false⟩]) ?_
   refine oZ 5 2 1 7 [.i b.1.f0,.str b.1.f1,q32 b.1.f2,.bool b.1.f3,.bool b.1.f4,w9 b.1.f5,w9 b.1.f6] [0,1,3,4,16] [] trivial ?_
   exact oQF 2 [⟨[w32 ([b.1]:List S31)],1,false⟩,E,⟨[],0,false⟩] 2 [] [] (.tuple []) .ps trivial
theorem i5_ok (k:Nat):Pi5 (i5 k):=λa b c g j=>⟨λx h=>i5_all k a b c g j (some x) h,λh=>⟨_,i5_all k a b c g j none h⟩⟩
abbrev Ri3:Type:=(Int×Int×(List S31))
abbrev Ti3:Type:=LN→(List S38)→Int→Int→(List S31)→Option Ri3
def Xi3 (a:LN) (b:List S38) (c:Int) (g:Int) (h:List S31):Fx Ri3:=⟨Try.prog,cx,Try.f46,λr => .tuple [.i r.1,.i r.2.1],1,λr=>(mkH [⟨[w32 r.2.2],1,false⟩]),cxTi,cxOrd,λ_=>none,true⟩
def Pi3 (f:Ti3):Prop := ∀ a b c g h,PNh (Xi3 a b c g h) 46 [.str a,w39 b,.i c,.i g,.func 58 [] [.ptr 0 1 0]] (mkH [⟨[w32 h],1,false⟩]) (f a b c g h)
def i3p1:Pt:=nav [0,0,0,0] (nav [0] (bodyAt Try.f46))
def i3p2:Pt:=nav [0,0] i3p1
def i3p6:Pt:=nav [0,0,0] (nav [2,0,0] i3p2)
def i3p7:Pt:=nav [0,0,0] i3p6
def i3 (k:Nat) (l:LN) (j:List S38) (b:Int) (c:Int) (g:List S31):Option Ri3 :=
 jn (λ(m:Bool)=>if m then (some ((0:Int),(8:Int),g)) else (cT (i5 k g l j b c) (some ((0:Int),(8:Int),g)) λa=>some (a.2,(0:Int),a.1))) (λh=>if (decide (b < 0)) then (h true) else (if (decide ((j.length:Int) < c)) then (h true) else (h (decide (c < b)))))
theorem i3_all (k:Nat):∀ j c g b l r,i3 k j c g b l=some r→CallT Try.prog 46 [.str j,w39 c,.i g,.i b,.func 58 [] [.ptr 0 1 0]] (mkH [⟨[w32 l],1,false⟩]) ((Xi3 j c g b l).thr r) ((Xi3 j c g b l).enc r) ((Xi3 j c g b l).fin r):=by
 intro j c g b l r h
 refine qA1 (Xi3 j c g b l) Try.func46 Kr Kr rfl (t:=i3 k j c g b l) ?_ h
 unfold i3
 refine qA (eE:=[(0,.str j),(1,w39 c),(2,.i g),(3,.i b),(4,.func 58 [] [.ptr 0 1 0])]) Kr ?_
 let n:Env:=[(15,.bool (decide (g < 0))),(14,.bool (decide (g < 0))),(13,.i g),(11,.ptr 2 1 0),(10,.ptr 1 1 0),(0,.str j),(1,w39 c),(2,.i g),(3,.i b),(4,.func 58 [] [.ptr 0 1 0])]
 let u:List Blk:=[⟨[w32 l],1,false⟩,⟨[.i 0],0,false⟩,⟨[.i 0],0,false⟩]
 refine oH 11 (atN 3 (ctl1 i3p1)) n (mkH u) ?_
 refine oJ i3p2 (λ(A:Bool)=>[(0,.str j),(1,w39 c),(2,.i g),(3,.i b),(4,.func 58 [] [.ptr 0 1 0]),(10,.ptr 1 1 0),(11,.ptr 2 1 0),(25,.bool A)]) (λ(A:Bool)=>(mkH u)) (λA=>?_) (λS m=>?_)
 ·refine oS 25 (λo=>?_) (λo=>?_)
  ·let E:Env:=[(25,.bool true),(0,.str j),(1,w39 c),(2,.i g),(3,.i b),(4,.func 58 [] [.ptr 0 1 0]),(10,.ptr 1 1 0),(11,.ptr 2 1 0),(25,.bool A)]
   exact oQF 7 [⟨[w32 l],1,false⟩,⟨[.i 0],1,false⟩,⟨[.i 8],1,false⟩] 1 [] [.i 0,.i 8] (.tuple [.i 0,.i 8]) .ps trivial
  ·let B:Env:=[(4,.func 58 [] [.ptr 0 1 0]),(10,.ptr 1 1 0),(11,.ptr 2 1 0),(12,.ptr 3 4 0)]
   let J:List Blk:=[⟨[w32 l],1,false⟩,⟨[.i 0],0,false⟩,⟨[.i 0],0,false⟩,⟨[.str j,w39 c,.i g,.i b],0,false⟩]
   refine oLH 13 i3p6 B (mkH J) ?_
   refine oR 2 (atN 1 (ctl1 i3p6)) ((32,.func 60 [] [.ptr 1 1 0,.ptr 2 1 0])::B) ?_
   refine qEg (f:=60) (caps:=[.ptr 1 1 0,.ptr 2 1 0]) Kr ?_
   refine qKp (p':=(atN 2 (ctl1 i3p6))) Kr ?_
   refine qCp 5 (p':=(atN 2 (ctl1 i3p7))) (eE:=((34,.ptr 3 4 0)::(33,.func 58 [] [.ptr 0 1 0])::(32,.func 60 [] [.ptr 1 1 0,.ptr 2 1 0])::B)) (H':=(mkH J)) Kr ?_
   let q:Blk:=⟨[.str j,w39 c,.i g,.i b],4,false⟩
   let F:List Blk:=[⟨[w32 l],1,false⟩,⟨[.i 0],0,false⟩,⟨[.i 0],0,false⟩,q]
   let K:List Blk:=[⟨[w32 l],1,false⟩,⟨[.i 0],1,false⟩,⟨[.i 8],1,false⟩,q]
   refine qGw (tv:=thrown) (D:=[3]) (rc:=((0:Int),(8:Int),l)) (tc:=some ((0:Int),(8:Int),l)) (xs:=[.i 0,.i 8]) (v := .tuple [.i 0,.i 8]) (fi:=58) (args:=[.ptr 3 4 0,.ptr 0 1 0]) (λ(a:Ri5) => .tuple []) (λ(a:Ri5)=>(mkH [⟨[w32 a.1],1,false⟩,⟨[.i 0],0,false⟩,⟨[.i 0],0,false⟩,⟨[.str j,w39 c,.i a.2,.i b],4,false⟩])) (atN 3 (ctl1 i3p7)) (λa=>[(35,.tuple []),(34,.ptr 3 4 0),(33,.func 58 [] [.ptr 0 1 0]),(32,.func 60 [] [.ptr 1 1 0,.ptr 2 1 0]),(4,.func 58 [] [.ptr 0 1 0]),(10,.ptr 1 1 0),(11,.ptr 2 1 0),(12,.ptr 3 4 0)]) F [⟨[w32 l],1,false⟩] [⟨[.i 0],1,false⟩,⟨[.i 8],1,false⟩,q] [(10,.ptr 1 1 0),(11,.ptr 2 1 0)] [10,11] 3 rfl rfl Kr (λh=>frS 0 (M:=F) (rs:=[0,3]) (ms:=[]) (mv:=[]) (mm:=[]) (D:=[3]) (xs':=[.ptr 3 4 0,.ptr 0 1 0]) (.refl) ((i5_ok k l j c g b).2 h) trivial trivial Kr) Kr Kr Kr Kr (qD (⟨Try.prog,cx,Try.f60,λ_ => .tuple [],4,λ_=>(mkH K),cxTi,cxOrd,λ_=>none,false⟩:Fx Unit) 5 2 (x := .iface 88 (.agg [])) qDs Kr Kr Kr rfl rfl rfl rfl ?_) rfl Kr Kr Kr (.pures Kr) ⟨Kr,trivial⟩ Kr Kr (λa h=>frW 0 F (rs:=[0,3]) (ms:=[]) (ms':=[]) (mv:=[]) (xs':=[.ptr 3 4 0,.ptr 0 1 0]) (.refl) ((i5_ok k l j c g b).1 a h) trivial trivial Kr) (λ_=>by kernel_rfl) (λa G=>?_)
   ·refine oE [(2,.iface 88 (.agg [])),(5,.iface 88 (.agg [])),(0,.ptr 1 1 0),(1,.ptr 2 1 0)] ?_
    let n:Env:=[(4,.bool true),(3,.ptr 4 0 0),(12,.bool true),(11,.agg []),(8,.tuple [.agg [],.bool true]),(10,.tuple [.agg [],.bool true]),(9,.iface 88 (.agg [])),(7,.bool true),(6,.iface 88 (.agg [])),(2,.iface 88 (.agg [])),(5,.iface 88 (.agg [])),(0,.ptr 1 1 0),(1,.ptr 2 1 0)]
    let E:Env:=[(0,.ptr 1 1 0),(1,.ptr 2 1 0),(2,.iface 88 (.agg [])),(4,.bool true)]
    refine oLH 19 (nav [0,0,0] (nav [1,0,0] (nav [0,0] (nav [0] (restAt Try.f60))))) E (mkH [⟨[w32 l],1,false⟩,⟨[.i 0],0,false⟩,⟨[.i 0],0,false⟩,q,⟨[],0,false⟩]) ?_
    refine oH 10 .fin ((14,.bool false)::(13,.bool true)::E) (mkH [⟨[w32 l],1,false⟩,⟨[.i 0],1,false⟩,⟨[.i 8],1,false⟩,q,⟨[],0,false⟩]) ?_
    refine qA9 K [⟨[],0,false⟩] Kr rfl Kr ⟨Kr,⟨Kr,⟨Kr,⟨Kr,trivial⟩⟩⟩⟩ ?_
    exact qDv (r:=()) (xs:=[]) Kr Kr Kr Kr
   ·let L:Blk:=⟨[.i a.2],1,false⟩
    let N:Blk:=⟨[.str j,w39 c,.i a.2,.i b],4,false⟩
    let C:List Blk:=[⟨[w32 a.1],1,false⟩,L,⟨[.i 0],1,false⟩,N]
    refine qCp 11 (p' := .fin) (eE:=((39,.i a.2)::(38,.ptr 3 4 2)::(37,.ptr 3 4 0)::(36,.ptr 3 4 0)::(35,.tuple [])::(34,.ptr 3 4 0)::(33,.func 58 [] [.ptr 0 1 0])::(32,.func 60 [] [.ptr 1 1 0,.ptr 2 1 0])::B)) (H':=(mkH C)) Kr ?_
    refine qIx (r:=(a.2,(0:Int),a.1)) (xs:=[.i a.2,.i 0]) (v := .tuple [.i a.2,.i 0]) C [⟨[w32 a.1],1,false⟩] [L,⟨[.i 0],1,false⟩,N] rfl rfl (qD (⟨Try.prog,cx,Try.f60,λ_ => .tuple [],4,λ_=>(mkH C),cxTi,cxOrd,λ_=>none,false⟩:Fx Unit) 5 2 (x := .nili) qGy Kr Kr Kr rfl rfl rfl rfl ?_) Kr Kr Kr Kr (.pures Kr) ⟨Kr,trivial⟩ Kr Kr
    let n:Env:=[(7,.bool false),(6,.nili),(2,.nili),(5,.nili),(0,.ptr 1 1 0),(1,.ptr 2 1 0)]
    refine oH 7 .fin n (mkH C) ?_
    exact qDv (r:=()) (xs:=[]) Kr Kr Kr Kr
 ·refine oS 15 (λo=>?_) (λo=>?_)
  ·refine oLH 11 i3p2 [(0,.str j),(1,w39 c),(2,.i g),(3,.i b),(4,.func 58 [] [.ptr 0 1 0]),(10,.ptr 1 1 0),(11,.ptr 2 1 0),(25,.bool true)] (mkH u) ?_
   exact m true
  ·let O:Env:=((21,.bool (decide ((c.length:Int) < b)))::(20,.bool (decide ((c.length:Int) < b)))::(19,.bool (decide ((c.length:Int) < b)))::(18,.i (c.length:Int))::(17,w39 c)::(16,.i b)::(15,.bool false)::n)
   refine oH 6 (atN 9 (ctl1 i3p1)) O (mkH u) ?_
   refine oS 21 (λo=>?_) (λo=>?_)
   ·refine oR 5 i3p2 ((25,.bool true)::(24,.tuple [])::(23,.tuple [])::(22,.tuple [])::(21,.bool true)::O) ?_
    refine oK [0,1,2,3,4,10,11,25] [(0,.str j),(1,w39 c),(2,.i g),(3,.i b),(4,.func 58 [] [.ptr 0 1 0]),(10,.ptr 1 1 0),(11,.ptr 2 1 0),(25,.bool true)] ?_
    exact m true
   ·refine oL 5 i3p2 [(0,.str j),(1,w39 c),(2,.i g),(3,.i b),(4,.func 58 [] [.ptr 0 1 0]),(10,.ptr 1 1 0),(11,.ptr 2 1 0),(25,.bool (decide (b < g)))] ?_
    exact m (decide (b < g))
theorem i3_ok (k:Nat):Pi3 (i3 k):=λa b c g j=>λx h=>i3_all k a b c g j x h
def Xg45:Fx ((List S31)×Int):=⟨Try.prog,cx,Try.f45,λr => .tuple [w32 r.1,.i r.2],0,λ_=>H0,cxTi,cxOrd,λ_=>none,false⟩
def g45p2:Pt:=nav [0,0,0] (nav [0,0,0] (nav [0] (bodyAt Try.f45)))
def g45p3:Pt:=nav [0,0,0,0] g45p2
def g45p4:Pt:=nav [0,0] g45p3
def g45p6:Pt:=nav [2,0,0] g45p4
def g45 (k:Nat) (h:LN) (j:List S38) (l:Int) (b:Int):Option ((List S31)×Int) :=
 (i3 k h j l b ([]:List S31)).bind λa=>jn (λ(m:Bool)=>jn (λ(n:Int)=>some (a.2.2,n)) (λc=>if m then (c 8) else (c a.2.1))) (λg=>if (decide (a.2.1=0)) then (g (!decide (a.1=b))) else (g false))
theorem g45_ok (k:Nat) (c:LN) (g:List S38) (j:Int) (b:Int) (r:((List S31)×Int)) (h:g45 k c g j b=some r):PureOk Try.prog 45 [.str c,w39 g,.i j,.i b] (.tuple [w32 r.1,.i r.2]):=by
 refine qA6 Xg45 (λ_=>⟨rfl,rfl⟩) Try.func45 (by decide +kernel) Kr (t:=g45 k c g j b) ?_ h
 unfold g45
 refine qA (eE:=[(0,.str c),(1,w39 g),(2,.i j),(3,.i b)]) Kr ?_
 let x:Env:=[(10,.ptr 0 1 0),(9,.i 0),(8,.nils),(0,.str c),(1,w39 g),(2,.i j),(3,.i b)]
 refine oH 10 g45p2 x (mkH [⟨[.nils],0,false⟩]) ?_
 refine qBu [⟨[.nils],0,false⟩] 0 0 [.nils] [w32 ([]:List S31)] Kr rfl (.nil (.refl)) ?_
 let A:Env:=((18,.func 58 [] [.ptr 0 1 0])::(17,.i b)::(16,.i j)::(15,w39 g)::(14,.str c)::x)
 refine oH 6 (atN 5 (ctl1 g45p2)) A (mkH [⟨[w32 ([]:List S31)],0,false⟩]) ?_
 refine qDk (λ(a:Ri3) => .tuple [.i a.1,.i a.2.1]) (λ(a:Ri3)=>(mkH [⟨[w32 a.2.2],1,false⟩])) (atN 6 (ctl1 g45p2)) (λa=>((19,.tuple [.i a.1,.i a.2.1])::A)) (fi:=46) (args:=[.str c,w39 g,.i j,.i b,.func 58 [] [.ptr 0 1 0]]) Kr (λa h=>frW 0 [⟨[w32 ([]:List S31)],1,false⟩] (rs:=[0]) (ms:=[]) (ms':=[]) (mv:=[]) (xs':=[.str c,w39 g,.i j,.i b,.func 58 [] [.ptr 0 1 0]]) (.refl) (i3_ok k c g j b ([]:List S31) a h) trivial trivial Kr) (λ_=>by kernel_rfl) (λa n=>?_)
 let B:Env:=[(3,.i b),(10,.ptr 0 1 0),(11,.i a.1),(12,.i a.2.1)]
 refine oLH 8 g45p3 B (mkH [⟨[w32 a.2.2],1,false⟩]) ?_
 refine oR 4 (atN 3 (ctl1 g45p3)) ((24,.bool (decide (a.2.1=0)))::(23,.bool (decide (a.2.1=0)))::(22,.i a.2.1)::B) ?_
 refine oJ g45p4 (λ(o:Bool)=>[(10,.ptr 0 1 0),(12,.i a.2.1),(28,.bool o)]) (λ(o:Bool)=>(mkH [⟨[w32 a.2.2],1,false⟩])) (λo=>?_) (λC l=>?_)
 ·refine oJ g45p6 (λ(q:Int)=>[(10,.ptr 0 1 0),(12,.i q)]) (λ(q:Int)=>(mkH [⟨[w32 a.2.2],1,false⟩])) (λq=>?_) (λD m=>?_)
  ·exact oQ 7
  ·refine oS 28 (λu=>?_) (λu=>?_)
   ·refine oLH 5 g45p6 [(10,.ptr 0 1 0),(12,.i 8)] (mkH [⟨[w32 a.2.2],1,false⟩]) ?_
    exact m 8
   ·refine oLH 3 g45p6 [(10,.ptr 0 1 0),(12,.i a.2.1)] (mkH [⟨[w32 a.2.2],1,false⟩]) ?_
    exact m a.2.1
 ·refine oS 24 (λu=>?_) (λu=>?_)
  ·refine oLH 5 g45p4 [(10,.ptr 0 1 0),(12,.i a.2.1),(28,.bool (!decide (a.1=b)))] (mkH [⟨[w32 a.2.2],1,false⟩]) ?_
   exact l (!decide (a.1=b))
  ·refine oLH 5 g45p4 [(10,.ptr 0 1 0),(12,.i a.2.1),(28,.bool false)] (mkH [⟨[w32 a.2.2],1,false⟩]) ?_
   exact l false
def Xg37:Fx (S31×Bool):=⟨Try.prog,cx,Try.f37,λr => .tuple [.agg [.i r.1.f0,.str r.1.f1,q32 r.1.f2,.bool r.1.f3,.bool r.1.f4,w9 r.1.f5,w9 r.1.f6],.bool r.2],0,λ_=>H0,cxTi,cxOrd,λ_=>none,false⟩
def g37c0:LN:=[99,97,108,108,98,97,99,107]
def g37p1:Pt:=nav [0,0,0,0] (nav [0] (bodyAt Try.f37))
def g37p2:Pt:=nav [0,0] g37p1
def g37p4:Pt:=nav [2,0,0] g37p2
def g37p6:Pt:=nav [0,0,0,0] g37p4
def g37p7:Pt:=nav [0,0] g37p6
def g37p9:Pt:=nav [2,0,0,0] g37p7
def g37p10:Pt:=nav [0,0] g37p9
def g37p11:Pt:=nav [1,0] g37p10
def g37p12:Pt:=nav [2,0,0] g37p10
def g37p13:Pt:=nav [0,0,0] g37p11
def g37p15:Pt:=nav [0,0] g37p13
def g37 (k:Nat) (o:LN) (l:List S38) (g:Int) (m:Int):Option (S31×Bool) :=
 jn (λ(x:Bool)=>if x then (some ((⟨(0:Int),([]:LN),⟨0,[]⟩,false,false,([]:LL),([]:LL)⟩:S31),false)) else ((nthL l (fW .i64 (g+1))).bind λa=>jn (λ(A:Bool)=>if A then (some ((⟨(0:Int),([]:LN),⟨0,[]⟩,false,false,([]:LL),([]:LL)⟩:S31),false)) else (jn (λ(B:Bool)=>jn (λ(C:Unit)=>(g45 k o l (fW .i64 (g+2)) m).bind λb=>some ((⟨(26:Int),a.f1,⟨(b.1).length,(b.1).flatMap e32⟩,false,false,([]:LL),([]:LL)⟩:S31),decide (b.2=0))) (λq=>if B then ((g44 k o l (fW .i64 (g+2)) m).bind λc=>if (decide (c.2=0)) then (some ((⟨(27:Int),a.f1,⟨(([c.1]:List S31)).length,(([c.1]:List S31)).flatMap e32⟩,false,false,([]:LL),([]:LL)⟩:S31),true)) else (q ())) else (q ()))) (λr=>if (eqL a.f1 [115,112,101,99]) then (r true) else (r (eqL a.f1 g37c0))))) (λn=>if (!decide (a.f0=1)) then (if (!decide (a.f0=8)) then (n true) else (n (!(eqL a.f1 [105,102])))) else (n false)))) (λu=>if (decide (fW .i64 (m - g) < 2)) then (u true) else ((nthL l g).bind λh=>(g43 k h).bind λj=>u (!j)))
theorem g37_ok (k:Nat) (m:LN) (l:List S38) (g:Int) (j:Int) (r:(S31×Bool)) (h:g37 k m l g j=some r):PureOk Try.prog 37 [.str m,w39 l,.i g,.i j] (.tuple [.agg [.i r.1.f0,.str r.1.f1,q32 r.1.f2,.bool r.1.f3,.bool r.1.f4,w9 r.1.f5,w9 r.1.f6],.bool r.2]):=by
 refine qA6 Xg37 (λ_=>⟨rfl,rfl⟩) Try.func37 (by decide +kernel) Kr (t:=g37 k m l g j) ?_ h
 unfold g37
 refine qA (eE:=[(0,.str m),(1,w39 l),(2,.i g),(3,.i j)]) Kr ?_
 let J:Env:=[(19,.bool (decide (fW .i64 (j - g) < 2))),(18,.bool (decide (fW .i64 (j - g) < 2))),(17,.i (fW .i64 (j - g))),(16,.i g),(15,.i j),(9,.bool false),(8,.ptr 0 7 0),(0,.str m),(1,w39 l),(2,.i g),(3,.i j)]
 let o:Blk:=⟨[.i 0,.str [],.nils,.bool false,.bool false,.nils,.nils],0,false⟩
 refine oH 13 (atN 5 (ctl1 g37p1)) J (mkH [o]) ?_
 refine oJ g37p2 (λ(B:Bool)=>[(0,.str m),(1,w39 l),(2,.i g),(3,.i j),(8,.ptr 0 7 0),(26,.bool B)]) (λ(B:Bool)=>(mkH [o])) (λB=>?_) (λV C=>?_)
 ·refine oS 26 (λq=>?_) (λq=>?_)
  ·refine oH 8 .fin [(9,.bool false),(27,.agg [.i 0,.str [],.nils,.bool false,.bool false,.nils,.nils]),(26,.bool true),(0,.str m),(1,w39 l),(2,.i g),(3,.i j),(8,.ptr 0 7 0),(26,.bool B)] (mkH [⟨[.i 0,.str [],.nils,.bool false,.bool false,.nils,.nils],7,false⟩]) ?_
   exact oT [.agg [.i 0,.str [],.nils,.bool false,.bool false,.nils,.nils],.bool false] (.tuple [.agg [.i 0,.str [],.vec 0 7 [],.bool false,.bool false,.vec 0 1 [],.vec 0 1 []],.bool false]) (.tuple (.agg (.cs (.cs (.nil (.cs (.cs (.nil (.nil .ps))))))) .ps) .ps)
  ·refine oH 7 (atN 3 (ctl1 g37p4)) [(30,.i (fW .i64 (g+1))),(29,.i g),(28,w39 l),(26,.bool false),(0,.str m),(1,w39 l),(2,.i g),(3,.i j),(8,.ptr 0 7 0),(26,.bool B)] (mkH [o]) ?_
   refine oC (λ(a:S38)=>(.vptr [.i a.f0,.str a.f1,.i a.f2],(mkH [o]))) (atN 4 (ctl1 g37p4)) 31 (vidxH (sz:=3) qAn Kr) λa K=>?_
   refine oLH 6 g37p6 [(0,.str m),(1,w39 l),(2,.i g),(3,.i j),(8,.ptr 0 7 0),(10,.ptr 1 3 0)] (mkH [o,⟨e39 a,3,false⟩]) ?_
   let S:Env:=[(0,.str m),(1,w39 l),(2,.i g),(3,.i j),(8,.ptr 0 7 0),(10,.ptr 1 3 0)]
   refine oR 5 (atN 4 (ctl1 g37p6)) ((36,.bool (!decide (a.f0=1)))::(35,.bool (!decide (a.f0=1)))::(34,.i a.f0)::(33,.ptr 1 3 0)::S) ?_
   refine oJ g37p7 (λ(D:Bool)=>[(0,.str m),(1,w39 l),(2,.i g),(3,.i j),(8,.ptr 0 7 0),(10,.ptr 1 3 0),(45,.bool D)]) (λ(D:Bool)=>(mkH [o,⟨e39 a,3,false⟩])) (λD=>?_) (λW x=>?_)
   ·refine oS 45 (λq=>?_) (λq=>?_)
    ·refine oH 8 .fin [(9,.bool false),(46,.agg [.i 0,.str [],.nils,.bool false,.bool false,.nils,.nils]),(45,.bool true),(0,.str m),(1,w39 l),(2,.i g),(3,.i j),(8,.ptr 0 7 0),(10,.ptr 1 3 0),(45,.bool D)] (mkH [⟨[.i 0,.str [],.nils,.bool false,.bool false,.nils,.nils],7,false⟩,⟨e39 a,3,false⟩]) ?_
     exact oT [.agg [.i 0,.str [],.nils,.bool false,.bool false,.nils,.nils],.bool false] (.tuple [.agg [.i 0,.str [],.vec 0 7 [],.bool false,.bool false,.vec 0 1 [],.vec 0 1 []],.bool false]) (.tuple (.agg (.cs (.cs (.nil (.cs (.cs (.nil (.nil .ps))))))) .ps) .ps)
    ·refine oH 9 (atN 4 (ctl1 g37p9)) [(50,.bool (eqL a.f1 [115,112,101,99])),(49,.bool (eqL a.f1 [115,112,101,99])),(48,.str a.f1),(47,.ptr 1 3 1),(45,.bool false),(0,.str m),(1,w39 l),(2,.i g),(3,.i j),(8,.ptr 0 7 0),(10,.ptr 1 3 0),(45,.bool D)] (mkH [o,⟨e39 a,3,false⟩]) ?_
     refine oJ g37p10 (λ(G:Bool)=>[(0,.str m),(1,w39 l),(2,.i g),(3,.i j),(8,.ptr 0 7 0),(10,.ptr 1 3 0),(54,.bool G)]) (λ(G:Bool)=>(mkH [o,⟨e39 a,3,false⟩])) (λG=>?_) (λY E=>?_)
     ·refine oJ g37p12 (λ(T:Unit)=>[(0,.str m),(1,w39 l),(2,.i g),(3,.i j),(8,.ptr 0 7 0),(10,.ptr 1 3 0)]) (λ(T:Unit)=>(mkH [o,⟨e39 a,3,false⟩])) (λT=>?_) (λZ F=>?_)
      ·refine oH 6 (atN 5 (ctl1 g37p12)) [(76,.i j),(75,.i (fW .i64 (g+2))),(74,.i g),(73,w39 l),(72,.str m),(0,.str m),(1,w39 l),(2,.i g),(3,.i j),(8,.ptr 0 7 0),(10,.ptr 1 3 0)] (mkH [o,⟨e39 a,3,false⟩]) ?_
       refine oA (λ(c:((List S31)×Int)) => .tuple [w32 c.1,.i c.2]) (atN 6 (ctl1 g37p12)) 77 [.str m,w39 l,.i (fW .i64 (g+2)),.i j] (g45_ok k m l (fW .i64 (g+2)) j) λc L=>?_
       let U:Env:=[(8,.ptr 0 7 0),(10,.ptr 1 3 0),(13,w32 c.1),(14,.i c.2)]
       refine oL 7 (nav [0,0,0] g37p12) U ?_
       refine oH 11 .fin ((9,.bool (decide (c.2=0)))::(85,.bool (decide (c.2=0)))::(84,.i c.2)::(83,.agg [.i 26,.str a.f1,w32 c.1,.bool false,.bool false,.nils,.nils])::(82,w32 c.1)::(81,.str a.f1)::(80,.ptr 1 3 1)::U) (mkH [⟨[.i 26,.str a.f1,w32 c.1,.bool false,.bool false,.nils,.nils],7,false⟩,⟨e39 a,3,false⟩]) ?_
       exact oT [.agg [.i 26,.str a.f1,w32 c.1,.bool false,.bool false,.nils,.nils],.bool (decide (c.2=0))] (.tuple [.agg [.i 26,.str a.f1,w32 c.1,.bool false,.bool false,.vec 0 1 [],.vec 0 1 []],.bool (decide (c.2=0))]) (.tuple (.agg (.cs (.cs (.cs (.cs (.cs (.nil (.nil .ps))))))) .ps) .ps)
      ·refine oS 54 (λq=>?_) (λq=>?_)
       ·refine oH 8 (atN 5 (ctl1 g37p11)) [(60,.i j),(59,.i (fW .i64 (g+2))),(58,.i g),(57,w39 l),(56,.str m),(54,.bool true),(0,.str m),(1,w39 l),(2,.i g),(3,.i j),(8,.ptr 0 7 0),(10,.ptr 1 3 0),(54,.bool G)] (mkH [o,⟨e39 a,3,false⟩]) ?_
        refine oA (λ(b:(S31×Int)) => .tuple [n32 b.1,.i b.2]) (atN 6 (ctl1 g37p11)) 61 [.str m,w39 l,.i (fW .i64 (g+2)),.i j] (g44_ok k m l (fW .i64 (g+2)) j) λb M=>?_
        let A:Env:=[(0,.str m),(1,w39 l),(2,.i g),(3,.i j),(8,.ptr 0 7 0),(10,.ptr 1 3 0),(11,.ptr 2 7 0),(12,.i b.2)]
        refine oLH 8 g37p13 A (mkH [o,⟨e39 a,3,false⟩,⟨e32 b.1,7,false⟩]) ?_
        refine oR 4 g37p15 ((65,.bool (decide (b.2=0)))::(64,.i b.2)::A) ?_
        refine oS 65 (λq=>?_) (λq=>?_)
        ·refine oH 7 (atN 4 (ctl1 (nav [1,0] g37p15))) ((69,.slice 3 7 0 1 7)::(68,n32 b.1)::(67,.str a.f1)::(66,.ptr 1 3 1)::(65,.bool true)::(65,.bool (decide (b.2=0)))::(64,.i b.2)::A) (mkH [o,⟨e39 a,3,false⟩,⟨e32 b.1,7,false⟩,⟨e32 b.1,0,false⟩]) ?_
         refine oZ 69 3 1 7 [.i b.1.f0,.str b.1.f1,q32 b.1.f2,.bool b.1.f3,.bool b.1.f4,w9 b.1.f5,w9 b.1.f6] [0,1,2,3,8,10,11,12,64,65,66,67,68] [] trivial ?_
         refine oH 5 .fin [(9,.bool true),(70,.agg [.i 27,.str a.f1,w32 ([b.1]:List S31),.bool false,.bool false,.nils,.nils]),(69,w32 ([b.1]:List S31)),(0,.str m),(1,w39 l),(2,.i g),(3,.i j),(8,.ptr 0 7 0),(10,.ptr 1 3 0),(11,.ptr 2 7 0),(12,.i b.2),(64,.i b.2),(65,.bool true),(66,.ptr 1 3 1),(67,.str a.f1),(68,n32 b.1)] (mkH [⟨[.i 27,.str a.f1,w32 ([b.1]:List S31),.bool false,.bool false,.nils,.nils],7,false⟩,⟨e39 a,3,false⟩,⟨e32 b.1,7,false⟩,⟨[],0,false⟩]) ?_
         exact oT [.agg [.i 27,.str a.f1,w32 ([b.1]:List S31),.bool false,.bool false,.nils,.nils],.bool true] (.tuple [.agg [.i 27,.str a.f1,w32 ([b.1]:List S31),.bool false,.bool false,.vec 0 1 [],.vec 0 1 []],.bool true]) (.tuple (.agg (.cs (.cs (.cs (.cs (.cs (.nil (.nil .ps))))))) .ps) .ps)
        ·refine oL 3 g37p12 [(0,.str m),(1,w39 l),(2,.i g),(3,.i j),(8,.ptr 0 7 0),(10,.ptr 1 3 0)] ?_
         refine qA9 [o,⟨e39 a,3,false⟩] [⟨e32 b.1,7,false⟩] Kr rfl Kr ⟨Kr,⟨Kr,trivial⟩⟩ ?_
         exact F ()
       ·refine oLH 3 g37p12 [(0,.str m),(1,w39 l),(2,.i g),(3,.i j),(8,.ptr 0 7 0),(10,.ptr 1 3 0)] (mkH [o,⟨e39 a,3,false⟩]) ?_
        exact F ()
     ·refine oS 50 (λq=>?_) (λq=>?_)
      ·refine oLH 5 g37p10 [(0,.str m),(1,w39 l),(2,.i g),(3,.i j),(8,.ptr 0 7 0),(10,.ptr 1 3 0),(54,.bool true)] (mkH [o,⟨e39 a,3,false⟩]) ?_
       exact E true
      ·refine oLH 5 g37p10 [(0,.str m),(1,w39 l),(2,.i g),(3,.i j),(8,.ptr 0 7 0),(10,.ptr 1 3 0),(54,.bool (eqL a.f1 g37c0))] (mkH [o,⟨e39 a,3,false⟩]) ?_
       exact E (eqL a.f1 g37c0)
   ·refine oS 36 (λq=>?_) (λq=>?_)
    ·refine oH 4 (atN 8 (ctl1 g37p6)) ((40,.bool (!decide (a.f0=8)))::(39,.bool (!decide (a.f0=8)))::(38,.i a.f0)::(37,.ptr 1 3 0)::(36,.bool true)::(36,.bool (!decide (a.f0=1)))::(35,.bool (!decide (a.f0=1)))::(34,.i a.f0)::(33,.ptr 1 3 0)::S) (mkH [o,⟨e39 a,3,false⟩]) ?_
     refine oS 40 (λq=>?_) (λq=>?_)
     ·refine oL 6 g37p7 [(0,.str m),(1,w39 l),(2,.i g),(3,.i j),(8,.ptr 0 7 0),(10,.ptr 1 3 0),(45,.bool true)] ?_
      exact x true
     ·refine oL 6 g37p7 [(0,.str m),(1,w39 l),(2,.i g),(3,.i j),(8,.ptr 0 7 0),(10,.ptr 1 3 0),(45,.bool (!(eqL a.f1 [105,102])))] ?_
      exact x (!(eqL a.f1 [105,102]))
    ·refine oLH 10 g37p7 [(0,.str m),(1,w39 l),(2,.i g),(3,.i j),(8,.ptr 0 7 0),(10,.ptr 1 3 0),(45,.bool false)] (mkH [o,⟨e39 a,3,false⟩]) ?_
     exact x false
 ·refine oS 19 (λq=>?_) (λq=>?_)
  ·refine oLH 8 g37p2 [(0,.str m),(1,w39 l),(2,.i g),(3,.i j),(8,.ptr 0 7 0),(26,.bool true)] (mkH [o]) ?_
   exact C true
  ·refine oH 2 (atN 7 (ctl1 g37p1)) ((21,.i g)::(20,w39 l)::(19,.bool false)::J) (mkH [o]) ?_
   refine oC (λ(n:S38)=>(.vptr [.i n.f0,.str n.f1,.i n.f2],(mkH [o]))) (atN 8 (ctl1 g37p1)) 22 (vidxH (sz:=3) qAn Kr) λn N=>?_
   refine oH 1 (atN 9 (ctl1 g37p1)) ((23,n39 n)::(22,.vptr [.i n.f0,.str n.f1,.i n.f2])::(21,.i g)::(20,w39 l)::(19,.bool false)::J) (mkH [o]) ?_
   refine oA (λ(u:Bool) => .bool u) (atN 10 (ctl1 g37p1)) 24 [n39 n] (g43_ok k n) λu O=>?_
   refine oL 3 g37p2 [(0,.str m),(1,w39 l),(2,.i g),(3,.i j),(8,.ptr 0 7 0),(26,.bool (!u))] ?_
   exact C (!u)
abbrev Ti10:Type:=LN→(List S38)→Int→Int→Option (Option (S31×Int))
def Xi10 (a:LN) (b:List S38) (g:Int) (c:Int):Fx (Option (S31×Int)):=⟨Try.prog,cx,Try.f49,λr=>match r with | some r=>n32 r.1 | none => .top,2,λr=>match r with | some r=>(mkH [⟨[.str a,w39 b,.i r.2,.i c],4,false⟩,⟨[.ptr 0 4 0],1,false⟩]) | none=>(mkH [⟨[.str a,w39 b,.i g,.i c],4,false⟩,⟨[.ptr 0 4 0],1,false⟩]),cxTi,cxOrd,λr=>match r with | some _=>none | none=>some (thrown,[0,1]),false⟩
def Pi10 (f:Ti10):Prop := ∀ a b c g,PQh (Xi10 a b c g) 49 [.ptr 1 1 0] (f a b c g)
def i10p1:Pt:=nav [0,0,0] (nav [0] (bodyAt Try.f49))
def i10d0:DP:=⟨[4],[(0,0,1),(0,0,0),(0,0,0),(6,0,0),(15,0,0),(31,0,0)],6,thrown,[],H0⟩
def i10 (k:Nat) (c:LN) (g:List S38) (j:Int) (h:Int):Option (Option (S31×Int)) :=
 bT (i18 k ([(1:Int),(7:Int)]:List Int) c g j h) λa=>bT (i19 k a.1 c g a.2 h) λb=>some (some (b.1,b.2))
theorem qPc (k:Nat):∀ g j o l r,i10 k g j o l=some r→CallT Try.prog 49 [.ptr 1 1 0] (mkH [⟨[.str g,w39 j,.i o,.i l],4,false⟩,⟨[.ptr 0 4 0],1,false⟩]) ((Xi10 g j o l).thr r) ((Xi10 g j o l).enc r) ((Xi10 g j o l).fin r):=by
 intro g j o l r h
 refine qA1 (Xi10 g j o l) Try.func49 Kr Kr rfl (t:=i10 k g j o l) ?_ h
 unfold i10
 refine qA (eE:=[(0,.ptr 1 1 0)]) Kr ?_
 let n:Blk:=⟨[.str g,w39 j,.i o,.i l],4,false⟩
 let c:Blk:=⟨[.i 0,.str [],.nils,.bool false,.bool false,.nils,.nils],0,false⟩
 refine oH 5 i10p1 [(1,.ptr 2 7 0),(0,.ptr 1 1 0)] (mkH [n,⟨[.ptr 0 4 0],1,false⟩,c]) ?_
 refine qCe (λh=>?_) (λa q=>?_)
 ·let m:Env:=[(4,w3 ([(1:Int),(7:Int)]:List Int)),(3,.ptr 0 4 0),(2,.ptr 0 4 0),(1,.ptr 2 7 0),(0,.ptr 1 1 0)]
  exact qAm (eE:=((6,.top)::(5,.top)::m)) (i10d0.th 3 thrown [1] (mkH [n,⟨[.ptr 0 4 0],1,false⟩,c])) (hs:=[(mkH [n,⟨[.ptr 0 4 0],1,false⟩,c]),(mkH [n,⟨[.ptr 0 4 0],1,false⟩,c]),(mkH [n,⟨[.ptr 0 4 0],1,false⟩,c])]) (LX:=[n,⟨[.ptr 0 4 0],1,false⟩]) (L:=[n,⟨[.ptr 0 4 0],1,false⟩,c]) rfl rfl rfl Kr rfl ⟨.inl rfl,⟨.inl rfl,trivial⟩⟩ Kr Kr Kr Kr (qA8 3 (l':=(opsAt i10p1).toList.drop 3) (eE:=m) (H':=(mkH [n,⟨[.ptr 0 4 0],1,false⟩,c])) (hs:=[]) Kr (qAh (l':=(opsAt i10p1).toList.drop 4) (eE:=((5,.top)::m)) (hs:=[(mkH [n,⟨[.ptr 0 4 0],1,false⟩,c])]) (fi:=51) (args:=[.ptr 0 4 0,w3 ([(1:Int),(7:Int)]:List Int)]) Kr Kr (frS 0 (M:=[n,⟨[.ptr 0 4 0],1,false⟩,c]) (rs:=[0]) (ms:=[]) (mv:=[]) (mm:=[]) (D:=[1]) (xs':=[.ptr 0 4 0,w3 ([(1:Int),(7:Int)]:List Int)]) (.refl) ((qD6 k ([(1:Int),(7:Int)]:List Int) g j o l).2 h) trivial trivial Kr) Kr (qA0 (l':=(opsAt i10p1).toList.drop 5) (eE:=((6,.top)::(5,.top)::m)) (hs:=[(mkH [n,⟨[.ptr 0 4 0],1,false⟩,c])]) Kr Kr (qA0 (l':=(opsAt i10p1).toList.drop 6) (eE:=((6,.top)::(5,.top)::m)) (hs:=[(mkH [n,⟨[.ptr 0 4 0],1,false⟩,c])]) Kr Kr (.nil))))) Kr Kr
 ·refine qCe (λh=>?_) (λb x=>?_)
  ·let m:Env:=[(4,w3 ([(1:Int),(7:Int)]:List Int)),(3,.ptr 0 4 0),(2,.ptr 0 4 0),(1,.ptr 2 7 0),(0,.ptr 1 1 0)]
   let u:Blk:=⟨[.str g,w39 j,.i a.2,.i l],4,false⟩
   exact qAm (eE:=((6,.top)::(5,.str a.1)::m)) (i10d0.th 4 thrown [0,1] (mkH [u,⟨[.ptr 0 4 0],1,false⟩,c])) (hs:=[(mkH [u,⟨[.ptr 0 4 0],1,false⟩,c]),(mkH [u,⟨[.ptr 0 4 0],1,false⟩,c]),(mkH [u,⟨[.ptr 0 4 0],1,false⟩,c])]) (LX:=[n,⟨[.ptr 0 4 0],1,false⟩]) (L:=[u,⟨[.ptr 0 4 0],1,false⟩,c]) rfl rfl rfl Kr rfl ⟨.inl rfl,⟨.inl rfl,trivial⟩⟩ Kr Kr Kr Kr (qA8 3 (l':=(opsAt i10p1).toList.drop 3) (eE:=m) (H':=(mkH [n,⟨[.ptr 0 4 0],1,false⟩,c])) (hs:=[]) Kr (qA5 (l':=(opsAt i10p1).toList.drop 4) (eE:=((5,.str a.1)::m)) (hs:=[(mkH [u,⟨[.ptr 0 4 0],1,false⟩,c])]) (H':=(mkH [u,⟨[.ptr 0 4 0],1,false⟩,c])) (fi:=51) (args:=[.ptr 0 4 0,w3 ([(1:Int),(7:Int)]:List Int)]) (v := .str a.1) Kr (frC (rs:=[0]) (ms:=[]) (ms':=[]) ((qD6 k ([(1:Int),(7:Int)]:List Int) g j o l).1 a q) trivial trivial Kr) Kr (qAh (l':=(opsAt i10p1).toList.drop 5) (eE:=((6,.top)::(5,.str a.1)::m)) (hs:=[(mkH [u,⟨[.ptr 0 4 0],1,false⟩,c])]) (fi:=50) (args:=[.ptr 0 4 0,.str a.1]) Kr Kr (frS 0 (M:=[u,⟨[.ptr 0 4 0],1,false⟩,c]) (rs:=[0]) (ms:=[]) (mv:=[]) (mm:=[]) (D:=[0,1]) (xs':=[.ptr 0 4 0,.str a.1]) (.refl) ((i19_ok k a.1 g j a.2 l).2 h) trivial trivial Kr) Kr (qA0 (l':=(opsAt i10p1).toList.drop 6) (eE:=((6,.top)::(5,.str a.1)::m)) (hs:=[(mkH [u,⟨[.ptr 0 4 0],1,false⟩,c])]) Kr Kr (.nil))))) Kr Kr
  ·let m:Env:=[(4,w3 ([(1:Int),(7:Int)]:List Int)),(3,.ptr 0 4 0),(2,.ptr 0 4 0),(1,.ptr 2 7 0),(0,.ptr 1 1 0)]
   let B:Blk:=⟨[.str g,w39 j,.i b.2,.i l],4,false⟩
   let C:Blk:=⟨[.str g,w39 j,.i a.2,.i l],4,false⟩
   let A:List Blk:=[B,⟨[.ptr 0 4 0],1,false⟩,⟨e32 b.1,7,false⟩]
   refine oD (H':=(mkH A)) (nav [0] i10p1) ((6,n32 b.1)::(5,.str a.1)::m) [(mkH [C,⟨[.ptr 0 4 0],1,false⟩,c]),(mkH [B,⟨[.ptr 0 4 0],1,false⟩,c]),(mkH A)] i10d0 (oDr 3 3 m (qA5 (l':=(opsAt i10p1).toList.drop 4) (eE:=((5,.str a.1)::m)) (hs:=[(mkH [C,⟨[.ptr 0 4 0],1,false⟩,c])]) (H':=(mkH [C,⟨[.ptr 0 4 0],1,false⟩,c])) (fi:=51) (args:=[.ptr 0 4 0,w3 ([(1:Int),(7:Int)]:List Int)]) (v := .str a.1) Kr (frC (rs:=[0]) (ms:=[]) (ms':=[]) ((qD6 k ([(1:Int),(7:Int)]:List Int) g j o l).1 a q) trivial trivial Kr) Kr (qA5 (l':=(opsAt i10p1).toList.drop 5) (eE:=((6,n32 b.1)::(5,.str a.1)::m)) (hs:=[(mkH [B,⟨[.ptr 0 4 0],1,false⟩,c])]) (H':=(mkH [B,⟨[.ptr 0 4 0],1,false⟩,c])) (fi:=50) (args:=[.ptr 0 4 0,.str a.1]) (v:=n32 b.1) Kr (frC (rs:=[0]) (ms:=[]) (ms':=[]) ((i19_ok k a.1 g j a.2 l).1 b x) trivial trivial Kr) Kr (oDh 1 6 ((6,n32 b.1)::(5,.str a.1)::m) (mkH A) [(mkH A)] .nil)))) ?_
   exact oQF 1 A 2 [] [n32 b.1] (n32 b.1) .ps trivial
theorem i10_ok (k:Nat):Pi10 (i10 k):=λa b c g=>⟨λx h=>qPc k a b c g (some x) h,λh=>⟨_,qPc k a b c g none h⟩⟩
abbrev Ri6:Type:=((List S31)×Int)
abbrev Ti6:Type:=LL→LN→(List S38)→Int→Int→Option (Option Ri6)
def Xi6 (h:LL) (a:LN) (b:List S38) (g:Int) (c:Int):Fx (Option Ri6):=⟨Try.prog,cx,Try.f48,λr=>match r with | some r=>w32 r.1 | none => .top,2,λr=>match r with | some r=>(mkH [⟨[.str a,w39 b,.i r.2,.i c],4,false⟩,⟨[.ptr 0 4 0],1,false⟩]) | none=>(mkH [⟨[.str a,w39 b,.i g,.i c],4,false⟩,⟨[.ptr 0 4 0],1,false⟩]),cxTi,cxOrd,λr=>match r with | some _=>none | none=>some (thrown,[0,1]),false⟩
def Pi6 (f:Ti6):Prop := ∀ a b c g h,PQh (Xi6 a b c g h) 48 [.ptr 0 4 0,w9 a,.func 49 [] [.ptr 1 1 0]] (f a b c g h)
def i6p1:Pt:=nav [0,0,0,0] (nav [0] (bodyAt Try.f48))
def i6p2:Pt:=nav [0,0,0,0,0] i6p1
def i6p4:Pt:=nav [0,0,0] (nav [0,0,0] i6p2)
def i6p5:Pt:=nav [0,0,0,0] i6p4
def i6p6:Pt:=nav [0,0] i6p5
def i6p7:Pt:=nav [1,0] i6p6
def qOc (k:Nat)  (m:LN) (n:List S38) (o:Int) (ih:LL→Int→(List S31)→Option (Option Ri6)):LL→Int→(List S31)→Option (Option Ri6) :=
 λ(h:LL) (j:Int) (l:List S31)=>bT (i10 k m n j o) λa=>(appS 104 l ([(⟨a.1.f0,a.1.f1,a.1.f2,a.1.f3,a.1.f4,h,a.1.f6⟩:S31)]:List S31)).bind λc=>bT (i11 k ([59]:LN) m n a.2 o) λb=>if b.1 then ((i12 k m n b.2 o).bind λg=>ih g.1 g.2 c) else (some (some (c,b.2)))
def i6_l4 (k:Nat)  (a:LN) (b:List S38) (c:Int) (n:Nat):LL→Int→(List S31)→Option (Option Ri6):=lp (λ_ _ _=>none) (qOc k a b c) n
theorem i6_l4_ok (k:Nat) (K:LL) (m:LN) (o:List S38) (L:Int) (q:Int)    : ∀ (n:Nat) (b:LL) (l:Int) (c:List S31),Ok (Xi6 K m o L q) i6p2 [(0,.ptr 0 4 0),(1,w9 b),(2,.func 49 [] [.ptr 1 1 0]),(7,.own 2 (c).length 7)] (mkH [⟨[.str m,w39 o,.i l,.i q],4,false⟩,⟨[.ptr 0 4 0],1,false⟩,⟨(c).flatMap e32,0,false⟩]) (i6_l4 k m o q n b l c):=by
 intro n
 induction n with
 | zero=>intro b l c; exact ok_none
 | succ n ih =>
  intro b l c
  show Ok _ _ _ _ (qOc k m o q (i6_l4 k m o q n) b l c)
  unfold qOc
  let J:Env:=[(9,.func 49 [] [.ptr 1 1 0]),(0,.ptr 0 4 0),(1,w9 b),(2,.func 49 [] [.ptr 1 1 0]),(7,.own 2 (c).length 7)]
  let A:Blk:=⟨(c).flatMap e32,0,false⟩
  refine oH 2 (atN 1 (ctl1 i6p2)) J (mkH [⟨[.str m,w39 o,.i l,.i q],4,false⟩,⟨[.ptr 0 4 0],1,false⟩,A]) ?_
  refine oX (λ(a:(S31×Int))=>n32 a.1) (λa=>[⟨[.str m,w39 o,.i a.2,.i q],4,false⟩,⟨[.ptr 0 4 0],1,false⟩,A]) (atN 2 (ctl1 i6p2)) 10 [0,1] [] [] [0,1] [0,0,1] [.ptr 1 1 0] (i10_ok k m o l q) trivial (λ_=>trivial) ⟨u32 _,trivial⟩ λa C=>?_
  let B:Blk:=⟨[.str m,w39 o,.i a.2,.i q],4,false⟩
  let r:Blk:=⟨[.i a.1.f0,.str a.1.f1,q32 a.1.f2,.bool a.1.f3,.bool a.1.f4,w9 b,w9 a.1.f6],7,false⟩
  let u:Blk:=⟨[.i a.1.f0,.str a.1.f1,q32 a.1.f2,.bool a.1.f3,.bool a.1.f4,w9 b,w9 a.1.f6],0,false⟩
  refine oH 14 (atN 3 (ctl1 i6p4)) ((15,.slice 4 7 0 1 7)::(14,.agg [.i a.1.f0,.str a.1.f1,q32 a.1.f2,.bool a.1.f3,.bool a.1.f4,w9 b,w9 a.1.f6])::(13,.own 2 (c).length 7)::(12,.ptr 3 7 5)::(11,w9 b)::(8,.ptr 3 7 0)::(10,n32 a.1)::J) (mkH [B,⟨[.ptr 0 4 0],1,false⟩,A,r,u]) ?_
  refine oC (λ(g:List S31)=>(.own 2 (g).length 7,(mkH [B,⟨[.ptr 0 4 0],1,false⟩,⟨(g).flatMap e32,0,false⟩,r,u]))) (atN 4 (ctl1 i6p4)) 16 (appH (sz:=7) qA4 rfl qB0 [B,⟨[.ptr 0 4 0],1,false⟩,A,r,u] 2 104 c ([(⟨a.1.f0,a.1.f1,a.1.f2,a.1.f3,a.1.f4,b,a.1.f6⟩:S31)]:List S31) rfl rfl Kr) λg D=>?_
  let x:Blk:=⟨(g).flatMap e32,0,false⟩
  refine oLH 4 i6p5 [(0,.ptr 0 4 0),(2,.func 49 [] [.ptr 1 1 0]),(7,.own 2 (g).length 7)] (mkH [B,⟨[.ptr 0 4 0],1,false⟩,x,r,u]) ?_
  let E:Env:=[(0,.ptr 0 4 0),(2,.func 49 [] [.ptr 1 1 0]),(7,.own 2 (g).length 7)]
  refine oR 2 (atN 1 (ctl1 i6p5)) ((17,.ptr 0 4 0)::E) ?_
  refine oX (λ(h:(Bool×Int)) => .bool h.1) (λh=>[⟨[.str m,w39 o,.i h.2,.i q],4,false⟩,⟨[.ptr 0 4 0],1,false⟩,x,r,u]) (atN 2 (ctl1 i6p5)) 18 [0] [] [] [1] [0,0,1] [.ptr 0 4 0,.str [59]] (qAb k ([59]:LN) m o a.2 q) trivial (λ_=>trivial) ⟨u32 _,trivial⟩ λh F=>?_
  refine oR 1 i6p6 ((18,.bool h.1)::(17,.ptr 0 4 0)::E) ?_
  refine oS 18 (λM=>?_) (λM=>?_)
  ·refine oR 4 (atN 1 (ctl1 i6p7)) ((19,.ptr 0 4 0)::(18,.bool true)::(18,.bool h.1)::(17,.ptr 0 4 0)::E) ?_
   refine oN (λ(j:Ri12)=>w9 j.1) (λj=>[⟨[.str m,w39 o,.i j.2,.i q],4,false⟩,⟨[.ptr 0 4 0],1,false⟩,x,r,u]) (atN 2 (ctl1 i6p7)) 20 [0] [] [] [.ptr 0 4 0] (qAp k m o h.2 q) trivial (λ_=>trivial) λj G=>?_
   refine oL 6 i6p2 [(0,.ptr 0 4 0),(1,w9 j.1),(2,.func 49 [] [.ptr 1 1 0]),(7,.own 2 (g).length 7)] ?_
   refine qA9 [⟨[.str m,w39 o,.i j.2,.i q],4,false⟩,⟨[.ptr 0 4 0],1,false⟩,x] [r,u] Kr rfl Kr ⟨Kr,⟨Kr,⟨(qA3 _ (u32 _)),trivial⟩⟩⟩ ?_
   exact ih j.1 j.2 g
  ·exact oQF 8 [⟨[.str m,w39 o,.i h.2,.i q],4,false⟩,⟨[.ptr 0 4 0],1,false⟩,x,r,u] 2 [] [.own 2 (g).length 7] (w32 g) (qAw qA4 qAg rfl rfl rfl .ps) trivial
def i6 (k:Nat) (a:LL) (b:LN) (c:List S38) (g:Int) (h:Int):Option (Option Ri6) :=
 i6_l4 k b c h k a g ([]:List S31)
theorem i6_all (k:Nat):∀ a c g b j r,i6 k a c g b j=some r→CallT Try.prog 48 [.ptr 0 4 0,w9 a,.func 49 [] [.ptr 1 1 0]] (mkH [⟨[.str c,w39 g,.i b,.i j],4,false⟩,⟨[.ptr 0 4 0],1,false⟩]) ((Xi6 a c g b j).thr r) ((Xi6 a c g b j).enc r) ((Xi6 a c g b j).fin r):=by
 intro a c g b j r h
 refine qA1 (Xi6 a c g b j) Try.func48 Kr Kr rfl (t:=i6 k a c g b j) ?_ h
 unfold i6
 refine qA (eE:=[(0,.ptr 0 4 0),(1,w9 a),(2,.func 49 [] [.ptr 1 1 0])]) Kr ?_
 let m:Env:=[(7,.nils),(6,.nils),(0,.ptr 0 4 0),(1,w9 a),(2,.func 49 [] [.ptr 1 1 0])]
 let l:Blk:=⟨[.str c,w39 g,.i b,.i j],4,false⟩
 refine oH 8 (atN 1 (ctl1 i6p1)) m (mkH [l,⟨[.ptr 0 4 0],1,false⟩]) ?_
 refine qE4 [l,⟨[.ptr 0 4 0],1,false⟩] 7 7 rfl Kr ?_
 refine oH 4 i6p2 ((7,.own 2 (([]:List S31)).length 7)::m) (mkH [l,⟨[.ptr 0 4 0],1,false⟩,⟨(([]:List S31)).flatMap e32,0,false⟩]) ?_
 refine oK [0,1,2,7] [(0,.ptr 0 4 0),(1,w9 a),(2,.func 49 [] [.ptr 1 1 0]),(7,.own 2 (([]:List S31)).length 7)] ?_
 exact (i6_l4_ok k a c g b j k) a b ([]:List S31)
theorem i6_ok (k:Nat):Pi6 (i6 k):=λa b c g j=>⟨λx h=>i6_all k a b c g j (some x) h,λh=>⟨_,i6_all k a b c g j none h⟩⟩
abbrev Ri4:Type:=((List S31)×Int)
abbrev Ti4:Type:=(List S31)→LN→(List S38)→Int→Int→Option (Option Ri4)
def Xi4 (g:List S31) (a:LN) (b:List S38) (h:Int) (c:Int):Fx (Option Ri4):=⟨Try.prog,cx,Try.f47,λr=>match r with | some r => .tuple [] | none => .top,2,λr=>match r with | some r=>(mkH [⟨[w32 r.1],1,false⟩,⟨[.str a,w39 b,.i r.2,.i c],4,false⟩]) | none=>(mkH [⟨[w32 g],1,false⟩,⟨[.str a,w39 b,.i h,.i c],4,false⟩]),cxTi,cxOrd,λr=>match r with | some _=>none | none=>some (thrown,[1]),false⟩
def Pi4 (f:Ti4):Prop := ∀ a b c g h,PQh (Xi4 a b c g h) 47 [.ptr 1 4 0,.ptr 0 1 0] (f a b c g h)
def i4p1:Pt:=nav [0,0] (nav [0] (bodyAt Try.f47))
def i4 (k:Nat) (j:List S31) (b:LN) (c:List S38) (g:Int) (h:Int):Option (Option Ri4) :=
 bT (i6 k ([]:LL) b c g h) λa=>some (some (a.1,a.2))
theorem i4_all (k:Nat):∀ j b c l g r,i4 k j b c l g=some r→CallT Try.prog 47 [.ptr 1 4 0,.ptr 0 1 0] (mkH [⟨[w32 j],1,false⟩,⟨[.str b,w39 c,.i l,.i g],4,false⟩]) ((Xi4 j b c l g).thr r) ((Xi4 j b c l g).enc r) ((Xi4 j b c l g).fin r):=by
 intro j b c l g r h
 refine qA1 (Xi4 j b c l g) Try.func47 Kr Kr rfl (t:=i4 k j b c l g) ?_ h
 unfold i4
 refine qA (eE:=[(0,.ptr 1 4 0),(1,.ptr 0 1 0)]) Kr ?_
 let n:Blk:=⟨[.str b,w39 c,.i l,.i g],4,false⟩
 refine oH 7 (atN 2 (ctl1 i4p1)) [(4,.func 49 [] [.ptr 2 1 0]),(3,.ptr 1 4 0),(2,.ptr 2 1 0),(0,.ptr 1 4 0),(1,.ptr 0 1 0)] (mkH [⟨[w32 j],1,false⟩,n,⟨[.ptr 1 4 0],0,false⟩]) ?_
 refine oXW 0 [⟨[w32 j],1,false⟩,n,⟨[.ptr 1 4 0],1,false⟩] (λ(a:Ri6)=>w32 a.1) (λa=>[⟨[w32 j],1,false⟩,⟨[.str b,w39 c,.i a.2,.i g],4,false⟩,⟨[.ptr 1 4 0],1,false⟩]) (atN 3 (ctl1 i4p1)) 5 [1,2] [] [] [1,2] [] [] [.ptr 1 4 0,.nils,.func 49 [] [.ptr 2 1 0]] [.ptr 1 4 0,w9 ([]:LL),.func 49 [] [.ptr 2 1 0]] (.cons (.nil (.refl))) (i6_ok k ([]:LL) b c l g) trivial (λ_=>trivial) trivial λa m=>?_
 exact oQF 2 [⟨[w32 a.1],1,false⟩,⟨[.str b,w39 c,.i a.2,.i g],4,false⟩,⟨[.ptr 1 4 0],1,false⟩] 2 [] [] (.tuple []) .ps trivial
theorem i4_ok (k:Nat):Pi4 (i4 k):=λa b c g j=>⟨λx h=>i4_all k a b c g j (some x) h,λh=>⟨_,i4_all k a b c g j none h⟩⟩
abbrev Ri2:Type:=(Int×Int×(List S31))
abbrev Ti2:Type:=LN→(List S38)→Int→Int→(List S31)→Option Ri2
def Xi2 (a:LN) (b:List S38) (c:Int) (g:Int) (h:List S31):Fx Ri2:=⟨Try.prog,cx,Try.f46,λr => .tuple [.i r.1,.i r.2.1],1,λr=>(mkH [⟨[w32 r.2.2],1,false⟩]),cxTi,cxOrd,λ_=>none,true⟩
def Pi2 (f:Ti2):Prop := ∀ a b c g h,PNh (Xi2 a b c g h) 46 [.str a,w39 b,.i c,.i g,.func 47 [] [.ptr 0 1 0]] (mkH [⟨[w32 h],1,false⟩]) (f a b c g h)
def i2p1:Pt:=nav [0,0,0,0] (nav [0] (bodyAt Try.f46))
def i2p2:Pt:=nav [0,0] i2p1
def i2p6:Pt:=nav [0,0,0] (nav [2,0,0] i2p2)
def i2p7:Pt:=nav [0,0,0] i2p6
def i2 (k:Nat) (l:LN) (j:List S38) (b:Int) (c:Int) (g:List S31):Option Ri2 :=
 jn (λ(m:Bool)=>if m then (some ((0:Int),(8:Int),g)) else (cT (i4 k g l j b c) (some ((0:Int),(8:Int),g)) λa=>some (a.2,(0:Int),a.1))) (λh=>if (decide (b < 0)) then (h true) else (if (decide ((j.length:Int) < c)) then (h true) else (h (decide (c < b)))))
theorem i2_all (k:Nat):∀ j c g b l r,i2 k j c g b l=some r→CallT Try.prog 46 [.str j,w39 c,.i g,.i b,.func 47 [] [.ptr 0 1 0]] (mkH [⟨[w32 l],1,false⟩]) ((Xi2 j c g b l).thr r) ((Xi2 j c g b l).enc r) ((Xi2 j c g b l).fin r):=by
 intro j c g b l r h
 refine qA1 (Xi2 j c g b l) Try.func46 Kr Kr rfl (t:=i2 k j c g b l) ?_ h
 unfold i2
 refine qA (eE:=[(0,.str j),(1,w39 c),(2,.i g),(3,.i b),(4,.func 47 [] [.ptr 0 1 0])]) Kr ?_
 let n:Env:=[(15,.bool (decide (g < 0))),(14,.bool (decide (g < 0))),(13,.i g),(11,.ptr 2 1 0),(10,.ptr 1 1 0),(0,.str j),(1,w39 c),(2,.i g),(3,.i b),(4,.func 47 [] [.ptr 0 1 0])]
 let u:List Blk:=[⟨[w32 l],1,false⟩,⟨[.i 0],0,false⟩,⟨[.i 0],0,false⟩]
 refine oH 11 (atN 3 (ctl1 i2p1)) n (mkH u) ?_
 refine oJ i2p2 (λ(A:Bool)=>[(0,.str j),(1,w39 c),(2,.i g),(3,.i b),(4,.func 47 [] [.ptr 0 1 0]),(10,.ptr 1 1 0),(11,.ptr 2 1 0),(25,.bool A)]) (λ(A:Bool)=>(mkH u)) (λA=>?_) (λS m=>?_)
 ·refine oS 25 (λo=>?_) (λo=>?_)
  ·let E:Env:=[(25,.bool true),(0,.str j),(1,w39 c),(2,.i g),(3,.i b),(4,.func 47 [] [.ptr 0 1 0]),(10,.ptr 1 1 0),(11,.ptr 2 1 0),(25,.bool A)]
   exact oQF 7 [⟨[w32 l],1,false⟩,⟨[.i 0],1,false⟩,⟨[.i 8],1,false⟩] 1 [] [.i 0,.i 8] (.tuple [.i 0,.i 8]) .ps trivial
  ·let B:Env:=[(4,.func 47 [] [.ptr 0 1 0]),(10,.ptr 1 1 0),(11,.ptr 2 1 0),(12,.ptr 3 4 0)]
   let J:List Blk:=[⟨[w32 l],1,false⟩,⟨[.i 0],0,false⟩,⟨[.i 0],0,false⟩,⟨[.str j,w39 c,.i g,.i b],0,false⟩]
   refine oLH 13 i2p6 B (mkH J) ?_
   refine oR 2 (atN 1 (ctl1 i2p6)) ((32,.func 60 [] [.ptr 1 1 0,.ptr 2 1 0])::B) ?_
   refine qEg (f:=60) (caps:=[.ptr 1 1 0,.ptr 2 1 0]) Kr ?_
   refine qKp (p':=(atN 2 (ctl1 i2p6))) Kr ?_
   refine qCp 5 (p':=(atN 2 (ctl1 i2p7))) (eE:=((34,.ptr 3 4 0)::(33,.func 47 [] [.ptr 0 1 0])::(32,.func 60 [] [.ptr 1 1 0,.ptr 2 1 0])::B)) (H':=(mkH J)) Kr ?_
   let q:Blk:=⟨[.str j,w39 c,.i g,.i b],4,false⟩
   let F:List Blk:=[⟨[w32 l],1,false⟩,⟨[.i 0],0,false⟩,⟨[.i 0],0,false⟩,q]
   let K:List Blk:=[⟨[w32 l],1,false⟩,⟨[.i 0],1,false⟩,⟨[.i 8],1,false⟩,q]
   refine qGw (tv:=thrown) (D:=[3]) (rc:=((0:Int),(8:Int),l)) (tc:=some ((0:Int),(8:Int),l)) (xs:=[.i 0,.i 8]) (v := .tuple [.i 0,.i 8]) (fi:=47) (args:=[.ptr 3 4 0,.ptr 0 1 0]) (λ(a:Ri4) => .tuple []) (λ(a:Ri4)=>(mkH [⟨[w32 a.1],1,false⟩,⟨[.i 0],0,false⟩,⟨[.i 0],0,false⟩,⟨[.str j,w39 c,.i a.2,.i b],4,false⟩])) (atN 3 (ctl1 i2p7)) (λa=>[(35,.tuple []),(34,.ptr 3 4 0),(33,.func 47 [] [.ptr 0 1 0]),(32,.func 60 [] [.ptr 1 1 0,.ptr 2 1 0]),(4,.func 47 [] [.ptr 0 1 0]),(10,.ptr 1 1 0),(11,.ptr 2 1 0),(12,.ptr 3 4 0)]) F [⟨[w32 l],1,false⟩] [⟨[.i 0],1,false⟩,⟨[.i 8],1,false⟩,q] [(10,.ptr 1 1 0),(11,.ptr 2 1 0)] [10,11] 3 rfl rfl Kr (λh=>frS 0 (M:=F) (rs:=[0,3]) (ms:=[]) (mv:=[]) (mm:=[]) (D:=[3]) (xs':=[.ptr 3 4 0,.ptr 0 1 0]) (.refl) ((i4_ok k l j c g b).2 h) trivial trivial Kr) Kr Kr Kr Kr (qD (⟨Try.prog,cx,Try.f60,λ_ => .tuple [],4,λ_=>(mkH K),cxTi,cxOrd,λ_=>none,false⟩:Fx Unit) 5 2 (x := .iface 88 (.agg [])) qDs Kr Kr Kr rfl rfl rfl rfl ?_) rfl Kr Kr Kr (.pures Kr) ⟨Kr,trivial⟩ Kr Kr (λa h=>frW 0 F (rs:=[0,3]) (ms:=[]) (ms':=[]) (mv:=[]) (xs':=[.ptr 3 4 0,.ptr 0 1 0]) (.refl) ((i4_ok k l j c g b).1 a h) trivial trivial Kr) (λ_=>by kernel_rfl) (λa G=>?_)
   ·refine oE [(2,.iface 88 (.agg [])),(5,.iface 88 (.agg [])),(0,.ptr 1 1 0),(1,.ptr 2 1 0)] ?_
    let n:Env:=[(4,.bool true),(3,.ptr 4 0 0),(12,.bool true),(11,.agg []),(8,.tuple [.agg [],.bool true]),(10,.tuple [.agg [],.bool true]),(9,.iface 88 (.agg [])),(7,.bool true),(6,.iface 88 (.agg [])),(2,.iface 88 (.agg [])),(5,.iface 88 (.agg [])),(0,.ptr 1 1 0),(1,.ptr 2 1 0)]
    let E:Env:=[(0,.ptr 1 1 0),(1,.ptr 2 1 0),(2,.iface 88 (.agg [])),(4,.bool true)]
    refine oLH 19 (nav [0,0,0] (nav [1,0,0] (nav [0,0] (nav [0] (restAt Try.f60))))) E (mkH [⟨[w32 l],1,false⟩,⟨[.i 0],0,false⟩,⟨[.i 0],0,false⟩,q,⟨[],0,false⟩]) ?_
    refine oH 10 .fin ((14,.bool false)::(13,.bool true)::E) (mkH [⟨[w32 l],1,false⟩,⟨[.i 0],1,false⟩,⟨[.i 8],1,false⟩,q,⟨[],0,false⟩]) ?_
    refine qA9 K [⟨[],0,false⟩] Kr rfl Kr ⟨Kr,⟨Kr,⟨Kr,⟨Kr,trivial⟩⟩⟩⟩ ?_
    exact qDv (r:=()) (xs:=[]) Kr Kr Kr Kr
   ·let L:Blk:=⟨[.i a.2],1,false⟩
    let N:Blk:=⟨[.str j,w39 c,.i a.2,.i b],4,false⟩
    let C:List Blk:=[⟨[w32 a.1],1,false⟩,L,⟨[.i 0],1,false⟩,N]
    refine qCp 11 (p' := .fin) (eE:=((39,.i a.2)::(38,.ptr 3 4 2)::(37,.ptr 3 4 0)::(36,.ptr 3 4 0)::(35,.tuple [])::(34,.ptr 3 4 0)::(33,.func 47 [] [.ptr 0 1 0])::(32,.func 60 [] [.ptr 1 1 0,.ptr 2 1 0])::B)) (H':=(mkH C)) Kr ?_
    refine qIx (r:=(a.2,(0:Int),a.1)) (xs:=[.i a.2,.i 0]) (v := .tuple [.i a.2,.i 0]) C [⟨[w32 a.1],1,false⟩] [L,⟨[.i 0],1,false⟩,N] rfl rfl (qD (⟨Try.prog,cx,Try.f60,λ_ => .tuple [],4,λ_=>(mkH C),cxTi,cxOrd,λ_=>none,false⟩:Fx Unit) 5 2 (x := .nili) qGy Kr Kr Kr rfl rfl rfl rfl ?_) Kr Kr Kr Kr (.pures Kr) ⟨Kr,trivial⟩ Kr Kr
    let n:Env:=[(7,.bool false),(6,.nili),(2,.nili),(5,.nili),(0,.ptr 1 1 0),(1,.ptr 2 1 0)]
    refine oH 7 .fin n (mkH C) ?_
    exact qDv (r:=()) (xs:=[]) Kr Kr Kr Kr
 ·refine oS 15 (λo=>?_) (λo=>?_)
  ·refine oLH 11 i2p2 [(0,.str j),(1,w39 c),(2,.i g),(3,.i b),(4,.func 47 [] [.ptr 0 1 0]),(10,.ptr 1 1 0),(11,.ptr 2 1 0),(25,.bool true)] (mkH u) ?_
   exact m true
  ·let O:Env:=((21,.bool (decide ((c.length:Int) < b)))::(20,.bool (decide ((c.length:Int) < b)))::(19,.bool (decide ((c.length:Int) < b)))::(18,.i (c.length:Int))::(17,w39 c)::(16,.i b)::(15,.bool false)::n)
   refine oH 6 (atN 9 (ctl1 i2p1)) O (mkH u) ?_
   refine oS 21 (λo=>?_) (λo=>?_)
   ·refine oR 5 i2p2 ((25,.bool true)::(24,.tuple [])::(23,.tuple [])::(22,.tuple [])::(21,.bool true)::O) ?_
    refine oK [0,1,2,3,4,10,11,25] [(0,.str j),(1,w39 c),(2,.i g),(3,.i b),(4,.func 47 [] [.ptr 0 1 0]),(10,.ptr 1 1 0),(11,.ptr 2 1 0),(25,.bool true)] ?_
    exact m true
   ·refine oL 5 i2p2 [(0,.str j),(1,w39 c),(2,.i g),(3,.i b),(4,.func 47 [] [.ptr 0 1 0]),(10,.ptr 1 1 0),(11,.ptr 2 1 0),(25,.bool (decide (b < g)))] ?_
    exact m (decide (b < g))
theorem i2_ok (k:Nat):Pi2 (i2 k):=λa b c g j=>λx h=>i2_all k a b c g j x h
def Xg38:Fx ((List S31)×Int):=⟨Try.prog,cx,Try.f38,λr => .tuple [w32 r.1,.i r.2],0,λ_=>H0,cxTi,cxOrd,λ_=>none,false⟩
def g38p2:Pt:=nav [0,0,0] (nav [0,0,0] (nav [0] (bodyAt Try.f38)))
def g38p3:Pt:=nav [0,0,0,0] g38p2
def g38p4:Pt:=nav [0,0] g38p3
def g38p6:Pt:=nav [2,0,0] g38p4
def g38 (k:Nat) (h:LN) (j:List S38) (l:Int) (b:Int):Option ((List S31)×Int) :=
 (i2 k h j l b ([]:List S31)).bind λa=>jn (λ(m:Bool)=>jn (λ(n:Int)=>some (a.2.2,n)) (λc=>if m then (c 8) else (c a.2.1))) (λg=>if (decide (a.2.1=0)) then (g (!decide (a.1=b))) else (g false))
theorem g38_ok (k:Nat) (c:LN) (g:List S38) (j:Int) (b:Int) (r:((List S31)×Int)) (h:g38 k c g j b=some r):PureOk Try.prog 38 [.str c,w39 g,.i j,.i b] (.tuple [w32 r.1,.i r.2]):=by
 refine qA6 Xg38 (λ_=>⟨rfl,rfl⟩) Try.func38 (by decide +kernel) Kr (t:=g38 k c g j b) ?_ h
 unfold g38
 refine qA (eE:=[(0,.str c),(1,w39 g),(2,.i j),(3,.i b)]) Kr ?_
 let x:Env:=[(10,.ptr 0 1 0),(9,.i 0),(8,.nils),(0,.str c),(1,w39 g),(2,.i j),(3,.i b)]
 refine oH 10 g38p2 x (mkH [⟨[.nils],0,false⟩]) ?_
 refine qBu [⟨[.nils],0,false⟩] 0 0 [.nils] [w32 ([]:List S31)] Kr rfl (.nil (.refl)) ?_
 let A:Env:=((18,.func 47 [] [.ptr 0 1 0])::(17,.i b)::(16,.i j)::(15,w39 g)::(14,.str c)::x)
 refine oH 6 (atN 5 (ctl1 g38p2)) A (mkH [⟨[w32 ([]:List S31)],0,false⟩]) ?_
 refine qDk (λ(a:Ri2) => .tuple [.i a.1,.i a.2.1]) (λ(a:Ri2)=>(mkH [⟨[w32 a.2.2],1,false⟩])) (atN 6 (ctl1 g38p2)) (λa=>((19,.tuple [.i a.1,.i a.2.1])::A)) (fi:=46) (args:=[.str c,w39 g,.i j,.i b,.func 47 [] [.ptr 0 1 0]]) Kr (λa h=>frW 0 [⟨[w32 ([]:List S31)],1,false⟩] (rs:=[0]) (ms:=[]) (ms':=[]) (mv:=[]) (xs':=[.str c,w39 g,.i j,.i b,.func 47 [] [.ptr 0 1 0]]) (.refl) (i2_ok k c g j b ([]:List S31) a h) trivial trivial Kr) (λ_=>by kernel_rfl) (λa n=>?_)
 let B:Env:=[(3,.i b),(10,.ptr 0 1 0),(11,.i a.1),(12,.i a.2.1)]
 refine oLH 8 g38p3 B (mkH [⟨[w32 a.2.2],1,false⟩]) ?_
 refine oR 4 (atN 3 (ctl1 g38p3)) ((24,.bool (decide (a.2.1=0)))::(23,.bool (decide (a.2.1=0)))::(22,.i a.2.1)::B) ?_
 refine oJ g38p4 (λ(o:Bool)=>[(10,.ptr 0 1 0),(12,.i a.2.1),(28,.bool o)]) (λ(o:Bool)=>(mkH [⟨[w32 a.2.2],1,false⟩])) (λo=>?_) (λC l=>?_)
 ·refine oJ g38p6 (λ(q:Int)=>[(10,.ptr 0 1 0),(12,.i q)]) (λ(q:Int)=>(mkH [⟨[w32 a.2.2],1,false⟩])) (λq=>?_) (λD m=>?_)
  ·exact oQ 7
  ·refine oS 28 (λu=>?_) (λu=>?_)
   ·refine oLH 5 g38p6 [(10,.ptr 0 1 0),(12,.i 8)] (mkH [⟨[w32 a.2.2],1,false⟩]) ?_
    exact m 8
   ·refine oLH 3 g38p6 [(10,.ptr 0 1 0),(12,.i a.2.1)] (mkH [⟨[w32 a.2.2],1,false⟩]) ?_
    exact m a.2.1
 ·refine oS 24 (λu=>?_) (λu=>?_)
  ·refine oLH 5 g38p4 [(10,.ptr 0 1 0),(12,.i a.2.1),(28,.bool (!decide (a.1=b)))] (mkH [⟨[w32 a.2.2],1,false⟩]) ?_
   exact l (!decide (a.1=b))
  ·refine oLH 5 g38p4 [(10,.ptr 0 1 0),(12,.i a.2.1),(28,.bool false)] (mkH [⟨[w32 a.2.2],1,false⟩]) ?_
   exact l false
def Xg28:Fx (S31×Bool):=⟨Try.prog,cx,Try.f28,λr => .tuple [.agg [.i r.1.f0,.str r.1.f1,q32 r.1.f2,.bool r.1.f3,.bool r.1.f4,w9 r.1.f5,w9 r.1.f6],.bool r.2],0,λ_=>H0,cxTi,cxOrd,λ_=>none,false⟩
def g28p1:Pt:=nav [0,0,0,0] (nav [0] (bodyAt Try.f28))
def g28p2:Pt:=nav [0,0] g28p1
def g28p4:Pt:=nav [2,0,0,0] g28p2
def g28p6:Pt:=nav [0,0,0] g28p4
def g28p7:Pt:=nav [0,0] g28p6
def g28p9:Pt:=nav [2,0,0] g28p7
def g28 (k:Nat) (l:LN) (h:List S38) (j:Int) (g:Int):Option (S31×Bool) :=
 jn (λ(n:Bool)=>if n then (some ((⟨(0:Int),([]:LN),⟨0,[]⟩,false,false,([]:LL),([]:LL)⟩:S31),false)) else ((g37 k l h j (fW .i64 (g - 1))).bind λb=>if b.2 then (some (b.1,true)) else ((g38 k l h j (fW .i64 (g - 1))).bind λa=>some ((⟨(28:Int),([]:LN),⟨(a.1).length,(a.1).flatMap e32⟩,false,false,([]:LL),([]:LL)⟩:S31),decide (a.2=0))))) (λm=>if (decide (g≤j)) then (m true) else ((nthL h (fW .i64 (g - 1))).bind λc=>m (!decide (c.f0=10))))
theorem g28_ok (k:Nat) (m:LN) (l:List S38) (g:Int) (c:Int) (r:(S31×Bool)) (h:g28 k m l g c=some r):PureOk Try.prog 28 [.str m,w39 l,.i g,.i c] (.tuple [.agg [.i r.1.f0,.str r.1.f1,q32 r.1.f2,.bool r.1.f3,.bool r.1.f4,w9 r.1.f5,w9 r.1.f6],.bool r.2]):=by
 refine qA6 Xg28 (λ_=>⟨rfl,rfl⟩) Try.func28 (by decide +kernel) Kr (t:=g28 k m l g c) ?_ h
 unfold g28
 refine qA (eE:=[(0,.str m),(1,w39 l),(2,.i g),(3,.i c)]) Kr ?_
 let D:Env:=[(17,.bool (decide (c≤g))),(16,.bool (decide (c≤g))),(15,.i g),(14,.i c),(9,.bool false),(8,.ptr 0 7 0),(0,.str m),(1,w39 l),(2,.i g),(3,.i c)]
 let n:Blk:=⟨[.i 0,.str [],.nils,.bool false,.bool false,.nils,.nils],0,false⟩
 refine oH 12 (atN 4 (ctl1 g28p1)) D (mkH [n]) ?_
 refine oJ g28p2 (λ(o:Bool)=>[(0,.str m),(1,w39 l),(2,.i g),(3,.i c),(8,.ptr 0 7 0),(25,.bool o)]) (λ(o:Bool)=>(mkH [n])) (λo=>?_) (λF q=>?_)
 ·refine oS 25 (λu=>?_) (λu=>?_)
  ·refine oH 8 .fin [(9,.bool false),(26,.agg [.i 0,.str [],.nils,.bool false,.bool false,.nils,.nils]),(25,.bool true),(0,.str m),(1,w39 l),(2,.i g),(3,.i c),(8,.ptr 0 7 0),(25,.bool o)] (mkH [⟨[.i 0,.str [],.nils,.bool false,.bool false,.nils,.nils],7,false⟩]) ?_
   exact oT [.agg [.i 0,.str [],.nils,.bool false,.bool false,.nils,.nils],.bool false] (.tuple [.agg [.i 0,.str [],.vec 0 7 [],.bool false,.bool false,.vec 0 1 [],.vec 0 1 []],.bool false]) (.tuple (.agg (.cs (.cs (.nil (.cs (.cs (.nil (.nil .ps))))))) .ps) .ps)
  ·refine oH 10 (atN 5 (ctl1 g28p4)) [(32,.i (fW .i64 (c - 1))),(31,.i c),(30,.i g),(29,w39 l),(28,.str m),(25,.bool false),(0,.str m),(1,w39 l),(2,.i g),(3,.i c),(8,.ptr 0 7 0),(25,.bool o)] (mkH [n]) ?_
   refine oA (λ(b:(S31×Bool)) => .tuple [n32 b.1,.bool b.2]) (atN 6 (ctl1 g28p4)) 33 [.str m,w39 l,.i g,.i (fW .i64 (c - 1))] (g37_ok k m l g (fW .i64 (c - 1))) λb x=>?_
   let A:Env:=[(0,.str m),(1,w39 l),(2,.i g),(3,.i c),(8,.ptr 0 7 0),(10,.ptr 1 7 0),(11,.bool b.2)]
   refine oLH 8 g28p6 A (mkH [n,⟨e32 b.1,7,false⟩]) ?_
   refine oR 3 g28p7 ((36,.bool b.2)::A) ?_
   refine oS 36 (λu=>?_) (λu=>?_)
   ·exact oQ 8
   ·refine oR 9 (atN 5 (ctl1 g28p9)) ((43,.i (fW .i64 (c - 1)))::(42,.i c)::(41,.i g)::(40,w39 l)::(39,.str m)::(36,.bool false)::(36,.bool b.2)::A) ?_
    refine oA (λ(a:((List S31)×Int)) => .tuple [w32 a.1,.i a.2]) (atN 6 (ctl1 g28p9)) 44 [.str m,w39 l,.i g,.i (fW .i64 (c - 1))] (g38_ok k m l g (fW .i64 (c - 1))) λa B=>?_
    let E:Env:=[(8,.ptr 0 7 0),(12,w32 a.1),(13,.i a.2)]
    refine oL 7 (nav [0,0,0] g28p9) E ?_
    refine oH 9 .fin ((9,.bool (decide (a.2=0)))::(50,.bool (decide (a.2=0)))::(49,.i a.2)::(48,.agg [.i 28,.str [],w32 a.1,.bool false,.bool false,.nils,.nils])::(47,w32 a.1)::E) (mkH [⟨[.i 28,.str [],w32 a.1,.bool false,.bool false,.nils,.nils],7,false⟩,⟨e32 b.1,7,false⟩]) ?_
    exact oT [.agg [.i 28,.str [],w32 a.1,.bool false,.bool false,.nils,.nils],.bool (decide (a.2=0))] (.tuple [.agg [.i 28,.str [],w32 a.1,.bool false,.bool false,.vec 0 1 [],.vec 0 1 []],.bool (decide (a.2=0))]) (.tuple (.agg (.cs (.cs (.cs (.cs (.cs (.nil (.nil .ps))))))) .ps) .ps)
 ·refine oS 17 (λu=>?_) (λu=>?_)
  ·refine oLH 9 g28p2 [(0,.str m),(1,w39 l),(2,.i g),(3,.i c),(8,.ptr 0 7 0),(25,.bool true)] (mkH [n]) ?_
   exact q true
  ·refine oH 3 (atN 7 (ctl1 g28p1)) ((20,.i (fW .i64 (c - 1)))::(19,.i c)::(18,w39 l)::(17,.bool false)::D) (mkH [n]) ?_
   refine oC (λ(j:S38)=>(.vptr [.i j.f0,.str j.f1,.i j.f2],(mkH [n]))) (atN 8 (ctl1 g28p1)) 21 (vidxH (sz:=3) qAn Kr) λj C=>?_
   refine oLH 5 g28p2 [(0,.str m),(1,w39 l),(2,.i g),(3,.i c),(8,.ptr 0 7 0),(25,.bool (!decide (j.f0=10)))] (mkH [n]) ?_
   exact q (!decide (j.f0=10))
def Xg14:Fx S31:=⟨Try.prog,cx,Try.f14,λr => .agg [.i r.f0,.str r.f1,q32 r.f2,.bool r.f3,.bool r.f4,w9 r.f5,w9 r.f6],0,λ_=>H0,cxTi,cxOrd,λ_=>none,false⟩
def g14p1:Pt:=nav [0,0,0] (nav [0] (bodyAt Try.f14))
def g14p2:Pt:=nav [0,0,0,0] g14p1
def g14p3:Pt:=nav [0,0] g14p2
def g14p5:Pt:=nav [2,0,0] g14p3
def g14p6:Pt:=nav [0,0] (nav [1,0] g14p3)
def g14p8:Pt:=nav [1] g14p6
def g14p9:Pt:=nav [2,0] g14p6
def g14p11:Pt:=nav [0,0,0] g14p9
def g14 (k:Nat) (n:LN) (j:List S38) (a:S48):Option S31 :=
 (g27 k n j a).bind λb=>jn (λ(o:Bool)=>jn (λ(g:S31)=>some (⟨g.f0,g.f1,g.f2,g.f3,a.f3,g.f5,g.f6⟩:S31)) (λl=>if o then (if a.f2 then ((nthL j a.f0).bind λh=>l (⟨30,h.f1,(⟨(([]:List S31)).length,(([]:List S31)).flatMap e32⟩:Raw),false,false,([]:LL),([]:LL)⟩:S31)) else ((g28 k n j a.f0 a.f1).bind λc=>if c.2 then (l c.1) else (l (⟨29,b,(⟨(([]:List S31)).length,(([]:List S31)).flatMap e32⟩:Raw),false,false,([]:LL),([]:LL)⟩:S31)))) else (l (⟨29,b,(⟨(([]:List S31)).length,(([]:List S31)).flatMap e32⟩:Raw),false,false,([]:LL),([]:LL)⟩:S31)))) (λm=>if (decide (0≤a.f0)) then (if (decide (a.f1≤(j.length:Int))) then (m (decide (a.f0 < a.f1))) else (m false)) else (m false))
theorem g14_ok (k:Nat) (m:LN) (j:List S38) (a:S48) (r:S31) (h:g14 k m j a=some r):PureOk Try.prog 14 [.str m,w39 j,.agg [.i a.f0,.i a.f1,.bool a.f2,.bool a.f3]] (.agg [.i r.f0,.str r.f1,q32 r.f2,.bool r.f3,.bool r.f4,w9 r.f5,w9 r.f6]):=by
 refine qA6 Xg14 (λ_=>⟨rfl,rfl⟩) Try.func14 (by decide +kernel) Kr (t:=g14 k m j a) ?_ h
 unfold g14
 refine qA (eE:=[(0,.str m),(1,w39 j),(2,.agg [.i a.f0,.i a.f1,.bool a.f2,.bool a.f3])]) Kr ?_
 let G:Env:=[(12,n49 a),(11,w39 j),(10,.str m),(6,.ptr 1 7 0),(5,.ptr 0 4 0),(0,.str m),(1,w39 j),(2,n49 a)]
 let l:Blk:=⟨[.i 0,.str [],.nils,.bool false,.bool false,.nils,.nils],0,false⟩
 refine oH 10 (atN 3 (ctl1 g14p1)) G (mkH [⟨e49 a,0,false⟩,l]) ?_
 refine oA (λ(g:LN) => .str g) (atN 4 (ctl1 g14p1)) 13 [.str m,w39 j,n49 a] (g27_ok k m j a) λg B=>?_
 let J:Env:=((18,.bool (decide (0≤a.f0)))::(17,.bool (decide (0≤a.f0)))::(16,.i a.f0)::(15,.ptr 0 4 0)::(7,.ptr 2 7 0)::(14,.agg [.i 29,.str g,.nils,.bool false,.bool false,.nils,.nils])::(13,.str g)::G)
 let n:Blk:=⟨[.i 29,.str g,.nils,.bool false,.bool false,.nils,.nils],7,false⟩
 refine oH 11 (atN 4 (ctl1 g14p2)) J (mkH [⟨e49 a,0,false⟩,l,n]) ?_
 refine oJ g14p3 (λ(x:Bool)=>[(0,.str m),(1,w39 j),(5,.ptr 0 4 0),(6,.ptr 1 7 0),(7,.ptr 2 7 0),(31,.bool x)]) (λ(x:Bool)=>(mkH [⟨e49 a,0,false⟩,l,n])) (λx=>?_) (λN u=>?_)
 ·refine oJ g14p5 (λ(C:S31)=>[(5,.ptr 0 4 0),(6,.ptr 1 7 0),(7,.ptr 2 7 0)]) (λ(C:S31)=>(mkH [⟨e49 a,0,false⟩,l,⟨e32 C,7,false⟩])) (λC=>?_) (λO o=>?_)
  ·exact oQ 12
  ·refine oS 31 (λq=>?_) (λq=>?_)
   ·let A:Env:=[(33,.bool a.f2),(32,.ptr 0 4 2),(31,.bool true),(0,.str m),(1,w39 j),(5,.ptr 0 4 0),(6,.ptr 1 7 0),(7,.ptr 2 7 0),(31,.bool x)]
    refine oH 6 g14p6 A (mkH [⟨e49 a,0,false⟩,l,n]) ?_
    refine oS 33 (λq=>?_) (λq=>?_)
    ·refine oR 5 (atN 3 (ctl1 g14p8)) ((36,.i a.f0)::(35,.ptr 0 4 0)::(34,w39 j)::(33,.bool true)::A) ?_
     refine oC (λ(b:S38)=>(.vptr [.i b.f0,.str b.f1,.i b.f2],(mkH [⟨e49 a,0,false⟩,l,n]))) (atN 4 (ctl1 g14p8)) 37 (vidxH (sz:=3) qAn Kr) λb D=>?_
     let K:Blk:=⟨[.i 30,.str b.f1,.nils,.bool false,.bool false,.nils,.nils],7,false⟩
     refine oH 6 g14p5 ((40,.agg [.i 30,.str b.f1,.nils,.bool false,.bool false,.nils,.nils])::(39,.str b.f1)::(38,.vptr [.str b.f1,.i b.f2])::(37,.vptr [.i b.f0,.str b.f1,.i b.f2])::(36,.i a.f0)::(35,.ptr 0 4 0)::(34,w39 j)::(33,.bool true)::A) (mkH [⟨e49 a,0,false⟩,l,K]) ?_
     refine qBu [⟨e49 a,0,false⟩,l,K] 2 7 [.i 30,.str b.f1,.nils,.bool false,.bool false,.nils,.nils] [.i 30,.str b.f1,w32 ([]:List S31),.bool false,.bool false,w9 ([]:LL),w9 ([]:LL)] Kr rfl (.cons (.cons (.nil (.cons (.cons (.nil (.nil (.refl)))))))) ?_
     refine oHp (mkH [⟨e49 a,0,false⟩,l,⟨[.i 30,.str b.f1,w32 ([]:List S31),.bool false,.bool false,w9 ([]:LL),w9 ([]:LL)],7,false⟩]) ?_
     refine oK [5,6,7] [(5,.ptr 0 4 0),(6,.ptr 1 7 0),(7,.ptr 2 7 0)] ?_
     exact o (⟨30,b.f1,(⟨(([]:List S31)).length,(([]:List S31)).flatMap e32⟩:Raw),false,false,([]:LL),([]:LL)⟩:S31)
    ·refine oR 9 (atN 6 (ctl1 g14p9)) ((47,.i a.f1)::(46,.ptr 0 4 1)::(45,.i a.f0)::(44,.ptr 0 4 0)::(43,w39 j)::(42,.str m)::(33,.bool false)::A) ?_
     refine oA (λ(c:(S31×Bool)) => .tuple [n32 c.1,.bool c.2]) (atN 7 (ctl1 g14p9)) 48 [.str m,w39 j,.i a.f0,.i a.f1] (g28_ok k m j a.f0 a.f1) λc E=>?_
     let F:Env:=[(5,.ptr 0 4 0),(6,.ptr 1 7 0),(7,.ptr 2 7 0),(8,.ptr 3 7 0),(9,.bool c.2)]
     let L:List Blk:=[⟨e49 a,0,false⟩,l,n,⟨e32 c.1,7,false⟩]
     refine oLH 8 g14p11 F (mkH L) ?_
     refine oR 3 (nav [0,0] g14p11) ((51,.bool c.2)::F) ?_
     refine oS 51 (λq=>?_) (λq=>?_)
     ·refine oLH 6 g14p5 [(5,.ptr 0 4 0),(6,.ptr 1 7 0),(7,.ptr 2 7 0)] (mkH [⟨e49 a,0,false⟩,l,⟨e32 c.1,7,false⟩,⟨e32 c.1,7,false⟩]) ?_
      refine qA9 [⟨e49 a,0,false⟩,l,⟨e32 c.1,7,false⟩] [⟨e32 c.1,7,false⟩] Kr rfl Kr ⟨Kr,⟨Kr,⟨Kr,trivial⟩⟩⟩ ?_
      exact o c.1
     ·refine oR 3 g14p5 ((51,.bool false)::(51,.bool c.2)::F) ?_
      refine qBu L 2 7 [.i 29,.str g,.nils,.bool false,.bool false,.nils,.nils] [.i 29,.str g,w32 ([]:List S31),.bool false,.bool false,w9 ([]:LL),w9 ([]:LL)] Kr rfl (.cons (.cons (.nil (.cons (.cons (.nil (.nil (.refl)))))))) ?_
      let M:Blk:=⟨[.i 29,.str g,w32 ([]:List S31),.bool false,.bool false,w9 ([]:LL),w9 ([]:LL)],7,false⟩
      refine oHp (mkH [⟨e49 a,0,false⟩,l,M,⟨e32 c.1,7,false⟩]) ?_
      refine oK [5,6,7] [(5,.ptr 0 4 0),(6,.ptr 1 7 0),(7,.ptr 2 7 0)] ?_
      refine qA9 [⟨e49 a,0,false⟩,l,M] [⟨e32 c.1,7,false⟩] Kr rfl Kr ⟨Kr,⟨Kr,⟨Kr,trivial⟩⟩⟩ ?_
      exact o (⟨29,g,(⟨(([]:List S31)).length,(([]:List S31)).flatMap e32⟩:Raw),false,false,([]:LL),([]:LL)⟩:S31)
   ·refine oH 3 g14p5 [(31,.bool false),(0,.str m),(1,w39 j),(5,.ptr 0 4 0),(6,.ptr 1 7 0),(7,.ptr 2 7 0),(31,.bool x)] (mkH [⟨e49 a,0,false⟩,l,n]) ?_
    refine qBu [⟨e49 a,0,false⟩,l,n] 2 7 [.i 29,.str g,.nils,.bool false,.bool false,.nils,.nils] [.i 29,.str g,w32 ([]:List S31),.bool false,.bool false,w9 ([]:LL),w9 ([]:LL)] Kr rfl (.cons (.cons (.nil (.cons (.cons (.nil (.nil (.refl)))))))) ?_
    refine oHp (mkH [⟨e49 a,0,false⟩,l,⟨[.i 29,.str g,w32 ([]:List S31),.bool false,.bool false,w9 ([]:LL),w9 ([]:LL)],7,false⟩]) ?_
    refine oK [5,6,7] [(5,.ptr 0 4 0),(6,.ptr 1 7 0),(7,.ptr 2 7 0)] ?_
    exact o (⟨29,g,(⟨(([]:List S31)).length,(([]:List S31)).flatMap e32⟩:Raw),false,false,([]:LL),([]:LL)⟩:S31)
 ·refine oS 18 (λq=>?_) (λq=>?_)
  ·refine oH 7 (atN 11 (ctl1 g14p2)) ((25,.bool (decide (a.f1≤(j.length:Int))))::(24,.bool (decide (a.f1≤(j.length:Int))))::(23,.bool (decide (a.f1≤(j.length:Int))))::(22,.i (j.length:Int))::(21,w39 j)::(20,.i a.f1)::(19,.ptr 0 4 1)::(18,.bool true)::J) (mkH [⟨e49 a,0,false⟩,l,n]) ?_
   refine oS 25 (λq=>?_) (λq=>?_)
   ·refine oL 7 g14p3 [(0,.str m),(1,w39 j),(5,.ptr 0 4 0),(6,.ptr 1 7 0),(7,.ptr 2 7 0),(31,.bool (decide (a.f0 < a.f1)))] ?_
    exact u (decide (a.f0 < a.f1))
   ·refine oL 7 g14p3 [(0,.str m),(1,w39 j),(5,.ptr 0 4 0),(6,.ptr 1 7 0),(7,.ptr 2 7 0),(31,.bool false)] ?_
    exact u false
  ·refine oLH 14 g14p3 [(0,.str m),(1,w39 j),(5,.ptr 0 4 0),(6,.ptr 1 7 0),(7,.ptr 2 7 0),(31,.bool false)] (mkH [⟨e49 a,0,false⟩,l,n]) ?_
   exact u false
end
abbrev ML:=List (Int×Int×S31)
def MI (b:Mp) (a:World) (b0 B:Nat) (L:ML) (m:Mp) (w:World):Prop :=
 ((∀ r v p,b r v=some p→r < 0)∧b0≤a.heap.size)∧St b a b0 m w∧a.heap.size≤B∧(∀ r v N,m r v ≠ some (B,N))∧B < w.heap.size∧∃ es clock,w.heap[B]? = some (.map es clock)∧Ent m.still es.toList L
theorem qB5 {a:Mp} {b:World} {b0 B:Nat} {L:ML}:Stb b0 (MI a b b0 B L):=by
 rintro m w m' w' ⟨c,st,g,hun,hlt,es,clock,hes,hent⟩ hbs st'
 refine ⟨c,st.trans c.2 st',g,λr v N e=>?_,Nat.lt_of_lt_of_le hlt st'.size,es,clock,?_,hent.mono (still_mono st'.sub)⟩
 ·rcases st'.ext r v B N e with ⟨j,k,l⟩ | h
  ·exact hun r j k l
  ·omega
 ·rw [st'.same B hlt λr v N e=>absurd e (hun r v N)]; exact hes
theorem mi_cut {a:Mp} {b:World} {b0 B:Nat} {L:ML} (k:Nat) (m:Mp) (w:World) (h:MI a b b0 B L m w):MI a b b0 B L (m.cut k) w:=by
 obtain ⟨c,st,g,hun,hlt,es,clock,hes,hent⟩:=h
 have hcut:∀ {r v q},(m.cut k) r v=some q→m r v=some q:=by
  intro r v q h
  have h:(if r < k then m r v else none)=some q:=h
  by_cases e:r < k
  ·rw [if_pos e] at h; exact h
  ·rw [if_neg e] at h; cases h
 exact ⟨c,⟨⟨λr v q hq=>absurd (c.1 r v q hq) (by omega),st.sub.2,st.sub.3⟩,λr v B N e=>st.ext r v B N (hcut e),st.fext,st.size,st.os,st.tape,st.output,st.same⟩,g,λr v N e=>hun r v N (hcut e),hlt,es,clock,hes,hent⟩
section
variable {R:Type} {X:Fx R} {p p':Pt} {env eE:Env} {H H':Hp}
theorem sem_ok {b:Mp} {c:World} {b0 B:Nat} {L:ML} {r:R} (g:X.n0=0) (k:Ok X p env H (some r)):Sem X (MI b c b0 B L) b0 (Ret X r b c b0) p env H:=by
 rintro m w a ⟨h,st,-⟩ fr hnt hd rw
 exact k r rfl b c b0 m w a (by rw [g]; exact h) fr hnt hd rw st
theorem rw_new {m:Mp} {w:World} {b0:Nat} (o:Obj) (rw:RW m H w b0):RW m H (wnew w o) b0∧St m w b0 m (wnew w o):=by
 refine ⟨⟨?_,?_,rw.sep,rw.fresh,rw.vle,rw.frz_old (λB hB=>qB7 _ _ _ hB) rfl,rw.fsep,rw.ffin,by rw [qAj]; exact Nat.le_succ_of_le rw.base_le,rw.low,rw.tyk_new _⟩,⟨Sub.refl m,λr v B N e => .inl ⟨v,N,e⟩,λ_ _ _ e => .inl e,by rw [qAj]; omega,rfl,rfl,rfl,λB hB _=>qB7 _ _ _ hB⟩⟩
 ·intro r b v B N h hm j k
  obtain ⟨cs,ty,fr,a,c⟩:=rw.blk r b v B N h hm j k
  obtain ⟨_,_,_,g,_⟩:=rw.dom r v B N hm
  exact ⟨cs,ty,fr,by rw [qB7 _ _ _ g]; exact a,c⟩
 ·intro r v B N hm
  obtain ⟨b,a,c,g,l⟩:=rw.dom r v B N hm
  exact ⟨b,a,c,by rw [qAj]; omega,l⟩
theorem qMh {t : Option R} {d T : Nat} (A : X.n0 = 0) (h : (match operAt X.fn.ntmps p env with | some o => (match o.op with | .makeMap T' none => Nat.beq T' T | _ => false) && (match o.dst with | some d' => Nat.beq d' d | none => false) | none => false) = true)
 (k:∀ r,t=some r→∀ b c b0 B,Sem X (MI b c b0 B []) b0 (Ret X r b c b0) (adv p) ((d,.mapp B)::env) H):Ok X p env H t:=by
 cases ho:operAt X.fn.ntmps p env with
 | none=>rw [ho] at h; cases h
 | some o =>
  rw [ho] at h
  simp only [Bool.and_eq_true] at h
  obtain ⟨g,j⟩:=h
  obtain ⟨ops,n,K,rfl,u,C,D⟩:=qAd ho
  have hop:o.op = .makeMap T none:=by
   split at g
   ·rename_i T' e; rw [e,Nat.eq_of_beq_eq_true g]
   ·cases g
  have hdst:o.dst=some d:=by
   split at j
   ·rename_i d' e; rw [e,Nat.eq_of_beq_eq_true j]
   ·cases j
  intro r hr m0 E b0 m w a x fr hn' hdf rw st
  show wpOps X.P ops _ (List.range' n (ops.size - n)) a w
  have hlt:n < ops.size:=(Array.getElem?_eq_some_iff.1 u).1
  rw [show ops.size - n=(ops.size - (n+1))+1 by omega,List.range'_succ]
  simp only [wpOps,u]
  rw [qAx D fr]
  simp only [if_true]
  refine .inl ?_
  have hexec:(execOp a.eval o).run X.P w = .ok (.value (.map (some w.heap.size))) (wnew w (.map #[] 0)):=by
   simp [execOp,hop,Instr.makeMap,run_newObj,wnew,Result.andThen]
  unfold Oper.wp
  rw [hexec]
  show wpOps X.P ops _ (List.range' (n+1) (ops.size - (n+1))) (a.put o.dst (.map (some w.heap.size))) (wnew w (.map #[] 0))
  obtain ⟨l,q⟩:=rw_new (.map #[] 0) rw
  obtain ⟨f1,f2,f3⟩:=qAu fr hn' hdf o C (.mapp w.heap.size) (.map (some w.heap.size)) (by simp only [VR])
  rw [hdst] at f1 f2 f3 ⊢
  refine k r hr m0 E b0 w.heap.size m (wnew w (.map #[] 0)) _ ⟨by rw [← A]; exact x,st.trans x.2 q,st.size,λr v N e=>?_,by rw [qAj]; omega,#[],0,qC9 _ _,by simp [Ent]⟩ f1 f2 f3 l
  obtain ⟨_,_,_,F,_⟩:=rw.dom r v _ N e
  omega
theorem sem_look {c : Mp} {g : World} {b0 B d m1 k1 : Nat} {L : ML} {Q : Exit → Act → World → Prop} {a b : Int} {x : S31} (hP : X.P = Try.prog) (h : (match operAt X.fn.ntmps p env with | some o => (match o.op with | .lookup 45 (.tmp m') (.tmp k') false => Nat.beq m' m1 && Nat.beq k' k1 | _ => false) && (match o.dst with | some d' => Nat.beq d' d | none => false) | none => false) = true)
 (hm:look env m1 = .mapp B) (hk:look env k1 = .agg [.i a,.i b]) (C:mget a b L=some x) (k:Sem X (MI c g b0 B L) b0 Q (adv p) ((d,n32 x)::env) H):Sem X (MI c g b0 B L) b0 Q p env H:=by
 cases ho:operAt X.fn.ntmps p env with
 | none=>rw [ho] at h; cases h
 | some o =>
  rw [ho] at h
  simp only [Bool.and_eq_true] at h
  obtain ⟨j,l⟩:=h
  obtain ⟨ops,n,K,rfl,D,E,F⟩:=qAd ho
  have hop:o.op = .lookup 45 (.tmp m1) (.tmp k1) false:=by
   split at j
   ·rename_i m' k' e
    simp only [Bool.and_eq_true] at j
    rw [e,Nat.eq_of_beq_eq_true j.1,Nat.eq_of_beq_eq_true j.2]
   ·cases j
  have hdst:o.dst=some d:=by
   split at l
   ·rename_i d' e; rw [e,Nat.eq_of_beq_eq_true l]
   ·cases l
  refine sem_op D F λm w ac hi fr G hdf rw=>?_
  obtain ⟨J,st,M,hun,hlt,es,clock,hes,hent⟩:=id hi
  obtain ⟨v,q,r⟩:=run_look hes hent C
  have u:=qB9 fr (.tmp m1)
  have e2:=qB9 fr (.tmp k1)
  rw [show opnd env (.tmp m1) = .mapp B from hm] at u
  rw [show opnd env (.tmp k1) = .agg [.i a,.i b] from hk] at e2
  simp only [VR,VRs] at u e2
  obtain ⟨ys,e2,N,O,hy,rfl,S,T,rfl,rfl,rfl⟩:=e2
  have e3:ac.eval (.tmp k1)=pk a b:=by
   rw [e2]; unfold pk; congr 1
   exact Array.toList_inj.1 hy
  have hexec:(execOp ac.eval o).run X.P w = .ok (.value v) w:=by
   rw [hP]
   simp [execOp,hop,u,e3,q,Result.andThen]
  unfold Oper.wp
  rw [hexec]
  show At X.P Q (.ops ops (n+1) K) (ac.put o.dst v) w
  have A:VR m (n32 x) v:=VR.mono (qHj m) _ _ r
  obtain ⟨f1,f2,f3⟩:=qAu fr G hdf o E (n32 x) v A
  rw [hdst] at f1 f2 f3 ⊢
  exact k m w _ hi f1 f2 f3 rw
theorem rw_map {m:Mp} {w:World} {b0 B clock:Nat} {es:Array MapEntry} (o:Obj) (hes:w.heap[B]? = some (.map es clock)) (rw:RW m H w b0):RW m H { w with heap:=w.heap.setIfInBounds B o } b0:=by
 have keep:∀ {C:Nat} {cs:Array Value} {ty:TypeId} {fr:Nat×Nat},w.heap[C]? = some (.cells cs ty fr)→(w.heap.setIfInBounds B o)[C]? = some (.cells cs ty fr):=by
  intro C cs ty fr h
  rw [Array.getElem?_setIfInBounds_ne (by rintro rfl; rw [hes] at h; cases h)]
  exact h
 refine ⟨?_,?_,rw.sep,rw.fresh,rw.vle,?_,rw.fsep,rw.ffin,by simpa using rw.base_le,rw.low,?_⟩
 ·intro r b v C N g hm j k
  obtain ⟨cs,ty,fr,a,c⟩:=rw.blk r b v C N g hm j k
  exact ⟨cs,ty,fr,keep a,c⟩
 ·intro r v C N hm
  obtain ⟨b,a,c,l,n⟩:=rw.dom r v C N hm
  exact ⟨b,a,c,by simpa using l,n⟩
 ·intro i C cells hi
  obtain ⟨cs,ty,fr,a,c⟩:=rw.frz i C cells hi
  exact ⟨cs,ty,fr,keep a,c⟩
 ·intro C t ht
  obtain ⟨cs,fr,q⟩:=rw.tyk C t ht
  exact ⟨cs,fr,keep q⟩
noncomputable def updAt (l:List Oper) (n m1 k1 a:Nat):Bool :=
 match l.drop n with
 | [o] => (match o.op with | .mapUpdate 45 (.tmp m') (.tmp k') (.tmp v') => Nat.beq m' m1 && Nat.beq k' k1 && Nat.beq v' a | _ => false) && o.guard.isNone && o.dst.isNone &&
  ((List.range n).all λi=>o.after.toList.any λe=>Region.binds .any e && Nat.beq e.on i) && (o.after.toList.all λe => !Region.binds .any e || Nat.blt e.on n)
 | _=>false
theorem qN7 {l : Mp} {r : World} {b0 B : Nat} {L : ML} {Q : Exit → Act → World → Prop} {a b : Int} {x : S31} (D : DP) (n m1 k1 c : Nat) (p' : Pt) (eE : Env) (hs : List Hp) (hP : X.P = Try.prog) (hd : drawAt p = some p') (hu : updAt (opsAt p).toList n m1 k1 c = true)
 (hc:(Nat.ble n (opsAt p).toList.length,Nat.ble n D.tI,((opsAt p).toList.take n).all λo=>o.guard.isNone,((opsAt p).toList.take n).all (dstOk X.fn.ntmps),planOk D.S ⟨(opsAt p).toList.take n⟩ D.pl)=(true,true,true,true,true))
 (hD:OpsD X.P X.C D ((opsAt p).toList.take n) ((opsAt p).toList.take n) env H eE hs)
 (hsome:(rdL X.C D ((opsAt p).toList.take n) eE (H::hs) 0 ((opsAt p).toList.take n) D.pl).all (λq=>q.1.isSome)=true) (hq:(rdL X.C D ((opsAt p).toList.take n) eE (H::hs) 0 ((opsAt p).toList.take n) D.pl).map (·.1)=(rdL X.C D ((opsAt p).toList.take n) eE (H::hs) 0 ((opsAt p).toList.take n) D.pl).map (·.2))
 (hm:look eE m1 = .mapp B) (hk:look eE k1 = .agg [.i a,.i b]) (hv:look eE c=n32 x) (k:Sem X (MI l r b0 B (mset a b x L)) b0 Q p' eE (lastH H hs)):Sem X (MI l r b0 B L) b0 Q p env H:=by
 obtain ⟨id,ops,K,rfl⟩:∃ id ops K,p = .code (.region id ops true) K:=by
  unfold drawAt at hd
  split at hd
  ·exact ⟨_,_,_,rfl⟩
  ·cases hd
 cases hd
 simp only [Prod.mk.injEq] at hc
 obtain ⟨E,F,G,J,M⟩:=hc
 have E:n≤ops.toList.length:=Nat.le_of_ble_eq_true E
 have hu:updAt ops.toList n m1 k1 c=true:=hu
 unfold updAt at hu
 split at hu
 rotate_left
 ·cases hu
 rename_i o hdrop
 simp only [Bool.and_eq_true] at hu
 obtain ⟨⟨⟨⟨h,u2⟩,u3⟩,u4⟩,u5⟩:=hu
 have hop:o.op = .mapUpdate 45 (.tmp m1) (.tmp k1) (.tmp c):=by
  split at h
  ·rename_i m' k' v' e
   simp only [Bool.and_eq_true] at h
   rw [e,Nat.eq_of_beq_eq_true h.1.1,Nat.eq_of_beq_eq_true h.1.2,Nat.eq_of_beq_eq_true h.2]
  ·cases h
 have hog:o.guard=none:=by simpa using u2
 have hodst:o.dst=none:=by simpa using u3
 let ops':Array Oper:=⟨ops.toList.take n⟩
 have hlen:ops'.size=n:=by show (ops.toList.take n).length=n; rw [List.length_take]; omega
 have hpush:ops=ops'.push o:=by
  apply Array.toList_inj.1
  rw [Array.toList_push]
  show ops.toList=ops.toList.take n++[o]
  rw [← hdrop,List.take_append_drop]
 intro m w ac hi fr N hdf rw
 show (Code.region id ops true).wp X.P _ ac w
 refine wp_region_any X.ord ?_
 have hp:PlanOk D.S ops' D.pl:=qEt M
 have hD:OpsD X.P X.C D ops'.toList ops'.toList env H eE hs:=hD
 have hdd:∀ (i j:Nat) (o p:Oper),ops'.toList[i]? = some o→ops'.toList[j]? = some p→i < j→∀ d,o.dst=some d→p.dst ≠ some d:=by
  intro i j o p ho hpj hij d hdi
  rw [Array.getElem?_toList] at ho hpj
  exact hp.once j i p o hpj ho (by omega) d hdi
 obtain ⟨told,hlen2⟩:=qC5 ops'.toList env eE H hs hD (Nat.le_refl _) hdd
 have hcount:hs.length=(List.range ops'.size).countP (effAt D.S ops'):=by
  have:=qCv D.S ops' ops'.size (Nat.le_refl _)
  rw [List.take_of_length_le (by simp)] at this
  rw [hlen2,this]
 have hrep:∀ k,(Array.replicate ops'.size false).getD k false=false:=by
  intro k
  by_cases hk:k < ops'.size
  ·simp [hk]
  ·have g:(Array.replicate ops'.size false)[k]? = none:=Array.getElem?_eq_none (by simp; omega)
   simp [g]
 have hlk:∀ t,(∀ (k:Nat) (p:Oper),ops'[k]? = some p→p.dst ≠ some t)→look eE t=look env t:=λt ht=>qDi hD λo ho=>by
  obtain ⟨k,hk⟩:=List.mem_iff_getElem?.1 ho
  rw [Array.getElem?_toList] at hk
  exact ht k o hk
 have hsz:ops.size=ops'.size+1:=by rw [hpush]; simp
 have hrepl:Array.replicate ops.size false=(Array.replicate ops'.size false).push false:=by rw [hsz,Array.replicate_succ]
 rw [hrepl,hsz,hpush]
 have hnt:¬ D.tI < ops'.size:=by have:=Nat.le_of_ble_eq_true F; omega
 refine Mid.runL (ops:=ops') X.hti hp rw.base_le J told (qEh hsome hq) hlk (Hl:=lastH H hs) (hcount ▸ qF hs H) hnt ?_ hog ?_ ?_ ?_ ops'.size (Array.replicate ops'.size false) ac { w with drawn:=w.drawn+1 } env m H ⟨by simp,?_,fr,N,hdf,λ_ _=>rfl,?_,?_,hrep _,rw.drawn _,St.drawn _ _ _ _⟩ ?_
 ·intro i p hp'
  have:=List.all_eq_true.1 G p (List.mem_of_getElem? (by rw [← Array.getElem?_toList] at hp'; exact hp'))
  simpa using this
 ·intro i hi
  have:=List.all_eq_true.1 u4 i (List.mem_range.2 (by omega))
  obtain ⟨e,he,g⟩:=List.any_eq_true.1 this
  simp only [Bool.and_eq_true] at g
  exact ⟨e,by simpa using he,g.1,Nat.eq_of_beq_eq_true g.2⟩
 ·intro e he u
  have:=List.all_eq_true.1 u5 e (by simpa using he)
  rw [u] at this
  rw [hlen]
  simpa using this
 ·rintro a' w' ⟨-,m',rw',st',fr',hn',hdf'⟩
  obtain ⟨O,st,u,hun,hlt,es,clock,hes,hent⟩:=qB5 _ _ _ _ hi rw.base_le st'
  have A:=qB9 fr' (.tmp m1)
  have e2:=qB9 fr' (.tmp k1)
  have e4:=qB9 fr' (.tmp c)
  rw [show opnd eE (.tmp m1) = .mapp B from hm] at A
  rw [show opnd eE (.tmp k1) = .agg [.i a,.i b] from hk] at e2
  rw [show opnd eE (.tmp c)=n32 x from hv] at e4
  have e5:VR m'.still (n32 x) (a'.eval (.tmp c)):=qHr _ _ Kr e4
  simp only [VR,VRs] at A e2
  obtain ⟨ys,e2,U,V,hy,rfl,W,Y,rfl,rfl,rfl⟩:=e2
  have e3:a'.eval (.tmp k1)=pk a b:=by
   rw [e2]; unfold pk; congr 1
   exact Array.toList_inj.1 hy
  obtain ⟨es',clock',g,T⟩:=run_upd (a:=a) (b:=b) hes hent e5
  have hexec:(execOp a'.eval o).run X.P w' = .ok .skip { w' with heap:=w'.heap.setIfInBounds B (.map es' clock') }:=by
   rw [hP]
   simp [execOp,hop,A,e3,g,Result.andThen]
  unfold Oper.wp
  rw [hexec]
  show FinK X.P Q K .normal (a'.put o.dst undef) _
  rw [hodst]
  refine qAr (k m' _ a' ⟨O,⟨st.sub,st.ext,st.fext,by simpa using st.size,st.os,st.tape,st.output,λC hC hm=>?_⟩,u,hun,by simpa using hlt,es',clock',by simp [hlt],T⟩ fr' hn' hdf' (rw_map _ hes rw'))
  rw [← st.same C hC hm]
  exact Array.getElem?_setIfInBounds_ne (by omega)
 ·intro i o _ hl
  rw [hrep] at hl; cases hl
 ·intro k p d _ hl
  rw [hrep] at hl; cases hl
 ·have:cnt D.S ops' (Array.replicate ops'.size false)=0:=by
   rw [cnt,List.countP_eq_zero]
   intro k _
   rw [hrep]; simp
  rw [this]; rfl
 ·rw [List.countP_eq_length.2]
  ·simp
  ·intro k hk
   rw [hrep]; rfl
theorem qN6 {I:Mp→World→Prop} {b0:Nat} {Q:Exit→Act→World→Prop} (h:entL p=some p') (k:Sem X I b0 Q p' env H):Sem X I b0 Q p env H:=by
 cases p <;> simp only [entL] at h <;> cases h
 exact qCl (p' := .code _ (.loop _::_)) (λa w hh=>LoopWp.of (wp_mono hh λe a w he=>by cases e <;> exact he)) k
end
noncomputable def Xg7:Fx (List S31):=⟨Try.prog,cx,Try.f7,λr=>w32 r,0,λ_=>H0,cxTi,cxOrd,λ_=>none,false⟩
noncomputable def g7p0:Pt:=nav [0] (bodyAt Try.f7)
noncomputable def g7p1:Pt:=nav [0,0,0] g7p0
noncomputable def g7p2:Pt:=nav [0,0,0] g7p1
noncomputable def g7p3:Pt:=nav [0,0,0] g7p2
noncomputable def g7p4:Pt:=nav [0,0,0,0] g7p3
noncomputable def g7p5:Pt:=nav [0,0,0,0] g7p4
noncomputable def g7p6:Pt:=nav [0,0] g7p5
noncomputable def g7p7:Pt:=nav [0,0,0] g7p6
noncomputable def g7p8:Pt:=nav [1,0,0,0,0] g7p7
noncomputable def g7p9:Pt:=nav [2,0,0,0] g7p7
noncomputable def g7p10:Pt:=nav [0,0] g7p8
noncomputable def g7p11:Pt:=nav [0,0,0,0] g7p9
noncomputable def g7p13:Pt:=nav [0,0] g7p11
noncomputable def g7p14:Pt:=nav [0,0,0] g7p13
noncomputable def g7p15:Pt:=nav [1,0,0,0,0] g7p14
noncomputable def g7p16:Pt:=nav [2,0,0] g7p14
noncomputable def g7p17:Pt:=nav [0,0,0] g7p15
noncomputable def g7p19:Pt:=nav [0,0,0] g7p17
noncomputable def g7p20:Pt:=nav [0,0] g7p19
noncomputable def g7d:DP:=⟨[],[(0,0,0),(0,0,0),(2,0,1),(0,0,0),(8,0,1),(30,0,0),(0,0,0),(0,0,0),(0,0,0),(448,0,0)],10,thrown,[],H0⟩
noncomputable def g7_l1B (k:Nat) (a:LN) (b:List S38) (c:List S48) (ih:Int→ML→Option ML):Int→ML→Option ML :=
 λy L=>if (decide (y < (c.length:Int))) then ((nthL c y).bind λx=>(g14 k a b x).bind λz=>ih (fW .i64 (y+1)) (mset x.f0 x.f1 z L)) else (some L)
noncomputable def g7_l1 (k:Nat) (a:LN) (b:List S38) (c:List S48) (n:Nat):Int→ML→Option ML:=lp (λ_ _=>none) (g7_l1B k a b c) n
theorem g7_l1_s (k:Nat) (a:LN) (b:List S38) (c:List S48) (n:Nat) (y:Int) (L:ML):g7_l1 k a b c (n+1) y L=(if (decide (y < (c.length:Int))) then ((nthL c y).bind λx=>(g14 k a b x).bind λz=>g7_l1 k a b c n (fW .i64 (y+1)) (mset x.f0 x.f1 z L)) else (some L)):=rfl
def blk7 (z:S31) (b:Bool):S31:=⟨z.f0,z.f1,z.f2,z.f3,b,z.f5,z.f6⟩
noncomputable def g7_l2B (c:List S48) (L:ML) (ih:Int→List S31→Option (List S31)):Int→List S31→Option (List S31) :=
 λy o=>if (decide (y < (c.length:Int))) then ((nthL c y).bind λx=>(mget x.f0 x.f1 L).bind λz=>(appS 104 o [blk7 z (if z.f4 then decide (0 < y) else false)]).bind λo'=>ih (fW .i64 (y+1)) o') else (some o)
noncomputable def g7_l2 (c:List S48) (L:ML) (n:Nat):Int→List S31→Option (List S31):=lp (λ_ _=>none) (g7_l2B c L) n
theorem g7_l2_s (c:List S48) (L:ML) (n:Nat) (y:Int) (o:List S31):g7_l2 c L (n+1) y o=(if (decide (y < (c.length:Int))) then ((nthL c y).bind λx=>(mget x.f0 x.f1 L).bind λz=>(appS 104 o [blk7 z (if z.f4 then decide (0 < y) else false)]).bind λo'=>g7_l2 c L n (fW .i64 (y+1)) o') else (some o)):=rfl
noncomputable def g7 (k:Nat) (a:LN) (b:List S38):Option (List S31) :=
 (g13 k a b).bind λc=>(g7_l1 k a b c k 0 []).bind λL=>g7_l2 c L k 0 []
theorem bndO {α β:Type} {m:Option α} {f:α→Option β} {r:β} (h:m.bind f=some r):∃ x,m=some x∧f x=some r:=by
 cases m with
 | none=>cases h
 | some x=>exact ⟨x,rfl,h⟩
theorem g7_l1_ok {o : Mp} {q : World} {b0 B : Nat} {Q : Exit → Act → World → Prop} (k : Nat) (g : LN) (j : List S38) (c : List S48) (Lf : ML)
 (D:Sem Xg7 (MI o q b0 B Lf) b0 Q g7p9 [(5,.own 0 0 7),(6,.mapp B),(7,w49 c)] (mkH [⟨[],0,false⟩])):∀ (n:Nat) (y:Int) (L:ML),g7_l1 k g j c n y L=some Lf →
 Sem Xg7 (MI o q b0 B L) b0 Q g7p5 [(0,.str g),(1,w39 j),(5,.own 0 0 7),(6,.mapp B),(7,w49 c),(17,w49 c),(18,.i (c.length:Int)),(19,.i y)] (mkH [⟨[],0,false⟩]):=by
 intro n
 induction n with
 | zero=>intro y L h; cases h
 | succ n ih =>
  intro y L h
  rw [g7_l1_s] at h
  refine qN6 (p':=nav [0] g7p5) Kr ?_
  let E:Env:=[(0,.str g),(1,w39 j),(5,.own 0 0 7),(6,.mapp B),(7,w49 c),(17,w49 c),(18,.i (c.length:Int)),(19,.i y)]
  refine sLH qB5 5 g7p7 ((20,.bool (decide (y < (c.length:Int))))::E) (mkH [⟨[],0,false⟩]) ?_
  cases A:decide (y < (c.length:Int)) with
  | false =>
   rw [A] at h
   cases h
   exact sLH qB5 4 g7p9 [(5,.own 0 0 7),(6,.mapp B),(7,w49 c)] (mkH [⟨[],0,false⟩]) D
  | true =>
   rw [A] at h
   obtain ⟨x,r,h⟩:=bndO h
   obtain ⟨z,hz,h⟩:=bndO h
   refine sLH qB5 6 (atN 0 (ctl1 g7p8)) E (mkH [⟨[],0,false⟩]) ?_
   refine qIg qB5 (v := .vptr (e49 x)) (p':=atN 1 (ctl1 g7p8)) (eE:=(21,.vptr (e49 x))::E) (H':=mkH [⟨[],0,false⟩]) ((vidxH (l:=c) (k:=y) (sz:=4) qHa Kr).trans (by rw [r]; rfl)) Kr ?_
   let C:Env:=[(0,.str g),(1,w39 j),(5,.own 0 0 7),(6,.mapp B),(7,w49 c),(9,.ptr 1 4 0),(17,w49 c),(18,.i (c.length:Int)),(19,.i y)]
   let K:List Blk:=[⟨[],0,false⟩,⟨e49 x,4,false⟩]
   refine sLH qB5 4 g7p10 C (mkH K) ?_
   let u:Env:=(31,n49 x)::(30,w39 j)::(29,.str g)::(28,.agg [.i x.f0,.i x.f1])::(27,.i x.f1)::(26,.ptr 1 4 1)::(25,.i x.f0)::(24,.ptr 1 4 0)::(23,.mapp B)::C
   refine qN7 g7d 10 23 28 32 (nav [0] g7p10) ((32, n32 z) :: u) [mkH K] (a := x.f0) (b := x.f1) (x := z) rfl Kr Kr Kr
    (oDr 9 9 u (qAs (l':=((opsAt g7p10).toList.take 10).drop 10) (eE:=(32,n32 z)::u) (hs:=[mkH K]) (fi:=14) (args:=[.str g,w39 j,n49 x]) (v:=n32 z) Kr Kr Kr (g14_ok k g j x z hz) Kr .nil)) Kr Kr Kr Kr Kr ?_
   refine sLH qB5 4 g7p5 [(0,.str g),(1,w39 j),(5,.own 0 0 7),(6,.mapp B),(7,w49 c),(17,w49 c),(18,.i (c.length:Int)),(19,.i (fW .i64 (y+1)))] (mkH K) ?_
   refine qN8 [⟨[],0,false⟩] [⟨e49 x,4,false⟩] (λm w h=>mi_cut _ m w h) Kr Kr ⟨by kernel_rfl,trivial⟩ ?_
   exact ih _ _ h
theorem g7_l2_ok {j : Mp} {q : World} {b0 B : Nat} (c : List S48) (L : ML) (r : List S31) : ∀ (n : Nat) (y : Int) (o : List S31), g7_l2 c L n y o = some r →
 Sem Xg7 (MI j q b0 B L) b0 (Ret Xg7 r j q b0) g7p11 [(5,.own 0 o.length 7),(6,.mapp B),(34,w49 c),(35,.i (c.length:Int)),(36,.i y)] (mkH [⟨o.flatMap e32,0,false⟩]):=by
 intro n
 induction n with
 | zero=>intro y o h; cases h
 | succ n ih =>
  intro y o h
  rw [g7_l2_s] at h
  refine qN6 (p':=nav [0] g7p11) Kr ?_
  let E:Env:=[(5,.own 0 o.length 7),(6,.mapp B),(34,w49 c),(35,.i (c.length:Int)),(36,.i y)]
  let g:Blk:=⟨o.flatMap e32,0,false⟩
  refine sLH qB5 5 g7p14 ((37,.bool (decide (y < (c.length:Int))))::E) (mkH [g]) ?_
  cases F:decide (y < (c.length:Int)) with
  | false =>
   rw [F] at h
   have e:o=r:=Option.some.inj h
   rw [← e]
   refine sLH qB5 3 g7p16 [(5,.own 0 o.length 7)] (mkH [g]) ?_
   refine sem_ok rfl ?_
   refine oR 5 .fin [(4,.own 0 o.length 7),(60,.own 0 o.length 7),(5,.own 0 o.length 7)] ?_
   exact oT [.own 0 o.length 7] (w32 o) (qAw qA4 qAg rfl rfl rfl .ps)
  | true =>
   rw [F] at h
   obtain ⟨x,D,h⟩:=bndO h
   obtain ⟨z,hz,h⟩:=bndO h
   obtain ⟨o',ho,h⟩:=bndO h
   refine sLH qB5 7 (atN 1 (ctl1 g7p15)) ((38,.i y)::E) (mkH [g]) ?_
   refine qIg qB5 (v := .vptr (e49 x)) (p':=atN 2 (ctl1 g7p15)) (eE:=(39,.vptr (e49 x))::(38,.i y)::E) (H':=mkH [g]) ((vidxH (l:=c) (k:=y) (sz:=4) qHa Kr).trans (by rw [D]; rfl)) Kr ?_
   refine sLH qB5 13 (atN 6 (ctl1 g7p17)) ([(10,.i y),(41,.mapp B),(46,.agg [.i x.f0,.i x.f1])]++E) (mkH [g,⟨e49 x,4,false⟩]) ?_
   refine sem_look (d:=47) (m1:=41) (k1:=46) (a:=x.f0) (b:=x.f1) rfl Kr Kr Kr hz ?_
   refine sLH qB5 8 (atN 3 (ctl1 g7p19)) ([(10,.i y),(12,.ptr 2 7 0),(50,.bool z.f4)]++E) (mkH [g,⟨e49 x,4,false⟩,⟨e32 z,7,false⟩]) ?_
   have go:∀ b:Bool,appS 104 o [blk7 z b]=some o'→Sem Xg7 (MI j q b0 B L) b0 (Ret Xg7 r j q b0) g7p20 ([(12,.ptr 2 7 0)]++E) (mkH [g,⟨e49 x,4,false⟩,⟨e32 (blk7 z b),7,false⟩]):=by
    intro b ho
    let u:Blk:=⟨e32 (blk7 z b),7,false⟩
    let A:Blk:=⟨e32 (blk7 z b),0,false⟩
    refine sLH qB5 4 (atN 3 (ctl1 g7p20)) ([(55,.own 0 o.length 7),(57,.slice 3 7 0 1 7)]++E) (mkH [g,⟨e49 x,4,false⟩,u,A]) ?_
    refine qIg qB5 (v := .own 0 o'.length 7) (p':=atN 4 (ctl1 g7p20)) (eE:=(58,.own 0 o'.length 7)::([(55,.own 0 o.length 7),(57,.slice 3 7 0 1 7)]++E)) (H':=mkH [⟨o'.flatMap e32,0,false⟩,⟨e49 x,4,false⟩,u,A]) ((appH (sz:=7) qA4 rfl qB0 [g,⟨e49 x,4,false⟩,u,A] 0 104 o ([blk7 z b]:List S31) rfl rfl Kr).trans (by rw [ho]; rfl)) Kr ?_
    refine sLH qB5 6 g7p11 [(5,.own 0 o'.length 7),(6,.mapp B),(34,w49 c),(35,.i (c.length:Int)),(36,.i (fW .i64 (y+1)))] (mkH [⟨o'.flatMap e32,0,false⟩,⟨e49 x,4,false⟩,u,A]) ?_
    refine qN8 [⟨o'.flatMap e32,0,false⟩] [⟨e49 x,4,false⟩,u,A] (λm w h=>mi_cut _ m w h) Kr Kr ⟨qA3 _ (u32 _),trivial⟩ ?_
    exact ih _ _ h
   cases C:z.f4 with
   | true =>
    rw [C] at ho
    exact sLH qB5 6 g7p20 ([(12,.ptr 2 7 0)]++E) (mkH [g,⟨e49 x,4,false⟩,⟨e32 (blk7 z (decide (0 < y))),7,false⟩]) (go _ ho)
   | false =>
    rw [C] at ho
    exact sLH qB5 6 g7p20 ([(12,.ptr 2 7 0)]++E) (mkH [g,⟨e49 x,4,false⟩,⟨e32 (blk7 z false),7,false⟩]) (go _ ho)
theorem g7_ok (k:Nat) (a:LN) (b:List S38) (r:List S31) (h:g7 k a b=some r):PureOk Try.prog 7 [.str a,w39 b] (w32 r):=by
 refine qA6 Xg7 (λ_=>⟨rfl,rfl⟩) Try.func7 (by decide +kernel) Kr (t:=g7 k a b) ?_ h
 refine qA (eE:=[(0,.str a),(1,w39 b)]) Kr ?_
 refine oR 10 (atN 0 (ctl1 g7p2)) [(5,.nils),(4,.nils),(0,.str a),(1,w39 b)] ?_
 refine qE4 [] 5 7 rfl Kr ?_
 refine qMh (d:=13) (T:=45) rfl Kr (λr hr g j b0 B=>?_)
 unfold g7 at hr
 obtain ⟨c,hc,hr⟩:=bndO hr
 obtain ⟨L,hL,hr⟩:=bndO hr
 let K:List Blk:=[⟨[],0,false⟩]
 let E:Env:=[(0,.str a),(1,w39 b),(5,.own 0 0 7),(6,.mapp B),(14,.str a),(15,w39 b)]
 refine sLH qB5 6 (atN 2 (ctl1 g7p3)) E (mkH K) ?_
 refine sem_call qB5 (w49 c) (fi:=13) (args:=[.str a,w39 b]) (p':=atN 3 (ctl1 g7p3)) (eE:=(16,w49 c)::E) Kr Kr Kr (g13_ok k a b c hc) Kr ?_
 refine sLH qB5 11 g7p5 [(0,.str a),(1,w39 b),(5,.own 0 0 7),(6,.mapp B),(7,w49 c),(17,w49 c),(18,.i (c.length:Int)),(19,.i 0)] (mkH K) ?_
 refine g7_l1_ok k a b c L ?_ k 0 [] hL
 refine sLH qB5 7 g7p11 [(5,.own 0 ([]:List S31).length 7),(6,.mapp B),(34,w49 c),(35,.i (c.length:Int)),(36,.i 0)] (mkH [⟨([]:List S31).flatMap e32,0,false⟩]) ?_
 exact g7_l2_ok c L r k 0 [] hr
end Go.Proofs.Ytjmmjhojbodbdaa.Am
set_option maxRecDepth 100000
set_option linter.unusedVariables false
namespace Go.Proofs.Ytjmmjhojbodbdaa.Am
noncomputable section
open Go
def Xg8:Fx Bool:=⟨Try.prog,cx,Try.f8,λr => .bool r,0,λ_=>H0,cxTi,cxOrd,λ_=>none,false⟩
def g8c0:LN:=[45,109,111,100,117,108,101,40,120,41,46,10,10,102,40,41,32,45,62,32,111,107,46,10,102,40,32,46,10,37,101,10]
def g8p2:Pt:=nav [0,0,0] (nav [0,0,0] (nav [0] (bodyAt Try.f8)))
def g8p3:Pt:=nav [0,0,0] g8p2
def g8p4:Pt:=nav [0,0,0] g8p3
def g8 (k:Nat)  : Option Bool :=
 (g6 k g8c0).bind λb=>(g7 k g8c0 b.1).bind λa=>if (decide (b.2=0)) then (if (decide ((a.length:Int)=4)) then ((nthL a 0).bind λm=>if (decide (m.f0=26)) then ((nthL a 1).bind λc=>if (decide (c.f0=28)) then ((nthL a 1).bind λg=>if g.f4 then ((nthL a 2).bind λh=>if (decide (h.f0=29)) then ((nthL a 2).bind λj=>if (eqL j.f1 [102,40,32,46]) then ((nthL a 3).bind λl=>some (decide (l.f0=30))) else (some false)) else (some false)) else (some false)) else (some false)) else (some false)) else (some false)) else (some false)
theorem g8_ok (k:Nat)  (r:Bool) (h:g8 k  = some r):PureOk Try.prog 8 [] (.bool r):=by
 refine qA6 Xg8 (λ_=>⟨rfl,rfl⟩) Try.func8 (by decide +kernel) Kr (t:=g8 k ) ?_ h
 unfold g8
 refine qA (eE:=[]) Kr ?_
 refine oH 11 (atN 1 (ctl1 g8p2)) [(6,.str g8c0),(1,.str g8c0),(0,.bool false)] (mkH []) ?_
 refine oA (λ(l:((List S38)×Int)) => .tuple [w39 l.1,.i l.2]) (atN 2 (ctl1 g8p2)) 7 [.str g8c0] (g6_ok k g8c0) λl C=>?_
 refine oR 10 (atN 2 (ctl1 g8p3)) [(11,w39 l.1),(10,.str g8c0),(3,.i l.2),(2,w39 l.1),(9,.i l.2),(8,w39 l.1),(5,.tuple [w39 l.1,.i l.2]),(7,.tuple [w39 l.1,.i l.2]),(6,.str g8c0),(1,.str g8c0),(0,.bool false)] ?_
 refine oA (λ(m:List S31)=>w32 m) (atN 3 (ctl1 g8p3)) 12 [.str g8c0,w39 l.1] (g7_ok k g8c0 l.1) λm D=>?_
 refine oL 3 g8p4 [(3,.i l.2),(4,w32 m)] ?_
 let M:Env:=[(3,.i l.2),(4,w32 m)]
 refine oR 4 (atN 3 (ctl1 g8p4)) ((15,.bool (decide (l.2=0)))::(14,.bool (decide (l.2=0)))::(13,.i l.2)::M) ?_
 refine oS 15 (λo=>?_) (λo=>?_)
 ·let E:Env:=((20,.bool (decide ((m.length:Int)=4)))::(19,.bool (decide ((m.length:Int)=4)))::(18,.bool (decide ((m.length:Int)=4)))::(17,.i (m.length:Int))::(16,w32 m)::(15,.bool true)::(15,.bool (decide (l.2=0)))::(14,.bool (decide (l.2=0)))::(13,.i l.2)::M)
  refine oR 5 (atN 8 (ctl1 g8p4)) E ?_
  refine oS 20 (λo=>?_) (λo=>?_)
  ·refine oR 1 (atN 9 (ctl1 g8p4)) ((21,w32 m)::(20,.bool true)::E) ?_
   refine oC (λ(j:S31)=>(.vptr [.i j.f0,.str j.f1,q32 j.f2,.bool j.f3,.bool j.f4,w9 j.f5,w9 j.f6],(mkH []))) (atN 10 (ctl1 g8p4)) 22 (vidxH (sz:=7) qA4 Kr) λj F=>?_
   let G:Env:=((27,.bool (decide (j.f0=26)))::(26,.bool (decide (j.f0=26)))::(25,.bool (decide (j.f0=26)))::(24,.i j.f0)::(23,.vptr [.i j.f0,.str j.f1,q32 j.f2,.bool j.f3,.bool j.f4,w9 j.f5,w9 j.f6])::(22,.vptr [.i j.f0,.str j.f1,q32 j.f2,.bool j.f3,.bool j.f4,w9 j.f5,w9 j.f6])::(21,w32 m)::(20,.bool true)::E)
   refine oH 5 (atN 15 (ctl1 g8p4)) G (mkH []) ?_
   refine oS 27 (λo=>?_) (λo=>?_)
   ·refine oR 1 (atN 16 (ctl1 g8p4)) ((28,w32 m)::(27,.bool true)::G) ?_
    refine oC (λ(a:S31)=>(.vptr [.i a.f0,.str a.f1,q32 a.f2,.bool a.f3,.bool a.f4,w9 a.f5,w9 a.f6],(mkH []))) (atN 17 (ctl1 g8p4)) 29 (vidxH (sz:=7) qA4 Kr) λa q=>?_
    let J:Env:=((34,.bool (decide (a.f0=28)))::(33,.bool (decide (a.f0=28)))::(32,.bool (decide (a.f0=28)))::(31,.i a.f0)::(30,.vptr [.i a.f0,.str a.f1,q32 a.f2,.bool a.f3,.bool a.f4,w9 a.f5,w9 a.f6])::(29,.vptr [.i a.f0,.str a.f1,q32 a.f2,.bool a.f3,.bool a.f4,w9 a.f5,w9 a.f6])::(28,w32 m)::(27,.bool true)::G)
    refine oH 5 (atN 22 (ctl1 g8p4)) J (mkH []) ?_
    refine oS 34 (λo=>?_) (λo=>?_)
    ·refine oR 1 (atN 23 (ctl1 g8p4)) ((35,w32 m)::(34,.bool true)::J) ?_
     refine oC (λ(g:S31)=>(.vptr [.i g.f0,.str g.f1,q32 g.f2,.bool g.f3,.bool g.f4,w9 g.f5,w9 g.f6],(mkH []))) (atN 24 (ctl1 g8p4)) 36 (vidxH (sz:=7) qA4 Kr) λg u=>?_
     let K:Env:=((40,.bool g.f4)::(39,.bool g.f4)::(38,.bool g.f4)::(37,.vptr [.bool g.f4,w9 g.f5,w9 g.f6])::(36,.vptr [.i g.f0,.str g.f1,q32 g.f2,.bool g.f3,.bool g.f4,w9 g.f5,w9 g.f6])::(35,w32 m)::(34,.bool true)::J)
     refine oH 4 (atN 28 (ctl1 g8p4)) K (mkH []) ?_
     refine oS 40 (λo=>?_) (λo=>?_)
     ·refine oR 1 (atN 29 (ctl1 g8p4)) ((41,w32 m)::(40,.bool true)::K) ?_
      refine oC (λ(b:S31)=>(.vptr [.i b.f0,.str b.f1,q32 b.f2,.bool b.f3,.bool b.f4,w9 b.f5,w9 b.f6],(mkH []))) (atN 30 (ctl1 g8p4)) 42 (vidxH (sz:=7) qA4 Kr) λb x=>?_
      let L:Env:=((47,.bool (decide (b.f0=29)))::(46,.bool (decide (b.f0=29)))::(45,.bool (decide (b.f0=29)))::(44,.i b.f0)::(43,.vptr [.i b.f0,.str b.f1,q32 b.f2,.bool b.f3,.bool b.f4,w9 b.f5,w9 b.f6])::(42,.vptr [.i b.f0,.str b.f1,q32 b.f2,.bool b.f3,.bool b.f4,w9 b.f5,w9 b.f6])::(41,w32 m)::(40,.bool true)::K)
      refine oH 5 (atN 35 (ctl1 g8p4)) L (mkH []) ?_
      refine oS 47 (λo=>?_) (λo=>?_)
      ·refine oR 1 (atN 36 (ctl1 g8p4)) ((48,w32 m)::(47,.bool true)::L) ?_
       refine oC (λ(c:S31)=>(.vptr [.i c.f0,.str c.f1,q32 c.f2,.bool c.f3,.bool c.f4,w9 c.f5,w9 c.f6],(mkH []))) (atN 37 (ctl1 g8p4)) 49 (vidxH (sz:=7) qA4 Kr) λc A=>?_
       let N:Env:=((54,.bool (eqL c.f1 [102,40,32,46]))::(53,.bool (eqL c.f1 [102,40,32,46]))::(52,.bool (eqL c.f1 [102,40,32,46]))::(51,.str c.f1)::(50,.vptr [.str c.f1,q32 c.f2,.bool c.f3,.bool c.f4,w9 c.f5,w9 c.f6])::(49,.vptr [.i c.f0,.str c.f1,q32 c.f2,.bool c.f3,.bool c.f4,w9 c.f5,w9 c.f6])::(48,w32 m)::(47,.bool true)::L)
       refine oH 5 (atN 42 (ctl1 g8p4)) N (mkH []) ?_
       refine oS 54 (λo=>?_) (λo=>?_)
       ·refine oR 1 (atN 43 (ctl1 g8p4)) ((55,w32 m)::(54,.bool true)::N) ?_
        refine oC (λ(n:S31)=>(.vptr [.i n.f0,.str n.f1,q32 n.f2,.bool n.f3,.bool n.f4,w9 n.f5,w9 n.f6],(mkH []))) (atN 44 (ctl1 g8p4)) 56 (vidxH (sz:=7) qA4 Kr) λn B=>?_
        exact oQ 7
       ·exact oQ 9
      ·exact oQ 16
     ·exact oQ 23
    ·exact oQ 29
   ·exact oQ 36
  ·exact oQ 43
 ·exact oQ 48
def Xg4:Fx Bool:=⟨Try.prog,cx,Try.f4,λr => .bool r,0,λ_=>H0,cxTi,cxOrd,λ_=>none,false⟩
def g4c1:LN:=[41,32,119,104,101,110,32,103,32,45,62,32,98,44,32,99]
def g4p1:Pt:=nav [0,0,0,0] (nav [0] (bodyAt Try.f4))
def g4p2:Pt:=nav [0,0] g4p1
def g4p3:Pt:=nav [1,0] g4p2
def g4p6:Pt:=nav [0,0,0] (nav [2,0,0] g4p2)
def g4p8:Pt:=nav [0,0,0,0] (nav [0,0,0,0] g4p6)
def g4p10:Pt:=nav [0,0] (nav [0,0,0] g4p8)
def g4p12:Pt:=nav [2,0,0] g4p10
def g4p13:Pt:=nav [0,0] (nav [1,0,0,0,0,0] g4p10)
def g4p14:Pt:=nav [0,0,0] g4p12
def g4p15:Pt:=nav [1] g4p13
def g4p16:Pt:=nav [2,0,0,0] g4p13
def g4p17:Pt:=nav [0,0,0] g4p14
def g4p18:Pt:=nav [0,0] g4p16
def g4p19:Pt:=nav [0,0,0,0] g4p17
def g4p20:Pt:=nav [1] g4p18
def g4p21:Pt:=nav [2,0,0] g4p18
def g4p22:Pt:=nav [0,0] g4p19
def g4p26:Pt:=nav [0,0,0,0] (nav [0,0,0,0] g4p21)
def g4p27:Pt:=nav [0,0,0,0] (nav [2,0,0,0] g4p22)
def g4p30:Pt:=nav [0,0] (nav [0,0,0] g4p26)
def g4p31:Pt:=nav [0,0] (nav [0,0,0] g4p27)
def g4p33:Pt:=nav [2,0] g4p30
def g4p34:Pt:=nav [1,0,0,0,0] g4p31
def g4p35:Pt:=nav [2,0,0] g4p31
def g4p36:Pt:=nav [0,0] (nav [1,0,0,0,0,0] g4p30)
def g4p38:Pt:=nav [0,0,0] g4p34
def g4p39:Pt:=nav [1] g4p36
def g4p40:Pt:=nav [2,0] g4p36
def g4d0:DP:=⟨[],[(0,0,0),(1,0,0),(3,0,0),(7,0,0),(15,0,0),(31,0,0),(63,0,0),(127,0,0),(255,0,0),(511,0,0),(1023,0,0),(2047,0,0),(4095,0,0),(8191,0,0),(16383,0,0),(32767,0,0),(1023,0,0),(131071,0,0),(262143,0,0),(524287,0,0),(1048575,0,0),(2097151,0,0),(4194303,0,0),(8388607,0,0),(16777215,0,0),(33554431,0,0),(67108863,0,0),(134217727,0,0),(268435455,0,0),(536870911,0,0),(1073741823,0,0),(2147483647,0,0),(4294967295,0,0),(8589934591,0,0),(17179869183,0,0),(34359738367,0,0),(68719476735,0,0),(137438953471,0,0),(274877906943,0,0),(549755813887,0,0),(1099511627775,0,0),(2199023255551,0,0),(274877906943,0,0),(274877906943,0,0),(13469017440255,0,0),(31061203484671,0,0),(66245575573503,0,0),(136614319751167,0,0),(277351808106495,0,0),(558826784817151,0,0),(1125899906842623,0,0),(2251799813685247,0,0),(4503599627370495,0,0),(9007199254740991,0,0),(18014398509481983,0,0),(36028797018963967,0,0)],56,thrown,[],H0⟩
def qF1 (k:Nat) (r:LN→Int→Option Bool) (C:List Bool) (B:Int) (u:LN) (x:Int) (ih:LN→Int→Int→Option Bool):LN→Int→Int→Option Bool :=
 λ(b:LN) (a:Int) (c:Int)=>jn (λ(j:LN×Int)=>(catS j.1 g4c1).bind λh=>r h (fW .i64 (j.2+1))) (λA=>if (decide (a < fW .i64 ((fW .u64 B).tmod 4))) then (jn (λ(g:LN×Int×Int)=>(catS g.1 ([88]:LN)).bind λl=>(toS ([fW .u8 (97+fW .u8 g.2.1)]:List Int)).bind λm=>(catS l m).bind λn=>ih n (fW .i64 (g.2.1+1)) g.2.2) (λo=>if (decide (0 < a)) then ((catS b ([44,32]:LN)).bind λq=>o (q,a,c)) else (o (b,a,c)))) else (A (b,c)))
def qI4 (k:Nat) (c:LN→Int→Option Bool) (g:List Bool) (h:Int) (a:LN) (b:Int) (n:Nat):LN→Int→Int→Option Bool:=lp (λ_ _ _=>none) (qF1 k c g h a b) n
theorem qPk (k:Nat)  (B:LN→Int→Option Bool) (u:List Bool) (r:Int) (h:LN) (j:Int) (D:∀ (h:LN) (j:Int),Ok Xg4 g4p8 [(0,w4 u),(5,.i (fW .i64 ((fW .u64 r).tmod 4))),(6,.str h),(7,.i j)] (mkH []) (B h j)):∀ (n:Nat) (c:LN) (a:Int) (b:Int),Ok Xg4 g4p26 [(0,w4 u),(5,.i (fW .i64 ((fW .u64 r).tmod 4))),(6,.str c),(7,.i b),(8,.i a)] (mkH []) (qI4 k B u r h j n c a b):=by
 intro n
 induction n with
 | zero=>intro c a b; exact ok_none
 | succ n ih =>
  intro c a b
  show Ok _ _ _ _ (qF1 k B u r h j (qI4 k B u r h j n) c a b)
  unfold qF1
  refine qAk (p':=nav [0] g4p26) Kr ?_
  let L:Env:=[(51,.bool (decide (a < fW .i64 ((fW .u64 r).tmod 4)))),(50,.i (fW .i64 ((fW .u64 r).tmod 4))),(49,.i a),(0,w4 u),(5,.i (fW .i64 ((fW .u64 r).tmod 4))),(6,.str c),(7,.i b),(8,.i a)]
  refine oH 7 g4p30 L (mkH []) ?_
  refine oJ g4p33 (λ(o:LN×Int)=>[(0,w4 u),(5,.i (fW .i64 ((fW .u64 r).tmod 4))),(6,.str o.1),(7,.i o.2)]) (λ(o:LN×Int)=>(mkH [])) (λo=>?_) (λV E=>?_)
  ·refine oH 2 (atN 1 (ctl1 g4p33)) [(66,.str o.1),(0,w4 u),(5,.i (fW .i64 ((fW .u64 r).tmod 4))),(6,.str o.1),(7,.i o.2)] (mkH []) ?_
   refine oC (λ(q:LN)=>(.str q,(mkH []))) (atN 2 (ctl1 g4p33)) 67 (catH Kr) λq M=>?_
   refine oLH 7 g4p8 [(0,w4 u),(5,.i (fW .i64 ((fW .u64 r).tmod 4))),(6,.str q),(7,.i (fW .i64 (o.2+1)))] (mkH []) ?_
   exact D q (fW .i64 (o.2+1))
  ·refine oS 51 (λN=>?_) (λN=>?_)
   ·refine oH 10 g4p36 ((55,.bool (decide (0 < a)))::(54,.i a)::(51,.bool true)::L) (mkH []) ?_
    refine oJ g4p40 (λ(g:LN×Int×Int)=>[(0,w4 u),(5,.i (fW .i64 ((fW .u64 r).tmod 4))),(6,.str g.1),(7,.i g.2.2),(8,.i g.2.1)]) (λ(g:LN×Int×Int)=>(mkH [])) (λg=>?_) (λW C=>?_)
    ·let F:Env:=[(58,.str g.1),(0,w4 u),(5,.i (fW .i64 ((fW .u64 r).tmod 4))),(6,.str g.1),(7,.i g.2.2),(8,.i g.2.1)]
     refine oH 2 (atN 1 (ctl1 g4p40)) F (mkH []) ?_
     refine oC (λ(x:LN)=>(.str x,(mkH []))) (atN 2 (ctl1 g4p40)) 59 (catH Kr) λx O=>?_
     let G:Env:=((63,.slice 0 1 0 1 1)::(62,.y (fW .u8 (97+fW .u8 g.2.1)))::(61,.y (fW .u8 g.2.1))::(60,.i g.2.1)::(59,.str x)::F)
     let J:Blk:=⟨[.y (fW .u8 (97+fW .u8 g.2.1))],0,false⟩
     refine oH 4 (atN 6 (ctl1 g4p40)) G (mkH [J]) ?_
     refine oC (λ(A:LN)=>(.str A,(mkH [J]))) (atN 7 (ctl1 g4p40)) 64 (toSE [fW .u8 (97+fW .u8 g.2.1)] Kr) λA S=>?_
     refine oC (λ(l:LN)=>(.str l,(mkH [J]))) (atN 8 (ctl1 g4p40)) 65 (catH Kr) λl T=>?_
     refine oH 2 (nav [0,0] g4p40) ((6,.str l)::(65,.str l)::(64,.str A)::G) (mkH [J]) ?_
     refine oK0 [0,5,6,7,8] ?_
     refine oL 5 g4p26 [(0,w4 u),(5,.i (fW .i64 ((fW .u64 r).tmod 4))),(6,.str l),(7,.i g.2.2),(8,.i (fW .i64 (g.2.1+1)))] ?_
     refine qA9 [] [J] Kr rfl Kr trivial ?_
     exact ih l (fW .i64 (g.2.1+1)) g.2.2
    ·refine oS 55 (λN=>?_) (λN=>?_)
     ·let K:Env:=((56,.str c)::(55,.bool true)::(55,.bool (decide (0 < a)))::(54,.i a)::(51,.bool true)::L)
      refine oH 3 (atN 1 (ctl1 g4p39)) K (mkH []) ?_
      refine oC (λ(m:LN)=>(.str m,(mkH []))) (atN 2 (ctl1 g4p39)) 57 (catH Kr) λm U=>?_
      refine oH 2 g4p40 ((6,.str m)::(57,.str m)::K) (mkH []) ?_
      refine oK [0,5,6,7,8] [(0,w4 u),(5,.i (fW .i64 ((fW .u64 r).tmod 4))),(6,.str m),(7,.i b),(8,.i a)] ?_
      exact C (m,a,b)
     ·refine oLH 2 g4p40 [(0,w4 u),(5,.i (fW .i64 ((fW .u64 r).tmod 4))),(6,.str c),(7,.i b),(8,.i a)] (mkH []) ?_
      exact C (c,a,b)
   ·refine oH 2 g4p33 ((51,.bool false)::L) (mkH []) ?_
    refine oK [0,5,6,7] [(0,w4 u),(5,.i (fW .i64 ((fW .u64 r).tmod 4))),(6,.str c),(7,.i b)] ?_
    exact E (c,b)
def qF0 (k:Nat)  (u:List Bool) (x:Int) (o:List S31) (ih:Int→Option Bool):Int→Option Bool :=
 λ(a:Int)=>if (decide (a < (u.length:Int))) then ((nthL o 0).bind λg=>(nthR d32 7 g.f2.n g.f2.cells a).bind λb=>jn (λ(q:Bool×Int)=>if q.1 then (some false) else (ih (fW .i64 (q.2+1)))) (λc=>if (!(eqL b.f1 [102])) then (c (true,a)) else (if (!decide ((b.f2.n:Int)=3)) then (c (true,a)) else ((nthR d32 7 b.f2.n b.f2.cells 0).bind λh=>if (!decide ((h.f2.n:Int)=fW .i64 ((fW .u64 x).tmod 4))) then (c (true,a)) else ((nthR d32 7 b.f2.n b.f2.cells 1).bind λj=>if (!decide ((j.f2.n:Int)=1)) then (c (true,a)) else ((nthR d32 7 b.f2.n b.f2.cells 2).bind λl=>if (!decide ((l.f2.n:Int)=2)) then (c (true,a)) else ((nthL u a).bind λm=>if m then (if (!(decide ((b.f5.length:Int)=1) == decide (0 < a))) then (c (true,a)) else (c (b.f4,a))) else (if (!(decide ((b.f5.length:Int)=1) == false)) then (c (true,a)) else (c (b.f4,a)))))))))) else ((g8 k).bind λr=>some r)
def qI3 (k:Nat)  (b:List Bool) (c:Int) (a:List S31) (n:Nat):Int→Option Bool:=lp (λ_=>none) (qF0 k b c a) n
end
end Go.Proofs.Ytjmmjhojbodbdaa.Am
