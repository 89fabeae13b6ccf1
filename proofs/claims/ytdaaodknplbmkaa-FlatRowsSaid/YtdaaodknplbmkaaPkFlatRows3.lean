/- LawFlatRows, part 3: whatever the input, the law comes out true: our texts, joined by a tool, without what the claim does not name. -/
import Derived.Test.YtdaaodknplbmkaaPkFlatRows2
set_option maxRecDepth 100000
set_option linter.unusedVariables false
set_option linter.unusedSimpArgs false
set_option maxRecDepth 100000
set_option linter.unusedVariables false
namespace Go.Proofs.Ytdaaodknplbmkaa.Am
noncomputable section
open Go
theorem i0_l3_ok (k:Nat) (F:Fns0) (hF:FnsOk0 F) (a0:S25) (a1:Bool) (b1:(List Int))    : ∀ (n:Nat) (y3_0:Int) (y3_1:Bool) (y3_2:(List Int)),Ok (Xi0 a0 a1 b1) i0p6 [(1,.func 24 [] [.tptr 38 2 0 2 0]),(12,q26 a0.f3),(13,.i (a0.f3.n:Int)),(14,.i y3_0)] (mkH [⟨[.optp y3_1 0 2 0,.ownt 5 1 (y3_2).length 1],2,false⟩,⟨(y3_2).flatMap e5,0,false⟩]) (qFo k F a0 n y3_0 y3_1 y3_2):=by
 intro n
 induction n with
 | zero=>intro y3_0 y3_1 y3_2; exact ok_none
 | succ n ih =>
  intro y3_0 y3_1 y3_2
  show Ok _ _ _ _ (qJ1 k F a0 (qFo k F a0 n) y3_0 y3_1 y3_2)
  unfold qJ1
  refine qBd (p':=nav [0] i0p6) (by kernel_rfl) ?_
  let E3:Env:=[(15,.bool (decide (y3_0 < (a0.f3.n:Int)))),(1,.func 24 [] [.tptr 38 2 0 2 0]),(12,q26 a0.f3),(13,.i (a0.f3.n:Int)),(14,.i y3_0)]
  let Q1:Blk:=⟨[.optp y3_1 0 2 0,.ownt 5 1 (y3_2).length 1],2,false⟩
  let Q2:Blk:=⟨(y3_2).flatMap e5,0,false⟩
  refine oH 5 i0p8 E3 (mkH [Q1,Q2]) ?_
  refine oS 15 (fun hb=>?_) (fun hb=>?_)
  ·refine oR 6 (atN 0 (ctl1 i0p9)) ((15,.bool true) :: E3) ?_
   refine qBi (fun (x1_0:S25)=>(.vptr [.i x1_0.f0,.i x1_0.f1,.str x1_0.f2,q26 x1_0.f3],(mkH [Q1,Q2]))) (atN 1 (ctl1 i0p9)) (fun x1_0=>((16,.vptr [.i x1_0.f0,.i x1_0.f1,.str x1_0.f2,q26 x1_0.f3]) :: (15,.bool true) :: E3)) (fun _ hx=>vidxR (sz:=4) qCm hx (by kernel_rfl)) (fun _=>by kernel_rfl) (fun x1_0 hx1_0=>?_)
   let E4:Env:=((19,.func 24 [] [.tptr 38 2 0 2 0]) :: (18,n26 x1_0) :: (6,.ptr 2 4 0) :: (17,n26 x1_0) :: (16,.vptr [.i x1_0.f0,.i x1_0.f1,.str x1_0.f2,q26 x1_0.f3]) :: (15,.bool true) :: E3)
   refine oH 8 (atN 2 (ctl1 i0p11)) E4 (mkH [Q1,Q2,⟨e26 x1_0,4,false⟩]) ?_
   refine oN (fun (x2_2:Ri0) => .bool x2_2.1) (fun x2_2=>[⟨[.optp x2_2.2.1 0 2 0,.ownt 5 1 (x2_2.2.2).length 1],2,false⟩,⟨(x2_2.2.2).flatMap e5,0,false⟩,⟨e26 x1_0,4,false⟩]) (atN 3 (ctl1 i0p11)) 20 [0,1] [0,1] [0,1] [n26 x1_0,.func 24 [] [.tptr 38 2 0 2 0]] (hF.i0_ok x1_0 y3_1 y3_2) ⟨u5 _,trivial⟩ (fun _=>⟨u5 _,trivial⟩) fun x2_2 hx2_2=>?_
   refine oR 2 (nav [0,0] i0p11) ((21,.bool (!x2_2.1)) :: (20,.bool x2_2.1) :: E4) ?_
   refine oK [1,12,13,14,21] [(1,.func 24 [] [.tptr 38 2 0 2 0]),(12,q26 a0.f3),(13,.i (a0.f3.n:Int)),(14,.i y3_0),(21,.bool (!x2_2.1))] ?_
   refine oS 21 (fun hb=>?_) (fun hb=>?_)
   ·exact oQF 6 [⟨[.optp x2_2.2.1 0 2 0,.ownt 5 1 (x2_2.2.2).length 1],2,false⟩,⟨(x2_2.2.2).flatMap e5,0,false⟩,⟨e26 x1_0,4,false⟩] 2 [0,1] [.bool false] (.bool false) .ps ⟨u5 _,trivial⟩
   ·refine oL 6 i0p6 [(1,.func 24 [] [.tptr 38 2 0 2 0]),(12,q26 a0.f3),(13,.i (a0.f3.n:Int)),(14,.i (fW .i64 (y3_0 + 1)))] ?_
    refine qB3 [⟨[.optp x2_2.2.1 0 2 0,.ownt 5 1 (x2_2.2.2).length 1],2,false⟩,⟨(x2_2.2.2).flatMap e5,0,false⟩] [⟨e26 x1_0,4,false⟩] (by kernel_rfl) rfl (by kernel_rfl) ⟨(by kernel_rfl),⟨(qA3 _ (u5 _)),trivial⟩⟩ ?_
    exact ih (fW .i64 (y3_0 + 1)) x2_2.2.1 x2_2.2.2
  ·exact oQF 7 [Q1,Q2] 2 [0,1] [.bool true] (.bool true) .ps ⟨u5 _,trivial⟩
def i0B (k:Nat) (F:Fns0) (a0:S25) (a1:Bool) (b1:(List Int)):Option Ri0 :=
 (i4 k a0 a1 b1).bind fun x0_2=>if (!x0_2.1) then (some (false,x0_2.2.1,x0_2.2.2)) else (qFo k F a0 k 0 x0_2.2.1 x0_2.2.2)
theorem i0B_all (k:Nat) (F:Fns0) (hF:FnsOk0 F):∀ a0 a1 b1 r,i0B k F a0 a1 b1 = some r → CallT Try.prog 23 [.agg [.i a0.f0,.i a0.f1,.str a0.f2,q26 a0.f3],.func 24 [] [.tptr 38 2 0 2 0]] (mkH [⟨[.optp a1 0 2 0,.ownt 5 1 (b1).length 1],2,false⟩,⟨(b1).flatMap e5,0,false⟩]) ((Xi0 a0 a1 b1).thr r) ((Xi0 a0 a1 b1).enc r) ((Xi0 a0 a1 b1).fin r):=by
 intro a0 a1 b1 r h
 refine qAj (Xi0 a0 a1 b1) Try.func23 (by kernel_rfl) (by kernel_rfl) rfl (t:=i0B k F a0 a1 b1) ?_ h
 unfold i0B
 refine qA6 (eE:=[(0,.agg [.i a0.f0,.i a0.f1,.str a0.f2,q26 a0.f3]),(1,.func 24 [] [.tptr 38 2 0 2 0])]) (by kernel_rfl) ?_
 let E1:Env:=[(8,n26 a0),(7,.func 24 [] [.tptr 38 2 0 2 0]),(4,.bool false),(2,.ptr 2 4 0),(0,n26 a0),(1,.func 24 [] [.tptr 38 2 0 2 0])]
 refine oH 10 (atN 2 (ctl1 i0p1)) E1 (mkH [⟨[.optp a1 0 2 0,.ownt 5 1 (b1).length 1],2,false⟩,⟨(b1).flatMap e5,0,false⟩,⟨e26 a0,0,false⟩]) ?_
 refine oN (fun (x0_2:Ri4) => .bool x0_2.1) (fun x0_2=>[⟨[.optp x0_2.2.1 0 2 0,.ownt 5 1 (x0_2.2.2).length 1],2,false⟩,⟨(x0_2.2.2).flatMap e5,0,false⟩,⟨e26 a0,0,false⟩]) (atN 3 (ctl1 i0p1)) 9 [0,1] [0,1] [0,1] [n26 a0,.tptr 38 2 0 2 0] (i4_ok k a0 a1 b1) ⟨u5 _,trivial⟩ (fun _=>⟨u5 _,trivial⟩) fun x0_2 hx0_2=>?_
 refine oR 2 i0p2 ((10,.bool (!x0_2.1)) :: (9,.bool x0_2.1) :: E1) ?_
 refine oS 10 (fun hb=>?_) (fun hb=>?_)
 ·exact oQF 6 [⟨[.optp x0_2.2.1 0 2 0,.ownt 5 1 (x0_2.2.2).length 1],2,false⟩,⟨(x0_2.2.2).flatMap e5,0,false⟩,⟨e26 a0,0,false⟩] 2 [0,1] [.bool false] (.bool false) .ps ⟨u5 _,trivial⟩
 ·refine oL 12 i0p6 [(1,.func 24 [] [.tptr 38 2 0 2 0]),(12,q26 a0.f3),(13,.i (a0.f3.n:Int)),(14,.i 0)] ?_
  refine qB3 [⟨[.optp x0_2.2.1 0 2 0,.ownt 5 1 (x0_2.2.2).length 1],2,false⟩,⟨(x0_2.2.2).flatMap e5,0,false⟩] [⟨e26 a0,0,false⟩] (by kernel_rfl) rfl (by kernel_rfl) ⟨(by kernel_rfl),⟨(qA3 _ (u5 _)),trivial⟩⟩ ?_
  exact (i0_l3_ok k F hF a0 a1 b1 k) 0 x0_2.2.1 x0_2.2.2
theorem i0B_ok (k:Nat) (F:Fns0) (hF:FnsOk0 F):Pi0 (i0B k F):=fun a0 a1 b1=>fun x h=>i0B_all k F hF a0 a1 b1 x h
def par0 (n:Nat):Fns0:=Nat.rec (motive:=fun _=>Fns0) ⟨fun _ _ _=>none⟩ (fun k F=>⟨i0B k F⟩) n
theorem qIf : ∀ k, FnsOk0 (par0 k)
 | 0=>⟨(fun _ _ _ _ h=>nomatch h)⟩
 | k + 1=>⟨i0B_ok k (par0 k) (qIf k)⟩
def i0 (k:Nat):Ti0:=(par0 k).i0
theorem i0_ok (k:Nat):Pi0 (i0 k):=(qIf k).i0_ok
end
structure Fns3 where
 g22:S25 → Option Bool
structure FnsOk3 (F:Fns3):Prop where
 g22_ok:∀ (a0:S25),∀ (r:Bool),F.g22 a0 = some r → PureOk Try.prog 22 [.agg [.i a0.f0,.i a0.f1,.str a0.f2,q26 a0.f3]] (.bool r)
end Go.Proofs.Ytdaaodknplbmkaa.Am
set_option maxRecDepth 100000
set_option linter.unusedVariables false
namespace Go.Proofs.Ytdaaodknplbmkaa.Am
noncomputable section
open Go
def Xg22:Fx Bool:=⟨Try.prog,cx,Try.f22,fun r => .bool r,0,fun _=>H0,cxTi,cxOrd,fun _=>none,false⟩
def g22p1:Pt:=nav [0,0,0,0] (nav [0] (bodyAt Try.f22))
def g22p2:Pt:=nav [0,0] g22p1
def g22p6:Pt:=nav [0,0,0,0] (nav [2,0,0,0] g22p2)
def g22p8:Pt:=nav [0,0,0] (nav [0,0] g22p6)
def g22p9:Pt:=nav [1,0,0,0,0] g22p8
def g22p11:Pt:=nav [0,0,0] g22p9
def qFs (k:Nat) (F:Fns3)  (a0:S25) (ih:Int → Option Bool):Int → Option Bool :=
 fun (y3_0:Int)=>if (decide (y3_0 < (a0.f3.n:Int))) then ((nthR d26 4 a0.f3.n a0.f3.cells y3_0).bind fun x0_0=>(F.g22 x0_0).bind fun x1_1=>if x1_1 then (some true) else (ih (fW .i64 (y3_0 + 1)))) else (some false)
def qDx (k:Nat) (F:Fns3)  (a0:S25) (n:Nat):Int → Option Bool:=lp (fun _=>none) (qFs k F a0) n
theorem qGq (k:Nat) (F:Fns3)  (a0:S25) (n:Nat) (y3_0:Int):qDx k F a0 (n + 1) y3_0 = (if (decide (y3_0 < (a0.f3.n:Int))) then ((nthR d26 4 a0.f3.n a0.f3.cells y3_0).bind fun x0_0=>(F.g22 x0_0).bind fun x1_1=>if x1_1 then (some true) else ((qDx k F a0 n) (fW .i64 (y3_0 + 1)))) else (some false)):=rfl
theorem qJ4 (k:Nat) (F:Fns3) (hF:FnsOk3 F)   (a0:S25)  : ∀ (n:Nat) (y3_0:Int),Ok Xg22 g22p6 [(19,q26 a0.f3),(20,.i (a0.f3.n:Int)),(21,.i y3_0)] (mkH []) (qDx k F a0 n y3_0):=by
 intro n
 induction n with
 | zero=>intro y3_0; exact ok_none
 | succ n ih =>
  intro y3_0
  show Ok _ _ _ _ (qFs k F a0 (qDx k F a0 n) y3_0)
  unfold qFs
  refine qBd (p':=nav [0] g22p6) (by kernel_rfl) ?_
  refine oH 5 g22p8 [(22,.bool (decide (y3_0 < (a0.f3.n:Int)))),(19,q26 a0.f3),(20,.i (a0.f3.n:Int)),(21,.i y3_0)] (mkH []) ?_
  refine oS 22 (fun hb=>?_) (fun hb=>?_)
  ·let E3:Env:=[(22,.bool true),(22,.bool (decide (y3_0 < (a0.f3.n:Int)))),(19,q26 a0.f3),(20,.i (a0.f3.n:Int)),(21,.i y3_0)]
   refine oR 6 (atN 0 (ctl1 g22p9)) E3 ?_
   refine qBi (fun (x0_0:S25)=>(.vptr [.i x0_0.f0,.i x0_0.f1,.str x0_0.f2,q26 x0_0.f3],(mkH []))) (atN 1 (ctl1 g22p9)) (fun x0_0=>((23,.vptr [.i x0_0.f0,.i x0_0.f1,.str x0_0.f2,q26 x0_0.f3]) :: E3)) (fun _ hx=>vidxR (sz:=4) qCm hx (by kernel_rfl)) (fun _=>by kernel_rfl) (fun x0_0 hx0_0=>?_)
   refine oH 7 (atN 1 (ctl1 g22p11)) ((25,n26 x0_0) :: (4,.ptr 0 4 0) :: (24,n26 x0_0) :: (23,.vptr [.i x0_0.f0,.i x0_0.f1,.str x0_0.f2,q26 x0_0.f3]) :: E3) (mkH [⟨e26 x0_0,4,false⟩]) ?_
   refine oA (fun (x1_1:Bool) => .bool x1_1) (atN 2 (ctl1 g22p11)) 26 [n26 x0_0] (hF.g22_ok x0_0) fun x1_1 hx1_1=>?_
   refine oR 1 (nav [0,0] g22p11) ((26,.bool x1_1) :: (25,n26 x0_0) :: (4,.ptr 0 4 0) :: (24,n26 x0_0) :: (23,.vptr [.i x0_0.f0,.i x0_0.f1,.str x0_0.f2,q26 x0_0.f3]) :: E3) ?_
   refine oS 26 (fun hb=>?_) (fun hb=>?_)
   ·exact oQ 6
   ·refine oL 6 g22p6 [(19,q26 a0.f3),(20,.i (a0.f3.n:Int)),(21,.i (fW .i64 (y3_0 + 1)))] ?_
    refine qB3 [] [⟨e26 x0_0,4,false⟩] (by kernel_rfl) rfl (by kernel_rfl) trivial ?_
    exact ih (fW .i64 (y3_0 + 1))
  ·exact oQ 7
def g22B (k:Nat) (F:Fns3) (a0:S25):Option Bool :=
 jn (fun (z2:Bool)=>if z2 then (some true) else (qDx k F a0 k 0)) (fun j2=>if (decide (a0.f0 = 4)) then (j2 true) else (if (decide (a0.f0 = 7)) then (j2 (decide (a0.f1 = 1))) else (j2 false)))
theorem g22B_ok (k:Nat) (F:Fns3) (hF:FnsOk3 F) (a0:S25) (r:Bool) (h:g22B k F a0 = some r):PureOk Try.prog 22 [.agg [.i a0.f0,.i a0.f1,.str a0.f2,q26 a0.f3]] (.bool r):=by
 refine qA9 Xg22 (fun _=>⟨rfl,rfl⟩) Try.func22 (by decide +kernel) (by kernel_rfl) (t:=g22B k F a0) ?_ h
 unfold g22B
 refine qA6 (eE:=[(0,.agg [.i a0.f0,.i a0.f1,.str a0.f2,q26 a0.f3])]) (by kernel_rfl) ?_
 let E1:Env:=[(8,.bool (decide (a0.f0 = 4))),(7,.bool (decide (a0.f0 = 4))),(6,.i a0.f0),(5,.ptr 0 4 0),(2,.bool false),(1,.ptr 0 4 0),(0,n26 a0)]
 refine oH 12 (atN 4 (ctl1 g22p1)) E1 (mkH [⟨e26 a0,0,false⟩]) ?_
 refine oJ g22p2 (fun (z2:Bool)=>[(1,.ptr 0 4 0),(17,.bool z2)]) (fun (z2:Bool)=>(mkH [⟨e26 a0,0,false⟩])) (fun z2=>?_) (fun j2 hj2=>?_)
 ·refine oS 17 (fun hb=>?_) (fun hb=>?_)
  ·exact oQ 6
  ·refine oLH 12 g22p6 [(19,q26 a0.f3),(20,.i (a0.f3.n:Int)),(21,.i 0)] (mkH [⟨e26 a0,0,false⟩]) ?_
   refine qB3 [] [⟨e26 a0,0,false⟩] (by kernel_rfl) rfl (by kernel_rfl) trivial ?_
   exact (qJ4 k F hF a0 k) 0
 ·refine oS 8 (fun hb=>?_) (fun hb=>?_)
  ·refine oLH 10 g22p2 [(1,.ptr 0 4 0),(17,.bool true)] (mkH [⟨e26 a0,0,false⟩]) ?_
   exact hj2 true
  ·refine oH 4 (atN 8 (ctl1 g22p1)) ((12,.bool (decide (a0.f0 = 7))) :: (11,.bool (decide (a0.f0 = 7))) :: (10,.i a0.f0) :: (9,.ptr 0 4 0) :: (8,.bool false) :: E1) (mkH [⟨e26 a0,0,false⟩]) ?_
   refine oS 12 (fun hb=>?_) (fun hb=>?_)
   ·refine oL 6 g22p2 [(1,.ptr 0 4 0),(17,.bool (decide (a0.f1 = 1)))] ?_
    exact hj2 (decide (a0.f1 = 1))
   ·refine oL 6 g22p2 [(1,.ptr 0 4 0),(17,.bool false)] ?_
    exact hj2 false
def par3 (n:Nat):Fns3:=Nat.rec (motive:=fun _=>Fns3) ⟨fun _=>none⟩ (fun k F=>⟨g22B k F⟩) n
theorem qIc : ∀ k, FnsOk3 (par3 k)
 | 0=>⟨(fun _ _ h=>nomatch h)⟩
 | k + 1=>⟨g22B_ok k (par3 k) (qIc k)⟩
def g22 (k:Nat) (a0:S25):Option Bool:=(par3 k).g22 a0
theorem g22_ok (k:Nat):∀ (a0:S25),∀ (r:Bool),g22 k a0 = some r → PureOk Try.prog 22 [.agg [.i a0.f0,.i a0.f1,.str a0.f2,q26 a0.f3]] (.bool r):=(qIc k).g22_ok
def Xg9:Fx ((List Nat) × Bool):=⟨Try.prog,cx,Try.f9,fun r => .tuple [.str r.1,.bool r.2],0,fun _=>H0,cxTi,cxOrd,fun _=>none,false⟩
def g9p1:Pt:=nav [0,0,0,0] (nav [0] (bodyAt Try.f9))
def g9p2:Pt:=nav [0,0] g9p1
def g9p4:Pt:=nav [2,0,0] g9p2
def g9p6:Pt:=nav [0,0,0] g9p4
def g9p7:Pt:=nav [0,0,0] g9p6
def g9 (k:Nat) (a0:S25):Option ((List Nat) × Bool) :=
 (g22 k a0).bind fun x0_1=>if x0_1 then (some (([]:List Nat),false)) else ((i0 k a0 false ([]:List Int)).bind fun x1_2=>(i1 k x1_2.2.1 x1_2.2.2).bind fun x2_0=>some (x2_0,true))
theorem qHg (k:Nat) (a0:S25) (r:((List Nat) × Bool)) (h:g9 k a0 = some r):PureOk Try.prog 9 [.agg [.i a0.f0,.i a0.f1,.str a0.f2,q26 a0.f3]] (.tuple [.str r.1,.bool r.2]):=by
 refine qA9 Xg9 (fun _=>⟨rfl,rfl⟩) Try.func9 (by decide +kernel) (by kernel_rfl) (t:=g9 k a0) ?_ h
 unfold g9
 refine qA6 (eE:=[(0,.agg [.i a0.f0,.i a0.f1,.str a0.f2,q26 a0.f3])]) (by kernel_rfl) ?_
 let E1:Env:=[(5,n26 a0),(3,.bool false),(2,.str []),(1,.ptr 0 4 0),(0,n26 a0)]
 refine oH 10 (atN 1 (ctl1 g9p1)) E1 (mkH [⟨e26 a0,0,false⟩]) ?_
 refine oA (fun (x0_1:Bool) => .bool x0_1) (atN 2 (ctl1 g9p1)) 6 [n26 a0] (g22_ok k a0) fun x0_1 hx0_1=>?_
 refine oR 1 g9p2 ((6,.bool x0_1) :: E1) ?_
 refine oS 6 (fun hb=>?_) (fun hb=>?_)
 ·exact oQ 7
 ·refine oR 4 (atN 0 (ctl1 g9p4)) ((6,.bool false) :: (6,.bool x0_1) :: E1) ?_
  refine oAl (atN 1 (ctl1 g9p4)) [(4,.tptr 38 2 1 2 0),(6,.bool false),(6,.bool x0_1),(5,n26 a0),(3,.bool false),(2,.str []),(1,.ptr 0 4 0),(0,n26 a0)] (mkH [⟨e26 a0,0,false⟩,⟨[.nilp,.nils],0,false⟩]) ?_
  refine ok_ghost [⟨e26 a0,0,false⟩,⟨[.nilp,.nils],0,false⟩] (by kernel_rfl) ?_
  let Q1:Blk:=⟨(([]:List Int)).flatMap e5,0,false⟩
  let K1:List Blk:=[⟨e26 a0,0,false⟩,⟨[.nilp,.nils],0,false⟩,Q1]
  refine oHp (mkH K1) ?_
  refine qGe K1 1 0 [.nilp,.nils] [.optp false 1 2 0,.ownt 5 2 (([]:List Int)).length 1] (by kernel_rfl) rfl (.optF (.nont .refl)) ?_
  let E2:Env:=[(8,.func 24 [] [.tptr 38 2 1 2 0]),(7,n26 a0),(4,.tptr 38 2 1 2 0),(6,.bool false),(6,.bool x0_1),(5,n26 a0),(3,.bool false),(2,.str []),(1,.ptr 0 4 0),(0,n26 a0)]
  refine oH 5 (atN 2 (ctl1 g9p6)) E2 (mkH [⟨e26 a0,0,false⟩,⟨[.optp false 1 2 0,.ownt 5 2 (([]:List Int)).length 1],0,false⟩,Q1]) ?_
  refine qGf (fun (x1_2:Ri0) => .bool x1_2.1) (fun (x1_2:Ri0)=>(mkH [⟨e26 a0,0,false⟩,⟨[.optp x1_2.2.1 1 2 0,.ownt 5 2 (x1_2.2.2).length 1],2,false⟩,⟨(x1_2.2.2).flatMap e5,0,false⟩])) (atN 3 (ctl1 g9p6)) (fun x1_2=>((9,.bool x1_2.1) :: E2)) (fi:=23) (args:=[n26 a0,.func 24 [] [.tptr 38 2 1 2 0]]) (by kernel_rfl) (fun x1_2 h=>frW 0 [⟨e26 a0,0,false⟩,⟨[.optp false 1 2 0,.ownt 5 2 (([]:List Int)).length 1],2,false⟩,Q1] (rs:=[1,2]) (ms:=[0,1]) (ms':=[0,1]) (mv:=[0,0,1]) (xs':=[n26 a0,.func 24 [] [.tptr 38 2 1 2 0]]) (.refl) (i0_ok k a0 false ([]:List Int) x1_2 h) ⟨u5 _,trivial⟩ ⟨u5 _,trivial⟩ (by kernel_rfl)) (fun _=>by kernel_rfl) (fun x1_2 hx1_2=>?_)
  let Q2:Blk:=⟨[.optp x1_2.2.1 1 2 0,.ownt 5 2 (x1_2.2.2).length 1],2,false⟩
  refine oLH 2 g9p7 [(4,.tptr 38 2 1 2 0)] (mkH [⟨e26 a0,0,false⟩,Q2,⟨(x1_2.2.2).flatMap e5,0,false⟩]) ?_
  refine oR 1 (atN 0 (ctl1 g9p7)) [(4,.tptr 38 2 1 2 0)] ?_
  refine oN (fun (x2_0:(List Nat)) => .str x2_0) (fun x2_0=>[⟨e26 a0,0,false⟩,Q2,⟨(x1_2.2.2).flatMap e5,0,true⟩]) (atN 1 (ctl1 g9p7)) 10 [1,2] [0,1] [0,1] [.tptr 38 2 1 2 0] (i1_ok k x1_2.2.1 x1_2.2.2) ⟨u5 _,trivial⟩ (fun _=>⟨u5 _,trivial⟩) fun x2_0 hx2_0=>?_
  exact oQ 4
def Xg6:Fx Bool:=⟨Try.prog,cx,Try.f6,fun r => .bool r,0,fun _=>H0,cxTi,cxOrd,fun _=>none,false⟩
def g6c0:List S25:=[(⟨(1:Int),(0:Int),([97,195,169]:List Nat),⟨(([]:List S25)).length,(([]:List S25)).flatMap e26⟩⟩:S25),(⟨(2:Int),(0:Int),([]:List Nat),⟨(([]:List S25)).length,(([]:List S25)).flatMap e26⟩⟩:S25),(⟨(1:Int),(0:Int),([97,195,169]:List Nat),⟨(([]:List S25)).length,(([]:List S25)).flatMap e26⟩⟩:S25)]
def g6c1:List Nat:=[97,195,169,32,97,195,169]
def g6c2:List S25:=[(⟨(1:Int),(0:Int),([97,195,169]:List Nat),⟨(([]:List S25)).length,(([]:List S25)).flatMap e26⟩⟩:S25),(⟨(7:Int),(0:Int),([]:List Nat),⟨(g6c0).length,(g6c0).flatMap e26⟩⟩:S25),(⟨(1:Int),(0:Int),([97,195,169]:List Nat),⟨(([]:List S25)).length,(([]:List S25)).flatMap e26⟩⟩:S25)]
def g6p2:Pt:=nav [0,0,0] (nav [0,0,0] (nav [0] (bodyAt Try.f6)))
def g6p3:Pt:=nav [0,0,0] g6p2
def g6p4:Pt:=nav [0,0,0] g6p3
def g6p5:Pt:=nav [0,0,0] g6p4
def g6 (k:Nat)  : Option Bool :=
 (g9 k (⟨(7:Int),(0:Int),([]:List Nat),⟨(g6c0).length,(g6c0).flatMap e26⟩⟩:S25)).bind fun x0_1=>(g9 k (⟨(4:Int),(0:Int),([]:List Nat),⟨0,[]⟩⟩:S25)).bind fun x1_1=>if x0_1.2 then (if (eqL x0_1.1 g6c1) then (if (!x1_1.2) then ((g11 k (⟨(7:Int),(0:Int),([]:List Nat),⟨(g6c0).length,(g6c0).flatMap e26⟩⟩:S25)).bind fun x2_11=>if (decide (x2_11 = 5)) then ((g13 k g6c2).bind fun x2_19=>some (decide (x2_19 = 4))) else (some false)) else (some false)) else (some false)) else (some false)
theorem qAk (k:Nat)  (r:Bool) (h:g6 k  = some r):PureOk Try.prog 6 [] (.bool r):=by
 refine qA9 Xg6 (fun _=>⟨rfl,rfl⟩) Try.func6 (by decide +kernel) (by kernel_rfl) (t:=g6 k ) ?_ h
 unfold g6
 refine qA6 (eE:=[]) (by kernel_rfl) ?_
 let Q1:Blk:=⟨[.i 1,.i 0,.str [97,195,169],.nils],4,false⟩
 let Q2:Blk:=⟨[.i 2,.i 0,.str [],.nils],4,false⟩
 let Q3:Blk:=⟨[.i 1,.i 0,.str [97,195,169],.nils,.i 2,.i 0,.str [],.nils,.i 1,.i 0,.str [97,195,169],.nils],0,false⟩
 refine oH 19 (atN 4 (ctl1 g6p2)) [(13,.slice 2 12 0 3 4),(12,.agg [.i 1,.i 0,.str [97,195,169],.nils]),(11,.agg [.i 2,.i 0,.str [],.nils]),(10,.agg [.i 1,.i 0,.str [97,195,169],.nils]),(2,.ptr 1 4 0),(1,.ptr 0 4 0),(9,.agg [.i 2,.i 0,.str [],.nils]),(8,.agg [.i 1,.i 0,.str [97,195,169],.nils]),(0,.bool false)] (mkH [Q1,Q2,Q3]) ?_
 refine qGe [Q1,Q2,Q3] 2 0 [.i 1,.i 0,.str [97,195,169],.nils,.i 2,.i 0,.str [],.nils,.i 1,.i 0,.str [97,195,169],.nils] [.i 1,.i 0,.str [97,195,169],w26 ([]:List S25),.i 2,.i 0,.str [],w26 ([]:List S25),.i 1,.i 0,.str [97,195,169],w26 ([]:List S25)] (by kernel_rfl) rfl (.cons (.cons (.cons (.nil (.cons (.cons (.cons (.nil (.cons (.cons (.cons (.nil (.refl))))))))))))) ?_
 refine oHp (mkH [Q1,Q2,⟨[.i 1,.i 0,.str [97,195,169],w26 ([]:List S25),.i 2,.i 0,.str [],w26 ([]:List S25),.i 1,.i 0,.str [97,195,169],w26 ([]:List S25)],0,false⟩]) ?_
 refine oZ 13 2 3 4 [.i 1,.i 0,.str [97,195,169],w26 ([]:List S25),.i 2,.i 0,.str [],w26 ([]:List S25),.i 1,.i 0,.str [97,195,169],w26 ([]:List S25)] [0,1,2,8,9,10,11,12] [] trivial ?_
 let E3:Env:=[(1,.ptr 0 4 0),(3,.ptr 3 4 0)]
 let Q4:Blk:=⟨[.i 7,.i 0,.str [],w26 g6c0],4,false⟩
 refine oLH 5 g6p3 E3 (mkH [Q1,Q2,⟨[],0,false⟩,Q4]) ?_
 refine oR 2 (atN 1 (ctl1 g6p3)) ((16,.agg [.i 7,.i 0,.str [],w26 g6c0]) :: E3) ?_
 refine oA (fun (x0_1:((List Nat) × Bool)) => .tuple [.str x0_1.1,.bool x0_1.2]) (atN 2 (ctl1 g6p3)) 17 [.agg [.i 7,.i 0,.str [],w26 g6c0]] (qHg k (⟨(7:Int),(0:Int),([]:List Nat),⟨(g6c0).length,(g6c0).flatMap e26⟩⟩:S25)) fun x0_1 hx0_1=>?_
 let E4:Env:=((21,.agg [.i 4,.i 0,.str [],.nils]) :: (5,.bool x0_1.2) :: (4,.str x0_1.1) :: (19,.bool x0_1.2) :: (18,.str x0_1.1) :: (15,.tuple [.str x0_1.1,.bool x0_1.2]) :: (17,.tuple [.str x0_1.1,.bool x0_1.2]) :: (16,.agg [.i 7,.i 0,.str [],w26 g6c0]) :: E3)
 refine oR 9 (atN 1 (ctl1 g6p4)) E4 ?_
 refine ok_callV (fun (x1_1:((List Nat) × Bool)) => .tuple [.str x1_1.1,.bool x1_1.2]) (atN 2 (ctl1 g6p4)) (fun x1_1=>((22,.tuple [.str x1_1.1,.bool x1_1.2]) :: E4)) (fi:=9) (args:=[.agg [.i 4,.i 0,.str [],.nils]]) (by kernel_rfl) (fun r h=>dry_call (xs':=[.agg [.i 4,.i 0,.str [],.vec 0 4 []]]) (qHg k (⟨(4:Int),(0:Int),([]:List Nat),⟨0,[]⟩⟩:S25) r h) (.agg (.cons (by kernel_rfl) (.cons (by kernel_rfl) (.cons (by kernel_rfl) (.nil (.pures (by kernel_rfl)))))) (.pures (by kernel_rfl))) (by kernel_rfl)) (fun _=>by kernel_rfl) (fun x1_1 hx1_1=>?_)
 let E6:Env:=[(1,.ptr 0 4 0),(3,.ptr 3 4 0),(4,.str x0_1.1),(5,.bool x0_1.2),(7,.bool x1_1.2)]
 refine oLH 7 g6p5 E6 (mkH [Q1,Q2,⟨[],0,false⟩,Q4]) ?_
 refine oR 3 (atN 2 (ctl1 g6p5)) ((26,.bool x0_1.2) :: (25,.bool x0_1.2) :: E6) ?_
 refine oS 26 (fun hb=>?_) (fun hb=>?_)
 ·let E7:Env:=((30,.bool (eqL x0_1.1 g6c1)) :: (29,.bool (eqL x0_1.1 g6c1)) :: (28,.bool (eqL x0_1.1 g6c1)) :: (27,.str x0_1.1) :: (26,.bool true) :: (26,.bool x0_1.2) :: (25,.bool x0_1.2) :: E6)
  refine oR 4 (atN 6 (ctl1 g6p5)) E7 ?_
  refine oS 30 (fun hb=>?_) (fun hb=>?_)
  ·let E8:Env:=((34,.bool (!x1_1.2)) :: (33,.bool (!x1_1.2)) :: (32,.bool (!x1_1.2)) :: (31,.bool x1_1.2) :: (30,.bool true) :: E7)
   refine oR 4 (atN 10 (ctl1 g6p5)) E8 ?_
   refine oS 34 (fun hb=>?_) (fun hb=>?_)
   ·refine oR 1 (atN 11 (ctl1 g6p5)) ((35,.agg [.i 7,.i 0,.str [],w26 g6c0]) :: (34,.bool true) :: E8) ?_
    refine oA (fun (x2_11:Int) => .i x2_11) (atN 12 (ctl1 g6p5)) 36 [.agg [.i 7,.i 0,.str [],w26 g6c0]] (qA0 k (⟨(7:Int),(0:Int),([]:List Nat),⟨(g6c0).length,(g6c0).flatMap e26⟩⟩:S25)) fun x2_11 hx2_11=>?_
    let E9:Env:=((39,.bool (decide (x2_11 = 5))) :: (38,.bool (decide (x2_11 = 5))) :: (37,.bool (decide (x2_11 = 5))) :: (36,.i x2_11) :: (35,.agg [.i 7,.i 0,.str [],w26 g6c0]) :: (34,.bool true) :: E8)
    refine oR 3 (atN 15 (ctl1 g6p5)) E9 ?_
    refine oS 39 (fun hb=>?_) (fun hb=>?_)
    ·let Q5:Blk:=⟨[.i 1,.i 0,.str [97,195,169],.nils,.i 7,.i 0,.str [],w26 g6c0,.i 1,.i 0,.str [97,195,169],.nils],0,false⟩
     refine oH 4 (atN 19 (ctl1 g6p5)) ((43,.slice 4 12 0 3 4) :: (42,.agg [.i 1,.i 0,.str [97,195,169],.nils]) :: (41,.agg [.i 7,.i 0,.str [],w26 g6c0]) :: (40,.agg [.i 1,.i 0,.str [97,195,169],.nils]) :: (39,.bool true) :: E9) (mkH [Q1,Q2,⟨[],0,false⟩,Q4,Q5]) ?_
     refine qGe [Q1,Q2,⟨[],0,false⟩,Q4,Q5] 4 0 [.i 1,.i 0,.str [97,195,169],.nils,.i 7,.i 0,.str [],w26 g6c0,.i 1,.i 0,.str [97,195,169],.nils] [.i 1,.i 0,.str [97,195,169],w26 ([]:List S25),.i 7,.i 0,.str [],w26 g6c0,.i 1,.i 0,.str [97,195,169],w26 ([]:List S25)] (by kernel_rfl) rfl (.cons (.cons (.cons (.nil (.cons (.cons (.cons (.cons (.cons (.cons (.cons (.nil (.refl))))))))))))) ?_
     refine oHp (mkH [Q1,Q2,⟨[],0,false⟩,Q4,⟨[.i 1,.i 0,.str [97,195,169],w26 ([]:List S25),.i 7,.i 0,.str [],w26 g6c0,.i 1,.i 0,.str [97,195,169],w26 ([]:List S25)],0,false⟩]) ?_
     refine oZ 43 4 3 4 [.i 1,.i 0,.str [97,195,169],w26 ([]:List S25),.i 7,.i 0,.str [],w26 g6c0,.i 1,.i 0,.str [97,195,169],w26 ([]:List S25)] [1,3,4,5,7,25,26,27,28,29,30,31,32,33,34,35,36,37,38,39,40,41,42] [] trivial ?_
     refine oE [(43,w26 g6c2),(1,.ptr 0 4 0),(3,.ptr 3 4 0),(4,.str x0_1.1),(5,.bool x0_1.2),(7,.bool x1_1.2),(25,.bool x0_1.2),(26,.bool true),(27,.str x0_1.1),(28,.bool (eqL x0_1.1 g6c1)),(29,.bool (eqL x0_1.1 g6c1)),(30,.bool true),(31,.bool x1_1.2),(32,.bool (!x1_1.2)),(33,.bool (!x1_1.2)),(34,.bool true),(35,.agg [.i 7,.i 0,.str [],w26 g6c0]),(36,.i x2_11),(37,.bool (decide (x2_11 = 5))),(38,.bool (decide (x2_11 = 5))),(39,.bool true),(40,.agg [.i 1,.i 0,.str [97,195,169],.nils]),(41,.agg [.i 7,.i 0,.str [],w26 g6c0]),(42,.agg [.i 1,.i 0,.str [97,195,169],.nils])] ?_
     refine oHp (mkH [Q1,Q2,⟨[],0,false⟩,Q4,⟨[],0,false⟩]) ?_
     refine oA (fun (x2_19:Int) => .i x2_19) (atN 20 (ctl1 g6p5)) 44 [w26 g6c2] (qC8 k g6c2) fun x2_19 hx2_19=>?_
     exact oQ 5
    ·exact oQ 10
   ·exact oQ 15
  ·exact oQ 19
 ·exact oQ 23
end
structure Fns4 where
 g18:S25 → Int → Option Int
structure FnsOk4 (F:Fns4):Prop where
 g18_ok:∀ (a0:S25) (a1:Int),∀ (r:Int),F.g18 a0 a1 = some r → PureOk Try.prog 18 [.agg [.i a0.f0,.i a0.f1,.str a0.f2,q26 a0.f3],.i a1] (.i r)
end Go.Proofs.Ytdaaodknplbmkaa.Am
set_option maxRecDepth 100000
set_option linter.unusedVariables false
namespace Go.Proofs.Ytdaaodknplbmkaa.Am
noncomputable section
open Go
def Xg18:Fx Int:=⟨Try.prog,cx,Try.f18,fun r => .i r,0,fun _=>H0,cxTi,cxOrd,fun _=>none,false⟩
def g18p1:Pt:=nav [0,0,0,0] (nav [0] (bodyAt Try.f18))
def g18p2:Pt:=nav [0,0] g18p1
def g18p7:Pt:=nav [0,0,0,0] (nav [0,0,0,0] (nav [2,0,0] g18p2))
def g18p8:Pt:=nav [0,0,0] g18p7
def g18p9:Pt:=nav [0,0] g18p8
def g18p10:Pt:=nav [1,0,0,0] g18p9
def qFx (k:Nat) (F:Fns4)  (a0:S25) (a1:Int) (ih:Int → Int → Option Int):Int → Int → Option Int :=
 fun (y2_0:Int) (y2_1:Int)=>jn (fun (z3:Bool × Int × Int)=>if z3.1 then ((nthR d26 4 a0.f3.n a0.f3.cells z3.2.2).bind fun x0_4=>(F.g18 x0_4 (fW .i64 (a1 - 1))).bind fun x0_8=>ih (fW .i64 (z3.2.1 + x0_8)) (fW .i64 (z3.2.2 + 1))) else (some z3.2.1)) (fun j3=>if (decide (y2_1 < (a0.f3.n:Int))) then (j3 (decide (y2_0 < 1000),y2_0,y2_1)) else (j3 (false,y2_0,y2_1)))
def qCl (k:Nat) (F:Fns4)  (a0:S25) (a1:Int) (n:Nat):Int → Int → Option Int:=lp (fun _ _=>none) (qFx k F a0 a1) n
theorem qGv (k:Nat) (F:Fns4)  (a0:S25) (a1:Int) (n:Nat) (y2_0:Int) (y2_1:Int):qCl k F a0 a1 (n + 1) y2_0 y2_1 = (jn (fun (z3:Bool × Int × Int)=>if z3.1 then ((nthR d26 4 a0.f3.n a0.f3.cells z3.2.2).bind fun x0_4=>(F.g18 x0_4 (fW .i64 (a1 - 1))).bind fun x0_8=>(qCl k F a0 a1 n) (fW .i64 (z3.2.1 + x0_8)) (fW .i64 (z3.2.2 + 1))) else (some z3.2.1)) (fun j3=>if (decide (y2_1 < (a0.f3.n:Int))) then (j3 (decide (y2_0 < 1000),y2_0,y2_1)) else (j3 (false,y2_0,y2_1)))):=rfl
theorem qJ9 (k:Nat) (F:Fns4) (hF:FnsOk4 F)   (a0:S25) (a1:Int)  : ∀ (n:Nat) (y2_0:Int) (y2_1:Int),Ok Xg18 g18p7 [(1,.i a1),(2,.ptr 0 4 0),(5,.i y2_0),(6,.i y2_1)] (mkH [⟨[.i a0.f0,.i a0.f1,.str a0.f2,q26 a0.f3],0,false⟩]) (qCl k F a0 a1 n y2_0 y2_1):=by
 intro n
 induction n with
 | zero=>intro y2_0 y2_1; exact ok_none
 | succ n ih =>
  intro y2_0 y2_1
  show Ok _ _ _ _ (qFx k F a0 a1 (qCl k F a0 a1 n) y2_0 y2_1)
  unfold qFx
  refine qBd (p':=nav [0] g18p7) (by kernel_rfl) ?_
  refine oH 9 (atN 6 (ctl1 g18p8)) [(26,.bool (decide (y2_1 < (a0.f3.n:Int)))),(25,.bool (decide (y2_1 < (a0.f3.n:Int)))),(24,.i (a0.f3.n:Int)),(23,q26 a0.f3),(22,.ptr 0 4 3),(21,.i y2_1),(1,.i a1),(2,.ptr 0 4 0),(5,.i y2_0),(6,.i y2_1)] (mkH [⟨e26 a0,0,false⟩]) ?_
  refine oJ g18p9 (fun (z3:Bool × Int × Int)=>[(1,.i a1),(2,.ptr 0 4 0),(5,.i z3.2.1),(6,.i z3.2.2),(29,.bool z3.1)]) (fun (z3:Bool × Int × Int)=>(mkH [⟨e26 a0,0,false⟩])) (fun z3=>?_) (fun j3 hj3=>?_)
  ·refine oS 29 (fun hb=>?_) (fun hb=>?_)
   ·let E5:Env:=[(35,.i z3.2.2),(34,q26 a0.f3),(33,.ptr 0 4 3),(32,.i z3.2.1),(29,.bool true),(1,.i a1),(2,.ptr 0 4 0),(5,.i z3.2.1),(6,.i z3.2.2),(29,.bool z3.1)]
    refine oH 9 (atN 4 (ctl1 g18p10)) E5 (mkH [⟨e26 a0,0,false⟩]) ?_
    refine qBi (fun (x0_4:S25)=>(.vptr [.i x0_4.f0,.i x0_4.f1,.str x0_4.f2,q26 x0_4.f3],(mkH [⟨e26 a0,0,false⟩]))) (atN 5 (ctl1 g18p10)) (fun x0_4=>((36,.vptr [.i x0_4.f0,.i x0_4.f1,.str x0_4.f2,q26 x0_4.f3]) :: E5)) (fun _ hx=>vidxR (sz:=4) qCm hx (by kernel_rfl)) (fun _=>by kernel_rfl) (fun x0_4 hx0_4=>?_)
    refine oH 3 (atN 8 (ctl1 g18p10)) ((39,.i (fW .i64 (a1 - 1))) :: (38,.i a1) :: (37,n26 x0_4) :: (36,.vptr [.i x0_4.f0,.i x0_4.f1,.str x0_4.f2,q26 x0_4.f3]) :: E5) (mkH [⟨e26 a0,0,false⟩]) ?_
    refine oA (fun (x0_8:Int) => .i x0_8) (atN 9 (ctl1 g18p10)) 40 [n26 x0_4,.i (fW .i64 (a1 - 1))] (hF.g18_ok x0_4 (fW .i64 (a1 - 1))) fun x0_8 hx0_8=>?_
    refine oL 3 (nav [0,0] g18p10) [(1,.i a1),(2,.ptr 0 4 0),(5,.i (fW .i64 (z3.2.1 + x0_8))),(6,.i z3.2.2)] ?_
    refine oL 5 g18p7 [(1,.i a1),(2,.ptr 0 4 0),(5,.i (fW .i64 (z3.2.1 + x0_8))),(6,.i (fW .i64 (z3.2.2 + 1)))] ?_
    exact ih (fW .i64 (z3.2.1 + x0_8)) (fW .i64 (z3.2.2 + 1))
   ·exact oQ 8
  ·refine oS 26 (fun hb=>?_) (fun hb=>?_)
   ·refine oLH 4 g18p9 [(1,.i a1),(2,.ptr 0 4 0),(5,.i y2_0),(6,.i y2_1),(29,.bool (decide (y2_0 < 1000)))] (mkH [⟨e26 a0,0,false⟩]) ?_
    exact hj3 (decide (y2_0 < 1000),y2_0,y2_1)
   ·refine oLH 4 g18p9 [(1,.i a1),(2,.ptr 0 4 0),(5,.i y2_0),(6,.i y2_1),(29,.bool false)] (mkH [⟨e26 a0,0,false⟩]) ?_
    exact hj3 (false,y2_0,y2_1)
def g18B (k:Nat) (F:Fns4) (a0:S25) (a1:Int):Option Int :=
 jn (fun (z1:Bool)=>if z1 then (some (1000:Int)) else (qCl k F a0 a1 k 1 0)) (fun j1=>if (decide (a1 = 0)) then (j1 true) else (if (decide (100 < (a0.f2.length:Int))) then (j1 true) else (j1 (decide (500 < (a0.f3.n:Int))))))
theorem g18B_ok (k:Nat) (F:Fns4) (hF:FnsOk4 F) (a0:S25) (a1:Int) (r:Int) (h:g18B k F a0 a1 = some r):PureOk Try.prog 18 [.agg [.i a0.f0,.i a0.f1,.str a0.f2,q26 a0.f3],.i a1] (.i r):=by
 refine qA9 Xg18 (fun _=>⟨rfl,rfl⟩) Try.func18 (by decide +kernel) (by kernel_rfl) (t:=g18B k F a0 a1) ?_ h
 unfold g18B
 refine qA6 (eE:=[(0,.agg [.i a0.f0,.i a0.f1,.str a0.f2,q26 a0.f3]),(1,.i a1)]) (by kernel_rfl) ?_
 let E1:Env:=[(9,.bool (decide (a1 = 0))),(8,.bool (decide (a1 = 0))),(7,.i a1),(4,.i 0),(2,.ptr 0 4 0),(0,n26 a0),(1,.i a1)]
 refine oH 11 (atN 3 (ctl1 g18p1)) E1 (mkH [⟨e26 a0,0,false⟩]) ?_
 refine oJ g18p2 (fun (z1:Bool)=>[(1,.i a1),(2,.ptr 0 4 0),(20,.bool z1)]) (fun (z1:Bool)=>(mkH [⟨e26 a0,0,false⟩])) (fun z1=>?_) (fun j1 hj1=>?_)
 ·refine oS 20 (fun hb=>?_) (fun hb=>?_)
  ·exact oQ 6
  ·refine oLH 13 g18p7 [(1,.i a1),(2,.ptr 0 4 0),(5,.i 1),(6,.i 0)] (mkH [⟨e26 a0,0,false⟩]) ?_
   exact (qJ9 k F hF a0 a1 k) 1 0
 ·refine oS 9 (fun hb=>?_) (fun hb=>?_)
  ·refine oLH 12 g18p2 [(1,.i a1),(2,.ptr 0 4 0),(20,.bool true)] (mkH [⟨e26 a0,0,false⟩]) ?_
   exact hj1 true
  ·refine oH 6 (atN 9 (ctl1 g18p1)) ((15,.bool (decide (100 < (a0.f2.length:Int)))) :: (14,.bool (decide (100 < (a0.f2.length:Int)))) :: (13,.bool (decide (100 < (a0.f2.length:Int)))) :: (12,.i (a0.f2.length:Int)) :: (11,.str a0.f2) :: (10,.ptr 0 4 2) :: (9,.bool false) :: E1) (mkH [⟨e26 a0,0,false⟩]) ?_
   refine oS 15 (fun hb=>?_) (fun hb=>?_)
   ·refine oL 6 g18p2 [(1,.i a1),(2,.ptr 0 4 0),(20,.bool true)] ?_
    exact hj1 true
   ·refine oL 6 g18p2 [(1,.i a1),(2,.ptr 0 4 0),(20,.bool (decide (500 < (a0.f3.n:Int))))] ?_
    exact hj1 (decide (500 < (a0.f3.n:Int)))
def par4 (n:Nat):Fns4:=Nat.rec (motive:=fun _=>Fns4) ⟨fun _ _=>none⟩ (fun k F=>⟨g18B k F⟩) n
theorem qIb : ∀ k, FnsOk4 (par4 k)
 | 0=>⟨(fun _ _ _ h=>nomatch h)⟩
 | k + 1=>⟨g18B_ok k (par4 k) (qIb k)⟩
def g18 (k:Nat) (a0:S25) (a1:Int):Option Int:=(par4 k).g18 a0 a1
theorem g18_ok (k:Nat):∀ (a0:S25) (a1:Int),∀ (r:Int),g18 k a0 a1 = some r → PureOk Try.prog 18 [.agg [.i a0.f0,.i a0.f1,.str a0.f2,q26 a0.f3],.i a1] (.i r):=(qIb k).g18_ok
def Xg7:Fx Bool:=⟨Try.prog,cx,Try.f7,fun r => .bool r,0,fun _=>H0,cxTi,cxOrd,fun _=>none,false⟩
def g7p1:Pt:=nav [0,0,0] (nav [0] (bodyAt Try.f7))
def g7 (k:Nat) (a0:S25):Option Bool :=
 (g18 k a0 (60:Int)).bind fun x0_1=>some (decide (x0_1 ≤ 500))
theorem g7_ok (k:Nat) (a0:S25) (r:Bool) (h:g7 k a0 = some r):PureOk Try.prog 7 [.agg [.i a0.f0,.i a0.f1,.str a0.f2,q26 a0.f3]] (.bool r):=by
 refine qA9 Xg7 (fun _=>⟨rfl,rfl⟩) Try.func7 (by decide +kernel) (by kernel_rfl) (t:=g7 k a0) ?_ h
 unfold g7
 refine qA6 (eE:=[(0,.agg [.i a0.f0,.i a0.f1,.str a0.f2,q26 a0.f3])]) (by kernel_rfl) ?_
 refine oH 8 (atN 1 (ctl1 g7p1)) [(3,n26 a0),(2,.bool false),(1,.ptr 0 4 0),(0,n26 a0)] (mkH [⟨e26 a0,0,false⟩]) ?_
 refine oA (fun (x0_1:Int) => .i x0_1) (atN 2 (ctl1 g7p1)) 4 [n26 a0,.i 60] (g18_ok k a0 (60:Int)) fun x0_1 hx0_1=>?_
 exact oQ 4
end
structure Fns5 where
 g19:S25 → Int → Option Int
structure FnsOk5 (F:Fns5):Prop where
 g19_ok:∀ (a0:S25) (a1:Int),∀ (r:Int),F.g19 a0 a1 = some r → PureOk Try.prog 19 [.agg [.i a0.f0,.i a0.f1,.str a0.f2,q26 a0.f3],.i a1] (.i r)
end Go.Proofs.Ytdaaodknplbmkaa.Am
set_option maxRecDepth 100000
set_option linter.unusedVariables false
namespace Go.Proofs.Ytdaaodknplbmkaa.Am
noncomputable section
open Go
def Xg19:Fx Int:=⟨Try.prog,cx,Try.f19,fun r => .i r,0,fun _=>H0,cxTi,cxOrd,fun _=>none,false⟩
def g19p3:Pt:=nav [0,0,0,0] (nav [0,0,0,0] (nav [0,0,0] (nav [0] (bodyAt Try.f19))))
def g19p4:Pt:=nav [0,0,0] g19p3
def g19p5:Pt:=nav [0,0] g19p4
def g19p6:Pt:=nav [1,0,0,0] g19p5
def qFw (k:Nat) (F:Fns5)  (a0:S25) (a1:Int) (ih:Int → Int → Option Int):Int → Int → Option Int :=
 fun (y1_0:Int) (y1_1:Int)=>jn (fun (z2:Bool × Int × Int)=>if z2.1 then ((nthR d26 4 a0.f3.n a0.f3.cells z2.2.2).bind fun x0_4=>(F.g19 x0_4 (fW .i64 (a1 - 1))).bind fun x0_8=>ih (maxI z2.2.1 x0_8) (fW .i64 (z2.2.2 + 1))) else (some (fW .i64 (z2.2.1 + 1)))) (fun j2=>if (decide (y1_1 < (a0.f3.n:Int))) then (j2 (decide (0 < a1),y1_0,y1_1)) else (j2 (false,y1_0,y1_1)))
def qD8 (k:Nat) (F:Fns5)  (a0:S25) (a1:Int) (n:Nat):Int → Int → Option Int:=lp (fun _ _=>none) (qFw k F a0 a1) n
theorem qGu (k:Nat) (F:Fns5)  (a0:S25) (a1:Int) (n:Nat) (y1_0:Int) (y1_1:Int):qD8 k F a0 a1 (n + 1) y1_0 y1_1 = (jn (fun (z2:Bool × Int × Int)=>if z2.1 then ((nthR d26 4 a0.f3.n a0.f3.cells z2.2.2).bind fun x0_4=>(F.g19 x0_4 (fW .i64 (a1 - 1))).bind fun x0_8=>(qD8 k F a0 a1 n) (maxI z2.2.1 x0_8) (fW .i64 (z2.2.2 + 1))) else (some (fW .i64 (z2.2.1 + 1)))) (fun j2=>if (decide (y1_1 < (a0.f3.n:Int))) then (j2 (decide (0 < a1),y1_0,y1_1)) else (j2 (false,y1_0,y1_1)))):=rfl
theorem qJ8 (k:Nat) (F:Fns5) (hF:FnsOk5 F)   (a0:S25) (a1:Int)  : ∀ (n:Nat) (y1_0:Int) (y1_1:Int),Ok Xg19 g19p3 [(1,.i a1),(2,.ptr 0 4 0),(5,.i y1_0),(6,.i y1_1)] (mkH [⟨[.i a0.f0,.i a0.f1,.str a0.f2,q26 a0.f3],0,false⟩]) (qD8 k F a0 a1 n y1_0 y1_1):=by
 intro n
 induction n with
 | zero=>intro y1_0 y1_1; exact ok_none
 | succ n ih =>
  intro y1_0 y1_1
  show Ok _ _ _ _ (qFw k F a0 a1 (qD8 k F a0 a1 n) y1_0 y1_1)
  unfold qFw
  refine qBd (p':=nav [0] g19p3) (by kernel_rfl) ?_
  refine oH 9 (atN 6 (ctl1 g19p4)) [(12,.bool (decide (y1_1 < (a0.f3.n:Int)))),(11,.bool (decide (y1_1 < (a0.f3.n:Int)))),(10,.i (a0.f3.n:Int)),(9,q26 a0.f3),(8,.ptr 0 4 3),(7,.i y1_1),(1,.i a1),(2,.ptr 0 4 0),(5,.i y1_0),(6,.i y1_1)] (mkH [⟨e26 a0,0,false⟩]) ?_
  refine oJ g19p5 (fun (z2:Bool × Int × Int)=>[(1,.i a1),(2,.ptr 0 4 0),(5,.i z2.2.1),(6,.i z2.2.2),(15,.bool z2.1)]) (fun (z2:Bool × Int × Int)=>(mkH [⟨e26 a0,0,false⟩])) (fun z2=>?_) (fun j2 hj2=>?_)
  ·refine oS 15 (fun hb=>?_) (fun hb=>?_)
   ·let E3:Env:=[(21,.i z2.2.2),(20,q26 a0.f3),(19,.ptr 0 4 3),(18,.i z2.2.1),(15,.bool true),(1,.i a1),(2,.ptr 0 4 0),(5,.i z2.2.1),(6,.i z2.2.2),(15,.bool z2.1)]
    refine oH 9 (atN 4 (ctl1 g19p6)) E3 (mkH [⟨e26 a0,0,false⟩]) ?_
    refine qBi (fun (x0_4:S25)=>(.vptr [.i x0_4.f0,.i x0_4.f1,.str x0_4.f2,q26 x0_4.f3],(mkH [⟨e26 a0,0,false⟩]))) (atN 5 (ctl1 g19p6)) (fun x0_4=>((22,.vptr [.i x0_4.f0,.i x0_4.f1,.str x0_4.f2,q26 x0_4.f3]) :: E3)) (fun _ hx=>vidxR (sz:=4) qCm hx (by kernel_rfl)) (fun _=>by kernel_rfl) (fun x0_4 hx0_4=>?_)
    refine oH 3 (atN 8 (ctl1 g19p6)) ((25,.i (fW .i64 (a1 - 1))) :: (24,.i a1) :: (23,n26 x0_4) :: (22,.vptr [.i x0_4.f0,.i x0_4.f1,.str x0_4.f2,q26 x0_4.f3]) :: E3) (mkH [⟨e26 a0,0,false⟩]) ?_
    refine oA (fun (x0_8:Int) => .i x0_8) (atN 9 (ctl1 g19p6)) 26 [n26 x0_4,.i (fW .i64 (a1 - 1))] (hF.g19_ok x0_4 (fW .i64 (a1 - 1))) fun x0_8 hx0_8=>?_
    refine oL 3 (nav [0,0] g19p6) [(1,.i a1),(2,.ptr 0 4 0),(5,.i (maxI z2.2.1 x0_8)),(6,.i z2.2.2)] ?_
    refine oL 5 g19p3 [(1,.i a1),(2,.ptr 0 4 0),(5,.i (maxI z2.2.1 x0_8)),(6,.i (fW .i64 (z2.2.2 + 1)))] ?_
    exact ih (maxI z2.2.1 x0_8) (fW .i64 (z2.2.2 + 1))
   ·exact oQ 9
  ·refine oS 12 (fun hb=>?_) (fun hb=>?_)
   ·refine oLH 4 g19p5 [(1,.i a1),(2,.ptr 0 4 0),(5,.i y1_0),(6,.i y1_1),(15,.bool (decide (0 < a1)))] (mkH [⟨e26 a0,0,false⟩]) ?_
    exact hj2 (decide (0 < a1),y1_0,y1_1)
   ·refine oLH 4 g19p5 [(1,.i a1),(2,.ptr 0 4 0),(5,.i y1_0),(6,.i y1_1),(15,.bool false)] (mkH [⟨e26 a0,0,false⟩]) ?_
    exact hj2 (false,y1_0,y1_1)
def g19B (k:Nat) (F:Fns5) (a0:S25) (a1:Int):Option Int :=
 qD8 k F a0 a1 k 0 0
theorem g19B_ok (k:Nat) (F:Fns5) (hF:FnsOk5 F) (a0:S25) (a1:Int) (r:Int) (h:g19B k F a0 a1 = some r):PureOk Try.prog 19 [.agg [.i a0.f0,.i a0.f1,.str a0.f2,q26 a0.f3],.i a1] (.i r):=by
 refine qA9 Xg19 (fun _=>⟨rfl,rfl⟩) Try.func19 (by decide +kernel) (by kernel_rfl) (t:=g19B k F a0 a1) ?_ h
 unfold g19B
 refine qA6 (eE:=[(0,.agg [.i a0.f0,.i a0.f1,.str a0.f2,q26 a0.f3]),(1,.i a1)]) (by kernel_rfl) ?_
 refine oLH 16 g19p3 [(1,.i a1),(2,.ptr 0 4 0),(5,.i 0),(6,.i 0)] (mkH [⟨e26 a0,0,false⟩]) ?_
 exact (qJ8 k F hF a0 a1 k) 0 0
def par5 (n:Nat):Fns5:=Nat.rec (motive:=fun _=>Fns5) ⟨fun _ _=>none⟩ (fun k F=>⟨g19B k F⟩) n
theorem qIa : ∀ k, FnsOk5 (par5 k)
 | 0=>⟨(fun _ _ _ h=>nomatch h)⟩
 | k + 1=>⟨g19B_ok k (par5 k) (qIa k)⟩
def g19 (k:Nat) (a0:S25) (a1:Int):Option Int:=(par5 k).g19 a0 a1
theorem g19_ok (k:Nat):∀ (a0:S25) (a1:Int),∀ (r:Int),g19 k a0 a1 = some r → PureOk Try.prog 19 [.agg [.i a0.f0,.i a0.f1,.str a0.f2,q26 a0.f3],.i a1] (.i r):=(qIa k).g19_ok
end
structure Fns6 where
 g20:S25 → Option Bool
structure FnsOk6 (F:Fns6):Prop where
 g20_ok:∀ (a0:S25),∀ (r:Bool),F.g20 a0 = some r → PureOk Try.prog 20 [.agg [.i a0.f0,.i a0.f1,.str a0.f2,q26 a0.f3]] (.bool r)
end Go.Proofs.Ytdaaodknplbmkaa.Am
set_option maxRecDepth 100000
set_option linter.unusedVariables false
namespace Go.Proofs.Ytdaaodknplbmkaa.Am
noncomputable section
open Go
def Xg20:Fx Bool:=⟨Try.prog,cx,Try.f20,fun r => .bool r,0,fun _=>H0,cxTi,cxOrd,fun _=>none,false⟩
def g20p3:Pt:=nav [0,0] (nav [0,0,0,0] (nav [0,0,0,0] (nav [0] (bodyAt Try.f20))))
def g20p6:Pt:=nav [0,0,0,0] (nav [1,0,0] g20p3)
def g20p7:Pt:=nav [0,0] (nav [2,0,0] g20p3)
def g20p9:Pt:=nav [1,0] g20p7
def g20p11:Pt:=nav [0,0] (nav [0,0,0] g20p6)
def g20p12:Pt:=nav [1,0] g20p9
def g20p15:Pt:=nav [1,0,0,0,0] g20p11
def g20p18:Pt:=nav [0,0] (nav [2,0] g20p9)
def g20p25:Pt:=nav [0,0] (nav [1,0] g20p18)
def g20p26:Pt:=nav [0,0] (nav [2,0] g20p18)
def g20p28:Pt:=nav [2,0,0,0] g20p25
def g20p29:Pt:=nav [1,0] g20p26
def g20p31:Pt:=nav [0,0,0,0] g20p28
def g20p32:Pt:=nav [0,0] g20p29
def g20p33:Pt:=nav [0,0] (nav [2,0] g20p26)
def g20p36:Pt:=nav [1,0] g20p33
def g20p38:Pt:=nav [0,0] (nav [0,0,0] g20p31)
def g20p39:Pt:=nav [0,0] g20p36
def g20p40:Pt:=nav [1,0,0,0,0] g20p38
def qFv (k:Nat) (F:Fns6)  (a0:S25) (ih:Int → Option Bool):Int → Option Bool :=
 fun (y2_0:Int)=>if (decide (y2_0 < (a0.f2.length:Int))) then ((nthS a0.f2 y2_0).bind fun x0_3=>if (decide (x0_3 = 10)) then (some false) else (ih (fW .i64 (y2_0 + 1)))) else (if (decide ((a0.f3.n:Int) = 0)) then (some (decide (a0.f1 = 0))) else (some false))
def qDz (k:Nat) (F:Fns6)  (a0:S25) (n:Nat):Int → Option Bool:=lp (fun _=>none) (qFv k F a0) n
theorem qGt (k:Nat) (F:Fns6)  (a0:S25) (n:Nat) (y2_0:Int):qDz k F a0 (n + 1) y2_0 = (if (decide (y2_0 < (a0.f2.length:Int))) then ((nthS a0.f2 y2_0).bind fun x0_3=>if (decide (x0_3 = 10)) then (some false) else ((qDz k F a0 n) (fW .i64 (y2_0 + 1)))) else (if (decide ((a0.f3.n:Int) = 0)) then (some (decide (a0.f1 = 0))) else (some false))):=rfl
theorem qJ7 (k:Nat) (F:Fns6) (hF:FnsOk6 F)   (a0:S25)  : ∀ (n:Nat) (y2_0:Int),Ok Xg20 g20p6 [(1,.ptr 0 4 0),(3,.i y2_0)] (mkH [⟨[.i a0.f0,.i a0.f1,.str a0.f2,q26 a0.f3],0,false⟩]) (qDz k F a0 n y2_0):=by
 intro n
 induction n with
 | zero=>intro y2_0; exact ok_none
 | succ n ih =>
  intro y2_0
  show Ok _ _ _ _ (qFv k F a0 (qDz k F a0 n) y2_0)
  unfold qFv
  refine qBd (p':=nav [0] g20p6) (by kernel_rfl) ?_
  let E2:Env:=[(13,.bool (decide (y2_0 < (a0.f2.length:Int)))),(12,.i (a0.f2.length:Int)),(11,.str a0.f2),(10,.ptr 0 4 2),(9,.i y2_0),(1,.ptr 0 4 0),(3,.i y2_0)]
  refine oH 9 g20p11 E2 (mkH [⟨e26 a0,0,false⟩]) ?_
  refine oS 13 (fun hb=>?_) (fun hb=>?_)
  ·refine oR 9 (atN 3 (ctl1 g20p15)) ((18,.i y2_0) :: (17,.str a0.f2) :: (16,.ptr 0 4 2) :: (13,.bool true) :: E2) ?_
   refine oC (fun (x0_3:Int)=>(.y x0_3,(mkH [⟨e26 a0,0,false⟩]))) (atN 4 (ctl1 g20p15)) 19 (idxH (by kernel_rfl)) fun x0_3 hx0_3=>?_
   refine oLH 2 (nav [0,0] g20p15) [(1,.ptr 0 4 0),(3,.i y2_0),(20,.bool (decide (x0_3 = 10)))] (mkH [⟨e26 a0,0,false⟩]) ?_
   refine oS 20 (fun hb=>?_) (fun hb=>?_)
   ·exact oQ 6
   ·refine oL 7 g20p6 [(1,.ptr 0 4 0),(3,.i (fW .i64 (y2_0 + 1)))] ?_
    exact ih (fW .i64 (y2_0 + 1))
  ·refine oR 9 (atN 5 (ctl1 (nav [2,0,0] g20p11))) ((25,.bool (decide ((a0.f3.n:Int) = 0))) :: (24,.bool (decide ((a0.f3.n:Int) = 0))) :: (23,.i (a0.f3.n:Int)) :: (22,q26 a0.f3) :: (21,.ptr 0 4 3) :: (13,.bool false) :: E2) ?_
   refine oS 25 (fun hb=>?_) (fun hb=>?_)
   ·exact oQ 7
   ·exact oQ 7
def qFu (k:Nat) (F:Fns6)  (a0:S25) (ih:Int → Option Bool):Int → Option Bool :=
 fun (y6_0:Int)=>if (decide (y6_0 < (a0.f3.n:Int))) then ((nthR d26 4 a0.f3.n a0.f3.cells y6_0).bind fun x1_3=>(F.g20 x1_3).bind fun x1_5=>if (!x1_5) then (some false) else (ih (fW .i64 (y6_0 + 1)))) else (some (eqL a0.f2 []))
def qD7 (k:Nat) (F:Fns6)  (a0:S25) (n:Nat):Int → Option Bool:=lp (fun _=>none) (qFu k F a0) n
theorem qGs (k:Nat) (F:Fns6)  (a0:S25) (n:Nat) (y6_0:Int):qD7 k F a0 (n + 1) y6_0 = (if (decide (y6_0 < (a0.f3.n:Int))) then ((nthR d26 4 a0.f3.n a0.f3.cells y6_0).bind fun x1_3=>(F.g20 x1_3).bind fun x1_5=>if (!x1_5) then (some false) else ((qD7 k F a0 n) (fW .i64 (y6_0 + 1)))) else (some (eqL a0.f2 []))):=rfl
theorem qJ6 (k:Nat) (F:Fns6) (hF:FnsOk6 F)   (a0:S25)  : ∀ (n:Nat) (y6_0:Int),Ok Xg20 g20p31 [(1,.ptr 0 4 0),(4,.i y6_0)] (mkH [⟨[.i a0.f0,.i a0.f1,.str a0.f2,q26 a0.f3],0,false⟩]) (qD7 k F a0 n y6_0):=by
 intro n
 induction n with
 | zero=>intro y6_0; exact ok_none
 | succ n ih =>
  intro y6_0
  show Ok _ _ _ _ (qFu k F a0 (qD7 k F a0 n) y6_0)
  unfold qFu
  refine qBd (p':=nav [0] g20p31) (by kernel_rfl) ?_
  let E17:Env:=[(77,.bool (decide (y6_0 < (a0.f3.n:Int)))),(76,.i (a0.f3.n:Int)),(75,q26 a0.f3),(74,.ptr 0 4 3),(73,.i y6_0),(1,.ptr 0 4 0),(4,.i y6_0)]
  refine oH 9 g20p38 E17 (mkH [⟨e26 a0,0,false⟩]) ?_
  refine oS 77 (fun hb=>?_) (fun hb=>?_)
  ·refine oR 9 (atN 3 (ctl1 g20p40)) ((82,.i y6_0) :: (81,q26 a0.f3) :: (80,.ptr 0 4 3) :: (77,.bool true) :: E17) ?_
   refine qBi (fun (x1_3:S25)=>(.vptr [.i x1_3.f0,.i x1_3.f1,.str x1_3.f2,q26 x1_3.f3],(mkH [⟨e26 a0,0,false⟩]))) (atN 4 (ctl1 g20p40)) (fun x1_3=>((83,.vptr [.i x1_3.f0,.i x1_3.f1,.str x1_3.f2,q26 x1_3.f3]) :: (82,.i y6_0) :: (81,q26 a0.f3) :: (80,.ptr 0 4 3) :: (77,.bool true) :: E17)) (fun _ hx=>vidxR (sz:=4) qCm hx (by kernel_rfl)) (fun _=>by kernel_rfl) (fun x1_3 hx1_3=>?_)
   refine oH 1 (atN 5 (ctl1 g20p40)) ((84,n26 x1_3) :: (83,.vptr [.i x1_3.f0,.i x1_3.f1,.str x1_3.f2,q26 x1_3.f3]) :: (82,.i y6_0) :: (81,q26 a0.f3) :: (80,.ptr 0 4 3) :: (77,.bool true) :: E17) (mkH [⟨e26 a0,0,false⟩]) ?_
   refine oA (fun (x1_5:Bool) => .bool x1_5) (atN 6 (ctl1 g20p40)) 85 [n26 x1_3] (hF.g20_ok x1_3) fun x1_5 hx1_5=>?_
   refine oL 2 (nav [0,0] g20p40) [(1,.ptr 0 4 0),(4,.i y6_0),(86,.bool (!x1_5))] ?_
   refine oS 86 (fun hb=>?_) (fun hb=>?_)
   ·exact oQ 6
   ·refine oL 7 g20p31 [(1,.ptr 0 4 0),(4,.i (fW .i64 (y6_0 + 1)))] ?_
    exact ih (fW .i64 (y6_0 + 1))
  ·exact oQ 10
def g20B (k:Nat) (F:Fns6) (a0:S25):Option Bool :=
 if (decide (a0.f0 = 1)) then (qDz k F a0 k 0) else (jn (fun (z3:Bool)=>if z3 then (if (eqL a0.f2 []) then (if (decide ((a0.f3.n:Int) = 0)) then (some (decide (a0.f1 = 0))) else (some false)) else (some false)) else (jn (fun (z7:Unit)=>qD7 k F a0 k 0) (fun j7=>if (decide (a0.f0 = 5)) then (if (!decide (a0.f1 = 0)) then (some false) else (j7 ())) else (if (decide (a0.f0 = 6)) then (jn (fun (z4:Bool)=>if z4 then (some false) else (j7 ())) (fun j4=>if (decide (a0.f1 < 0)) then (j4 true) else (j4 (decide (1000 < a0.f1))))) else (if (decide (a0.f0 = 7)) then (jn (fun (z5:Bool)=>if z5 then (some false) else (j7 ())) (fun j5=>if (!decide (a0.f1 = 0)) then (j5 (!decide (a0.f1 = 1))) else (j5 false))) else (some false)))))) (fun j3=>if (decide (a0.f0 = 2)) then (j3 true) else (if (decide (a0.f0 = 3)) then (j3 true) else (j3 (decide (a0.f0 = 4))))))
theorem g20B_ok (k:Nat) (F:Fns6) (hF:FnsOk6 F) (a0:S25) (r:Bool) (h:g20B k F a0 = some r):PureOk Try.prog 20 [.agg [.i a0.f0,.i a0.f1,.str a0.f2,q26 a0.f3]] (.bool r):=by
 refine qA9 Xg20 (fun _=>⟨rfl,rfl⟩) Try.func20 (by decide +kernel) (by kernel_rfl) (t:=g20B k F a0) ?_ h
 unfold g20B
 refine qA6 (eE:=[(0,.agg [.i a0.f0,.i a0.f1,.str a0.f2,q26 a0.f3])]) (by kernel_rfl) ?_
 refine oH 17 g20p3 [(7,.bool (decide (a0.f0 = 1))),(8,.bool (decide (a0.f0 = 1))),(6,.i a0.f0),(5,.ptr 0 4 0),(2,.bool false),(1,.ptr 0 4 0),(0,n26 a0)] (mkH [⟨e26 a0,0,false⟩]) ?_
 refine oS 7 (fun hb=>?_) (fun hb=>?_)
 ·refine oL 8 g20p6 [(1,.ptr 0 4 0),(3,.i 0)] ?_
  exact (qJ7 k F hF a0 k) 0
 ·refine oL 7 g20p7 [(1,.ptr 0 4 0),(6,.i a0.f0),(30,.bool (decide (a0.f0 = 2)))] ?_
  refine oJ g20p9 (fun (z3:Bool)=>[(1,.ptr 0 4 0),(6,.i a0.f0),(30,.bool z3)]) (fun (z3:Bool)=>(mkH [⟨e26 a0,0,false⟩])) (fun z3=>?_) (fun j3 hj3=>?_)
  ·refine oS 30 (fun hb=>?_) (fun hb=>?_)
   ·let E11:Env:=[(37,.bool (eqL a0.f2 [])),(36,.bool (eqL a0.f2 [])),(35,.str a0.f2),(34,.ptr 0 4 2),(30,.bool true),(1,.ptr 0 4 0),(6,.i a0.f0),(30,.bool z3)]
    refine oH 7 (atN 4 (ctl1 g20p12)) E11 (mkH [⟨e26 a0,0,false⟩]) ?_
    refine oS 37 (fun hb=>?_) (fun hb=>?_)
    ·refine oR 6 (atN 10 (ctl1 g20p12)) ((43,.bool (decide ((a0.f3.n:Int) = 0))) :: (42,.bool (decide ((a0.f3.n:Int) = 0))) :: (41,.bool (decide ((a0.f3.n:Int) = 0))) :: (40,.i (a0.f3.n:Int)) :: (39,q26 a0.f3) :: (38,.ptr 0 4 3) :: (37,.bool true) :: E11) ?_
     refine oS 43 (fun hb=>?_) (fun hb=>?_)
     ·exact oQ 7
     ·exact oQ 7
    ·exact oQ 13
   ·let E16:Env:=[(48,.bool (decide (a0.f0 = 5))),(49,.bool (decide (a0.f0 = 5))),(30,.bool false),(1,.ptr 0 4 0),(6,.i a0.f0),(30,.bool z3)]
    refine oH 6 g20p18 E16 (mkH [⟨e26 a0,0,false⟩]) ?_
    refine oJ g20p28 (fun (z7:Unit)=>[(1,.ptr 0 4 0)]) (fun (z7:Unit)=>(mkH [⟨e26 a0,0,false⟩])) (fun z7=>?_) (fun j7 hj7=>?_)
    ·refine oLH 5 g20p31 [(1,.ptr 0 4 0),(4,.i 0)] (mkH [⟨e26 a0,0,false⟩]) ?_
     exact (qJ6 k F hF a0 k) 0
    ·refine oS 48 (fun hb=>?_) (fun hb=>?_)
     ·refine oLH 7 g20p25 [(1,.ptr 0 4 0),(52,.bool (!decide (a0.f1 = 0)))] (mkH [⟨e26 a0,0,false⟩]) ?_
      refine oS 52 (fun hb=>?_) (fun hb=>?_)
      ·exact oQ 6
      ·refine oL 4 g20p28 [(1,.ptr 0 4 0)] ?_
       exact hj7 ()
     ·refine oH 6 g20p26 ((53,.bool (decide (a0.f0 = 6))) :: (54,.bool (decide (a0.f0 = 6))) :: (48,.bool false) :: E16) (mkH [⟨e26 a0,0,false⟩]) ?_
      refine oS 53 (fun hb=>?_) (fun hb=>?_)
      ·refine oR 7 (atN 4 (ctl1 g20p29)) ((58,.bool (decide (a0.f1 < 0))) :: (57,.bool (decide (a0.f1 < 0))) :: (56,.i a0.f1) :: (55,.ptr 0 4 1) :: (53,.bool true) :: (53,.bool (decide (a0.f0 = 6))) :: (54,.bool (decide (a0.f0 = 6))) :: (48,.bool false) :: E16) ?_
       refine oJ g20p32 (fun (z4:Bool)=>[(1,.ptr 0 4 0),(62,.bool z4)]) (fun (z4:Bool)=>(mkH [⟨e26 a0,0,false⟩])) (fun z4=>?_) (fun j4 hj4=>?_)
       ·refine oS 62 (fun hb=>?_) (fun hb=>?_)
        ·exact oQ 6
        ·refine oLH 4 g20p28 [(1,.ptr 0 4 0)] (mkH [⟨e26 a0,0,false⟩]) ?_
         exact hj7 ()
       ·refine oS 58 (fun hb=>?_) (fun hb=>?_)
        ·refine oLH 5 g20p32 [(1,.ptr 0 4 0),(62,.bool true)] (mkH [⟨e26 a0,0,false⟩]) ?_
         exact hj4 true
        ·refine oLH 5 g20p32 [(1,.ptr 0 4 0),(62,.bool (decide (1000 < a0.f1)))] (mkH [⟨e26 a0,0,false⟩]) ?_
         exact hj4 (decide (1000 < a0.f1))
      ·let E30:Env:=[(1,.ptr 0 4 0),(63,.bool (decide (a0.f0 = 7)))]
       refine oL 6 g20p33 E30 ?_
       refine oS 63 (fun hb=>?_) (fun hb=>?_)
       ·refine oR 7 (atN 4 (ctl1 g20p36)) ((68,.bool (!decide (a0.f1 = 0))) :: (67,.bool (!decide (a0.f1 = 0))) :: (66,.i a0.f1) :: (65,.ptr 0 4 1) :: (63,.bool true) :: E30) ?_
        refine oJ g20p39 (fun (z5:Bool)=>[(1,.ptr 0 4 0),(72,.bool z5)]) (fun (z5:Bool)=>(mkH [⟨e26 a0,0,false⟩])) (fun z5=>?_) (fun j5 hj5=>?_)
        ·refine oS 72 (fun hb=>?_) (fun hb=>?_)
         ·exact oQ 6
         ·refine oLH 4 g20p28 [(1,.ptr 0 4 0)] (mkH [⟨e26 a0,0,false⟩]) ?_
          exact hj7 ()
        ·refine oS 68 (fun hb=>?_) (fun hb=>?_)
         ·refine oLH 5 g20p39 [(1,.ptr 0 4 0),(72,.bool (!decide (a0.f1 = 1)))] (mkH [⟨e26 a0,0,false⟩]) ?_
          exact hj5 (!decide (a0.f1 = 1))
         ·refine oLH 5 g20p39 [(1,.ptr 0 4 0),(72,.bool false)] (mkH [⟨e26 a0,0,false⟩]) ?_
          exact hj5 false
       ·exact oQ 6
  ·refine oS 30 (fun hb=>?_) (fun hb=>?_)
   ·refine oLH 2 g20p9 [(1,.ptr 0 4 0),(6,.i a0.f0),(30,.bool true)] (mkH [⟨e26 a0,0,false⟩]) ?_
    exact hj3 true
   ·refine oH 6 (nav [0,0] (nav [2,0] g20p7)) ((30,.bool (decide (a0.f0 = 3))) :: (32,.bool (decide (a0.f0 = 3))) :: (30,.bool false) :: [(1,.ptr 0 4 0),(6,.i a0.f0),(30,.bool (decide (a0.f0 = 2)))]) (mkH [⟨e26 a0,0,false⟩]) ?_
    refine oS 30 (fun hb=>?_) (fun hb=>?_)
    ·refine oL 2 g20p9 [(1,.ptr 0 4 0),(6,.i a0.f0),(30,.bool true)] ?_
     exact hj3 true
    ·refine oL 5 g20p9 [(1,.ptr 0 4 0),(6,.i a0.f0),(30,.bool (decide (a0.f0 = 4)))] ?_
     exact hj3 (decide (a0.f0 = 4))
def par6 (n:Nat):Fns6:=Nat.rec (motive:=fun _=>Fns6) ⟨fun _=>none⟩ (fun k F=>⟨g20B k F⟩) n
theorem qI9 : ∀ k, FnsOk6 (par6 k)
 | 0=>⟨(fun _ _ h=>nomatch h)⟩
 | k + 1=>⟨g20B_ok k (par6 k) (qI9 k)⟩
def g20 (k:Nat) (a0:S25):Option Bool:=(par6 k).g20 a0
theorem g20_ok (k:Nat):∀ (a0:S25),∀ (r:Bool),g20 k a0 = some r → PureOk Try.prog 20 [.agg [.i a0.f0,.i a0.f1,.str a0.f2,q26 a0.f3]] (.bool r):=(qI9 k).g20_ok
end
structure Fns7 where
 g21:S25 → Option Int
structure FnsOk7 (F:Fns7):Prop where
 g21_ok:∀ (a0:S25),∀ (r:Int),F.g21 a0 = some r → PureOk Try.prog 21 [.agg [.i a0.f0,.i a0.f1,.str a0.f2,q26 a0.f3]] (.i r)
end Go.Proofs.Ytdaaodknplbmkaa.Am
set_option maxRecDepth 100000
set_option linter.unusedVariables false
namespace Go.Proofs.Ytdaaodknplbmkaa.Am
noncomputable section
open Go
def Xg21:Fx Int:=⟨Try.prog,cx,Try.f21,fun r => .i r,0,fun _=>H0,cxTi,cxOrd,fun _=>none,false⟩
def g21p3:Pt:=nav [0,0,0,0] (nav [0,0,0,0] (nav [0,0,0] (nav [0] (bodyAt Try.f21))))
def g21p5:Pt:=nav [0,0] (nav [0,0,0] g21p3)
def g21p6:Pt:=nav [1,0,0,0] g21p5
def qFt (k:Nat) (F:Fns7)  (a0:S25) (ih:Int → Int → Option Int):Int → Int → Option Int :=
 fun (y1_0:Int) (y1_1:Int)=>if (decide (y1_1 < (a0.f3.n:Int))) then ((nthR d26 4 a0.f3.n a0.f3.cells y1_1).bind fun x0_4=>(F.g21 x0_4).bind fun x0_6=>ih (fW .i64 (y1_0 + x0_6)) (fW .i64 (y1_1 + 1))) else (some y1_0)
def qDy (k:Nat) (F:Fns7)  (a0:S25) (n:Nat):Int → Int → Option Int:=lp (fun _ _=>none) (qFt k F a0) n
theorem qGr (k:Nat) (F:Fns7)  (a0:S25) (n:Nat) (y1_0:Int) (y1_1:Int):qDy k F a0 (n + 1) y1_0 y1_1 = (if (decide (y1_1 < (a0.f3.n:Int))) then ((nthR d26 4 a0.f3.n a0.f3.cells y1_1).bind fun x0_4=>(F.g21 x0_4).bind fun x0_6=>(qDy k F a0 n) (fW .i64 (y1_0 + x0_6)) (fW .i64 (y1_1 + 1))) else (some y1_0)):=rfl
theorem qJ5 (k:Nat) (F:Fns7) (hF:FnsOk7 F)   (a0:S25)  : ∀ (n:Nat) (y1_0:Int) (y1_1:Int),Ok Xg21 g21p3 [(1,.ptr 0 4 0),(3,.i y1_0),(4,.i y1_1)] (mkH [⟨[.i a0.f0,.i a0.f1,.str a0.f2,q26 a0.f3],0,false⟩]) (qDy k F a0 n y1_0 y1_1):=by
 intro n
 induction n with
 | zero=>intro y1_0 y1_1; exact ok_none
 | succ n ih =>
  intro y1_0 y1_1
  show Ok _ _ _ _ (qFt k F a0 (qDy k F a0 n) y1_0 y1_1)
  unfold qFt
  refine qBd (p':=nav [0] g21p3) (by kernel_rfl) ?_
  let E2:Env:=[(9,.bool (decide (y1_1 < (a0.f3.n:Int)))),(8,.i (a0.f3.n:Int)),(7,q26 a0.f3),(6,.ptr 0 4 3),(5,.i y1_1),(1,.ptr 0 4 0),(3,.i y1_0),(4,.i y1_1)]
  refine oH 9 g21p5 E2 (mkH [⟨e26 a0,0,false⟩]) ?_
  refine oS 9 (fun hb=>?_) (fun hb=>?_)
  ·let E3:Env:=((15,.i y1_1) :: (14,q26 a0.f3) :: (13,.ptr 0 4 3) :: (12,.i y1_0) :: (9,.bool true) :: E2)
   refine oR 9 (atN 4 (ctl1 g21p6)) E3 ?_
   refine qBi (fun (x0_4:S25)=>(.vptr [.i x0_4.f0,.i x0_4.f1,.str x0_4.f2,q26 x0_4.f3],(mkH [⟨e26 a0,0,false⟩]))) (atN 5 (ctl1 g21p6)) (fun x0_4=>((16,.vptr [.i x0_4.f0,.i x0_4.f1,.str x0_4.f2,q26 x0_4.f3]) :: E3)) (fun _ hx=>vidxR (sz:=4) qCm hx (by kernel_rfl)) (fun _=>by kernel_rfl) (fun x0_4 hx0_4=>?_)
   refine oH 1 (atN 6 (ctl1 g21p6)) ((17,n26 x0_4) :: (16,.vptr [.i x0_4.f0,.i x0_4.f1,.str x0_4.f2,q26 x0_4.f3]) :: E3) (mkH [⟨e26 a0,0,false⟩]) ?_
   refine oA (fun (x0_6:Int) => .i x0_6) (atN 7 (ctl1 g21p6)) 18 [n26 x0_4] (hF.g21_ok x0_4) fun x0_6 hx0_6=>?_
   refine oL 3 (nav [0,0] g21p6) [(1,.ptr 0 4 0),(3,.i (fW .i64 (y1_0 + x0_6))),(4,.i y1_1)] ?_
   refine oL 5 g21p3 [(1,.ptr 0 4 0),(3,.i (fW .i64 (y1_0 + x0_6))),(4,.i (fW .i64 (y1_1 + 1)))] ?_
   exact ih (fW .i64 (y1_0 + x0_6)) (fW .i64 (y1_1 + 1))
  ·exact oQ 8
def g21B (k:Nat) (F:Fns7) (a0:S25):Option Int :=
 qDy k F a0 k 1 0
theorem g21B_ok (k:Nat) (F:Fns7) (hF:FnsOk7 F) (a0:S25) (r:Int) (h:g21B k F a0 = some r):PureOk Try.prog 21 [.agg [.i a0.f0,.i a0.f1,.str a0.f2,q26 a0.f3]] (.i r):=by
 refine qA9 Xg21 (fun _=>⟨rfl,rfl⟩) Try.func21 (by decide +kernel) (by kernel_rfl) (t:=g21B k F a0) ?_ h
 unfold g21B
 refine qA6 (eE:=[(0,.agg [.i a0.f0,.i a0.f1,.str a0.f2,q26 a0.f3])]) (by kernel_rfl) ?_
 refine oLH 16 g21p3 [(1,.ptr 0 4 0),(3,.i 1),(4,.i 0)] (mkH [⟨e26 a0,0,false⟩]) ?_
 exact (qJ5 k F hF a0 k) 1 0
def par7 (n:Nat):Fns7:=Nat.rec (motive:=fun _=>Fns7) ⟨fun _=>none⟩ (fun k F=>⟨g21B k F⟩) n
theorem qI8 : ∀ k, FnsOk7 (par7 k)
 | 0=>⟨(fun _ _ h=>nomatch h)⟩
 | k + 1=>⟨g21B_ok k (par7 k) (qI8 k)⟩
def g21 (k:Nat) (a0:S25):Option Int:=(par7 k).g21 a0
theorem g21_ok (k:Nat):∀ (a0:S25),∀ (r:Int),g21 k a0 = some r → PureOk Try.prog 21 [.agg [.i a0.f0,.i a0.f1,.str a0.f2,q26 a0.f3]] (.i r):=(qI8 k).g21_ok
def Xg8:Fx Bool:=⟨Try.prog,cx,Try.f8,fun r => .bool r,0,fun _=>H0,cxTi,cxOrd,fun _=>none,false⟩
def g8p1:Pt:=nav [0,0,0] (nav [0] (bodyAt Try.f8))
def g8 (k:Nat) (a0:S25):Option Bool :=
 (g19 k a0 (200001:Int)).bind fun x0_1=>if (decide (x0_1 ≤ 200000)) then ((g20 k a0).bind fun x0_5=>if x0_5 then ((g21 k a0).bind fun x0_9=>some (decide (x0_9 ≤ 2000000))) else (some false)) else (some false)
theorem g8_ok (k:Nat) (a0:S25) (r:Bool) (h:g8 k a0 = some r):PureOk Try.prog 8 [.agg [.i a0.f0,.i a0.f1,.str a0.f2,q26 a0.f3]] (.bool r):=by
 refine qA9 Xg8 (fun _=>⟨rfl,rfl⟩) Try.func8 (by decide +kernel) (by kernel_rfl) (t:=g8 k a0) ?_ h
 unfold g8
 refine qA6 (eE:=[(0,.agg [.i a0.f0,.i a0.f1,.str a0.f2,q26 a0.f3])]) (by kernel_rfl) ?_
 refine oH 8 (atN 1 (ctl1 g8p1)) [(3,n26 a0),(2,.bool false),(1,.ptr 0 4 0),(0,n26 a0)] (mkH [⟨e26 a0,0,false⟩]) ?_
 refine oA (fun (x0_1:Int) => .i x0_1) (atN 2 (ctl1 g8p1)) 4 [n26 a0,.i 200001] (g19_ok k a0 (200001:Int)) fun x0_1 hx0_1=>?_
 let E1:Env:=[(6,.bool (decide (x0_1 ≤ 200000))),(5,.bool (decide (x0_1 ≤ 200000))),(4,.i x0_1),(3,n26 a0),(2,.bool false),(1,.ptr 0 4 0),(0,n26 a0)]
 refine oR 2 (atN 4 (ctl1 g8p1)) E1 ?_
 refine oS 6 (fun hb=>?_) (fun hb=>?_)
 ·refine oR 1 (atN 5 (ctl1 g8p1)) ((7,n26 a0) :: (6,.bool true) :: E1) ?_
  refine oA (fun (x0_5:Bool) => .bool x0_5) (atN 6 (ctl1 g8p1)) 8 [n26 a0] (g20_ok k a0) fun x0_5 hx0_5=>?_
  let E2:Env:=((10,.bool x0_5) :: (9,.bool x0_5) :: (8,.bool x0_5) :: (7,n26 a0) :: (6,.bool true) :: E1)
  refine oR 2 (atN 8 (ctl1 g8p1)) E2 ?_
  refine oS 10 (fun hb=>?_) (fun hb=>?_)
  ·refine oR 1 (atN 9 (ctl1 g8p1)) ((11,n26 a0) :: (10,.bool true) :: E2) ?_
   refine oA (fun (x0_9:Int) => .i x0_9) (atN 10 (ctl1 g8p1)) 12 [n26 a0] (g21_ok k a0) fun x0_9 hx0_9=>?_
   exact oQ 5
  ·exact oQ 7
 ·exact oQ 11
end
structure Fns10 where
 g12:S25 → Option Int
end Go.Proofs.Ytdaaodknplbmkaa.Am
set_option maxRecDepth 100000
set_option linter.unusedVariables false
namespace Go.Proofs.Ytdaaodknplbmkaa.Am
noncomputable section
open Go
def g12_l2B (k:Nat) (F:Fns10)  (a0:S25) (ih:Int → Int → Option Int):Int → Int → Option Int :=
 fun (y2_0:Int) (y2_1:Int)=>if (decide (y2_1 < (a0.f3.n:Int))) then ((nthR d26 4 a0.f3.n a0.f3.cells y2_1).bind fun x1_4=>(F.g12 x1_4).bind fun x1_6=>ih (fW .i64 (y2_0 + x1_6)) (fW .i64 (y2_1 + 1))) else (some y2_0)
def qF1 (k:Nat) (F:Fns10)  (a0:S25) (n:Nat):Int → Int → Option Int:=lp (fun _ _=>none) (g12_l2B k F a0) n
theorem qH0 (k:Nat) (F:Fns10)  (a0:S25) (n:Nat) (y2_0:Int) (y2_1:Int):qF1 k F a0 (n + 1) y2_0 y2_1 = (if (decide (y2_1 < (a0.f3.n:Int))) then ((nthR d26 4 a0.f3.n a0.f3.cells y2_1).bind fun x1_4=>(F.g12 x1_4).bind fun x1_6=>(qF1 k F a0 n) (fW .i64 (y2_0 + x1_6)) (fW .i64 (y2_1 + 1))) else (some y2_0)):=rfl
def g12B (k:Nat) (F:Fns10) (a0:S25):Option Int :=
 if (decide (a0.f0 = 1)) then ((g17 k a0.f2).bind fun x0_2=>some x0_2) else (if (decide (a0.f0 = 2)) then (some (1:Int)) else (qF1 k F a0 k 0 0))
def par10 (n:Nat):Fns10:=Nat.rec (motive:=fun _=>Fns10) ⟨fun _=>none⟩ (fun k F=>⟨g12B k F⟩) n
def g12 (k:Nat) (a0:S25):Option Int:=(par10 k).g12 a0
def g3_l7B (k:Nat)  (a0:(List S25)) (ih:Int → Option Bool):Int → Option Bool :=
 fun (y7_0:Int)=>if (decide (y7_0 < (a0.length:Int))) then ((nthL a0 y7_0).bind fun x1_2=>(g7 k x1_2).bind fun x1_4=>jn (fun (z8:Bool × Int)=>if z8.1 then ((g6 k).bind fun x3_0=>some x3_0) else ((nthL a0 z8.2).bind fun x4_2=>(g9 k x4_2).bind fun x4_4=>(nthL a0 z8.2).bind fun x5_2=>(g10 k x5_2).bind fun x5_4=>jn (fun (z9:Bool × Int)=>if z9.1 then (some false) else (ih (fW .i64 (z9.2 + 1)))) (fun j9=>if (!(eqL x4_4.1 x5_4.1)) then (j9 (true,z8.2)) else (if (!(x4_4.2 == x5_4.2)) then (j9 (true,z8.2)) else ((nthL a0 z8.2).bind fun x6_11=>(g11 k x6_11).bind fun x6_13=>(nthL a0 z8.2).bind fun x6_16=>(g12 k x6_16).bind fun x6_18=>j9 (!decide (x6_13 = x6_18),z8.2)))))) (fun j8=>if (!x1_4) then (j8 (true,y7_0)) else ((nthL a0 y7_0).bind fun x1_9=>(g8 k x1_9).bind fun x1_11=>j8 (!x1_11,y7_0)))) else ((g6 k).bind fun x2_0=>if x2_0 then ((g13 k a0).bind fun x2_3=>(g14 k a0).bind fun x2_5=>some (decide (x2_3 = x2_5))) else (some false))
def g3_l7 (k:Nat)  (a0:(List S25)) (n:Nat):Int → Option Bool:=lp (fun _=>none) (g3_l7B k a0) n
def g3 (k:Nat) (a0:(List S25)):Option Bool :=
 if (decide (5 < (a0.length:Int))) then ((g6 k).bind fun x0_0=>some x0_0) else (g3_l7 k a0 k 0)
end
structure Fns12 where
 g15:S25 → Option Bool
end Go.Proofs.Ytdaaodknplbmkaa.Am
set_option maxRecDepth 100000
set_option linter.unusedVariables false
namespace Go.Proofs.Ytdaaodknplbmkaa.Am
noncomputable section
open Go
def g15_l2B (k:Nat) (F:Fns12)  (a0:S25) (ih:Int → Option Bool):Int → Option Bool :=
 fun (y2_0:Int)=>if (decide (y2_0 < (a0.f3.n:Int))) then ((nthR d26 4 a0.f3.n a0.f3.cells y2_0).bind fun x1_3=>(F.g15 x1_3).bind fun x1_5=>if (!x1_5) then (some false) else (ih (fW .i64 (y2_0 + 1)))) else (some true)
def g15_l2 (k:Nat) (F:Fns12)  (a0:S25) (n:Nat):Int → Option Bool:=lp (fun _=>none) (g15_l2B k F a0) n
def g15B (k:Nat) (F:Fns12) (a0:S25):Option Bool :=
 (g33 k a0.f2).bind fun x0_2=>if (!x0_2) then (some false) else (g15_l2 k F a0 k 0)
def par12 (n:Nat):Fns12:=Nat.rec (motive:=fun _=>Fns12) ⟨fun _=>none⟩ (fun k F=>⟨g15B k F⟩) n
def g15 (k:Nat) (a0:S25):Option Bool:=(par12 k).g15 a0
def g4 (k:Nat) (a0:S25):Option Bool :=
 (g7 k a0).bind fun x0_1=>jn (fun (z6:Bool)=>if z6 then ((g6 k).bind fun x1_0=>some x1_0) else ((g9 k a0).bind fun x2_1=>(g11 k a0).bind fun x3_1=>(g16 k a0).bind fun x4_2=>jn (fun (z7:Bool)=>if z7 then (some false) else ((g6 k).bind fun x5_0=>if x5_0 then ((g13 k ([a0]:List S25)).bind fun x5_4=>if (decide (x5_4 ≤ x3_1)) then ((g13 k ([(⟨(3:Int),(0:Int),([]:List Nat),⟨(([]:List S25)).length,(([]:List S25)).flatMap e26⟩⟩:S25),a0]:List S25)).bind fun x5_12=>some (decide (x5_12 = 0))) else (some false)) else (some false))) (fun j7=>if (x2_1.2 == x4_2) then (j7 true) else (if x2_1.2 then ((g17 k x2_1.1).bind fun x4_8=>if (!decide (x4_8 = x3_1)) then (j7 true) else (if (!x2_1.2) then (j7 (!(eqL x2_1.1 []))) else (j7 false))) else (if (!x2_1.2) then (j7 (!(eqL x2_1.1 []))) else (j7 false)))))) (fun j6=>if (!x0_1) then (j6 true) else ((g8 k a0).bind fun x0_5=>if (!x0_5) then (j6 true) else ((g15 k a0).bind fun x0_10=>j6 (!x0_10))))
def Xg5:Fx Bool:=⟨Try.prog,cx,Try.f5,fun r => .bool r,0,fun _=>H0,cxTi,cxOrd,fun _=>none,false⟩
def g5p1:Pt:=nav [0,0,0,0] (nav [0] (bodyAt Try.f5))
def g5p2:Pt:=nav [0,0] g5p1
def g5p3:Pt:=nav [1,0] g5p2
def g5p4:Pt:=nav [2,0,0] g5p2
def g5p6:Pt:=nav [0,0,0] g5p4
def g5p7:Pt:=nav [0,0,0] g5p6
def g5p8:Pt:=nav [0,0,0] g5p7
def g5p9:Pt:=nav [0,0,0] g5p8
def g5p10:Pt:=nav [0,0,0] g5p9
def g5p11:Pt:=nav [0,0,0] g5p10
def g5d0:DP:=⟨[111,114],[(0,0,0),(1,0,0),(3,0,0),(3,0,0),(11,0,0),(27,0,0),(59,0,0),(127,0,0),(255,0,0),(511,0,0),(1023,0,0),(2047,0,0),(4095,0,0),(8191,0,0),(8191,0,0),(8191,0,0),(57343,0,0),(131071,0,0),(262143,0,0),(524287,0,0),(1048575,0,0),(2097151,1,1),(4194303,0,0),(2097151,1,2),(16777215,0,0),(2097151,1,3),(67108863,0,0),(134217727,0,0),(268435455,0,0),(536870911,0,0),(1073741823,0,0),(2147483647,0,0),(2147483647,0,0),(8589934591,0,0),(17179869183,0,0),(34359738367,0,0),(68719476735,0,0),(68719476735,0,0),(274877906943,0,0),(549755813887,0,0),(1099511627775,0,0),(2199023255551,4,4),(4398046511103,0,0),(2199023255551,4,5),(17592186044415,0,0),(35184372088831,0,0),(70368744177663,0,0),(140737488355327,0,0),(281474976710655,6,6),(281474976710655,6,6),(1125899906842623,0,0),(2251799813685247,0,0),(281474976710655,6,7),(4785074604081151,0,0),(18014398509481983,0,0),(36028797018963967,0,0),(72057594037927935,0,0),(144115188075855871,0,0)],58,thrown,[],H0⟩
def g5 (k:Nat) (a0:S25) (a1:S25):Option Bool :=
 (g7 k a0).bind fun x0_1=>jn (fun (z7:Bool)=>if z7 then ((g6 k).bind fun x1_0=>some x1_0) else ((g9 k a0).bind fun x2_1=>(g9 k a1).bind fun x3_1=>(g9 k (⟨(5:Int),(0:Int),([]:List Nat),⟨(([a0,a1]:List S25)).length,(([a0,a1]:List S25)).flatMap e26⟩⟩:S25)).bind fun x4_1=>(g9 k (⟨(6:Int),(9:Int),([]:List Nat),⟨(([a0]:List S25)).length,(([a0]:List S25)).flatMap e26⟩⟩:S25)).bind fun x5_1=>(g6 k).bind fun x6_0=>if x6_0 then (if x2_1.2 then (if (x4_1.2 == x3_1.2) then (if (!x4_1.2) then ((g11 k (⟨(5:Int),(0:Int),([]:List Nat),⟨(([a0,a1]:List S25)).length,(([a0,a1]:List S25)).flatMap e26⟩⟩:S25)).bind fun x6_22=>(g11 k a0).bind fun x6_24=>(g11 k a1).bind fun x6_26=>if (decide (x6_22 = fW .i64 (x6_24 + x6_26))) then (if (x5_1.2 == true) then (if (eqL x5_1.1 x2_1.1) then ((g11 k (⟨(6:Int),(9:Int),([]:List Nat),⟨(([a0]:List S25)).length,(([a0]:List S25)).flatMap e26⟩⟩:S25)).bind fun x6_42=>(g11 k a0).bind fun x6_44=>if (decide (x6_42 = x6_44)) then ((g13 k ([a0,a1]:List S25)).bind fun x6_51=>(g13 k ([(⟨(5:Int),(0:Int),([]:List Nat),⟨(([a0,a1]:List S25)).length,(([a0,a1]:List S25)).flatMap e26⟩⟩:S25)]:List S25)).bind fun x6_54=>some (decide (x6_51 = x6_54))) else (some false)) else (some false)) else (some false)) else (some false)) else ((catS x2_1.1 x3_1.1).bind fun x6_16=>if (eqL x4_1.1 x6_16) then ((g11 k (⟨(5:Int),(0:Int),([]:List Nat),⟨(([a0,a1]:List S25)).length,(([a0,a1]:List S25)).flatMap e26⟩⟩:S25)).bind fun x6_22=>(g11 k a0).bind fun x6_24=>(g11 k a1).bind fun x6_26=>if (decide (x6_22 = fW .i64 (x6_24 + x6_26))) then (if (x5_1.2 == true) then (if (eqL x5_1.1 x2_1.1) then ((g11 k (⟨(6:Int),(9:Int),([]:List Nat),⟨(([a0]:List S25)).length,(([a0]:List S25)).flatMap e26⟩⟩:S25)).bind fun x6_42=>(g11 k a0).bind fun x6_44=>if (decide (x6_42 = x6_44)) then ((g13 k ([a0,a1]:List S25)).bind fun x6_51=>(g13 k ([(⟨(5:Int),(0:Int),([]:List Nat),⟨(([a0,a1]:List S25)).length,(([a0,a1]:List S25)).flatMap e26⟩⟩:S25)]:List S25)).bind fun x6_54=>some (decide (x6_51 = x6_54))) else (some false)) else (some false)) else (some false)) else (some false)) else (some false))) else (some false)) else (if (x4_1.2 == false) then (if (!x4_1.2) then ((g11 k (⟨(5:Int),(0:Int),([]:List Nat),⟨(([a0,a1]:List S25)).length,(([a0,a1]:List S25)).flatMap e26⟩⟩:S25)).bind fun x6_22=>(g11 k a0).bind fun x6_24=>(g11 k a1).bind fun x6_26=>if (decide (x6_22 = fW .i64 (x6_24 + x6_26))) then (if (x5_1.2 == false) then (if (eqL x5_1.1 x2_1.1) then ((g11 k (⟨(6:Int),(9:Int),([]:List Nat),⟨(([a0]:List S25)).length,(([a0]:List S25)).flatMap e26⟩⟩:S25)).bind fun x6_42=>(g11 k a0).bind fun x6_44=>if (decide (x6_42 = x6_44)) then ((g13 k ([a0,a1]:List S25)).bind fun x6_51=>(g13 k ([(⟨(5:Int),(0:Int),([]:List Nat),⟨(([a0,a1]:List S25)).length,(([a0,a1]:List S25)).flatMap e26⟩⟩:S25)]:List S25)).bind fun x6_54=>some (decide (x6_51 = x6_54))) else (some false)) else (some false)) else (some false)) else (some false)) else ((catS x2_1.1 x3_1.1).bind fun x6_16=>if (eqL x4_1.1 x6_16) then ((g11 k (⟨(5:Int),(0:Int),([]:List Nat),⟨(([a0,a1]:List S25)).length,(([a0,a1]:List S25)).flatMap e26⟩⟩:S25)).bind fun x6_22=>(g11 k a0).bind fun x6_24=>(g11 k a1).bind fun x6_26=>if (decide (x6_22 = fW .i64 (x6_24 + x6_26))) then (if (x5_1.2 == false) then (if (eqL x5_1.1 x2_1.1) then ((g11 k (⟨(6:Int),(9:Int),([]:List Nat),⟨(([a0]:List S25)).length,(([a0]:List S25)).flatMap e26⟩⟩:S25)).bind fun x6_42=>(g11 k a0).bind fun x6_44=>if (decide (x6_42 = x6_44)) then ((g13 k ([a0,a1]:List S25)).bind fun x6_51=>(g13 k ([(⟨(5:Int),(0:Int),([]:List Nat),⟨(([a0,a1]:List S25)).length,(([a0,a1]:List S25)).flatMap e26⟩⟩:S25)]:List S25)).bind fun x6_54=>some (decide (x6_51 = x6_54))) else (some false)) else (some false)) else (some false)) else (some false)) else (some false))) else (some false))) else (some false))) (fun j7=>if (!x0_1) then (j7 true) else ((g7 k a1).bind fun x0_5=>if (!x0_5) then (j7 true) else ((g8 k a0).bind fun x0_10=>if (!x0_10) then (j7 true) else ((g8 k a1).bind fun x0_15=>j7 (!x0_15)))))
end
end Go.Proofs.Ytdaaodknplbmkaa.Am
