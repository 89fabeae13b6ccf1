/- LawFlatAsks, part 3: whatever the input, the law comes out true: our texts, joined by a tool, without what the claim does not name. -/
import Derived.Test.YtdaaodknplbmkaaPkFlatAsks2
import Derived.Below
import Derived.Test.YtdaaodknplbmkaaRows
import Derived.WalkKit
import Derived.ProofKit
import Derived.OpenShut
import Derived.ShutString
import Derived.ChangeOld
import Derived.SizedLaws
set_option maxRecDepth 100000
set_option linter.unusedVariables false
set_option linter.unusedSimpArgs false
set_option maxRecDepth 100000
set_option linter.unusedVariables false
namespace Go.Proofs.Ytdaaodknplbmkaa.Am
noncomputable section
open Go
theorem qJe (k:Nat) (F:Fns11) (hF:FnsOk11 F)   (a0:S25)  : ∀ (n:Nat) (y3_0:Int) (y3_1:Int),Ok Xg32 g32p15 [(1,.ptr 0 4 0),(4,.i y3_0),(5,.i y3_1)] (mkH [⟨[.i a0.f0,.i a0.f1,.str a0.f2,q26 a0.f3],0,false⟩]) (qD2 k F a0 n y3_0 y3_1):=by
 intro n
 induction n with
 | zero=>intro y3_0 y3_1; exact ok_none
 | succ n ih =>
  intro y3_0 y3_1
  show Ok _ _ _ _ (qFu k F a0 (qD2 k F a0 n) y3_0 y3_1)
  unfold qFu
  refine qAe (p':=nav [0] g32p15) (by kernel_rfl) ?_
  let E6:Env:=[(23,.bool (decide (y3_1 < (a0.f3.n:Int)))),(22,.i (a0.f3.n:Int)),(21,q26 a0.f3),(20,.ptr 0 4 3),(19,.i y3_1),(1,.ptr 0 4 0),(4,.i y3_0),(5,.i y3_1)]
  refine oH 9 g32p17 E6 (mkH [⟨e26 a0,0,false⟩]) ?_
  refine oS 23 (fun hb=>?_) (fun hb=>?_)
  ·refine oR 9 (atN 3 (ctl1 g32p18)) ((29,.i y3_1) :: (28,q26 a0.f3) :: (27,.ptr 0 4 3) :: (23,.bool true) :: E6) ?_
   refine qAi (fun (x1_3:S25)=>(.vptr [.i x1_3.f0,.i x1_3.f1,.str x1_3.f2,q26 x1_3.f3],(mkH [⟨e26 a0,0,false⟩]))) (atN 4 (ctl1 g32p18)) (fun x1_3=>((30,.vptr [.i x1_3.f0,.i x1_3.f1,.str x1_3.f2,q26 x1_3.f3]) :: (29,.i y3_1) :: (28,q26 a0.f3) :: (27,.ptr 0 4 3) :: (23,.bool true) :: E6)) (fun _ hx=>vidxR (sz:=4) qBa hx (by kernel_rfl)) (fun _=>by kernel_rfl) (fun x1_3 hx1_3=>?_)
   refine oH 1 (atN 5 (ctl1 g32p18)) ((31,n26 x1_3) :: (30,.vptr [.i x1_3.f0,.i x1_3.f1,.str x1_3.f2,q26 x1_3.f3]) :: (29,.i y3_1) :: (28,q26 a0.f3) :: (27,.ptr 0 4 3) :: (23,.bool true) :: E6) (mkH [⟨e26 a0,0,false⟩]) ?_
   refine oA (fun (x1_5:(Int × Bool)) => .tuple [.i x1_5.1,.bool x1_5.2]) (atN 6 (ctl1 g32p18)) 32 [n26 x1_3] (hF.g32_ok x1_3) fun x1_5 hx1_5=>?_
   let E9:Env:=[(1,.ptr 0 4 0),(4,.i y3_0),(5,.i y3_1),(6,.i x1_5.1),(7,.bool x1_5.2)]
   refine oL 7 g32p20 E9 ?_
   refine oR 10 (nav [0,0] (nav [0,0,0] g32p20)) ((38,.bool x1_5.2) :: (4,.i (fW .i64 (y3_0 + x1_5.1))) :: (37,.i (fW .i64 (y3_0 + x1_5.1))) :: (36,.i x1_5.1) :: (35,.i y3_0) :: E9) ?_
   refine oS 38 (fun hb=>?_) (fun hb=>?_)
   ·exact oQ 8
   ·refine oL 7 g32p15 [(1,.ptr 0 4 0),(4,.i (fW .i64 (y3_0 + x1_5.1))),(5,.i (fW .i64 (y3_1 + 1)))] ?_
    exact ih (fW .i64 (y3_0 + x1_5.1)) (fW .i64 (y3_1 + 1))
  ·exact oQ 9
def g32B (k:Nat) (F:Fns11) (a0:S25):Option (Int × Bool) :=
 if (decide (a0.f0 = 1)) then ((g17 k a0.f2).bind fun x0_2=>some (x0_2,false)) else (jn (fun (z2:Bool)=>if z2 then (some ((0:Int),true)) else (qD2 k F a0 k 0 0)) (fun j2=>if (decide (a0.f0 = 2)) then (j2 true) else (if (decide (a0.f0 = 3)) then (j2 true) else (j2 (decide (a0.f0 = 4))))))
theorem g32B_ok (k:Nat) (F:Fns11) (hF:FnsOk11 F) (a0:S25) (r:(Int × Bool)) (h:g32B k F a0 = some r):PureOk Try.prog 32 [.agg [.i a0.f0,.i a0.f1,.str a0.f2,q26 a0.f3]] (.tuple [.i r.1,.bool r.2]):=by
 refine qA2 Xg32 (fun _=>⟨rfl,rfl⟩) Try.func32 (by decide +kernel) (by kernel_rfl) (t:=g32B k F a0) ?_ h
 unfold g32B
 refine qA1 (eE:=[(0,.agg [.i a0.f0,.i a0.f1,.str a0.f2,q26 a0.f3])]) (by kernel_rfl) ?_
 let E1:Env:=[(10,.bool (decide (a0.f0 = 1))),(11,.bool (decide (a0.f0 = 1))),(9,.i a0.f0),(8,.ptr 0 4 0),(3,.bool false),(2,.i 0),(1,.ptr 0 4 0),(0,n26 a0)]
 refine oH 18 g32p3 E1 (mkH [⟨e26 a0,0,false⟩]) ?_
 refine oS 10 (fun hb=>?_) (fun hb=>?_)
 ·refine oR 5 (atN 2 (ctl1 g32p4)) ((13,.str a0.f2) :: (12,.ptr 0 4 2) :: (10,.bool true) :: E1) ?_
  refine oA (fun (x0_2:Int) => .i x0_2) (atN 3 (ctl1 g32p4)) 14 [.str a0.f2] (g17_ok k a0.f2) fun x0_2 hx0_2=>?_
  exact oQ 4
 ·refine oL 7 g32p7 [(1,.ptr 0 4 0),(9,.i a0.f0),(15,.bool (decide (a0.f0 = 2)))] ?_
  refine oJ g32p8 (fun (z2:Bool)=>[(1,.ptr 0 4 0),(15,.bool z2)]) (fun (z2:Bool)=>(mkH [⟨e26 a0,0,false⟩])) (fun z2=>?_) (fun j2 hj2=>?_)
  ·refine oS 15 (fun hb=>?_) (fun hb=>?_)
   ·exact oQ 7
   ·refine oLH 13 g32p15 [(1,.ptr 0 4 0),(4,.i 0),(5,.i 0)] (mkH [⟨e26 a0,0,false⟩]) ?_
    exact (qJe k F hF a0 k) 0 0
  ·refine oS 15 (fun hb=>?_) (fun hb=>?_)
   ·refine oLH 2 g32p8 [(1,.ptr 0 4 0),(15,.bool true)] (mkH [⟨e26 a0,0,false⟩]) ?_
    exact hj2 true
   ·refine oH 6 (nav [0,0] (nav [2,0] g32p7)) ((15,.bool (decide (a0.f0 = 3))) :: (17,.bool (decide (a0.f0 = 3))) :: (15,.bool false) :: [(1,.ptr 0 4 0),(9,.i a0.f0),(15,.bool (decide (a0.f0 = 2)))]) (mkH [⟨e26 a0,0,false⟩]) ?_
    refine oS 15 (fun hb=>?_) (fun hb=>?_)
    ·refine oL 2 g32p8 [(1,.ptr 0 4 0),(15,.bool true)] ?_
     exact hj2 true
    ·refine oL 5 g32p8 [(1,.ptr 0 4 0),(15,.bool (decide (a0.f0 = 4)))] ?_
     exact hj2 (decide (a0.f0 = 4))
def par11 (n:Nat):Fns11:=Nat.rec (motive:=fun _=>Fns11) ⟨fun _=>none⟩ (fun k F=>⟨g32B k F⟩) n
theorem qGk : ∀ k, FnsOk11 (par11 k)
 | 0=>⟨(fun _ _ h=>nomatch h)⟩
 | k + 1=>⟨g32B_ok k (par11 k) (qGk k)⟩
def g32 (k:Nat) (a0:S25):Option (Int × Bool):=(par11 k).g32 a0
theorem g32_ok (k:Nat):∀ (a0:S25),∀ (r:(Int × Bool)),g32 k a0 = some r → PureOk Try.prog 32 [.agg [.i a0.f0,.i a0.f1,.str a0.f2,q26 a0.f3]] (.tuple [.i r.1,.bool r.2]):=(qGk k).g32_ok
def Xg14:Fx Int:=⟨Try.prog,cx,Try.f14,fun r => .i r,0,fun _=>H0,cxTi,cxOrd,fun _=>none,false⟩
def g14p1:Pt:=nav [0,0,0] (nav [0] (bodyAt Try.f14))
def g14 (k:Nat) (a0:(List S25)):Option Int :=
 (g32 k (⟨(5:Int),(0:Int),([]:List Nat),⟨(a0).length,(a0).flatMap e26⟩⟩:S25)).bind fun x0_2=>some x0_2.1
theorem g14_ok (k:Nat) (a0:(List S25)) (r:Int) (h:g14 k a0 = some r):PureOk Try.prog 14 [w26 a0] (.i r):=by
 refine qA2 Xg14 (fun _=>⟨rfl,rfl⟩) Try.func14 (by decide +kernel) (by kernel_rfl) (t:=g14 k a0) ?_ h
 unfold g14
 refine qA1 (eE:=[(0,w26 a0)]) (by kernel_rfl) ?_
 refine oH 8 (atN 2 (ctl1 g14p1)) [(7,.agg [.i 5,.i 0,.str [],w26 a0]),(6,w26 a0),(2,.i 0),(0,w26 a0)] (mkH []) ?_
 refine oA (fun (x0_2:(Int × Bool)) => .tuple [.i x0_2.1,.bool x0_2.2]) (atN 3 (ctl1 g14p1)) 8 [.agg [.i 5,.i 0,.str [],w26 a0]] (g32_ok k (⟨(5:Int),(0:Int),([]:List Nat),⟨(a0).length,(a0).flatMap e26⟩⟩:S25)) fun x0_2 hx0_2=>?_
 refine oL 7 (nav [0,0,0] g14p1) [(3,.i x0_2.1)] ?_
 exact oQ 5
abbrev Ti1:Type:=Bool → (List Int) → Option (List Nat)
def Xi1 (a0:Bool) (b1:(List Int)):Fx (List Nat):=⟨Try.prog,cx,Try.f27,fun r => .str r,2,fun r=>(mkH [⟨[.optp a0 0 2 0,.ownt 5 1 (b1).length 1],2,false⟩,⟨(b1).flatMap e5,0,true⟩]),cxTi,cxOrd,fun _=>none,false⟩
def Pi1 (f:Ti1):Prop := ∀ a0 b1,PNh (Xi1 a0 b1) 27 [.tptr 38 2 0 2 0] (mkH [⟨[.optp a0 0 2 0,.ownt 5 1 (b1).length 1],2,false⟩,⟨(b1).flatMap e5,0,false⟩]) (f a0 b1)
def i1p1:Pt:=nav [0,0,0] (nav [0] (bodyAt Try.f27))
def i1d0:DP:=⟨[],[(0,0,0),(1,0,0),(3,0,0),(7,0,0),(15,0,0),(0,0,0),(32,0,0),(96,0,0),(224,0,1),(480,0,0),(1023,0,0),(2047,0,0)],12,thrown,[],H0⟩
def i1 (k:Nat) (a0:Bool) (b1:(List Int)):Option (List Nat) :=
 (unS b1).bind fun x0_10=>some x0_10
theorem i1_all (k:Nat):∀ a0 b1 r,i1 k a0 b1 = some r → CallT Try.prog 27 [.tptr 38 2 0 2 0] (mkH [⟨[.optp a0 0 2 0,.ownt 5 1 (b1).length 1],2,false⟩,⟨(b1).flatMap e5,0,false⟩]) ((Xi1 a0 b1).thr r) ((Xi1 a0 b1).enc r) ((Xi1 a0 b1).fin r):=by
 intro a0 b1 r h
 refine qAg (Xi1 a0 b1) Try.func27 (by kernel_rfl) (by kernel_rfl) rfl (t:=i1 k a0 b1) ?_ h
 unfold i1
 refine qA1 (eE:=[(0,.tptr 38 2 0 2 0)]) (by kernel_rfl) ?_
 let Q1:Blk:=⟨[.optp a0 0 2 0,.ownt 5 1 (b1).length 1],2,false⟩
 let Q2:Blk:=⟨(b1).flatMap e5,0,false⟩
 refine oH 5 i1p1 [(2,.str []),(0,.tptr 38 2 0 2 0)] (mkH [Q1,Q2]) ?_
 refine qBq 0 (.tptr 38 2 0 2 0) (.ptr 0 2 0) (by kernel_rfl) (by intro h; cases h) (.tptr .refl) ?_
 refine oE [(0,.ptr 0 2 0),(2,.str []),(0,.tptr 38 2 0 2 0)] ?_
 refine qAj (fun x0_10 hx0_10=>?_)
 let E1:Env:=[(12,.i (b1.length:Int)),(11,.ownt 5 1 (b1).length 1),(10,.ptr 0 2 1),(9,.ptr 0 2 0),(8,.ptr 0 2 0),(7,.odat 5 1 (b1).length 1),(6,.ownt 5 1 (b1).length 1),(5,.ptr 0 2 1),(4,.ptr 0 2 0),(3,.ptr 0 2 0),(0,.ptr 0 2 0),(2,.str []),(0,.tptr 38 2 0 2 0)]
 refine oD (H':=(mkH [Q1,⟨(b1).flatMap e5,0,true⟩])) (nav [0] i1p1) ((2,.str x0_10) :: (13,.str x0_10) :: E1) [(mkH [Q1,Q2]),(mkH [Q1,⟨(b1).flatMap e5,0,true⟩])] i1d0 (oDh 10 10 E1 (mkH [Q1,Q2]) [(mkH [Q1,Q2])] (qE4 (l':=(opsAt i1p1).toList.drop 11) (eE:=((13,.str x0_10) :: E1)) (hs:=[(mkH [Q1,⟨(b1).flatMap e5,0,true⟩])]) (x:=x0_10) (fun (x0_10:(List Nat))=>(.str x0_10,(mkH [Q1,⟨(b1).flatMap e5,0,true⟩]))) (unSH (fun _=>rfl) [Q1,Q2] 1 0 rfl rfl (Nat.zero_le _) (by kernel_rfl)) hx0_10 (by kernel_rfl) (oDr 1 12 ((2,.str x0_10) :: (13,.str x0_10) :: E1) .nil))) ?_
 exact oQF 1 [Q1,⟨(b1).flatMap e5,0,true⟩] 2 [0,1] [.str x0_10] (.str x0_10) .ps ⟨u5 _,trivial⟩
theorem i1_ok (k:Nat):Pi1 (i1 k):=fun a0 b1=>fun x h=>i1_all k a0 b1 x h
abbrev Ti8:Type:=Bool → (List Int) → Option Bool
def Xi8 (a0:Bool) (b1:(List Int)):Fx Bool:=⟨Try.prog,cx,Try.f35,fun r => .tuple [],2,fun r=>(mkH [⟨[.optp r 0 2 0,.ownt 5 1 (b1).length 1],2,false⟩,⟨(b1).flatMap e5,0,false⟩]),cxTi,cxOrd,fun _=>none,false⟩
def Pi8 (f:Ti8):Prop := ∀ a0 b1,PNh (Xi8 a0 b1) 35 [.tptr 38 2 0 2 0] (mkH [⟨[.optp a0 0 2 0,.ownt 5 1 (b1).length 1],2,false⟩,⟨(b1).flatMap e5,0,false⟩]) (f a0 b1)
def i8p0:Pt:=nav [0] (bodyAt Try.f35)
def i8p1:Pt:=nav [0,0] i8p0
def i8p2:Pt:=nav [1] i8p1
def i8p3:Pt:=nav [2,0] i8p1
def i8 (k:Nat) (a0:Bool) (b1:(List Int)):Option Bool :=
 if (!a0) then (some true) else (if (!a0) then (none) else (some a0))
theorem i8_all (k:Nat):∀ a0 b1 r,i8 k a0 b1 = some r → CallT Try.prog 35 [.tptr 38 2 0 2 0] (mkH [⟨[.optp a0 0 2 0,.ownt 5 1 (b1).length 1],2,false⟩,⟨(b1).flatMap e5,0,false⟩]) ((Xi8 a0 b1).thr r) ((Xi8 a0 b1).enc r) ((Xi8 a0 b1).fin r):=by
 intro a0 b1 r h
 refine qAg (Xi8 a0 b1) Try.func35 (by kernel_rfl) (by kernel_rfl) rfl (t:=i8 k a0 b1) ?_ h
 unfold i8
 refine qA1 (eE:=[(0,.tptr 38 2 0 2 0)]) (by kernel_rfl) ?_
 let Q1:Blk:=⟨[.optp a0 0 2 0,.ownt 5 1 (b1).length 1],2,false⟩
 let Q2:Blk:=⟨(b1).flatMap e5,0,false⟩
 refine oH 3 (atN 1 (ctl1 i8p0)) [(2,.tptr 38 2 0 2 0),(0,.tptr 38 2 0 2 0)] (mkH [Q1,Q2]) ?_
 refine qBq 2 (.tptr 38 2 0 2 0) (.ptr 0 2 0) (by kernel_rfl) (by intro h; cases h) (.tptr .refl) ?_
 let E1:Env:=[(6,.bool (!a0)),(5,.optp a0 0 2 0),(4,.ptr 0 2 0),(3,.ptr 0 2 0),(2,.ptr 0 2 0),(2,.tptr 38 2 0 2 0),(0,.tptr 38 2 0 2 0)]
 refine oR 5 i8p1 E1 ?_
 refine oS 6 (fun hb=>?_) (fun hb=>?_)
 ·refine oR 4 (atN 2 (ctl1 i8p2)) ((8,.tptr 38 2 0 2 0) :: (7,.tptr 38 2 0 2 0) :: (6,.bool true) :: E1) ?_
  refine oTU 54 (atN 3 (ctl1 i8p2)) [(9,.tptr 38 2 0 2 0),(8,.tptr 38 2 0 2 0),(7,.tptr 38 2 0 2 0),(6,.bool true),(6,.bool (!a0)),(5,.optp a0 0 2 0),(4,.ptr 0 2 0),(3,.ptr 0 2 0),(2,.ptr 0 2 0),(2,.tptr 38 2 0 2 0),(0,.tptr 38 2 0 2 0)] ?_
  refine oSm 38 (atN 4 (ctl1 i8p2)) [(10,.tptr 38 2 0 2 0),(9,.tptr 38 2 0 2 0),(8,.tptr 38 2 0 2 0),(7,.tptr 38 2 0 2 0),(6,.bool true),(6,.bool (!a0)),(5,.optp a0 0 2 0),(4,.ptr 0 2 0),(3,.ptr 0 2 0),(2,.ptr 0 2 0),(2,.tptr 38 2 0 2 0),(0,.tptr 38 2 0 2 0)] sameFn38 ?_
  refine oFU 54 38 2 0 38 (atN 5 (ctl1 i8p2)) [(11,.tptr 38 2 0 2 0),(10,.tptr 38 2 0 2 0),(9,.tptr 38 2 0 2 0),(8,.tptr 38 2 0 2 0),(7,.tptr 38 2 0 2 0),(6,.bool true),(6,.bool (!a0)),(5,.optp a0 0 2 0),(4,.ptr 0 2 0),(3,.ptr 0 2 0),(2,.ptr 0 2 0),(2,.tptr 38 2 0 2 0),(0,.tptr 38 2 0 2 0)] ?_
  refine qBq 7 (.tptr 38 2 0 2 0) (.ptr 0 2 0) (by kernel_rfl) (by intro h; cases h) (.tptr .refl) ?_
  refine oH 2 (atN 7 (ctl1 i8p2)) [(13,.ptr 0 2 0),(12,.ptr 0 2 0),(7,.ptr 0 2 0),(11,.tptr 38 2 0 2 0),(10,.tptr 38 2 0 2 0),(9,.tptr 38 2 0 2 0),(8,.tptr 38 2 0 2 0),(7,.tptr 38 2 0 2 0),(6,.bool true),(6,.bool (!a0)),(5,.optp a0 0 2 0),(4,.ptr 0 2 0),(3,.ptr 0 2 0),(2,.ptr 0 2 0),(2,.tptr 38 2 0 2 0),(0,.tptr 38 2 0 2 0)] (mkH [Q1,Q2]) ?_
  refine qBq 11 (.tptr 38 2 0 2 0) (.ptr 0 2 0) (by kernel_rfl) (by intro h; cases h) (.tptr .refl) ?_
  let Q3:Blk:=⟨[.ptr 0 2 0,.ownt 5 1 (b1).length 1],2,false⟩
  refine oH 2 .fin [(11,.ptr 0 2 0),(13,.ptr 0 2 0),(12,.ptr 0 2 0),(7,.ptr 0 2 0),(11,.tptr 38 2 0 2 0),(10,.tptr 38 2 0 2 0),(9,.tptr 38 2 0 2 0),(8,.tptr 38 2 0 2 0),(7,.tptr 38 2 0 2 0),(6,.bool true),(6,.bool (!a0)),(5,.optp a0 0 2 0),(4,.ptr 0 2 0),(3,.ptr 0 2 0),(2,.ptr 0 2 0),(2,.tptr 38 2 0 2 0),(0,.tptr 38 2 0 2 0)] (mkH [Q3,Q2]) ?_
  refine qGo [Q3,Q2] 0 2 [.ptr 0 2 0,.ownt 5 1 (b1).length 1] [.optp true 0 2 0,.ownt 5 1 (b1).length 1] (by kernel_rfl) rfl (.optT (.refl)) ?_
  refine oHp (mkH [⟨[.optp true 0 2 0,.ownt 5 1 (b1).length 1],2,false⟩,Q2]) ?_
  exact oF 2 [0,1] [] (.tuple []) .ps ⟨u5 _,trivial⟩
 ·refine oR 4 (atN 1 (ctl1 i8p3)) ((14,.tptr 38 2 0 2 0) :: (6,.bool false) :: E1) ?_
  refine qBq 14 (.tptr 38 2 0 2 0) (.ptr 0 2 0) (by kernel_rfl) (by intro h; cases h) (.tptr .refl) ?_
  refine oR 4 (atN 5 (ctl1 i8p3)) [(18,.tptr 38 2 0 2 0),(17,.optp a0 0 2 0),(16,.ptr 0 2 0),(15,.ptr 0 2 0),(14,.ptr 0 2 0),(14,.tptr 38 2 0 2 0),(6,.bool false),(6,.bool (!a0)),(5,.optp a0 0 2 0),(4,.ptr 0 2 0),(3,.ptr 0 2 0),(2,.ptr 0 2 0),(2,.tptr 38 2 0 2 0),(0,.tptr 38 2 0 2 0)] ?_
  refine qBq 18 (.tptr 38 2 0 2 0) (.ptr 0 2 0) (by kernel_rfl) (by intro h; cases h) (.tptr .refl) ?_
  refine oL 2 (nav [0,0] i8p3) [(19,.bool (!a0))] ?_
  refine oS 19 (fun hb=>?_) (fun hb=>?_)
  ·exact ok_none
  ·exact oQF 2 [Q1,Q2] 2 [0,1] [] (.tuple []) .ps ⟨u5 _,trivial⟩
theorem i8_ok (k:Nat):Pi8 (i8 k):=fun a0 b1=>fun x h=>i8_all k a0 b1 x h
abbrev Ri7:Type:=(Int × Bool × (List Int))
abbrev Ti7:Type:=(List Nat) → Bool → (List Int) → Option Ri7
def Xi7 (a0:(List Nat)) (a1:Bool) (b1:(List Int)):Fx Ri7:=⟨Try.prog,cx,Try.f25,fun r => .tuple [.i r.1,.nili],2,fun r=>(mkH [⟨[.optp r.2.1 0 2 0,.ownt 5 1 (r.2.2).length 1],2,false⟩,⟨(r.2.2).flatMap e5,0,false⟩]),cxTi,cxOrd,fun _=>none,false⟩
def Pi7 (f:Ti7):Prop := ∀ a0 a1 b1,PNh (Xi7 a0 a1 b1) 25 [.tptr 38 2 0 2 0,.str a0] (mkH [⟨[.optp a1 0 2 0,.ownt 5 1 (b1).length 1],2,false⟩,⟨(b1).flatMap e5,0,false⟩]) (f a0 a1 b1)
def i7p1:Pt:=nav [0,0,0] (nav [0] (bodyAt Try.f25))
def i7p2:Pt:=nav [0,0,0] i7p1
def i7 (k:Nat) (a0:(List Nat)) (a1:Bool) (b1:(List Int)):Option Ri7 :=
 (i8 k a1 b1).bind fun x0_1=>(appS 1 b1 (a0.map Int.ofNat)).bind fun x1_6=>some ((a0.length:Int),x0_1,x1_6)
theorem i7_all (k:Nat):∀ a0 a1 b1 r,i7 k a0 a1 b1 = some r → CallT Try.prog 25 [.tptr 38 2 0 2 0,.str a0] (mkH [⟨[.optp a1 0 2 0,.ownt 5 1 (b1).length 1],2,false⟩,⟨(b1).flatMap e5,0,false⟩]) ((Xi7 a0 a1 b1).thr r) ((Xi7 a0 a1 b1).enc r) ((Xi7 a0 a1 b1).fin r):=by
 intro a0 a1 b1 r h
 refine qAg (Xi7 a0 a1 b1) Try.func25 (by kernel_rfl) (by kernel_rfl) rfl (t:=i7 k a0 a1 b1) ?_ h
 unfold i7
 refine qA1 (eE:=[(0,.tptr 38 2 0 2 0),(1,.str a0)]) (by kernel_rfl) ?_
 let E1:Env:=[(6,.tptr 38 2 0 2 0),(5,.nili),(4,.i 0),(0,.tptr 38 2 0 2 0),(1,.str a0)]
 let Q1:Blk:=⟨(b1).flatMap e5,0,false⟩
 refine oH 8 (atN 1 (ctl1 i7p1)) E1 (mkH [⟨[.optp a1 0 2 0,.ownt 5 1 (b1).length 1],2,false⟩,Q1]) ?_
 refine oN (fun (x0_1:Bool) => .tuple []) (fun x0_1=>[⟨[.optp x0_1 0 2 0,.ownt 5 1 (b1).length 1],2,false⟩,Q1]) (atN 2 (ctl1 i7p1)) 7 [0,1] [0,1] [0,1] [.tptr 38 2 0 2 0] (i8_ok k a1 b1) ⟨u5 _,trivial⟩ (fun _=>⟨u5 _,trivial⟩) fun x0_1 hx0_1=>?_
 refine oR 5 (atN 2 (ctl1 i7p2)) ((9,.tptr 38 2 0 2 0) :: (8,.tptr 38 2 0 2 0) :: (7,.tuple []) :: E1) ?_
 refine qBq 9 (.tptr 38 2 0 2 0) (.ptr 0 2 0) (by kernel_rfl) (by intro h; cases h) (.tptr .refl) ?_
 refine oR 4 (atN 6 (ctl1 i7p2)) [(13,.str a0),(12,.ownt 5 1 (b1).length 1),(11,.ptr 0 2 1),(10,.ptr 0 2 0),(9,.ptr 0 2 0),(9,.tptr 38 2 0 2 0),(8,.tptr 38 2 0 2 0),(7,.tuple []),(6,.tptr 38 2 0 2 0),(5,.nili),(4,.i 0),(0,.tptr 38 2 0 2 0),(1,.str a0)] ?_
 let Q2:Blk:=⟨[.optp x0_1 0 2 0,.ownt 5 1 (b1).length 1],2,false⟩
 refine oC (fun (x1_6:(List Int))=>(.ownt 5 1 (x1_6).length 1,(mkH [Q2,⟨(x1_6).flatMap e5,0,false⟩]))) (atN 7 (ctl1 i7p2)) 14 (appHS 5 (fun _=>rfl) [Q2,Q1] 1 1 b1 a0 rfl rfl (by kernel_rfl)) fun x1_6 hx1_6=>?_
 refine qBq 8 (.tptr 38 2 0 2 0) (.ptr 0 2 0) (by kernel_rfl) (by intro h; cases h) (.tptr .refl) ?_
 let Q3:Blk:=⟨[.optp x0_1 0 2 0,.ownt 5 1 (x1_6).length 1],2,false⟩
 let Q4:Blk:=⟨(x1_6).flatMap e5,0,false⟩
 refine oLH 5 (nav [0,0,0] i7p2) [(1,.str a0)] (mkH [Q3,Q4]) ?_
 refine oR 7 .fin [(5,.nili),(4,.i (a0.length:Int)),(18,.i (a0.length:Int)),(17,.str a0),(1,.str a0)] ?_
 exact qIu (r:=((a0.length:Int),x0_1,x1_6)) (xs:=[.i (a0.length:Int),.nili]) [Q3,Q4] [] (by kernel_rfl) (by kernel_rfl) (by kernel_rfl) (by kernel_rfl) (by kernel_rfl) ⟨(by kernel_rfl),⟨(qA0 _ (u5 _)),trivial⟩⟩ (by kernel_rfl) (by kernel_rfl)
theorem i7_ok (k:Nat):Pi7 (i7 k):=fun a0 a1 b1=>fun x h=>i7_all k a0 a1 b1 x h
abbrev Ri9:Type:=(Bool × (List Int))
abbrev Ti9:Type:=Int → Bool → (List Int) → Option Ri9
def Xi9 (a0:Int) (a1:Bool) (b1:(List Int)):Fx Ri9:=⟨Try.prog,cx,Try.f26,fun r => .nili,2,fun r=>(mkH [⟨[.optp r.1 0 2 0,.ownt 5 1 (r.2).length 1],2,false⟩,⟨(r.2).flatMap e5,0,false⟩]),cxTi,cxOrd,fun _=>none,false⟩
def Pi9 (f:Ti9):Prop := ∀ a0 a1 b1,PNh (Xi9 a0 a1 b1) 26 [.tptr 38 2 0 2 0,.y a0] (mkH [⟨[.optp a1 0 2 0,.ownt 5 1 (b1).length 1],2,false⟩,⟨(b1).flatMap e5,0,false⟩]) (f a0 a1 b1)
def i9p1:Pt:=nav [0,0,0] (nav [0] (bodyAt Try.f26))
def i9p2:Pt:=nav [0,0,0] i9p1
def i9 (k:Nat) (a0:Int) (a1:Bool) (b1:(List Int)):Option Ri9 :=
 (i8 k a1 b1).bind fun x0_1=>(appS 1 b1 ([a0]:List Int)).bind fun x1_7=>some (x0_1,x1_7)
theorem i9_all (k:Nat):∀ a0 a1 b1 r,i9 k a0 a1 b1 = some r → CallT Try.prog 26 [.tptr 38 2 0 2 0,.y a0] (mkH [⟨[.optp a1 0 2 0,.ownt 5 1 (b1).length 1],2,false⟩,⟨(b1).flatMap e5,0,false⟩]) ((Xi9 a0 a1 b1).thr r) ((Xi9 a0 a1 b1).enc r) ((Xi9 a0 a1 b1).fin r):=by
 intro a0 a1 b1 r h
 refine qAg (Xi9 a0 a1 b1) Try.func26 (by kernel_rfl) (by kernel_rfl) rfl (t:=i9 k a0 a1 b1) ?_ h
 unfold i9
 refine qA1 (eE:=[(0,.tptr 38 2 0 2 0),(1,.y a0)]) (by kernel_rfl) ?_
 let Q1:Blk:=⟨(b1).flatMap e5,0,false⟩
 refine oH 7 (atN 1 (ctl1 i9p1)) [(5,.tptr 38 2 0 2 0),(4,.nili),(0,.tptr 38 2 0 2 0),(1,.y a0)] (mkH [⟨[.optp a1 0 2 0,.ownt 5 1 (b1).length 1],2,false⟩,Q1]) ?_
 refine oN (fun (x0_1:Bool) => .tuple []) (fun x0_1=>[⟨[.optp x0_1 0 2 0,.ownt 5 1 (b1).length 1],2,false⟩,Q1]) (atN 2 (ctl1 i9p1)) 6 [0,1] [0,1] [0,1] [.tptr 38 2 0 2 0] (i8_ok k a1 b1) ⟨u5 _,trivial⟩ (fun _=>⟨u5 _,trivial⟩) fun x0_1 hx0_1=>?_
 refine oR 5 (atN 2 (ctl1 i9p2)) [(8,.tptr 38 2 0 2 0),(7,.tptr 38 2 0 2 0),(6,.tuple []),(5,.tptr 38 2 0 2 0),(4,.nili),(0,.tptr 38 2 0 2 0),(1,.y a0)] ?_
 refine qBq 8 (.tptr 38 2 0 2 0) (.ptr 0 2 0) (by kernel_rfl) (by intro h; cases h) (.tptr .refl) ?_
 let Q2:Blk:=⟨[.optp x0_1 0 2 0,.ownt 5 1 (b1).length 1],2,false⟩
 refine oH 5 (atN 7 (ctl1 i9p2)) [(13,.slice 2 1 0 1 1),(12,.y a0),(11,.ownt 5 1 (b1).length 1),(10,.ptr 0 2 1),(9,.ptr 0 2 0),(8,.ptr 0 2 0),(8,.tptr 38 2 0 2 0),(7,.tptr 38 2 0 2 0),(6,.tuple []),(5,.tptr 38 2 0 2 0),(4,.nili),(0,.tptr 38 2 0 2 0),(1,.y a0)] (mkH [Q2,Q1,⟨[.y a0],0,false⟩]) ?_
 refine oC (fun (x1_7:(List Int))=>(.ownt 5 1 (x1_7).length 1,(mkH [Q2,⟨(x1_7).flatMap e5,0,false⟩,⟨[.y a0],0,false⟩]))) (atN 8 (ctl1 i9p2)) 14 (appHT (sz:=1) 5 e5_len rfl e5_one [Q2,Q1,⟨[.y a0],0,false⟩] 1 1 b1 ([a0]:List Int) rfl rfl (by kernel_rfl)) fun x1_7 hx1_7=>?_
 refine qBq 7 (.tptr 38 2 0 2 0) (.ptr 0 2 0) (by kernel_rfl) (by intro h; cases h) (.tptr .refl) ?_
 let Q3:Blk:=⟨[.optp x0_1 0 2 0,.ownt 5 1 (x1_7).length 1],2,false⟩
 let Q4:Blk:=⟨(x1_7).flatMap e5,0,false⟩
 refine oLH 5 (nav [0,0,0] i9p2) [] (mkH [Q3,Q4,⟨[.y a0],0,false⟩]) ?_
 refine oR 4 .fin [(4,.nili)] ?_
 exact qIu (r:=(x0_1,x1_7)) (xs:=[.nili]) [Q3,Q4] [⟨[.y a0],0,false⟩] (by kernel_rfl) (by kernel_rfl) (by kernel_rfl) (by kernel_rfl) (by kernel_rfl) ⟨(by kernel_rfl),⟨(qA0 _ (u5 _)),trivial⟩⟩ (by kernel_rfl) (by kernel_rfl)
theorem i9_ok (k:Nat):Pi9 (i9 k):=fun a0 a1 b1=>fun x h=>i9_all k a0 a1 b1 x h
abbrev Ri4:Type:=(Bool × Bool × (List Int))
abbrev Ti4:Type:=S25 → Bool → (List Int) → Option Ri4
def Xi4 (a0:S25) (a1:Bool) (b1:(List Int)):Fx Ri4:=⟨Try.prog,cx,Try.f24,fun r => .bool r.1,2,fun r=>(mkH [⟨[.optp r.2.1 0 2 0,.ownt 5 1 (r.2.2).length 1],2,false⟩,⟨(r.2.2).flatMap e5,0,false⟩]),cxTi,cxOrd,fun _=>none,false⟩
def Pi4 (f:Ti4):Prop := ∀ a0 a1 b1,PNh (Xi4 a0 a1 b1) 24 [n26 a0,.tptr 38 2 0 2 0] (mkH [⟨[.optp a1 0 2 0,.ownt 5 1 (b1).length 1],2,false⟩,⟨(b1).flatMap e5,0,false⟩]) (f a0 a1 b1)
def i4p3:Pt:=nav [0,0] (nav [0,0,0,0] (nav [0,0,0,0] (nav [0] (bodyAt Try.f24))))
def i4p4:Pt:=nav [1] i4p3
def i4p6:Pt:=nav [0,0,0] i4p4
def i4p7:Pt:=nav [0,0] (nav [2,0] i4p3)
def i4p9:Pt:=nav [1] i4p7
def i4 (k:Nat) (a0:S25) (a1:Bool) (b1:(List Int)):Option Ri4 :=
 jn (fun (z2:Bool × (List Int))=>some (true,z2.1,z2.2)) (fun j2=>if (decide (a0.f0 = 1)) then ((i7 k a0.f2 a1 b1).bind fun x0_2=>j2 (x0_2.2.1,x0_2.2.2)) else (if (decide (a0.f0 = 2)) then ((i9 k (32:Int) a1 b1).bind fun x1_0=>j2 (x1_0.1,x1_0.2)) else (j2 (a1,b1))))
theorem i4_all (k:Nat):∀ a0 a1 b1 r,i4 k a0 a1 b1 = some r → CallT Try.prog 24 [.agg [.i a0.f0,.i a0.f1,.str a0.f2,q26 a0.f3],.tptr 38 2 0 2 0] (mkH [⟨[.optp a1 0 2 0,.ownt 5 1 (b1).length 1],2,false⟩,⟨(b1).flatMap e5,0,false⟩]) ((Xi4 a0 a1 b1).thr r) ((Xi4 a0 a1 b1).enc r) ((Xi4 a0 a1 b1).fin r):=by
 intro a0 a1 b1 r h
 refine qAg (Xi4 a0 a1 b1) Try.func24 (by kernel_rfl) (by kernel_rfl) rfl (t:=i4 k a0 a1 b1) ?_ h
 unfold i4
 refine qA1 (eE:=[(0,.agg [.i a0.f0,.i a0.f1,.str a0.f2,q26 a0.f3]),(1,.tptr 38 2 0 2 0)]) (by kernel_rfl) ?_
 let E1:Env:=[(6,.bool (decide (a0.f0 = 1))),(7,.bool (decide (a0.f0 = 1))),(5,.i a0.f0),(4,.ptr 2 4 0),(3,.bool false),(2,.ptr 2 4 0),(0,n26 a0),(1,.tptr 38 2 0 2 0)]
 let Q1:Blk:=⟨[.optp a1 0 2 0,.ownt 5 1 (b1).length 1],2,false⟩
 let Q2:Blk:=⟨(b1).flatMap e5,0,false⟩
 refine oH 17 i4p3 E1 (mkH [Q1,Q2,⟨e26 a0,0,false⟩]) ?_
 refine oJ i4p6 (fun (z2:Bool × (List Int))=>[]) (fun (z2:Bool × (List Int))=>(mkH [⟨[.optp z2.1 0 2 0,.ownt 5 1 (z2.2).length 1],2,false⟩,⟨(z2.2).flatMap e5,0,false⟩])) (fun z2=>?_) (fun j2 hj2=>?_)
 ·exact oQF 4 [⟨[.optp z2.1 0 2 0,.ownt 5 1 (z2.2).length 1],2,false⟩,⟨(z2.2).flatMap e5,0,false⟩] 2 [0,1] [.bool true] (.bool true) .ps ⟨u5 _,trivial⟩
 ·refine oS 6 (fun hb=>?_) (fun hb=>?_)
  ·refine oH 4 (atN 2 (ctl1 i4p4)) ((9,.str a0.f2) :: (8,.ptr 2 4 2) :: (6,.bool true) :: E1) (mkH [Q1,Q2,⟨e26 a0,0,false⟩]) ?_
   refine oN (fun (x0_2:Ri7) => .tuple [.i x0_2.1,.nili]) (fun x0_2=>[⟨[.optp x0_2.2.1 0 2 0,.ownt 5 1 (x0_2.2.2).length 1],2,false⟩,⟨(x0_2.2.2).flatMap e5,0,false⟩,⟨e26 a0,0,false⟩]) (atN 3 (ctl1 i4p4)) 10 [0,1] [0,1] [0,1] [.tptr 38 2 0 2 0,.str a0.f2] (i7_ok k a0.f2 a1 b1) ⟨u5 _,trivial⟩ (fun _=>⟨u5 _,trivial⟩) fun x0_2 hx0_2=>?_
   refine oL 2 i4p6 [] ?_
   refine qB0 [⟨[.optp x0_2.2.1 0 2 0,.ownt 5 1 (x0_2.2.2).length 1],2,false⟩,⟨(x0_2.2.2).flatMap e5,0,false⟩] [⟨e26 a0,0,false⟩] (by kernel_rfl) rfl (by kernel_rfl) ⟨(by kernel_rfl),⟨(qA0 _ (u5 _)),trivial⟩⟩ ?_
   exact hj2 (x0_2.2.1,x0_2.2.2)
  ·refine oLH 6 i4p7 [(1,.tptr 38 2 0 2 0),(11,.bool (decide (a0.f0 = 2)))] (mkH [Q1,Q2,⟨e26 a0,0,false⟩]) ?_
   refine oS 11 (fun hb=>?_) (fun hb=>?_)
   ·refine oR 2 (atN 0 (ctl1 i4p9)) ((11,.bool true) :: [(1,.tptr 38 2 0 2 0),(11,.bool (decide (a0.f0 = 2)))]) ?_
    refine oN (fun (x1_0:Ri9) => .nili) (fun x1_0=>[⟨[.optp x1_0.1 0 2 0,.ownt 5 1 (x1_0.2).length 1],2,false⟩,⟨(x1_0.2).flatMap e5,0,false⟩,⟨e26 a0,0,false⟩]) (atN 1 (ctl1 i4p9)) 13 [0,1] [0,1] [0,1] [.tptr 38 2 0 2 0,.y 32] (i9_ok k (32:Int) a1 b1) ⟨u5 _,trivial⟩ (fun _=>⟨u5 _,trivial⟩) fun x1_0 hx1_0=>?_
    refine oL 2 i4p6 [] ?_
    refine qB0 [⟨[.optp x1_0.1 0 2 0,.ownt 5 1 (x1_0.2).length 1],2,false⟩,⟨(x1_0.2).flatMap e5,0,false⟩] [⟨e26 a0,0,false⟩] (by kernel_rfl) rfl (by kernel_rfl) ⟨(by kernel_rfl),⟨(qA0 _ (u5 _)),trivial⟩⟩ ?_
    exact hj2 (x1_0.1,x1_0.2)
   ·refine oL 3 i4p6 [] ?_
    refine qB0 [Q1,Q2] [⟨e26 a0,0,false⟩] (by kernel_rfl) rfl (by kernel_rfl) ⟨(by kernel_rfl),⟨(qA0 _ (u5 _)),trivial⟩⟩ ?_
    exact hj2 (a1,b1)
theorem i4_ok (k:Nat):Pi4 (i4 k):=fun a0 a1 b1=>fun x h=>i4_all k a0 a1 b1 x h
abbrev Ri0:Type:=(Bool × Bool × (List Int))
abbrev Ti0:Type:=S25 → Bool → (List Int) → Option Ri0
def Xi0 (a0:S25) (a1:Bool) (b1:(List Int)):Fx Ri0:=⟨Try.prog,cx,Try.f23,fun r => .bool r.1,2,fun r=>(mkH [⟨[.optp r.2.1 0 2 0,.ownt 5 1 (r.2.2).length 1],2,false⟩,⟨(r.2.2).flatMap e5,0,false⟩]),cxTi,cxOrd,fun _=>none,false⟩
def Pi0 (f:Ti0):Prop := ∀ a0 a1 b1,PNh (Xi0 a0 a1 b1) 23 [n26 a0,.func 24 [] [.tptr 38 2 0 2 0]] (mkH [⟨[.optp a1 0 2 0,.ownt 5 1 (b1).length 1],2,false⟩,⟨(b1).flatMap e5,0,false⟩]) (f a0 a1 b1)
structure Fns0 where
 i0:Ti0
structure FnsOk0 (F:Fns0):Prop where
 i0_ok:Pi0 (F.i0)
def i0p1:Pt:=nav [0,0,0,0] (nav [0] (bodyAt Try.f23))
def i0p2:Pt:=nav [0,0] i0p1
def i0p6:Pt:=nav [0,0,0,0] (nav [2,0,0,0] i0p2)
def i0p8:Pt:=nav [0,0,0] (nav [0,0] i0p6)
def i0p9:Pt:=nav [1,0,0,0,0] i0p8
def i0p11:Pt:=nav [0,0,0] i0p9
def qJ8 (k:Nat) (F:Fns0)  (a0:S25) (ih:Int → Bool → (List Int) → Option Ri0):Int → Bool → (List Int) → Option Ri0 :=
 fun (y3_0:Int) (y3_1:Bool) (y3_2:(List Int))=>if (decide (y3_0 < (a0.f3.n:Int))) then ((nthR d26 4 a0.f3.n a0.f3.cells y3_0).bind fun x1_0=>(F.i0 x1_0 y3_1 y3_2).bind fun x2_2=>if (!x2_2.1) then (some (false,x2_2.2.1,x2_2.2.2)) else (ih (fW .i64 (y3_0 + 1)) x2_2.2.1 x2_2.2.2)) else (some (true,y3_1,y3_2))
def qFo (k:Nat) (F:Fns0)  (a0:S25) (n:Nat):Int → Bool → (List Int) → Option Ri0:=lp (fun _ _ _=>none) (qJ8 k F a0) n
theorem qJ7 (k:Nat) (F:Fns0)  (a0:S25) (n:Nat) (y3_0:Int) (y3_1:Bool) (y3_2:(List Int)):qFo k F a0 (n + 1) y3_0 y3_1 y3_2 = (if (decide (y3_0 < (a0.f3.n:Int))) then ((nthR d26 4 a0.f3.n a0.f3.cells y3_0).bind fun x1_0=>(F.i0 x1_0 y3_1 y3_2).bind fun x2_2=>if (!x2_2.1) then (some (false,x2_2.2.1,x2_2.2.2)) else ((qFo k F a0 n) (fW .i64 (y3_0 + 1)) x2_2.2.1 x2_2.2.2)) else (some (true,y3_1,y3_2))):=rfl
theorem i0_l3_ok (k:Nat) (F:Fns0) (hF:FnsOk0 F) (a0:S25) (a1:Bool) (b1:(List Int))    : ∀ (n:Nat) (y3_0:Int) (y3_1:Bool) (y3_2:(List Int)),Ok (Xi0 a0 a1 b1) i0p6 [(1,.func 24 [] [.tptr 38 2 0 2 0]),(12,q26 a0.f3),(13,.i (a0.f3.n:Int)),(14,.i y3_0)] (mkH [⟨[.optp y3_1 0 2 0,.ownt 5 1 (y3_2).length 1],2,false⟩,⟨(y3_2).flatMap e5,0,false⟩]) (qFo k F a0 n y3_0 y3_1 y3_2):=by
 intro n
 induction n with
 | zero=>intro y3_0 y3_1 y3_2; exact ok_none
 | succ n ih =>
  intro y3_0 y3_1 y3_2
  show Ok _ _ _ _ (qJ8 k F a0 (qFo k F a0 n) y3_0 y3_1 y3_2)
  unfold qJ8
  refine qAe (p':=nav [0] i0p6) (by kernel_rfl) ?_
  let E3:Env:=[(15,.bool (decide (y3_0 < (a0.f3.n:Int)))),(1,.func 24 [] [.tptr 38 2 0 2 0]),(12,q26 a0.f3),(13,.i (a0.f3.n:Int)),(14,.i y3_0)]
  let Q1:Blk:=⟨[.optp y3_1 0 2 0,.ownt 5 1 (y3_2).length 1],2,false⟩
  let Q2:Blk:=⟨(y3_2).flatMap e5,0,false⟩
  refine oH 5 i0p8 E3 (mkH [Q1,Q2]) ?_
  refine oS 15 (fun hb=>?_) (fun hb=>?_)
  ·refine oR 6 (atN 0 (ctl1 i0p9)) ((15,.bool true) :: E3) ?_
   refine qAi (fun (x1_0:S25)=>(.vptr [.i x1_0.f0,.i x1_0.f1,.str x1_0.f2,q26 x1_0.f3],(mkH [Q1,Q2]))) (atN 1 (ctl1 i0p9)) (fun x1_0=>((16,.vptr [.i x1_0.f0,.i x1_0.f1,.str x1_0.f2,q26 x1_0.f3]) :: (15,.bool true) :: E3)) (fun _ hx=>vidxR (sz:=4) qBa hx (by kernel_rfl)) (fun _=>by kernel_rfl) (fun x1_0 hx1_0=>?_)
   let E4:Env:=((19,.func 24 [] [.tptr 38 2 0 2 0]) :: (18,n26 x1_0) :: (6,.ptr 2 4 0) :: (17,n26 x1_0) :: (16,.vptr [.i x1_0.f0,.i x1_0.f1,.str x1_0.f2,q26 x1_0.f3]) :: (15,.bool true) :: E3)
   refine oH 8 (atN 2 (ctl1 i0p11)) E4 (mkH [Q1,Q2,⟨e26 x1_0,4,false⟩]) ?_
   refine oN (fun (x2_2:Ri0) => .bool x2_2.1) (fun x2_2=>[⟨[.optp x2_2.2.1 0 2 0,.ownt 5 1 (x2_2.2.2).length 1],2,false⟩,⟨(x2_2.2.2).flatMap e5,0,false⟩,⟨e26 x1_0,4,false⟩]) (atN 3 (ctl1 i0p11)) 20 [0,1] [0,1] [0,1] [n26 x1_0,.func 24 [] [.tptr 38 2 0 2 0]] (hF.i0_ok x1_0 y3_1 y3_2) ⟨u5 _,trivial⟩ (fun _=>⟨u5 _,trivial⟩) fun x2_2 hx2_2=>?_
   refine oR 2 (nav [0,0] i0p11) ((21,.bool (!x2_2.1)) :: (20,.bool x2_2.1) :: E4) ?_
   refine oK [1,12,13,14,21] [(1,.func 24 [] [.tptr 38 2 0 2 0]),(12,q26 a0.f3),(13,.i (a0.f3.n:Int)),(14,.i y3_0),(21,.bool (!x2_2.1))] ?_
   refine oS 21 (fun hb=>?_) (fun hb=>?_)
   ·exact oQF 6 [⟨[.optp x2_2.2.1 0 2 0,.ownt 5 1 (x2_2.2.2).length 1],2,false⟩,⟨(x2_2.2.2).flatMap e5,0,false⟩,⟨e26 x1_0,4,false⟩] 2 [0,1] [.bool false] (.bool false) .ps ⟨u5 _,trivial⟩
   ·refine oL 6 i0p6 [(1,.func 24 [] [.tptr 38 2 0 2 0]),(12,q26 a0.f3),(13,.i (a0.f3.n:Int)),(14,.i (fW .i64 (y3_0 + 1)))] ?_
    refine qB0 [⟨[.optp x2_2.2.1 0 2 0,.ownt 5 1 (x2_2.2.2).length 1],2,false⟩,⟨(x2_2.2.2).flatMap e5,0,false⟩] [⟨e26 x1_0,4,false⟩] (by kernel_rfl) rfl (by kernel_rfl) ⟨(by kernel_rfl),⟨(qA0 _ (u5 _)),trivial⟩⟩ ?_
    exact ih (fW .i64 (y3_0 + 1)) x2_2.2.1 x2_2.2.2
  ·exact oQF 7 [Q1,Q2] 2 [0,1] [.bool true] (.bool true) .ps ⟨u5 _,trivial⟩
def i0B (k:Nat) (F:Fns0) (a0:S25) (a1:Bool) (b1:(List Int)):Option Ri0 :=
 (i4 k a0 a1 b1).bind fun x0_2=>if (!x0_2.1) then (some (false,x0_2.2.1,x0_2.2.2)) else (qFo k F a0 k 0 x0_2.2.1 x0_2.2.2)
theorem i0B_all (k:Nat) (F:Fns0) (hF:FnsOk0 F):∀ a0 a1 b1 r,i0B k F a0 a1 b1 = some r → CallT Try.prog 23 [.agg [.i a0.f0,.i a0.f1,.str a0.f2,q26 a0.f3],.func 24 [] [.tptr 38 2 0 2 0]] (mkH [⟨[.optp a1 0 2 0,.ownt 5 1 (b1).length 1],2,false⟩,⟨(b1).flatMap e5,0,false⟩]) ((Xi0 a0 a1 b1).thr r) ((Xi0 a0 a1 b1).enc r) ((Xi0 a0 a1 b1).fin r):=by
 intro a0 a1 b1 r h
 refine qAg (Xi0 a0 a1 b1) Try.func23 (by kernel_rfl) (by kernel_rfl) rfl (t:=i0B k F a0 a1 b1) ?_ h
 unfold i0B
 refine qA1 (eE:=[(0,.agg [.i a0.f0,.i a0.f1,.str a0.f2,q26 a0.f3]),(1,.func 24 [] [.tptr 38 2 0 2 0])]) (by kernel_rfl) ?_
 let E1:Env:=[(8,n26 a0),(7,.func 24 [] [.tptr 38 2 0 2 0]),(4,.bool false),(2,.ptr 2 4 0),(0,n26 a0),(1,.func 24 [] [.tptr 38 2 0 2 0])]
 refine oH 10 (atN 2 (ctl1 i0p1)) E1 (mkH [⟨[.optp a1 0 2 0,.ownt 5 1 (b1).length 1],2,false⟩,⟨(b1).flatMap e5,0,false⟩,⟨e26 a0,0,false⟩]) ?_
 refine oN (fun (x0_2:Ri4) => .bool x0_2.1) (fun x0_2=>[⟨[.optp x0_2.2.1 0 2 0,.ownt 5 1 (x0_2.2.2).length 1],2,false⟩,⟨(x0_2.2.2).flatMap e5,0,false⟩,⟨e26 a0,0,false⟩]) (atN 3 (ctl1 i0p1)) 9 [0,1] [0,1] [0,1] [n26 a0,.tptr 38 2 0 2 0] (i4_ok k a0 a1 b1) ⟨u5 _,trivial⟩ (fun _=>⟨u5 _,trivial⟩) fun x0_2 hx0_2=>?_
 refine oR 2 i0p2 ((10,.bool (!x0_2.1)) :: (9,.bool x0_2.1) :: E1) ?_
 refine oS 10 (fun hb=>?_) (fun hb=>?_)
 ·exact oQF 6 [⟨[.optp x0_2.2.1 0 2 0,.ownt 5 1 (x0_2.2.2).length 1],2,false⟩,⟨(x0_2.2.2).flatMap e5,0,false⟩,⟨e26 a0,0,false⟩] 2 [0,1] [.bool false] (.bool false) .ps ⟨u5 _,trivial⟩
 ·refine oL 12 i0p6 [(1,.func 24 [] [.tptr 38 2 0 2 0]),(12,q26 a0.f3),(13,.i (a0.f3.n:Int)),(14,.i 0)] ?_
  refine qB0 [⟨[.optp x0_2.2.1 0 2 0,.ownt 5 1 (x0_2.2.2).length 1],2,false⟩,⟨(x0_2.2.2).flatMap e5,0,false⟩] [⟨e26 a0,0,false⟩] (by kernel_rfl) rfl (by kernel_rfl) ⟨(by kernel_rfl),⟨(qA0 _ (u5 _)),trivial⟩⟩ ?_
  exact (i0_l3_ok k F hF a0 a1 b1 k) 0 x0_2.2.1 x0_2.2.2
theorem i0B_ok (k:Nat) (F:Fns0) (hF:FnsOk0 F):Pi0 (i0B k F):=fun a0 a1 b1=>fun x h=>i0B_all k F hF a0 a1 b1 x h
def par0 (n:Nat):Fns0:=Nat.rec (motive:=fun _=>Fns0) ⟨fun _ _ _=>none⟩ (fun k F=>⟨i0B k F⟩) n
theorem qIl : ∀ k, FnsOk0 (par0 k)
 | 0=>⟨(fun _ _ _ _ h=>nomatch h)⟩
 | k + 1=>⟨i0B_ok k (par0 k) (qIl k)⟩
def i0 (k:Nat):Ti0:=(par0 k).i0
theorem i0_ok (k:Nat):Pi0 (i0 k):=(qIl k).i0_ok
end
structure Fns3 where
 g22:S25 → Option Bool
structure FnsOk3 (F:Fns3):Prop where
 g22_ok:∀ (a0:S25),∀ (r:Bool),F.g22 a0 = some r → PureOk Try.prog 22 [.agg [.i a0.f0,.i a0.f1,.str a0.f2,q26 a0.f3]] (.bool r)
end Go.Proofs.Ytdaaodknplbmkaa.Am
set_option maxRecDepth 100000
set_option linter.unusedVariables false
namespace Go.Proofs.Ytdaaodknplbmkaa.Am
noncomputable section
open Go
def Xg22:Fx Bool:=⟨Try.prog,cx,Try.f22,fun r => .bool r,0,fun _=>H0,cxTi,cxOrd,fun _=>none,false⟩
def g22p1:Pt:=nav [0,0,0,0] (nav [0] (bodyAt Try.f22))
def g22p2:Pt:=nav [0,0] g22p1
def g22p6:Pt:=nav [0,0,0,0] (nav [2,0,0,0] g22p2)
def g22p8:Pt:=nav [0,0,0] (nav [0,0] g22p6)
def g22p9:Pt:=nav [1,0,0,0,0] g22p8
def g22p11:Pt:=nav [0,0,0] g22p9
def qFw (k:Nat) (F:Fns3)  (a0:S25) (ih:Int → Option Bool):Int → Option Bool :=
 fun (y3_0:Int)=>if (decide (y3_0 < (a0.f3.n:Int))) then ((nthR d26 4 a0.f3.n a0.f3.cells y3_0).bind fun x0_0=>(F.g22 x0_0).bind fun x1_1=>if x1_1 then (some true) else (ih (fW .i64 (y3_0 + 1)))) else (some false)
def qDt (k:Nat) (F:Fns3)  (a0:S25) (n:Nat):Int → Option Bool:=lp (fun _=>none) (qFw k F a0) n
theorem qH0 (k:Nat) (F:Fns3)  (a0:S25) (n:Nat) (y3_0:Int):qDt k F a0 (n + 1) y3_0 = (if (decide (y3_0 < (a0.f3.n:Int))) then ((nthR d26 4 a0.f3.n a0.f3.cells y3_0).bind fun x0_0=>(F.g22 x0_0).bind fun x1_1=>if x1_1 then (some true) else ((qDt k F a0 n) (fW .i64 (y3_0 + 1)))) else (some false)):=rfl
theorem qJg (k:Nat) (F:Fns3) (hF:FnsOk3 F)   (a0:S25)  : ∀ (n:Nat) (y3_0:Int),Ok Xg22 g22p6 [(19,q26 a0.f3),(20,.i (a0.f3.n:Int)),(21,.i y3_0)] (mkH []) (qDt k F a0 n y3_0):=by
 intro n
 induction n with
 | zero=>intro y3_0; exact ok_none
 | succ n ih =>
  intro y3_0
  show Ok _ _ _ _ (qFw k F a0 (qDt k F a0 n) y3_0)
  unfold qFw
  refine qAe (p':=nav [0] g22p6) (by kernel_rfl) ?_
  refine oH 5 g22p8 [(22,.bool (decide (y3_0 < (a0.f3.n:Int)))),(19,q26 a0.f3),(20,.i (a0.f3.n:Int)),(21,.i y3_0)] (mkH []) ?_
  refine oS 22 (fun hb=>?_) (fun hb=>?_)
  ·let E3:Env:=[(22,.bool true),(22,.bool (decide (y3_0 < (a0.f3.n:Int)))),(19,q26 a0.f3),(20,.i (a0.f3.n:Int)),(21,.i y3_0)]
   refine oR 6 (atN 0 (ctl1 g22p9)) E3 ?_
   refine qAi (fun (x0_0:S25)=>(.vptr [.i x0_0.f0,.i x0_0.f1,.str x0_0.f2,q26 x0_0.f3],(mkH []))) (atN 1 (ctl1 g22p9)) (fun x0_0=>((23,.vptr [.i x0_0.f0,.i x0_0.f1,.str x0_0.f2,q26 x0_0.f3]) :: E3)) (fun _ hx=>vidxR (sz:=4) qBa hx (by kernel_rfl)) (fun _=>by kernel_rfl) (fun x0_0 hx0_0=>?_)
   refine oH 7 (atN 1 (ctl1 g22p11)) ((25,n26 x0_0) :: (4,.ptr 0 4 0) :: (24,n26 x0_0) :: (23,.vptr [.i x0_0.f0,.i x0_0.f1,.str x0_0.f2,q26 x0_0.f3]) :: E3) (mkH [⟨e26 x0_0,4,false⟩]) ?_
   refine oA (fun (x1_1:Bool) => .bool x1_1) (atN 2 (ctl1 g22p11)) 26 [n26 x0_0] (hF.g22_ok x0_0) fun x1_1 hx1_1=>?_
   refine oR 1 (nav [0,0] g22p11) ((26,.bool x1_1) :: (25,n26 x0_0) :: (4,.ptr 0 4 0) :: (24,n26 x0_0) :: (23,.vptr [.i x0_0.f0,.i x0_0.f1,.str x0_0.f2,q26 x0_0.f3]) :: E3) ?_
   refine oS 26 (fun hb=>?_) (fun hb=>?_)
   ·exact oQ 6
   ·refine oL 6 g22p6 [(19,q26 a0.f3),(20,.i (a0.f3.n:Int)),(21,.i (fW .i64 (y3_0 + 1)))] ?_
    refine qB0 [] [⟨e26 x0_0,4,false⟩] (by kernel_rfl) rfl (by kernel_rfl) trivial ?_
    exact ih (fW .i64 (y3_0 + 1))
  ·exact oQ 7
def g22B (k:Nat) (F:Fns3) (a0:S25):Option Bool :=
 jn (fun (z2:Bool)=>if z2 then (some true) else (qDt k F a0 k 0)) (fun j2=>if (decide (a0.f0 = 4)) then (j2 true) else (if (decide (a0.f0 = 7)) then (j2 (decide (a0.f1 = 1))) else (j2 false)))
theorem g22B_ok (k:Nat) (F:Fns3) (hF:FnsOk3 F) (a0:S25) (r:Bool) (h:g22B k F a0 = some r):PureOk Try.prog 22 [.agg [.i a0.f0,.i a0.f1,.str a0.f2,q26 a0.f3]] (.bool r):=by
 refine qA2 Xg22 (fun _=>⟨rfl,rfl⟩) Try.func22 (by decide +kernel) (by kernel_rfl) (t:=g22B k F a0) ?_ h
 unfold g22B
 refine qA1 (eE:=[(0,.agg [.i a0.f0,.i a0.f1,.str a0.f2,q26 a0.f3])]) (by kernel_rfl) ?_
 let E1:Env:=[(8,.bool (decide (a0.f0 = 4))),(7,.bool (decide (a0.f0 = 4))),(6,.i a0.f0),(5,.ptr 0 4 0),(2,.bool false),(1,.ptr 0 4 0),(0,n26 a0)]
 refine oH 12 (atN 4 (ctl1 g22p1)) E1 (mkH [⟨e26 a0,0,false⟩]) ?_
 refine oJ g22p2 (fun (z2:Bool)=>[(1,.ptr 0 4 0),(17,.bool z2)]) (fun (z2:Bool)=>(mkH [⟨e26 a0,0,false⟩])) (fun z2=>?_) (fun j2 hj2=>?_)
 ·refine oS 17 (fun hb=>?_) (fun hb=>?_)
  ·exact oQ 6
  ·refine oLH 12 g22p6 [(19,q26 a0.f3),(20,.i (a0.f3.n:Int)),(21,.i 0)] (mkH [⟨e26 a0,0,false⟩]) ?_
   refine qB0 [] [⟨e26 a0,0,false⟩] (by kernel_rfl) rfl (by kernel_rfl) trivial ?_
   exact (qJg k F hF a0 k) 0
 ·refine oS 8 (fun hb=>?_) (fun hb=>?_)
  ·refine oLH 10 g22p2 [(1,.ptr 0 4 0),(17,.bool true)] (mkH [⟨e26 a0,0,false⟩]) ?_
   exact hj2 true
  ·refine oH 4 (atN 8 (ctl1 g22p1)) ((12,.bool (decide (a0.f0 = 7))) :: (11,.bool (decide (a0.f0 = 7))) :: (10,.i a0.f0) :: (9,.ptr 0 4 0) :: (8,.bool false) :: E1) (mkH [⟨e26 a0,0,false⟩]) ?_
   refine oS 12 (fun hb=>?_) (fun hb=>?_)
   ·refine oL 6 g22p2 [(1,.ptr 0 4 0),(17,.bool (decide (a0.f1 = 1)))] ?_
    exact hj2 (decide (a0.f1 = 1))
   ·refine oL 6 g22p2 [(1,.ptr 0 4 0),(17,.bool false)] ?_
    exact hj2 false
def par3 (n:Nat):Fns3:=Nat.rec (motive:=fun _=>Fns3) ⟨fun _=>none⟩ (fun k F=>⟨g22B k F⟩) n
theorem qIi : ∀ k, FnsOk3 (par3 k)
 | 0=>⟨(fun _ _ h=>nomatch h)⟩
 | k + 1=>⟨g22B_ok k (par3 k) (qIi k)⟩
def g22 (k:Nat) (a0:S25):Option Bool:=(par3 k).g22 a0
theorem g22_ok (k:Nat):∀ (a0:S25),∀ (r:Bool),g22 k a0 = some r → PureOk Try.prog 22 [.agg [.i a0.f0,.i a0.f1,.str a0.f2,q26 a0.f3]] (.bool r):=(qIi k).g22_ok
def Xg9:Fx ((List Nat) × Bool):=⟨Try.prog,cx,Try.f9,fun r => .tuple [.str r.1,.bool r.2],0,fun _=>H0,cxTi,cxOrd,fun _=>none,false⟩
def g9p1:Pt:=nav [0,0,0,0] (nav [0] (bodyAt Try.f9))
def g9p2:Pt:=nav [0,0] g9p1
def g9p4:Pt:=nav [2,0,0] g9p2
def g9p6:Pt:=nav [0,0,0] g9p4
def g9p7:Pt:=nav [0,0,0] g9p6
def g9 (k:Nat) (a0:S25):Option ((List Nat) × Bool) :=
 (g22 k a0).bind fun x0_1=>if x0_1 then (some (([]:List Nat),false)) else ((i0 k a0 false ([]:List Int)).bind fun x1_2=>(i1 k x1_2.2.1 x1_2.2.2).bind fun x2_0=>some (x2_0,true))
theorem g9_ok (k:Nat) (a0:S25) (r:((List Nat) × Bool)) (h:g9 k a0 = some r):PureOk Try.prog 9 [.agg [.i a0.f0,.i a0.f1,.str a0.f2,q26 a0.f3]] (.tuple [.str r.1,.bool r.2]):=by
 refine qA2 Xg9 (fun _=>⟨rfl,rfl⟩) Try.func9 (by decide +kernel) (by kernel_rfl) (t:=g9 k a0) ?_ h
 unfold g9
 refine qA1 (eE:=[(0,.agg [.i a0.f0,.i a0.f1,.str a0.f2,q26 a0.f3])]) (by kernel_rfl) ?_
 let E1:Env:=[(5,n26 a0),(3,.bool false),(2,.str []),(1,.ptr 0 4 0),(0,n26 a0)]
 refine oH 10 (atN 1 (ctl1 g9p1)) E1 (mkH [⟨e26 a0,0,false⟩]) ?_
 refine oA (fun (x0_1:Bool) => .bool x0_1) (atN 2 (ctl1 g9p1)) 6 [n26 a0] (g22_ok k a0) fun x0_1 hx0_1=>?_
 refine oR 1 g9p2 ((6,.bool x0_1) :: E1) ?_
 refine oS 6 (fun hb=>?_) (fun hb=>?_)
 ·exact oQ 7
 ·refine oR 4 (atN 0 (ctl1 g9p4)) ((6,.bool false) :: (6,.bool x0_1) :: E1) ?_
  refine oAl (atN 1 (ctl1 g9p4)) [(4,.tptr 38 2 1 2 0),(6,.bool false),(6,.bool x0_1),(5,n26 a0),(3,.bool false),(2,.str []),(1,.ptr 0 4 0),(0,n26 a0)] (mkH [⟨e26 a0,0,false⟩,⟨[.nilp,.nils],0,false⟩]) ?_
  refine ok_ghost [⟨e26 a0,0,false⟩,⟨[.nilp,.nils],0,false⟩] (by kernel_rfl) ?_
  let Q1:Blk:=⟨(([]:List Int)).flatMap e5,0,false⟩
  let K1:List Blk:=[⟨e26 a0,0,false⟩,⟨[.nilp,.nils],0,false⟩,Q1]
  refine oHp (mkH K1) ?_
  refine qGo K1 1 0 [.nilp,.nils] [.optp false 1 2 0,.ownt 5 2 (([]:List Int)).length 1] (by kernel_rfl) rfl (.optF (.nont .refl)) ?_
  let E2:Env:=[(8,.func 24 [] [.tptr 38 2 1 2 0]),(7,n26 a0),(4,.tptr 38 2 1 2 0),(6,.bool false),(6,.bool x0_1),(5,n26 a0),(3,.bool false),(2,.str []),(1,.ptr 0 4 0),(0,n26 a0)]
  refine oH 5 (atN 2 (ctl1 g9p6)) E2 (mkH [⟨e26 a0,0,false⟩,⟨[.optp false 1 2 0,.ownt 5 2 (([]:List Int)).length 1],0,false⟩,Q1]) ?_
  refine qGp (fun (x1_2:Ri0) => .bool x1_2.1) (fun (x1_2:Ri0)=>(mkH [⟨e26 a0,0,false⟩,⟨[.optp x1_2.2.1 1 2 0,.ownt 5 2 (x1_2.2.2).length 1],2,false⟩,⟨(x1_2.2.2).flatMap e5,0,false⟩])) (atN 3 (ctl1 g9p6)) (fun x1_2=>((9,.bool x1_2.1) :: E2)) (fi:=23) (args:=[n26 a0,.func 24 [] [.tptr 38 2 1 2 0]]) (by kernel_rfl) (fun x1_2 h=>frW 0 [⟨e26 a0,0,false⟩,⟨[.optp false 1 2 0,.ownt 5 2 (([]:List Int)).length 1],2,false⟩,Q1] (rs:=[1,2]) (ms:=[0,1]) (ms':=[0,1]) (mv:=[0,0,1]) (xs':=[n26 a0,.func 24 [] [.tptr 38 2 1 2 0]]) (.refl) (i0_ok k a0 false ([]:List Int) x1_2 h) ⟨u5 _,trivial⟩ ⟨u5 _,trivial⟩ (by kernel_rfl)) (fun _=>by kernel_rfl) (fun x1_2 hx1_2=>?_)
  let Q2:Blk:=⟨[.optp x1_2.2.1 1 2 0,.ownt 5 2 (x1_2.2.2).length 1],2,false⟩
  refine oLH 2 g9p7 [(4,.tptr 38 2 1 2 0)] (mkH [⟨e26 a0,0,false⟩,Q2,⟨(x1_2.2.2).flatMap e5,0,false⟩]) ?_
  refine oR 1 (atN 0 (ctl1 g9p7)) [(4,.tptr 38 2 1 2 0)] ?_
  refine oN (fun (x2_0:(List Nat)) => .str x2_0) (fun x2_0=>[⟨e26 a0,0,false⟩,Q2,⟨(x1_2.2.2).flatMap e5,0,true⟩]) (atN 1 (ctl1 g9p7)) 10 [1,2] [0,1] [0,1] [.tptr 38 2 1 2 0] (i1_ok k x1_2.2.1 x1_2.2.2) ⟨u5 _,trivial⟩ (fun _=>⟨u5 _,trivial⟩) fun x2_0 hx2_0=>?_
  exact oQ 4
def Xg6:Fx Bool:=⟨Try.prog,cx,Try.f6,fun r => .bool r,0,fun _=>H0,cxTi,cxOrd,fun _=>none,false⟩
def g6c0:List S25:=[(⟨(1:Int),(0:Int),([97,195,169]:List Nat),⟨(([]:List S25)).length,(([]:List S25)).flatMap e26⟩⟩:S25),(⟨(2:Int),(0:Int),([]:List Nat),⟨(([]:List S25)).length,(([]:List S25)).flatMap e26⟩⟩:S25),(⟨(1:Int),(0:Int),([97,195,169]:List Nat),⟨(([]:List S25)).length,(([]:List S25)).flatMap e26⟩⟩:S25)]
def g6c1:List Nat:=[97,195,169,32,97,195,169]
def g6c2:List S25:=[(⟨(1:Int),(0:Int),([97,195,169]:List Nat),⟨(([]:List S25)).length,(([]:List S25)).flatMap e26⟩⟩:S25),(⟨(7:Int),(0:Int),([]:List Nat),⟨(g6c0).length,(g6c0).flatMap e26⟩⟩:S25),(⟨(1:Int),(0:Int),([97,195,169]:List Nat),⟨(([]:List S25)).length,(([]:List S25)).flatMap e26⟩⟩:S25)]
def g6p2:Pt:=nav [0,0,0] (nav [0,0,0] (nav [0] (bodyAt Try.f6)))
def g6p3:Pt:=nav [0,0,0] g6p2
def g6p4:Pt:=nav [0,0,0] g6p3
def g6p5:Pt:=nav [0,0,0] g6p4
def g6 (k:Nat)  : Option Bool :=
 (g9 k (⟨(7:Int),(0:Int),([]:List Nat),⟨(g6c0).length,(g6c0).flatMap e26⟩⟩:S25)).bind fun x0_1=>(g9 k (⟨(4:Int),(0:Int),([]:List Nat),⟨0,[]⟩⟩:S25)).bind fun x1_1=>if x0_1.2 then (if (eqL x0_1.1 g6c1) then (if (!x1_1.2) then ((g11 k (⟨(7:Int),(0:Int),([]:List Nat),⟨(g6c0).length,(g6c0).flatMap e26⟩⟩:S25)).bind fun x2_11=>if (decide (x2_11 = 5)) then ((g13 k g6c2).bind fun x2_19=>some (decide (x2_19 = 4))) else (some false)) else (some false)) else (some false)) else (some false)
theorem g6_ok (k:Nat)  (r:Bool) (h:g6 k  = some r):PureOk Try.prog 6 [] (.bool r):=by
 refine qA2 Xg6 (fun _=>⟨rfl,rfl⟩) Try.func6 (by decide +kernel) (by kernel_rfl) (t:=g6 k ) ?_ h
 unfold g6
 refine qA1 (eE:=[]) (by kernel_rfl) ?_
 let Q1:Blk:=⟨[.i 1,.i 0,.str [97,195,169],.nils],4,false⟩
 let Q2:Blk:=⟨[.i 2,.i 0,.str [],.nils],4,false⟩
 let Q3:Blk:=⟨[.i 1,.i 0,.str [97,195,169],.nils,.i 2,.i 0,.str [],.nils,.i 1,.i 0,.str [97,195,169],.nils],0,false⟩
 refine oH 19 (atN 4 (ctl1 g6p2)) [(13,.slice 2 12 0 3 4),(12,.agg [.i 1,.i 0,.str [97,195,169],.nils]),(11,.agg [.i 2,.i 0,.str [],.nils]),(10,.agg [.i 1,.i 0,.str [97,195,169],.nils]),(2,.ptr 1 4 0),(1,.ptr 0 4 0),(9,.agg [.i 2,.i 0,.str [],.nils]),(8,.agg [.i 1,.i 0,.str [97,195,169],.nils]),(0,.bool false)] (mkH [Q1,Q2,Q3]) ?_
 refine qGo [Q1,Q2,Q3] 2 0 [.i 1,.i 0,.str [97,195,169],.nils,.i 2,.i 0,.str [],.nils,.i 1,.i 0,.str [97,195,169],.nils] [.i 1,.i 0,.str [97,195,169],w26 ([]:List S25),.i 2,.i 0,.str [],w26 ([]:List S25),.i 1,.i 0,.str [97,195,169],w26 ([]:List S25)] (by kernel_rfl) rfl (.cons (.cons (.cons (.nil (.cons (.cons (.cons (.nil (.cons (.cons (.cons (.nil (.refl))))))))))))) ?_
 refine oHp (mkH [Q1,Q2,⟨[.i 1,.i 0,.str [97,195,169],w26 ([]:List S25),.i 2,.i 0,.str [],w26 ([]:List S25),.i 1,.i 0,.str [97,195,169],w26 ([]:List S25)],0,false⟩]) ?_
 refine oZ 13 2 3 4 [.i 1,.i 0,.str [97,195,169],w26 ([]:List S25),.i 2,.i 0,.str [],w26 ([]:List S25),.i 1,.i 0,.str [97,195,169],w26 ([]:List S25)] [0,1,2,8,9,10,11,12] [] trivial ?_
 let E3:Env:=[(1,.ptr 0 4 0),(3,.ptr 3 4 0)]
 let Q4:Blk:=⟨[.i 7,.i 0,.str [],w26 g6c0],4,false⟩
 refine oLH 5 g6p3 E3 (mkH [Q1,Q2,⟨[],0,false⟩,Q4]) ?_
 refine oR 2 (atN 1 (ctl1 g6p3)) ((16,.agg [.i 7,.i 0,.str [],w26 g6c0]) :: E3) ?_
 refine oA (fun (x0_1:((List Nat) × Bool)) => .tuple [.str x0_1.1,.bool x0_1.2]) (atN 2 (ctl1 g6p3)) 17 [.agg [.i 7,.i 0,.str [],w26 g6c0]] (g9_ok k (⟨(7:Int),(0:Int),([]:List Nat),⟨(g6c0).length,(g6c0).flatMap e26⟩⟩:S25)) fun x0_1 hx0_1=>?_
 let E4:Env:=((21,.agg [.i 4,.i 0,.str [],.nils]) :: (5,.bool x0_1.2) :: (4,.str x0_1.1) :: (19,.bool x0_1.2) :: (18,.str x0_1.1) :: (15,.tuple [.str x0_1.1,.bool x0_1.2]) :: (17,.tuple [.str x0_1.1,.bool x0_1.2]) :: (16,.agg [.i 7,.i 0,.str [],w26 g6c0]) :: E3)
 refine oR 9 (atN 1 (ctl1 g6p4)) E4 ?_
 refine ok_callV (fun (x1_1:((List Nat) × Bool)) => .tuple [.str x1_1.1,.bool x1_1.2]) (atN 2 (ctl1 g6p4)) (fun x1_1=>((22,.tuple [.str x1_1.1,.bool x1_1.2]) :: E4)) (fi:=9) (args:=[.agg [.i 4,.i 0,.str [],.nils]]) (by kernel_rfl) (fun r h=>dry_call (xs':=[.agg [.i 4,.i 0,.str [],.vec 0 4 []]]) (g9_ok k (⟨(4:Int),(0:Int),([]:List Nat),⟨0,[]⟩⟩:S25) r h) (.agg (.cons (by kernel_rfl) (.cons (by kernel_rfl) (.cons (by kernel_rfl) (.nil (.pures (by kernel_rfl)))))) (.pures (by kernel_rfl))) (by kernel_rfl)) (fun _=>by kernel_rfl) (fun x1_1 hx1_1=>?_)
 let E6:Env:=[(1,.ptr 0 4 0),(3,.ptr 3 4 0),(4,.str x0_1.1),(5,.bool x0_1.2),(7,.bool x1_1.2)]
 refine oLH 7 g6p5 E6 (mkH [Q1,Q2,⟨[],0,false⟩,Q4]) ?_
 refine oR 3 (atN 2 (ctl1 g6p5)) ((26,.bool x0_1.2) :: (25,.bool x0_1.2) :: E6) ?_
 refine oS 26 (fun hb=>?_) (fun hb=>?_)
 ·let E7:Env:=((30,.bool (eqL x0_1.1 g6c1)) :: (29,.bool (eqL x0_1.1 g6c1)) :: (28,.bool (eqL x0_1.1 g6c1)) :: (27,.str x0_1.1) :: (26,.bool true) :: (26,.bool x0_1.2) :: (25,.bool x0_1.2) :: E6)
  refine oR 4 (atN 6 (ctl1 g6p5)) E7 ?_
  refine oS 30 (fun hb=>?_) (fun hb=>?_)
  ·let E8:Env:=((34,.bool (!x1_1.2)) :: (33,.bool (!x1_1.2)) :: (32,.bool (!x1_1.2)) :: (31,.bool x1_1.2) :: (30,.bool true) :: E7)
   refine oR 4 (atN 10 (ctl1 g6p5)) E8 ?_
   refine oS 34 (fun hb=>?_) (fun hb=>?_)
   ·refine oR 1 (atN 11 (ctl1 g6p5)) ((35,.agg [.i 7,.i 0,.str [],w26 g6c0]) :: (34,.bool true) :: E8) ?_
    refine oA (fun (x2_11:Int) => .i x2_11) (atN 12 (ctl1 g6p5)) 36 [.agg [.i 7,.i 0,.str [],w26 g6c0]] (g11_ok k (⟨(7:Int),(0:Int),([]:List Nat),⟨(g6c0).length,(g6c0).flatMap e26⟩⟩:S25)) fun x2_11 hx2_11=>?_
    let E9:Env:=((39,.bool (decide (x2_11 = 5))) :: (38,.bool (decide (x2_11 = 5))) :: (37,.bool (decide (x2_11 = 5))) :: (36,.i x2_11) :: (35,.agg [.i 7,.i 0,.str [],w26 g6c0]) :: (34,.bool true) :: E8)
    refine oR 3 (atN 15 (ctl1 g6p5)) E9 ?_
    refine oS 39 (fun hb=>?_) (fun hb=>?_)
    ·let Q5:Blk:=⟨[.i 1,.i 0,.str [97,195,169],.nils,.i 7,.i 0,.str [],w26 g6c0,.i 1,.i 0,.str [97,195,169],.nils],0,false⟩
     refine oH 4 (atN 19 (ctl1 g6p5)) ((43,.slice 4 12 0 3 4) :: (42,.agg [.i 1,.i 0,.str [97,195,169],.nils]) :: (41,.agg [.i 7,.i 0,.str [],w26 g6c0]) :: (40,.agg [.i 1,.i 0,.str [97,195,169],.nils]) :: (39,.bool true) :: E9) (mkH [Q1,Q2,⟨[],0,false⟩,Q4,Q5]) ?_
     refine qGo [Q1,Q2,⟨[],0,false⟩,Q4,Q5] 4 0 [.i 1,.i 0,.str [97,195,169],.nils,.i 7,.i 0,.str [],w26 g6c0,.i 1,.i 0,.str [97,195,169],.nils] [.i 1,.i 0,.str [97,195,169],w26 ([]:List S25),.i 7,.i 0,.str [],w26 g6c0,.i 1,.i 0,.str [97,195,169],w26 ([]:List S25)] (by kernel_rfl) rfl (.cons (.cons (.cons (.nil (.cons (.cons (.cons (.cons (.cons (.cons (.cons (.nil (.refl))))))))))))) ?_
     refine oHp (mkH [Q1,Q2,⟨[],0,false⟩,Q4,⟨[.i 1,.i 0,.str [97,195,169],w26 ([]:List S25),.i 7,.i 0,.str [],w26 g6c0,.i 1,.i 0,.str [97,195,169],w26 ([]:List S25)],0,false⟩]) ?_
     refine oZ 43 4 3 4 [.i 1,.i 0,.str [97,195,169],w26 ([]:List S25),.i 7,.i 0,.str [],w26 g6c0,.i 1,.i 0,.str [97,195,169],w26 ([]:List S25)] [1,3,4,5,7,25,26,27,28,29,30,31,32,33,34,35,36,37,38,39,40,41,42] [] trivial ?_
     refine oE [(43,w26 g6c2),(1,.ptr 0 4 0),(3,.ptr 3 4 0),(4,.str x0_1.1),(5,.bool x0_1.2),(7,.bool x1_1.2),(25,.bool x0_1.2),(26,.bool true),(27,.str x0_1.1),(28,.bool (eqL x0_1.1 g6c1)),(29,.bool (eqL x0_1.1 g6c1)),(30,.bool true),(31,.bool x1_1.2),(32,.bool (!x1_1.2)),(33,.bool (!x1_1.2)),(34,.bool true),(35,.agg [.i 7,.i 0,.str [],w26 g6c0]),(36,.i x2_11),(37,.bool (decide (x2_11 = 5))),(38,.bool (decide (x2_11 = 5))),(39,.bool true),(40,.agg [.i 1,.i 0,.str [97,195,169],.nils]),(41,.agg [.i 7,.i 0,.str [],w26 g6c0]),(42,.agg [.i 1,.i 0,.str [97,195,169],.nils])] ?_
     refine oHp (mkH [Q1,Q2,⟨[],0,false⟩,Q4,⟨[],0,false⟩]) ?_
     refine oA (fun (x2_19:Int) => .i x2_19) (atN 20 (ctl1 g6p5)) 44 [w26 g6c2] (g13_ok k g6c2) fun x2_19 hx2_19=>?_
     exact oQ 5
    ·exact oQ 10
   ·exact oQ 15
  ·exact oQ 19
 ·exact oQ 23
end
structure Fns4 where
 g18:S25 → Int → Option Int
structure FnsOk4 (F:Fns4):Prop where
 g18_ok:∀ (a0:S25) (a1:Int),∀ (r:Int),F.g18 a0 a1 = some r → PureOk Try.prog 18 [.agg [.i a0.f0,.i a0.f1,.str a0.f2,q26 a0.f3],.i a1] (.i r)
end Go.Proofs.Ytdaaodknplbmkaa.Am
set_option maxRecDepth 100000
set_option linter.unusedVariables false
namespace Go.Proofs.Ytdaaodknplbmkaa.Am
noncomputable section
open Go
def Xg18:Fx Int:=⟨Try.prog,cx,Try.f18,fun r => .i r,0,fun _=>H0,cxTi,cxOrd,fun _=>none,false⟩
def g18p1:Pt:=nav [0,0,0,0] (nav [0] (bodyAt Try.f18))
def g18p2:Pt:=nav [0,0] g18p1
def g18p7:Pt:=nav [0,0,0,0] (nav [0,0,0,0] (nav [2,0,0] g18p2))
def g18p8:Pt:=nav [0,0,0] g18p7
def g18p9:Pt:=nav [0,0] g18p8
def g18p10:Pt:=nav [1,0,0,0] g18p9
def qG0 (k:Nat) (F:Fns4)  (a0:S25) (a1:Int) (ih:Int → Int → Option Int):Int → Int → Option Int :=
 fun (y2_0:Int) (y2_1:Int)=>jn (fun (z3:Bool × Int × Int)=>if z3.1 then ((nthR d26 4 a0.f3.n a0.f3.cells z3.2.2).bind fun x0_4=>(F.g18 x0_4 (fW .i64 (a1 - 1))).bind fun x0_8=>ih (fW .i64 (z3.2.1 + x0_8)) (fW .i64 (z3.2.2 + 1))) else (some z3.2.1)) (fun j3=>if (decide (y2_1 < (a0.f3.n:Int))) then (j3 (decide (y2_0 < 1000),y2_0,y2_1)) else (j3 (false,y2_0,y2_1)))
def qCi (k:Nat) (F:Fns4)  (a0:S25) (a1:Int) (n:Nat):Int → Int → Option Int:=lp (fun _ _=>none) (qG0 k F a0 a1) n
theorem qH5 (k:Nat) (F:Fns4)  (a0:S25) (a1:Int) (n:Nat) (y2_0:Int) (y2_1:Int):qCi k F a0 a1 (n + 1) y2_0 y2_1 = (jn (fun (z3:Bool × Int × Int)=>if z3.1 then ((nthR d26 4 a0.f3.n a0.f3.cells z3.2.2).bind fun x0_4=>(F.g18 x0_4 (fW .i64 (a1 - 1))).bind fun x0_8=>(qCi k F a0 a1 n) (fW .i64 (z3.2.1 + x0_8)) (fW .i64 (z3.2.2 + 1))) else (some z3.2.1)) (fun j3=>if (decide (y2_1 < (a0.f3.n:Int))) then (j3 (decide (y2_0 < 1000),y2_0,y2_1)) else (j3 (false,y2_0,y2_1)))):=rfl
theorem qJl (k:Nat) (F:Fns4) (hF:FnsOk4 F)   (a0:S25) (a1:Int)  : ∀ (n:Nat) (y2_0:Int) (y2_1:Int),Ok Xg18 g18p7 [(1,.i a1),(2,.ptr 0 4 0),(5,.i y2_0),(6,.i y2_1)] (mkH [⟨[.i a0.f0,.i a0.f1,.str a0.f2,q26 a0.f3],0,false⟩]) (qCi k F a0 a1 n y2_0 y2_1):=by
 intro n
 induction n with
 | zero=>intro y2_0 y2_1; exact ok_none
 | succ n ih =>
  intro y2_0 y2_1
  show Ok _ _ _ _ (qG0 k F a0 a1 (qCi k F a0 a1 n) y2_0 y2_1)
  unfold qG0
  refine qAe (p':=nav [0] g18p7) (by kernel_rfl) ?_
  refine oH 9 (atN 6 (ctl1 g18p8)) [(26,.bool (decide (y2_1 < (a0.f3.n:Int)))),(25,.bool (decide (y2_1 < (a0.f3.n:Int)))),(24,.i (a0.f3.n:Int)),(23,q26 a0.f3),(22,.ptr 0 4 3),(21,.i y2_1),(1,.i a1),(2,.ptr 0 4 0),(5,.i y2_0),(6,.i y2_1)] (mkH [⟨e26 a0,0,false⟩]) ?_
  refine oJ g18p9 (fun (z3:Bool × Int × Int)=>[(1,.i a1),(2,.ptr 0 4 0),(5,.i z3.2.1),(6,.i z3.2.2),(29,.bool z3.1)]) (fun (z3:Bool × Int × Int)=>(mkH [⟨e26 a0,0,false⟩])) (fun z3=>?_) (fun j3 hj3=>?_)
  ·refine oS 29 (fun hb=>?_) (fun hb=>?_)
   ·let E5:Env:=[(35,.i z3.2.2),(34,q26 a0.f3),(33,.ptr 0 4 3),(32,.i z3.2.1),(29,.bool true),(1,.i a1),(2,.ptr 0 4 0),(5,.i z3.2.1),(6,.i z3.2.2),(29,.bool z3.1)]
    refine oH 9 (atN 4 (ctl1 g18p10)) E5 (mkH [⟨e26 a0,0,false⟩]) ?_
    refine qAi (fun (x0_4:S25)=>(.vptr [.i x0_4.f0,.i x0_4.f1,.str x0_4.f2,q26 x0_4.f3],(mkH [⟨e26 a0,0,false⟩]))) (atN 5 (ctl1 g18p10)) (fun x0_4=>((36,.vptr [.i x0_4.f0,.i x0_4.f1,.str x0_4.f2,q26 x0_4.f3]) :: E5)) (fun _ hx=>vidxR (sz:=4) qBa hx (by kernel_rfl)) (fun _=>by kernel_rfl) (fun x0_4 hx0_4=>?_)
    refine oH 3 (atN 8 (ctl1 g18p10)) ((39,.i (fW .i64 (a1 - 1))) :: (38,.i a1) :: (37,n26 x0_4) :: (36,.vptr [.i x0_4.f0,.i x0_4.f1,.str x0_4.f2,q26 x0_4.f3]) :: E5) (mkH [⟨e26 a0,0,false⟩]) ?_
    refine oA (fun (x0_8:Int) => .i x0_8) (atN 9 (ctl1 g18p10)) 40 [n26 x0_4,.i (fW .i64 (a1 - 1))] (hF.g18_ok x0_4 (fW .i64 (a1 - 1))) fun x0_8 hx0_8=>?_
    refine oL 3 (nav [0,0] g18p10) [(1,.i a1),(2,.ptr 0 4 0),(5,.i (fW .i64 (z3.2.1 + x0_8))),(6,.i z3.2.2)] ?_
    refine oL 5 g18p7 [(1,.i a1),(2,.ptr 0 4 0),(5,.i (fW .i64 (z3.2.1 + x0_8))),(6,.i (fW .i64 (z3.2.2 + 1)))] ?_
    exact ih (fW .i64 (z3.2.1 + x0_8)) (fW .i64 (z3.2.2 + 1))
   ·exact oQ 8
  ·refine oS 26 (fun hb=>?_) (fun hb=>?_)
   ·refine oLH 4 g18p9 [(1,.i a1),(2,.ptr 0 4 0),(5,.i y2_0),(6,.i y2_1),(29,.bool (decide (y2_0 < 1000)))] (mkH [⟨e26 a0,0,false⟩]) ?_
    exact hj3 (decide (y2_0 < 1000),y2_0,y2_1)
   ·refine oLH 4 g18p9 [(1,.i a1),(2,.ptr 0 4 0),(5,.i y2_0),(6,.i y2_1),(29,.bool false)] (mkH [⟨e26 a0,0,false⟩]) ?_
    exact hj3 (false,y2_0,y2_1)
def g18B (k:Nat) (F:Fns4) (a0:S25) (a1:Int):Option Int :=
 jn (fun (z1:Bool)=>if z1 then (some (1000:Int)) else (qCi k F a0 a1 k 1 0)) (fun j1=>if (decide (a1 = 0)) then (j1 true) else (if (decide (100 < (a0.f2.length:Int))) then (j1 true) else (j1 (decide (500 < (a0.f3.n:Int))))))
theorem g18B_ok (k:Nat) (F:Fns4) (hF:FnsOk4 F) (a0:S25) (a1:Int) (r:Int) (h:g18B k F a0 a1 = some r):PureOk Try.prog 18 [.agg [.i a0.f0,.i a0.f1,.str a0.f2,q26 a0.f3],.i a1] (.i r):=by
 refine qA2 Xg18 (fun _=>⟨rfl,rfl⟩) Try.func18 (by decide +kernel) (by kernel_rfl) (t:=g18B k F a0 a1) ?_ h
 unfold g18B
 refine qA1 (eE:=[(0,.agg [.i a0.f0,.i a0.f1,.str a0.f2,q26 a0.f3]),(1,.i a1)]) (by kernel_rfl) ?_
 let E1:Env:=[(9,.bool (decide (a1 = 0))),(8,.bool (decide (a1 = 0))),(7,.i a1),(4,.i 0),(2,.ptr 0 4 0),(0,n26 a0),(1,.i a1)]
 refine oH 11 (atN 3 (ctl1 g18p1)) E1 (mkH [⟨e26 a0,0,false⟩]) ?_
 refine oJ g18p2 (fun (z1:Bool)=>[(1,.i a1),(2,.ptr 0 4 0),(20,.bool z1)]) (fun (z1:Bool)=>(mkH [⟨e26 a0,0,false⟩])) (fun z1=>?_) (fun j1 hj1=>?_)
 ·refine oS 20 (fun hb=>?_) (fun hb=>?_)
  ·exact oQ 6
  ·refine oLH 13 g18p7 [(1,.i a1),(2,.ptr 0 4 0),(5,.i 1),(6,.i 0)] (mkH [⟨e26 a0,0,false⟩]) ?_
   exact (qJl k F hF a0 a1 k) 1 0
 ·refine oS 9 (fun hb=>?_) (fun hb=>?_)
  ·refine oLH 12 g18p2 [(1,.i a1),(2,.ptr 0 4 0),(20,.bool true)] (mkH [⟨e26 a0,0,false⟩]) ?_
   exact hj1 true
  ·refine oH 6 (atN 9 (ctl1 g18p1)) ((15,.bool (decide (100 < (a0.f2.length:Int)))) :: (14,.bool (decide (100 < (a0.f2.length:Int)))) :: (13,.bool (decide (100 < (a0.f2.length:Int)))) :: (12,.i (a0.f2.length:Int)) :: (11,.str a0.f2) :: (10,.ptr 0 4 2) :: (9,.bool false) :: E1) (mkH [⟨e26 a0,0,false⟩]) ?_
   refine oS 15 (fun hb=>?_) (fun hb=>?_)
   ·refine oL 6 g18p2 [(1,.i a1),(2,.ptr 0 4 0),(20,.bool true)] ?_
    exact hj1 true
   ·refine oL 6 g18p2 [(1,.i a1),(2,.ptr 0 4 0),(20,.bool (decide (500 < (a0.f3.n:Int))))] ?_
    exact hj1 (decide (500 < (a0.f3.n:Int)))
def par4 (n:Nat):Fns4:=Nat.rec (motive:=fun _=>Fns4) ⟨fun _ _=>none⟩ (fun k F=>⟨g18B k F⟩) n
theorem qIh : ∀ k, FnsOk4 (par4 k)
 | 0=>⟨(fun _ _ _ h=>nomatch h)⟩
 | k + 1=>⟨g18B_ok k (par4 k) (qIh k)⟩
def g18 (k:Nat) (a0:S25) (a1:Int):Option Int:=(par4 k).g18 a0 a1
theorem g18_ok (k:Nat):∀ (a0:S25) (a1:Int),∀ (r:Int),g18 k a0 a1 = some r → PureOk Try.prog 18 [.agg [.i a0.f0,.i a0.f1,.str a0.f2,q26 a0.f3],.i a1] (.i r):=(qIh k).g18_ok
def Xg7:Fx Bool:=⟨Try.prog,cx,Try.f7,fun r => .bool r,0,fun _=>H0,cxTi,cxOrd,fun _=>none,false⟩
def g7p1:Pt:=nav [0,0,0] (nav [0] (bodyAt Try.f7))
def g7 (k:Nat) (a0:S25):Option Bool :=
 (g18 k a0 (60:Int)).bind fun x0_1=>some (decide (x0_1 ≤ 500))
theorem g7_ok (k:Nat) (a0:S25) (r:Bool) (h:g7 k a0 = some r):PureOk Try.prog 7 [.agg [.i a0.f0,.i a0.f1,.str a0.f2,q26 a0.f3]] (.bool r):=by
 refine qA2 Xg7 (fun _=>⟨rfl,rfl⟩) Try.func7 (by decide +kernel) (by kernel_rfl) (t:=g7 k a0) ?_ h
 unfold g7
 refine qA1 (eE:=[(0,.agg [.i a0.f0,.i a0.f1,.str a0.f2,q26 a0.f3])]) (by kernel_rfl) ?_
 refine oH 8 (atN 1 (ctl1 g7p1)) [(3,n26 a0),(2,.bool false),(1,.ptr 0 4 0),(0,n26 a0)] (mkH [⟨e26 a0,0,false⟩]) ?_
 refine oA (fun (x0_1:Int) => .i x0_1) (atN 2 (ctl1 g7p1)) 4 [n26 a0,.i 60] (g18_ok k a0 (60:Int)) fun x0_1 hx0_1=>?_
 exact oQ 4
end
structure Fns5 where
 g19:S25 → Int → Option Int
structure FnsOk5 (F:Fns5):Prop where
 g19_ok:∀ (a0:S25) (a1:Int),∀ (r:Int),F.g19 a0 a1 = some r → PureOk Try.prog 19 [.agg [.i a0.f0,.i a0.f1,.str a0.f2,q26 a0.f3],.i a1] (.i r)
end Go.Proofs.Ytdaaodknplbmkaa.Am
set_option maxRecDepth 100000
set_option linter.unusedVariables false
namespace Go.Proofs.Ytdaaodknplbmkaa.Am
noncomputable section
open Go
def Xg19:Fx Int:=⟨Try.prog,cx,Try.f19,fun r => .i r,0,fun _=>H0,cxTi,cxOrd,fun _=>none,false⟩
def g19p3:Pt:=nav [0,0,0,0] (nav [0,0,0,0] (nav [0,0,0] (nav [0] (bodyAt Try.f19))))
def g19p4:Pt:=nav [0,0,0] g19p3
def g19p5:Pt:=nav [0,0] g19p4
def g19p6:Pt:=nav [1,0,0,0] g19p5
def qG (k:Nat) (F:Fns5)  (a0:S25) (a1:Int) (ih:Int → Int → Option Int):Int → Int → Option Int :=
 fun (y1_0:Int) (y1_1:Int)=>jn (fun (z2:Bool × Int × Int)=>if z2.1 then ((nthR d26 4 a0.f3.n a0.f3.cells z2.2.2).bind fun x0_4=>(F.g19 x0_4 (fW .i64 (a1 - 1))).bind fun x0_8=>ih (maxI z2.2.1 x0_8) (fW .i64 (z2.2.2 + 1))) else (some (fW .i64 (z2.2.1 + 1)))) (fun j2=>if (decide (y1_1 < (a0.f3.n:Int))) then (j2 (decide (0 < a1),y1_0,y1_1)) else (j2 (false,y1_0,y1_1)))
def qD5 (k:Nat) (F:Fns5)  (a0:S25) (a1:Int) (n:Nat):Int → Int → Option Int:=lp (fun _ _=>none) (qG k F a0 a1) n
theorem qH4 (k:Nat) (F:Fns5)  (a0:S25) (a1:Int) (n:Nat) (y1_0:Int) (y1_1:Int):qD5 k F a0 a1 (n + 1) y1_0 y1_1 = (jn (fun (z2:Bool × Int × Int)=>if z2.1 then ((nthR d26 4 a0.f3.n a0.f3.cells z2.2.2).bind fun x0_4=>(F.g19 x0_4 (fW .i64 (a1 - 1))).bind fun x0_8=>(qD5 k F a0 a1 n) (maxI z2.2.1 x0_8) (fW .i64 (z2.2.2 + 1))) else (some (fW .i64 (z2.2.1 + 1)))) (fun j2=>if (decide (y1_1 < (a0.f3.n:Int))) then (j2 (decide (0 < a1),y1_0,y1_1)) else (j2 (false,y1_0,y1_1)))):=rfl
theorem qJk (k:Nat) (F:Fns5) (hF:FnsOk5 F)   (a0:S25) (a1:Int)  : ∀ (n:Nat) (y1_0:Int) (y1_1:Int),Ok Xg19 g19p3 [(1,.i a1),(2,.ptr 0 4 0),(5,.i y1_0),(6,.i y1_1)] (mkH [⟨[.i a0.f0,.i a0.f1,.str a0.f2,q26 a0.f3],0,false⟩]) (qD5 k F a0 a1 n y1_0 y1_1):=by
 intro n
 induction n with
 | zero=>intro y1_0 y1_1; exact ok_none
 | succ n ih =>
  intro y1_0 y1_1
  show Ok _ _ _ _ (qG k F a0 a1 (qD5 k F a0 a1 n) y1_0 y1_1)
  unfold qG
  refine qAe (p':=nav [0] g19p3) (by kernel_rfl) ?_
  refine oH 9 (atN 6 (ctl1 g19p4)) [(12,.bool (decide (y1_1 < (a0.f3.n:Int)))),(11,.bool (decide (y1_1 < (a0.f3.n:Int)))),(10,.i (a0.f3.n:Int)),(9,q26 a0.f3),(8,.ptr 0 4 3),(7,.i y1_1),(1,.i a1),(2,.ptr 0 4 0),(5,.i y1_0),(6,.i y1_1)] (mkH [⟨e26 a0,0,false⟩]) ?_
  refine oJ g19p5 (fun (z2:Bool × Int × Int)=>[(1,.i a1),(2,.ptr 0 4 0),(5,.i z2.2.1),(6,.i z2.2.2),(15,.bool z2.1)]) (fun (z2:Bool × Int × Int)=>(mkH [⟨e26 a0,0,false⟩])) (fun z2=>?_) (fun j2 hj2=>?_)
  ·refine oS 15 (fun hb=>?_) (fun hb=>?_)
   ·let E3:Env:=[(21,.i z2.2.2),(20,q26 a0.f3),(19,.ptr 0 4 3),(18,.i z2.2.1),(15,.bool true),(1,.i a1),(2,.ptr 0 4 0),(5,.i z2.2.1),(6,.i z2.2.2),(15,.bool z2.1)]
    refine oH 9 (atN 4 (ctl1 g19p6)) E3 (mkH [⟨e26 a0,0,false⟩]) ?_
    refine qAi (fun (x0_4:S25)=>(.vptr [.i x0_4.f0,.i x0_4.f1,.str x0_4.f2,q26 x0_4.f3],(mkH [⟨e26 a0,0,false⟩]))) (atN 5 (ctl1 g19p6)) (fun x0_4=>((22,.vptr [.i x0_4.f0,.i x0_4.f1,.str x0_4.f2,q26 x0_4.f3]) :: E3)) (fun _ hx=>vidxR (sz:=4) qBa hx (by kernel_rfl)) (fun _=>by kernel_rfl) (fun x0_4 hx0_4=>?_)
    refine oH 3 (atN 8 (ctl1 g19p6)) ((25,.i (fW .i64 (a1 - 1))) :: (24,.i a1) :: (23,n26 x0_4) :: (22,.vptr [.i x0_4.f0,.i x0_4.f1,.str x0_4.f2,q26 x0_4.f3]) :: E3) (mkH [⟨e26 a0,0,false⟩]) ?_
    refine oA (fun (x0_8:Int) => .i x0_8) (atN 9 (ctl1 g19p6)) 26 [n26 x0_4,.i (fW .i64 (a1 - 1))] (hF.g19_ok x0_4 (fW .i64 (a1 - 1))) fun x0_8 hx0_8=>?_
    refine oL 3 (nav [0,0] g19p6) [(1,.i a1),(2,.ptr 0 4 0),(5,.i (maxI z2.2.1 x0_8)),(6,.i z2.2.2)] ?_
    refine oL 5 g19p3 [(1,.i a1),(2,.ptr 0 4 0),(5,.i (maxI z2.2.1 x0_8)),(6,.i (fW .i64 (z2.2.2 + 1)))] ?_
    exact ih (maxI z2.2.1 x0_8) (fW .i64 (z2.2.2 + 1))
   ·exact oQ 9
  ·refine oS 12 (fun hb=>?_) (fun hb=>?_)
   ·refine oLH 4 g19p5 [(1,.i a1),(2,.ptr 0 4 0),(5,.i y1_0),(6,.i y1_1),(15,.bool (decide (0 < a1)))] (mkH [⟨e26 a0,0,false⟩]) ?_
    exact hj2 (decide (0 < a1),y1_0,y1_1)
   ·refine oLH 4 g19p5 [(1,.i a1),(2,.ptr 0 4 0),(5,.i y1_0),(6,.i y1_1),(15,.bool false)] (mkH [⟨e26 a0,0,false⟩]) ?_
    exact hj2 (false,y1_0,y1_1)
def g19B (k:Nat) (F:Fns5) (a0:S25) (a1:Int):Option Int :=
 qD5 k F a0 a1 k 0 0
theorem g19B_ok (k:Nat) (F:Fns5) (hF:FnsOk5 F) (a0:S25) (a1:Int) (r:Int) (h:g19B k F a0 a1 = some r):PureOk Try.prog 19 [.agg [.i a0.f0,.i a0.f1,.str a0.f2,q26 a0.f3],.i a1] (.i r):=by
 refine qA2 Xg19 (fun _=>⟨rfl,rfl⟩) Try.func19 (by decide +kernel) (by kernel_rfl) (t:=g19B k F a0 a1) ?_ h
 unfold g19B
 refine qA1 (eE:=[(0,.agg [.i a0.f0,.i a0.f1,.str a0.f2,q26 a0.f3]),(1,.i a1)]) (by kernel_rfl) ?_
 refine oLH 16 g19p3 [(1,.i a1),(2,.ptr 0 4 0),(5,.i 0),(6,.i 0)] (mkH [⟨e26 a0,0,false⟩]) ?_
 exact (qJk k F hF a0 a1 k) 0 0
def par5 (n:Nat):Fns5:=Nat.rec (motive:=fun _=>Fns5) ⟨fun _ _=>none⟩ (fun k F=>⟨g19B k F⟩) n
theorem qIg : ∀ k, FnsOk5 (par5 k)
 | 0=>⟨(fun _ _ _ h=>nomatch h)⟩
 | k + 1=>⟨g19B_ok k (par5 k) (qIg k)⟩
def g19 (k:Nat) (a0:S25) (a1:Int):Option Int:=(par5 k).g19 a0 a1
theorem g19_ok (k:Nat):∀ (a0:S25) (a1:Int),∀ (r:Int),g19 k a0 a1 = some r → PureOk Try.prog 19 [.agg [.i a0.f0,.i a0.f1,.str a0.f2,q26 a0.f3],.i a1] (.i r):=(qIg k).g19_ok
end
structure Fns6 where
 g20:S25 → Option Bool
structure FnsOk6 (F:Fns6):Prop where
 g20_ok:∀ (a0:S25),∀ (r:Bool),F.g20 a0 = some r → PureOk Try.prog 20 [.agg [.i a0.f0,.i a0.f1,.str a0.f2,q26 a0.f3]] (.bool r)
end Go.Proofs.Ytdaaodknplbmkaa.Am
set_option maxRecDepth 100000
set_option linter.unusedVariables false
namespace Go.Proofs.Ytdaaodknplbmkaa.Am
noncomputable section
open Go
def Xg20:Fx Bool:=⟨Try.prog,cx,Try.f20,fun r => .bool r,0,fun _=>H0,cxTi,cxOrd,fun _=>none,false⟩
def g20p3:Pt:=nav [0,0] (nav [0,0,0,0] (nav [0,0,0,0] (nav [0] (bodyAt Try.f20))))
def g20p6:Pt:=nav [0,0,0,0] (nav [1,0,0] g20p3)
def g20p7:Pt:=nav [0,0] (nav [2,0,0] g20p3)
def g20p9:Pt:=nav [1,0] g20p7
def g20p11:Pt:=nav [0,0] (nav [0,0,0] g20p6)
def g20p12:Pt:=nav [1,0] g20p9
def g20p15:Pt:=nav [1,0,0,0,0] g20p11
def g20p18:Pt:=nav [0,0] (nav [2,0] g20p9)
def g20p25:Pt:=nav [0,0] (nav [1,0] g20p18)
def g20p26:Pt:=nav [0,0] (nav [2,0] g20p18)
def g20p28:Pt:=nav [2,0,0,0] g20p25
def g20p29:Pt:=nav [1,0] g20p26
def g20p31:Pt:=nav [0,0,0,0] g20p28
def g20p32:Pt:=nav [0,0] g20p29
def g20p33:Pt:=nav [0,0] (nav [2,0] g20p26)
def g20p36:Pt:=nav [1,0] g20p33
def g20p38:Pt:=nav [0,0] (nav [0,0,0] g20p31)
def g20p39:Pt:=nav [0,0] g20p36
def g20p40:Pt:=nav [1,0,0,0,0] g20p38
def qFz (k:Nat) (F:Fns6)  (a0:S25) (ih:Int → Option Bool):Int → Option Bool :=
 fun (y2_0:Int)=>if (decide (y2_0 < (a0.f2.length:Int))) then ((nthS a0.f2 y2_0).bind fun x0_3=>if (decide (x0_3 = 10)) then (some false) else (ih (fW .i64 (y2_0 + 1)))) else (if (decide ((a0.f3.n:Int) = 0)) then (some (decide (a0.f1 = 0))) else (some false))
def qDv (k:Nat) (F:Fns6)  (a0:S25) (n:Nat):Int → Option Bool:=lp (fun _=>none) (qFz k F a0) n
theorem qH3 (k:Nat) (F:Fns6)  (a0:S25) (n:Nat) (y2_0:Int):qDv k F a0 (n + 1) y2_0 = (if (decide (y2_0 < (a0.f2.length:Int))) then ((nthS a0.f2 y2_0).bind fun x0_3=>if (decide (x0_3 = 10)) then (some false) else ((qDv k F a0 n) (fW .i64 (y2_0 + 1)))) else (if (decide ((a0.f3.n:Int) = 0)) then (some (decide (a0.f1 = 0))) else (some false))):=rfl
theorem qJj (k:Nat) (F:Fns6) (hF:FnsOk6 F)   (a0:S25)  : ∀ (n:Nat) (y2_0:Int),Ok Xg20 g20p6 [(1,.ptr 0 4 0),(3,.i y2_0)] (mkH [⟨[.i a0.f0,.i a0.f1,.str a0.f2,q26 a0.f3],0,false⟩]) (qDv k F a0 n y2_0):=by
 intro n
 induction n with
 | zero=>intro y2_0; exact ok_none
 | succ n ih =>
  intro y2_0
  show Ok _ _ _ _ (qFz k F a0 (qDv k F a0 n) y2_0)
  unfold qFz
  refine qAe (p':=nav [0] g20p6) (by kernel_rfl) ?_
  let E2:Env:=[(13,.bool (decide (y2_0 < (a0.f2.length:Int)))),(12,.i (a0.f2.length:Int)),(11,.str a0.f2),(10,.ptr 0 4 2),(9,.i y2_0),(1,.ptr 0 4 0),(3,.i y2_0)]
  refine oH 9 g20p11 E2 (mkH [⟨e26 a0,0,false⟩]) ?_
  refine oS 13 (fun hb=>?_) (fun hb=>?_)
  ·refine oR 9 (atN 3 (ctl1 g20p15)) ((18,.i y2_0) :: (17,.str a0.f2) :: (16,.ptr 0 4 2) :: (13,.bool true) :: E2) ?_
   refine oC (fun (x0_3:Int)=>(.y x0_3,(mkH [⟨e26 a0,0,false⟩]))) (atN 4 (ctl1 g20p15)) 19 (idxH (by kernel_rfl)) fun x0_3 hx0_3=>?_
   refine oLH 2 (nav [0,0] g20p15) [(1,.ptr 0 4 0),(3,.i y2_0),(20,.bool (decide (x0_3 = 10)))] (mkH [⟨e26 a0,0,false⟩]) ?_
   refine oS 20 (fun hb=>?_) (fun hb=>?_)
   ·exact oQ 6
   ·refine oL 7 g20p6 [(1,.ptr 0 4 0),(3,.i (fW .i64 (y2_0 + 1)))] ?_
    exact ih (fW .i64 (y2_0 + 1))
  ·refine oR 9 (atN 5 (ctl1 (nav [2,0,0] g20p11))) ((25,.bool (decide ((a0.f3.n:Int) = 0))) :: (24,.bool (decide ((a0.f3.n:Int) = 0))) :: (23,.i (a0.f3.n:Int)) :: (22,q26 a0.f3) :: (21,.ptr 0 4 3) :: (13,.bool false) :: E2) ?_
   refine oS 25 (fun hb=>?_) (fun hb=>?_)
   ·exact oQ 7
   ·exact oQ 7
def qFy (k:Nat) (F:Fns6)  (a0:S25) (ih:Int → Option Bool):Int → Option Bool :=
 fun (y6_0:Int)=>if (decide (y6_0 < (a0.f3.n:Int))) then ((nthR d26 4 a0.f3.n a0.f3.cells y6_0).bind fun x1_3=>(F.g20 x1_3).bind fun x1_5=>if (!x1_5) then (some false) else (ih (fW .i64 (y6_0 + 1)))) else (some (eqL a0.f2 []))
def qD4 (k:Nat) (F:Fns6)  (a0:S25) (n:Nat):Int → Option Bool:=lp (fun _=>none) (qFy k F a0) n
theorem qH2 (k:Nat) (F:Fns6)  (a0:S25) (n:Nat) (y6_0:Int):qD4 k F a0 (n + 1) y6_0 = (if (decide (y6_0 < (a0.f3.n:Int))) then ((nthR d26 4 a0.f3.n a0.f3.cells y6_0).bind fun x1_3=>(F.g20 x1_3).bind fun x1_5=>if (!x1_5) then (some false) else ((qD4 k F a0 n) (fW .i64 (y6_0 + 1)))) else (some (eqL a0.f2 []))):=rfl
theorem qJi (k:Nat) (F:Fns6) (hF:FnsOk6 F)   (a0:S25)  : ∀ (n:Nat) (y6_0:Int),Ok Xg20 g20p31 [(1,.ptr 0 4 0),(4,.i y6_0)] (mkH [⟨[.i a0.f0,.i a0.f1,.str a0.f2,q26 a0.f3],0,false⟩]) (qD4 k F a0 n y6_0):=by
 intro n
 induction n with
 | zero=>intro y6_0; exact ok_none
 | succ n ih =>
  intro y6_0
  show Ok _ _ _ _ (qFy k F a0 (qD4 k F a0 n) y6_0)
  unfold qFy
  refine qAe (p':=nav [0] g20p31) (by kernel_rfl) ?_
  let E17:Env:=[(77,.bool (decide (y6_0 < (a0.f3.n:Int)))),(76,.i (a0.f3.n:Int)),(75,q26 a0.f3),(74,.ptr 0 4 3),(73,.i y6_0),(1,.ptr 0 4 0),(4,.i y6_0)]
  refine oH 9 g20p38 E17 (mkH [⟨e26 a0,0,false⟩]) ?_
  refine oS 77 (fun hb=>?_) (fun hb=>?_)
  ·refine oR 9 (atN 3 (ctl1 g20p40)) ((82,.i y6_0) :: (81,q26 a0.f3) :: (80,.ptr 0 4 3) :: (77,.bool true) :: E17) ?_
   refine qAi (fun (x1_3:S25)=>(.vptr [.i x1_3.f0,.i x1_3.f1,.str x1_3.f2,q26 x1_3.f3],(mkH [⟨e26 a0,0,false⟩]))) (atN 4 (ctl1 g20p40)) (fun x1_3=>((83,.vptr [.i x1_3.f0,.i x1_3.f1,.str x1_3.f2,q26 x1_3.f3]) :: (82,.i y6_0) :: (81,q26 a0.f3) :: (80,.ptr 0 4 3) :: (77,.bool true) :: E17)) (fun _ hx=>vidxR (sz:=4) qBa hx (by kernel_rfl)) (fun _=>by kernel_rfl) (fun x1_3 hx1_3=>?_)
   refine oH 1 (atN 5 (ctl1 g20p40)) ((84,n26 x1_3) :: (83,.vptr [.i x1_3.f0,.i x1_3.f1,.str x1_3.f2,q26 x1_3.f3]) :: (82,.i y6_0) :: (81,q26 a0.f3) :: (80,.ptr 0 4 3) :: (77,.bool true) :: E17) (mkH [⟨e26 a0,0,false⟩]) ?_
   refine oA (fun (x1_5:Bool) => .bool x1_5) (atN 6 (ctl1 g20p40)) 85 [n26 x1_3] (hF.g20_ok x1_3) fun x1_5 hx1_5=>?_
   refine oL 2 (nav [0,0] g20p40) [(1,.ptr 0 4 0),(4,.i y6_0),(86,.bool (!x1_5))] ?_
   refine oS 86 (fun hb=>?_) (fun hb=>?_)
   ·exact oQ 6
   ·refine oL 7 g20p31 [(1,.ptr 0 4 0),(4,.i (fW .i64 (y6_0 + 1)))] ?_
    exact ih (fW .i64 (y6_0 + 1))
  ·exact oQ 10
def g20B (k:Nat) (F:Fns6) (a0:S25):Option Bool :=
 if (decide (a0.f0 = 1)) then (qDv k F a0 k 0) else (jn (fun (z3:Bool)=>if z3 then (if (eqL a0.f2 []) then (if (decide ((a0.f3.n:Int) = 0)) then (some (decide (a0.f1 = 0))) else (some false)) else (some false)) else (jn (fun (z7:Unit)=>qD4 k F a0 k 0) (fun j7=>if (decide (a0.f0 = 5)) then (if (!decide (a0.f1 = 0)) then (some false) else (j7 ())) else (if (decide (a0.f0 = 6)) then (jn (fun (z4:Bool)=>if z4 then (some false) else (j7 ())) (fun j4=>if (decide (a0.f1 < 0)) then (j4 true) else (j4 (decide (1000 < a0.f1))))) else (if (decide (a0.f0 = 7)) then (jn (fun (z5:Bool)=>if z5 then (some false) else (j7 ())) (fun j5=>if (!decide (a0.f1 = 0)) then (j5 (!decide (a0.f1 = 1))) else (j5 false))) else (some false)))))) (fun j3=>if (decide (a0.f0 = 2)) then (j3 true) else (if (decide (a0.f0 = 3)) then (j3 true) else (j3 (decide (a0.f0 = 4))))))
theorem g20B_ok (k:Nat) (F:Fns6) (hF:FnsOk6 F) (a0:S25) (r:Bool) (h:g20B k F a0 = some r):PureOk Try.prog 20 [.agg [.i a0.f0,.i a0.f1,.str a0.f2,q26 a0.f3]] (.bool r):=by
 refine qA2 Xg20 (fun _=>⟨rfl,rfl⟩) Try.func20 (by decide +kernel) (by kernel_rfl) (t:=g20B k F a0) ?_ h
 unfold g20B
 refine qA1 (eE:=[(0,.agg [.i a0.f0,.i a0.f1,.str a0.f2,q26 a0.f3])]) (by kernel_rfl) ?_
 refine oH 17 g20p3 [(7,.bool (decide (a0.f0 = 1))),(8,.bool (decide (a0.f0 = 1))),(6,.i a0.f0),(5,.ptr 0 4 0),(2,.bool false),(1,.ptr 0 4 0),(0,n26 a0)] (mkH [⟨e26 a0,0,false⟩]) ?_
 refine oS 7 (fun hb=>?_) (fun hb=>?_)
 ·refine oL 8 g20p6 [(1,.ptr 0 4 0),(3,.i 0)] ?_
  exact (qJj k F hF a0 k) 0
 ·refine oL 7 g20p7 [(1,.ptr 0 4 0),(6,.i a0.f0),(30,.bool (decide (a0.f0 = 2)))] ?_
  refine oJ g20p9 (fun (z3:Bool)=>[(1,.ptr 0 4 0),(6,.i a0.f0),(30,.bool z3)]) (fun (z3:Bool)=>(mkH [⟨e26 a0,0,false⟩])) (fun z3=>?_) (fun j3 hj3=>?_)
  ·refine oS 30 (fun hb=>?_) (fun hb=>?_)
   ·let E11:Env:=[(37,.bool (eqL a0.f2 [])),(36,.bool (eqL a0.f2 [])),(35,.str a0.f2),(34,.ptr 0 4 2),(30,.bool true),(1,.ptr 0 4 0),(6,.i a0.f0),(30,.bool z3)]
    refine oH 7 (atN 4 (ctl1 g20p12)) E11 (mkH [⟨e26 a0,0,false⟩]) ?_
    refine oS 37 (fun hb=>?_) (fun hb=>?_)
    ·refine oR 6 (atN 10 (ctl1 g20p12)) ((43,.bool (decide ((a0.f3.n:Int) = 0))) :: (42,.bool (decide ((a0.f3.n:Int) = 0))) :: (41,.bool (decide ((a0.f3.n:Int) = 0))) :: (40,.i (a0.f3.n:Int)) :: (39,q26 a0.f3) :: (38,.ptr 0 4 3) :: (37,.bool true) :: E11) ?_
     refine oS 43 (fun hb=>?_) (fun hb=>?_)
     ·exact oQ 7
     ·exact oQ 7
    ·exact oQ 13
   ·let E16:Env:=[(48,.bool (decide (a0.f0 = 5))),(49,.bool (decide (a0.f0 = 5))),(30,.bool false),(1,.ptr 0 4 0),(6,.i a0.f0),(30,.bool z3)]
    refine oH 6 g20p18 E16 (mkH [⟨e26 a0,0,false⟩]) ?_
    refine oJ g20p28 (fun (z7:Unit)=>[(1,.ptr 0 4 0)]) (fun (z7:Unit)=>(mkH [⟨e26 a0,0,false⟩])) (fun z7=>?_) (fun j7 hj7=>?_)
    ·refine oLH 5 g20p31 [(1,.ptr 0 4 0),(4,.i 0)] (mkH [⟨e26 a0,0,false⟩]) ?_
     exact (qJi k F hF a0 k) 0
    ·refine oS 48 (fun hb=>?_) (fun hb=>?_)
     ·refine oLH 7 g20p25 [(1,.ptr 0 4 0),(52,.bool (!decide (a0.f1 = 0)))] (mkH [⟨e26 a0,0,false⟩]) ?_
      refine oS 52 (fun hb=>?_) (fun hb=>?_)
      ·exact oQ 6
      ·refine oL 4 g20p28 [(1,.ptr 0 4 0)] ?_
       exact hj7 ()
     ·refine oH 6 g20p26 ((53,.bool (decide (a0.f0 = 6))) :: (54,.bool (decide (a0.f0 = 6))) :: (48,.bool false) :: E16) (mkH [⟨e26 a0,0,false⟩]) ?_
      refine oS 53 (fun hb=>?_) (fun hb=>?_)
      ·refine oR 7 (atN 4 (ctl1 g20p29)) ((58,.bool (decide (a0.f1 < 0))) :: (57,.bool (decide (a0.f1 < 0))) :: (56,.i a0.f1) :: (55,.ptr 0 4 1) :: (53,.bool true) :: (53,.bool (decide (a0.f0 = 6))) :: (54,.bool (decide (a0.f0 = 6))) :: (48,.bool false) :: E16) ?_
       refine oJ g20p32 (fun (z4:Bool)=>[(1,.ptr 0 4 0),(62,.bool z4)]) (fun (z4:Bool)=>(mkH [⟨e26 a0,0,false⟩])) (fun z4=>?_) (fun j4 hj4=>?_)
       ·refine oS 62 (fun hb=>?_) (fun hb=>?_)
        ·exact oQ 6
        ·refine oLH 4 g20p28 [(1,.ptr 0 4 0)] (mkH [⟨e26 a0,0,false⟩]) ?_
         exact hj7 ()
       ·refine oS 58 (fun hb=>?_) (fun hb=>?_)
        ·refine oLH 5 g20p32 [(1,.ptr 0 4 0),(62,.bool true)] (mkH [⟨e26 a0,0,false⟩]) ?_
         exact hj4 true
        ·refine oLH 5 g20p32 [(1,.ptr 0 4 0),(62,.bool (decide (1000 < a0.f1)))] (mkH [⟨e26 a0,0,false⟩]) ?_
         exact hj4 (decide (1000 < a0.f1))
      ·let E30:Env:=[(1,.ptr 0 4 0),(63,.bool (decide (a0.f0 = 7)))]
       refine oL 6 g20p33 E30 ?_
       refine oS 63 (fun hb=>?_) (fun hb=>?_)
       ·refine oR 7 (atN 4 (ctl1 g20p36)) ((68,.bool (!decide (a0.f1 = 0))) :: (67,.bool (!decide (a0.f1 = 0))) :: (66,.i a0.f1) :: (65,.ptr 0 4 1) :: (63,.bool true) :: E30) ?_
        refine oJ g20p39 (fun (z5:Bool)=>[(1,.ptr 0 4 0),(72,.bool z5)]) (fun (z5:Bool)=>(mkH [⟨e26 a0,0,false⟩])) (fun z5=>?_) (fun j5 hj5=>?_)
        ·refine oS 72 (fun hb=>?_) (fun hb=>?_)
         ·exact oQ 6
         ·refine oLH 4 g20p28 [(1,.ptr 0 4 0)] (mkH [⟨e26 a0,0,false⟩]) ?_
          exact hj7 ()
        ·refine oS 68 (fun hb=>?_) (fun hb=>?_)
         ·refine oLH 5 g20p39 [(1,.ptr 0 4 0),(72,.bool (!decide (a0.f1 = 1)))] (mkH [⟨e26 a0,0,false⟩]) ?_
          exact hj5 (!decide (a0.f1 = 1))
         ·refine oLH 5 g20p39 [(1,.ptr 0 4 0),(72,.bool false)] (mkH [⟨e26 a0,0,false⟩]) ?_
          exact hj5 false
       ·exact oQ 6
  ·refine oS 30 (fun hb=>?_) (fun hb=>?_)
   ·refine oLH 2 g20p9 [(1,.ptr 0 4 0),(6,.i a0.f0),(30,.bool true)] (mkH [⟨e26 a0,0,false⟩]) ?_
    exact hj3 true
   ·refine oH 6 (nav [0,0] (nav [2,0] g20p7)) ((30,.bool (decide (a0.f0 = 3))) :: (32,.bool (decide (a0.f0 = 3))) :: (30,.bool false) :: [(1,.ptr 0 4 0),(6,.i a0.f0),(30,.bool (decide (a0.f0 = 2)))]) (mkH [⟨e26 a0,0,false⟩]) ?_
    refine oS 30 (fun hb=>?_) (fun hb=>?_)
    ·refine oL 2 g20p9 [(1,.ptr 0 4 0),(6,.i a0.f0),(30,.bool true)] ?_
     exact hj3 true
    ·refine oL 5 g20p9 [(1,.ptr 0 4 0),(6,.i a0.f0),(30,.bool (decide (a0.f0 = 4)))] ?_
     exact hj3 (decide (a0.f0 = 4))
def par6 (n:Nat):Fns6:=Nat.rec (motive:=fun _=>Fns6) ⟨fun _=>none⟩ (fun k F=>⟨g20B k F⟩) n
theorem qIf : ∀ k, FnsOk6 (par6 k)
 | 0=>⟨(fun _ _ h=>nomatch h)⟩
 | k + 1=>⟨g20B_ok k (par6 k) (qIf k)⟩
def g20 (k:Nat) (a0:S25):Option Bool:=(par6 k).g20 a0
theorem g20_ok (k:Nat):∀ (a0:S25),∀ (r:Bool),g20 k a0 = some r → PureOk Try.prog 20 [.agg [.i a0.f0,.i a0.f1,.str a0.f2,q26 a0.f3]] (.bool r):=(qIf k).g20_ok
end
structure Fns7 where
 g21:S25 → Option Int
structure FnsOk7 (F:Fns7):Prop where
 g21_ok:∀ (a0:S25),∀ (r:Int),F.g21 a0 = some r → PureOk Try.prog 21 [.agg [.i a0.f0,.i a0.f1,.str a0.f2,q26 a0.f3]] (.i r)
end Go.Proofs.Ytdaaodknplbmkaa.Am
set_option maxRecDepth 100000
set_option linter.unusedVariables false
namespace Go.Proofs.Ytdaaodknplbmkaa.Am
noncomputable section
open Go
def Xg21:Fx Int:=⟨Try.prog,cx,Try.f21,fun r => .i r,0,fun _=>H0,cxTi,cxOrd,fun _=>none,false⟩
def g21p3:Pt:=nav [0,0,0,0] (nav [0,0,0,0] (nav [0,0,0] (nav [0] (bodyAt Try.f21))))
def g21p5:Pt:=nav [0,0] (nav [0,0,0] g21p3)
def g21p6:Pt:=nav [1,0,0,0] g21p5
def qFx (k:Nat) (F:Fns7)  (a0:S25) (ih:Int → Int → Option Int):Int → Int → Option Int :=
 fun (y1_0:Int) (y1_1:Int)=>if (decide (y1_1 < (a0.f3.n:Int))) then ((nthR d26 4 a0.f3.n a0.f3.cells y1_1).bind fun x0_4=>(F.g21 x0_4).bind fun x0_6=>ih (fW .i64 (y1_0 + x0_6)) (fW .i64 (y1_1 + 1))) else (some y1_0)
def qDu (k:Nat) (F:Fns7)  (a0:S25) (n:Nat):Int → Int → Option Int:=lp (fun _ _=>none) (qFx k F a0) n
theorem qH1 (k:Nat) (F:Fns7)  (a0:S25) (n:Nat) (y1_0:Int) (y1_1:Int):qDu k F a0 (n + 1) y1_0 y1_1 = (if (decide (y1_1 < (a0.f3.n:Int))) then ((nthR d26 4 a0.f3.n a0.f3.cells y1_1).bind fun x0_4=>(F.g21 x0_4).bind fun x0_6=>(qDu k F a0 n) (fW .i64 (y1_0 + x0_6)) (fW .i64 (y1_1 + 1))) else (some y1_0)):=rfl
theorem qJh (k:Nat) (F:Fns7) (hF:FnsOk7 F)   (a0:S25)  : ∀ (n:Nat) (y1_0:Int) (y1_1:Int),Ok Xg21 g21p3 [(1,.ptr 0 4 0),(3,.i y1_0),(4,.i y1_1)] (mkH [⟨[.i a0.f0,.i a0.f1,.str a0.f2,q26 a0.f3],0,false⟩]) (qDu k F a0 n y1_0 y1_1):=by
 intro n
 induction n with
 | zero=>intro y1_0 y1_1; exact ok_none
 | succ n ih =>
  intro y1_0 y1_1
  show Ok _ _ _ _ (qFx k F a0 (qDu k F a0 n) y1_0 y1_1)
  unfold qFx
  refine qAe (p':=nav [0] g21p3) (by kernel_rfl) ?_
  let E2:Env:=[(9,.bool (decide (y1_1 < (a0.f3.n:Int)))),(8,.i (a0.f3.n:Int)),(7,q26 a0.f3),(6,.ptr 0 4 3),(5,.i y1_1),(1,.ptr 0 4 0),(3,.i y1_0),(4,.i y1_1)]
  refine oH 9 g21p5 E2 (mkH [⟨e26 a0,0,false⟩]) ?_
  refine oS 9 (fun hb=>?_) (fun hb=>?_)
  ·let E3:Env:=((15,.i y1_1) :: (14,q26 a0.f3) :: (13,.ptr 0 4 3) :: (12,.i y1_0) :: (9,.bool true) :: E2)
   refine oR 9 (atN 4 (ctl1 g21p6)) E3 ?_
   refine qAi (fun (x0_4:S25)=>(.vptr [.i x0_4.f0,.i x0_4.f1,.str x0_4.f2,q26 x0_4.f3],(mkH [⟨e26 a0,0,false⟩]))) (atN 5 (ctl1 g21p6)) (fun x0_4=>((16,.vptr [.i x0_4.f0,.i x0_4.f1,.str x0_4.f2,q26 x0_4.f3]) :: E3)) (fun _ hx=>vidxR (sz:=4) qBa hx (by kernel_rfl)) (fun _=>by kernel_rfl) (fun x0_4 hx0_4=>?_)
   refine oH 1 (atN 6 (ctl1 g21p6)) ((17,n26 x0_4) :: (16,.vptr [.i x0_4.f0,.i x0_4.f1,.str x0_4.f2,q26 x0_4.f3]) :: E3) (mkH [⟨e26 a0,0,false⟩]) ?_
   refine oA (fun (x0_6:Int) => .i x0_6) (atN 7 (ctl1 g21p6)) 18 [n26 x0_4] (hF.g21_ok x0_4) fun x0_6 hx0_6=>?_
   refine oL 3 (nav [0,0] g21p6) [(1,.ptr 0 4 0),(3,.i (fW .i64 (y1_0 + x0_6))),(4,.i y1_1)] ?_
   refine oL 5 g21p3 [(1,.ptr 0 4 0),(3,.i (fW .i64 (y1_0 + x0_6))),(4,.i (fW .i64 (y1_1 + 1)))] ?_
   exact ih (fW .i64 (y1_0 + x0_6)) (fW .i64 (y1_1 + 1))
  ·exact oQ 8
def g21B (k:Nat) (F:Fns7) (a0:S25):Option Int :=
 qDu k F a0 k 1 0
theorem g21B_ok (k:Nat) (F:Fns7) (hF:FnsOk7 F) (a0:S25) (r:Int) (h:g21B k F a0 = some r):PureOk Try.prog 21 [.agg [.i a0.f0,.i a0.f1,.str a0.f2,q26 a0.f3]] (.i r):=by
 refine qA2 Xg21 (fun _=>⟨rfl,rfl⟩) Try.func21 (by decide +kernel) (by kernel_rfl) (t:=g21B k F a0) ?_ h
 unfold g21B
 refine qA1 (eE:=[(0,.agg [.i a0.f0,.i a0.f1,.str a0.f2,q26 a0.f3])]) (by kernel_rfl) ?_
 refine oLH 16 g21p3 [(1,.ptr 0 4 0),(3,.i 1),(4,.i 0)] (mkH [⟨e26 a0,0,false⟩]) ?_
 exact (qJh k F hF a0 k) 1 0
def par7 (n:Nat):Fns7:=Nat.rec (motive:=fun _=>Fns7) ⟨fun _=>none⟩ (fun k F=>⟨g21B k F⟩) n
theorem qIe : ∀ k, FnsOk7 (par7 k)
 | 0=>⟨(fun _ _ h=>nomatch h)⟩
 | k + 1=>⟨g21B_ok k (par7 k) (qIe k)⟩
def g21 (k:Nat) (a0:S25):Option Int:=(par7 k).g21 a0
theorem g21_ok (k:Nat):∀ (a0:S25),∀ (r:Int),g21 k a0 = some r → PureOk Try.prog 21 [.agg [.i a0.f0,.i a0.f1,.str a0.f2,q26 a0.f3]] (.i r):=(qIe k).g21_ok
def Xg8:Fx Bool:=⟨Try.prog,cx,Try.f8,fun r => .bool r,0,fun _=>H0,cxTi,cxOrd,fun _=>none,false⟩
def g8p1:Pt:=nav [0,0,0] (nav [0] (bodyAt Try.f8))
def g8 (k:Nat) (a0:S25):Option Bool :=
 (g19 k a0 (200001:Int)).bind fun x0_1=>if (decide (x0_1 ≤ 200000)) then ((g20 k a0).bind fun x0_5=>if x0_5 then ((g21 k a0).bind fun x0_9=>some (decide (x0_9 ≤ 2000000))) else (some false)) else (some false)
theorem g8_ok (k:Nat) (a0:S25) (r:Bool) (h:g8 k a0 = some r):PureOk Try.prog 8 [.agg [.i a0.f0,.i a0.f1,.str a0.f2,q26 a0.f3]] (.bool r):=by
 refine qA2 Xg8 (fun _=>⟨rfl,rfl⟩) Try.func8 (by decide +kernel) (by kernel_rfl) (t:=g8 k a0) ?_ h
 unfold g8
 refine qA1 (eE:=[(0,.agg [.i a0.f0,.i a0.f1,.str a0.f2,q26 a0.f3])]) (by kernel_rfl) ?_
 refine oH 8 (atN 1 (ctl1 g8p1)) [(3,n26 a0),(2,.bool false),(1,.ptr 0 4 0),(0,n26 a0)] (mkH [⟨e26 a0,0,false⟩]) ?_
 refine oA (fun (x0_1:Int) => .i x0_1) (atN 2 (ctl1 g8p1)) 4 [n26 a0,.i 200001] (g19_ok k a0 (200001:Int)) fun x0_1 hx0_1=>?_
 let E1:Env:=[(6,.bool (decide (x0_1 ≤ 200000))),(5,.bool (decide (x0_1 ≤ 200000))),(4,.i x0_1),(3,n26 a0),(2,.bool false),(1,.ptr 0 4 0),(0,n26 a0)]
 refine oR 2 (atN 4 (ctl1 g8p1)) E1 ?_
 refine oS 6 (fun hb=>?_) (fun hb=>?_)
 ·refine oR 1 (atN 5 (ctl1 g8p1)) ((7,n26 a0) :: (6,.bool true) :: E1) ?_
  refine oA (fun (x0_5:Bool) => .bool x0_5) (atN 6 (ctl1 g8p1)) 8 [n26 a0] (g20_ok k a0) fun x0_5 hx0_5=>?_
  let E2:Env:=((10,.bool x0_5) :: (9,.bool x0_5) :: (8,.bool x0_5) :: (7,n26 a0) :: (6,.bool true) :: E1)
  refine oR 2 (atN 8 (ctl1 g8p1)) E2 ?_
  refine oS 10 (fun hb=>?_) (fun hb=>?_)
  ·refine oR 1 (atN 9 (ctl1 g8p1)) ((11,n26 a0) :: (10,.bool true) :: E2) ?_
   refine oA (fun (x0_9:Int) => .i x0_9) (atN 10 (ctl1 g8p1)) 12 [n26 a0] (g21_ok k a0) fun x0_9 hx0_9=>?_
   exact oQ 5
  ·exact oQ 7
 ·exact oQ 11
end
structure Fns10 where
 g12:S25 → Option Int
structure FnsOk10 (F:Fns10):Prop where
 g12_ok:∀ (a0:S25),∀ (r:Int),F.g12 a0 = some r → PureOk Try.prog 12 [.agg [.i a0.f0,.i a0.f1,.str a0.f2,q26 a0.f3]] (.i r)
end Go.Proofs.Ytdaaodknplbmkaa.Am
set_option maxRecDepth 100000
set_option linter.unusedVariables false
namespace Go.Proofs.Ytdaaodknplbmkaa.Am
noncomputable section
open Go
def Xg12:Fx Int:=⟨Try.prog,cx,Try.f12,fun r => .i r,0,fun _=>H0,cxTi,cxOrd,fun _=>none,false⟩
def g12p3:Pt:=nav [0,0] (nav [0,0,0,0] (nav [0,0,0,0] (nav [0] (bodyAt Try.f12))))
def g12p4:Pt:=nav [1,0] g12p3
def g12p7:Pt:=nav [0,0] (nav [2,0] g12p3)
def g12p11:Pt:=nav [0,0,0,0] (nav [0,0,0,0] (nav [2,0,0] g12p7))
def g12p13:Pt:=nav [0,0] (nav [0,0,0] g12p11)
def g12p14:Pt:=nav [1,0,0,0] g12p13
def qG4 (k:Nat) (F:Fns10)  (a0:S25) (ih:Int → Int → Option Int):Int → Int → Option Int :=
 fun (y2_0:Int) (y2_1:Int)=>if (decide (y2_1 < (a0.f3.n:Int))) then ((nthR d26 4 a0.f3.n a0.f3.cells y2_1).bind fun x1_4=>(F.g12 x1_4).bind fun x1_6=>ih (fW .i64 (y2_0 + x1_6)) (fW .i64 (y2_1 + 1))) else (some y2_0)
def qD6 (k:Nat) (F:Fns10)  (a0:S25) (n:Nat):Int → Int → Option Int:=lp (fun _ _=>none) (qG4 k F a0) n
theorem qH9 (k:Nat) (F:Fns10)  (a0:S25) (n:Nat) (y2_0:Int) (y2_1:Int):qD6 k F a0 (n + 1) y2_0 y2_1 = (if (decide (y2_1 < (a0.f3.n:Int))) then ((nthR d26 4 a0.f3.n a0.f3.cells y2_1).bind fun x1_4=>(F.g12 x1_4).bind fun x1_6=>(qD6 k F a0 n) (fW .i64 (y2_0 + x1_6)) (fW .i64 (y2_1 + 1))) else (some y2_0)):=rfl
theorem qJp (k:Nat) (F:Fns10) (hF:FnsOk10 F)   (a0:S25)  : ∀ (n:Nat) (y2_0:Int) (y2_1:Int),Ok Xg12 g12p11 [(1,.ptr 0 4 0),(3,.i y2_0),(4,.i y2_1)] (mkH [⟨[.i a0.f0,.i a0.f1,.str a0.f2,q26 a0.f3],0,false⟩]) (qD6 k F a0 n y2_0 y2_1):=by
 intro n
 induction n with
 | zero=>intro y2_0 y2_1; exact ok_none
 | succ n ih =>
  intro y2_0 y2_1
  show Ok _ _ _ _ (qG4 k F a0 (qD6 k F a0 n) y2_0 y2_1)
  unfold qG4
  refine qAe (p':=nav [0] g12p11) (by kernel_rfl) ?_
  let E4:Env:=[(18,.bool (decide (y2_1 < (a0.f3.n:Int)))),(17,.i (a0.f3.n:Int)),(16,q26 a0.f3),(15,.ptr 0 4 3),(14,.i y2_1),(1,.ptr 0 4 0),(3,.i y2_0),(4,.i y2_1)]
  refine oH 9 g12p13 E4 (mkH [⟨e26 a0,0,false⟩]) ?_
  refine oS 18 (fun hb=>?_) (fun hb=>?_)
  ·let E5:Env:=((24,.i y2_1) :: (23,q26 a0.f3) :: (22,.ptr 0 4 3) :: (21,.i y2_0) :: (18,.bool true) :: E4)
   refine oR 9 (atN 4 (ctl1 g12p14)) E5 ?_
   refine qAi (fun (x1_4:S25)=>(.vptr [.i x1_4.f0,.i x1_4.f1,.str x1_4.f2,q26 x1_4.f3],(mkH [⟨e26 a0,0,false⟩]))) (atN 5 (ctl1 g12p14)) (fun x1_4=>((25,.vptr [.i x1_4.f0,.i x1_4.f1,.str x1_4.f2,q26 x1_4.f3]) :: E5)) (fun _ hx=>vidxR (sz:=4) qBa hx (by kernel_rfl)) (fun _=>by kernel_rfl) (fun x1_4 hx1_4=>?_)
   refine oH 1 (atN 6 (ctl1 g12p14)) ((26,n26 x1_4) :: (25,.vptr [.i x1_4.f0,.i x1_4.f1,.str x1_4.f2,q26 x1_4.f3]) :: E5) (mkH [⟨e26 a0,0,false⟩]) ?_
   refine oA (fun (x1_6:Int) => .i x1_6) (atN 7 (ctl1 g12p14)) 27 [n26 x1_4] (hF.g12_ok x1_4) fun x1_6 hx1_6=>?_
   refine oL 3 (nav [0,0] g12p14) [(1,.ptr 0 4 0),(3,.i (fW .i64 (y2_0 + x1_6))),(4,.i y2_1)] ?_
   refine oL 5 g12p11 [(1,.ptr 0 4 0),(3,.i (fW .i64 (y2_0 + x1_6))),(4,.i (fW .i64 (y2_1 + 1)))] ?_
   exact ih (fW .i64 (y2_0 + x1_6)) (fW .i64 (y2_1 + 1))
  ·exact oQ 8
def g12B (k:Nat) (F:Fns10) (a0:S25):Option Int :=
 if (decide (a0.f0 = 1)) then ((g17 k a0.f2).bind fun x0_2=>some x0_2) else (if (decide (a0.f0 = 2)) then (some (1:Int)) else (qD6 k F a0 k 0 0))
theorem g12B_ok (k:Nat) (F:Fns10) (hF:FnsOk10 F) (a0:S25) (r:Int) (h:g12B k F a0 = some r):PureOk Try.prog 12 [.agg [.i a0.f0,.i a0.f1,.str a0.f2,q26 a0.f3]] (.i r):=by
 refine qA2 Xg12 (fun _=>⟨rfl,rfl⟩) Try.func12 (by decide +kernel) (by kernel_rfl) (t:=g12B k F a0) ?_ h
 unfold g12B
 refine qA1 (eE:=[(0,.agg [.i a0.f0,.i a0.f1,.str a0.f2,q26 a0.f3])]) (by kernel_rfl) ?_
 let E1:Env:=[(7,.bool (decide (a0.f0 = 1))),(8,.bool (decide (a0.f0 = 1))),(6,.i a0.f0),(5,.ptr 0 4 0),(2,.i 0),(1,.ptr 0 4 0),(0,n26 a0)]
 refine oH 17 g12p3 E1 (mkH [⟨e26 a0,0,false⟩]) ?_
 refine oS 7 (fun hb=>?_) (fun hb=>?_)
 ·refine oR 5 (atN 2 (ctl1 g12p4)) ((10,.str a0.f2) :: (9,.ptr 0 4 2) :: (7,.bool true) :: E1) ?_
  refine oA (fun (x0_2:Int) => .i x0_2) (atN 3 (ctl1 g12p4)) 11 [.str a0.f2] (g17_ok k a0.f2) fun x0_2 hx0_2=>?_
  exact oQ 3
 ·refine oL 6 g12p7 [(1,.ptr 0 4 0),(12,.bool (decide (a0.f0 = 2)))] ?_
  refine oS 12 (fun hb=>?_) (fun hb=>?_)
  ·exact oQ 6
  ·refine oL 13 g12p11 [(1,.ptr 0 4 0),(3,.i 0),(4,.i 0)] ?_
   exact (qJp k F hF a0 k) 0 0
def par10 (n:Nat):Fns10:=Nat.rec (motive:=fun _=>Fns10) ⟨fun _=>none⟩ (fun k F=>⟨g12B k F⟩) n
theorem qGl : ∀ k, FnsOk10 (par10 k)
 | 0=>⟨(fun _ _ h=>nomatch h)⟩
 | k + 1=>⟨g12B_ok k (par10 k) (qGl k)⟩
def g12 (k:Nat) (a0:S25):Option Int:=(par10 k).g12 a0
theorem g12_ok (k:Nat):∀ (a0:S25),∀ (r:Int),g12 k a0 = some r → PureOk Try.prog 12 [.agg [.i a0.f0,.i a0.f1,.str a0.f2,q26 a0.f3]] (.i r):=(qGl k).g12_ok
def Xg3:Fx Bool:=⟨Try.prog,cx,Try.f3,fun r => .bool r,0,fun _=>H0,cxTi,cxOrd,fun _=>none,false⟩
def g3p2:Pt:=nav [0,0] (nav [0,0,0,0] (nav [0] (bodyAt Try.f3)))
def g3p3:Pt:=nav [1,0] g3p2
def g3p6:Pt:=nav [0,0,0,0] (nav [2,0,0,0] g3p2)
def g3p8:Pt:=nav [0,0] (nav [0,0,0] g3p6)
def g3p9:Pt:=nav [1,0,0,0,0,0] g3p8
def g3p10:Pt:=nav [2,0,0] g3p8
def g3p11:Pt:=nav [0,0] g3p9
def g3p12:Pt:=nav [1,0] g3p11
def g3p13:Pt:=nav [2,0,0] g3p11
def g3p14:Pt:=nav [0,0,0] g3p13
def g3p15:Pt:=nav [0,0,0] g3p14
def g3d0:DP:=⟨[],[(0,0,0),(0,0,0),(3,0,0),(7,0,0),(15,0,0),(15,0,0),(63,0,0),(127,0,0),(255,0,0),(511,0,0),(511,0,0),(2047,0,0),(4095,0,0),(8191,0,0),(511,0,0),(511,0,0),(49663,0,0),(115199,0,1),(262143,0,0),(524287,0,0),(1048575,0,0)],21,thrown,[],H0⟩
def qJb (k:Nat)  (a0:(List S25)) (ih:Int → Option Bool):Int → Option Bool :=
 fun (y7_0:Int)=>if (decide (y7_0 < (a0.length:Int))) then ((nthL a0 y7_0).bind fun x1_2=>(g7 k x1_2).bind fun x1_4=>jn (fun (z8:Bool × Int)=>if z8.1 then ((g6 k).bind fun x3_0=>some x3_0) else ((nthL a0 z8.2).bind fun x4_2=>(g9 k x4_2).bind fun x4_4=>(nthL a0 z8.2).bind fun x5_2=>(g10 k x5_2).bind fun x5_4=>jn (fun (z9:Bool × Int)=>if z9.1 then (some false) else (ih (fW .i64 (z9.2 + 1)))) (fun j9=>if (!(eqL x4_4.1 x5_4.1)) then (j9 (true,z8.2)) else (if (!(x4_4.2 == x5_4.2)) then (j9 (true,z8.2)) else ((nthL a0 z8.2).bind fun x6_11=>(g11 k x6_11).bind fun x6_13=>(nthL a0 z8.2).bind fun x6_16=>(g12 k x6_16).bind fun x6_18=>j9 (!decide (x6_13 = x6_18),z8.2)))))) (fun j8=>if (!x1_4) then (j8 (true,y7_0)) else ((nthL a0 y7_0).bind fun x1_9=>(g8 k x1_9).bind fun x1_11=>j8 (!x1_11,y7_0)))) else ((g6 k).bind fun x2_0=>if x2_0 then ((g13 k a0).bind fun x2_3=>(g14 k a0).bind fun x2_5=>some (decide (x2_3 = x2_5))) else (some false))
def qFr (k:Nat)  (a0:(List S25)) (n:Nat):Int → Option Bool:=lp (fun _=>none) (qJb k a0) n
theorem qJa (k:Nat)  (a0:(List S25)) (n:Nat) (y7_0:Int):qFr k a0 (n + 1) y7_0 = (if (decide (y7_0 < (a0.length:Int))) then ((nthL a0 y7_0).bind fun x1_2=>(g7 k x1_2).bind fun x1_4=>jn (fun (z8:Bool × Int)=>if z8.1 then ((g6 k).bind fun x3_0=>some x3_0) else ((nthL a0 z8.2).bind fun x4_2=>(g9 k x4_2).bind fun x4_4=>(nthL a0 z8.2).bind fun x5_2=>(g10 k x5_2).bind fun x5_4=>jn (fun (z9:Bool × Int)=>if z9.1 then (some false) else ((qFr k a0 n) (fW .i64 (z9.2 + 1)))) (fun j9=>if (!(eqL x4_4.1 x5_4.1)) then (j9 (true,z8.2)) else (if (!(x4_4.2 == x5_4.2)) then (j9 (true,z8.2)) else ((nthL a0 z8.2).bind fun x6_11=>(g11 k x6_11).bind fun x6_13=>(nthL a0 z8.2).bind fun x6_16=>(g12 k x6_16).bind fun x6_18=>j9 (!decide (x6_13 = x6_18),z8.2)))))) (fun j8=>if (!x1_4) then (j8 (true,y7_0)) else ((nthL a0 y7_0).bind fun x1_9=>(g8 k x1_9).bind fun x1_11=>j8 (!x1_11,y7_0)))) else ((g6 k).bind fun x2_0=>if x2_0 then ((g13 k a0).bind fun x2_3=>(g14 k a0).bind fun x2_5=>some (decide (x2_3 = x2_5))) else (some false))):=rfl
theorem g3_l7_ok (k:Nat)   (a0:(List S25))  : ∀ (n:Nat) (y7_0:Int),Ok Xg3 g3p6 [(0,w26 a0),(3,.i y7_0)] (mkH []) (qFr k a0 n y7_0):=by
 intro n
 induction n with
 | zero=>intro y7_0; exact ok_none
 | succ n ih =>
  intro y7_0
  show Ok _ _ _ _ (qJb k a0 (qFr k a0 n) y7_0)
  unfold qJb
  refine qAe (p':=nav [0] g3p6) (by kernel_rfl) ?_
  let E2:Env:=[(15,.bool (decide (y7_0 < (a0.length:Int)))),(14,.i (a0.length:Int)),(13,w26 a0),(12,.i y7_0),(0,w26 a0),(3,.i y7_0)]
  refine oH 8 g3p8 E2 (mkH []) ?_
  refine oS 15 (fun hb=>?_) (fun hb=>?_)
  ·refine oR 9 (atN 2 (ctl1 g3p9)) ((19,.i y7_0) :: (18,w26 a0) :: (15,.bool true) :: E2) ?_
   refine oC (fun (x1_2:S25)=>(.vptr [.i x1_2.f0,.i x1_2.f1,.str x1_2.f2,q26 x1_2.f3],(mkH []))) (atN 3 (ctl1 g3p9)) 20 (vidxH (sz:=4) qBv (by kernel_rfl)) fun x1_2 hx1_2=>?_
   let E3:Env:=((21,n26 x1_2) :: (20,.vptr [.i x1_2.f0,.i x1_2.f1,.str x1_2.f2,q26 x1_2.f3]) :: (19,.i y7_0) :: (18,w26 a0) :: (15,.bool true) :: E2)
   refine oH 1 (atN 4 (ctl1 g3p9)) E3 (mkH []) ?_
   refine oA (fun (x1_4:Bool) => .bool x1_4) (atN 5 (ctl1 g3p9)) 22 [n26 x1_2] (g7_ok k x1_2) fun x1_4 hx1_4=>?_
   refine oR 2 (atN 7 (ctl1 g3p9)) ((24,.bool (!x1_4)) :: (23,.bool (!x1_4)) :: (22,.bool x1_4) :: E3) ?_
   refine oJ g3p11 (fun (z8:Bool × Int)=>[(0,w26 a0),(3,.i z8.2),(31,.bool z8.1)]) (fun (z8:Bool × Int)=>(mkH [])) (fun z8=>?_) (fun j8 hj8=>?_)
   ·refine oS 31 (fun hb=>?_) (fun hb=>?_)
    ·refine oH 3 (atN 0 (ctl1 g3p12)) [(31,.bool true),(0,w26 a0),(3,.i z8.2),(31,.bool z8.1)] (mkH []) ?_
     refine oA (fun (x3_0:Bool) => .bool x3_0) (atN 1 (ctl1 g3p12)) 32 [] (g6_ok k ) fun x3_0 hx3_0=>?_
     exact oQ 3
    ·let E5:Env:=[(35,.i z8.2),(34,w26 a0),(31,.bool false),(0,w26 a0),(3,.i z8.2),(31,.bool z8.1)]
     refine oH 6 (atN 2 (ctl1 g3p13)) E5 (mkH []) ?_
     refine oC (fun (x4_2:S25)=>(.vptr [.i x4_2.f0,.i x4_2.f1,.str x4_2.f2,q26 x4_2.f3],(mkH []))) (atN 3 (ctl1 g3p13)) 36 (vidxH (sz:=4) qBv (by kernel_rfl)) fun x4_2 hx4_2=>?_
     refine oH 1 (atN 4 (ctl1 g3p13)) ((37,n26 x4_2) :: (36,.vptr [.i x4_2.f0,.i x4_2.f1,.str x4_2.f2,q26 x4_2.f3]) :: E5) (mkH []) ?_
     refine oA (fun (x4_4:((List Nat) × Bool)) => .tuple [.str x4_4.1,.bool x4_4.2]) (atN 5 (ctl1 g3p13)) 38 [n26 x4_2] (g9_ok k x4_2) fun x4_4 hx4_4=>?_
     let E7:Env:=[(0,w26 a0),(3,.i z8.2),(4,.str x4_4.1),(5,.bool x4_4.2)]
     refine oL 7 g3p14 E7 ?_
     refine oR 3 (atN 2 (ctl1 g3p14)) ((43,.i z8.2) :: (42,w26 a0) :: E7) ?_
     refine oC (fun (x5_2:S25)=>(.vptr [.i x5_2.f0,.i x5_2.f1,.str x5_2.f2,q26 x5_2.f3],(mkH []))) (atN 3 (ctl1 g3p14)) 44 (vidxH (sz:=4) qBv (by kernel_rfl)) fun x5_2 hx5_2=>?_
     refine oH 1 (atN 4 (ctl1 g3p14)) ((45,n26 x5_2) :: (44,.vptr [.i x5_2.f0,.i x5_2.f1,.str x5_2.f2,q26 x5_2.f3]) :: (43,.i z8.2) :: (42,w26 a0) :: E7) (mkH []) ?_
     refine oA (fun (x5_4:((List Nat) × Bool)) => .tuple [.str x5_4.1,.bool x5_4.2]) (atN 5 (ctl1 g3p14)) 46 [n26 x5_2] (g10_ok k x5_2) fun x5_4 hx5_4=>?_
     refine oL 7 g3p15 [(0,w26 a0),(3,.i z8.2),(4,.str x4_4.1),(5,.bool x4_4.2),(6,.str x5_4.1),(7,.bool x5_4.2)] ?_
     refine oJ (nav [0] g3p15) (fun (z9:Bool × Int)=>[(0,w26 a0),(3,.i z9.2),(69,.bool z9.1)]) (fun (z9:Bool × Int)=>(mkH [])) (fun z9=>?_) (fun j9 hj9=>?_)
     ·refine oS 69 (fun hb=>?_) (fun hb=>?_)
      ·exact oQ 6
      ·refine oLH 7 g3p6 [(0,w26 a0),(3,.i (fW .i64 (z9.2 + 1)))] (mkH []) ?_
       exact ih (fW .i64 (z9.2 + 1))
     ·refine ok_if (fun hb10=>?_) (fun hb10=>?_)
      ·let E13:Env:=[(52,.bool (!(eqL x4_4.1 x5_4.1))),(51,.bool (!(eqL x4_4.1 x5_4.1))),(50,.str x5_4.1),(49,.str x4_4.1),(0,w26 a0),(3,.i z8.2),(4,.str x4_4.1),(5,.bool x4_4.2),(6,.str x5_4.1),(7,.bool x5_4.2)]
       let E14:Env:=[(69,.bool true),(68,.tuple []),(67,.tuple []),(66,.tuple []),(65,.tuple []),(64,.tuple []),(63,.tuple []),(62,.tuple []),(61,.tuple []),(60,.tuple []),(59,.tuple []),(58,.tuple []),(57,.bool true),(56,.bool true),(55,.tuple []),(54,.tuple []),(53,.tuple []),(52,.bool true),(51,.bool true),(50,.str x5_4.1),(49,.str x4_4.1),(0,w26 a0),(3,.i z8.2),(4,.str x4_4.1),(5,.bool x4_4.2),(6,.str x5_4.1),(7,.bool x5_4.2)]
       refine oD (H':=(mkH [])) (nav [0] g3p15) E14 [(mkH []),(mkH [])] g3d0 (oDr 4 4 E13 (oDe (fun z=>[(52,.bool z),(51,.bool z),(50,.str x5_4.1),(49,.str x4_4.1),(0,w26 a0),(3,.i z8.2),(4,.str x4_4.1),(5,.bool x4_4.2),(6,.str x5_4.1),(7,.bool x5_4.2)]) hb10 (oDh 17 21 E14 (mkH []) [(mkH []),(mkH [])] .nil))) ?_
       refine oK [0,3,69] [(0,w26 a0),(3,.i z8.2),(69,.bool true)] ?_
       exact hj9 (true,z8.2)
      ·refine ok_if (fun hb11=>?_) (fun hb11=>?_)
       ·let E13:Env:=[(52,.bool (!(eqL x4_4.1 x5_4.1))),(51,.bool (!(eqL x4_4.1 x5_4.1))),(50,.str x5_4.1),(49,.str x4_4.1),(0,w26 a0),(3,.i z8.2),(4,.str x4_4.1),(5,.bool x4_4.2),(6,.str x5_4.1),(7,.bool x5_4.2)]
        let E16:Env:=[(57,.bool (!(x4_4.2 == x5_4.2))),(56,.bool (!(x4_4.2 == x5_4.2))),(55,.bool (!(x4_4.2 == x5_4.2))),(54,.bool x5_4.2),(53,.bool x4_4.2),(52,.bool false),(51,.bool false),(50,.str x5_4.1),(49,.str x4_4.1),(0,w26 a0),(3,.i z8.2),(4,.str x4_4.1),(5,.bool x4_4.2),(6,.str x5_4.1),(7,.bool x5_4.2)]
        let E17:Env:=[(69,.bool true),(68,.tuple []),(67,.tuple []),(66,.tuple []),(65,.tuple []),(64,.tuple []),(63,.tuple []),(62,.tuple []),(61,.tuple []),(60,.tuple []),(59,.tuple []),(58,.tuple []),(57,.bool true),(56,.bool true),(55,.bool true),(54,.bool x5_4.2),(53,.bool x4_4.2),(52,.bool false),(51,.bool false),(50,.str x5_4.1),(49,.str x4_4.1),(0,w26 a0),(3,.i z8.2),(4,.str x4_4.1),(5,.bool x4_4.2),(6,.str x5_4.1),(7,.bool x5_4.2)]
        refine oD (H':=(mkH [])) (nav [0] g3p15) E17 [(mkH []),(mkH [])] g3d0 (oDr 4 4 E13 (oDe (fun z=>[(52,.bool z),(51,.bool z),(50,.str x5_4.1),(49,.str x4_4.1),(0,w26 a0),(3,.i z8.2),(4,.str x4_4.1),(5,.bool x4_4.2),(6,.str x5_4.1),(7,.bool x5_4.2)]) hb10 (oDr 5 9 E16 (oDe (fun z=>[(57,.bool z),(56,.bool z),(55,.bool z),(54,.bool x5_4.2),(53,.bool x4_4.2),(52,.bool false),(51,.bool false),(50,.str x5_4.1),(49,.str x4_4.1),(0,w26 a0),(3,.i z8.2),(4,.str x4_4.1),(5,.bool x4_4.2),(6,.str x5_4.1),(7,.bool x5_4.2)]) hb11 (oDh 12 21 E17 (mkH []) [(mkH []),(mkH [])] .nil))))) ?_
        refine oK [0,3,69] [(0,w26 a0),(3,.i z8.2),(69,.bool true)] ?_
        exact hj9 (true,z8.2)
       ·refine qAj (fun x6_11 hx6_11=>?_)
        refine qAj (fun x6_13 hx6_13=>?_)
        refine qAj (fun x6_16 hx6_16=>?_)
        refine qAj (fun x6_18 hx6_18=>?_)
        let E13:Env:=[(52,.bool (!(eqL x4_4.1 x5_4.1))),(51,.bool (!(eqL x4_4.1 x5_4.1))),(50,.str x5_4.1),(49,.str x4_4.1),(0,w26 a0),(3,.i z8.2),(4,.str x4_4.1),(5,.bool x4_4.2),(6,.str x5_4.1),(7,.bool x5_4.2)]
        let E16:Env:=[(57,.bool (!(x4_4.2 == x5_4.2))),(56,.bool (!(x4_4.2 == x5_4.2))),(55,.bool (!(x4_4.2 == x5_4.2))),(54,.bool x5_4.2),(53,.bool x4_4.2),(52,.bool false),(51,.bool false),(50,.str x5_4.1),(49,.str x4_4.1),(0,w26 a0),(3,.i z8.2),(4,.str x4_4.1),(5,.bool x4_4.2),(6,.str x5_4.1),(7,.bool x5_4.2)]
        let E19:Env:=[(59,.i z8.2),(58,w26 a0),(57,.bool false),(56,.bool false),(55,.bool false),(54,.bool x5_4.2),(53,.bool x4_4.2),(52,.bool false),(51,.bool false),(50,.str x5_4.1),(49,.str x4_4.1),(0,w26 a0),(3,.i z8.2),(4,.str x4_4.1),(5,.bool x4_4.2),(6,.str x5_4.1),(7,.bool x5_4.2)]
        let E20:Env:=((64,.i z8.2) :: (63,w26 a0) :: (62,.i x6_13) :: (61,n26 x6_11) :: (60,.vptr [.i x6_11.f0,.i x6_11.f1,.str x6_11.f2,q26 x6_11.f3]) :: E19)
        let E21:Env:=((69,.bool (!decide (x6_13 = x6_18))) :: (68,.bool (!decide (x6_13 = x6_18))) :: (67,.i x6_18) :: (66,n26 x6_16) :: (65,.vptr [.i x6_16.f0,.i x6_16.f1,.str x6_16.f2,q26 x6_16.f3]) :: E20)
        refine oD (H':=(mkH [])) (nav [0] g3p15) E21 [(mkH []),(mkH [])] g3d0 (oDr 4 4 E13 (oDe (fun z=>[(52,.bool z),(51,.bool z),(50,.str x5_4.1),(49,.str x4_4.1),(0,w26 a0),(3,.i z8.2),(4,.str x4_4.1),(5,.bool x4_4.2),(6,.str x5_4.1),(7,.bool x5_4.2)]) hb10 (oDr 5 9 E16 (oDe (fun z=>[(57,.bool z),(56,.bool z),(55,.bool z),(54,.bool x5_4.2),(53,.bool x4_4.2),(52,.bool false),(51,.bool false),(50,.str x5_4.1),(49,.str x4_4.1),(0,w26 a0),(3,.i z8.2),(4,.str x4_4.1),(5,.bool x4_4.2),(6,.str x5_4.1),(7,.bool x5_4.2)]) hb11 (oDr 2 11 E19 (qE4 (l':=(opsAt g3p15).toList.drop 12) (eE:=((60,.vptr [.i x6_11.f0,.i x6_11.f1,.str x6_11.f2,q26 x6_11.f3]) :: E19)) (hs:=[]) (x:=x6_11) (fun (x6_11:S25)=>(.vptr [.i x6_11.f0,.i x6_11.f1,.str x6_11.f2,q26 x6_11.f3],(mkH []))) (vidxH (sz:=4) qBv (by kernel_rfl)) hx6_11 (by kernel_rfl) (oDr 1 13 ((61,n26 x6_11) :: (60,.vptr [.i x6_11.f0,.i x6_11.f1,.str x6_11.f2,q26 x6_11.f3]) :: E19) (qC0 (l':=(opsAt g3p15).toList.drop 14) (eE:=((62,.i x6_13) :: (61,n26 x6_11) :: (60,.vptr [.i x6_11.f0,.i x6_11.f1,.str x6_11.f2,q26 x6_11.f3]) :: E19)) (hs:=[(mkH [])]) (fi:=11) (args:=[n26 x6_11]) (v := .i x6_13) (by kernel_rfl) (by kernel_rfl) (by kernel_rfl) (g11_ok k x6_11 x6_13 hx6_13) (by kernel_rfl) (oDr 2 16 E20 (qE4 (l':=(opsAt g3p15).toList.drop 17) (eE:=((65,.vptr [.i x6_16.f0,.i x6_16.f1,.str x6_16.f2,q26 x6_16.f3]) :: E20)) (hs:=[]) (x:=x6_16) (fun (x6_16:S25)=>(.vptr [.i x6_16.f0,.i x6_16.f1,.str x6_16.f2,q26 x6_16.f3],(mkH []))) (vidxH (sz:=4) qBv (by kernel_rfl)) hx6_16 (by kernel_rfl) (oDr 1 18 ((66,n26 x6_16) :: (65,.vptr [.i x6_16.f0,.i x6_16.f1,.str x6_16.f2,q26 x6_16.f3]) :: E20) (qC0 (l':=(opsAt g3p15).toList.drop 19) (eE:=((67,.i x6_18) :: (66,n26 x6_16) :: (65,.vptr [.i x6_16.f0,.i x6_16.f1,.str x6_16.f2,q26 x6_16.f3]) :: E20)) (hs:=[(mkH [])]) (fi:=12) (args:=[n26 x6_16]) (v := .i x6_18) (by kernel_rfl) (by kernel_rfl) (by kernel_rfl) (g12_ok k x6_16 x6_18 hx6_18) (by kernel_rfl) (oDr 2 21 E21 .nil))))))))))))) ?_
        refine oK [0,3,69] [(0,w26 a0),(3,.i z8.2),(69,.bool (!decide (x6_13 = x6_18)))] ?_
        exact hj9 (!decide (x6_13 = x6_18),z8.2)
   ·refine oS 24 (fun hb=>?_) (fun hb=>?_)
    ·refine oLH 8 g3p11 [(0,w26 a0),(3,.i y7_0),(31,.bool true)] (mkH []) ?_
     exact hj8 (true,y7_0)
    ·let E25:Env:=((26,.i y7_0) :: (25,w26 a0) :: (24,.bool false) :: (24,.bool (!x1_4)) :: (23,.bool (!x1_4)) :: (22,.bool x1_4) :: E3)
     refine oH 2 (atN 9 (ctl1 g3p9)) E25 (mkH []) ?_
     refine oC (fun (x1_9:S25)=>(.vptr [.i x1_9.f0,.i x1_9.f1,.str x1_9.f2,q26 x1_9.f3],(mkH []))) (atN 10 (ctl1 g3p9)) 27 (vidxH (sz:=4) qBv (by kernel_rfl)) fun x1_9 hx1_9=>?_
     refine oH 1 (atN 11 (ctl1 g3p9)) ((28,n26 x1_9) :: (27,.vptr [.i x1_9.f0,.i x1_9.f1,.str x1_9.f2,q26 x1_9.f3]) :: E25) (mkH []) ?_
     refine oA (fun (x1_11:Bool) => .bool x1_11) (atN 12 (ctl1 g3p9)) 29 [n26 x1_9] (g8_ok k x1_9) fun x1_11 hx1_11=>?_
     refine oL 3 g3p11 [(0,w26 a0),(3,.i y7_0),(31,.bool (!x1_11))] ?_
     exact hj8 (!x1_11,y7_0)
  ·refine oR 4 (atN 0 (ctl1 g3p10)) ((15,.bool false) :: E2) ?_
   refine oA (fun (x2_0:Bool) => .bool x2_0) (atN 1 (ctl1 g3p10)) 70 [] (g6_ok k ) fun x2_0 hx2_0=>?_
   refine oR 1 (atN 2 (ctl1 g3p10)) ((71,.bool x2_0) :: (70,.bool x2_0) :: (15,.bool false) :: E2) ?_
   refine oS 71 (fun hb=>?_) (fun hb=>?_)
   ·let E28:Env:=((72,w26 a0) :: (71,.bool true) :: (71,.bool x2_0) :: (70,.bool x2_0) :: (15,.bool false) :: E2)
    refine oR 1 (atN 3 (ctl1 g3p10)) E28 ?_
    refine oA (fun (x2_3:Int) => .i x2_3) (atN 4 (ctl1 g3p10)) 73 [w26 a0] (g13_ok k a0) fun x2_3 hx2_3=>?_
    refine oR 1 (atN 5 (ctl1 g3p10)) ((74,w26 a0) :: (73,.i x2_3) :: E28) ?_
    refine oA (fun (x2_5:Int) => .i x2_5) (atN 6 (ctl1 g3p10)) 75 [w26 a0] (g14_ok k a0) fun x2_5 hx2_5=>?_
    exact oQ 5
   ·exact oQ 9
def g3 (k:Nat) (a0:(List S25)):Option Bool :=
 if (decide (5 < (a0.length:Int))) then ((g6 k).bind fun x0_0=>some x0_0) else (qFr k a0 k 0)
theorem g3_ok (k:Nat) (a0:(List S25)) (r:Bool) (h:g3 k a0 = some r):PureOk Try.prog 3 [w26 a0] (.bool r):=by
 refine qA2 Xg3 (fun _=>⟨rfl,rfl⟩) Try.func3 (by decide +kernel) (by kernel_rfl) (t:=g3 k a0) ?_ h
 unfold g3
 refine qA1 (eE:=[(0,w26 a0)]) (by kernel_rfl) ?_
 let E1:Env:=[(10,.bool (decide (5 < (a0.length:Int)))),(9,.i (a0.length:Int)),(8,w26 a0),(2,.bool false),(0,w26 a0)]
 refine oH 11 g3p2 E1 (mkH []) ?_
 refine oS 10 (fun hb=>?_) (fun hb=>?_)
 ·refine oR 3 (atN 0 (ctl1 g3p3)) ((10,.bool true) :: E1) ?_
  refine oA (fun (x0_0:Bool) => .bool x0_0) (atN 1 (ctl1 g3p3)) 11 [] (g6_ok k ) fun x0_0 hx0_0=>?_
  exact oQ 3
 ·refine oL 9 g3p6 [(0,w26 a0),(3,.i 0)] ?_
  exact (g3_l7_ok k a0 k) 0
end
structure Fns12 where
 g15:S25 → Option Bool
end Go.Proofs.Ytdaaodknplbmkaa.Am
set_option maxRecDepth 100000
set_option linter.unusedVariables false
namespace Go.Proofs.Ytdaaodknplbmkaa.Am
noncomputable section
open Go
def g15_l2B (k:Nat) (F:Fns12)  (a0:S25) (ih:Int → Option Bool):Int → Option Bool :=
 fun (y2_0:Int)=>if (decide (y2_0 < (a0.f3.n:Int))) then ((nthR d26 4 a0.f3.n a0.f3.cells y2_0).bind fun x1_3=>(F.g15 x1_3).bind fun x1_5=>if (!x1_5) then (some false) else (ih (fW .i64 (y2_0 + 1)))) else (some true)
def g15_l2 (k:Nat) (F:Fns12)  (a0:S25) (n:Nat):Int → Option Bool:=lp (fun _=>none) (g15_l2B k F a0) n
def g15B (k:Nat) (F:Fns12) (a0:S25):Option Bool :=
 (g33 k a0.f2).bind fun x0_2=>if (!x0_2) then (some false) else (g15_l2 k F a0 k 0)
def par12 (n:Nat):Fns12:=Nat.rec (motive:=fun _=>Fns12) ⟨fun _=>none⟩ (fun k F=>⟨g15B k F⟩) n
def g15 (k:Nat) (a0:S25):Option Bool:=(par12 k).g15 a0
def g4 (k:Nat) (a0:S25):Option Bool :=
 (g7 k a0).bind fun x0_1=>jn (fun (z6:Bool)=>if z6 then ((g6 k).bind fun x1_0=>some x1_0) else ((g9 k a0).bind fun x2_1=>(g11 k a0).bind fun x3_1=>(g16 k a0).bind fun x4_2=>jn (fun (z7:Bool)=>if z7 then (some false) else ((g6 k).bind fun x5_0=>if x5_0 then ((g13 k ([a0]:List S25)).bind fun x5_4=>if (decide (x5_4 ≤ x3_1)) then ((g13 k ([(⟨(3:Int),(0:Int),([]:List Nat),⟨(([]:List S25)).length,(([]:List S25)).flatMap e26⟩⟩:S25),a0]:List S25)).bind fun x5_12=>some (decide (x5_12 = 0))) else (some false)) else (some false))) (fun j7=>if (x2_1.2 == x4_2) then (j7 true) else (if x2_1.2 then ((g17 k x2_1.1).bind fun x4_8=>if (!decide (x4_8 = x3_1)) then (j7 true) else (if (!x2_1.2) then (j7 (!(eqL x2_1.1 []))) else (j7 false))) else (if (!x2_1.2) then (j7 (!(eqL x2_1.1 []))) else (j7 false)))))) (fun j6=>if (!x0_1) then (j6 true) else ((g8 k a0).bind fun x0_5=>if (!x0_5) then (j6 true) else ((g15 k a0).bind fun x0_10=>j6 (!x0_10))))
end
inductive Fo where
 | nil:Fo
 | cons (a b:Int) (s:List Nat) (l r:Fo):Fo
def lst : Fo → List S25
 | .nil=>[]
 | .cons a b s l r=>⟨a,b,s,⟨(lst l).length,(lst l).flatMap e26⟩⟩ :: lst r
abbrev nd (a b:Int) (s:List Nat) (l:Fo):S25:=⟨a,b,s,⟨(lst l).length,(lst l).flatMap e26⟩⟩
def fcn : Fo → Nat
 | .nil=>0
 | .cons _ _ _ l r=>1 + fcn l + fcn r
theorem qAc : ∀ f : Fo, (lst f).length ≤ fcn f
 | .nil=>Nat.le_refl _
 | .cons a b s l r=>by
  have:=qAc r
  simp only [lst,fcn,List.length_cons]; omega
theorem qJ : ∀ {f : Fo}, (lst f).length = 0 → f = .nil
 | .nil,_=>rfl
 | .cons ..,h=>by simp [lst] at h
theorem nth_at (p:List S25) (x:S25) (r:List S25):nthR d26 4 (p ++ x :: r).length ((p ++ x :: r).flatMap e26) (p.length:Int) = some x:=by
 unfold nthR
 rw [if_pos ⟨by omega,by simp only [List.length_append,List.length_cons]; omega⟩,Int.toNat_natCast,qCd e26_ln _ _ x (by simp)]
 rfl
structure Fat (x:S25) (p:List S25) (f:Fo):Prop where
 eq:x.f3 = ⟨(p ++ lst f).length,(p ++ lst f).flatMap e26⟩
 le:(p ++ lst f).length ≤ 1000000
theorem Fat.lt {x:S25} {p:List S25} {a b:Int} {s:List Nat} {l r:Fo} (h:Fat x p (.cons a b s l r)):decide ((p.length:Int) < (x.f3.n:Int)) = true:=by
 rw [h.eq]; apply dT
 simp only [List.length_append,lst,List.length_cons]; omega
theorem Fat.nl {x:S25} {p:List S25} (h:Fat x p .nil):decide ((p.length:Int) < (x.f3.n:Int)) = false:=by
 rw [h.eq]; apply dF
 simp only [List.length_append,lst,List.length_nil]; omega
theorem Fat.nth {x:S25} {p:List S25} {a b:Int} {s:List Nat} {l r:Fo} (h:Fat x p (.cons a b s l r)):nthR d26 4 x.f3.n x.f3.cells (p.length:Int) = some (nd a b s l):=by
 rw [h.eq]; exact nth_at p (nd a b s l) (lst r)
theorem Fat.fw {x:S25} {p:List S25} {a b:Int} {s:List Nat} {l r:Fo} (h:Fat x p (.cons a b s l r)):fW .i64 ((p.length:Int) + 1) = (((p ++ [nd a b s l]).length:Nat):Int):=by
 have:=h.le
 simp only [List.length_append] at this
 rw [fw_s (by omega)]; simp
theorem Fat.next {x:S25} {p:List S25} {a b:Int} {s:List Nat} {l r:Fo} (h:Fat x p (.cons a b s l r)):Fat x (p ++ [nd a b s l]) r:=by
 have e:p ++ [nd a b s l] ++ lst r = p ++ lst (.cons a b s l r):=by simp [lst]
 exact ⟨by rw [e]; exact h.eq,by rw [e]; exact h.le⟩
theorem Fat.top {a b:Int} {s:List Nat} {l:Fo} (h:(lst l).length ≤ 1000000):Fat (nd a b s l) [] l:=⟨rfl,h⟩
theorem pos {m n:Nat} (h:n + 1 ≤ m):∃ q,m = q + 1 ∧ n ≤ q:=⟨m - 1,by omega,by omega⟩
def fw : Fo → Nat → Nat → Nat
 | .nil,_,n=>n
 | .cons _ _ s l r,d,n=>if n < 1000 then fw r d (n + (if d = 0 ∨ 100 < s.length ∨ 500 < (lst l).length then 1000 else fw l (d - 1) 1)) else n
def fw1 (s:List Nat) (l:Fo) (d:Nat):Nat:=if d = 0 ∨ 100 < s.length ∨ 500 < (lst l).length then 1000 else fw l (d - 1) 1
theorem fw_le : ∀ (f : Fo) (d n : Nat), n ≤ 1000 * (d + 2) → fw f d n ≤ 1000 * (d + 2)
 | .nil,d,n,h=>h
 | .cons a b s l r,d,n,h=>by
  unfold fw
  split
  ·refine fw_le r d _ ?_
   split
   ·omega
   ·have:=fw_le l (d - 1) 1 (by omega)
    omega
  ·exact h
theorem fw1_le (s:List Nat) (l:Fo) (d:Nat):fw1 s l d ≤ 1000 * (d + 1):=by
 unfold fw1
 split
 ·omega
 ·have:=fw_le l (d - 1) 1 (by omega)
  omega
theorem few_n {k : Nat} {a b : Int} {s : List Nat} {l : Fo} {d : Nat} (h : d ≠ 0 → (lst l).length ≤ 500 → qCi k (par4 k) (nd a b s l) (d : Int) k 1 0 = some ((fw l (d - 1) 1 : Nat) : Int)) :
 (par4 (k + 1)).g18 (nd a b s l) (d:Int) = some ((fw1 s l d:Nat):Int):=by
 show g18B k (par4 k) (nd a b s l) (d:Int) = _
 unfold g18B fw1
 by_cases h0:d = 0
 ·refine (jS (v:=true) (fun j=>?_)).trans ?_
  ·exact iT (dT (by omega)) rfl
  ·rw [if_pos rfl,if_pos (Or.inl h0)]; rfl
 by_cases h1:100 < s.length
 ·refine (jS (v:=true) (fun j=>?_)).trans ?_
  ·exact iF (dF (by omega)) (iT (dT (by show (100:Int) < (s.length:Int); omega)) rfl)
  ·rw [if_pos rfl,if_pos (Or.inr (Or.inl h1))]; rfl
 by_cases h2:500 < (lst l).length
 ·refine (jS (v:=true) (fun j=>?_)).trans ?_
  ·refine iF (dF (by omega)) (iF (dF (by show ¬ (100:Int) < (s.length:Int); omega)) ?_)
   rw [dT (show (500:Int) < ((lst l).length:Int) by omega)]
  ·rw [if_pos rfl,if_pos (Or.inr (Or.inr h2))]; rfl
 ·refine (jS (v:=false) (fun j=>?_)).trans ?_
  ·refine iF (dF (by omega)) (iF (dF (by show ¬ (100:Int) < (s.length:Int); omega)) ?_)
   rw [dF (show ¬ (500:Int) < ((lst l).length:Int) by omega)]
  ·rw [if_neg (by decide),if_neg (by omega)]; exact h h0 (by omega)
theorem few_l : ∀ (f : Fo) (k m : Nat) (x : S25) (p : List S25) (d n : Nat), Fat x p f → d ≤ 60 → n ≤ 1000 * (d + 2) → d + 600 ≤ k → (lst f).length + 1 ≤ m →
 qCi k (par4 k) x ((d + 1:Nat):Int) m (n:Int) (p.length:Int) = some ((fw f d n:Nat):Int):=by
 intro f
 induction f with
 | nil =>
  intro k m x p d n h hd hn hk hm
  obtain ⟨m,rfl,-⟩:=pos hm
  rw [qH5]
  exact (jS (v:=(false,(n:Int),(p.length:Int))) (fun j=>iF h.nl rfl)).trans rfl
 | cons a b s l r ihl ihr =>
  intro k m x p d n h hd hn hk hm
  obtain ⟨m,rfl,hm'⟩:=pos hm
  obtain ⟨k,rfl,hk'⟩:=pos (show (d + 599) + 1 ≤ k by omega)
  rw [qH5]
  simp only [lst,List.length_cons] at hm'
  by_cases h1:n < 1000
  ·refine (jS (v:=(true,(n:Int),(p.length:Int))) (fun j=>iT h.lt (by rw [dT (show (n:Int) < 1000 by omega)]))).trans ?_
   refine iT rfl (bS h.nth (bS (a:=((fw1 s l d:Nat):Int)) ?_ ?_))
   ·rw [show fW .i64 (((d + 1:Nat):Int) - 1) = (d:Int) from fw_p (by omega)]
    refine few_n fun h0 h2=>?_
    obtain ⟨d,rfl⟩:∃ e,d = e + 1:=⟨d - 1,by omega⟩
    exact ihl k k (nd a b s l) [] d 1 (Fat.top (by omega)) (by omega) (by omega) (by omega) (by omega)
   ·have h3:=fw1_le s l d
    rw [show fW .i64 ((n:Int) + ((fw1 s l d:Nat):Int)) = ((n + fw1 s l d:Nat):Int) from fw_a (by omega) (by omega)]
    show qCi _ _ _ _ _ _ (fW .i64 ((p.length:Int) + 1)) = _
    rw [h.fw,ihr (k + 1) m x _ d _ h.next hd (by omega) (by omega) (by omega)]
    show some ((fw r d (n + fw1 s l d):Nat):Int) = some ((fw (.cons a b s l r) d n:Nat):Int)
    rw [fw,if_pos h1]; rfl
  ·refine (jS (v:=(false,(n:Int),(p.length:Int))) (fun j=>iT h.lt (by rw [dF (show ¬ (n:Int) < 1000 by omega)]))).trans ?_
   rw [fw,if_neg h1]; rfl
def Sm : Fo → Prop
 | .nil=>True
 | .cons _ _ s l r=>s.length ≤ 100 ∧ Sm l ∧ Sm r
def Bt : Fo → Prop
 | .nil=>True
 | .cons _ _ s l r=>By s ∧ Bt l ∧ Bt r
theorem qEd : ∀ (f : Fo) (d n : Nat), fw f d n ≤ 999 → n + fcn f ≤ fw f d n ∧ Sm f
 | .nil,d,n,h=>⟨Nat.le_refl _,trivial⟩
 | .cons a b s l r,d,n,h=>by
  unfold fw at h ⊢
  by_cases h1:n < 1000
  ·rw [if_pos h1] at h ⊢
   obtain ⟨q1,q2⟩:=qEd r d _ h
   by_cases h2:d = 0 ∨ 100 < s.length ∨ 500 < (lst l).length
   ·rw [if_pos h2] at q1 h ⊢; omega
   ·rw [if_neg h2] at q1 h ⊢
    obtain ⟨q3,q4⟩:=qEd l (d - 1) 1 (by omega)
    exact ⟨by simp only [fcn]; omega,by omega,q4,q2⟩
  ·rw [if_neg h1] at h; omega
theorem few_at {k:Nat} {a b:Int} {s:List Nat} {l:Fo} (hk:700 ≤ k):∃ v,g7 k (nd a b s l) = some v ∧ (v = true → fcn l ≤ 500 ∧ s.length ≤ 100 ∧ Sm l):=by
 obtain ⟨k,rfl,hk'⟩:=pos (show 699 + 1 ≤ k by omega)
 have h:=few_n (k:=k) (a:=a) (b:=b) (s:=s) (l:=l) (d:=60) fun _ h=>few_l l k k (nd a b s l) [] 59 1 (Fat.top (by omega)) (by omega) (by omega) (by omega) (by omega)
 refine ⟨decide (((fw1 s l 60:Nat):Int) ≤ 500),?_,fun hv=>?_⟩
 ·exact bS (a:=((fw1 s l 60:Nat):Int)) h rfl
 ·have hv:fw1 s l 60 ≤ 500:=by have:=of_decide_eq_true hv; omega
  unfold fw1 at hv
  by_cases h2:60 = 0 ∨ 100 < s.length ∨ 500 < (lst l).length
  ·rw [if_pos h2] at hv; omega
  ·rw [if_neg h2] at hv
   have hv:fw l 59 1 ≤ 500:=hv
   obtain ⟨q3,q4⟩:=qEd l 59 1 (by omega)
   exact ⟨by omega,by omega,q4⟩
theorem deep_l:∀ (f:Fo) (k m:Nat) (x:S25) (p:List S25) (a1 y:Int),Fat x p f → fcn f + 1 ≤ k → fcn f + 1 ≤ m → fcn f ≤ 100000 → ∃ v,qD5 k (par5 k) x a1 m y (p.length:Int) = some v:=by
 intro f
 induction f with
 | nil =>
  intro k m x p a1 y h hk hm hC
  obtain ⟨m,rfl,-⟩:=pos hm
  rw [qH4]
  exact ⟨_,(jS (v:=(false,y,(p.length:Int))) (fun j=>iF h.nl rfl)).trans rfl⟩
 | cons a b s l r ihl ihr =>
  intro k m x p a1 y h hk hm hC
  obtain ⟨m,rfl,hm'⟩:=pos hm
  obtain ⟨k,rfl,hk'⟩:=pos hk
  rw [qH4]
  simp only [fcn] at hm' hk' hC
  by_cases h1:0 < a1
  ·obtain ⟨v,hv⟩:=ihl k k (nd a b s l) [] (fW .i64 (a1 - 1)) 0 (Fat.top (by have:=qAc l; omega)) (by omega) (by omega) (by omega)
   obtain ⟨u,hu⟩:=ihr (k + 1) m x _ a1 (maxI y v) h.next (by omega) (by omega) (by omega)
   refine ⟨u,(jS (v:=(true,y,(p.length:Int))) (fun j=>iT h.lt (by rw [dT h1]))).trans ?_⟩
   refine iT rfl (bS h.nth (bS (a:=v) hv ?_))
   show qD5 _ _ _ _ _ _ (fW .i64 ((p.length:Int) + 1)) = _
   rw [h.fw]; exact hu
  ·exact ⟨_,(jS (v:=(false,y,(p.length:Int))) (fun j=>iT h.lt (by rw [dF h1]))).trans rfl⟩
theorem count_f:∀ (f:Fo) (k m:Nat) (x:S25) (p:List S25) (y:Int),Fat x p f → fcn f + 1 ≤ k → fcn f + 1 ≤ m → fcn f ≤ 100000 → ∃ v,qDu k (par7 k) x m y (p.length:Int) = some v:=by
 intro f
 induction f with
 | nil =>
  intro k m x p y h hk hm hC
  obtain ⟨m,rfl,-⟩:=pos hm
  rw [qH1]
  exact ⟨_,iF h.nl rfl⟩
 | cons a b s l r ihl ihr =>
  intro k m x p y h hk hm hC
  obtain ⟨m,rfl,hm'⟩:=pos hm
  obtain ⟨k,rfl,hk'⟩:=pos hk
  rw [qH1]
  simp only [fcn] at hm' hk' hC
  obtain ⟨v,hv⟩:=ihl k k (nd a b s l) [] 1 (Fat.top (by have:=qAc l; omega)) (by omega) (by omega) (by omega)
  obtain ⟨u,hu⟩:=ihr (k + 1) m x _ (fW .i64 (y + v)) h.next (by omega) (by omega) (by omega)
  refine ⟨u,iT h.lt (bS h.nth (bS (a:=v) hv ?_))⟩
  rw [h.fw]; exact hu
def Rt : Fo → Prop
 | .nil=>True
 | .cons a b s l r=>(a = 1 ∨ a = 2 ∨ a = 3 ∨ a = 4 → l = .nil) ∧ Rt l ∧ Rt r
theorem right_t {k:Nat} {F:Fns6} {a b:Int} {s:List Nat} {l:Fo} (hs:s.length ≤ 100):∀ (d m i:Nat),i + d = s.length → ∃ v,qDv k F (nd a b s l) (d + 1 + m) (i:Int) = some v ∧ (v = true → l = .nil):=by
 intro d
 induction d with
 | zero =>
  intro m i h
  rw [show 0 + 1 + m = m + 1 by omega,qH3]
  by_cases h0:(lst l).length = 0
  ·exact ⟨_,iF (dF (by show ¬ (i:Int) < (s.length:Int); omega)) (iT (dT (by show ((lst l).length:Int) = 0; omega)) rfl),fun _=>qJ h0⟩
  ·exact ⟨_,iF (dF (by show ¬ (i:Int) < (s.length:Int); omega)) (iF (dF (by show ¬ ((lst l).length:Int) = 0; omega)) rfl),fun e=>by cases e⟩
 | succ d ih =>
  intro m i h
  obtain ⟨c,t,h1,h2,-,h3⟩:=dcons (s:=s) (i:=i) (by omega)
  obtain ⟨v,hv,hw⟩:=ih m (i + 1) (by omega)
  rw [show d + 1 + 1 + m = (d + 1 + m) + 1 by omega,qH3]
  by_cases hc:(c:Int) = 10
  ·exact ⟨_,iT (dT (by show (i:Int) < (s.length:Int); omega)) (bS (nthX rfl h1) (iT (dT hc) rfl)),fun e=>by cases e⟩
  ·refine ⟨v,iT (dT (by show (i:Int) < (s.length:Int); omega)) (bS (nthX rfl h1) (iF (dF hc) ?_)),hw⟩
   rw [fw_s (by omega)]; exact hv
theorem qI5 {k : Nat} {a b : Int} {s : List Nat} {l : Fo} (hs : s.length ≤ 100) (hk : 101 ≤ k) (h : ∃ v, qD4 k (par6 k) (nd a b s l) k 0 = some v ∧ (v = true → Rt l)) :
 ∃ v,(par6 (k + 1)).g20 (nd a b s l) = some v ∧ (v = true → (a = 1 ∨ a = 2 ∨ a = 3 ∨ a = 4 → l = .nil) ∧ Rt l):=by
 show ∃ v,g20B k (par6 k) (nd a b s l) = some v ∧ _
 unfold g20B
 have fin:∀ w:Option Bool,(a = 2 ∨ a = 3 ∨ a = 4) → (if (eqL s []) then (if (decide (((lst l).length:Int) = 0)) then (some (decide (b = 0))) else (some false)) else (some false)) = w → ∃ v,w = some v ∧ (v = true → (a = 1 ∨ a = 2 ∨ a = 3 ∨ a = 4 → l = .nil) ∧ Rt l):=by
  rintro w - rfl
  by_cases h1:(lst l).length = 0
  ·have h2:=qJ h1
   subst h2
   cases he:eqL s []
   ·exact ⟨false,rfl,fun e=>by cases e⟩
   ·exact ⟨decide (b = 0),rfl,fun _=>⟨fun _=>rfl,trivial⟩⟩
  ·cases he:eqL s []
   ·exact ⟨false,rfl,fun e=>by cases e⟩
   ·exact ⟨false,by rw [dF (show ¬ ((lst l).length:Int) = 0 by omega)]; rfl,fun e=>by cases e⟩
 by_cases a1:a = 1
 ·obtain ⟨q,hq⟩:∃ q,k = s.length + 1 + q:=⟨k - s.length - 1,by omega⟩
  obtain ⟨v,hv,hw⟩:=right_t (k:=k) (F:=par6 k) (a:=a) (b:=b) (s:=s) (l:=l) hs s.length q 0 (by omega)
  rw [← hq] at hv
  exact ⟨v,iT (dT a1) hv,fun e=>by rw [hw e]; exact ⟨fun _=>rfl,trivial⟩⟩
 obtain ⟨v,hv,hw⟩:=h
 have go:∀ v,(v = true → Rt l) → ¬ (a = 1 ∨ a = 2 ∨ a = 3 ∨ a = 4) → (v = true → (a = 1 ∨ a = 2 ∨ a = 3 ∨ a = 4 → l = .nil) ∧ Rt l):=fun v h1 h2 e=>⟨fun h3=>absurd h3 h2,h1 e⟩
 by_cases a2:a = 2
 ·obtain ⟨v,hv,hw⟩:=fin _ (.inl a2) rfl
  exact ⟨v,iF (dF a1) ((jS (v:=true) (fun j=>iT (dT a2) rfl)).trans (iT rfl hv)),hw⟩
 by_cases a3:a = 3
 ·obtain ⟨v,hv,hw⟩:=fin _ (.inr (.inl a3)) rfl
  exact ⟨v,iF (dF a1) ((jS (v:=true) (fun j=>iF (dF a2) (iT (dT a3) rfl))).trans (iT rfl hv)),hw⟩
 by_cases a4:a = 4
 ·obtain ⟨v,hv,hw⟩:=fin _ (.inr (.inr a4)) rfl
  exact ⟨v,iF (dF a1) ((jS (v:=true) (fun j=>iF (dF a2) (iF (dF a3) (by rw [dT a4])))).trans (iT rfl hv)),hw⟩
 have no:¬ (a = 1 ∨ a = 2 ∨ a = 3 ∨ a = 4):=by rintro (h | h | h | h) <;> exact absurd h (by assumption)
 have st:∀ {A:Bool → Option Bool} {r:Option Bool},A false = r → jn A (fun j=>if (decide ((nd a b s l).f0 = 2)) then (j true) else (if (decide ((nd a b s l).f0 = 3)) then (j true) else (j (decide ((nd a b s l).f0 = 4))))) = r :=
  fun {A r} e=>(jS (v:=false) (fun j=>iF (dF a2) (iF (dF a3) (by rw [dF a4])))).trans e
 by_cases a5:a = 5
 ·by_cases hb:b = 0
  ·exact ⟨v,iF (dF a1) (st (iF rfl ((jS (v:=()) (fun j=>iT (dT a5) (iF (by rw [dT hb]; rfl) rfl))).trans hv))),go v hw no⟩
  ·exact ⟨false,iF (dF a1) (st (iF rfl (jC (fun j=>iT (dT a5) (iT (by rw [dF hb]; rfl) rfl))))),fun e=>by cases e⟩
 by_cases a6:a = 6
 ·by_cases hb:b < 0
  ·exact ⟨false,iF (dF a1) (st (iF rfl (jC (fun j=>iF (dF a5) (iT (dT a6) ((jS (v:=true) (fun j=>iT (dT hb) rfl)).trans (iT rfl rfl))))))),fun e=>by cases e⟩
  by_cases hc:1000 < b
  ·exact ⟨false,iF (dF a1) (st (iF rfl (jC (fun j=>iF (dF a5) (iT (dT a6) ((jS (v:=true) (fun j=>iF (dF hb) (by rw [dT hc]))).trans (iT rfl rfl))))))),fun e=>by cases e⟩
  ·exact ⟨v,iF (dF a1) (st (iF rfl ((jS (v:=()) (fun j=>iF (dF a5) (iT (dT a6) ((jS (v:=false) (fun j=>iF (dF hb) (by rw [dF hc]))).trans (iF rfl rfl))))).trans hv))),go v hw no⟩
 by_cases a7:a = 7
 ·by_cases hb:b = 0
  ·exact ⟨v,iF (dF a1) (st (iF rfl ((jS (v:=()) (fun j=>iF (dF a5) (iF (dF a6) (iT (dT a7) ((jS (v:=false) (fun j=>iF (by rw [dT hb]; rfl) rfl)).trans (iF rfl rfl)))))).trans hv))),go v hw no⟩
  by_cases hc:b = 1
  ·exact ⟨v,iF (dF a1) (st (iF rfl ((jS (v:=()) (fun j=>iF (dF a5) (iF (dF a6) (iT (dT a7) ((jS (v:=false) (fun j=>iT (by rw [dF hb]; rfl) (by rw [dT hc]; rfl))).trans (iF rfl rfl)))))).trans hv))),go v hw no⟩
  ·exact ⟨false,iF (dF a1) (st (iF rfl (jC (fun j=>iF (dF a5) (iF (dF a6) (iT (dT a7) ((jS (v:=true) (fun j=>iT (by rw [dF hb]; rfl) (by rw [dF hc]; rfl))).trans (iT rfl rfl)))))))),fun e=>by cases e⟩
 ·exact ⟨false,iF (dF a1) (st (iF rfl (jC (fun j=>iF (dF a5) (iF (dF a6) (iF (dF a7) rfl)))))),fun e=>by cases e⟩
theorem right_l:∀ (f:Fo) (k m:Nat) (x:S25) (p:List S25),Fat x p f → Sm f → fcn f + 200 ≤ k → fcn f + 1 ≤ m → fcn f ≤ 100000 → ∃ v,qD4 k (par6 k) x m (p.length:Int) = some v ∧ (v = true → Rt f):=by
 intro f
 induction f with
 | nil =>
  intro k m x p h hs hk hm hC
  obtain ⟨m,rfl,-⟩:=pos hm
  rw [qH2]
  exact ⟨_,iF h.nl rfl,fun _=>trivial⟩
 | cons a b s l r ihl ihr =>
  intro k m x p h hs hk hm hC
  obtain ⟨m,rfl,hm'⟩:=pos hm
  obtain ⟨k,rfl,hk'⟩:=pos (show (fcn (.cons a b s l r) + 199) + 1 ≤ k by omega)
  rw [qH2]
  obtain ⟨h1,h2,h3⟩:=hs
  simp only [fcn] at hm' hk' hC
  obtain ⟨v,hv,hw⟩:=qI5 (a:=a) (b:=b) h1 (by omega) (ihl k k (nd a b s l) [] (Fat.top (by have:=qAc l; omega)) h2 (by omega) (by omega) (by omega))
  cases v with
  | false=>exact ⟨false,iT h.lt (bS h.nth (bS hv (iT rfl rfl))),fun e=>by cases e⟩
  | true =>
   obtain ⟨u,hu,hz⟩:=ihr (k + 1) m x _ h.next h3 (by omega) (by omega) (by omega)
   refine ⟨u,iT h.lt (bS h.nth (bS hv (iF rfl ?_))),fun e=>⟨(hw rfl).1,(hw rfl).2,hz e⟩⟩
   rw [h.fw]; exact hu
theorem may_at {k:Nat} {a b:Int} {s:List Nat} {l:Fo} (hk:fcn l + 300 ≤ k) (hs:s.length ≤ 100) (hl:Sm l) (hc:fcn l ≤ 500):∃ v,g8 k (nd a b s l) = some v ∧ (v = true → (a = 1 ∨ a = 2 ∨ a = 3 ∨ a = 4 → l = .nil) ∧ Rt l):=by
 obtain ⟨k,rfl,hk'⟩:=pos (show (fcn l + 299) + 1 ≤ k by omega)
 have ht:Fat (nd a b s l) [] l:=Fat.top (by have:=qAc l; omega)
 obtain ⟨x,hx⟩:=deep_l l k k (nd a b s l) [] 200001 0 ht (by omega) (by omega) (by omega)
 obtain ⟨v,hv,hw⟩:=qI5 (a:=a) (b:=b) (k:=k) hs (by omega) (right_l l k k (nd a b s l) [] ht hl (by omega) (by omega) (by omega))
 obtain ⟨y,hy⟩:=count_f l k k (nd a b s l) [] 1 ht (by omega) (by omega) (by omega)
 by_cases h1:x ≤ 200000
 ·cases v with
  | false=>exact ⟨false,bS (a:=x) hx (iT (dT h1) (bS (a:=false) hv (iF rfl rfl))),fun e=>by cases e⟩
  | true=>exact ⟨_,bS (a:=x) hx (iT (dT h1) (bS (a:=true) hv (iT rfl (bS (a:=y) hy rfl)))),fun _=>hw rfl⟩
 ·exact ⟨false,bS (a:=x) hx (iF (dF h1) rfl),fun e=>by cases e⟩
def fh (a b:Int):Bool:=decide (a = 4) || (decide (a = 7) && decide (b = 1))
def fo : Fo → Bool
 | .nil=>false
 | .cons a b _ l r=>(fh a b || fo l) || fo r
theorem fh_j {a b:Int} {A:Bool → Option Bool}:jn A (fun j=>if (decide (a = 4)) then (j true) else (if (decide (a = 7)) then (j (decide (b = 1))) else (j false))) = A (fh a b):=by
 refine jS (v:=fh a b) (fun j=>?_)
 unfold fh
 by_cases h4:a = 4
 ·rw [dT h4]; rfl
 ·by_cases h7:a = 7
  ·rw [dF h4,dT h7]; rfl
  ·rw [dF h4,dF h7]; rfl
theorem for_l : ∀ (f : Fo) (k m : Nat) (x : S25) (p : List S25), Fat x p f → fcn f + 1 ≤ k → fcn f + 1 ≤ m → fcn f ≤ 100000 →
 qDt k (par3 k) x m (p.length:Int) = some (fo f) ∧ qDx k (par8 k) x m (p.length:Int) = some (fo f):=by
 intro f
 induction f with
 | nil =>
  intro k m x p h hk hm hC
  obtain ⟨m,rfl,-⟩:=pos hm
  rw [qH0,qH7]
  exact ⟨iF h.nl rfl,iF h.nl rfl⟩
 | cons a b s l r ihl ihr =>
  intro k m x p h hk hm hC
  obtain ⟨m,rfl,hm'⟩:=pos hm
  obtain ⟨k,rfl,hk'⟩:=pos hk
  rw [qH0,qH7]
  simp only [fcn] at hm' hk' hC
  obtain ⟨q1,q2⟩:=ihl k k (nd a b s l) [] (Fat.top (by have:=qAc l; omega)) (by omega) (by omega) (by omega)
  obtain ⟨q3,q4⟩:=ihr (k + 1) m x _ h.next (by omega) (by omega) (by omega)
  have e1:(par3 (k + 1)).g22 (nd a b s l) = some (fh a b || fo l):=by
   show g22B k (par3 k) (nd a b s l) = _
   unfold g22B
   refine fh_j.trans ?_
   cases fh a b
   ·exact iF rfl q1
   ·rfl
  have e2:(par8 (k + 1)).g16 (nd a b s l) = some (fh a b || fo l):=by
   show g16B k (par8 k) (nd a b s l) = _
   unfold g16B
   refine fh_j.trans ?_
   cases fh a b
   ·exact iF rfl q2
   ·rfl
  refine ⟨iT h.lt (bS h.nth (bS e1 ?_)),iT h.lt (bS h.nth (bS e2 ?_))⟩
  ·show _ = some ((fh a b || fo l) || fo r)
   cases fh a b || fo l
   ·refine iF rfl ?_
    rw [h.fw]; exact q3
   ·rfl
  ·show _ = some ((fh a b || fo l) || fo r)
   cases fh a b || fo l
   ·refine iF rfl ?_
    rw [h.fw]; exact q4
   ·rfl
theorem for_at {k:Nat} {a b:Int} {s:List Nat} {l:Fo} (hk:fcn l + 2 ≤ k) (hc:fcn l ≤ 100000):g22 k (nd a b s l) = some (fh a b || fo l) ∧ g16 k (nd a b s l) = some (fh a b || fo l):=by
 obtain ⟨k,rfl,hk'⟩:=pos (show (fcn l + 1) + 1 ≤ k by omega)
 obtain ⟨q1,q2⟩:=for_l l k k (nd a b s l) [] (Fat.top (by have:=qAc l; omega)) (by omega) (by omega) (by omega)
 refine ⟨?_,?_⟩
 ·show g22B k (par3 k) (nd a b s l) = _
  unfold g22B
  refine fh_j.trans ?_
  cases fh a b
  ·exact iF rfl q1
  ·rfl
 ·show g16B k (par8 k) (nd a b s l) = _
  unfold g16B
  refine fh_j.trans ?_
  cases fh a b
  ·exact iF rfl q2
  ·rfl
def ow (a:Int) (s:List Nat):List Nat:=if a = 1 then s else if a = 2 then [32] else []
def tx : Fo → List Nat
 | .nil=>[]
 | .cons a _ s l r=>(ow a s ++ tx l) ++ tx r
theorem qGm {a:Int} {s:List Nat} (h:s.length ≤ 100):(ow a s).length ≤ 100:=by
 unfold ow
 split
 ·exact h
 ·split <;> simp
theorem qEk : ∀ f : Fo, Sm f → (tx f).length ≤ 100 * fcn f
 | .nil,_=>Nat.zero_le _
 | .cons a b s l r,h=>by
  have h1:=qGm (a:=a) h.1
  have h2:=qEk l h.2.1
  have h3:=qEk r h.2.2
  simp only [tx,fcn,List.length_append]; omega
theorem cat_at {a b:List Nat} (h:a.length + b.length ≤ 1000000000):catS a b = some (a ++ b):=by
 unfold catS; rw [if_pos (by omega)]
theorem app_at {a b:List Int} (h:a.length + b.length ≤ 1000000000):appS 1 a b = some (a ++ b):=by
 unfold appS; rw [if_pos ⟨by omega,by omega⟩]
theorem rtx_n {k:Nat} {a b:Int} {s:List Nat} {l:Fo} (hr:a = 1 ∨ a = 2 ∨ a = 3 ∨ a = 4 → l = .nil) (h:qD3 k (par9 k) (nd a b s l) k [] 0 = some (tx l)):g28 (k + 1) (nd a b s l) = some (ow a s ++ tx l):=by
 show g28B k (par9 k) (nd a b s l) = _
 unfold g28B ow
 by_cases a1:a = 1
 ·rw [if_pos a1,hr (.inl a1)]
  exact iT (dT a1) (by simp only [tx,List.append_nil])
 by_cases a2:a = 2
 ·rw [if_neg a1,if_pos a2,hr (.inr (.inl a2))]
  exact iF (dF a1) (iT (dT a2) rfl)
 ·rw [if_neg a1,if_neg a2]
  exact iF (dF a1) (iF (dF a2) h)
theorem rtx_l : ∀ (f : Fo) (k m : Nat) (x : S25) (p : List S25) (y : List Nat), Fat x p f → Sm f → Rt f → y.length + 100 * fcn f ≤ 1000000000 → fcn f + 1 ≤ k → fcn f + 1 ≤ m → fcn f ≤ 100000 →
 qD3 k (par9 k) x m y (p.length:Int) = some (y ++ tx f):=by
 intro f
 induction f with
 | nil =>
  intro k m x p y h hs hr hy hk hm hC
  obtain ⟨m,rfl,-⟩:=pos hm
  rw [qH]
  exact iF h.nl (by simp only [tx,List.append_nil])
 | cons a b s l r ihl ihr =>
  intro k m x p y h hs hr hy hk hm hC
  obtain ⟨m,rfl,hm'⟩:=pos hm
  obtain ⟨k,rfl,hk'⟩:=pos hk
  rw [qH]
  simp only [fcn] at hm' hk' hC hy
  have q1:=ihl k k (nd a b s l) [] [] (Fat.top (by have:=qAc l; omega)) hs.2.1 hr.2.1 (by simp only [List.length_nil]; omega) (by omega) (by omega) (by omega)
  have t1:=qGm (a:=a) hs.1
  have t2:=qEk l hs.2.1
  refine iT h.lt (bS h.nth (bS (rtx_n hr.1 q1) (bS (cat_at (by simp only [List.length_append]; omega)) ?_)))
  rw [h.fw,ihr (k + 1) m x _ _ h.next hs.2.2 hr.2.2 (by simp only [List.length_append]; omega) (by omega) (by omega) (by omega)]
  simp only [tx,List.append_assoc]
theorem bld_at {k:Nat} (st:Bool) (w:List Int):i8 k st w = some true:=by
 unfold i8; cases st <;> rfl
theorem own_at {k:Nat} {a b:Int} {s:List Nat} {l:Fo} {st:Bool} {w:List Int} (h:s.length ≤ 100) (hw:w.length ≤ 999999000):∃ st',i4 k (nd a b s l) st w = some (true,st',w ++ (ow a s).map Int.ofNat):=by
 unfold i4 ow
 by_cases a1:a = 1
 ·rw [if_pos a1]
  refine ⟨true,(jS (v:=(true,w ++ s.map Int.ofNat)) (fun j=>iT (dT a1) (bS (a:=((s.length:Int),true,w ++ s.map Int.ofNat)) ?_ rfl))).trans rfl⟩
  exact bS (bld_at st w) (bS (app_at (by simp only [List.length_map]; omega)) rfl)
 by_cases a2:a = 2
 ·rw [if_neg a1,if_pos a2]
  refine ⟨true,(jS (v:=(true,w ++ [32])) (fun j=>iF (dF a1) (iT (dT a2) (bS (a:=(true,w ++ [32])) ?_ rfl)))).trans rfl⟩
  exact bS (bld_at st w) (bS (app_at (by simp only [List.length_cons,List.length_nil]; omega)) rfl)
 ·rw [if_neg a1,if_neg a2]
  exact ⟨st,(jS (v:=(st,w)) (fun j=>iF (dF a1) (iF (dF a2) rfl))).trans (by simp only [List.map_nil,List.append_nil])⟩
theorem wtx_n {k : Nat} {a b : Int} {s : List Nat} {l : Fo} {st : Bool} {w : List Int} (h : s.length ≤ 100) (hw : w.length ≤ 999999000) (hl : ∀ st' : Bool, ∃ u, qFo k (par0 k) (nd a b s l) k 0 st' (w ++ (ow a s).map Int.ofNat) = some (true, u, (w ++ (ow a s).map Int.ofNat) ++ (tx l).map Int.ofNat)) :
 ∃ u,(par0 (k + 1)).i0 (nd a b s l) st w = some (true,u,w ++ (ow a s ++ tx l).map Int.ofNat):=by
 obtain ⟨st',h1⟩:=own_at (k:=k) (a:=a) (b:=b) (l:=l) (st:=st) h hw
 obtain ⟨u,hu⟩:=hl st'
 refine ⟨u,?_⟩
 show i0B k (par0 k) (nd a b s l) st w = _
 rw [List.map_append,← List.append_assoc]
 exact bS h1 (iF rfl hu)
theorem wtx_l : ∀ (f : Fo) (k m : Nat) (x : S25) (p : List S25) (st : Bool) (w : List Int), Fat x p f → Sm f → w.length + 100 * fcn f ≤ 999999000 → fcn f + 1 ≤ k → fcn f + 1 ≤ m → fcn f ≤ 100000 →
 ∃ u,qFo k (par0 k) x m (p.length:Int) st w = some (true,u,w ++ (tx f).map Int.ofNat):=by
 intro f
 induction f with
 | nil =>
  intro k m x p st w h hs hy hk hm hC
  obtain ⟨m,rfl,-⟩:=pos hm
  rw [qJ7]
  exact ⟨st,iF h.nl (by simp only [tx,List.map_nil,List.append_nil])⟩
 | cons a b s l r ihl ihr =>
  intro k m x p st w h hs hy hk hm hC
  obtain ⟨m,rfl,hm'⟩:=pos hm
  obtain ⟨k,rfl,hk'⟩:=pos hk
  rw [qJ7]
  simp only [fcn] at hm' hk' hC hy
  have t1:=qGm (a:=a) hs.1
  have t2:=qEk l hs.2.1
  obtain ⟨u,hu⟩:=wtx_n (k:=k) (a:=a) (b:=b) (s:=s) (l:=l) (st:=st) (w:=w) hs.1 (by omega) fun st'=>ihl k k (nd a b s l) [] st' _ (Fat.top (by have:=qAc l; omega)) hs.2.1 (by simp only [List.length_append,List.length_map]; omega) (by omega) (by omega) (by omega)
  obtain ⟨v,hv⟩:=ihr (k + 1) m x _ u (w ++ (ow a s ++ tx l).map Int.ofNat) h.next hs.2.2 (by simp only [List.length_append,List.length_map]; omega) (by omega) (by omega) (by omega)
  refine ⟨v,iT h.lt (bS h.nth (bS hu (iF rfl ?_)))⟩
  rw [h.fw]
  refine hv.trans ?_
  simp only [tx,List.map_append,List.append_assoc]
theorem qHv : ∀ {l : List Nat}, By l → toS (l.map Int.ofNat) = some l
 | [],_=>rfl
 | c :: l,h=>by
  have h1:=h.head
  show (match toS (l.map Int.ofNat) with | some l=>if 0 ≤ Int.ofNat c ∧ Int.ofNat c ≤ 255 then some ((Int.ofNat c).toNat :: l) else none | none=>none) = _
  rw [qHv h.tail]
  show (if 0 ≤ Int.ofNat c ∧ Int.ofNat c ≤ 255 then some ((Int.ofNat c).toNat :: l) else none) = _
  rw [if_pos ⟨Int.natCast_nonneg c,by show (c:Int) ≤ 255; omega⟩]; rfl
theorem tx_by : ∀ f : Fo, Bt f → By (tx f)
 | .nil,_=>fun b h=>by cases h
 | .cons a b s l r,h=>by
  have h0:By (ow a s):=by
   unfold ow
   split
   ·exact h.1
   ·split
    ·intro c hc; rw [List.mem_singleton.1 hc]; decide
    ·intro c hc; cases hc
  exact (h0.app (tx_by l h.2.1)).app (tx_by r h.2.2)
theorem flat_at {k : Nat} {a b : Int} {s : List Nat} {l : Fo} (hk : fcn l + 2 ≤ k) (hc : fcn l ≤ 100000) (hs : s.length ≤ 100) (hb : By s) (hl : Sm l) (hbl : Bt l) :
 g9 k (nd a b s l) = some (if fh a b || fo l then ([],false) else (ow a s ++ tx l,true)):=by
 unfold g9
 refine bS (for_at hk hc).1 ?_
 cases fh a b || fo l
 ·obtain ⟨k,rfl,hk'⟩:=pos (show (fcn l + 1) + 1 ≤ k by omega)
  have t1:=qGm (a:=a) hs
  have t2:=qEk l hl
  obtain ⟨u,hu⟩:=wtx_n (k:=k) (a:=a) (b:=b) (s:=s) (l:=l) (st:=false) (w:=[]) hs (by simp only [List.length_nil]; omega) fun st'=>wtx_l l k k (nd a b s l) [] st' _ (Fat.top (by have:=qAc l; omega)) hl (by simp only [List.length_append,List.length_map,List.length_nil]; omega) (by omega) (by omega) (by omega)
  refine iF rfl (bS (a:=(true,u,[] ++ (ow a s ++ tx l).map Int.ofNat)) hu (bS (a:=ow a s ++ tx l) ?_ rfl))
  refine bS (a:=ow a s ++ tx l) ?_ rfl
  unfold unS
  have hby:By (ow a s ++ tx l):=by
   have:=tx_by (.cons a b s l .nil) ⟨hb,hbl,trivial⟩
   simpa only [tx,List.append_nil] using this
  rw [if_pos (by simp only [List.nil_append,List.length_map,List.length_append]; omega),List.nil_append,qHv hby]
 ·rfl
theorem rflat_at {k : Nat} {a b : Int} {s : List Nat} {l : Fo} (hk : fcn l + 2 ≤ k) (hc : fcn l ≤ 100000) (hs : s.length ≤ 100) (hl : Sm l) (hr : a = 1 ∨ a = 2 ∨ a = 3 ∨ a = 4 → l = .nil) (hrl : Rt l) :
 g10 k (nd a b s l) = some (if fh a b || fo l then ([],false) else (ow a s ++ tx l,true)):=by
 unfold g10
 refine bS (for_at hk hc).2 ?_
 cases fh a b || fo l
 ·obtain ⟨k,rfl,hk'⟩:=pos (show (fcn l + 1) + 1 ≤ k by omega)
  exact iF rfl (bS (rtx_n hr (rtx_l l k k (nd a b s l) [] [] (Fat.top (by have:=qAc l; omega)) hl hrl (by simp only [List.length_nil]; omega) (by omega) (by omega) (by omega))) rfl)
 ·rfl
def CC (s:List Nat):Nat:=cpc s.length s
theorem CC_le (s:List Nat):CC s ≤ s.length:=cpc_le _ _ (Nat.le_refl _)
def oc (a:Int) (s:List Nat):Nat:=if a = 1 then CC s else if a = 2 then 1 else 0
def wd : Fo → Nat
 | .nil=>0
 | .cons a _ s l r=>(oc a s + wd l) + wd r
theorem qE8 {a:Int} {s:List Nat} (h:s.length ≤ 100):oc a s ≤ 100:=by
 have:=CC_le s
 unfold oc
 split
 ·omega
 ·split <;> omega
theorem wd_le : ∀ f : Fo, Sm f → wd f ≤ 100 * fcn f
 | .nil,_=>Nat.zero_le _
 | .cons a b s l r,h=>by
  have h1:=qE8 (a:=a) h.1
  have h2:=wd_le l h.2.1
  have h3:=wd_le r h.2.2
  simp only [wd,fcn]; omega
theorem own_w {k:Nat} {a b:Int} {s:List Nat} {l:Fo} (hk:106 ≤ k) (hs:s.length ≤ 100) (hb:By s):g30 k (nd a b s l) = some ((oc a s:Nat):Int):=by
 unfold g30 oc
 by_cases a1:a = 1
 ·rw [if_pos a1]
  exact iT (dT a1) (bS (a:=((CC s:Nat):Int)) (bS (a:=((CC s:Nat):Int)) (qEh (by omega) hb (by omega)).1 rfl) rfl)
 by_cases a2:a = 2
 ·rw [if_neg a1,if_pos a2]
  exact iF (dF a1) (iT (dT a2) rfl)
 ·rw [if_neg a1,if_neg a2]
  exact iF (dF a1) (iF (dF a2) rfl)
theorem rwd_n {k:Nat} {a b:Int} {s:List Nat} {l:Fo} (hk:106 ≤ k) (hs:s.length ≤ 100) (hb:By s) (hr:a = 1 ∨ a = 2 ∨ a = 3 ∨ a = 4 → l = .nil) (h:qD6 k (par10 k) (nd a b s l) k 0 0 = some ((wd l:Nat):Int)):(par10 (k + 1)).g12 (nd a b s l) = some ((oc a s + wd l:Nat):Int):=by
 show g12B k (par10 k) (nd a b s l) = _
 unfold g12B oc
 by_cases a1:a = 1
 ·rw [if_pos a1,hr (.inl a1)]
  exact iT (dT a1) (bS (a:=((CC s:Nat):Int)) (qEh (by omega) hb (by omega)).2 rfl)
 by_cases a2:a = 2
 ·rw [if_neg a1,if_pos a2,hr (.inr (.inl a2))]
  exact iF (dF a1) (iT (dT a2) rfl)
 ·rw [if_neg a1,if_neg a2,Nat.zero_add]
  exact iF (dF a1) (iF (dF a2) h)
theorem rwd_l : ∀ (f : Fo) (k m : Nat) (x : S25) (p : List S25) (y : Nat), Fat x p f → Sm f → Bt f → Rt f → y + 100 * fcn f ≤ 1000000000 → fcn f + 200 ≤ k → fcn f + 1 ≤ m → fcn f ≤ 100000 →
 qD6 k (par10 k) x m (y:Int) (p.length:Int) = some ((y + wd f:Nat):Int):=by
 intro f
 induction f with
 | nil =>
  intro k m x p y h hs hb hr hy hk hm hC
  obtain ⟨m,rfl,-⟩:=pos hm
  rw [qH9]
  exact iF h.nl rfl
 | cons a b s l r ihl ihr =>
  intro k m x p y h hs hb hr hy hk hm hC
  obtain ⟨m,rfl,hm'⟩:=pos hm
  obtain ⟨k,rfl,hk'⟩:=pos (show (fcn (.cons a b s l r) + 199) + 1 ≤ k by omega)
  rw [qH9]
  simp only [fcn] at hm' hk' hC hy
  have q1:=ihl k k (nd a b s l) [] 0 (Fat.top (by have:=qAc l; omega)) hs.2.1 hb.2.1 hr.2.1 (by omega) (by omega) (by omega) (by omega)
  have t1:=qE8 (a:=a) hs.1
  have t2:=wd_le l hs.2.1
  rw [Nat.zero_add] at q1
  refine iT h.lt (bS h.nth (bS (rwd_n (by omega) hs.1 hb.1 hr.1 q1) ?_))
  rw [h.fw,show fW .i64 ((y:Int) + ((oc a s + wd l:Nat):Int)) = ((y + (oc a s + wd l):Nat):Int) from fw_a (by omega) (by omega),ihr (k + 1) m x _ _ h.next hs.2.2 hb.2.2 hr.2.2 (by omega) (by omega) (by omega) (by omega)]
  simp only [wd,Nat.add_assoc]
theorem pwd_n {k : Nat} {a b : Int} {s : List Nat} {l : Fo} {y : Nat} (hk : 106 ≤ k) (hs : s.length ≤ 100) (hb : By s) (hy : y ≤ 1000000000) (h : qFn k (par1 k) (nd a b s l) k 0 ((y + oc a s : Nat) : Int) = some (true, ((y + oc a s + wd l : Nat) : Int))) :
 (par1 (k + 1)).i2 (nd a b s l) (y:Int) = some (true,((y + (oc a s + wd l):Nat):Int)):=by
 show i2B k (par1 k) (nd a b s l) (y:Int) = _
 have t1:=qE8 (a:=a) hs
 refine bS (a:=(true,((y + oc a s:Nat):Int))) ?_ (iF rfl (h.trans (by rw [Nat.add_assoc])))
 refine bS (own_w hk hs hb) ?_
 rw [fw_a (by omega) (by omega)]
theorem pwd_l : ∀ (f : Fo) (k m : Nat) (x : S25) (p : List S25) (y : Nat), Fat x p f → Sm f → Bt f → y + 100 * fcn f ≤ 1000000000 → fcn f + 200 ≤ k → fcn f + 1 ≤ m → fcn f ≤ 100000 →
 qFn k (par1 k) x m (p.length:Int) (y:Int) = some (true,((y + wd f:Nat):Int)):=by
 intro f
 induction f with
 | nil =>
  intro k m x p y h hs hb hy hk hm hC
  obtain ⟨m,rfl,-⟩:=pos hm
  rw [qJ5]
  exact iF h.nl rfl
 | cons a b s l r ihl ihr =>
  intro k m x p y h hs hb hy hk hm hC
  obtain ⟨m,rfl,hm'⟩:=pos hm
  obtain ⟨k,rfl,hk'⟩:=pos (show (fcn (.cons a b s l r) + 199) + 1 ≤ k by omega)
  rw [qJ5]
  simp only [fcn] at hm' hk' hC hy
  have t1:=qE8 (a:=a) hs.1
  have t2:=wd_le l hs.2.1
  have q1:=ihl k k (nd a b s l) [] (y + oc a s) (Fat.top (by have:=qAc l; omega)) hs.2.1 hb.2.1 (by omega) (by omega) (by omega) (by omega)
  refine iT h.lt (bS h.nth (bS (pwd_n (by omega) hs.1 hb.1 (by omega) q1) (iF rfl ?_)))
  rw [h.fw,ihr (k + 1) m x _ _ h.next hs.2.2 hb.2.2 (by omega) (by omega) (by omega) (by omega)]
  simp only [wd,Nat.add_assoc]
theorem width_at {k:Nat} {a b:Int} {s:List Nat} {l:Fo} (hk:fcn l + 300 ≤ k) (hc:fcn l ≤ 100000) (hs:s.length ≤ 100) (hb:By s) (hl:Sm l) (hbl:Bt l):g11 k (nd a b s l) = some ((oc a s + wd l:Nat):Int):=by
 obtain ⟨k,rfl,hk'⟩:=pos (show (fcn l + 299) + 1 ≤ k by omega)
 have t1:=qE8 (a:=a) hs
 have q:=pwd_l l k k (nd a b s l) [] (0 + oc a s) (Fat.top (by have:=qAc l; omega)) hl hbl (by omega) (by omega) (by omega) (by omega)
 have:=pwd_n (k:=k) (a:=a) (b:=b) (l:=l) (y:=0) (by omega) hs hb (by omega) q
 rw [Nat.zero_add] at this
 exact bS this rfl
theorem qI3 {k:Nat} {a b:Int} {s:List Nat} {l:Fo} (hk:fcn l + 300 ≤ k) (hc:fcn l ≤ 100000) (hs:s.length ≤ 100) (hb:By s) (hl:Sm l) (hbl:Bt l) (hr:a = 1 ∨ a = 2 ∨ a = 3 ∨ a = 4 → l = .nil) (hrl:Rt l):g12 k (nd a b s l) = some ((oc a s + wd l:Nat):Int):=by
 obtain ⟨k,rfl,hk'⟩:=pos (show (fcn l + 299) + 1 ≤ k by omega)
 have q:=rwd_l l k k (nd a b s l) [] 0 (Fat.top (by have:=qAc l; omega)) hl hbl hrl (by omega) (by omega) (by omega) (by omega)
 rw [Nat.zero_add] at q
 exact rwd_n (by omega) hs hb hr q
def stp (a:Int):Bool:=decide (a = 2) || (decide (a = 3) || decide (a = 4))
def fr1 (a:Int) (s:List Nat) (l r:Nat × Bool):Nat × Bool:=if stp a then (0,true) else if l.2 then (oc a s + l.1,true) else (oc a s + l.1 + r.1,r.2)
def fr : Fo → Nat × Bool
 | .nil=>(0,false)
 | .cons a _ s l r=>fr1 a s (fr l) (fr r)
theorem qG7 (a:Int) (s:List Nat) (l r:Nat × Bool):fr1 a s l r = if (fr1 a s l (0,false)).2 then fr1 a s l (0,false) else ((fr1 a s l (0,false)).1 + r.1,r.2):=by
 unfold fr1
 cases stp a
 ·cases h:l.2 <;> simp
 ·rfl
theorem qJr : ∀ f : Fo, Sm f → (fr f).1 ≤ 100 * fcn f
 | .nil,_=>Nat.zero_le _
 | .cons a b s l r,h=>by
  have h1:=qE8 (a:=a) h.1
  have h2:=qJr l h.2.1
  have h3:=qJr r h.2.2
  simp only [fr,fr1,fcn]
  split
  ·exact Nat.zero_le _
  ·split
   ·show oc a s + (fr l).1 ≤ _; omega
   ·show oc a s + (fr l).1 + (fr r).1 ≤ _; omega
theorem stp_j {R:Type} {a:Int} {A:Bool → Option R}:jn A (fun j=>if (decide (a = 2)) then (j true) else (if (decide (a = 3)) then (j true) else (j (decide (a = 4))))) = A (stp a):=by
 refine jS (v:=stp a) (fun j=>?_)
 unfold stp
 by_cases h2:a = 2
 ·rw [dT h2]; rfl
 ·by_cases h3:a = 3
  ·rw [dF h2,dT h3]; rfl
  ·rw [dF h2,dF h3]; rfl
def frn (a:Int) (s:List Nat) (l:Fo):Nat × Bool:=fr1 a s (fr l) (0,false)
theorem rfr_n {k : Nat} {a b : Int} {s : List Nat} {l : Fo} (hk : 106 ≤ k) (hs : s.length ≤ 100) (hb : By s) (hr : a = 1 ∨ a = 2 ∨ a = 3 ∨ a = 4 → l = .nil) (h : qD2 k (par11 k) (nd a b s l) k 0 0 = some (((fr l).1 : Int), (fr l).2)) :
 (par11 (k + 1)).g32 (nd a b s l) = some (((frn a s l).1:Int),(frn a s l).2):=by
 show g32B k (par11 k) (nd a b s l) = _
 unfold g32B frn
 by_cases a1:a = 1
 ·have e:fr1 a s (fr l) (0,false) = (CC s,false):=by
   subst a1; rw [hr (.inl rfl)]; rfl
  rw [e]
  exact iT (dT a1) (bS (a:=((CC s:Nat):Int)) (qEh (by omega) hb (by omega)).2 rfl)
 ·refine iF (dF a1) (stp_j.trans ?_)
  unfold fr1
  cases hst:stp a
  ·have h0:oc a s = 0:=by
    unfold oc
    rw [if_neg a1,if_neg (fun e=>by rw [e] at hst; cases hst)]
   refine iF rfl (h.trans ?_)
   rw [if_neg (by decide),h0]
   cases h2:(fr l).2
   ·rw [if_neg (by decide)]; simp
   ·rw [if_pos rfl]; simp
  ·rfl
theorem rfr_l : ∀ (f : Fo) (k m : Nat) (x : S25) (p : List S25) (y : Nat), Fat x p f → Sm f → Bt f → Rt f → y + 100 * fcn f ≤ 1000000000 → fcn f + 200 ≤ k → fcn f + 1 ≤ m → fcn f ≤ 100000 →
 qD2 k (par11 k) x m (y:Int) (p.length:Int) = some (((y + (fr f).1:Nat):Int),(fr f).2):=by
 intro f
 induction f with
 | nil =>
  intro k m x p y h hs hb hr hy hk hm hC
  obtain ⟨m,rfl,-⟩:=pos hm
  rw [qGz]
  exact iF h.nl rfl
 | cons a b s l r ihl ihr =>
  intro k m x p y h hs hb hr hy hk hm hC
  obtain ⟨m,rfl,hm'⟩:=pos hm
  obtain ⟨k,rfl,hk'⟩:=pos (show (fcn (.cons a b s l r) + 199) + 1 ≤ k by omega)
  rw [qGz]
  simp only [fcn] at hm' hk' hC hy
  have q1:=ihl k k (nd a b s l) [] 0 (Fat.top (by have:=qAc l; omega)) hs.2.1 hb.2.1 hr.2.1 (by omega) (by omega) (by omega) (by omega)
  have t1:=qJr (.cons a b s l .nil) ⟨hs.1,hs.2.1,trivial⟩
  rw [Nat.zero_add] at q1
  have t2:(frn a s l).1 ≤ 100 * (1 + fcn l):=t1
  refine iT h.lt (bS h.nth (bS (rfr_n (by omega) hs.1 hb.1 hr.1 q1) ?_))
  have e:fr (.cons a b s l r) = if (frn a s l).2 then frn a s l else ((frn a s l).1 + (fr r).1,(fr r).2):=qG7 a s (fr l) (fr r)
  rw [e,show fW .i64 ((y:Int) + ((frn a s l).1:Int)) = ((y + (frn a s l).1:Nat):Int) from fw_a (by omega) (by omega)]
  cases hst:(frn a s l).2
  ·refine iF rfl ?_
   rw [h.fw,ihr (k + 1) m x _ _ h.next hs.2.2 hb.2.2 hr.2.2 (by omega) (by omega) (by omega) (by omega),if_neg (by decide),Nat.add_assoc]
  ·exact congrArg some (Prod.ext rfl hst.symm)
theorem pfr_n {k : Nat} {a b : Int} {s : List Nat} {l : Fo} {y : Nat} (hk : 106 ≤ k) (hs : s.length ≤ 100) (hb : By s) (hy : y ≤ 1000000000) (h : qFm k (par2 k) (nd a b s l) k 0 ((y + oc a s : Nat) : Int) = some (!(fr l).2, ((y + oc a s + (fr l).1 : Nat) : Int))) :
 (par2 (k + 1)).i3 (nd a b s l) (y:Int) = some (!(frn a s l).2,((y + (frn a s l).1:Nat):Int)):=by
 show i3B k (par2 k) (nd a b s l) (y:Int) = _
 have t1:=qE8 (a:=a) hs
 unfold i3B frn fr1
 cases hst:stp a
 ·refine bS (a:=(true,((y + oc a s:Nat):Int))) ?_ (iF rfl (h.trans ?_))
  ·unfold i6
   refine stp_j.trans ?_
   rw [hst]
   refine iF rfl (bS (own_w hk hs hb) ?_)
   rw [fw_a (by omega) (by omega)]
  ·rw [if_neg (by decide)]
   cases (fr l).2
   ·rw [if_neg (by decide)]; simp [Nat.add_assoc]
   ·rw [if_pos rfl]; simp [Nat.add_assoc]
 ·refine bS (a:=(false,(y:Int))) ?_ rfl
  unfold i6
  refine stp_j.trans ?_
  rw [hst]; rfl
theorem pfr_l : ∀ (f : Fo) (k m : Nat) (x : S25) (p : List S25) (y : Nat), Fat x p f → Sm f → Bt f → y + 100 * fcn f ≤ 1000000000 → fcn f + 200 ≤ k → fcn f + 1 ≤ m → fcn f ≤ 100000 →
 qFm k (par2 k) x m (p.length:Int) (y:Int) = some (!(fr f).2,((y + (fr f).1:Nat):Int)):=by
 intro f
 induction f with
 | nil =>
  intro k m x p y h hs hb hy hk hm hC
  obtain ⟨m,rfl,-⟩:=pos hm
  rw [qJ3]
  exact iF h.nl rfl
 | cons a b s l r ihl ihr =>
  intro k m x p y h hs hb hy hk hm hC
  obtain ⟨m,rfl,hm'⟩:=pos hm
  obtain ⟨k,rfl,hk'⟩:=pos (show (fcn (.cons a b s l r) + 199) + 1 ≤ k by omega)
  rw [qJ3]
  simp only [fcn] at hm' hk' hC hy
  have t0:=qE8 (a:=a) hs.1
  have q1:=ihl k k (nd a b s l) [] (y + oc a s) (Fat.top (by have:=qAc l; omega)) hs.2.1 hb.2.1 (by omega) (by omega) (by omega) (by omega)
  have t2:(frn a s l).1 ≤ 100 * (1 + fcn l):=qJr (.cons a b s l .nil) ⟨hs.1,hs.2.1,trivial⟩
  refine iT h.lt (bS h.nth (bS (pfr_n (by omega) hs.1 hb.1 (by omega) q1) ?_))
  have e:fr (.cons a b s l r) = if (frn a s l).2 then frn a s l else ((frn a s l).1 + (fr r).1,(fr r).2):=qG7 a s (fr l) (fr r)
  rw [e]
  cases hst:(frn a s l).2
  ·refine iF rfl ?_
   rw [h.fw,ihr (k + 1) m x _ _ h.next hs.2.2 hb.2.2 (by omega) (by omega) (by omega) (by omega),if_neg (by decide),Nat.add_assoc]
  ·exact congrArg some (Prod.ext (congrArg not hst.symm) rfl)
theorem qIw (p:List S25) (x:S25) (r:List S25):nthL (p ++ x :: r) (p.length:Int) = some x:=by
 unfold nthL; simp
theorem first_l : ∀ (f : Fo) (k m : Nat) (L p : List S25) (y : Nat), L = p ++ lst f → Sm f → Bt f → y + 100 * fcn f ≤ 1000000000 → fcn f + 300 ≤ k → fcn f + 1 ≤ m → fcn f ≤ 100000 → L.length ≤ 1000000 →
 qDy k L m (p.length:Int) (y:Int) = some ((y + (fr f).1:Nat):Int):=by
 intro f
 induction f with
 | nil =>
  intro k m L p y h hs hb hy hk hm hC hL
  obtain ⟨m,rfl,-⟩:=pos hm
  rw [qH8]
  refine (jS (v:=(y:Int)) (fun j=>iF (dF ?_) rfl)).trans rfl
  rw [h]; simp only [lst,List.append_nil]; omega
 | cons a b s l r ihl ihr =>
  intro k m L p y h hs hb hy hk hm hC hL
  obtain ⟨m,rfl,hm'⟩:=pos hm
  rw [qH8]
  simp only [fcn] at hm' hk hC hy
  have t0:=qE8 (a:=a) hs.1
  obtain ⟨j,rfl,hj⟩:=pos (show (fcn l + fcn r + 300) + 1 ≤ k by omega)
  have q1:=pfr_l l j j (nd a b s l) [] (y + oc a s) (Fat.top (by have:=qAc l; omega)) hs.2.1 hb.2.1 (by omega) (by omega) (by omega) (by omega)
  have t2:(frn a s l).1 ≤ 100 * (1 + fcn l):=qJr (.cons a b s l .nil) ⟨hs.1,hs.2.1,trivial⟩
  have q2:=pfr_n (k:=j) (b:=b) (by omega) hs.1 hb.1 (by omega) q1
  have hp:p.length < L.length:=by rw [h]; simp only [List.length_append,lst,List.length_cons]; omega
  have hn:nthL L (p.length:Int) = some (nd a b s l):=by rw [h]; exact qIw p (nd a b s l) (lst r)
  have e:fr (.cons a b s l r) = if (frn a s l).2 then frn a s l else ((frn a s l).1 + (fr r).1,(fr r).2):=qG7 a s (fr l) (fr r)
  rw [e]
  cases hst:(frn a s l).2
  ·rw [hst] at q2
   have q3:=ihr (j + 1) m L (p ++ [nd a b s l]) (y + (frn a s l).1) (by rw [h]; simp [lst]) hs.2.2 hb.2.2 (by omega) (by omega) (by omega) (by omega) hL
   refine (jD (iT (dT (by omega)) (bS hn (bS q2 (iF rfl ?_))))).trans rfl
   rw [fw_s (by omega),show ((p.length + 1:Nat):Int) = (((p ++ [nd a b s l]).length:Nat):Int) by simp]
   rw [if_neg (by decide)]
   exact q3.trans (by rw [Nat.add_assoc])
  ·rw [hst] at q2
   rw [if_pos rfl]
   exact jD (iT (dT (by omega)) (bS hn (bS q2 (iT rfl rfl))))
theorem first_at {k:Nat} {f:Fo} (hs:Sm f) (hb:Bt f) (hk:fcn f + 300 ≤ k) (hC:fcn f ≤ 100000):g13 k (lst f) = some (((fr f).1:Nat):Int):=by
 have:=first_l f k k (lst f) [] 0 rfl hs hb (by omega) hk (by omega) hC (by have:=qAc f; omega)
 rw [Nat.zero_add] at this
 exact this
theorem qI6 {k:Nat} {f:Fo} (hs:Sm f) (hb:Bt f) (hr:Rt f) (hk:fcn f + 301 ≤ k) (hC:fcn f ≤ 100000):g14 k (lst f) = some (((fr f).1:Nat):Int):=by
 obtain ⟨k,rfl,hk'⟩:=pos (show (fcn f + 300) + 1 ≤ k by omega)
 have q:=rfr_l f k k (nd 5 0 [] f) [] 0 (Fat.top (by have:=qAc f; omega)) hs hb hr (by omega) (by omega) (by omega) hC
 rw [Nat.zero_add] at q
 have q2:=rfr_n (k:=k) (a:=5) (b:=0) (s:=[]) (l:=f) (by omega) (by simp) (fun c h=>by cases h) (by rintro (h | h | h | h) <;> cases h) q
 refine bS (a:=(((frn 5 [] f).1:Int),(frn 5 [] f).2)) q2 ?_
 show some (((frn 5 [] f).1:Nat):Int) = _
 unfold frn fr1
 rw [if_neg (by decide)]
 have h0:oc 5 [] = 0:=rfl
 cases (fr f).2
 ·rw [if_neg (by decide),h0]; simp
 ·rw [if_pos rfl,h0]; simp
theorem told6 (k:Nat):g6 (k + 60) = some true:=by kernel_rfl
theorem qF7 {k:Nat} (h:60 ≤ k):g6 k = some true:=by
 obtain ⟨j,rfl⟩:∃ j,k = j + 60:=⟨k - 60,by omega⟩
 exact told6 j
theorem qFk : ∀ L : List S25, (∀ y ∈ L, ∃ a b s l, y = nd a b s l ∧ By s ∧ Bt l) → ∃ f, lst f = L ∧ Bt f
 | [],_=>⟨.nil,rfl,trivial⟩
 | y :: L,h=>by
  obtain ⟨a,b,s,l,rfl,h1,h2⟩:=h y List.mem_cons_self
  obtain ⟨f,rfl,h3⟩:=qFk L fun z hz=>h z (List.mem_cons_of_mem _ hz)
  exact ⟨.cons a b s l f,rfl,h1,h2,h3⟩
theorem tree_fo {x:S25} (h:TreeP x):∃ a b s l,x = nd a b s l ∧ By s ∧ Bt l:=by
 induction h with
 | mk x h0 h1 h2 L hL hl hT ih =>
  obtain ⟨f,rfl,hf⟩:=qFk L ih
  obtain ⟨a,b,s,r⟩:=x
  simp only at hL h2
  subst hL
  exact ⟨a,b,s,f,rfl,h2.1,hf⟩
structure Gd (a b:Int) (s:List Nat) (l:Fo):Prop where
 hs:s.length ≤ 100
 hb:By s
 hc:fcn l ≤ 500
 sm:Sm l
 bt:Bt l
 r1:a = 1 ∨ a = 2 ∨ a = 3 ∨ a = 4 → l = .nil
 rt:Rt l
theorem gd_at {k : Nat} {a b : Int} {s : List Nat} {l : Fo} (hk : 1000 ≤ k) (hb : By s) (hl : Bt l) :
 g7 k (nd a b s l) = some false ∨ (g7 k (nd a b s l) = some true ∧ ((g8 k (nd a b s l) = some false) ∨ (g8 k (nd a b s l) = some true ∧ Gd a b s l))):=by
 obtain ⟨v,h1,h2⟩:=few_at (k:=k) (a:=a) (b:=b) (s:=s) (l:=l) (by omega)
 cases v with
 | false=>exact .inl h1
 | true =>
  obtain ⟨q1,q2,q3⟩:=h2 rfl
  obtain ⟨w,h3,h4⟩:=may_at (k:=k) (a:=a) (b:=b) (s:=s) (l:=l) (by omega) q2 q3 q1
  refine .inr ⟨h1,?_⟩
  cases w with
  | false=>exact .inl h3
  | true=>exact .inr ⟨h3,q2,hb,q1,q3,hl,(h4 rfl).1,(h4 rfl).2⟩
def app : Fo → Fo → Fo
 | .nil,g=>g
 | .cons a b s l r,g => .cons a b s l (app r g)
theorem qJ0 : ∀ f g : Fo, lst (app f g) = lst f ++ lst g
 | .nil,g=>rfl
 | .cons a b s l r,g=>by simp only [app,lst,qJ0 r g,List.cons_append]
theorem qJs : ∀ f g : Fo, fcn (app f g) = fcn f + fcn g
 | .nil,g=>by simp only [app,fcn,Nat.zero_add]
 | .cons a b s l r,g=>by simp only [app,fcn,qJs r g]; omega
theorem sm_app : ∀ {f g : Fo}, Sm f → Sm g → Sm (app f g)
 | .nil,g,_,h=>h
 | .cons a b s l r,g,h1,h2=>⟨h1.1,h1.2.1,sm_app h1.2.2 h2⟩
theorem bt_app : ∀ {f g : Fo}, Bt f → Bt g → Bt (app f g)
 | .nil,g,_,h=>h
 | .cons a b s l r,g,h1,h2=>⟨h1.1,h1.2.1,bt_app h1.2.2 h2⟩
theorem rt_app : ∀ {f g : Fo}, Rt f → Rt g → Rt (app f g)
 | .nil,g,_,h=>h
 | .cons a b s l r,g,h1,h2=>⟨h1.1,h1.2.1,rt_app h1.2.2 h2⟩
def ft (a b:Int) (s:List Nat) (l:Fo):List Nat × Bool:=if fh a b || fo l then ([],false) else (ow a s ++ tx l,true)
theorem Gd.flat {k:Nat} {a b:Int} {s:List Nat} {l:Fo} (h:Gd a b s l) (hk:1000 ≤ k):g9 k (nd a b s l) = some (ft a b s l) ∧ g10 k (nd a b s l) = some (ft a b s l) ∧ g11 k (nd a b s l) = some ((oc a s + wd l:Nat):Int) ∧ g12 k (nd a b s l) = some ((oc a s + wd l:Nat):Int):=by
 have:=h.hc
 exact ⟨flat_at (by omega) (by omega) h.hs h.hb h.sm h.bt,rflat_at (by omega) (by omega) h.hs h.sm h.r1 h.rt,width_at (by omega) (by omega) h.hs h.hb h.sm h.bt,qI3 (by omega) (by omega) h.hs h.hb h.sm h.bt h.r1 h.rt⟩
theorem asks_l : ∀ (f : Fo) (k m : Nat) (g : Fo), Sm g → Bt g → Rt g → fcn g ≤ 501 * (lst g).length → Bt f → (lst g ++ lst f).length ≤ 5 → 10000 ≤ k → (lst f).length + 1 ≤ m →
 qFr k (lst g ++ lst f) m ((lst g).length:Int) = some true:=by
 intro f
 induction f with
 | nil =>
  intro k m g h1 h2 h3 h4 h5 h6 hk hm
  obtain ⟨m,rfl,-⟩:=pos hm
  rw [qJa]
  simp only [lst,List.append_nil] at h6 ⊢
  refine iF (dF (by omega)) (bS (qF7 (by omega)) (iT rfl (bS (first_at h1 h2 (by omega) (by omega)) (bS (qI6 h1 h2 h3 (by omega) (by omega)) ?_))))
  rw [dT rfl]
 | cons a b s l r ihl ihr =>
  intro k m g h1 h2 h3 h4 h5 h6 hk hm
  obtain ⟨m,rfl,hm'⟩:=pos hm
  rw [qJa]
  have hL:(lst g).length + 1 + (lst r).length ≤ 5:=by simp only [List.length_append,lst,List.length_cons] at h6; omega
  have hlt:((lst g).length:Int) < ((lst g ++ lst (.cons a b s l r)).length:Int):=by simp only [List.length_append,lst,List.length_cons]; omega
  have hn:nthL (lst g ++ lst (.cons a b s l r)) ((lst g).length:Int) = some (nd a b s l):=qIw (lst g) (nd a b s l) (lst r)
  have ht:(g6 k).bind (fun x=>some x) = some true:=bS (qF7 (by omega)) rfl
  rcases gd_at (k:=k) (a:=a) (b:=b) (by omega) h5.1 h5.2.1 with q | ⟨q,q' | ⟨q',gd⟩⟩
  ·refine iT (dT hlt) (bS hn (bS q ?_))
   exact (jS (v:=(true,((lst g).length:Int))) (fun j=>iT rfl rfl)).trans (iT rfl ht)
  ·refine iT (dT hlt) (bS hn (bS q ?_))
   exact (jS (v:=(true,((lst g).length:Int))) (fun j=>iF rfl (bS hn (bS q' rfl)))).trans (iT rfl ht)
  ·refine iT (dT hlt) (bS hn (bS q ?_))
   refine (jS (v:=(false,((lst g).length:Int))) (fun j=>iF rfl (bS hn (bS q' rfl)))).trans (iF rfl ?_)
   obtain ⟨e1,e2,e3,e4⟩:=gd.flat (k:=k) (b:=b) (by omega)
   refine bS hn (bS e1 (bS hn (bS e2 ?_)))
   refine (jS (v:=(false,((lst g).length:Int))) (fun j=>iF ?_ (iF ?_ (bS hn (bS e3 (bS hn (bS e4 ?_))))))).trans (iF rfl ?_)
   ·rw [(qEg _ _).2 rfl]; rfl
   ·rw [beq_self_eq_true]; rfl
   ·rw [dT rfl]; rfl
   ·have hg:lst (app g (.cons a b s l .nil)) = lst g ++ [nd a b s l]:=by rw [qJ0]; rfl
    have hw:lst g ++ lst (.cons a b s l r) = lst (app g (.cons a b s l .nil)) ++ lst r:=by rw [hg]; simp [lst]
    show qFr k _ m (fW .i64 (((lst g).length:Int) + 1)) = _
    rw [fw_s (by omega),hw,show ((lst g).length + 1:Nat) = (lst (app g (.cons a b s l .nil))).length by rw [hg]; simp]
    have:=gd.hc
    exact ihr k m _ (sm_app h1 ⟨gd.hs,gd.sm,trivial⟩) (bt_app h2 ⟨gd.hb,gd.bt,trivial⟩) (rt_app h3 ⟨gd.r1,gd.rt,trivial⟩) (by rw [qJs,hg]; simp only [fcn,List.length_append,List.length_cons,List.length_nil]; omega) h5.2.2 (by rw [hg]; simp only [List.length_append,List.length_cons,List.length_nil]; omega) hk (by simp only [lst,List.length_cons] at hm'; omega)
theorem qEe (l:List S25) (hl:∀ x ∈ l,TreeP x) (hn:l.length ≤ 9223372036854775807):∃ k,g3 k l = some true:=by
 refine ⟨10000,?_⟩
 unfold g3
 by_cases h:5 < l.length
 ·exact iT (dT (by omega)) (bS (qF7 (by omega)) rfl)
 ·refine iF (dF (by omega)) ?_
  obtain ⟨f,rfl,hf⟩:=qFk l fun y hy=>tree_fo (hl y hy)
  exact asks_l f 10000 10000 .nil trivial trivial trivial (Nat.le_refl _) hf (by simp only [lst,List.nil_append]; omega) (by omega) (by omega)
end Go.Proofs.Ytdaaodknplbmkaa.Am
set_option linter.unusedVariables false
set_option linter.unusedSimpArgs false
namespace Go.Proofs.Ytdaaodknplbmkaa.Am
open Go Go.ChangeShapes Go.WideShapes
theorem flatAsks_walk (v0:Option Addr) (len0 cap0:Nat) (z0:List S25) (F0:List (Nat × List AV)) (W:World) (u0:Sees W F0 [.vec z0.length 4 (z0.flatMap e26)] [.slice v0 len0 cap0]) (w0:∀ x ∈ z0,TreeP x) (l0:z0.length ≤ maxLen):Calls Try.prog 3 #[.slice v0 len0 cap0] W fun e W'=>e = .returned (.bool true) ∧ RowKit.Below W.heap.size W W':=by
 obtain ⟨k,h⟩:=qEe z0 w0 (by simpa [maxLen] using l0)
 have hs:Sees W _ [.vec z0.length 4 (z0.flatMap e26)] [.slice v0 len0 cap0] := .cons (u0) (.nil)
 exact qHk (g3_ok k _ true h) W hs
end Go.Proofs.Ytdaaodknplbmkaa.Am
namespace Go.Proofs.Ytdaaodknplbmkaa.flatAsks
open Go.ChangeShapes Go.WideShapes Go.ChangeAt Go.RowKit
open Go.ChangeMaps (open_string shut_string)
set_option linter.unusedVariables false
theorem laidOut:laidOutB Try.prog = true:=by kernel_rfl
theorem own:ownKnob Try.prog.godebug = none:=by kernel_rfl
set_option maxRecDepth 100000 in
theorem lifted (os : Os) (started : os.Started) (H : Type) (enc : TypeId × Value → H) :
 ReturnsInHanded {} Try.checked os 3 .any (Rows.flatAsksSpec.pre6 enc Try.prog Try.f3 Rows.flatAsksRow.domain false) (Rows.flatAsksSpec.post enc Try.prog Try.f3 false true false false):=by
 refine returnsInHanded_of_change_sized (C := Try.checked) own started (by kernel_rfl) Try.func3
  (ChangeSpec.witness6 (enc:=enc) (C:=Try.checked) false ⟨#[],#[.slice none 0 0],[]⟩ 8 (by kernel_rfl) (by kernel_rfl) (by kernel_rfl) (by kernel_rfl)) ?_
 intro W base args ds gs before hval0 hW hcnd hsz0 _
 have hsz:(DataW.weightsEach Try.prog (Try.f3.params.toList ++ Rows.flatAsksSpec.plain.varTypes Try.prog) (ds ++ gs)).all (· ≤ reachBytes) = true:=hsz0
 have hval:∀ (j:Nat) t v,Try.f3.params[j]? = some t → args[j]? = some v → Value.okWide Try.prog W .any base t v:=hval0
 have hW':=hW
 obtain ⟨p,q,hA0,hV,rfl,hfz,hnd⟩:=hW
 have hA:DataW.TrodAll enc Try.prog W 0 (fun _=>true) true Try.f3.params.toList args.toList ds p:=hA0
 rw [Try.params3] at hA hval hsz
 obtain ⟨v0,vs0,d0,ds0,p0,q0,hargs,rfl,rfl,h0,r0⟩:=trodAll_cons hA
 obtain ⟨rfl,rfl,rfl⟩:=trodAll_nil r0
 obtain rfl:args = #[v0]:=by cases args; simp_all
 obtain ⟨rfl,rfl⟩:=trodVars_none hV
 obtain ⟨v0a,len0,cap0,rfl⟩:=okWide_slice Try.underlying22 (hval 0 22 v0 rfl rfl)
 have k0:=h0
 have lt0:∀ x ∈ p0,x.block < W.heap.size:=by obtain ⟨m,hm⟩:=k0; exact DataW.trod_lt m _ _ _ hm
 have g0:∃ (L:List Am.S25) (F:List (Nat × List Am.AV)),Am.Sees W F [.vec L.length 4 (L.flatMap Am.e26)] [.slice v0a len0 cap0] ∧ (∀ x ∈ L,Am.TreeP x) ∧ L.length ≤ maxLen:=by obtain ⟨m,hm⟩:=h0; exact Am.rowT_open Try.underlying22 (by kernel_rfl) (by decide) Am.e26_ln (fun f _ cs y h=>Am.opnT f cs y h) hm
 obtain ⟨z0,F0,u0,w0,l0⟩:=g0
 clear hA0 hval0 hsz0 hsz
 refine (Am.flatAsks_walk v0a len0 cap0 z0 F0 W u0 w0 l0).mono fun e W' ⟨he,bel⟩=>?_
 subst he
 exact ⟨_,rfl,_,_,_,[],_,[],hW',trodAll_mk1 (shut_bool Try.underlying4 _),(trodAll_cons_mk (Below.trod laidOut (by kernel_rfl) (of_decide_eq_true (by kernel_rfl)) k0 bel lt0) trodAll_mk0),rfl,bel.frame _,fun h=>by cases h⟩
theorem over:Rows.flatAsksRow.holds Try.pinned (OpenSpec.ofChange Rows.flatAsksSpec) :=
 OpenClaim.holds_of_wide 3 Try.f3 rfl rfl rfl rfl rfl rfl rfl ⟨rfl, rfl, rfl, rfl, rfl⟩ rfl rfl rfl rfl rfl (by kernel_rfl) Try.func3 (by kernel_rfl)
  (of_decide_eq_true (by kernel_rfl)) (by unfold Func.isWrapper; first | (rw [if_pos (by decide +kernel)]; kernel_rfl) | (rw [if_neg (by decide +kernel)]; exact ⟨rfl,rfl⟩))
  (fun os started H enc _=>lifted os started H enc)
theorem proved:Rows.FlatAsksSaid:=over
#print axioms proved
end Go.Proofs.Ytdaaodknplbmkaa.flatAsks
namespace Go.Proofs.Ytdaaodknplbmkaa
theorem flatAsks_holds:Rows.FlatAsksSaid:=flatAsks.proved
end Go.Proofs.Ytdaaodknplbmkaa
