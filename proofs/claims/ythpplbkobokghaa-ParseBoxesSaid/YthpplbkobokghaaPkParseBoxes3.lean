/- LawParseBoxes, part 3: whatever the input, the law comes out true: our texts, joined by a tool, without what the claim does not name. -/
import Derived.Test.YthpplbkobokghaaPkParseBoxes2
set_option maxRecDepth 100000
set_option linter.unusedVariables false
set_option linter.unusedSimpArgs false
set_option maxRecDepth 100000
set_option linter.unusedVariables false
namespace Go.Proofs.Ythpplbkobokghaa.Am
noncomputable section
open Go
theorem qOc (k:Nat)   (a0:(List Nat)) (a1:Int) (a2:Int) (a3:Bool)  : ∀ (n:Nat) (y1_0:Int),Ok Xg73 g73p2 [(0,.str a0),(1,.i a1),(2,.i a2),(3,.bool a3),(9,.i y1_0)] (mkH []) (qF8 k a0 a1 a2 a3 n y1_0):=by
 intro n
 induction n with
 | zero=>intro y1_0; exact ok_none
 | succ n ih =>
  intro y1_0
  show Ok _ _ _ _ (qIb k a0 a1 a2 a3 (qF8 k a0 a1 a2 a3 n) y1_0)
  unfold qIb
  refine qAf (p':=nav [0] g73p2) (by kernel_rfl) ?_
  let E2:Env:=[(14,.bool (decide (y1_0 < (a0.length:Int)))),(13,.i (a0.length:Int)),(12,.str a0),(11,.i y1_0),(0,.str a0),(1,.i a1),(2,.i a2),(3,.bool a3),(9,.i y1_0)]
  refine oH 8 g73p4 E2 (mkH []) ?_
  refine oJ g73p6 (fun (z3:Int)=>[(1,.i a1),(9,.i z3)]) (fun (z3:Int)=>(mkH [])) (fun z3=>?_) (fun j3 hj3=>?_)
  ·exact oQ 7
  ·refine oS 14 (fun hb=>?_) (fun hb=>?_)
   ·refine oH 8 (atN 2 (ctl1 g73p5)) ((16,.i y1_0) :: (15,.str a0) :: (14,.bool true) :: E2) (mkH []) ?_
    refine oC (fun (x0_2:Int)=>(.y x0_2,(mkH []))) (atN 3 (ctl1 g73p5)) 17 (idxH (by kernel_rfl)) fun x0_2 hx0_2=>?_
    let E4:Env:=((18,.i a2) :: (17,.y x0_2) :: (16,.i y1_0) :: (15,.str a0) :: (14,.bool true) :: E2)
    refine oH 1 (atN 4 (ctl1 g73p5)) E4 (mkH []) ?_
    refine oA (fun (x0_4:Int) => .i x0_4) (atN 5 (ctl1 g73p5)) 19 [.y x0_2,.i a2] (qKu k x0_2 a2) fun x0_4 hx0_4=>?_
    refine oR 2 (atN 7 (ctl1 g73p5)) ((21,.bool (decide (x0_4 < 0))) :: (20,.bool (decide (x0_4 < 0))) :: (19,.i x0_4) :: E4) ?_
    refine oJ g73p7 (fun (z2:Bool × Int)=>[(0,.str a0),(1,.i a1),(2,.i a2),(3,.bool a3),(9,.i z2.2),(58,.bool z2.1)]) (fun (z2:Bool × Int)=>(mkH [])) (fun z2=>?_) (fun j2 hj2=>?_)
    ·refine oS 58 (fun hb=>?_) (fun hb=>?_)
     ·refine oLH 3 g73p6 [(1,.i a1),(9,.i z2.2)] (mkH []) ?_
      exact hj3 z2.2
     ·refine oLH 7 g73p2 [(0,.str a0),(1,.i a1),(2,.i a2),(3,.bool a3),(9,.i (fW .i64 (z2.2 + 1)))] (mkH []) ?_
      exact ih (fW .i64 (z2.2 + 1))
    ·refine oS 21 (fun hb=>?_) (fun hb=>?_)
     ·let E9:Env:=((23,.bool a3) :: (22,.bool a3) :: (21,.bool true) :: (21,.bool (decide (x0_4 < 0))) :: (20,.bool (decide (x0_4 < 0))) :: (19,.i x0_4) :: E4)
      refine oH 2 (atN 9 (ctl1 g73p5)) E9 (mkH []) ?_
      refine oS 23 (fun hb=>?_) (fun hb=>?_)
      ·refine oR 2 (atN 11 (ctl1 g73p5)) ((25,.i y1_0) :: (24,.str a0) :: (23,.bool true) :: E9) ?_
       refine oC (fun (x0_11:Int)=>(.y x0_11,(mkH []))) (atN 12 (ctl1 g73p5)) 26 (idxH (by kernel_rfl)) fun x0_11 hx0_11=>?_
       let E10:Env:=((29,.bool (decide (x0_11 = 95))) :: (28,.bool (decide (x0_11 = 95))) :: (27,.bool (decide (x0_11 = 95))) :: (26,.y x0_11) :: (25,.i y1_0) :: (24,.str a0) :: (23,.bool true) :: E9)
       refine oH 3 (atN 15 (ctl1 g73p5)) E10 (mkH []) ?_
       refine oS 29 (fun hb=>?_) (fun hb=>?_)
       ·let E11:Env:=((34,.bool (decide (a1 < y1_0))) :: (33,.bool (decide (a1 < y1_0))) :: (32,.bool (decide (a1 < y1_0))) :: (31,.i a1) :: (30,.i y1_0) :: (29,.bool true) :: E10)
        refine oR 5 (atN 20 (ctl1 g73p5)) E11 ?_
        refine oS 34 (fun hb=>?_) (fun hb=>?_)
        ·refine oR 3 (atN 23 (ctl1 g73p5)) ((37,.i (fW .i64 (y1_0 - 1))) :: (36,.i y1_0) :: (35,.str a0) :: (34,.bool true) :: E11) ?_
         refine oC (fun (x0_23:Int)=>(.y x0_23,(mkH []))) (atN 24 (ctl1 g73p5)) 38 (idxH (by kernel_rfl)) fun x0_23 hx0_23=>?_
         let E12:Env:=((41,.bool (!decide (x0_23 = 95))) :: (40,.bool (!decide (x0_23 = 95))) :: (39,.bool (!decide (x0_23 = 95))) :: (38,.y x0_23) :: (37,.i (fW .i64 (y1_0 - 1))) :: (36,.i y1_0) :: (35,.str a0) :: (34,.bool true) :: E11)
         refine oH 3 (atN 27 (ctl1 g73p5)) E12 (mkH []) ?_
         refine oS 41 (fun hb=>?_) (fun hb=>?_)
         ·let E13:Env:=((48,.bool (decide (fW .i64 (y1_0 + 1) < (a0.length:Int)))) :: (47,.bool (decide (fW .i64 (y1_0 + 1) < (a0.length:Int)))) :: (46,.bool (decide (fW .i64 (y1_0 + 1) < (a0.length:Int)))) :: (45,.i (a0.length:Int)) :: (44,.str a0) :: (43,.i (fW .i64 (y1_0 + 1))) :: (42,.i y1_0) :: (41,.bool true) :: E12)
          refine oR 7 (atN 34 (ctl1 g73p5)) E13 ?_
          refine oS 48 (fun hb=>?_) (fun hb=>?_)
          ·refine oR 3 (atN 37 (ctl1 g73p5)) ((51,.i (fW .i64 (y1_0 + 1))) :: (50,.i y1_0) :: (49,.str a0) :: (48,.bool true) :: E13) ?_
           refine oC (fun (x0_37:Int)=>(.y x0_37,(mkH []))) (atN 38 (ctl1 g73p5)) 52 (idxH (by kernel_rfl)) fun x0_37 hx0_37=>?_
           refine oH 1 (atN 39 (ctl1 g73p5)) ((53,.i a2) :: (52,.y x0_37) :: (51,.i (fW .i64 (y1_0 + 1))) :: (50,.i y1_0) :: (49,.str a0) :: (48,.bool true) :: E13) (mkH []) ?_
           refine oA (fun (x0_39:Int) => .i x0_39) (atN 40 (ctl1 g73p5)) 54 [.y x0_37,.i a2] (qKu k x0_37 a2) fun x0_39 hx0_39=>?_
           refine oL 5 g73p7 [(0,.str a0),(1,.i a1),(2,.i a2),(3,.bool a3),(9,.i y1_0),(58,.bool (!(decide (0 ≤ x0_39))))] ?_
           exact hj2 (!(decide (0 ≤ x0_39)),y1_0)
          ·refine oL 11 g73p7 [(0,.str a0),(1,.i a1),(2,.i a2),(3,.bool a3),(9,.i y1_0),(58,.bool true)] ?_
           exact hj2 (true,y1_0)
         ·refine oL 18 g73p7 [(0,.str a0),(1,.i a1),(2,.i a2),(3,.bool a3),(9,.i y1_0),(58,.bool true)] ?_
          exact hj2 (true,y1_0)
        ·refine oL 25 g73p7 [(0,.str a0),(1,.i a1),(2,.i a2),(3,.bool a3),(9,.i y1_0),(58,.bool true)] ?_
         exact hj2 (true,y1_0)
       ·refine oL 30 g73p7 [(0,.str a0),(1,.i a1),(2,.i a2),(3,.bool a3),(9,.i y1_0),(58,.bool true)] ?_
        exact hj2 (true,y1_0)
      ·refine oL 36 g73p7 [(0,.str a0),(1,.i a1),(2,.i a2),(3,.bool a3),(9,.i y1_0),(58,.bool true)] ?_
       exact hj2 (true,y1_0)
     ·refine oLH 38 g73p7 [(0,.str a0),(1,.i a1),(2,.i a2),(3,.bool a3),(9,.i y1_0),(58,.bool false)] (mkH []) ?_
      exact hj2 (false,y1_0)
   ·refine oLH 3 g73p6 [(1,.i a1),(9,.i y1_0)] (mkH []) ?_
    exact hj3 y1_0
def g73 (k:Nat) (a0:(List Nat)) (a1:Int) (a2:Int) (a3:Bool):Option Int :=
 qF8 k a0 a1 a2 a3 k a1
theorem qF7 (k:Nat) (a0:(List Nat)) (a1:Int) (a2:Int) (a3:Bool) (r:Int) (h:g73 k a0 a1 a2 a3 = some r):PureOk Try.prog 73 [.str a0,.i a1,.i a2,.bool a3] (.i r):=by
 refine qA4 Xg73 (fun _=>⟨rfl,rfl⟩) Try.func73 (by decide +kernel) (by kernel_rfl) (t:=g73 k a0 a1 a2 a3) ?_ h
 unfold g73
 refine qA (eE:=[(0,.str a0),(1,.i a1),(2,.i a2),(3,.bool a3)]) (by kernel_rfl) ?_
 refine oLH 12 g73p2 [(0,.str a0),(1,.i a1),(2,.i a2),(3,.bool a3),(9,.i a1)] (mkH []) ?_
 exact (qOc k a0 a1 a2 a3 k) a1
def Xg61:Fx Int:=⟨Try.prog,cx,Try.f61,fun r => .i r,0,fun _=>H0,cxTi,cxOrd,fun _=>none,false⟩
def g61p1:Pt:=nav [0,0,0] (nav [0] (bodyAt Try.f61))
def g61p2:Pt:=nav [0,0,0,0] g61p1
def g61p3:Pt:=nav [0,0] g61p2
def g61p5:Pt:=nav [2,0,0] g61p3
def g61p8:Pt:=nav [0,0] (nav [0,0,0,0] g61p5)
def g61p11:Pt:=nav [0,0,0,0] (nav [2,0,0] g61p8)
def g61p12:Pt:=nav [0,0] g61p11
def g61p14:Pt:=nav [2,0,0] g61p12
def g61p15:Pt:=nav [0,0,0,0] (nav [1,0] g61p12)
def g61p16:Pt:=nav [0,0] g61p15
def g61p18:Pt:=nav [2,0,0] g61p16
def g61 (k:Nat) (a0:(List Nat)) (a1:Int):Option Int :=
 (g73 k a0 a1 (10:Int) true).bind fun x0_3=>jn (fun (z6:Bool)=>if z6 then (some (0:Int)) else ((g73 k a0 (fW .i64 (fW .i64 (a1 + x0_3) + 1)) (10:Int) true).bind fun x2_3=>if (decide (x2_3 = 0)) then (some (0:Int)) else (jn (fun (z7:Bool)=>jn (fun (z9:Int)=>some (fW .i64 (z9 - a1))) (fun j9=>if z7 then (jn (fun (z8:Bool)=>jn (fun (z10:Int)=>(g73 k a0 z10 (10:Int) true).bind fun x5_2=>if (decide (0 < x5_2)) then (j9 (fW .i64 (z10 + x5_2))) else (j9 (fW .i64 (fW .i64 (fW .i64 (a1 + x0_3) + 1) + x2_3)))) (fun j10=>if z8 then (j10 (fW .i64 (fW .i64 (fW .i64 (fW .i64 (fW .i64 (a1 + x0_3) + 1) + x2_3) + 1) + 1))) else (j10 (fW .i64 (fW .i64 (fW .i64 (fW .i64 (a1 + x0_3) + 1) + x2_3) + 1))))) (fun j8=>if (decide (fW .i64 (fW .i64 (fW .i64 (fW .i64 (a1 + x0_3) + 1) + x2_3) + 1) < (a0.length:Int))) then ((nthS a0 (fW .i64 (fW .i64 (fW .i64 (fW .i64 (a1 + x0_3) + 1) + x2_3) + 1))).bind fun x4_7=>if (decide (x4_7 = 43)) then (j8 true) else ((nthS a0 (fW .i64 (fW .i64 (fW .i64 (fW .i64 (a1 + x0_3) + 1) + x2_3) + 1))).bind fun x4_12=>j8 (decide (x4_12 = 45)))) else (j8 false))) else (j9 (fW .i64 (fW .i64 (fW .i64 (a1 + x0_3) + 1) + x2_3))))) (fun j7=>if (decide (fW .i64 (fW .i64 (fW .i64 (a1 + x0_3) + 1) + x2_3) < (a0.length:Int))) then ((nthS a0 (fW .i64 (fW .i64 (fW .i64 (a1 + x0_3) + 1) + x2_3))).bind fun x3_7=>if (decide (x3_7 = 101)) then (j7 true) else ((nthS a0 (fW .i64 (fW .i64 (fW .i64 (a1 + x0_3) + 1) + x2_3))).bind fun x3_12=>j7 (decide (x3_12 = 69)))) else (j7 false))))) (fun j6=>if (decide (fW .i64 (a1 + x0_3) = a1)) then (j6 true) else (if (decide ((a0.length:Int) ≤ fW .i64 (a1 + x0_3))) then (j6 true) else ((nthS a0 (fW .i64 (a1 + x0_3))).bind fun x1_12=>j6 (!decide (x1_12 = 46)))))
theorem g61_ok (k:Nat) (a0:(List Nat)) (a1:Int) (r:Int) (h:g61 k a0 a1 = some r):PureOk Try.prog 61 [.str a0,.i a1] (.i r):=by
 refine qA4 Xg61 (fun _=>⟨rfl,rfl⟩) Try.func61 (by decide +kernel) (by kernel_rfl) (t:=g61 k a0 a1) ?_ h
 unfold g61
 refine qA (eE:=[(0,.str a0),(1,.i a1)]) (by kernel_rfl) ?_
 let E1:Env:=[(11,.i a1),(10,.str a0),(9,.i a1),(4,.i 0),(0,.str a0),(1,.i a1)]
 refine oH 9 (atN 3 (ctl1 g61p1)) E1 (mkH []) ?_
 refine oA (fun (x0_3:Int) => .i x0_3) (atN 4 (ctl1 g61p1)) 12 [.str a0,.i a1,.i 10,.bool true] (qF7 k a0 a1 (10:Int) true) fun x0_3 hx0_3=>?_
 let E2:Env:=((17,.bool (decide (fW .i64 (a1 + x0_3) = a1))) :: (16,.bool (decide (fW .i64 (a1 + x0_3) = a1))) :: (15,.i a1) :: (14,.i (fW .i64 (a1 + x0_3))) :: (5,.i (fW .i64 (a1 + x0_3))) :: (13,.i (fW .i64 (a1 + x0_3))) :: (12,.i x0_3) :: E1)
 refine oR 10 (atN 4 (ctl1 g61p2)) E2 ?_
 refine oJ g61p3 (fun (z6:Bool)=>[(0,.str a0),(1,.i a1),(5,.i (fW .i64 (a1 + x0_3))),(28,.bool z6)]) (fun (z6:Bool)=>(mkH [])) (fun z6=>?_) (fun j6 hj6=>?_)
 ·refine oS 28 (fun hb=>?_) (fun hb=>?_)
  ·exact oQ 6
  ·refine oH 7 (atN 3 (ctl1 g61p5)) [(31,.i (fW .i64 (fW .i64 (a1 + x0_3) + 1))),(30,.i (fW .i64 (a1 + x0_3))),(29,.str a0),(28,.bool false),(0,.str a0),(1,.i a1),(5,.i (fW .i64 (a1 + x0_3))),(28,.bool z6)] (mkH []) ?_
   refine oA (fun (x2_3:Int) => .i x2_3) (atN 4 (ctl1 g61p5)) 32 [.str a0,.i (fW .i64 (fW .i64 (a1 + x0_3) + 1)),.i 10,.bool true] (qF7 k a0 (fW .i64 (fW .i64 (a1 + x0_3) + 1)) (10:Int) true) fun x2_3 hx2_3=>?_
   refine oL 8 g61p8 [(0,.str a0),(1,.i a1),(5,.i (fW .i64 (a1 + x0_3))),(6,.i x2_3),(34,.bool (decide (x2_3 = 0)))] ?_
   refine oS 34 (fun hb=>?_) (fun hb=>?_)
   ·exact oQ 6
   ·let E7:Env:=[(0,.str a0),(1,.i a1),(5,.i (fW .i64 (fW .i64 (fW .i64 (a1 + x0_3) + 1) + x2_3)))]
    refine oL 12 g61p11 E7 ?_
    let E8:Env:=((43,.bool (decide (fW .i64 (fW .i64 (fW .i64 (a1 + x0_3) + 1) + x2_3) < (a0.length:Int)))) :: (42,.bool (decide (fW .i64 (fW .i64 (fW .i64 (a1 + x0_3) + 1) + x2_3) < (a0.length:Int)))) :: (41,.i (a0.length:Int)) :: (40,.str a0) :: (39,.i (fW .i64 (fW .i64 (fW .i64 (a1 + x0_3) + 1) + x2_3))) :: E7)
    refine oR 6 (atN 5 (ctl1 g61p11)) E8 ?_
    refine oJ g61p12 (fun (z7:Bool)=>[(0,.str a0),(1,.i a1),(5,.i (fW .i64 (fW .i64 (fW .i64 (a1 + x0_3) + 1) + x2_3))),(54,.bool z7)]) (fun (z7:Bool)=>(mkH [])) (fun z7=>?_) (fun j7 hj7=>?_)
    ·refine oJ g61p14 (fun (z9:Int)=>[(1,.i a1),(5,.i z9)]) (fun (z9:Int)=>(mkH [])) (fun z9=>?_) (fun j9 hj9=>?_)
     ·exact oQ 7
     ·refine oS 54 (fun hb=>?_) (fun hb=>?_)
      ·let E10:Env:=[(61,.bool (decide (fW .i64 (fW .i64 (fW .i64 (fW .i64 (a1 + x0_3) + 1) + x2_3) + 1) < (a0.length:Int)))),(60,.bool (decide (fW .i64 (fW .i64 (fW .i64 (fW .i64 (a1 + x0_3) + 1) + x2_3) + 1) < (a0.length:Int)))),(59,.i (a0.length:Int)),(58,.str a0),(57,.i (fW .i64 (fW .i64 (fW .i64 (fW .i64 (a1 + x0_3) + 1) + x2_3) + 1))),(7,.i (fW .i64 (fW .i64 (fW .i64 (fW .i64 (a1 + x0_3) + 1) + x2_3) + 1))),(56,.i (fW .i64 (fW .i64 (fW .i64 (fW .i64 (a1 + x0_3) + 1) + x2_3) + 1))),(55,.i (fW .i64 (fW .i64 (fW .i64 (a1 + x0_3) + 1) + x2_3))),(54,.bool true),(0,.str a0),(1,.i a1),(5,.i (fW .i64 (fW .i64 (fW .i64 (a1 + x0_3) + 1) + x2_3))),(54,.bool z7)]
       refine oH 15 (atN 5 (ctl1 g61p15)) E10 (mkH []) ?_
       refine oJ g61p16 (fun (z8:Bool)=>[(0,.str a0),(1,.i a1),(5,.i (fW .i64 (fW .i64 (fW .i64 (a1 + x0_3) + 1) + x2_3))),(7,.i (fW .i64 (fW .i64 (fW .i64 (fW .i64 (a1 + x0_3) + 1) + x2_3) + 1))),(72,.bool z8)]) (fun (z8:Bool)=>(mkH [])) (fun z8=>?_) (fun j8 hj8=>?_)
       ·refine oJ g61p18 (fun (z10:Int)=>[(0,.str a0),(1,.i a1),(5,.i (fW .i64 (fW .i64 (fW .i64 (a1 + x0_3) + 1) + x2_3))),(7,.i z10)]) (fun (z10:Int)=>(mkH [])) (fun z10=>?_) (fun j10 hj10=>?_)
        ·let E11:Env:=[(76,.i z10),(75,.str a0),(0,.str a0),(1,.i a1),(5,.i (fW .i64 (fW .i64 (fW .i64 (a1 + x0_3) + 1) + x2_3))),(7,.i z10)]
         refine oH 3 (atN 2 (ctl1 g61p18)) E11 (mkH []) ?_
         refine oA (fun (x5_2:Int) => .i x5_2) (atN 3 (ctl1 g61p18)) 77 [.str a0,.i z10,.i 10,.bool true] (qF7 k a0 z10 (10:Int) true) fun x5_2 hx5_2=>?_
         refine oR 7 (nav [0,0] (nav [0,0,0] g61p18)) ((79,.bool (decide (0 < x5_2))) :: (78,.i x5_2) :: (8,.i x5_2) :: (77,.i x5_2) :: E11) ?_
         refine oS 79 (fun hb=>?_) (fun hb=>?_)
         ·refine oL 8 g61p14 [(1,.i a1),(5,.i (fW .i64 (z10 + x5_2)))] ?_
          exact hj9 (fW .i64 (z10 + x5_2))
         ·refine oL 3 g61p14 [(1,.i a1),(5,.i (fW .i64 (fW .i64 (fW .i64 (a1 + x0_3) + 1) + x2_3)))] ?_
          exact hj9 (fW .i64 (fW .i64 (fW .i64 (a1 + x0_3) + 1) + x2_3))
        ·refine oS 72 (fun hb=>?_) (fun hb=>?_)
         ·refine oLH 7 g61p18 [(0,.str a0),(1,.i a1),(5,.i (fW .i64 (fW .i64 (fW .i64 (a1 + x0_3) + 1) + x2_3))),(7,.i (fW .i64 (fW .i64 (fW .i64 (fW .i64 (fW .i64 (a1 + x0_3) + 1) + x2_3) + 1) + 1)))] (mkH []) ?_
          exact hj10 (fW .i64 (fW .i64 (fW .i64 (fW .i64 (fW .i64 (a1 + x0_3) + 1) + x2_3) + 1) + 1))
         ·refine oLH 3 g61p18 [(0,.str a0),(1,.i a1),(5,.i (fW .i64 (fW .i64 (fW .i64 (a1 + x0_3) + 1) + x2_3))),(7,.i (fW .i64 (fW .i64 (fW .i64 (fW .i64 (a1 + x0_3) + 1) + x2_3) + 1)))] (mkH []) ?_
          exact hj10 (fW .i64 (fW .i64 (fW .i64 (fW .i64 (a1 + x0_3) + 1) + x2_3) + 1))
       ·refine oS 61 (fun hb=>?_) (fun hb=>?_)
        ·refine oH 2 (atN 7 (ctl1 g61p15)) ((63,.i (fW .i64 (fW .i64 (fW .i64 (fW .i64 (a1 + x0_3) + 1) + x2_3) + 1))) :: (62,.str a0) :: (61,.bool true) :: E10) (mkH []) ?_
         refine oC (fun (x4_7:Int)=>(.y x4_7,(mkH []))) (atN 8 (ctl1 g61p15)) 64 (idxH (by kernel_rfl)) fun x4_7 hx4_7=>?_
         let E20:Env:=((66,.bool (decide (x4_7 = 43))) :: (65,.bool (decide (x4_7 = 43))) :: (64,.y x4_7) :: (63,.i (fW .i64 (fW .i64 (fW .i64 (fW .i64 (a1 + x0_3) + 1) + x2_3) + 1))) :: (62,.str a0) :: (61,.bool true) :: E10)
         refine oH 2 (atN 10 (ctl1 g61p15)) E20 (mkH []) ?_
         refine oS 66 (fun hb=>?_) (fun hb=>?_)
         ·refine oR 7 g61p16 ((72,.bool true) :: (71,.bool true) :: (70,.tuple []) :: (69,.tuple []) :: (68,.tuple []) :: (67,.tuple []) :: (66,.bool true) :: E20) ?_
          refine oK [0,1,5,7,72] [(0,.str a0),(1,.i a1),(5,.i (fW .i64 (fW .i64 (fW .i64 (a1 + x0_3) + 1) + x2_3))),(7,.i (fW .i64 (fW .i64 (fW .i64 (fW .i64 (a1 + x0_3) + 1) + x2_3) + 1))),(72,.bool true)] ?_
          exact hj8 true
         ·refine oR 2 (atN 12 (ctl1 g61p15)) ((68,.i (fW .i64 (fW .i64 (fW .i64 (fW .i64 (a1 + x0_3) + 1) + x2_3) + 1))) :: (67,.str a0) :: (66,.bool false) :: E20) ?_
          refine oC (fun (x4_12:Int)=>(.y x4_12,(mkH []))) (atN 13 (ctl1 g61p15)) 69 (idxH (by kernel_rfl)) fun x4_12 hx4_12=>?_
          refine oLH 4 g61p16 [(0,.str a0),(1,.i a1),(5,.i (fW .i64 (fW .i64 (fW .i64 (a1 + x0_3) + 1) + x2_3))),(7,.i (fW .i64 (fW .i64 (fW .i64 (fW .i64 (a1 + x0_3) + 1) + x2_3) + 1))),(72,.bool (decide (x4_12 = 45)))] (mkH []) ?_
          exact hj8 (decide (x4_12 = 45))
        ·refine oLH 12 g61p16 [(0,.str a0),(1,.i a1),(5,.i (fW .i64 (fW .i64 (fW .i64 (a1 + x0_3) + 1) + x2_3))),(7,.i (fW .i64 (fW .i64 (fW .i64 (fW .i64 (a1 + x0_3) + 1) + x2_3) + 1))),(72,.bool false)] (mkH []) ?_
         exact hj8 false
      ·refine oLH 3 g61p14 [(1,.i a1),(5,.i (fW .i64 (fW .i64 (fW .i64 (a1 + x0_3) + 1) + x2_3)))] (mkH []) ?_
       exact hj9 (fW .i64 (fW .i64 (fW .i64 (a1 + x0_3) + 1) + x2_3))
    ·refine oS 43 (fun hb=>?_) (fun hb=>?_)
     ·refine oH 2 (atN 7 (ctl1 g61p11)) ((45,.i (fW .i64 (fW .i64 (fW .i64 (a1 + x0_3) + 1) + x2_3))) :: (44,.str a0) :: (43,.bool true) :: E8) (mkH []) ?_
      refine oC (fun (x3_7:Int)=>(.y x3_7,(mkH []))) (atN 8 (ctl1 g61p11)) 46 (idxH (by kernel_rfl)) fun x3_7 hx3_7=>?_
      let E29:Env:=((48,.bool (decide (x3_7 = 101))) :: (47,.bool (decide (x3_7 = 101))) :: (46,.y x3_7) :: (45,.i (fW .i64 (fW .i64 (fW .i64 (a1 + x0_3) + 1) + x2_3))) :: (44,.str a0) :: (43,.bool true) :: E8)
      refine oH 2 (atN 10 (ctl1 g61p11)) E29 (mkH []) ?_
      refine oS 48 (fun hb=>?_) (fun hb=>?_)
      ·refine oL 7 g61p12 [(0,.str a0),(1,.i a1),(5,.i (fW .i64 (fW .i64 (fW .i64 (a1 + x0_3) + 1) + x2_3))),(54,.bool true)] ?_
       exact hj7 true
      ·refine oR 2 (atN 12 (ctl1 g61p11)) ((50,.i (fW .i64 (fW .i64 (fW .i64 (a1 + x0_3) + 1) + x2_3))) :: (49,.str a0) :: (48,.bool false) :: E29) ?_
       refine oC (fun (x3_12:Int)=>(.y x3_12,(mkH []))) (atN 13 (ctl1 g61p11)) 51 (idxH (by kernel_rfl)) fun x3_12 hx3_12=>?_
       refine oLH 4 g61p12 [(0,.str a0),(1,.i a1),(5,.i (fW .i64 (fW .i64 (fW .i64 (a1 + x0_3) + 1) + x2_3))),(54,.bool (decide (x3_12 = 69)))] (mkH []) ?_
       exact hj7 (decide (x3_12 = 69))
     ·refine oLH 12 g61p12 [(0,.str a0),(1,.i a1),(5,.i (fW .i64 (fW .i64 (fW .i64 (a1 + x0_3) + 1) + x2_3))),(54,.bool false)] (mkH []) ?_
      exact hj7 false
 ·refine oS 17 (fun hb=>?_) (fun hb=>?_)
  ·refine oLH 12 g61p3 [(0,.str a0),(1,.i a1),(5,.i (fW .i64 (a1 + x0_3))),(28,.bool true)] (mkH []) ?_
   exact hj6 true
  ·let E38:Env:=((23,.bool (decide ((a0.length:Int) ≤ fW .i64 (a1 + x0_3)))) :: (22,.bool (decide ((a0.length:Int) ≤ fW .i64 (a1 + x0_3)))) :: (21,.bool (decide ((a0.length:Int) ≤ fW .i64 (a1 + x0_3)))) :: (20,.i (a0.length:Int)) :: (19,.str a0) :: (18,.i (fW .i64 (a1 + x0_3))) :: (17,.bool false) :: E2)
   refine oH 6 (atN 10 (ctl1 g61p2)) E38 (mkH []) ?_
   refine oS 23 (fun hb=>?_) (fun hb=>?_)
   ·refine oL 6 g61p3 [(0,.str a0),(1,.i a1),(5,.i (fW .i64 (a1 + x0_3))),(28,.bool true)] ?_
    exact hj6 true
   ·refine oR 2 (atN 12 (ctl1 g61p2)) ((25,.i (fW .i64 (a1 + x0_3))) :: (24,.str a0) :: (23,.bool false) :: E38) ?_
    refine oC (fun (x1_12:Int)=>(.y x1_12,(mkH []))) (atN 13 (ctl1 g61p2)) 26 (idxH (by kernel_rfl)) fun x1_12 hx1_12=>?_
    refine oLH 3 g61p3 [(0,.str a0),(1,.i a1),(5,.i (fW .i64 (a1 + x0_3))),(28,.bool (!decide (x1_12 = 46)))] (mkH []) ?_
    exact hj6 (!decide (x1_12 = 46))
def Xg62:Fx Int:=⟨Try.prog,cx,Try.f62,fun r => .i r,0,fun _=>H0,cxTi,cxOrd,fun _=>none,false⟩
def g62p1:Pt:=nav [0,0,0] (nav [0] (bodyAt Try.f62))
def g62p2:Pt:=nav [0,0,0] g62p1
def g62p3:Pt:=nav [0,0,0,0] g62p2
def g62p4:Pt:=nav [0,0] g62p3
def g62p6:Pt:=nav [2,0,0] g62p4
def g62p9:Pt:=nav [0,0,0,0] (nav [0,0,0,0] (nav [1,0] g62p4))
def g62p11:Pt:=nav [0,0] (nav [0,0,0] g62p9)
def g62p12:Pt:=nav [1,0,0,0] g62p11
def g62p13:Pt:=nav [2,0,0] g62p11
def g62p15:Pt:=nav [0,0,0] g62p13
def g62p16:Pt:=nav [0,0] g62p15
def qIe (k:Nat) (c8:Unit → Option Int) (a0:(List Nat)) (a1:Int) (x0_2:Int) (x1_2:Int) (ih:Int → Int → Option Int):Int → Int → Option Int :=
 fun (y6_0:Int) (y6_1:Int)=>if (decide (y6_1 < fW .i64 (a1 + x1_2))) then ((nthS a0 y6_1).bind fun x3_4=>ih (fW .i64 (fW .i64 (y6_0 * 10) + fW .i64 (fW .u8 (x3_4 - 48)))) (fW .i64 (y6_1 + 1))) else ((g73 k a0 (fW .i64 (fW .i64 (a1 + x1_2) + 1)) y6_0 true).bind fun x4_6=>jn (fun (z7:Bool)=>if z7 then (some (fW .i64 (fW .i64 (x1_2 + 1) + x4_6))) else (c8 ())) (fun j7=>if (decide (2 ≤ y6_0)) then (if (decide (y6_0 ≤ 36)) then (j7 (decide (0 < x4_6))) else (j7 false)) else (j7 false)))
def qOf (k:Nat) (c8:Unit → Option Int) (a0:(List Nat)) (a1:Int) (x0_2:Int) (x1_2:Int) (n:Nat):Int → Int → Option Int:=lp (fun _ _=>none) (qIe k c8 a0 a1 x0_2 x1_2) n
theorem qOe (k:Nat)  (c8:Unit → Option Int) (a0:(List Nat)) (a1:Int) (x0_2:Int) (x1_2:Int) (hc8:∀ z8:Unit,Ok Xg62 g62p6 ((fun (z8:Unit)=>[(5,.i x0_2)]) z8) ((fun (z8:Unit)=>(mkH [])) z8) (c8 z8)):∀ (n:Nat) (y6_0:Int) (y6_1:Int),Ok Xg62 g62p9 [(0,.str a0),(1,.i a1),(5,.i x0_2),(6,.i x1_2),(7,.i y6_0),(8,.i y6_1)] (mkH []) (qOf k c8 a0 a1 x0_2 x1_2 n y6_0 y6_1):=by
 intro n
 induction n with
 | zero=>intro y6_0 y6_1; exact ok_none
 | succ n ih =>
  intro y6_0 y6_1
  show Ok _ _ _ _ (qIe k c8 a0 a1 x0_2 x1_2 (qOf k c8 a0 a1 x0_2 x1_2 n) y6_0 y6_1)
  unfold qIe
  refine qAf (p':=nav [0] g62p9) (by kernel_rfl) ?_
  let E5:Env:=[(43,.bool (decide (y6_1 < fW .i64 (a1 + x1_2)))),(42,.i (fW .i64 (a1 + x1_2))),(41,.i x1_2),(40,.i a1),(39,.i y6_1),(0,.str a0),(1,.i a1),(5,.i x0_2),(6,.i x1_2),(7,.i y6_0),(8,.i y6_1)]
  refine oH 9 g62p11 E5 (mkH []) ?_
  refine oS 43 (fun hb=>?_) (fun hb=>?_)
  ·refine oR 9 (atN 4 (ctl1 g62p12)) ((49,.i y6_1) :: (48,.str a0) :: (47,.i (fW .i64 (y6_0 * 10))) :: (46,.i y6_0) :: (43,.bool true) :: E5) ?_
   refine oC (fun (x3_4:Int)=>(.y x3_4,(mkH []))) (atN 5 (ctl1 g62p12)) 50 (idxH (by kernel_rfl)) fun x3_4 hx3_4=>?_
   let E8:Env:=[(0,.str a0),(1,.i a1),(5,.i x0_2),(6,.i x1_2),(7,.i (fW .i64 (fW .i64 (y6_0 * 10) + fW .i64 (fW .u8 (x3_4 - 48))))),(8,.i y6_1)]
   refine oLH 5 (nav [0,0] g62p12) E8 (mkH []) ?_
   refine oR 5 g62p9 ((8,.i (fW .i64 (y6_1 + 1))) :: (45,.i (fW .i64 (y6_1 + 1))) :: (44,.i y6_1) :: E8) ?_
   refine oK [0,1,5,6,7,8] [(0,.str a0),(1,.i a1),(5,.i x0_2),(6,.i x1_2),(7,.i (fW .i64 (fW .i64 (y6_0 * 10) + fW .i64 (fW .u8 (x3_4 - 48))))),(8,.i (fW .i64 (y6_1 + 1)))] ?_
   exact ih (fW .i64 (fW .i64 (y6_0 * 10) + fW .i64 (fW .u8 (x3_4 - 48)))) (fW .i64 (y6_1 + 1))
  ·refine oR 10 (atN 6 (ctl1 g62p13)) ((59,.i y6_0) :: (58,.i (fW .i64 (fW .i64 (a1 + x1_2) + 1))) :: (57,.i (fW .i64 (a1 + x1_2))) :: (56,.i x1_2) :: (55,.i a1) :: (54,.str a0) :: (43,.bool false) :: E5) ?_
   refine oA (fun (x4_6:Int) => .i x4_6) (atN 7 (ctl1 g62p13)) 60 [.str a0,.i (fW .i64 (fW .i64 (a1 + x1_2) + 1)),.i y6_0,.bool true] (qF7 k a0 (fW .i64 (fW .i64 (a1 + x1_2) + 1)) y6_0 true) fun x4_6 hx4_6=>?_
   let E11:Env:=[(5,.i x0_2),(6,.i x1_2),(7,.i y6_0),(9,.i x4_6)]
   refine oL 3 g62p15 E11 ?_
   refine oR 4 (atN 3 (ctl1 g62p15)) ((63,.bool (decide (2 ≤ y6_0))) :: (62,.bool (decide (2 ≤ y6_0))) :: (61,.i y6_0) :: E11) ?_
   refine oJ g62p16 (fun (z7:Bool)=>[(5,.i x0_2),(6,.i x1_2),(9,.i x4_6),(70,.bool z7)]) (fun (z7:Bool)=>(mkH [])) (fun z7=>?_) (fun j7 hj7=>?_)
   ·refine oS 70 (fun hb=>?_) (fun hb=>?_)
    ·exact oQ 10
    ·refine oLH 3 g62p6 [(5,.i x0_2)] (mkH []) ?_
     exact hc8 ()
   ·refine oS 63 (fun hb=>?_) (fun hb=>?_)
    ·refine oH 4 (atN 7 (ctl1 g62p15)) ((67,.bool (decide (y6_0 ≤ 36))) :: (66,.bool (decide (y6_0 ≤ 36))) :: (65,.bool (decide (y6_0 ≤ 36))) :: (64,.i y6_0) :: (63,.bool true) :: (63,.bool (decide (2 ≤ y6_0))) :: (62,.bool (decide (2 ≤ y6_0))) :: (61,.i y6_0) :: E11) (mkH []) ?_
     refine oS 67 (fun hb=>?_) (fun hb=>?_)
     ·refine oL 4 g62p16 [(5,.i x0_2),(6,.i x1_2),(9,.i x4_6),(70,.bool (decide (0 < x4_6)))] ?_
      exact hj7 (decide (0 < x4_6))
     ·refine oL 4 g62p16 [(5,.i x0_2),(6,.i x1_2),(9,.i x4_6),(70,.bool false)] ?_
      exact hj7 false
    ·refine oLH 8 g62p16 [(5,.i x0_2),(6,.i x1_2),(9,.i x4_6),(70,.bool false)] (mkH []) ?_
     exact hj7 false
def g62 (k:Nat) (a0:(List Nat)) (a1:Int):Option Int :=
 (g73 k a0 a1 (10:Int) true).bind fun x0_2=>(g73 k a0 a1 (10:Int) false).bind fun x1_2=>jn (fun (z5:Bool)=>jn (fun (z8:Unit)=>some x0_2) (fun j8=>if z5 then (qOf k j8 a0 a1 x0_2 x1_2 k 0 a1) else (j8 ()))) (fun j5=>if (decide (0 < x1_2)) then (if (decide (x1_2 < 3)) then (if (decide (fW .i64 (a1 + x1_2) < (a0.length:Int))) then ((nthS a0 (fW .i64 (a1 + x1_2))).bind fun x2_19=>j5 (decide (x2_19 = 35))) else (j5 false)) else (j5 false)) else (j5 false))
theorem g62_ok (k:Nat) (a0:(List Nat)) (a1:Int) (r:Int) (h:g62 k a0 a1 = some r):PureOk Try.prog 62 [.str a0,.i a1] (.i r):=by
 refine qA4 Xg62 (fun _=>⟨rfl,rfl⟩) Try.func62 (by decide +kernel) (by kernel_rfl) (t:=g62 k a0 a1) ?_ h
 unfold g62
 refine qA (eE:=[(0,.str a0),(1,.i a1)]) (by kernel_rfl) ?_
 let E1:Env:=[(11,.i a1),(10,.str a0),(4,.i 0),(0,.str a0),(1,.i a1)]
 refine oH 8 (atN 2 (ctl1 g62p1)) E1 (mkH []) ?_
 refine oA (fun (x0_2:Int) => .i x0_2) (atN 3 (ctl1 g62p1)) 12 [.str a0,.i a1,.i 10,.bool true] (qF7 k a0 a1 (10:Int) true) fun x0_2 hx0_2=>?_
 refine oR 6 (atN 2 (ctl1 g62p2)) ((14,.i a1) :: (13,.str a0) :: (5,.i x0_2) :: (12,.i x0_2) :: E1) ?_
 refine oA (fun (x1_2:Int) => .i x1_2) (atN 3 (ctl1 g62p2)) 15 [.str a0,.i a1,.i 10,.bool false] (qF7 k a0 a1 (10:Int) false) fun x1_2 hx1_2=>?_
 let E3:Env:=[(0,.str a0),(1,.i a1),(5,.i x0_2),(6,.i x1_2)]
 refine oL 4 g62p3 E3 ?_
 refine oR 4 (atN 3 (ctl1 g62p3)) ((18,.bool (decide (0 < x1_2))) :: (17,.bool (decide (0 < x1_2))) :: (16,.i x1_2) :: E3) ?_
 refine oJ g62p4 (fun (z5:Bool)=>[(0,.str a0),(1,.i a1),(5,.i x0_2),(6,.i x1_2),(37,.bool z5)]) (fun (z5:Bool)=>(mkH [])) (fun z5=>?_) (fun j5 hj5=>?_)
 ·refine oJ g62p6 (fun (z8:Unit)=>[(5,.i x0_2)]) (fun (z8:Unit)=>(mkH [])) (fun z8=>?_) (fun j8 hj8=>?_)
  ·exact oQ 5
  ·refine oS 37 (fun hb=>?_) (fun hb=>?_)
   ·refine oLH 13 g62p9 [(0,.str a0),(1,.i a1),(5,.i x0_2),(6,.i x1_2),(7,.i 0),(8,.i a1)] (mkH []) ?_
    exact (qOe k j8 a0 a1 x0_2 x1_2 hj8 k) 0 a1
   ·refine oLH 3 g62p6 [(5,.i x0_2)] (mkH []) ?_
    exact hj8 ()
 ·refine oS 18 (fun hb=>?_) (fun hb=>?_)
  ·let E21:Env:=((22,.bool (decide (x1_2 < 3))) :: (21,.bool (decide (x1_2 < 3))) :: (20,.bool (decide (x1_2 < 3))) :: (19,.i x1_2) :: (18,.bool true) :: (18,.bool (decide (0 < x1_2))) :: (17,.bool (decide (0 < x1_2))) :: (16,.i x1_2) :: E3)
   refine oH 4 (atN 7 (ctl1 g62p3)) E21 (mkH []) ?_
   refine oS 22 (fun hb=>?_) (fun hb=>?_)
   ·let E22:Env:=((30,.bool (decide (fW .i64 (a1 + x1_2) < (a0.length:Int)))) :: (29,.bool (decide (fW .i64 (a1 + x1_2) < (a0.length:Int)))) :: (28,.bool (decide (fW .i64 (a1 + x1_2) < (a0.length:Int)))) :: (27,.i (a0.length:Int)) :: (26,.str a0) :: (25,.i (fW .i64 (a1 + x1_2))) :: (24,.i x1_2) :: (23,.i a1) :: (22,.bool true) :: E21)
    refine oR 8 (atN 15 (ctl1 g62p3)) E22 ?_
    refine oS 30 (fun hb=>?_) (fun hb=>?_)
    ·refine oR 4 (atN 19 (ctl1 g62p3)) ((34,.i (fW .i64 (a1 + x1_2))) :: (33,.i x1_2) :: (32,.i a1) :: (31,.str a0) :: (30,.bool true) :: E22) ?_
     refine oC (fun (x2_19:Int)=>(.y x2_19,(mkH []))) (atN 20 (ctl1 g62p3)) 35 (idxH (by kernel_rfl)) fun x2_19 hx2_19=>?_
     refine oLH 3 g62p4 [(0,.str a0),(1,.i a1),(5,.i x0_2),(6,.i x1_2),(37,.bool (decide (x2_19 = 35)))] (mkH []) ?_
     exact hj5 (decide (x2_19 = 35))
    ·refine oL 8 g62p4 [(0,.str a0),(1,.i a1),(5,.i x0_2),(6,.i x1_2),(37,.bool false)] ?_
     exact hj5 false
   ·refine oL 16 g62p4 [(0,.str a0),(1,.i a1),(5,.i x0_2),(6,.i x1_2),(37,.bool false)] ?_
    exact hj5 false
  ·refine oLH 20 g62p4 [(0,.str a0),(1,.i a1),(5,.i x0_2),(6,.i x1_2),(37,.bool false)] (mkH []) ?_
   exact hj5 false
def Xg39:Fx (S33 × Int):=⟨Try.prog,cx,Try.f39,fun r => .tuple [.agg [.i r.1.f0,.str r.1.f1,.i r.1.f2],.i r.2],0,fun _=>H0,cxTi,cxOrd,fun _=>none,false⟩
def g39p1:Pt:=nav [0,0,0] (nav [0] (bodyAt Try.f39))
def g39p3:Pt:=nav [0,0] (nav [0,0,0,0] g39p1)
def g39p4:Pt:=nav [1] g39p3
def g39p5:Pt:=nav [2,0,0] g39p3
def g39p6:Pt:=nav [0,0,0,0] g39p5
def g39p7:Pt:=nav [0,0] g39p6
def g39p9:Pt:=nav [2,0,0,0] g39p7
def g39p11:Pt:=nav [0,0] g39p9
def g39p13:Pt:=nav [2,0,0] g39p11
def g39p15:Pt:=nav [0,0,0,0] (nav [0,0,0,0] (nav [1,0] g39p11))
def g39p17:Pt:=nav [0,0] (nav [0,0,0] g39p15)
def g39p18:Pt:=nav [1,0,0,0] g39p17
def g39p20:Pt:=nav [0,0] g39p18
def qIm (k:Nat) (c11:Unit → Option (S33 × Int)) (a0:(List Nat)) (a1:Int) (z6:Int × Int) (ih:Bool → Int → Option (S33 × Int)):Bool → Int → Option (S33 × Int) :=
 fun (y9_0:Bool) (y9_1:Int)=>if (decide (y9_1 < fW .i64 (a1 + z6.2))) then (jn (fun (z10:Bool × Int)=>ih z10.1 (fW .i64 (z10.2 + 1))) (fun j10=>if y9_0 then (j10 (true,y9_1)) else ((nthS a0 y9_1).bind fun x5_4=>j10 (decide (x5_4 = 35),y9_1)))) else (if (!y9_0) then (some ((⟨(0:Int),([]:List Nat),(0:Int)⟩:S33),(4:Int))) else (c11 ()))
def qOs (k:Nat) (c11:Unit → Option (S33 × Int)) (a0:(List Nat)) (a1:Int) (z6:Int × Int) (n:Nat):Bool → Int → Option (S33 × Int):=lp (fun _ _=>none) (qIm k c11 a0 a1 z6) n
theorem qOr (k:Nat)  (c11:Unit → Option (S33 × Int)) (a0:(List Nat)) (a1:Int) (z6:Int × Int) (hc11:∀ z11:Unit,Ok Xg39 g39p13 ((fun (z11:Unit)=>[(0,.str a0),(1,.i a1),(4,.ptr 0 3 0),(6,.i z6.1),(8,.i (fW .i64 (a1 + z6.2)))]) z11) ((fun (z11:Unit)=>(mkH [⟨[.i 0,.str [],.i 0],0,false⟩])) z11) (c11 z11)):∀ (n:Nat) (y9_0:Bool) (y9_1:Int),Ok Xg39 g39p15 [(0,.str a0),(1,.i a1),(4,.ptr 0 3 0),(6,.i z6.1),(8,.i (fW .i64 (a1 + z6.2))),(9,.bool y9_0),(10,.i y9_1)] (mkH [⟨[.i 0,.str [],.i 0],0,false⟩]) (qOs k c11 a0 a1 z6 n y9_0 y9_1):=by
 intro n
 induction n with
 | zero=>intro y9_0 y9_1; exact ok_none
 | succ n ih =>
  intro y9_0 y9_1
  show Ok _ _ _ _ (qIm k c11 a0 a1 z6 (qOs k c11 a0 a1 z6 n) y9_0 y9_1)
  unfold qIm
  refine qAf (p':=nav [0] g39p15) (by kernel_rfl) ?_
  let E8:Env:=[(54,.bool (decide (y9_1 < fW .i64 (a1 + z6.2)))),(53,.i (fW .i64 (a1 + z6.2))),(52,.i y9_1),(0,.str a0),(1,.i a1),(4,.ptr 0 3 0),(6,.i z6.1),(8,.i (fW .i64 (a1 + z6.2))),(9,.bool y9_0),(10,.i y9_1)]
  let Q1:Blk:=⟨[.i 0,.str [],.i 0],0,false⟩
  refine oH 7 g39p17 E8 (mkH [Q1]) ?_
  refine oS 54 (fun hb=>?_) (fun hb=>?_)
  ·refine oR 7 (atN 2 (ctl1 g39p18)) ((58,.bool y9_0) :: (57,.bool y9_0) :: (54,.bool true) :: E8) ?_
   refine oJ g39p20 (fun (z10:Bool × Int)=>[(0,.str a0),(1,.i a1),(4,.ptr 0 3 0),(6,.i z6.1),(8,.i (fW .i64 (a1 + z6.2))),(9,.bool z10.1),(10,.i z10.2)]) (fun (z10:Bool × Int)=>(mkH [Q1])) (fun z10=>?_) (fun j10 hj10=>?_)
   ·refine oLH 5 g39p15 [(0,.str a0),(1,.i a1),(4,.ptr 0 3 0),(6,.i z6.1),(8,.i (fW .i64 (a1 + z6.2))),(9,.bool z10.1),(10,.i (fW .i64 (z10.2 + 1)))] (mkH [Q1]) ?_
    exact ih z10.1 (fW .i64 (z10.2 + 1))
   ·refine oS 58 (fun hb=>?_) (fun hb=>?_)
    ·refine oLH 7 g39p20 [(0,.str a0),(1,.i a1),(4,.ptr 0 3 0),(6,.i z6.1),(8,.i (fW .i64 (a1 + z6.2))),(9,.bool true),(10,.i y9_1)] (mkH [Q1]) ?_
     exact hj10 (true,y9_1)
    ·refine oH 2 (atN 4 (ctl1 g39p18)) ((60,.i y9_1) :: (59,.str a0) :: (58,.bool false) :: (58,.bool y9_0) :: (57,.bool y9_0) :: (54,.bool true) :: E8) (mkH [Q1]) ?_
     refine oC (fun (x5_4:Int)=>(.y x5_4,(mkH [Q1]))) (atN 5 (ctl1 g39p18)) 61 (idxH (by kernel_rfl)) fun x5_4 hx5_4=>?_
     refine oLH 4 g39p20 [(0,.str a0),(1,.i a1),(4,.ptr 0 3 0),(6,.i z6.1),(8,.i (fW .i64 (a1 + z6.2))),(9,.bool (decide (x5_4 = 35))),(10,.i y9_1)] (mkH [Q1]) ?_
     exact hj10 (decide (x5_4 = 35),y9_1)
  ·refine oR 7 (nav [0,0] (nav [2,0,0] g39p17)) ((65,.bool (!y9_0)) :: (64,.bool y9_0) :: (54,.bool false) :: E8) ?_
   refine oK [0,1,4,6,8,65] [(0,.str a0),(1,.i a1),(4,.ptr 0 3 0),(6,.i z6.1),(8,.i (fW .i64 (a1 + z6.2))),(65,.bool (!y9_0))] ?_
   refine oS 65 (fun hb=>?_) (fun hb=>?_)
   ·exact oQ 8
   ·refine oR 3 g39p13 ((65,.bool false) :: (keepOnly ((65,.bool (!y9_0)) :: (64,.bool y9_0) :: (54,.bool false) :: E8) [0,1,4,6,8,65])) ?_
    refine oK [0,1,4,6,8] [(0,.str a0),(1,.i a1),(4,.ptr 0 3 0),(6,.i z6.1),(8,.i (fW .i64 (a1 + z6.2)))] ?_
    exact hc11 ()
def g39 (k:Nat) (a0:(List Nat)) (a1:Int):Option (S33 × Int) :=
 (g61 k a0 a1).bind fun x0_2=>jn (fun (z6:Int × Int)=>jn (fun (z7:Bool)=>if z7 then (some ((⟨(0:Int),([]:List Nat),(0:Int)⟩:S33),(4:Int))) else (jn (fun (z8:Bool)=>jn (fun (z11:Unit)=>(subL a0 (some a1) (some (fW .i64 (a1 + z6.2)))).bind fun x4_4=>some ((⟨z6.1,x4_4,a1⟩:S33),(0:Int))) (fun j11=>if z8 then (qOs k j11 a0 a1 z6 k false a1) else (j11 ()))) (fun j8=>if (decide (z6.1 = 3)) then (if (decide (fW .i64 (a1 + z6.2) < (a0.length:Int))) then ((nthS a0 (fW .i64 (a1 + z6.2))).bind fun x3_11=>j8 (decide (x3_11 = 35))) else (j8 false)) else (j8 false)))) (fun j7=>if (decide (z6.2 = 0)) then (j7 true) else (if (decide (fW .i64 (a1 + z6.2) < (a0.length:Int))) then ((nthS a0 (fW .i64 (a1 + z6.2))).bind fun x2_10=>(g63 k x2_10).bind fun x2_11=>j7 x2_11) else (j7 false)))) (fun j6=>if (decide (x0_2 = 0)) then ((g62 k a0 a1).bind fun x1_2=>j6 (3,x1_2)) else (j6 (4,x0_2)))
theorem g39_ok (k:Nat) (a0:(List Nat)) (a1:Int) (r:(S33 × Int)) (h:g39 k a0 a1 = some r):PureOk Try.prog 39 [.str a0,.i a1] (.tuple [.agg [.i r.1.f0,.str r.1.f1,.i r.1.f2],.i r.2]):=by
 refine qA4 Xg39 (fun _=>⟨rfl,rfl⟩) Try.func39 (by decide +kernel) (by kernel_rfl) (t:=g39 k a0 a1) ?_ h
 unfold g39
 refine qA (eE:=[(0,.str a0),(1,.i a1)]) (by kernel_rfl) ?_
 let E1:Env:=[(12,.i a1),(11,.str a0),(5,.i 0),(4,.ptr 0 3 0),(0,.str a0),(1,.i a1)]
 let Q1:Blk:=⟨[.i 0,.str [],.i 0],0,false⟩
 refine oH 9 (atN 2 (ctl1 g39p1)) E1 (mkH [Q1]) ?_
 refine oA (fun (x0_2:Int) => .i x0_2) (atN 3 (ctl1 g39p1)) 13 [.str a0,.i a1] (g61_ok k a0 a1) fun x0_2 hx0_2=>?_
 let E2:Env:=((15,.bool (decide (x0_2 = 0))) :: (14,.i x0_2) :: (7,.i x0_2) :: (6,.i 4) :: (13,.i x0_2) :: E1)
 refine oR 9 g39p3 E2 ?_
 refine oJ g39p5 (fun (z6:Int × Int)=>[(0,.str a0),(1,.i a1),(4,.ptr 0 3 0),(6,.i z6.1),(7,.i z6.2)]) (fun (z6:Int × Int)=>(mkH [Q1])) (fun z6=>?_) (fun j6 hj6=>?_)
 ·let E3:Env:=[(24,.bool (decide (z6.2 = 0))),(23,.bool (decide (z6.2 = 0))),(22,.i z6.2),(8,.i (fW .i64 (a1 + z6.2))),(21,.i (fW .i64 (a1 + z6.2))),(20,.i z6.2),(19,.i a1),(0,.str a0),(1,.i a1),(4,.ptr 0 3 0),(6,.i z6.1),(7,.i z6.2)]
  refine oH 12 (atN 3 (ctl1 g39p6)) E3 (mkH [Q1]) ?_
  refine oJ g39p7 (fun (z7:Bool)=>[(0,.str a0),(1,.i a1),(4,.ptr 0 3 0),(6,.i z6.1),(8,.i (fW .i64 (a1 + z6.2))),(35,.bool z7)]) (fun (z7:Bool)=>(mkH [Q1])) (fun z7=>?_) (fun j7 hj7=>?_)
  ·refine oS 35 (fun hb=>?_) (fun hb=>?_)
   ·exact oQ 8
   ·let E5:Env:=[(39,.bool (decide (z6.1 = 3))),(38,.bool (decide (z6.1 = 3))),(37,.i z6.1),(35,.bool false),(0,.str a0),(1,.i a1),(4,.ptr 0 3 0),(6,.i z6.1),(8,.i (fW .i64 (a1 + z6.2))),(35,.bool z7)]
    refine oH 8 (atN 3 (ctl1 g39p9)) E5 (mkH [Q1]) ?_
    refine oJ g39p11 (fun (z8:Bool)=>[(0,.str a0),(1,.i a1),(4,.ptr 0 3 0),(6,.i z6.1),(8,.i (fW .i64 (a1 + z6.2))),(50,.bool z8)]) (fun (z8:Bool)=>(mkH [Q1])) (fun z8=>?_) (fun j8 hj8=>?_)
    ·refine oJ g39p13 (fun (z11:Unit)=>[(0,.str a0),(1,.i a1),(4,.ptr 0 3 0),(6,.i z6.1),(8,.i (fW .i64 (a1 + z6.2)))]) (fun (z11:Unit)=>(mkH [Q1])) (fun z11=>?_) (fun j11 hj11=>?_)
     ·refine oH 5 (atN 4 (ctl1 g39p13)) [(70,.i (fW .i64 (a1 + z6.2))),(69,.i a1),(68,.str a0),(67,.i z6.1),(0,.str a0),(1,.i a1),(4,.ptr 0 3 0),(6,.i z6.1),(8,.i (fW .i64 (a1 + z6.2)))] (mkH [Q1]) ?_
      refine oC (fun (x4_4:(List Nat))=>(.str x4_4,(mkH [Q1]))) (atN 5 (ctl1 g39p13)) 71 (subH (some a1) (some (fW .i64 (a1 + z6.2))) (by kernel_rfl)) fun x4_4 hx4_4=>?_
      exact oQ 6
     ·refine oS 50 (fun hb=>?_) (fun hb=>?_)
      ·refine oLH 13 g39p15 [(0,.str a0),(1,.i a1),(4,.ptr 0 3 0),(6,.i z6.1),(8,.i (fW .i64 (a1 + z6.2))),(9,.bool false),(10,.i a1)] (mkH [Q1]) ?_
       exact (qOr k j11 a0 a1 z6 hj11 k) false a1
      ·refine oLH 3 g39p13 [(0,.str a0),(1,.i a1),(4,.ptr 0 3 0),(6,.i z6.1),(8,.i (fW .i64 (a1 + z6.2)))] (mkH [Q1]) ?_
       exact hj11 ()
    ·refine oS 39 (fun hb=>?_) (fun hb=>?_)
     ·let E20:Env:=((45,.bool (decide (fW .i64 (a1 + z6.2) < (a0.length:Int)))) :: (44,.bool (decide (fW .i64 (a1 + z6.2) < (a0.length:Int)))) :: (43,.bool (decide (fW .i64 (a1 + z6.2) < (a0.length:Int)))) :: (42,.i (a0.length:Int)) :: (41,.str a0) :: (40,.i (fW .i64 (a1 + z6.2))) :: (39,.bool true) :: E5)
      refine oH 6 (atN 9 (ctl1 g39p9)) E20 (mkH [Q1]) ?_
      refine oS 45 (fun hb=>?_) (fun hb=>?_)
      ·refine oR 2 (atN 11 (ctl1 g39p9)) ((47,.i (fW .i64 (a1 + z6.2))) :: (46,.str a0) :: (45,.bool true) :: E20) ?_
       refine oC (fun (x3_11:Int)=>(.y x3_11,(mkH [Q1]))) (atN 12 (ctl1 g39p9)) 48 (idxH (by kernel_rfl)) fun x3_11 hx3_11=>?_
       refine oLH 3 g39p11 [(0,.str a0),(1,.i a1),(4,.ptr 0 3 0),(6,.i z6.1),(8,.i (fW .i64 (a1 + z6.2))),(50,.bool (decide (x3_11 = 35)))] (mkH [Q1]) ?_
       exact hj8 (decide (x3_11 = 35))
      ·refine oL 6 g39p11 [(0,.str a0),(1,.i a1),(4,.ptr 0 3 0),(6,.i z6.1),(8,.i (fW .i64 (a1 + z6.2))),(50,.bool false)] ?_
       exact hj8 false
     ·refine oLH 12 g39p11 [(0,.str a0),(1,.i a1),(4,.ptr 0 3 0),(6,.i z6.1),(8,.i (fW .i64 (a1 + z6.2))),(50,.bool false)] (mkH [Q1]) ?_
      exact hj8 false
  ·refine oS 24 (fun hb=>?_) (fun hb=>?_)
   ·refine oLH 12 g39p7 [(0,.str a0),(1,.i a1),(4,.ptr 0 3 0),(6,.i z6.1),(8,.i (fW .i64 (a1 + z6.2))),(35,.bool true)] (mkH [Q1]) ?_
    exact hj7 true
   ·let E29:Env:=((29,.bool (decide (fW .i64 (a1 + z6.2) < (a0.length:Int)))) :: (28,.bool (decide (fW .i64 (a1 + z6.2) < (a0.length:Int)))) :: (27,.i (a0.length:Int)) :: (26,.str a0) :: (25,.i (fW .i64 (a1 + z6.2))) :: (24,.bool false) :: E3)
    refine oH 5 (atN 8 (ctl1 g39p6)) E29 (mkH [Q1]) ?_
    refine oS 29 (fun hb=>?_) (fun hb=>?_)
    ·refine oR 2 (atN 10 (ctl1 g39p6)) ((31,.i (fW .i64 (a1 + z6.2))) :: (30,.str a0) :: (29,.bool true) :: E29) ?_
     refine oC (fun (x2_10:Int)=>(.y x2_10,(mkH [Q1]))) (atN 11 (ctl1 g39p6)) 32 (idxH (by kernel_rfl)) fun x2_10 hx2_10=>?_
     refine oA (fun (x2_11:Bool) => .bool x2_11) (atN 12 (ctl1 g39p6)) 33 [.y x2_10] (g63_ok k x2_10) fun x2_11 hx2_11=>?_
     refine oLH 3 g39p7 [(0,.str a0),(1,.i a1),(4,.ptr 0 3 0),(6,.i z6.1),(8,.i (fW .i64 (a1 + z6.2))),(35,.bool x2_11)] (mkH [Q1]) ?_
     exact hj7 x2_11
    ·refine oL 7 g39p7 [(0,.str a0),(1,.i a1),(4,.ptr 0 3 0),(6,.i z6.1),(8,.i (fW .i64 (a1 + z6.2))),(35,.bool false)] ?_
     exact hj7 false
 ·refine oS 15 (fun hb=>?_) (fun hb=>?_)
  ·refine oH 4 (atN 2 (ctl1 g39p4)) ((17,.i a1) :: (16,.str a0) :: (15,.bool true) :: E2) (mkH [Q1]) ?_
   refine oA (fun (x1_2:Int) => .i x1_2) (atN 3 (ctl1 g39p4)) 18 [.str a0,.i a1] (g62_ok k a0 a1) fun x1_2 hx1_2=>?_
   refine oL 4 g39p5 [(0,.str a0),(1,.i a1),(4,.ptr 0 3 0),(6,.i 3),(7,.i x1_2)] ?_
   exact hj6 (3,x1_2)
  ·refine oH 3 g39p5 ((15,.bool false) :: E2) (mkH [Q1]) ?_
   refine oK [0,1,4,6,7] [(0,.str a0),(1,.i a1),(4,.ptr 0 3 0),(6,.i 4),(7,.i x0_2)] ?_
   exact hj6 (4,x0_2)
def Xg40:Fx Int:=⟨Try.prog,cx,Try.f40,fun r => .i r,0,fun _=>H0,cxTi,cxOrd,fun _=>none,false⟩
def g40p1:Pt:=nav [0,0,0,0,0] (nav [0] (bodyAt Try.f40))
def g40p2:Pt:=nav [0,0,0] g40p1
def g40p3:Pt:=nav [0,0] g40p2
def qIl (k:Nat)  (a0:(List Nat)) (ih:Int → Option Int):Int → Option Int :=
 fun (y1_0:Int)=>jn (fun (z2:Bool × Int)=>if z2.1 then (ih (fW .i64 (z2.2 + 1))) else (some z2.2)) (fun j2=>if (decide (y1_0 < (a0.length:Int))) then ((nthS a0 y1_0).bind fun x0_7=>(g63 k x0_7).bind fun x0_8=>j2 (x0_8,y1_0)) else (j2 (false,y1_0)))
def qEf (k:Nat)  (a0:(List Nat)) (n:Nat):Int → Option Int:=lp (fun _=>none) (qIl k a0) n
theorem qL (k:Nat)  (a0:(List Nat)) (n:Nat) (y1_0:Int):qEf k a0 (n + 1) y1_0 = (jn (fun (z2:Bool × Int)=>if z2.1 then ((qEf k a0 n) (fW .i64 (z2.2 + 1))) else (some z2.2)) (fun j2=>if (decide (y1_0 < (a0.length:Int))) then ((nthS a0 y1_0).bind fun x0_7=>(g63 k x0_7).bind fun x0_8=>j2 (x0_8,y1_0)) else (j2 (false,y1_0)))):=rfl
theorem qOq (k:Nat)   (a0:(List Nat))  : ∀ (n:Nat) (y1_0:Int),Ok Xg40 g40p1 [(0,.str a0),(1,.i y1_0)] (mkH []) (qEf k a0 n y1_0):=by
 intro n
 induction n with
 | zero=>intro y1_0; exact ok_none
 | succ n ih =>
  intro y1_0
  show Ok _ _ _ _ (qIl k a0 (qEf k a0 n) y1_0)
  unfold qIl
  refine qAf (p':=nav [0] g40p1) (by kernel_rfl) ?_
  let E1:Env:=[(9,.bool (decide (y1_0 < (a0.length:Int)))),(8,.bool (decide (y1_0 < (a0.length:Int)))),(7,.i (a0.length:Int)),(6,.str a0),(5,.i y1_0),(0,.str a0),(1,.i y1_0)]
  refine oH 8 (atN 5 (ctl1 g40p2)) E1 (mkH []) ?_
  refine oJ g40p3 (fun (z2:Bool × Int)=>[(0,.str a0),(1,.i z2.2),(14,.bool z2.1)]) (fun (z2:Bool × Int)=>(mkH [])) (fun z2=>?_) (fun j2 hj2=>?_)
  ·refine oS 14 (fun hb=>?_) (fun hb=>?_)
   ·refine oLH 8 g40p1 [(0,.str a0),(1,.i (fW .i64 (z2.2 + 1)))] (mkH []) ?_
    exact ih (fW .i64 (z2.2 + 1))
   ·exact oQ 8
  ·refine oS 9 (fun hb=>?_) (fun hb=>?_)
   ·refine oH 2 (atN 7 (ctl1 g40p2)) ((11,.i y1_0) :: (10,.str a0) :: (9,.bool true) :: E1) (mkH []) ?_
    refine oC (fun (x0_7:Int)=>(.y x0_7,(mkH []))) (atN 8 (ctl1 g40p2)) 12 (idxH (by kernel_rfl)) fun x0_7 hx0_7=>?_
    refine oA (fun (x0_8:Bool) => .bool x0_8) (atN 9 (ctl1 g40p2)) 13 [.y x0_7] (g63_ok k x0_7) fun x0_8 hx0_8=>?_
    refine oLH 2 g40p3 [(0,.str a0),(1,.i y1_0),(14,.bool x0_8)] (mkH []) ?_
    exact hj2 (x0_8,y1_0)
   ·refine oLH 6 g40p3 [(0,.str a0),(1,.i y1_0),(14,.bool false)] (mkH []) ?_
    exact hj2 (false,y1_0)
def g40 (k:Nat) (a0:(List Nat)) (a1:Int):Option Int :=
 qEf k a0 k a1
theorem g40_ok (k:Nat) (a0:(List Nat)) (a1:Int) (r:Int) (h:g40 k a0 a1 = some r):PureOk Try.prog 40 [.str a0,.i a1] (.i r):=by
 refine qA4 Xg40 (fun _=>⟨rfl,rfl⟩) Try.func40 (by decide +kernel) (by kernel_rfl) (t:=g40 k a0 a1) ?_ h
 unfold g40
 refine qA (eE:=[(0,.str a0),(1,.i a1)]) (by kernel_rfl) ?_
 refine oLH 7 g40p1 [(0,.str a0),(1,.i a1)] (mkH []) ?_
 exact (qOq k a0 k) a1
def Xg42:Fx Int:=⟨Try.prog,cx,Try.f42,fun r => .i r,0,fun _=>H0,cxTi,cxOrd,fun _=>none,false⟩
def g42p2:Pt:=nav [0,0,0,0,0] (nav [0,0,0] (nav [0] (bodyAt Try.f42)))
def g42p3:Pt:=nav [0,0,0] g42p2
def g42p4:Pt:=nav [0] g42p3
def g42p5:Pt:=nav [1,0,0,0,0] g42p4
def g42p7:Pt:=nav [0,0] g42p5
def g42p10:Pt:=nav [2,0,0] g42p7
def g42p13:Pt:=nav [0,0,0,0] g42p10
def g42p15:Pt:=nav [0,0] g42p13
def g42d0:DP:=⟨[],[(0,0,0),(0,0,0),(2,0,0),(7,0,0),(15,0,0),(31,0,0),(31,0,0),(127,0,0),(31,0,0),(31,0,0),(799,0,0),(2047,0,0),(4095,0,0)],13,thrown,[],H0⟩
def qIj (k:Nat)  (a0:(List Nat)) (a1:Int) (ih:Int → Option Int):Int → Option Int :=
 fun (y3_0:Int)=>jn (fun (z4:Bool × Int)=>if z4.1 then ((nthS a0 z4.2).bind fun x1_2=>jn (fun (z5:Int)=>(g36 k a0 z5).bind fun x2_2=>jn (fun (z6:Bool)=>if z6 then (some (0:Int)) else (ih (fW .i64 (z5 + x2_2.2)))) (fun j6=>if (decide (x2_2.1 < 32)) then (j6 true) else (j6 (decide (x2_2.1 = 127))))) (fun j5=>if (decide (x1_2 = 92)) then (j5 (fW .i64 (z4.2 + 1))) else (j5 z4.2))) else (if (decide ((a0.length:Int) ≤ z4.2)) then (some (0:Int)) else (some (fW .i64 (fW .i64 (z4.2 + 1) - a1))))) (fun j4=>if (decide (y3_0 < (a0.length:Int))) then ((nthS a0 y3_0).bind fun x0_7=>(nthS a0 a1).bind fun x0_10=>j4 (!decide (x0_7 = x0_10),y3_0)) else (j4 (false,y3_0)))
def qFc (k:Nat)  (a0:(List Nat)) (a1:Int) (n:Nat):Int → Option Int:=lp (fun _=>none) (qIj k a0 a1) n
theorem qKz (k:Nat)  (a0:(List Nat)) (a1:Int) (n:Nat) (y3_0:Int):qFc k a0 a1 (n + 1) y3_0 = (jn (fun (z4:Bool × Int)=>if z4.1 then ((nthS a0 z4.2).bind fun x1_2=>jn (fun (z5:Int)=>(g36 k a0 z5).bind fun x2_2=>jn (fun (z6:Bool)=>if z6 then (some (0:Int)) else ((qFc k a0 a1 n) (fW .i64 (z5 + x2_2.2)))) (fun j6=>if (decide (x2_2.1 < 32)) then (j6 true) else (j6 (decide (x2_2.1 = 127))))) (fun j5=>if (decide (x1_2 = 92)) then (j5 (fW .i64 (z4.2 + 1))) else (j5 z4.2))) else (if (decide ((a0.length:Int) ≤ z4.2)) then (some (0:Int)) else (some (fW .i64 (fW .i64 (z4.2 + 1) - a1))))) (fun j4=>if (decide (y3_0 < (a0.length:Int))) then ((nthS a0 y3_0).bind fun x0_7=>(nthS a0 a1).bind fun x0_10=>j4 (!decide (x0_7 = x0_10),y3_0)) else (j4 (false,y3_0)))):=rfl
theorem qOn (k:Nat)   (a0:(List Nat)) (a1:Int)  : ∀ (n:Nat) (y3_0:Int),Ok Xg42 g42p2 [(0,.str a0),(1,.i a1),(5,.i y3_0)] (mkH []) (qFc k a0 a1 n y3_0):=by
 intro n
 induction n with
 | zero=>intro y3_0; exact ok_none
 | succ n ih =>
  intro y3_0
  show Ok _ _ _ _ (qIj k a0 a1 (qFc k a0 a1 n) y3_0)
  unfold qIj
  refine qAf (p':=nav [0] g42p2) (by kernel_rfl) ?_
  refine oH 2 g42p3 [(0,.str a0),(1,.i a1),(5,.i y3_0)] (mkH []) ?_
  refine oJ g42p4 (fun (z4:Bool × Int)=>[(0,.str a0),(1,.i a1),(5,.i z4.2),(22,.bool z4.1)]) (fun (z4:Bool × Int)=>(mkH [])) (fun z4=>?_) (fun j4 hj4=>?_)
  ·refine oS 22 (fun hb=>?_) (fun hb=>?_)
   ·let E2:Env:=[(24,.i z4.2),(23,.str a0),(22,.bool true),(0,.str a0),(1,.i a1),(5,.i z4.2),(22,.bool z4.1)]
    refine oH 8 (atN 2 (ctl1 g42p5)) E2 (mkH []) ?_
    refine oC (fun (x1_2:Int)=>(.y x1_2,(mkH []))) (atN 3 (ctl1 g42p5)) 25 (idxH (by kernel_rfl)) fun x1_2 hx1_2=>?_
    refine oH 2 g42p7 ((26,.bool (decide (x1_2 = 92))) :: (25,.y x1_2) :: E2) (mkH []) ?_
    refine oJ g42p10 (fun (z5:Int)=>[(0,.str a0),(1,.i a1),(5,.i z5)]) (fun (z5:Int)=>(mkH [])) (fun z5=>?_) (fun j5 hj5=>?_)
    ·let E3:Env:=[(31,.i z5),(30,.str a0),(0,.str a0),(1,.i a1),(5,.i z5)]
     refine oH 3 (atN 2 (ctl1 g42p10)) E3 (mkH []) ?_
     refine oA (fun (x2_2:(Int × Int)) => .tuple [.i x2_2.1,.i x2_2.2]) (atN 3 (ctl1 g42p10)) 32 [.str a0,.i z5] (qL0 k a0 z5) fun x2_2 hx2_2=>?_
     refine oR 12 (atN 3 (ctl1 g42p13)) ((37,.bool (decide (x2_2.1 < 32))) :: (36,.bool (decide (x2_2.1 < 32))) :: (35,.i x2_2.1) :: (7,.i x2_2.2) :: (6,.i x2_2.1) :: (34,.i x2_2.2) :: (33,.i x2_2.1) :: (29,.tuple [.i x2_2.1,.i x2_2.2]) :: (32,.tuple [.i x2_2.1,.i x2_2.2]) :: E3) ?_
     refine oJ g42p15 (fun (z6:Bool)=>[(0,.str a0),(1,.i a1),(5,.i z5),(7,.i x2_2.2),(40,.bool z6)]) (fun (z6:Bool)=>(mkH [])) (fun z6=>?_) (fun j6 hj6=>?_)
     ·refine oS 40 (fun hb=>?_) (fun hb=>?_)
      ·exact oQ 6
      ·refine oLH 8 g42p2 [(0,.str a0),(1,.i a1),(5,.i (fW .i64 (z5 + x2_2.2)))] (mkH []) ?_
       exact ih (fW .i64 (z5 + x2_2.2))
     ·refine oS 37 (fun hb=>?_) (fun hb=>?_)
      ·refine oLH 4 g42p15 [(0,.str a0),(1,.i a1),(5,.i z5),(7,.i x2_2.2),(40,.bool true)] (mkH []) ?_
       exact hj6 true
      ·refine oLH 4 g42p15 [(0,.str a0),(1,.i a1),(5,.i z5),(7,.i x2_2.2),(40,.bool (decide (x2_2.1 = 127)))] (mkH []) ?_
       exact hj6 (decide (x2_2.1 = 127))
    ·refine oS 26 (fun hb=>?_) (fun hb=>?_)
     ·refine oLH 7 g42p10 [(0,.str a0),(1,.i a1),(5,.i (fW .i64 (z4.2 + 1)))] (mkH []) ?_
      exact hj5 (fW .i64 (z4.2 + 1))
     ·refine oLH 3 g42p10 [(0,.str a0),(1,.i a1),(5,.i z4.2)] (mkH []) ?_
      exact hj5 z4.2
   ·refine oH 10 (nav [0,0] (nav [2,0,0,0] g42p4)) [(47,.bool (decide ((a0.length:Int) ≤ z4.2))),(46,.i (a0.length:Int)),(45,.str a0),(44,.i z4.2),(22,.bool false),(0,.str a0),(1,.i a1),(5,.i z4.2),(22,.bool z4.1)] (mkH []) ?_
    refine oS 47 (fun hb=>?_) (fun hb=>?_)
    ·exact oQ 6
    ·exact oQ 11
  ·refine qEr (fun hb4=>?_) (fun hb4=>?_)
   ·refine qA7 (fun x0_7 hx0_7=>?_)
    refine qA7 (fun x0_10 hx0_10=>?_)
    let E15:Env:=[(14,.bool (decide (y3_0 < (a0.length:Int)))),(13,.bool (decide (y3_0 < (a0.length:Int)))),(12,.i (a0.length:Int)),(11,.str a0),(10,.i y3_0),(0,.str a0),(1,.i a1),(5,.i y3_0)]
    let E16:Env:=[(16,.i y3_0),(15,.str a0),(14,.bool true),(13,.bool true),(12,.i (a0.length:Int)),(11,.str a0),(10,.i y3_0),(0,.str a0),(1,.i a1),(5,.i y3_0)]
    let E17:Env:=((22,.bool (!decide (x0_7 = x0_10))) :: (21,.bool (!decide (x0_7 = x0_10))) :: (20,.y x0_10) :: (19,.i a1) :: (18,.str a0) :: (17,.y x0_7) :: E16)
    refine oD (H':=(mkH [])) (nav [0] g42p3) E17 [] g42d0 (oDr 5 5 E15 (oDe (fun z=>[(14,.bool z),(13,.bool z),(12,.i (a0.length:Int)),(11,.str a0),(10,.i y3_0),(0,.str a0),(1,.i a1),(5,.i y3_0)]) hb4 (oDr 2 7 E16 (qA9 (l':=(opsAt g42p3).toList.drop 8) (eE:=((17,.y x0_7) :: E16)) (hs:=[]) (x:=x0_7) (fun (x0_7:Int)=>(.y x0_7,(mkH []))) (idxH (by kernel_rfl)) hx0_7 (by kernel_rfl) (oDr 2 10 ((19,.i a1) :: (18,.str a0) :: (17,.y x0_7) :: E16) (qA9 (l':=(opsAt g42p3).toList.drop 11) (eE:=((20,.y x0_10) :: (19,.i a1) :: (18,.str a0) :: (17,.y x0_7) :: E16)) (hs:=[]) (x:=x0_10) (fun (x0_10:Int)=>(.y x0_10,(mkH []))) (idxH (by kernel_rfl)) hx0_10 (by kernel_rfl) (oDr 2 13 E17 .nil))))))) ?_
    refine oK [0,1,5,22] [(0,.str a0),(1,.i a1),(5,.i y3_0),(22,.bool (!decide (x0_7 = x0_10)))] ?_
    exact hj4 (!decide (x0_7 = x0_10),y3_0)
   ·let E15:Env:=[(14,.bool (decide (y3_0 < (a0.length:Int)))),(13,.bool (decide (y3_0 < (a0.length:Int)))),(12,.i (a0.length:Int)),(11,.str a0),(10,.i y3_0),(0,.str a0),(1,.i a1),(5,.i y3_0)]
    let E19:Env:=[(22,.bool false),(21,.tuple []),(20,.tuple []),(19,.tuple []),(18,.tuple []),(17,.tuple []),(16,.tuple []),(15,.tuple []),(14,.bool false),(13,.bool false),(12,.i (a0.length:Int)),(11,.str a0),(10,.i y3_0),(0,.str a0),(1,.i a1),(5,.i y3_0)]
    refine oD (H':=(mkH [])) (nav [0] g42p3) E19 [] g42d0 (oDr 5 5 E15 (oDe (fun z=>[(14,.bool z),(13,.bool z),(12,.i (a0.length:Int)),(11,.str a0),(10,.i y3_0),(0,.str a0),(1,.i a1),(5,.i y3_0)]) hb4 (oDr 8 13 E19 .nil))) ?_
    refine oK [0,1,5,22] [(0,.str a0),(1,.i a1),(5,.i y3_0),(22,.bool false)] ?_
    exact hj4 (false,y3_0)
def g42 (k:Nat) (a0:(List Nat)) (a1:Int):Option Int :=
 qFc k a0 a1 k (fW .i64 (a1 + 1))
theorem g42_ok (k:Nat) (a0:(List Nat)) (a1:Int) (r:Int) (h:g42 k a0 a1 = some r):PureOk Try.prog 42 [.str a0,.i a1] (.i r):=by
 refine qA4 Xg42 (fun _=>⟨rfl,rfl⟩) Try.func42 (by decide +kernel) (by kernel_rfl) (t:=g42 k a0 a1) ?_ h
 unfold g42
 refine qA (eE:=[(0,.str a0),(1,.i a1)]) (by kernel_rfl) ?_
 refine oLH 13 g42p2 [(0,.str a0),(1,.i a1),(5,.i (fW .i64 (a1 + 1)))] (mkH []) ?_
 exact (qOn k a0 a1 k) (fW .i64 (a1 + 1))
def Xg74:Fx (Int × Int):=⟨Try.prog,cx,Try.f74,fun r => .tuple [.i r.1,.i r.2],0,fun _=>H0,cxTi,cxOrd,fun _=>none,false⟩
def g74p2:Pt:=nav [0,0,0,0,0] (nav [0,0,0] (nav [0] (bodyAt Try.f74)))
def g74p3:Pt:=nav [0,0,0] g74p2
def g74p4:Pt:=nav [0,0] g74p3
def g74p5:Pt:=nav [1,0,0,0] g74p4
def qIa (k:Nat)  (a0:(List Nat)) (a1:Int) (a2:Int) (a3:Int) (ih:Int → Int → Option (Int × Int)):Int → Int → Option (Int × Int) :=
 fun (y2_0:Int) (y2_1:Int)=>jn (fun (z3:Bool × Int × Int)=>if z3.1 then ((nthS a0 (fW .i64 (a1 + z3.2.2))).bind fun x1_7=>(g92 k x1_7 a2).bind fun x1_9=>ih (fW .i64 (fW .i64 (z3.2.1 * a2) + x1_9)) (fW .i64 (z3.2.2 + 1))) else (some (z3.2.1,z3.2.2))) (fun j3=>if (decide (y2_1 < a3)) then (if (decide (fW .i64 (a1 + y2_1) < (a0.length:Int))) then ((nthS a0 (fW .i64 (a1 + y2_1))).bind fun x0_16=>(g92 k x0_16 a2).bind fun x0_18=>j3 (decide (0 ≤ x0_18),y2_0,y2_1)) else (j3 (false,y2_0,y2_1))) else (j3 (false,y2_0,y2_1)))
def qOb (k:Nat)  (a0:(List Nat)) (a1:Int) (a2:Int) (a3:Int) (n:Nat):Int → Int → Option (Int × Int):=lp (fun _ _=>none) (qIa k a0 a1 a2 a3) n
theorem qOa (k:Nat)   (a0:(List Nat)) (a1:Int) (a2:Int) (a3:Int)  : ∀ (n:Nat) (y2_0:Int) (y2_1:Int),Ok Xg74 g74p2 [(0,.str a0),(1,.i a1),(2,.i a2),(3,.i a3),(10,.i y2_0),(11,.i y2_1)] (mkH []) (qOb k a0 a1 a2 a3 n y2_0 y2_1):=by
 intro n
 induction n with
 | zero=>intro y2_0 y2_1; exact ok_none
 | succ n ih =>
  intro y2_0 y2_1
  show Ok _ _ _ _ (qIa k a0 a1 a2 a3 (qOb k a0 a1 a2 a3 n) y2_0 y2_1)
  unfold qIa
  refine qAf (p':=nav [0] g74p2) (by kernel_rfl) ?_
  let E2:Env:=[(15,.bool (decide (y2_1 < a3))),(14,.bool (decide (y2_1 < a3))),(13,.i a3),(12,.i y2_1),(0,.str a0),(1,.i a1),(2,.i a2),(3,.i a3),(10,.i y2_0),(11,.i y2_1)]
  refine oH 7 (atN 4 (ctl1 g74p3)) E2 (mkH []) ?_
  refine oJ g74p4 (fun (z3:Bool × Int × Int)=>[(0,.str a0),(1,.i a1),(2,.i a2),(3,.i a3),(10,.i z3.2.1),(11,.i z3.2.2),(32,.bool z3.1)]) (fun (z3:Bool × Int × Int)=>(mkH [])) (fun z3=>?_) (fun j3 hj3=>?_)
  ·refine oS 32 (fun hb=>?_) (fun hb=>?_)
   ·let E3:Env:=[(39,.i (fW .i64 (a1 + z3.2.2))),(38,.i z3.2.2),(37,.i a1),(36,.str a0),(35,.i (fW .i64 (z3.2.1 * a2))),(34,.i a2),(33,.i z3.2.1),(32,.bool true),(0,.str a0),(1,.i a1),(2,.i a2),(3,.i a3),(10,.i z3.2.1),(11,.i z3.2.2),(32,.bool z3.1)]
    refine oH 12 (atN 7 (ctl1 g74p5)) E3 (mkH []) ?_
    refine oC (fun (x1_7:Int)=>(.y x1_7,(mkH []))) (atN 8 (ctl1 g74p5)) 40 (idxH (by kernel_rfl)) fun x1_7 hx1_7=>?_
    refine oH 1 (atN 9 (ctl1 g74p5)) ((41,.i a2) :: (40,.y x1_7) :: E3) (mkH []) ?_
    refine oA (fun (x1_9:Int) => .i x1_9) (atN 10 (ctl1 g74p5)) 42 [.y x1_7,.i a2] (qKu k x1_7 a2) fun x1_9 hx1_9=>?_
    let E5:Env:=[(0,.str a0),(1,.i a1),(2,.i a2),(3,.i a3),(10,.i (fW .i64 (fW .i64 (z3.2.1 * a2) + x1_9))),(11,.i z3.2.2)]
    refine oL 3 (nav [0,0] g74p5) E5 ?_
    refine oR 5 g74p2 ((11,.i (fW .i64 (z3.2.2 + 1))) :: (45,.i (fW .i64 (z3.2.2 + 1))) :: (44,.i z3.2.2) :: E5) ?_
    refine oK [0,1,2,3,10,11] [(0,.str a0),(1,.i a1),(2,.i a2),(3,.i a3),(10,.i (fW .i64 (fW .i64 (z3.2.1 * a2) + x1_9))),(11,.i (fW .i64 (z3.2.2 + 1)))] ?_
    exact ih (fW .i64 (fW .i64 (z3.2.1 * a2) + x1_9)) (fW .i64 (z3.2.2 + 1))
   ·exact oQ 10
  ·refine oS 15 (fun hb=>?_) (fun hb=>?_)
   ·let E8:Env:=((23,.bool (decide (fW .i64 (a1 + y2_1) < (a0.length:Int)))) :: (22,.bool (decide (fW .i64 (a1 + y2_1) < (a0.length:Int)))) :: (21,.bool (decide (fW .i64 (a1 + y2_1) < (a0.length:Int)))) :: (20,.i (a0.length:Int)) :: (19,.str a0) :: (18,.i (fW .i64 (a1 + y2_1))) :: (17,.i y2_1) :: (16,.i a1) :: (15,.bool true) :: E2)
    refine oH 8 (atN 12 (ctl1 g74p3)) E8 (mkH []) ?_
    refine oS 23 (fun hb=>?_) (fun hb=>?_)
    ·let E9:Env:=((27,.i (fW .i64 (a1 + y2_1))) :: (26,.i y2_1) :: (25,.i a1) :: (24,.str a0) :: (23,.bool true) :: E8)
     refine oR 4 (atN 16 (ctl1 g74p3)) E9 ?_
     refine oC (fun (x0_16:Int)=>(.y x0_16,(mkH []))) (atN 17 (ctl1 g74p3)) 28 (idxH (by kernel_rfl)) fun x0_16 hx0_16=>?_
     refine oH 1 (atN 18 (ctl1 g74p3)) ((29,.i a2) :: (28,.y x0_16) :: E9) (mkH []) ?_
     refine oA (fun (x0_18:Int) => .i x0_18) (atN 19 (ctl1 g74p3)) 30 [.y x0_16,.i a2] (qKu k x0_16 a2) fun x0_18 hx0_18=>?_
     refine oL 3 g74p4 [(0,.str a0),(1,.i a1),(2,.i a2),(3,.i a3),(10,.i y2_0),(11,.i y2_1),(32,.bool (decide (0 ≤ x0_18)))] ?_
     exact hj3 (decide (0 ≤ x0_18),y2_0,y2_1)
    ·refine oL 10 g74p4 [(0,.str a0),(1,.i a1),(2,.i a2),(3,.i a3),(10,.i y2_0),(11,.i y2_1),(32,.bool false)] ?_
     exact hj3 (false,y2_0,y2_1)
   ·refine oLH 18 g74p4 [(0,.str a0),(1,.i a1),(2,.i a2),(3,.i a3),(10,.i y2_0),(11,.i y2_1),(32,.bool false)] (mkH []) ?_
    exact hj3 (false,y2_0,y2_1)
def g74 (k:Nat) (a0:(List Nat)) (a1:Int) (a2:Int) (a3:Int):Option (Int × Int) :=
 qOb k a0 a1 a2 a3 k 0 0
theorem qO9 (k:Nat) (a0:(List Nat)) (a1:Int) (a2:Int) (a3:Int) (r:(Int × Int)) (h:g74 k a0 a1 a2 a3 = some r):PureOk Try.prog 74 [.str a0,.i a1,.i a2,.i a3] (.tuple [.i r.1,.i r.2]):=by
 refine qA4 Xg74 (fun _=>⟨rfl,rfl⟩) Try.func74 (by decide +kernel) (by kernel_rfl) (t:=g74 k a0 a1 a2 a3) ?_ h
 unfold g74
 refine qA (eE:=[(0,.str a0),(1,.i a1),(2,.i a2),(3,.i a3)]) (by kernel_rfl) ?_
 refine oLH 13 g74p2 [(0,.str a0),(1,.i a1),(2,.i a2),(3,.i a3),(10,.i 0),(11,.i 0)] (mkH []) ?_
 exact (qOa k a0 a1 a2 a3 k) 0 0
def Xg64:Fx (Int × Int):=⟨Try.prog,cx,Try.f64,fun r => .tuple [.i r.1,.i r.2],0,fun _=>H0,cxTi,cxOrd,fun _=>none,false⟩
def g64c0:List Int:=[(8:Int),(127:Int),(27:Int),(12:Int),(10:Int),(13:Int),(32:Int),(9:Int),(11:Int)]
def g64c1:List Nat:=[98,100,101,102,110,114,115,116,118]
def g64p1:Pt:=nav [0,0,0,0] (nav [0] (bodyAt Try.f64))
def g64p2:Pt:=nav [0,0] g64p1
def g64p4:Pt:=nav [2,0,0] g64p2
def g64p6:Pt:=nav [0,0,0] g64p4
def g64p8:Pt:=nav [0,0,0,0] (nav [0,0,0,0] g64p6)
def g64p10:Pt:=nav [0,0] (nav [0,0,0] g64p8)
def g64p11:Pt:=nav [1,0,0,0,0] g64p10
def g64p12:Pt:=nav [2,0,0,0,0] g64p10
def g64p13:Pt:=nav [0,0] g64p11
def g64p14:Pt:=nav [0,0] g64p12
def g64p15:Pt:=nav [1,0] g64p13
def g64p17:Pt:=nav [1,0] g64p14
def g64p18:Pt:=nav [2,0] g64p14
def g64p20:Pt:=nav [0,0] g64p18
def g64p21:Pt:=nav [1,0] g64p20
def g64p23:Pt:=nav [0,0,0,0] g64p21
def g64p24:Pt:=nav [0,0] (nav [2,0] g64p20)
def g64p25:Pt:=nav [0,0] g64p23
def g64p26:Pt:=nav [1,0] g64p24
def g64p30:Pt:=nav [0,0,0,0] g64p26
def g64p31:Pt:=nav [0,0] (nav [2,0] g64p24)
def g64p33:Pt:=nav [1,0,0] g64p31
def g64p34:Pt:=nav [2,0,0] g64p31
def g64p37:Pt:=nav [0,0] g64p33
def g64p38:Pt:=nav [0,0,0,0] g64p34
def g64p40:Pt:=nav [2,0,0] g64p37
def qG7 (k:Nat)  (a0:(List Nat)) (a1:Int) (x1_3:Int) (ih:Int → Option (Int × Int)):Int → Option (Int × Int) :=
 fun (y13_0:Int)=>if (decide (y13_0 < 9)) then ((nthS g64c1 y13_0).bind fun x3_2=>if (decide (x3_2 = x1_3)) then ((nthL g64c0 y13_0).bind fun x2_2=>some (x2_2,(2:Int))) else (ih (fW .i64 (y13_0 + 1)))) else (jn (fun (z14:Bool)=>if z14 then ((g74 k a0 (fW .i64 (a1 + 1)) (8:Int) (3:Int)).bind fun x4_3=>some (x4_3.1,fW .i64 (1 + x4_3.2))) else (jn (fun (z15:Bool)=>if z15 then ((g74 k a0 (fW .i64 (a1 + 3)) (16:Int) (6:Int)).bind fun x6_3=>jn (fun (z16:Bool)=>if z16 then (some (((-1):Int),(0:Int))) else (some (x6_3.1,fW .i64 (4 + x6_3.2)))) (fun j16=>if (decide (x6_3.2 = 0)) then (j16 true) else (if (decide ((a0.length:Int) ≤ fW .i64 (fW .i64 (a1 + 3) + x6_3.2))) then (j16 true) else ((nthS a0 (fW .i64 (fW .i64 (a1 + 3) + x6_3.2))).bind fun x7_17=>if (!decide (x7_17 = 125)) then (j16 true) else ((g59 k x6_3.1).bind fun x7_22=>j16 (!x7_22)))))) else (if (decide (x1_3 = 120)) then ((g74 k a0 (fW .i64 (a1 + 2)) (16:Int) (2:Int)).bind fun x8_3=>if (decide (x8_3.2 < 2)) then (some (((-1):Int),(0:Int))) else (some (x8_3.1,(4:Int)))) else (if (decide (x1_3 = 94)) then (jn (fun (z17:Bool)=>if z17 then (some (((-1):Int),(0:Int))) else ((nthS a0 (fW .i64 (a1 + 2))).bind fun x11_3=>some (andI .i64 (fW .i64 x11_3) 31,(3:Int)))) (fun j17=>if (decide ((a0.length:Int) ≤ fW .i64 (a1 + 2))) then (j17 true) else ((nthS a0 (fW .i64 (a1 + 2))).bind fun x9_9=>if (decide (64 ≤ x9_9)) then ((nthS a0 (fW .i64 (a1 + 2))).bind fun x9_15=>if (decide (x9_15 ≤ 95)) then (j17 false) else ((nthS a0 (fW .i64 (a1 + 2))).bind fun x9_22=>if (decide (97 ≤ x9_22)) then ((nthS a0 (fW .i64 (a1 + 2))).bind fun x9_28=>j17 (!(decide (x9_28 ≤ 122)))) else (j17 true))) else ((nthS a0 (fW .i64 (a1 + 2))).bind fun x9_22=>if (decide (97 ≤ x9_22)) then ((nthS a0 (fW .i64 (a1 + 2))).bind fun x9_28=>j17 (!(decide (x9_28 ≤ 122)))) else (j17 true))))) else ((g36 k a0 (fW .i64 (a1 + 1))).bind fun x10_3=>if (decide (x10_3.1 < 32)) then (some (((-1):Int),(0:Int))) else (some (x10_3.1,fW .i64 (1 + x10_3.2))))))) (fun j15=>if (decide (x1_3 = 120)) then (if (decide (fW .i64 (a1 + 2) < (a0.length:Int))) then ((nthS a0 (fW .i64 (a1 + 2))).bind fun x5_13=>j15 (decide (x5_13 = 123))) else (j15 false)) else (j15 false)))) (fun j14=>if (decide (48 ≤ x1_3)) then (j14 (decide (x1_3 ≤ 55))) else (j14 false)))
def qId (k:Nat)  (a0:(List Nat)) (a1:Int) (x1_3:Int) (n:Nat):Int → Option (Int × Int):=lp (fun _=>none) (qG7 k a0 a1 x1_3) n
theorem qLn (k:Nat)   (a0:(List Nat)) (a1:Int) (x1_3:Int)  : ∀ (n:Nat) (y13_0:Int),Ok Xg64 g64p8 [(0,.str a0),(1,.i a1),(6,.y x1_3),(7,.str g64c1),(8,w3 g64c0),(9,.i y13_0)] (mkH []) (qId k a0 a1 x1_3 n y13_0):=by
 intro n
 induction n with
 | zero=>intro y13_0; exact ok_none
 | succ n ih =>
  intro y13_0
  show Ok _ _ _ _ (qG7 k a0 a1 x1_3 (qId k a0 a1 x1_3 n) y13_0)
  unfold qG7
  refine qAf (p':=nav [0] g64p8) (by kernel_rfl) ?_
  let E5:Env:=[(41,.bool (decide (y13_0 < 9))),(40,.i 9),(39,.str g64c1),(38,.i y13_0),(0,.str a0),(1,.i a1),(6,.y x1_3),(7,.str g64c1),(8,w3 g64c0),(9,.i y13_0)]
  refine oH 8 g64p10 E5 (mkH []) ?_
  refine oS 41 (fun hb=>?_) (fun hb=>?_)
  ·refine oR 8 (atN 2 (ctl1 g64p11)) ((45,.i y13_0) :: (44,.str g64c1) :: (41,.bool true) :: E5) ?_
   refine oC (fun (x3_2:Int)=>(.y x3_2,(mkH []))) (atN 3 (ctl1 g64p11)) 46 (idxH (by kernel_rfl)) fun x3_2 hx3_2=>?_
   let E7:Env:=[(0,.str a0),(1,.i a1),(6,.y x1_3),(7,.str g64c1),(8,w3 g64c0),(9,.i y13_0),(48,.bool (decide (x3_2 = x1_3)))]
   refine oLH 3 g64p13 E7 (mkH []) ?_
   refine oS 48 (fun hb=>?_) (fun hb=>?_)
   ·refine oR 5 (atN 2 (ctl1 g64p15)) ((50,.i y13_0) :: (49,w3 g64c0) :: (48,.bool true) :: E7) ?_
    refine oC (fun (x2_2:Int)=>(.vptr [.i x2_2],(mkH []))) (atN 3 (ctl1 g64p15)) 51 (vidxH (sz:=1) qFj (by kernel_rfl)) fun x2_2 hx2_2=>?_
    exact oQ 5
   ·refine oL 7 g64p8 [(0,.str a0),(1,.i a1),(6,.y x1_3),(7,.str g64c1),(8,w3 g64c0),(9,.i (fW .i64 (y13_0 + 1)))] ?_
    exact ih (fW .i64 (y13_0 + 1))
  ·refine oR 9 (atN 3 (ctl1 g64p12)) ((56,.bool (decide (48 ≤ x1_3))) :: (55,.bool (decide (48 ≤ x1_3))) :: (54,.y x1_3) :: (41,.bool false) :: E5) ?_
   refine oJ g64p14 (fun (z14:Bool)=>[(0,.str a0),(1,.i a1),(6,.y x1_3),(53,.bool z14)]) (fun (z14:Bool)=>(mkH [])) (fun z14=>?_) (fun j14 hj14=>?_)
   ·refine oS 53 (fun hb=>?_) (fun hb=>?_)
    ·refine oH 6 (atN 3 (ctl1 g64p17)) [(63,.i (fW .i64 (a1 + 1))),(62,.i a1),(61,.str a0),(53,.bool true),(0,.str a0),(1,.i a1),(6,.y x1_3),(53,.bool z14)] (mkH []) ?_
     refine oA (fun (x4_3:(Int × Int)) => .tuple [.i x4_3.1,.i x4_3.2]) (atN 4 (ctl1 g64p17)) 64 [.str a0,.i (fW .i64 (a1 + 1)),.i 8,.i 3] (qO9 k a0 (fW .i64 (a1 + 1)) (8:Int) (3:Int)) fun x4_3 hx4_3=>?_
     refine oL 7 (nav [0,0,0] g64p17) [(10,.i x4_3.1),(11,.i x4_3.2)] ?_
     exact oQ 8
    ·let E14:Env:=[(73,.bool (decide (x1_3 = 120))),(72,.bool (decide (x1_3 = 120))),(71,.y x1_3),(53,.bool false),(0,.str a0),(1,.i a1),(6,.y x1_3),(53,.bool z14)]
     refine oH 6 (atN 3 (ctl1 g64p18)) E14 (mkH []) ?_
     refine oJ g64p20 (fun (z15:Bool)=>[(0,.str a0),(1,.i a1),(6,.y x1_3),(70,.bool z15)]) (fun (z15:Bool)=>(mkH [])) (fun z15=>?_) (fun j15 hj15=>?_)
     ·refine oS 70 (fun hb=>?_) (fun hb=>?_)
      ·refine oH 6 (atN 3 (ctl1 g64p21)) [(90,.i (fW .i64 (a1 + 3))),(89,.i a1),(88,.str a0),(70,.bool true),(0,.str a0),(1,.i a1),(6,.y x1_3),(70,.bool z15)] (mkH []) ?_
       refine oA (fun (x6_3:(Int × Int)) => .tuple [.i x6_3.1,.i x6_3.2]) (atN 4 (ctl1 g64p21)) 91 [.str a0,.i (fW .i64 (a1 + 3)),.i 16,.i 6] (qO9 k a0 (fW .i64 (a1 + 3)) (16:Int) (6:Int)) fun x6_3 hx6_3=>?_
       let E17:Env:=[(0,.str a0),(1,.i a1),(12,.i x6_3.1),(13,.i x6_3.2)]
       refine oL 8 g64p23 E17 ?_
       refine oR 4 (atN 3 (ctl1 g64p23)) ((96,.bool (decide (x6_3.2 = 0))) :: (95,.bool (decide (x6_3.2 = 0))) :: (94,.i x6_3.2) :: E17) ?_
       refine oJ g64p25 (fun (z16:Bool)=>[(12,.i x6_3.1),(13,.i x6_3.2),(118,.bool z16)]) (fun (z16:Bool)=>(mkH [])) (fun z16=>?_) (fun j16 hj16=>?_)
       ·refine oS 118 (fun hb=>?_) (fun hb=>?_)
        ·exact oQ 7
        ·exact oQ 11
       ·refine oS 96 (fun hb=>?_) (fun hb=>?_)
        ·refine oLH 23 g64p25 [(12,.i x6_3.1),(13,.i x6_3.2),(118,.bool true)] (mkH []) ?_
         exact hj16 true
        ·let E22:Env:=((105,.bool (decide ((a0.length:Int) ≤ fW .i64 (fW .i64 (a1 + 3) + x6_3.2)))) :: (104,.bool (decide ((a0.length:Int) ≤ fW .i64 (fW .i64 (a1 + 3) + x6_3.2)))) :: (103,.bool (decide ((a0.length:Int) ≤ fW .i64 (fW .i64 (a1 + 3) + x6_3.2)))) :: (102,.i (a0.length:Int)) :: (101,.str a0) :: (100,.i (fW .i64 (fW .i64 (a1 + 3) + x6_3.2))) :: (99,.i x6_3.2) :: (98,.i (fW .i64 (a1 + 3))) :: (97,.i a1) :: (96,.bool false) :: (96,.bool (decide (x6_3.2 = 0))) :: (95,.bool (decide (x6_3.2 = 0))) :: (94,.i x6_3.2) :: E17)
         refine oH 9 (atN 12 (ctl1 g64p23)) E22 (mkH []) ?_
         refine oS 105 (fun hb=>?_) (fun hb=>?_)
         ·refine oL 14 g64p25 [(12,.i x6_3.1),(13,.i x6_3.2),(118,.bool true)] ?_
          exact hj16 true
         ·let E25:Env:=((110,.i (fW .i64 (fW .i64 (a1 + 3) + x6_3.2))) :: (109,.i x6_3.2) :: (108,.i (fW .i64 (a1 + 3))) :: (107,.i a1) :: (106,.str a0) :: (105,.bool false) :: E22)
          refine oR 5 (atN 17 (ctl1 g64p23)) E25 ?_
          refine oC (fun (x7_17:Int)=>(.y x7_17,(mkH []))) (atN 18 (ctl1 g64p23)) 111 (idxH (by kernel_rfl)) fun x7_17 hx7_17=>?_
          refine oH 3 (atN 21 (ctl1 g64p23)) ((114,.bool (!decide (x7_17 = 125))) :: (113,.bool (!decide (x7_17 = 125))) :: (112,.bool (!decide (x7_17 = 125))) :: (111,.y x7_17) :: E25) (mkH []) ?_
          refine oS 114 (fun hb=>?_) (fun hb=>?_)
          ·refine oL 5 g64p25 [(12,.i x6_3.1),(13,.i x6_3.2),(118,.bool true)] ?_
           exact hj16 true
          ·refine oR 1 (atN 22 (ctl1 g64p23)) ((115,.i x6_3.1) :: (114,.bool false) :: (114,.bool (!decide (x7_17 = 125))) :: (113,.bool (!decide (x7_17 = 125))) :: (112,.bool (!decide (x7_17 = 125))) :: (111,.y x7_17) :: E25) ?_
           refine oA (fun (x7_22:Bool) => .bool x7_22) (atN 23 (ctl1 g64p23)) 116 [.i x6_3.1] (g59_ok k x6_3.1) fun x7_22 hx7_22=>?_
           refine oL 3 g64p25 [(12,.i x6_3.1),(13,.i x6_3.2),(118,.bool (!x7_22))] ?_
           exact hj16 (!x7_22)
      ·let E30:Env:=[(122,.bool (decide (x1_3 = 120))),(124,.bool (decide (x1_3 = 120))),(123,.y x1_3),(70,.bool false),(0,.str a0),(1,.i a1),(6,.y x1_3),(70,.bool z15)]
       refine oH 7 g64p24 E30 (mkH []) ?_
       refine oS 122 (fun hb=>?_) (fun hb=>?_)
       ·refine oR 6 (atN 3 (ctl1 g64p26)) ((128,.i (fW .i64 (a1 + 2))) :: (127,.i a1) :: (126,.str a0) :: (122,.bool true) :: E30) ?_
        refine oA (fun (x8_3:(Int × Int)) => .tuple [.i x8_3.1,.i x8_3.2]) (atN 4 (ctl1 g64p26)) 129 [.str a0,.i (fW .i64 (a1 + 2)),.i 16,.i 2] (qO9 k a0 (fW .i64 (a1 + 2)) (16:Int) (2:Int)) fun x8_3 hx8_3=>?_
        let E32:Env:=[(14,.i x8_3.1),(15,.i x8_3.2)]
        refine oL 8 g64p30 E32 ?_
        refine oR 4 (nav [0,0] g64p30) ((133,.bool (decide (x8_3.2 < 2))) :: (132,.i x8_3.2) :: E32) ?_
        refine oS 133 (fun hb=>?_) (fun hb=>?_)
        ·exact oQ 7
        ·exact oQ 9
       ·refine oL 7 g64p31 [(0,.str a0),(1,.i a1),(135,.bool (decide (x1_3 = 94)))] ?_
        let E35:Env:=[(0,.str a0),(1,.i a1),(135,.bool (decide (x1_3 = 94)))]
        refine oS 135 (fun hb=>?_) (fun hb=>?_)
        ·let E36:Env:=((143,.bool (decide ((a0.length:Int) ≤ fW .i64 (a1 + 2)))) :: (142,.bool (decide ((a0.length:Int) ≤ fW .i64 (a1 + 2)))) :: (141,.i (a0.length:Int)) :: (140,.str a0) :: (139,.i (fW .i64 (a1 + 2))) :: (138,.i a1) :: (135,.bool true) :: E35)
         refine oR 10 (atN 6 (ctl1 g64p33)) E36 ?_
         refine oJ g64p37 (fun (z17:Bool)=>[(0,.str a0),(1,.i a1),(171,.bool z17)]) (fun (z17:Bool)=>(mkH [])) (fun z17=>?_) (fun j17 hj17=>?_)
         ·refine oS 171 (fun hb=>?_) (fun hb=>?_)
          ·exact oQ 7
          ·refine oH 7 (atN 3 (ctl1 g64p40)) [(174,.i (fW .i64 (a1 + 2))),(173,.i a1),(172,.str a0),(171,.bool false),(0,.str a0),(1,.i a1),(171,.bool z17)] (mkH []) ?_
           refine oC (fun (x11_3:Int)=>(.y x11_3,(mkH []))) (atN 4 (ctl1 g64p40)) 175 (idxH (by kernel_rfl)) fun x11_3 hx11_3=>?_
           exact oQ 6
         ·refine oS 143 (fun hb=>?_) (fun hb=>?_)
          ·refine oLH 29 g64p37 [(0,.str a0),(1,.i a1),(171,.bool true)] (mkH []) ?_
           exact hj17 true
          ·refine oH 3 (atN 9 (ctl1 g64p33)) ((146,.i (fW .i64 (a1 + 2))) :: (145,.i a1) :: (144,.str a0) :: (143,.bool false) :: E36) (mkH []) ?_
           refine oC (fun (x9_9:Int)=>(.y x9_9,(mkH []))) (atN 10 (ctl1 g64p33)) 147 (idxH (by kernel_rfl)) fun x9_9 hx9_9=>?_
           let E42:Env:=((149,.bool (decide (64 ≤ x9_9))) :: (148,.bool (decide (64 ≤ x9_9))) :: (147,.y x9_9) :: (146,.i (fW .i64 (a1 + 2))) :: (145,.i a1) :: (144,.str a0) :: (143,.bool false) :: E36)
           refine oH 2 (atN 12 (ctl1 g64p33)) E42 (mkH []) ?_
           refine oS 149 (fun hb=>?_) (fun hb=>?_)
           ·refine oR 3 (atN 15 (ctl1 g64p33)) ((152,.i (fW .i64 (a1 + 2))) :: (151,.i a1) :: (150,.str a0) :: (149,.bool true) :: E42) ?_
            refine oC (fun (x9_15:Int)=>(.y x9_15,(mkH []))) (atN 16 (ctl1 g64p33)) 153 (idxH (by kernel_rfl)) fun x9_15 hx9_15=>?_
            let E43:Env:=((156,.bool (decide (x9_15 ≤ 95))) :: (155,.bool (decide (x9_15 ≤ 95))) :: (154,.bool (decide (x9_15 ≤ 95))) :: (153,.y x9_15) :: (152,.i (fW .i64 (a1 + 2))) :: (151,.i a1) :: (150,.str a0) :: (149,.bool true) :: E42)
            refine oH 3 (atN 19 (ctl1 g64p33)) E43 (mkH []) ?_
            refine oS 156 (fun hb=>?_) (fun hb=>?_)
            ·refine oL 16 g64p37 [(0,.str a0),(1,.i a1),(171,.bool false)] ?_
             exact hj17 false
            ·refine oR 3 (atN 22 (ctl1 g64p33)) ((159,.i (fW .i64 (a1 + 2))) :: (158,.i a1) :: (157,.str a0) :: (156,.bool false) :: E43) ?_
             refine oC (fun (x9_22:Int)=>(.y x9_22,(mkH []))) (atN 23 (ctl1 g64p33)) 160 (idxH (by kernel_rfl)) fun x9_22 hx9_22=>?_
             let E46:Env:=((162,.bool (decide (97 ≤ x9_22))) :: (161,.bool (decide (97 ≤ x9_22))) :: (160,.y x9_22) :: (159,.i (fW .i64 (a1 + 2))) :: (158,.i a1) :: (157,.str a0) :: (156,.bool false) :: E43)
             refine oH 2 (atN 25 (ctl1 g64p33)) E46 (mkH []) ?_
             refine oS 162 (fun hb=>?_) (fun hb=>?_)
             ·refine oR 3 (atN 28 (ctl1 g64p33)) ((165,.i (fW .i64 (a1 + 2))) :: (164,.i a1) :: (163,.str a0) :: (162,.bool true) :: E46) ?_
              refine oC (fun (x9_28:Int)=>(.y x9_28,(mkH []))) (atN 29 (ctl1 g64p33)) 166 (idxH (by kernel_rfl)) fun x9_28 hx9_28=>?_
              refine oLH 6 g64p37 [(0,.str a0),(1,.i a1),(171,.bool (!(decide (x9_28 ≤ 122))))] (mkH []) ?_
              exact hj17 (!(decide (x9_28 ≤ 122)))
             ·refine oL 10 g64p37 [(0,.str a0),(1,.i a1),(171,.bool true)] ?_
              exact hj17 true
           ·let E51:Env:=((159,.i (fW .i64 (a1 + 2))) :: (158,.i a1) :: (157,.str a0) :: (156,.bool false) :: (155,.bool false) :: (154,.tuple []) :: (153,.tuple []) :: (152,.tuple []) :: (151,.tuple []) :: (150,.tuple []) :: (149,.bool false) :: E42)
            refine oR 10 (atN 22 (ctl1 g64p33)) E51 ?_
            refine oC (fun (x9_22:Int)=>(.y x9_22,(mkH []))) (atN 23 (ctl1 g64p33)) 160 (idxH (by kernel_rfl)) fun x9_22 hx9_22=>?_
            refine oH 2 (atN 25 (ctl1 g64p33)) ((162,.bool (decide (97 ≤ x9_22))) :: (161,.bool (decide (97 ≤ x9_22))) :: (160,.y x9_22) :: E51) (mkH []) ?_
            refine oS 162 (fun hb=>?_) (fun hb=>?_)
            ·refine oR 3 (atN 28 (ctl1 g64p33)) ((165,.i (fW .i64 (a1 + 2))) :: (164,.i a1) :: (163,.str a0) :: (162,.bool true) :: (162,.bool (decide (97 ≤ x9_22))) :: (161,.bool (decide (97 ≤ x9_22))) :: (160,.y x9_22) :: E51) ?_
             refine oC (fun (x9_28:Int)=>(.y x9_28,(mkH []))) (atN 29 (ctl1 g64p33)) 166 (idxH (by kernel_rfl)) fun x9_28 hx9_28=>?_
             refine oLH 6 g64p37 [(0,.str a0),(1,.i a1),(171,.bool (!(decide (x9_28 ≤ 122))))] (mkH []) ?_
             exact hj17 (!(decide (x9_28 ≤ 122)))
            ·refine oL 10 g64p37 [(0,.str a0),(1,.i a1),(171,.bool true)] ?_
             exact hj17 true
        ·refine oR 7 (atN 3 (ctl1 g64p34)) ((181,.i (fW .i64 (a1 + 1))) :: (180,.i a1) :: (179,.str a0) :: (135,.bool false) :: E35) ?_
         refine oA (fun (x10_3:(Int × Int)) => .tuple [.i x10_3.1,.i x10_3.2]) (atN 4 (ctl1 g64p34)) 182 [.str a0,.i (fW .i64 (a1 + 1))] (qL0 k a0 (fW .i64 (a1 + 1))) fun x10_3 hx10_3=>?_
         let E58:Env:=[(16,.i x10_3.1),(17,.i x10_3.2)]
         refine oL 8 g64p38 E58 ?_
         refine oR 4 (nav [0,0] g64p38) ((186,.bool (decide (x10_3.1 < 32))) :: (185,.i x10_3.1) :: E58) ?_
         refine oS 186 (fun hb=>?_) (fun hb=>?_)
         ·exact oQ 7
         ·exact oQ 11
     ·refine oS 73 (fun hb=>?_) (fun hb=>?_)
      ·let E61:Env:=((80,.bool (decide (fW .i64 (a1 + 2) < (a0.length:Int)))) :: (79,.bool (decide (fW .i64 (a1 + 2) < (a0.length:Int)))) :: (78,.bool (decide (fW .i64 (a1 + 2) < (a0.length:Int)))) :: (77,.i (a0.length:Int)) :: (76,.str a0) :: (75,.i (fW .i64 (a1 + 2))) :: (74,.i a1) :: (73,.bool true) :: E14)
       refine oH 7 (atN 10 (ctl1 g64p18)) E61 (mkH []) ?_
       refine oS 80 (fun hb=>?_) (fun hb=>?_)
       ·refine oR 3 (atN 13 (ctl1 g64p18)) ((83,.i (fW .i64 (a1 + 2))) :: (82,.i a1) :: (81,.str a0) :: (80,.bool true) :: E61) ?_
        refine oC (fun (x5_13:Int)=>(.y x5_13,(mkH []))) (atN 14 (ctl1 g64p18)) 84 (idxH (by kernel_rfl)) fun x5_13 hx5_13=>?_
        refine oLH 4 g64p20 [(0,.str a0),(1,.i a1),(6,.y x1_3),(70,.bool (decide (x5_13 = 123)))] (mkH []) ?_
        exact hj15 (decide (x5_13 = 123))
       ·refine oL 8 g64p20 [(0,.str a0),(1,.i a1),(6,.y x1_3),(70,.bool false)] ?_
        exact hj15 false
      ·refine oLH 15 g64p20 [(0,.str a0),(1,.i a1),(6,.y x1_3),(70,.bool false)] (mkH []) ?_
       exact hj15 false
   ·refine oS 56 (fun hb=>?_) (fun hb=>?_)
    ·refine oLH 5 g64p14 [(0,.str a0),(1,.i a1),(6,.y x1_3),(53,.bool (decide (x1_3 ≤ 55)))] (mkH []) ?_
     exact hj14 (decide (x1_3 ≤ 55))
    ·refine oLH 5 g64p14 [(0,.str a0),(1,.i a1),(6,.y x1_3),(53,.bool false)] (mkH []) ?_
     exact hj14 false
def g64 (k:Nat) (a0:(List Nat)) (a1:Int):Option (Int × Int) :=
 jn (fun (z12:Bool)=>if z12 then (some (((-1):Int),(0:Int))) else ((nthS a0 (fW .i64 (a1 + 1))).bind fun x1_3=>qId k a0 a1 x1_3 k 0)) (fun j12=>if (decide (a1 < 0)) then (j12 true) else (if (decide (fW .i64 ((a0.length:Int) - 1) ≤ a1)) then (j12 true) else ((nthS a0 a1).bind fun x0_12=>j12 (!decide (x0_12 = 92)))))
theorem g64_ok (k:Nat) (a0:(List Nat)) (a1:Int) (r:(Int × Int)) (h:g64 k a0 a1 = some r):PureOk Try.prog 64 [.str a0,.i a1] (.tuple [.i r.1,.i r.2]):=by
 refine qA4 Xg64 (fun _=>⟨rfl,rfl⟩) Try.func64 (by decide +kernel) (by kernel_rfl) (t:=g64 k a0 a1) ?_ h
 unfold g64
 refine qA (eE:=[(0,.str a0),(1,.i a1)]) (by kernel_rfl) ?_
 let E1:Env:=[(20,.bool (decide (a1 < 0))),(19,.bool (decide (a1 < 0))),(18,.i a1),(5,.i 0),(4,.i 0),(0,.str a0),(1,.i a1)]
 refine oH 11 (atN 3 (ctl1 g64p1)) E1 (mkH []) ?_
 refine oJ g64p2 (fun (z12:Bool)=>[(0,.str a0),(1,.i a1),(32,.bool z12)]) (fun (z12:Bool)=>(mkH [])) (fun z12=>?_) (fun j12 hj12=>?_)
 ·refine oS 32 (fun hb=>?_) (fun hb=>?_)
  ·exact oQ 7
  ·let E3:Env:=[(35,.i (fW .i64 (a1 + 1))),(34,.i a1),(33,.str a0),(32,.bool false),(0,.str a0),(1,.i a1),(32,.bool z12)]
   refine oH 7 (atN 3 (ctl1 g64p4)) E3 (mkH []) ?_
   refine oC (fun (x1_3:Int)=>(.y x1_3,(mkH []))) (atN 4 (ctl1 g64p4)) 36 (idxH (by kernel_rfl)) fun x1_3 hx1_3=>?_
   refine oH 5 (atN 1 (ctl1 g64p6)) ((37,.slice 0 9 0 9 1) :: (6,.y x1_3) :: (36,.y x1_3) :: E3) (mkH [⟨[.i 8,.i 127,.i 27,.i 12,.i 10,.i 13,.i 32,.i 9,.i 11],0,false⟩]) ?_
   refine oZ 37 0 9 1 [.i 8,.i 127,.i 27,.i 12,.i 10,.i 13,.i 32,.i 9,.i 11] [0,1,6,32,33,34,35,36] [] trivial ?_
   refine oLH 10 g64p8 [(0,.str a0),(1,.i a1),(6,.y x1_3),(7,.str g64c1),(8,w3 g64c0),(9,.i 0)] (mkH [⟨[],0,false⟩]) ?_
   refine qAa [] [⟨[],0,false⟩] (by kernel_rfl) rfl (by kernel_rfl) trivial ?_
   exact (qLn k a0 a1 x1_3 k) 0
 ·refine oS 20 (fun hb=>?_) (fun hb=>?_)
  ·refine oLH 13 g64p2 [(0,.str a0),(1,.i a1),(32,.bool true)] (mkH []) ?_
   exact hj12 true
  ·let E75:Env:=((27,.bool (decide (fW .i64 ((a0.length:Int) - 1) ≤ a1))) :: (26,.bool (decide (fW .i64 ((a0.length:Int) - 1) ≤ a1))) :: (25,.bool (decide (fW .i64 ((a0.length:Int) - 1) ≤ a1))) :: (24,.i (fW .i64 ((a0.length:Int) - 1))) :: (23,.i (a0.length:Int)) :: (22,.str a0) :: (21,.i a1) :: (20,.bool false) :: E1)
   refine oH 7 (atN 10 (ctl1 g64p1)) E75 (mkH []) ?_
   refine oS 27 (fun hb=>?_) (fun hb=>?_)
   ·refine oL 6 g64p2 [(0,.str a0),(1,.i a1),(32,.bool true)] ?_
    exact hj12 true
   ·refine oR 2 (atN 12 (ctl1 g64p1)) ((29,.i a1) :: (28,.str a0) :: (27,.bool false) :: E75) ?_
    refine oC (fun (x0_12:Int)=>(.y x0_12,(mkH []))) (atN 13 (ctl1 g64p1)) 30 (idxH (by kernel_rfl)) fun x0_12 hx0_12=>?_
    refine oLH 3 g64p2 [(0,.str a0),(1,.i a1),(32,.bool (!decide (x0_12 = 92)))] (mkH []) ?_
    exact hj12 (!decide (x0_12 = 92))
def Xg43:Fx Int:=⟨Try.prog,cx,Try.f43,fun r => .i r,0,fun _=>H0,cxTi,cxOrd,fun _=>none,false⟩
def g43p1:Pt:=nav [0,0,0,0] (nav [0] (bodyAt Try.f43))
def g43p2:Pt:=nav [0,0] g43p1
def g43p3:Pt:=nav [1,0,0] g43p2
def g43p4:Pt:=nav [2,0,0] g43p2
def g43p5:Pt:=nav [0,0,0] g43p3
def g43p6:Pt:=nav [0,0,0,0] g43p4
def g43p8:Pt:=nav [0,0] g43p6
def g43 (k:Nat) (a0:(List Nat)) (a1:Int):Option Int :=
 jn (fun (z3:Bool)=>if z3 then ((g64 k a0 (fW .i64 (a1 + 1))).bind fun x1_3=>if (decide (0 ≤ x1_3.1)) then (some (fW .i64 (x1_3.2 + 1))) else (some (0:Int))) else ((g36 k a0 (fW .i64 (a1 + 1))).bind fun x2_3=>jn (fun (z4:Bool)=>if z4 then (some (0:Int)) else (some (fW .i64 (x2_3.2 + 1)))) (fun j4=>if (decide (x2_3.1 ≤ 32)) then (j4 true) else (j4 (decide (x2_3.1 = 127)))))) (fun j3=>if (decide (fW .i64 (a1 + 1) < (a0.length:Int))) then ((nthS a0 (fW .i64 (a1 + 1))).bind fun x0_9=>j3 (decide (x0_9 = 92))) else (j3 false))
theorem g43_ok (k:Nat) (a0:(List Nat)) (a1:Int) (r:Int) (h:g43 k a0 a1 = some r):PureOk Try.prog 43 [.str a0,.i a1] (.i r):=by
 refine qA4 Xg43 (fun _=>⟨rfl,rfl⟩) Try.func43 (by decide +kernel) (by kernel_rfl) (t:=g43 k a0 a1) ?_ h
 unfold g43
 refine qA (eE:=[(0,.str a0),(1,.i a1)]) (by kernel_rfl) ?_
 let E1:Env:=[(14,.bool (decide (fW .i64 (a1 + 1) < (a0.length:Int)))),(13,.bool (decide (fW .i64 (a1 + 1) < (a0.length:Int)))),(12,.i (a0.length:Int)),(11,.str a0),(10,.i (fW .i64 (a1 + 1))),(9,.i a1),(4,.i 0),(0,.str a0),(1,.i a1)]
 refine oH 13 (atN 6 (ctl1 g43p1)) E1 (mkH []) ?_
 refine oJ g43p2 (fun (z3:Bool)=>[(0,.str a0),(1,.i a1),(20,.bool z3)]) (fun (z3:Bool)=>(mkH [])) (fun z3=>?_) (fun j3 hj3=>?_)
 ·refine oS 20 (fun hb=>?_) (fun hb=>?_)
  ·refine oH 7 (atN 3 (ctl1 g43p3)) [(24,.i (fW .i64 (a1 + 1))),(23,.i a1),(22,.str a0),(20,.bool true),(0,.str a0),(1,.i a1),(20,.bool z3)] (mkH []) ?_
   refine oA (fun (x1_3:(Int × Int)) => .tuple [.i x1_3.1,.i x1_3.2]) (atN 4 (ctl1 g43p3)) 25 [.str a0,.i (fW .i64 (a1 + 1))] (g64_ok k a0 (fW .i64 (a1 + 1))) fun x1_3 hx1_3=>?_
   let E4:Env:=[(5,.i x1_3.1),(6,.i x1_3.2)]
   refine oL 7 g43p5 E4 ?_
   refine oR 4 (nav [0,0] g43p5) ((29,.bool (decide (0 ≤ x1_3.1))) :: (28,.i x1_3.1) :: E4) ?_
   refine oS 29 (fun hb=>?_) (fun hb=>?_)
   ·exact oQ 8
   ·exact oQ 7
  ·refine oH 7 (atN 3 (ctl1 g43p4)) [(35,.i (fW .i64 (a1 + 1))),(34,.i a1),(33,.str a0),(20,.bool false),(0,.str a0),(1,.i a1),(20,.bool z3)] (mkH []) ?_
   refine oA (fun (x2_3:(Int × Int)) => .tuple [.i x2_3.1,.i x2_3.2]) (atN 4 (ctl1 g43p4)) 36 [.str a0,.i (fW .i64 (a1 + 1))] (qL0 k a0 (fW .i64 (a1 + 1))) fun x2_3 hx2_3=>?_
   let E8:Env:=[(7,.i x2_3.1),(8,.i x2_3.2)]
   refine oL 8 g43p6 E8 ?_
   refine oR 4 (atN 3 (ctl1 g43p6)) ((41,.bool (decide (x2_3.1 ≤ 32))) :: (40,.bool (decide (x2_3.1 ≤ 32))) :: (39,.i x2_3.1) :: E8) ?_
   refine oJ g43p8 (fun (z4:Bool)=>[(8,.i x2_3.2),(44,.bool z4)]) (fun (z4:Bool)=>(mkH [])) (fun z4=>?_) (fun j4 hj4=>?_)
   ·refine oS 44 (fun hb=>?_) (fun hb=>?_)
    ·exact oQ 6
    ·exact oQ 9
   ·refine oS 41 (fun hb=>?_) (fun hb=>?_)
    ·refine oLH 4 g43p8 [(8,.i x2_3.2),(44,.bool true)] (mkH []) ?_
     exact hj4 true
    ·refine oLH 4 g43p8 [(8,.i x2_3.2),(44,.bool (decide (x2_3.1 = 127)))] (mkH []) ?_
     exact hj4 (decide (x2_3.1 = 127))
 ·refine oS 14 (fun hb=>?_) (fun hb=>?_)
  ·refine oH 3 (atN 9 (ctl1 g43p1)) ((17,.i (fW .i64 (a1 + 1))) :: (16,.i a1) :: (15,.str a0) :: (14,.bool true) :: E1) (mkH []) ?_
   refine oC (fun (x0_9:Int)=>(.y x0_9,(mkH []))) (atN 10 (ctl1 g43p1)) 18 (idxH (by kernel_rfl)) fun x0_9 hx0_9=>?_
   refine oLH 3 g43p2 [(0,.str a0),(1,.i a1),(20,.bool (decide (x0_9 = 92)))] (mkH []) ?_
   exact hj3 (decide (x0_9 = 92))
  ·refine oLH 7 g43p2 [(0,.str a0),(1,.i a1),(20,.bool false)] (mkH []) ?_
   exact hj3 false
def Xg26:Fx (S33 × Int):=⟨Try.prog,cx,Try.f26,fun r => .tuple [.agg [.i r.1.f0,.str r.1.f1,.i r.1.f2],.i r.2],0,fun _=>H0,cxTi,cxOrd,fun _=>none,false⟩
def g26p1:Pt:=nav [0,0,0,0] (nav [0] (bodyAt Try.f26))
def g26p2:Pt:=nav [0,0] g26p1
def g26p4:Pt:=nav [2,0,0] g26p2
def g26p8:Pt:=nav [0,0] (nav [0,0,0,0,0] (nav [0,0,0] g26p4))
def g26p10:Pt:=nav [2,0] g26p8
def g26p11:Pt:=nav [0,0,0,0,0] (nav [1,0] g26p8)
def g26p12:Pt:=nav [0,0] g26p10
def g26p13:Pt:=nav [0,0,0] g26p11
def g26p15:Pt:=nav [2,0] g26p12
def g26p16:Pt:=nav [0,0] g26p13
def g26p17:Pt:=nav [0,0,0,0] (nav [1] g26p12)
def g26p18:Pt:=nav [0,0] g26p15
def g26p20:Pt:=nav [2,0,0] g26p16
def g26p21:Pt:=nav [0,0] g26p17
def g26p22:Pt:=nav [1,0] g26p18
def g26p23:Pt:=nav [2,0] g26p18
def g26p25:Pt:=nav [2,0,0] g26p21
def g26p26:Pt:=nav [0,0] g26p23
def g26p27:Pt:=nav [1,0] g26p26
def g26p29:Pt:=nav [0,0,0] g26p27
def g26p30:Pt:=nav [0,0] (nav [2,0] g26p26)
def g26p32:Pt:=nav [1] g26p30
def g26p35:Pt:=nav [0,0] (nav [2,0] g26p30)
def g26p36:Pt:=nav [1] g26p35
def g26p38:Pt:=nav [0,0] (nav [2,0] g26p35)
def g26p39:Pt:=nav [1] g26p38
def g26p41:Pt:=nav [0,0] (nav [2,0] g26p38)
def g26p43:Pt:=nav [2] g26p41
def g26p44:Pt:=nav [0,0,0,0] (nav [1,0] g26p41)
def g26p45:Pt:=nav [0,0] g26p44
def g26p47:Pt:=nav [2,0,0] g26p45
def g26p48:Pt:=nav [0,0] g26p47
def g26p49:Pt:=nav [1] g26p48
def qG8 (k:Nat)  (a0:(List Nat)) (a1:Int) (ih:Int → Option (S33 × Int)):Int → Option (S33 × Int) :=
 fun (y18_0:Int)=>jn (fun (z24:Bool × Int)=>if z24.1 then (ih (fW .i64 (z24.2 + 1))) else ((subL a0 (some a1) (some z24.2)).bind fun x16_3=>(g37 k x16_3).bind fun x16_4=>some ((⟨(11:Int),x16_4,a1⟩:S33),(0:Int)))) (fun j24=>if (decide (y18_0 < (a0.length:Int))) then ((nthS a0 y18_0).bind fun x15_7=>j24 (!decide (x15_7 = 10),y18_0)) else (j24 (false,y18_0)))
def qG9 (k:Nat)  (a0:(List Nat)) (a1:Int) (n:Nat):Int → Option (S33 × Int):=lp (fun _=>none) (qG8 k a0 a1) n
theorem qLo (k:Nat)   (a0:(List Nat)) (a1:Int)  : ∀ (n:Nat) (y18_0:Int),Ok Xg26 g26p11 [(0,.str a0),(1,.i a1),(4,.ptr 0 3 0),(9,.i y18_0)] (mkH [⟨[.i 0,.str [],.i 0],0,false⟩]) (qG9 k a0 a1 n y18_0):=by
 intro n
 induction n with
 | zero=>intro y18_0; exact ok_none
 | succ n ih =>
  intro y18_0
  show Ok _ _ _ _ (qG8 k a0 a1 (qG9 k a0 a1 n) y18_0)
  unfold qG8
  refine qAf (p':=nav [0] g26p11) (by kernel_rfl) ?_
  let E6:Env:=[(34,.bool (decide (y18_0 < (a0.length:Int)))),(33,.bool (decide (y18_0 < (a0.length:Int)))),(32,.i (a0.length:Int)),(31,.str a0),(30,.i y18_0),(0,.str a0),(1,.i a1),(4,.ptr 0 3 0),(9,.i y18_0)]
  let Q1:Blk:=⟨[.i 0,.str [],.i 0],0,false⟩
  refine oH 8 (atN 5 (ctl1 g26p13)) E6 (mkH [Q1]) ?_
  refine oJ g26p16 (fun (z24:Bool × Int)=>[(0,.str a0),(1,.i a1),(4,.ptr 0 3 0),(9,.i z24.2),(39,.bool z24.1)]) (fun (z24:Bool × Int)=>(mkH [Q1])) (fun z24=>?_) (fun j24 hj24=>?_)
  ·refine oS 39 (fun hb=>?_) (fun hb=>?_)
   ·refine oLH 8 g26p11 [(0,.str a0),(1,.i a1),(4,.ptr 0 3 0),(9,.i (fW .i64 (z24.2 + 1)))] (mkH [Q1]) ?_
    exact ih (fW .i64 (z24.2 + 1))
   ·refine oH 7 (atN 3 (ctl1 g26p20)) [(44,.i z24.2),(43,.i a1),(42,.str a0),(39,.bool false),(0,.str a0),(1,.i a1),(4,.ptr 0 3 0),(9,.i z24.2),(39,.bool z24.1)] (mkH [Q1]) ?_
    refine oC (fun (x16_3:(List Nat))=>(.str x16_3,(mkH [Q1]))) (atN 4 (ctl1 g26p20)) 45 (subH (some a1) (some z24.2) (by kernel_rfl)) fun x16_3 hx16_3=>?_
    refine oA (fun (x16_4:(List Nat)) => .str x16_4) (atN 5 (ctl1 g26p20)) 46 [.str x16_3] (g37_ok k x16_3) fun x16_4 hx16_4=>?_
    exact oQ 6
  ·refine oS 34 (fun hb=>?_) (fun hb=>?_)
   ·refine oH 2 (atN 7 (ctl1 g26p13)) ((36,.i y18_0) :: (35,.str a0) :: (34,.bool true) :: E6) (mkH [Q1]) ?_
    refine oC (fun (x15_7:Int)=>(.y x15_7,(mkH [Q1]))) (atN 8 (ctl1 g26p13)) 37 (idxH (by kernel_rfl)) fun x15_7 hx15_7=>?_
    refine oLH 3 g26p16 [(0,.str a0),(1,.i a1),(4,.ptr 0 3 0),(9,.i y18_0),(39,.bool (!decide (x15_7 = 10)))] (mkH [Q1]) ?_
    exact hj24 (!decide (x15_7 = 10),y18_0)
   ·refine oLH 6 g26p16 [(0,.str a0),(1,.i a1),(4,.ptr 0 3 0),(9,.i y18_0),(39,.bool false)] (mkH [Q1]) ?_
    exact hj24 (false,y18_0)
def g26 (k:Nat) (a0:(List Nat)) (a1:Int):Option (S33 × Int) :=
 jn (fun (z17:Bool)=>if z17 then (some ((⟨(0:Int),([]:List Nat),(0:Int)⟩:S33),(4:Int))) else ((nthS a0 a1).bind fun x0_2=>if (decide (x0_2 = 37)) then (qG9 k a0 a1 k a1) else (jn (fun (z19:Bool)=>jn (fun (z20:Int × Int)=>if (decide (z20.2 = 0)) then (some ((⟨(0:Int),([]:List Nat),(0:Int)⟩:S33),(4:Int))) else ((subL a0 (some a1) (some (fW .i64 (a1 + z20.2)))).bind fun x14_6=>some ((⟨z20.1,x14_6,a1⟩:S33),(0:Int)))) (fun j20=>if z19 then (j20 (10,1)) else ((g38 k x0_2).bind fun x2_1=>if (decide (x2_1 = 3)) then ((g39 k a0 a1).bind fun x3_2=>some (x3_2.1,x3_2.2)) else ((g38 k x0_2).bind fun x4_1=>if (decide (0 < x4_1)) then ((g38 k x0_2).bind fun x5_1=>(g40 k a0 a1).bind fun x5_4=>(subL a0 (some a1) (some (fW .i64 (a1 + fW .i64 (x5_4 - a1))))).bind fun x6_5=>(g41 k x6_5).bind fun x6_6=>if x6_6 then (j20 (8,fW .i64 (x5_4 - a1))) else (j20 (x5_1,fW .i64 (x5_4 - a1)))) else (if (decide (x0_2 = 39)) then ((g42 k a0 a1).bind fun x7_2=>j20 (1,x7_2)) else (if (decide (x0_2 = 34)) then ((g42 k a0 a1).bind fun x8_2=>j20 (6,x8_2)) else (if (decide (x0_2 = 36)) then ((g43 k a0 a1).bind fun x9_2=>j20 (5,x9_2)) else (if (decide (x0_2 = 63)) then (jn (fun (z21:Bool)=>jn (fun (z22:Int)=>jn (fun (z23:Bool)=>if z23 then ((g40 k a0 z22).bind fun x13_2=>j20 (7,fW .i64 (x13_2 - a1))) else (j20 (0,0))) (fun j23=>if (decide (z22 < (a0.length:Int))) then ((nthS a0 z22).bind fun x12_7=>(g44 k x12_7).bind fun x12_8=>if x12_8 then (j23 true) else ((nthS a0 z22).bind fun x12_12=>j23 (decide (x12_12 = 95)))) else (j23 false))) (fun j22=>if z21 then (j22 (fW .i64 (fW .i64 (a1 + 1) + 1))) else (j22 (fW .i64 (a1 + 1))))) (fun j21=>if (decide (fW .i64 (a1 + 1) < (a0.length:Int))) then ((nthS a0 (fW .i64 (a1 + 1))).bind fun x10_7=>j21 (decide (x10_7 = 63))) else (j21 false))) else ((g45 k a0 a1).bind fun x11_2=>j20 (9,x11_2)))))))))) (fun j19=>if (decide (x0_2 = 46)) then (if (decide (fW .i64 (a1 + 1) = (a0.length:Int))) then (j19 true) else ((nthS a0 (fW .i64 (a1 + 1))).bind fun x1_12=>if (decide (x1_12 = 37)) then (j19 true) else ((g25 k a0 (fW .i64 (a1 + 1))).bind fun x1_19=>j19 (decide (fW .i64 (a1 + 1) < x1_19))))) else (j19 false))))) (fun j17=>if (decide (a1 < 0)) then (j17 true) else (j17 (decide ((a0.length:Int) ≤ a1))))
theorem g26_ok (k:Nat) (a0:(List Nat)) (a1:Int) (r:(S33 × Int)) (h:g26 k a0 a1 = some r):PureOk Try.prog 26 [.str a0,.i a1] (.tuple [.agg [.i r.1.f0,.str r.1.f1,.i r.1.f2],.i r.2]):=by
 refine qA4 Xg26 (fun _=>⟨rfl,rfl⟩) Try.func26 (by decide +kernel) (by kernel_rfl) (t:=g26 k a0 a1) ?_ h
 unfold g26
 refine qA (eE:=[(0,.str a0),(1,.i a1)]) (by kernel_rfl) ?_
 let Q1:Blk:=⟨[.i 0,.str [],.i 0],0,false⟩
 refine oH 11 (atN 3 (ctl1 g26p1)) [(13,.bool (decide (a1 < 0))),(12,.bool (decide (a1 < 0))),(11,.i a1),(5,.i 0),(4,.ptr 0 3 0),(0,.str a0),(1,.i a1)] (mkH [Q1]) ?_
 refine oJ g26p2 (fun (z17:Bool)=>[(0,.str a0),(1,.i a1),(4,.ptr 0 3 0),(18,.bool z17)]) (fun (z17:Bool)=>(mkH [Q1])) (fun z17=>?_) (fun j17 hj17=>?_)
 ·refine oS 18 (fun hb=>?_) (fun hb=>?_)
  ·exact oQ 8
  ·refine oH 6 (atN 2 (ctl1 g26p4)) [(21,.i a1),(20,.str a0),(18,.bool false),(0,.str a0),(1,.i a1),(4,.ptr 0 3 0),(18,.bool z17)] (mkH [Q1]) ?_
   refine oC (fun (x0_2:Int)=>(.y x0_2,(mkH [Q1]))) (atN 3 (ctl1 g26p4)) 22 (idxH (by kernel_rfl)) fun x0_2 hx0_2=>?_
   let E5:Env:=[(0,.str a0),(1,.i a1),(4,.ptr 0 3 0),(6,.y x0_2),(7,.i 0),(8,.i 0),(26,.bool (decide (x0_2 = 37)))]
   refine oLH 15 g26p8 E5 (mkH [Q1]) ?_
   refine oS 26 (fun hb=>?_) (fun hb=>?_)
   ·refine oL 9 g26p11 [(0,.str a0),(1,.i a1),(4,.ptr 0 3 0),(9,.i a1)] ?_
    exact (qLo k a0 a1 k) a1
   ·refine oR 6 (atN 3 (ctl1 g26p10)) ((52,.bool (decide (x0_2 = 46))) :: (51,.bool (decide (x0_2 = 46))) :: (50,.y x0_2) :: (26,.bool false) :: E5) ?_
    refine oJ g26p12 (fun (z19:Bool)=>[(0,.str a0),(1,.i a1),(4,.ptr 0 3 0),(6,.y x0_2),(7,.i 0),(8,.i 0),(49,.bool z19)]) (fun (z19:Bool)=>(mkH [Q1])) (fun z19=>?_) (fun j19 hj19=>?_)
    ·refine oJ g26p17 (fun (z20:Int × Int)=>[(0,.str a0),(1,.i a1),(4,.ptr 0 3 0),(7,.i z20.1),(8,.i z20.2)]) (fun (z20:Int × Int)=>(mkH [Q1])) (fun z20=>?_) (fun j20 hj20=>?_)
     ·let E16:Env:=[(159,.bool (decide (z20.2 = 0))),(158,.i z20.2),(0,.str a0),(1,.i a1),(4,.ptr 0 3 0),(7,.i z20.1),(8,.i z20.2)]
      refine oH 4 g26p21 E16 (mkH [Q1]) ?_
      refine oS 159 (fun hb=>?_) (fun hb=>?_)
      ·exact oQ 8
      ·refine oR 10 (atN 6 (ctl1 g26p25)) ((166,.i (fW .i64 (a1 + z20.2))) :: (165,.i z20.2) :: (164,.i a1) :: (163,.i a1) :: (162,.str a0) :: (161,.i z20.1) :: (159,.bool false) :: E16) ?_
       refine oC (fun (x14_6:(List Nat))=>(.str x14_6,(mkH [Q1]))) (atN 7 (ctl1 g26p25)) 167 (subH (some a1) (some (fW .i64 (a1 + z20.2))) (by kernel_rfl)) fun x14_6 hx14_6=>?_
       exact oQ 6
     ·refine oS 49 (fun hb=>?_) (fun hb=>?_)
      ·refine oLH 7 g26p17 [(0,.str a0),(1,.i a1),(4,.ptr 0 3 0),(7,.i 10),(8,.i 1)] (mkH [Q1]) ?_
       exact hj20 (10,1)
      ·let E20:Env:=[(76,.y x0_2),(49,.bool false),(0,.str a0),(1,.i a1),(4,.ptr 0 3 0),(6,.y x0_2),(7,.i 0),(8,.i 0),(49,.bool z19)]
       refine oH 4 (atN 1 (ctl1 g26p15)) E20 (mkH [Q1]) ?_
       refine oA (fun (x2_1:Int) => .i x2_1) (atN 2 (ctl1 g26p15)) 77 [.y x0_2] (qOt k x0_2) fun x2_1 hx2_1=>?_
       refine oR 3 g26p18 ((75,.bool (decide (x2_1 = 3))) :: (78,.bool (decide (x2_1 = 3))) :: (77,.i x2_1) :: E20) ?_
       refine oS 75 (fun hb=>?_) (fun hb=>?_)
       ·refine oR 5 (atN 2 (ctl1 g26p22)) ((80,.i a1) :: (79,.str a0) :: (75,.bool true) :: (75,.bool (decide (x2_1 = 3))) :: (78,.bool (decide (x2_1 = 3))) :: (77,.i x2_1) :: E20) ?_
        refine oA (fun (x3_2:(S33 × Int)) => .tuple [n34 x3_2.1,.i x3_2.2]) (atN 3 (ctl1 g26p22)) 81 [.str a0,.i a1] (g39_ok k a0 a1) fun x3_2 hx3_2=>?_
        exact oQ 6
       ·refine oR 4 (atN 1 (ctl1 g26p23)) ((85,.y x0_2) :: (75,.bool false) :: (75,.bool (decide (x2_1 = 3))) :: (78,.bool (decide (x2_1 = 3))) :: (77,.i x2_1) :: E20) ?_
        refine oA (fun (x4_1:Int) => .i x4_1) (atN 2 (ctl1 g26p23)) 86 [.y x0_2] (qOt k x0_2) fun x4_1 hx4_1=>?_
        let E23:Env:=[(0,.str a0),(1,.i a1),(4,.ptr 0 3 0),(6,.y x0_2),(7,.i 0),(8,.i 0),(84,.bool (decide (0 < x4_1)))]
        refine oL 3 g26p26 E23 ?_
        refine oS 84 (fun hb=>?_) (fun hb=>?_)
        ·refine oR 4 (atN 1 (ctl1 g26p27)) ((88,.y x0_2) :: (84,.bool true) :: E23) ?_
         refine oA (fun (x5_1:Int) => .i x5_1) (atN 2 (ctl1 g26p27)) 89 [.y x0_2] (qOt k x0_2) fun x5_1 hx5_1=>?_
         refine oR 2 (atN 4 (ctl1 g26p27)) ((91,.i a1) :: (90,.str a0) :: (89,.i x5_1) :: (88,.y x0_2) :: (84,.bool true) :: E23) ?_
         refine oA (fun (x5_4:Int) => .i x5_4) (atN 5 (ctl1 g26p27)) 92 [.str a0,.i a1] (g40_ok k a0 a1) fun x5_4 hx5_4=>?_
         let E26:Env:=[(0,.str a0),(1,.i a1),(4,.ptr 0 3 0),(7,.i x5_1),(8,.i (fW .i64 (x5_4 - a1)))]
         refine oL 6 g26p29 E26 ?_
         let E27:Env:=((99,.i (fW .i64 (a1 + fW .i64 (x5_4 - a1)))) :: (98,.i (fW .i64 (x5_4 - a1))) :: (97,.i a1) :: (96,.i a1) :: (95,.str a0) :: E26)
         refine oR 6 (atN 5 (ctl1 g26p29)) E27 ?_
         refine oC (fun (x6_5:(List Nat))=>(.str x6_5,(mkH [Q1]))) (atN 6 (ctl1 g26p29)) 100 (subH (some a1) (some (fW .i64 (a1 + fW .i64 (x5_4 - a1)))) (by kernel_rfl)) fun x6_5 hx6_5=>?_
         refine oA (fun (x6_6:Bool) => .bool x6_6) (atN 7 (ctl1 g26p29)) 101 [.str x6_5] (g41_ok k x6_5) fun x6_6 hx6_6=>?_
         refine oH 1 (nav [0,0] g26p29) ((101,.bool x6_6) :: (100,.str x6_5) :: E27) (mkH [Q1]) ?_
         refine oS 101 (fun hb=>?_) (fun hb=>?_)
         ·refine oL 6 g26p17 [(0,.str a0),(1,.i a1),(4,.ptr 0 3 0),(7,.i 8),(8,.i (fW .i64 (x5_4 - a1)))] ?_
          exact hj20 (8,fW .i64 (x5_4 - a1))
         ·refine oR 4 g26p17 ((101,.bool false) :: (101,.bool x6_6) :: (100,.str x6_5) :: E27) ?_
          refine oK [0,1,4,7,8] [(0,.str a0),(1,.i a1),(4,.ptr 0 3 0),(7,.i x5_1),(8,.i (fW .i64 (x5_4 - a1)))] ?_
          exact hj20 (x5_1,fW .i64 (x5_4 - a1))
        ·refine oR 7 g26p30 ((102,.bool (decide (x0_2 = 39))) :: (104,.bool (decide (x0_2 = 39))) :: (103,.y x0_2) :: (84,.bool false) :: E23) ?_
         refine oS 102 (fun hb=>?_) (fun hb=>?_)
         ·refine oR 4 (atN 2 (ctl1 g26p32)) ((106,.i a1) :: (105,.str a0) :: (102,.bool true) :: (102,.bool (decide (x0_2 = 39))) :: (104,.bool (decide (x0_2 = 39))) :: (103,.y x0_2) :: (84,.bool false) :: E23) ?_
          refine oA (fun (x7_2:Int) => .i x7_2) (atN 3 (ctl1 g26p32)) 107 [.str a0,.i a1] (g42_ok k a0 a1) fun x7_2 hx7_2=>?_
          refine oL 5 g26p17 [(0,.str a0),(1,.i a1),(4,.ptr 0 3 0),(7,.i 1),(8,.i x7_2)] ?_
          exact hj20 (1,x7_2)
         ·let E33:Env:=[(0,.str a0),(1,.i a1),(4,.ptr 0 3 0),(6,.y x0_2),(7,.i 0),(8,.i 0),(108,.bool (decide (x0_2 = 34)))]
          refine oL 7 g26p35 E33 ?_
          refine oS 108 (fun hb=>?_) (fun hb=>?_)
          ·refine oR 4 (atN 2 (ctl1 g26p36)) ((112,.i a1) :: (111,.str a0) :: (108,.bool true) :: E33) ?_
           refine oA (fun (x8_2:Int) => .i x8_2) (atN 3 (ctl1 g26p36)) 113 [.str a0,.i a1] (g42_ok k a0 a1) fun x8_2 hx8_2=>?_
           refine oL 5 g26p17 [(0,.str a0),(1,.i a1),(4,.ptr 0 3 0),(7,.i 6),(8,.i x8_2)] ?_
           exact hj20 (6,x8_2)
          ·refine oR 7 g26p38 ((114,.bool (decide (x0_2 = 36))) :: (116,.bool (decide (x0_2 = 36))) :: (115,.y x0_2) :: (108,.bool false) :: E33) ?_
           refine oS 114 (fun hb=>?_) (fun hb=>?_)
           ·refine oR 4 (atN 2 (ctl1 g26p39)) ((118,.i a1) :: (117,.str a0) :: (114,.bool true) :: (114,.bool (decide (x0_2 = 36))) :: (116,.bool (decide (x0_2 = 36))) :: (115,.y x0_2) :: (108,.bool false) :: E33) ?_
            refine oA (fun (x9_2:Int) => .i x9_2) (atN 3 (ctl1 g26p39)) 119 [.str a0,.i a1] (g43_ok k a0 a1) fun x9_2 hx9_2=>?_
            refine oL 5 g26p17 [(0,.str a0),(1,.i a1),(4,.ptr 0 3 0),(7,.i 5),(8,.i x9_2)] ?_
            exact hj20 (5,x9_2)
           ·let E39:Env:=[(0,.str a0),(1,.i a1),(4,.ptr 0 3 0),(7,.i 0),(8,.i 0),(120,.bool (decide (x0_2 = 63)))]
            refine oL 7 g26p41 E39 ?_
            refine oS 120 (fun hb=>?_) (fun hb=>?_)
            ·let E40:Env:=((129,.bool (decide (fW .i64 (a1 + 1) < (a0.length:Int)))) :: (128,.bool (decide (fW .i64 (a1 + 1) < (a0.length:Int)))) :: (127,.i (a0.length:Int)) :: (126,.str a0) :: (125,.i (fW .i64 (a1 + 1))) :: (10,.i (fW .i64 (a1 + 1))) :: (124,.i (fW .i64 (a1 + 1))) :: (123,.i a1) :: (120,.bool true) :: E39)
             refine oR 15 (atN 5 (ctl1 g26p44)) E40 ?_
             refine oJ g26p45 (fun (z21:Bool)=>[(0,.str a0),(1,.i a1),(4,.ptr 0 3 0),(7,.i 0),(8,.i 0),(10,.i (fW .i64 (a1 + 1))),(134,.bool z21)]) (fun (z21:Bool)=>(mkH [Q1])) (fun z21=>?_) (fun j21 hj21=>?_)
             ·refine oJ g26p47 (fun (z22:Int)=>[(0,.str a0),(1,.i a1),(4,.ptr 0 3 0),(7,.i 0),(8,.i 0),(10,.i z22)]) (fun (z22:Int)=>(mkH [Q1])) (fun z22=>?_) (fun j22 hj22=>?_)
              ·let E41:Env:=[(141,.bool (decide (z22 < (a0.length:Int)))),(140,.bool (decide (z22 < (a0.length:Int)))),(139,.i (a0.length:Int)),(138,.str a0),(137,.i z22),(0,.str a0),(1,.i a1),(4,.ptr 0 3 0),(7,.i 0),(8,.i 0),(10,.i z22)]
               refine oH 6 (atN 5 (ctl1 g26p47)) E41 (mkH [Q1]) ?_
               refine oJ g26p48 (fun (z23:Bool)=>[(0,.str a0),(1,.i a1),(4,.ptr 0 3 0),(7,.i 0),(8,.i 0),(10,.i z22),(152,.bool z23)]) (fun (z23:Bool)=>(mkH [Q1])) (fun z23=>?_) (fun j23 hj23=>?_)
               ·refine oS 152 (fun hb=>?_) (fun hb=>?_)
                ·refine oH 4 (atN 2 (ctl1 g26p49)) [(154,.i z22),(153,.str a0),(152,.bool true),(0,.str a0),(1,.i a1),(4,.ptr 0 3 0),(7,.i 0),(8,.i 0),(10,.i z22),(152,.bool z23)] (mkH [Q1]) ?_
                 refine oA (fun (x13_2:Int) => .i x13_2) (atN 3 (ctl1 g26p49)) 155 [.str a0,.i z22] (g40_ok k a0 z22) fun x13_2 hx13_2=>?_
                 refine oL 7 g26p17 [(0,.str a0),(1,.i a1),(4,.ptr 0 3 0),(7,.i 7),(8,.i (fW .i64 (x13_2 - a1)))] ?_
                 exact hj20 (7,fW .i64 (x13_2 - a1))
                ·refine oLH 4 g26p17 [(0,.str a0),(1,.i a1),(4,.ptr 0 3 0),(7,.i 0),(8,.i 0)] (mkH [Q1]) ?_
                 exact hj20 (0,0)
               ·refine oS 141 (fun hb=>?_) (fun hb=>?_)
                ·refine oH 2 (atN 7 (ctl1 g26p47)) ((143,.i z22) :: (142,.str a0) :: (141,.bool true) :: E41) (mkH [Q1]) ?_
                 refine oC (fun (x12_7:Int)=>(.y x12_7,(mkH [Q1]))) (atN 8 (ctl1 g26p47)) 144 (idxH (by kernel_rfl)) fun x12_7 hx12_7=>?_
                 refine oA (fun (x12_8:Bool) => .bool x12_8) (atN 9 (ctl1 g26p47)) 145 [.y x12_7] (g44_ok k x12_7) fun x12_8 hx12_8=>?_
                 let E47:Env:=((146,.bool x12_8) :: (145,.bool x12_8) :: (144,.y x12_7) :: (143,.i z22) :: (142,.str a0) :: (141,.bool true) :: E41)
                 refine oH 1 (atN 10 (ctl1 g26p47)) E47 (mkH [Q1]) ?_
                 refine oS 146 (fun hb=>?_) (fun hb=>?_)
                 ·refine oL 7 g26p48 [(0,.str a0),(1,.i a1),(4,.ptr 0 3 0),(7,.i 0),(8,.i 0),(10,.i z22),(152,.bool true)] ?_
                  exact hj23 true
                 ·refine oR 2 (atN 12 (ctl1 g26p47)) ((148,.i z22) :: (147,.str a0) :: (146,.bool false) :: E47) ?_
                  refine oC (fun (x12_12:Int)=>(.y x12_12,(mkH [Q1]))) (atN 13 (ctl1 g26p47)) 149 (idxH (by kernel_rfl)) fun x12_12 hx12_12=>?_
                  refine oLH 4 g26p48 [(0,.str a0),(1,.i a1),(4,.ptr 0 3 0),(7,.i 0),(8,.i 0),(10,.i z22),(152,.bool (decide (x12_12 = 95)))] (mkH [Q1]) ?_
                  exact hj23 (decide (x12_12 = 95))
                ·refine oLH 12 g26p48 [(0,.str a0),(1,.i a1),(4,.ptr 0 3 0),(7,.i 0),(8,.i 0),(10,.i z22),(152,.bool false)] (mkH [Q1]) ?_
                 exact hj23 false
              ·refine oS 134 (fun hb=>?_) (fun hb=>?_)
               ·refine oLH 7 g26p47 [(0,.str a0),(1,.i a1),(4,.ptr 0 3 0),(7,.i 0),(8,.i 0),(10,.i (fW .i64 (fW .i64 (a1 + 1) + 1)))] (mkH [Q1]) ?_
                exact hj22 (fW .i64 (fW .i64 (a1 + 1) + 1))
               ·refine oLH 3 g26p47 [(0,.str a0),(1,.i a1),(4,.ptr 0 3 0),(7,.i 0),(8,.i 0),(10,.i (fW .i64 (a1 + 1)))] (mkH [Q1]) ?_
                exact hj22 (fW .i64 (a1 + 1))
             ·refine oS 129 (fun hb=>?_) (fun hb=>?_)
              ·refine oH 2 (atN 7 (ctl1 g26p44)) ((131,.i (fW .i64 (a1 + 1))) :: (130,.str a0) :: (129,.bool true) :: E40) (mkH [Q1]) ?_
               refine oC (fun (x10_7:Int)=>(.y x10_7,(mkH [Q1]))) (atN 8 (ctl1 g26p44)) 132 (idxH (by kernel_rfl)) fun x10_7 hx10_7=>?_
               refine oLH 3 g26p45 [(0,.str a0),(1,.i a1),(4,.ptr 0 3 0),(7,.i 0),(8,.i 0),(10,.i (fW .i64 (a1 + 1))),(134,.bool (decide (x10_7 = 63)))] (mkH [Q1]) ?_
               exact hj21 (decide (x10_7 = 63))
              ·refine oLH 6 g26p45 [(0,.str a0),(1,.i a1),(4,.ptr 0 3 0),(7,.i 0),(8,.i 0),(10,.i (fW .i64 (a1 + 1))),(134,.bool false)] (mkH [Q1]) ?_
               exact hj21 false
            ·refine oR 4 (atN 2 (ctl1 g26p43)) ((24,.i a1) :: (23,.str a0) :: (120,.bool false) :: E39) ?_
             refine oA (fun (x11_2:Int) => .i x11_2) (atN 3 (ctl1 g26p43)) 25 [.str a0,.i a1] (g45_ok k a0 a1) fun x11_2 hx11_2=>?_
             refine oL 5 g26p17 [(0,.str a0),(1,.i a1),(4,.ptr 0 3 0),(7,.i 9),(8,.i x11_2)] ?_
             exact hj20 (9,x11_2)
    ·refine oS 52 (fun hb=>?_) (fun hb=>?_)
     ·let E64:Env:=((58,.bool (decide (fW .i64 (a1 + 1) = (a0.length:Int)))) :: (57,.bool (decide (fW .i64 (a1 + 1) = (a0.length:Int)))) :: (56,.i (a0.length:Int)) :: (55,.str a0) :: (54,.i (fW .i64 (a1 + 1))) :: (53,.i a1) :: (52,.bool true) :: (52,.bool (decide (x0_2 = 46))) :: (51,.bool (decide (x0_2 = 46))) :: (50,.y x0_2) :: (26,.bool false) :: E5)
      refine oH 6 (atN 9 (ctl1 g26p10)) E64 (mkH [Q1]) ?_
      refine oS 58 (fun hb=>?_) (fun hb=>?_)
      ·refine oL 18 g26p12 [(0,.str a0),(1,.i a1),(4,.ptr 0 3 0),(6,.y x0_2),(7,.i 0),(8,.i 0),(49,.bool true)] ?_
       exact hj19 true
      ·refine oR 3 (atN 12 (ctl1 g26p10)) ((61,.i (fW .i64 (a1 + 1))) :: (60,.i a1) :: (59,.str a0) :: (58,.bool false) :: E64) ?_
       refine oC (fun (x1_12:Int)=>(.y x1_12,(mkH [Q1]))) (atN 13 (ctl1 g26p10)) 62 (idxH (by kernel_rfl)) fun x1_12 hx1_12=>?_
       let E67:Env:=((65,.bool (decide (x1_12 = 37))) :: (64,.bool (decide (x1_12 = 37))) :: (63,.bool (decide (x1_12 = 37))) :: (62,.y x1_12) :: (61,.i (fW .i64 (a1 + 1))) :: (60,.i a1) :: (59,.str a0) :: (58,.bool false) :: E64)
       refine oH 3 (atN 16 (ctl1 g26p10)) E67 (mkH [Q1]) ?_
       refine oS 65 (fun hb=>?_) (fun hb=>?_)
       ·refine oL 11 g26p12 [(0,.str a0),(1,.i a1),(4,.ptr 0 3 0),(6,.y x0_2),(7,.i 0),(8,.i 0),(49,.bool true)] ?_
        exact hj19 true
       ·refine oR 3 (atN 19 (ctl1 g26p10)) ((68,.i (fW .i64 (a1 + 1))) :: (67,.i a1) :: (66,.str a0) :: (65,.bool false) :: E67) ?_
        refine oA (fun (x1_19:Int) => .i x1_19) (atN 20 (ctl1 g26p10)) 69 [.str a0,.i (fW .i64 (a1 + 1))] (qP k a0 (fW .i64 (a1 + 1))) fun x1_19 hx1_19=>?_
        refine oL 7 g26p12 [(0,.str a0),(1,.i a1),(4,.ptr 0 3 0),(6,.y x0_2),(7,.i 0),(8,.i 0),(49,.bool (decide (fW .i64 (a1 + 1) < x1_19)))] ?_
        exact hj19 (decide (fW .i64 (a1 + 1) < x1_19))
     ·refine oLH 24 g26p12 [(0,.str a0),(1,.i a1),(4,.ptr 0 3 0),(6,.y x0_2),(7,.i 0),(8,.i 0),(49,.bool false)] (mkH [Q1]) ?_
      exact hj19 false
 ·refine oS 13 (fun hb=>?_) (fun hb=>?_)
  ·refine oLH 6 g26p2 [(0,.str a0),(1,.i a1),(4,.ptr 0 3 0),(18,.bool true)] (mkH [Q1]) ?_
   exact hj17 true
  ·refine oLH 6 g26p2 [(0,.str a0),(1,.i a1),(4,.ptr 0 3 0),(18,.bool (decide ((a0.length:Int) ≤ a1)))] (mkH [Q1]) ?_
   exact hj17 (decide ((a0.length:Int) ≤ a1))
def Xg13:Fx ((List S33) × Int):=⟨Try.prog,cx,Try.f13,fun r => .tuple [w34 r.1,.i r.2],0,fun _=>H0,cxTi,cxOrd,fun _=>none,false⟩
def g13p2:Pt:=nav [0,0] (nav [0,0,0,0] (nav [0] (bodyAt Try.f13)))
def g13p4:Pt:=nav [2,0,0,0] g13p2
def g13p6:Pt:=nav [0,0] g13p4
def g13p8:Pt:=nav [2,0,0] g13p6
def g13p9:Pt:=nav [0,0,0,0] g13p8
def g13p10:Pt:=nav [0,0,0,0] g13p9
def g13p12:Pt:=nav [0,0] (nav [0,0,0] g13p10)
def g13p13:Pt:=nav [1,0,0,0] g13p12
def g13p15:Pt:=nav [0,0,0,0] g13p13
def g13p16:Pt:=nav [0,0] g13p15
def g13p18:Pt:=nav [2,0,0] g13p16
def g13p19:Pt:=nav [0,0] g13p18
def qIs (k:Nat)  (a0:(List Nat)) (ih:Int → (List S33) → Option ((List S33) × Int)):Int → (List S33) → Option ((List S33) × Int) :=
 fun (y5_0:Int) (y5_1:(List S33))=>if (decide (y5_0 < (a0.length:Int))) then ((g26 k a0 y5_0).bind fun x2_2=>if (!decide (x2_2.2 = 0)) then (some (([]:List S33),x2_2.2)) else ((appS 32 y5_1 ([x2_2.1]:List S33)).bind fun x3_3=>(g25 k a0 (fW .i64 (y5_0 + (x2_2.1.f1.length:Int)))).bind fun x4_6=>ih x4_6 x3_3)) else (some (y5_1,(0:Int)))
def qFf (k:Nat)  (a0:(List Nat)) (n:Nat):Int → (List S33) → Option ((List S33) × Int):=lp (fun _ _=>none) (qIs k a0) n
theorem qGa (k:Nat)  (a0:(List Nat)) (n:Nat) (y5_0:Int) (y5_1:(List S33)):qFf k a0 (n + 1) y5_0 y5_1 = (if (decide (y5_0 < (a0.length:Int))) then ((g26 k a0 y5_0).bind fun x2_2=>if (!decide (x2_2.2 = 0)) then (some (([]:List S33),x2_2.2)) else ((appS 32 y5_1 ([x2_2.1]:List S33)).bind fun x3_3=>(g25 k a0 (fW .i64 (y5_0 + (x2_2.1.f1.length:Int)))).bind fun x4_6=>(qFf k a0 n) x4_6 x3_3)) else (some (y5_1,(0:Int)))):=rfl
theorem qP3 (k:Nat)   (a0:(List Nat))  : ∀ (n:Nat) (y5_0:Int) (y5_1:(List S33)),Ok Xg13 g13p10 [(0,.str a0),(4,.own 0 (y5_1).length 3),(5,.i y5_0)] (mkH [⟨(y5_1).flatMap e34,0,false⟩]) (qFf k a0 n y5_0 y5_1):=by
 intro n
 induction n with
 | zero=>intro y5_0 y5_1; exact ok_none
 | succ n ih =>
  intro y5_0 y5_1
  show Ok _ _ _ _ (qIs k a0 (qFf k a0 n) y5_0 y5_1)
  unfold qIs
  refine qAf (p':=nav [0] g13p10) (by kernel_rfl) ?_
  let E4:Env:=[(19,.bool (decide (y5_0 < (a0.length:Int)))),(18,.i (a0.length:Int)),(17,.str a0),(16,.i y5_0),(0,.str a0),(4,.own 0 (y5_1).length 3),(5,.i y5_0)]
  let Q1:Blk:=⟨(y5_1).flatMap e34,0,false⟩
  refine oH 8 g13p12 E4 (mkH [Q1]) ?_
  refine oS 19 (fun hb=>?_) (fun hb=>?_)
  ·refine oR 7 (atN 2 (ctl1 g13p13)) ((22,.i y5_0) :: (21,.str a0) :: (19,.bool true) :: E4) ?_
   refine oA (fun (x2_2:(S33 × Int)) => .tuple [n34 x2_2.1,.i x2_2.2]) (atN 3 (ctl1 g13p13)) 23 [.str a0,.i y5_0] (g26_ok k a0 y5_0) fun x2_2 hx2_2=>?_
   let E6:Env:=[(0,.str a0),(4,.own 0 (y5_1).length 3),(5,.i y5_0),(6,.ptr 1 3 0),(7,.i x2_2.2)]
   refine oLH 9 g13p15 E6 (mkH [Q1,⟨e34 x2_2.1,3,false⟩]) ?_
   refine oR 4 g13p16 ((27,.bool (!decide (x2_2.2 = 0))) :: (26,.i x2_2.2) :: E6) ?_
   refine oS 27 (fun hb=>?_) (fun hb=>?_)
   ·refine oR 8 .fin ((3,.i x2_2.2) :: (2,.nils) :: (28,.i x2_2.2) :: (27,.bool true) :: (27,.bool (!decide (x2_2.2 = 0))) :: (26,.i x2_2.2) :: E6) ?_
    exact oT [.nils,.i x2_2.2] (.tuple [.vec 0 3 [],.i x2_2.2]) (.tuple (.nil .ps) .ps)
   ·let K1:List Blk:=[Q1,⟨e34 x2_2.1,3,false⟩,⟨e34 x2_2.1,0,false⟩]
    refine oH 7 (atN 3 (ctl1 g13p18)) ((31,.slice 2 3 0 1 3) :: (30,n34 x2_2.1) :: (29,.own 0 (y5_1).length 3) :: (27,.bool false) :: (27,.bool (!decide (x2_2.2 = 0))) :: (26,.i x2_2.2) :: E6) (mkH K1) ?_
    refine oC (fun (x3_3:(List S33))=>(.own 0 (x3_3).length 3,(mkH [⟨(x3_3).flatMap e34,0,false⟩,⟨e34 x2_2.1,3,false⟩,⟨e34 x2_2.1,0,false⟩]))) (atN 4 (ctl1 g13p18)) 32 (appH (sz:=3) qB rfl e34_one K1 0 32 y5_1 ([x2_2.1]:List S33) rfl rfl (by kernel_rfl)) fun x3_3 hx3_3=>?_
    let Q2:Blk:=⟨(x3_3).flatMap e34,0,false⟩
    refine oLH 2 g13p19 [(0,.str a0),(4,.own 0 (x3_3).length 3),(5,.i y5_0),(6,.ptr 1 3 0)] (mkH [Q2,⟨e34 x2_2.1,3,false⟩,⟨e34 x2_2.1,0,false⟩]) ?_
    refine oR 7 (atN 6 (ctl1 g13p19)) ((38,.i (fW .i64 (y5_0 + (x2_2.1.f1.length:Int)))) :: (37,.i (x2_2.1.f1.length:Int)) :: (36,.str x2_2.1.f1) :: (35,.ptr 1 3 1) :: (34,.i y5_0) :: (33,.str a0) :: [(0,.str a0),(4,.own 0 (x3_3).length 3),(5,.i y5_0),(6,.ptr 1 3 0)]) ?_
    refine oA (fun (x4_6:Int) => .i x4_6) (atN 7 (ctl1 g13p19)) 39 [.str a0,.i (fW .i64 (y5_0 + (x2_2.1.f1.length:Int)))] (qP k a0 (fW .i64 (y5_0 + (x2_2.1.f1.length:Int)))) fun x4_6 hx4_6=>?_
    refine oL 2 g13p10 [(0,.str a0),(4,.own 0 (x3_3).length 3),(5,.i x4_6)] ?_
    refine qAa [Q2] [⟨e34 x2_2.1,3,false⟩,⟨e34 x2_2.1,0,false⟩] (by kernel_rfl) rfl (by kernel_rfl) ⟨(qA3 _ (u34 _)),trivial⟩ ?_
    exact ih x4_6 x3_3
  ·refine oR 9 .fin ((3,.i 0) :: (2,.own 0 (y5_1).length 3) :: (40,.own 0 (y5_1).length 3) :: (19,.bool false) :: E4) ?_
   exact oT [.own 0 (y5_1).length 3,.i 0] (.tuple [w34 y5_1,.i 0]) (.tuple (qAq qB qP8 rfl rfl rfl .ps) .ps)
def g13 (k:Nat) (a0:(List Nat)):Option ((List S33) × Int) :=
 if (decide (65536 < (a0.length:Int))) then (some (([]:List S33),(3:Int))) else ((g24 k a0).bind fun x0_1=>if (!x0_1) then (some (([]:List S33),(2:Int))) else ((g25 k a0 (0:Int)).bind fun x1_1=>qFf k a0 k x1_1 ([]:List S33)))
theorem g13_ok (k:Nat) (a0:(List Nat)) (r:((List S33) × Int)) (h:g13 k a0 = some r):PureOk Try.prog 13 [.str a0] (.tuple [w34 r.1,.i r.2]):=by
 refine qA4 Xg13 (fun _=>⟨rfl,rfl⟩) Try.func13 (by decide +kernel) (by kernel_rfl) (t:=g13 k a0) ?_ h
 unfold g13
 refine qA (eE:=[(0,.str a0)]) (by kernel_rfl) ?_
 let E1:Env:=[(10,.bool (decide (65536 < (a0.length:Int)))),(9,.i (a0.length:Int)),(8,.str a0),(3,.i 0),(2,.nils),(0,.str a0)]
 refine oH 12 g13p2 E1 (mkH []) ?_
 refine oS 10 (fun hb=>?_) (fun hb=>?_)
 ·refine oR 7 .fin ((3,.i 3) :: (2,.nils) :: (10,.bool true) :: E1) ?_
  exact oT [.nils,.i 3] (.tuple [.vec 0 3 [],.i 3]) (.tuple (.nil .ps) .ps)
 ·refine oR 6 (atN 1 (ctl1 g13p4)) ((11,.str a0) :: (10,.bool false) :: E1) ?_
  refine oA (fun (x0_1:Bool) => .bool x0_1) (atN 2 (ctl1 g13p4)) 12 [.str a0] (g24_ok k a0) fun x0_1 hx0_1=>?_
  refine oL 2 g13p6 [(0,.str a0),(13,.bool (!x0_1))] ?_
  let E2:Env:=[(0,.str a0),(13,.bool (!x0_1))]
  refine oS 13 (fun hb=>?_) (fun hb=>?_)
  ·refine oR 7 .fin ((3,.i 2) :: (2,.nils) :: (13,.bool true) :: E2) ?_
   exact oT [.nils,.i 2] (.tuple [.vec 0 3 [],.i 2]) (.tuple (.nil .ps) .ps)
  ·refine oR 5 (atN 1 (ctl1 g13p8)) ((4,.nils) :: (13,.bool false) :: E2) ?_
   refine qEx [] 4 3 rfl (by kernel_rfl) ?_
   refine oH 5 (atN 1 (ctl1 g13p9)) ((14,.str a0) :: (4,.own 0 (([]:List S33)).length 3) :: (4,.nils) :: (13,.bool false) :: E2) (mkH [⟨(([]:List S33)).flatMap e34,0,false⟩]) ?_
   refine oA (fun (x1_1:Int) => .i x1_1) (atN 2 (ctl1 g13p9)) 15 [.str a0,.i 0] (qP k a0 (0:Int)) fun x1_1 hx1_1=>?_
   refine oL 4 g13p10 [(0,.str a0),(4,.own 0 (([]:List S33)).length 3),(5,.i x1_1)] ?_
   exact (qP3 k a0 k) x1_1 ([]:List S33)
def Xg30:Fx S28:=⟨Try.prog,cx,Try.f30,fun r => .agg [.i r.f0,.str r.f1,q29 r.f2,.bool r.f3,.bool r.f4,w9 r.f5,w9 r.f6],0,fun _=>H0,cxTi,cxOrd,fun _=>none,false⟩
def g30 (k:Nat) (a0:S28) (a1:Int):Option S28 :=
 if (!decide (a1 = 0)) then (some (⟨(0:Int),([]:List Nat),⟨0,[]⟩,false,false,([]:List (List Nat)),([]:List (List Nat))⟩:S28)) else (some a0)
theorem g30_ok (k:Nat) (a0:S28) (a1:Int) (r:S28) (h:g30 k a0 a1 = some r):PureOk Try.prog 30 [.agg [.i a0.f0,.str a0.f1,q29 a0.f2,.bool a0.f3,.bool a0.f4,w9 a0.f5,w9 a0.f6],.i a1] (.agg [.i r.f0,.str r.f1,q29 r.f2,.bool r.f3,.bool r.f4,w9 r.f5,w9 r.f6]):=by
 refine qA4 Xg30 (fun _=>⟨rfl,rfl⟩) Try.func30 (by decide +kernel) (by kernel_rfl) (t:=g30 k a0 a1) ?_ h
 unfold g30
 refine qA (eE:=[(0,.agg [.i a0.f0,.str a0.f1,q29 a0.f2,.bool a0.f3,.bool a0.f4,w9 a0.f5,w9 a0.f6]),(1,.i a1)]) (by kernel_rfl) ?_
 let E1:Env:=[(6,.bool (!decide (a1 = 0))),(5,.i a1),(4,.ptr 1 7 0),(2,.ptr 0 7 0),(0,n29 a0),(1,.i a1)]
 refine oH 11 (nav [0,0] (nav [0,0,0,0] (nav [0] (bodyAt Try.f30)))) E1 (mkH [⟨e29 a0,0,false⟩,⟨[.i 0,.str [],.nils,.bool false,.bool false,.nils,.nils],0,false⟩]) ?_
 refine oS 6 (fun hb=>?_) (fun hb=>?_)
 ·refine oH 7 .fin ((7,.agg [.i 0,.str [],.nils,.bool false,.bool false,.nils,.nils]) :: (6,.bool true) :: E1) (mkH [⟨e29 a0,0,false⟩,⟨[.i 0,.str [],.nils,.bool false,.bool false,.nils,.nils],7,false⟩]) ?_
  exact oT [.agg [.i 0,.str [],.nils,.bool false,.bool false,.nils,.nils]] (.agg [.i 0,.str [],.vec 0 7 [],.bool false,.bool false,.vec 0 1 [],.vec 0 1 []]) (.agg (.cs (.cs (.nil (.cs (.cs (.nil (.nil .ps))))))) .ps)
 ·exact oQ 8
def Xg68:Fx (List (List (List Nat))):=⟨Try.prog,cx,Try.f68,fun r => .agg ((r).map v22),0,fun _=>H0,cxTi,cxOrd,fun _=>none,false⟩
def g68c0:List (List Nat):=[([61]:List Nat),([33]:List Nat)]
def g68c1:List Nat:=[111,114,101,108,115,101]
def g68c2:List Nat:=[97,110,100,97,108,115,111]
def g68c3:List (List Nat):=[([61,61]:List Nat),([47,61]:List Nat),([61,60]:List Nat),([60]:List Nat),([62,61]:List Nat),([62]:List Nat),([61,58,61]:List Nat),([61,47,61]:List Nat)]
def g68c4:List (List Nat):=[([43,43]:List Nat),([45,45]:List Nat)]
def g68c5:List (List Nat):=[([43]:List Nat),([45]:List Nat),([98,111,114]:List Nat),([98,120,111,114]:List Nat),([98,115,108]:List Nat),([98,115,114]:List Nat),([111,114]:List Nat),([120,111,114]:List Nat)]
def g68c6:List (List Nat):=[([42]:List Nat),([47]:List Nat),([100,105,118]:List Nat),([114,101,109]:List Nat),([98,97,110,100]:List Nat),([97,110,100]:List Nat)]
def g68c7:List (List (List Nat)):=[([([58,58]:List Nat)]:List (List Nat)),([([124]:List Nat)]:List (List Nat)),g68c0,([g68c1]:List (List Nat)),([g68c2]:List (List Nat)),g68c3,g68c4,g68c5,g68c6]
def g68p1:Pt:=nav [0,0,0] (nav [0] (bodyAt Try.f68))
def g68 (k:Nat)  : Option (List (List (List Nat))) :=
 some g68c7
theorem g68_ok (k:Nat)  (r:(List (List (List Nat)))) (h:g68 k  = some r):PureOk Try.prog 68 [] (.agg ((r).map v22)):=by
 refine qA4 Xg68 (fun _=>⟨rfl,rfl⟩) Try.func68 (by decide +kernel) (by kernel_rfl) (t:=g68 k ) ?_ h
 unfold g68
 refine qA (eE:=[]) (by kernel_rfl) ?_
 let Q1:Blk:=⟨[.nils,.nils,.nils,.nils,.nils,.nils,.nils,.nils,.nils],0,false⟩
 refine oH 7 (atN 1 (ctl1 g68p1)) [(1,.slice 1 1 0 1 1),(0,.ptr 0 9 0)] (mkH [Q1,⟨[.str [58,58]],0,false⟩]) ?_
 refine oZ 1 1 1 1 [.str [58,58]] [0] [] trivial ?_
 refine oH 1 (atN 2 (ctl1 g68p1)) [(2,.slice 2 1 0 1 1),(1,w9 ([([58,58]:List Nat)]:List (List Nat))),(0,.ptr 0 9 0)] (mkH [Q1,⟨[],0,false⟩,⟨[.str [124]],0,false⟩]) ?_
 refine oZ 2 2 1 1 [.str [124]] [0,1] [] trivial ?_
 refine oH 1 (atN 3 (ctl1 g68p1)) [(3,.slice 3 2 0 2 1),(2,w9 ([([124]:List Nat)]:List (List Nat))),(0,.ptr 0 9 0),(1,w9 ([([58,58]:List Nat)]:List (List Nat)))] (mkH [Q1,⟨[],0,false⟩,⟨[],0,false⟩,⟨[.str [61],.str [33]],0,false⟩]) ?_
 refine oZ 3 3 2 1 [.str [61],.str [33]] [0,1,2] [] trivial ?_
 refine oH 1 (atN 4 (ctl1 g68p1)) [(4,.slice 4 1 0 1 1),(3,w9 g68c0),(0,.ptr 0 9 0),(1,w9 ([([58,58]:List Nat)]:List (List Nat))),(2,w9 ([([124]:List Nat)]:List (List Nat)))] (mkH [Q1,⟨[],0,false⟩,⟨[],0,false⟩,⟨[],0,false⟩,⟨[.str g68c1],0,false⟩]) ?_
 refine oZ 4 4 1 1 [.str g68c1] [0,1,2,3] [] trivial ?_
 refine oH 1 (atN 5 (ctl1 g68p1)) [(5,.slice 5 1 0 1 1),(4,w9 ([g68c1]:List (List Nat))),(0,.ptr 0 9 0),(1,w9 ([([58,58]:List Nat)]:List (List Nat))),(2,w9 ([([124]:List Nat)]:List (List Nat))),(3,w9 g68c0)] (mkH [Q1,⟨[],0,false⟩,⟨[],0,false⟩,⟨[],0,false⟩,⟨[],0,false⟩,⟨[.str g68c2],0,false⟩]) ?_
 refine oZ 5 5 1 1 [.str g68c2] [0,1,2,3,4] [] trivial ?_
 refine oH 1 (atN 6 (ctl1 g68p1)) [(6,.slice 6 8 0 8 1),(5,w9 ([g68c2]:List (List Nat))),(0,.ptr 0 9 0),(1,w9 ([([58,58]:List Nat)]:List (List Nat))),(2,w9 ([([124]:List Nat)]:List (List Nat))),(3,w9 g68c0),(4,w9 ([g68c1]:List (List Nat)))] (mkH [Q1,⟨[],0,false⟩,⟨[],0,false⟩,⟨[],0,false⟩,⟨[],0,false⟩,⟨[],0,false⟩,⟨[.str [61,61],.str [47,61],.str [61,60],.str [60],.str [62,61],.str [62],.str [61,58,61],.str [61,47,61]],0,false⟩]) ?_
 refine oZ 6 6 8 1 [.str [61,61],.str [47,61],.str [61,60],.str [60],.str [62,61],.str [62],.str [61,58,61],.str [61,47,61]] [0,1,2,3,4,5] [] trivial ?_
 refine oH 1 (atN 7 (ctl1 g68p1)) [(7,.slice 7 2 0 2 1),(6,w9 g68c3),(0,.ptr 0 9 0),(1,w9 ([([58,58]:List Nat)]:List (List Nat))),(2,w9 ([([124]:List Nat)]:List (List Nat))),(3,w9 g68c0),(4,w9 ([g68c1]:List (List Nat))),(5,w9 ([g68c2]:List (List Nat)))] (mkH [Q1,⟨[],0,false⟩,⟨[],0,false⟩,⟨[],0,false⟩,⟨[],0,false⟩,⟨[],0,false⟩,⟨[],0,false⟩,⟨[.str [43,43],.str [45,45]],0,false⟩]) ?_
 refine oZ 7 7 2 1 [.str [43,43],.str [45,45]] [0,1,2,3,4,5,6] [] trivial ?_
 refine oH 1 (atN 8 (ctl1 g68p1)) [(8,.slice 8 8 0 8 1),(7,w9 g68c4),(0,.ptr 0 9 0),(1,w9 ([([58,58]:List Nat)]:List (List Nat))),(2,w9 ([([124]:List Nat)]:List (List Nat))),(3,w9 g68c0),(4,w9 ([g68c1]:List (List Nat))),(5,w9 ([g68c2]:List (List Nat))),(6,w9 g68c3)] (mkH [Q1,⟨[],0,false⟩,⟨[],0,false⟩,⟨[],0,false⟩,⟨[],0,false⟩,⟨[],0,false⟩,⟨[],0,false⟩,⟨[],0,false⟩,⟨[.str [43],.str [45],.str [98,111,114],.str [98,120,111,114],.str [98,115,108],.str [98,115,114],.str [111,114],.str [120,111,114]],0,false⟩]) ?_
 refine oZ 8 8 8 1 [.str [43],.str [45],.str [98,111,114],.str [98,120,111,114],.str [98,115,108],.str [98,115,114],.str [111,114],.str [120,111,114]] [0,1,2,3,4,5,6,7] [] trivial ?_
 refine oH 1 (atN 9 (ctl1 g68p1)) [(9,.slice 9 6 0 6 1),(8,w9 g68c5),(0,.ptr 0 9 0),(1,w9 ([([58,58]:List Nat)]:List (List Nat))),(2,w9 ([([124]:List Nat)]:List (List Nat))),(3,w9 g68c0),(4,w9 ([g68c1]:List (List Nat))),(5,w9 ([g68c2]:List (List Nat))),(6,w9 g68c3),(7,w9 g68c4)] (mkH [Q1,⟨[],0,false⟩,⟨[],0,false⟩,⟨[],0,false⟩,⟨[],0,false⟩,⟨[],0,false⟩,⟨[],0,false⟩,⟨[],0,false⟩,⟨[],0,false⟩,⟨[.str [42],.str [47],.str [100,105,118],.str [114,101,109],.str [98,97,110,100],.str [97,110,100]],0,false⟩]) ?_
 refine oZ 9 9 6 1 [.str [42],.str [47],.str [100,105,118],.str [114,101,109],.str [98,97,110,100],.str [97,110,100]] [0,1,2,3,4,5,6,7,8] [] trivial ?_
 exact oQ 4
def Xg50:Fx Int:=⟨Try.prog,cx,Try.f50,fun r => .i r,0,fun _=>H0,cxTi,cxOrd,fun _=>none,false⟩
def g50p1:Pt:=nav [0,0,0,0] (nav [0] (bodyAt Try.f50))
def g50p2:Pt:=nav [0,0,0,0] g50p1
def g50p4:Pt:=nav [0,0,0] (nav [0,0] g50p2)
def g50p5:Pt:=nav [1,0,0,0,0] g50p4
def g50p9:Pt:=nav [0,0,0,0] (nav [0,0,0] g50p5)
def g50p11:Pt:=nav [0,0,0] (nav [0,0] g50p9)
def g50p12:Pt:=nav [1,0,0,0,0] g50p11
def g50p13:Pt:=nav [2,0] g50p11
def qIg (k:Nat) (c3:Int → Option Int) (a0:(List Nat)) (x0_0:(List (List (List Nat)))) (y3_0:Int) (x1_1:(List (List Nat))) (ih:Int → Int → Int → Option Int):Int → Int → Int → Option Int :=
 fun (y4_0:Int) (y4_1:Int) (y4_2:Int)=>jn (fun (z5:Int)=>c3 (fW .i64 (z5 + 1))) (fun j5=>if (decide (y4_0 < (x1_1.length:Int))) then ((nthL x1_1 y4_0).bind fun x2_0=>if (eqL x2_0 a0) then (some (fW .i64 (y4_1 + 1))) else (ih (fW .i64 (y4_0 + 1)) y4_1 y4_2)) else (j5 y4_2))
def qOk (k:Nat) (c3:Int → Option Int) (a0:(List Nat)) (x0_0:(List (List (List Nat)))) (y3_0:Int) (x1_1:(List (List Nat))) (n:Nat):Int → Int → Int → Option Int:=lp (fun _ _ _=>none) (qIg k c3 a0 x0_0 y3_0 x1_1) n
theorem qOj (k:Nat)  (c3:Int → Option Int) (a0:(List Nat)) (x0_0:(List (List (List Nat)))) (y3_0:Int) (x1_1:(List (List Nat))) (hc3:∀ (y3_0:Int),Ok Xg50 g50p2 [(0,.str a0),(7,.agg ((x0_0).map v22)),(8,.i y3_0)] (mkH []) (c3 y3_0)):∀ (n:Nat) (y4_0:Int) (y4_1:Int) (y4_2:Int),Ok Xg50 g50p9 [(0,.str a0),(3,.i y4_1),(7,.agg ((x0_0).map v22)),(8,.i y4_2),(12,w9 x1_1),(13,.i (x1_1.length:Int)),(14,.i y4_0)] (mkH []) (qOk k c3 a0 x0_0 y3_0 x1_1 n y4_0 y4_1 y4_2):=by
 intro n
 induction n with
 | zero=>intro y4_0 y4_1 y4_2; exact ok_none
 | succ n ih =>
  intro y4_0 y4_1 y4_2
  show Ok _ _ _ _ (qIg k c3 a0 x0_0 y3_0 x1_1 (qOk k c3 a0 x0_0 y3_0 x1_1 n) y4_0 y4_1 y4_2)
  unfold qIg
  refine qAf (p':=nav [0] g50p9) (by kernel_rfl) ?_
  let E3:Env:=[(15,.bool (decide (y4_0 < (x1_1.length:Int)))),(0,.str a0),(3,.i y4_1),(7,.agg ((x0_0).map v22)),(8,.i y4_2),(12,w9 x1_1),(13,.i (x1_1.length:Int)),(14,.i y4_0)]
  refine oH 5 g50p11 E3 (mkH []) ?_
  refine oJ g50p13 (fun (z5:Int)=>[(0,.str a0),(7,.agg ((x0_0).map v22)),(8,.i z5)]) (fun (z5:Int)=>(mkH [])) (fun z5=>?_) (fun j5 hj5=>?_)
  ·refine oLH 4 g50p2 [(0,.str a0),(7,.agg ((x0_0).map v22)),(8,.i (fW .i64 (z5 + 1)))] (mkH []) ?_
   exact hc3 (fW .i64 (z5 + 1))
  ·refine oS 15 (fun hb=>?_) (fun hb=>?_)
   ·refine oH 6 (atN 0 (ctl1 g50p12)) ((15,.bool true) :: E3) (mkH []) ?_
    refine oC (fun (x2_0:(List Nat))=>(.vptr [.str x2_0],(mkH []))) (atN 1 (ctl1 g50p12)) 16 (vidxH (sz:=1) qBp (by kernel_rfl)) fun x2_0 hx2_0=>?_
    let E7:Env:=[(0,.str a0),(3,.i y4_1),(7,.agg ((x0_0).map v22)),(8,.i y4_2),(12,w9 x1_1),(13,.i (x1_1.length:Int)),(14,.i y4_0),(20,.bool (eqL x2_0 a0))]
    refine oLH 9 (nav [0,0] (nav [0,0,0] g50p12)) E7 (mkH []) ?_
    refine oS 20 (fun hb=>?_) (fun hb=>?_)
    ·exact oQ 8
    ·refine oR 6 g50p9 ((14,.i (fW .i64 (y4_0 + 1))) :: (23,.i (fW .i64 (y4_0 + 1))) :: (20,.bool false) :: E7) ?_
     refine oK [0,3,7,8,12,13,14] [(0,.str a0),(3,.i y4_1),(7,.agg ((x0_0).map v22)),(8,.i y4_2),(12,w9 x1_1),(13,.i (x1_1.length:Int)),(14,.i (fW .i64 (y4_0 + 1)))] ?_
     exact ih (fW .i64 (y4_0 + 1)) y4_1 y4_2
   ·refine oLH 2 g50p13 [(0,.str a0),(7,.agg ((x0_0).map v22)),(8,.i y4_2)] (mkH []) ?_
    exact hj5 y4_2
def qIh (k:Nat)  (a0:(List Nat)) (x0_0:(List (List (List Nat)))) (ih:Int → Option Int):Int → Option Int :=
 fun (y3_0:Int)=>if (decide (y3_0 < 9)) then ((nthA x0_0 9 y3_0).bind fun x1_1=>qOk k ih a0 x0_0 y3_0 x1_1 k 0 y3_0 y3_0) else (some (0:Int))
def qKy (k:Nat)  (a0:(List Nat)) (x0_0:(List (List (List Nat)))) (n:Nat):Int → Option Int:=lp (fun _=>none) (qIh k a0 x0_0) n
theorem qOl (k:Nat)   (a0:(List Nat)) (x0_0:(List (List (List Nat))))  : ∀ (n:Nat) (y3_0:Int),Ok Xg50 g50p2 [(0,.str a0),(7,.agg ((x0_0).map v22)),(8,.i y3_0)] (mkH []) (qKy k a0 x0_0 n y3_0):=by
 intro n
 induction n with
 | zero=>intro y3_0; exact ok_none
 | succ n ih =>
  intro y3_0
  show Ok _ _ _ _ (qIh k a0 x0_0 (qKy k a0 x0_0 n) y3_0)
  unfold qIh
  refine qAf (p':=nav [0] g50p2) (by kernel_rfl) ?_
  refine oH 5 g50p4 [(9,.bool (decide (y3_0 < 9))),(0,.str a0),(7,.agg ((x0_0).map v22)),(8,.i y3_0)] (mkH []) ?_
  refine oS 9 (fun hb=>?_) (fun hb=>?_)
  ·refine oR 7 (atN 1 (ctl1 g50p5)) [(10,.i y3_0),(9,.bool true),(9,.bool (decide (y3_0 < 9))),(0,.str a0),(7,.agg ((x0_0).map v22)),(8,.i y3_0)] ?_
   refine oC (fun (x1_1:(List (List Nat)))=>(w9 x1_1,(mkH []))) (atN 2 (ctl1 g50p5)) 11 (aidxH v22 x0_0 (by kernel_rfl)) fun x1_1 hx1_1=>?_
   refine oLH 11 g50p9 [(0,.str a0),(3,.i y3_0),(7,.agg ((x0_0).map v22)),(8,.i y3_0),(12,w9 x1_1),(13,.i (x1_1.length:Int)),(14,.i 0)] (mkH []) ?_
   exact (qOj k (qKy k a0 x0_0 n) a0 x0_0 y3_0 x1_1 ih k) 0 y3_0 y3_0
  ·exact oQ 7
def g50 (k:Nat) (a0:(List Nat)):Option Int :=
 (g68 k).bind fun x0_0=>qKy k a0 x0_0 k 0
theorem qFa (k:Nat) (a0:(List Nat)) (r:Int) (h:g50 k a0 = some r):PureOk Try.prog 50 [.str a0] (.i r):=by
 refine qA4 Xg50 (fun _=>⟨rfl,rfl⟩) Try.func50 (by decide +kernel) (by kernel_rfl) (t:=g50 k a0) ?_ h
 unfold g50
 refine qA (eE:=[(0,.str a0)]) (by kernel_rfl) ?_
 refine oH 7 (atN 0 (ctl1 g50p1)) [(2,.i 0),(0,.str a0)] (mkH []) ?_
 refine oAp (fun (x0_0:(List (List (List Nat)))) => .agg ((x0_0).map v22)) (atN 1 (ctl1 g50p1)) 7 [] (fun _=>arr_pur (fun _=>rfl) _) (g68_ok k ) fun x0_0 hx0_0=>?_
 refine oL 4 g50p2 [(0,.str a0),(7,.agg ((x0_0).map v22)),(8,.i 0)] ?_
 exact (qOl k a0 x0_0 k) 0
def Xg69:Fx Int:=⟨Try.prog,cx,Try.f69,fun r => .i r,0,fun _=>H0,cxTi,cxOrd,fun _=>none,false⟩
def g69c0:List Int:=[(0:Int),(2:Int),(1:Int),(2:Int),(2:Int),(2:Int),(3:Int),(2:Int),(1:Int),(1:Int)]
def g69p1:Pt:=nav [0,0,0] (nav [0] (bodyAt Try.f69))
def g69 (k:Nat) (a0:(List Nat)):Option Int :=
 (g50 k a0).bind fun x0_2=>(nthA g69c0 10 x0_2).bind fun x0_3=>some x0_3
theorem g69_ok (k:Nat) (a0:(List Nat)) (r:Int) (h:g69 k a0 = some r):PureOk Try.prog 69 [.str a0] (.i r):=by
 refine qA4 Xg69 (fun _=>⟨rfl,rfl⟩) Try.func69 (by decide +kernel) (by kernel_rfl) (t:=g69 k a0) ?_ h
 unfold g69
 refine qA (eE:=[(0,.str a0)]) (by kernel_rfl) ?_
 refine oH 8 (atN 2 (ctl1 g69p1)) [(4,.str a0),(3,.agg [.i 0,.i 2,.i 1,.i 2,.i 2,.i 2,.i 3,.i 2,.i 1,.i 1]),(2,.i 0),(0,.str a0)] (mkH []) ?_
 refine oA (fun (x0_2:Int) => .i x0_2) (atN 3 (ctl1 g69p1)) 5 [.str a0] (qFa k a0) fun x0_2 hx0_2=>?_
 refine oC (fun (x0_3:Int)=>(.i x0_3,(mkH []))) (atN 4 (ctl1 g69p1)) 6 (aidxH v3 g69c0 (by kernel_rfl)) fun x0_3 hx0_3=>?_
 exact oQ 3
def Xg52:Fx Int:=⟨Try.prog,cx,Try.f52,fun r => .i r,0,fun _=>H0,cxTi,cxOrd,fun _=>none,false⟩
def g52p1:Pt:=nav [0,0,0,0] (nav [0] (bodyAt Try.f52))
def g52p2:Pt:=nav [0,0] g52p1
def g52p3:Pt:=nav [1,0] g52p2
def g52p4:Pt:=nav [2,0,0] g52p2
def g52 (k:Nat) (a0:(List Nat)):Option Int :=
 (g69 k a0).bind fun x0_1=>if (decide (1 < x0_1)) then ((g50 k a0).bind fun x1_1=>some (fW .i64 (x1_1 + 1))) else ((g50 k a0).bind fun x2_1=>some x2_1)
theorem g52_ok (k:Nat) (a0:(List Nat)) (r:Int) (h:g52 k a0 = some r):PureOk Try.prog 52 [.str a0] (.i r):=by
 refine qA4 Xg52 (fun _=>⟨rfl,rfl⟩) Try.func52 (by decide +kernel) (by kernel_rfl) (t:=g52 k a0) ?_ h
 unfold g52
 refine qA (eE:=[(0,.str a0)]) (by kernel_rfl) ?_
 refine oH 8 (atN 1 (ctl1 g52p1)) [(3,.str a0),(2,.i 0),(0,.str a0)] (mkH []) ?_
 refine oA (fun (x0_1:Int) => .i x0_1) (atN 2 (ctl1 g52p1)) 4 [.str a0] (g69_ok k a0) fun x0_1 hx0_1=>?_
 let E1:Env:=[(5,.bool (decide (1 < x0_1))),(4,.i x0_1),(3,.str a0),(2,.i 0),(0,.str a0)]
 refine oR 2 g52p2 E1 ?_
 refine oS 5 (fun hb=>?_) (fun hb=>?_)
 ·refine oR 4 (atN 1 (ctl1 g52p3)) ((6,.str a0) :: (5,.bool true) :: E1) ?_
  refine oA (fun (x1_1:Int) => .i x1_1) (atN 2 (ctl1 g52p3)) 7 [.str a0] (qFa k a0) fun x1_1 hx1_1=>?_
  exact oQ 4
 ·refine oR 5 (atN 1 (ctl1 g52p4)) ((9,.str a0) :: (5,.bool false) :: E1) ?_
  refine oA (fun (x2_1:Int) => .i x2_1) (atN 2 (ctl1 g52p4)) 10 [.str a0] (qFa k a0) fun x2_1 hx2_1=>?_
  exact oQ 3
def Xg54:Fx Int:=⟨Try.prog,cx,Try.f54,fun r => .i r,0,fun _=>H0,cxTi,cxOrd,fun _=>none,false⟩
def g54p1:Pt:=nav [0,0,0,0] (nav [0] (bodyAt Try.f54))
def g54p2:Pt:=nav [0,0] g54p1
def g54p3:Pt:=nav [1,0] g54p2
def g54p4:Pt:=nav [2,0,0] g54p2
def g54 (k:Nat) (a0:(List Nat)):Option Int :=
 (g69 k a0).bind fun x0_1=>if (decide (andI .i64 x0_1 1 = 1)) then ((g50 k a0).bind fun x1_1=>some (fW .i64 (x1_1 + 1))) else ((g50 k a0).bind fun x2_1=>some x2_1)
theorem g54_ok (k:Nat) (a0:(List Nat)) (r:Int) (h:g54 k a0 = some r):PureOk Try.prog 54 [.str a0] (.i r):=by
 refine qA4 Xg54 (fun _=>⟨rfl,rfl⟩) Try.func54 (by decide +kernel) (by kernel_rfl) (t:=g54 k a0) ?_ h
 unfold g54
 refine qA (eE:=[(0,.str a0)]) (by kernel_rfl) ?_
 refine oH 8 (atN 1 (ctl1 g54p1)) [(3,.str a0),(2,.i 0),(0,.str a0)] (mkH []) ?_
 refine oA (fun (x0_1:Int) => .i x0_1) (atN 2 (ctl1 g54p1)) 4 [.str a0] (g69_ok k a0) fun x0_1 hx0_1=>?_
 let E1:Env:=[(6,.bool (decide (andI .i64 x0_1 1 = 1))),(5,.i (andI .i64 x0_1 1)),(4,.i x0_1),(3,.str a0),(2,.i 0),(0,.str a0)]
 refine oR 3 g54p2 E1 ?_
 refine oS 6 (fun hb=>?_) (fun hb=>?_)
 ·refine oR 4 (atN 1 (ctl1 g54p3)) ((7,.str a0) :: (6,.bool true) :: E1) ?_
  refine oA (fun (x1_1:Int) => .i x1_1) (atN 2 (ctl1 g54p3)) 8 [.str a0] (qFa k a0) fun x1_1 hx1_1=>?_
  exact oQ 4
 ·refine oR 5 (atN 1 (ctl1 g54p4)) ((10,.str a0) :: (6,.bool false) :: E1) ?_
  refine oA (fun (x2_1:Int) => .i x2_1) (atN 2 (ctl1 g54p4)) 11 [.str a0] (qFa k a0) fun x2_1 hx2_1=>?_
  exact oQ 3
def Xg89:Fx Bool:=⟨Try.prog,cx,Try.f89,fun r => .bool r,0,fun _=>H0,cxTi,cxOrd,fun _=>none,false⟩
def g89p1:Pt:=nav [0,0,0] (nav [0] (bodyAt Try.f89))
def g89 (k:Nat) (a0:(List Nat)) (a1:S33):Option Bool :=
 if (decide (0 ≤ a1.f2)) then (if (decide (a1.f2 ≤ (a0.length:Int))) then (some (decide ((a1.f1.length:Int) ≤ fW .i64 ((a0.length:Int) - a1.f2)))) else (some false)) else (some false)
theorem qHb (k:Nat) (a0:(List Nat)) (a1:S33) (r:Bool) (h:g89 k a0 a1 = some r):PureOk Try.prog 89 [.str a0,.agg [.i a1.f0,.str a1.f1,.i a1.f2]] (.bool r):=by
 refine qA4 Xg89 (fun _=>⟨rfl,rfl⟩) Try.func89 (by decide +kernel) (by kernel_rfl) (t:=g89 k a0 a1) ?_ h
 unfold g89
 refine qA (eE:=[(0,.str a0),(1,.agg [.i a1.f0,.str a1.f1,.i a1.f2])]) (by kernel_rfl) ?_
 let E1:Env:=[(8,.bool (decide (0 ≤ a1.f2))),(7,.bool (decide (0 ≤ a1.f2))),(6,.i a1.f2),(5,.ptr 0 3 2),(4,.bool false),(3,.ptr 0 3 0),(0,.str a0),(1,n34 a1)]
 refine oH 11 (atN 4 (ctl1 g89p1)) E1 (mkH [⟨e34 a1,0,false⟩]) ?_
 refine oS 8 (fun hb=>?_) (fun hb=>?_)
 ·refine oR 7 (atN 11 (ctl1 g89p1)) ((15,.bool (decide (a1.f2 ≤ (a0.length:Int)))) :: (14,.bool (decide (a1.f2 ≤ (a0.length:Int)))) :: (13,.bool (decide (a1.f2 ≤ (a0.length:Int)))) :: (12,.i (a0.length:Int)) :: (11,.str a0) :: (10,.i a1.f2) :: (9,.ptr 0 3 2) :: (8,.bool true) :: E1) ?_
  refine oS 15 (fun hb=>?_) (fun hb=>?_)
  ·exact oQ 13
  ·exact oQ 13
 ·exact oQ 20
def Xg90:Fx Int:=⟨Try.prog,cx,Try.f90,fun r => .i r,0,fun _=>H0,cxTi,cxOrd,fun _=>none,false⟩
def g90 (k:Nat) (a0:S33):Option Int :=
 some (fW .i64 (a0.f2 + (a0.f1.length:Int)))
theorem g90_ok (k:Nat) (a0:S33) (r:Int) (h:g90 k a0 = some r):PureOk Try.prog 90 [.agg [.i a0.f0,.str a0.f1,.i a0.f2]] (.i r):=by
 refine qA4 Xg90 (fun _=>⟨rfl,rfl⟩) Try.func90 (by decide +kernel) (by kernel_rfl) (t:=g90 k a0) ?_ h
 unfold g90
 refine qA (eE:=[(0,.agg [.i a0.f0,.str a0.f1,.i a0.f2])]) (by kernel_rfl) ?_
 exact oQ 16
abbrev Ti2:Type:=Int → Int → Option Int
def Xi2 (a0:Int) (a1:Int):Fx Int:=⟨Try.prog,cx,Try.f91,fun r => .tuple [],1,fun r=>(mkH [⟨[.i r],1,false⟩]),cxTi,cxOrd,fun _=>none,false⟩
def Pi2 (f:Ti2):Prop := ∀ a0 a1,PNh (Xi2 a0 a1) 91 [.y a0,.ptr 0 1 0] (mkH [⟨[.i a1],1,false⟩]) (f a0 a1)
def i2 (k:Nat) (a0:Int) (a1:Int):Option Int :=
 if (decide (a0 = 10)) then (some (fW .i64 (a1 + 1))) else (some a1)
theorem i2_all (k:Nat):∀ a0 a1 r,i2 k a0 a1 = some r → CallT Try.prog 91 [.y a0,.ptr 0 1 0] (mkH [⟨[.i a1],1,false⟩]) ((Xi2 a0 a1).thr r) ((Xi2 a0 a1).enc r) ((Xi2 a0 a1).fin r):=by
 intro a0 a1 r h
 refine qA2 (Xi2 a0 a1) Try.func91 (by kernel_rfl) (by kernel_rfl) rfl (t:=i2 k a0 a1) ?_ h
 unfold i2
 refine qA (eE:=[(0,.y a0),(1,.ptr 0 1 0)]) (by kernel_rfl) ?_
 refine oH 5 (nav [0,0] (nav [0] (bodyAt Try.f91))) [(4,.bool (decide (a0 = 10))),(3,.y a0),(0,.y a0),(1,.ptr 0 1 0)] (mkH [⟨[.i a1],1,false⟩]) ?_
 refine oS 4 (fun hb=>?_) (fun hb=>?_)
 ·exact oQF 6 [⟨[.i (fW .i64 (a1 + 1))],1,false⟩] 1 [] [] (.tuple []) .ps trivial
 ·exact oQF 2 [⟨[.i a1],1,false⟩] 1 [] [] (.tuple []) .ps trivial
theorem i2_ok (k:Nat):Pi2 (i2 k):=fun a0 a1=>fun x h=>i2_all k a0 a1 x h
def Xg72:Fx Int:=⟨Try.prog,cx,Try.f72,fun r => .i r,0,fun _=>H0,cxTi,cxOrd,fun _=>none,false⟩
def g72p1:Pt:=nav [0,0,0,0] (nav [0] (bodyAt Try.f72))
def g72p2:Pt:=nav [0] g72p1
def g72p7:Pt:=nav [0,0,0,0] (nav [0,0,0] (nav [2,0,0] g72p2))
def g72p8:Pt:=nav [0,0,0,0] g72p7
def g72p9:Pt:=nav [0,0,0] g72p8
def g72p10:Pt:=nav [0,0] g72p9
def g72p11:Pt:=nav [1,0,0,0] g72p10
def g72d0:DP:=⟨[],[(0,0,0),(1,0,0),(3,0,0),(7,0,0),(7,0,0),(23,0,0),(63,0,0),(127,0,0),(255,0,0),(511,0,0),(511,0,0),(511,0,0),(2559,0,0),(7679,0,0),(15871,0,0),(32767,0,0),(65535,0,0),(131071,0,0),(262143,0,0),(524287,0,0),(524287,0,0),(524287,0,0),(3670015,0,0),(7864319,1,1),(16777215,0,0),(33554431,0,0),(67108863,0,0),(134217727,0,0),(268435455,0,0),(268435455,0,0),(805306367,0,0),(2147483647,0,0),(4294967295,2,2),(8589934591,0,0),(268435455,0,0),(268435455,0,0),(51808043007,0,0),(120527519743,0,0),(257966473215,2,3),(549755813887,0,0),(1099511627775,0,0)],41,thrown,[],H0⟩
def qIc (k:Nat)  (a0:(List Nat)) (a1:(List S33)) (a2:Int) (ih:Int → Int → Option Int):Int → Int → Option Int :=
 fun (y5_0:Int) (y5_1:Int)=>(nthL a1 a2).bind fun x2_3=>if (decide (y5_0 < x2_3.f2)) then ((nthS a0 y5_0).bind fun x3_3=>(i2 k x3_3 y5_1).bind fun x3_4=>ih (fW .i64 (y5_0 + 1)) x3_4) else (some y5_1)
def qF9 (k:Nat)  (a0:(List Nat)) (a1:(List S33)) (a2:Int) (n:Nat):Int → Int → Option Int:=lp (fun _ _=>none) (qIc k a0 a1 a2) n
theorem qKw (k:Nat)  (a0:(List Nat)) (a1:(List S33)) (a2:Int) (n:Nat) (y5_0:Int) (y5_1:Int):qF9 k a0 a1 a2 (n + 1) y5_0 y5_1 = ((nthL a1 a2).bind fun x2_3=>if (decide (y5_0 < x2_3.f2)) then ((nthS a0 y5_0).bind fun x3_3=>(i2 k x3_3 y5_1).bind fun x3_4=>(qF9 k a0 a1 a2 n) (fW .i64 (y5_0 + 1)) x3_4) else (some y5_1)):=rfl
theorem qOd (k:Nat)   (a0:(List Nat)) (a1:(List S33)) (a2:Int)  : ∀ (n:Nat) (y5_0:Int) (y5_1:Int),Ok Xg72 g72p8 [(0,.str a0),(1,w34 a1),(2,.i a2),(7,.ptr 0 1 0),(8,.func 91 [] [.ptr 0 1 0]),(9,.i y5_0)] (mkH [⟨[.i y5_1],1,false⟩]) (qF9 k a0 a1 a2 n y5_0 y5_1):=by
 intro n
 induction n with
 | zero=>intro y5_0 y5_1; exact ok_none
 | succ n ih =>
  intro y5_0 y5_1
  show Ok _ _ _ _ (qIc k a0 a1 a2 (qF9 k a0 a1 a2 n) y5_0 y5_1)
  unfold qIc
  refine qAf (p':=nav [0] g72p8) (by kernel_rfl) ?_
  let E3:Env:=[(60,.i a2),(59,w34 a1),(58,.i y5_0),(0,.str a0),(1,w34 a1),(2,.i a2),(7,.ptr 0 1 0),(8,.func 91 [] [.ptr 0 1 0]),(9,.i y5_0)]
  let Q1:Blk:=⟨[.i y5_1],1,false⟩
  refine oH 6 (atN 3 (ctl1 g72p9)) E3 (mkH [Q1]) ?_
  refine oC (fun (x2_3:S33)=>(.vptr [.i x2_3.f0,.str x2_3.f1,.i x2_3.f2],(mkH [Q1]))) (atN 4 (ctl1 g72p9)) 61 (vidxH (sz:=3) qB (by kernel_rfl)) fun x2_3 hx2_3=>?_
  refine oH 4 g72p10 ((64,.bool (decide (y5_0 < x2_3.f2))) :: (63,.i x2_3.f2) :: (62,.vptr [.i x2_3.f2]) :: (61,.vptr [.i x2_3.f0,.str x2_3.f1,.i x2_3.f2]) :: E3) (mkH [Q1]) ?_
  refine oS 64 (fun hb=>?_) (fun hb=>?_)
  ·let E4:Env:=((69,.i y5_0) :: (68,.str a0) :: (67,.func 91 [] [.ptr 0 1 0]) :: (64,.bool true) :: (64,.bool (decide (y5_0 < x2_3.f2))) :: (63,.i x2_3.f2) :: (62,.vptr [.i x2_3.f2]) :: (61,.vptr [.i x2_3.f0,.str x2_3.f1,.i x2_3.f2]) :: E3)
   refine oR 8 (atN 3 (ctl1 g72p11)) E4 ?_
   refine oC (fun (x3_3:Int)=>(.y x3_3,(mkH [Q1]))) (atN 4 (ctl1 g72p11)) 70 (idxH (by kernel_rfl)) fun x3_3 hx3_3=>?_
   refine oN (fun (x3_4:Int) => .tuple []) (fun x3_4=>[⟨[.i x3_4],1,false⟩]) (atN 5 (ctl1 g72p11)) 71 [0] [] [] [.y x3_3,.ptr 0 1 0] (i2_ok k x3_3 y5_1) trivial (fun _=>trivial) fun x3_4 hx3_4=>?_
   refine oR 1 (nav [0,0] g72p11) ((71,.tuple []) :: (70,.y x3_3) :: E4) ?_
   refine oK0 [0,1,2,7,8,9] ?_
   refine oL 5 g72p8 [(0,.str a0),(1,w34 a1),(2,.i a2),(7,.ptr 0 1 0),(8,.func 91 [] [.ptr 0 1 0]),(9,.i (fW .i64 (y5_0 + 1)))] ?_
   exact ih (fW .i64 (y5_0 + 1)) x3_4
  ·exact oQ 8
def g72 (k:Nat) (a0:(List Nat)) (a1:(List S33)) (a2:Int):Option Int :=
 jn (fun (z4:Bool)=>if z4 then (some (0:Int)) else ((nthL a1 (fW .i64 (a2 - 1))).bind fun x1_3=>(g90 k x1_3).bind fun x1_5=>qF9 k a0 a1 a2 k x1_5 0)) (fun j4=>if (decide (a2 < 1)) then (j4 true) else (if (decide ((a1.length:Int) ≤ a2)) then (j4 true) else ((nthL a1 (fW .i64 (a2 - 1))).bind fun x0_13=>(g89 k a0 x0_13).bind fun x0_15=>if (!x0_15) then (j4 true) else ((nthL a1 a2).bind fun x0_22=>(g89 k a0 x0_22).bind fun x0_24=>if (!x0_24) then (j4 true) else ((nthL a1 (fW .i64 (a2 - 1))).bind fun x0_31=>(g90 k x0_31).bind fun x0_33=>(nthL a1 a2).bind fun x0_36=>j4 (decide (x0_36.f2 < x0_33)))))))
theorem g72_ok (k:Nat) (a0:(List Nat)) (a1:(List S33)) (a2:Int) (r:Int) (h:g72 k a0 a1 a2 = some r):PureOk Try.prog 72 [.str a0,w34 a1,.i a2] (.i r):=by
 refine qA4 Xg72 (fun _=>⟨rfl,rfl⟩) Try.func72 (by decide +kernel) (by kernel_rfl) (t:=g72 k a0 a1 a2) ?_ h
 unfold g72
 refine qA (eE:=[(0,.str a0),(1,w34 a1),(2,.i a2)]) (by kernel_rfl) ?_
 refine oH 6 g72p1 [(6,.i 0),(0,.str a0),(1,w34 a1),(2,.i a2)] (mkH []) ?_
 refine oJ g72p2 (fun (z4:Bool)=>[(0,.str a0),(1,w34 a1),(2,.i a2),(50,.bool z4)]) (fun (z4:Bool)=>(mkH [])) (fun z4=>?_) (fun j4 hj4=>?_)
 ·refine oS 50 (fun hb=>?_) (fun hb=>?_)
  ·exact oQ 6
  ·let E2:Env:=[(54,.i (fW .i64 (a2 - 1))),(53,.i a2),(52,w34 a1),(8,.func 91 [] [.ptr 0 1 0]),(51,.func 91 [] [.ptr 0 1 0]),(7,.ptr 0 1 0),(50,.bool false),(0,.str a0),(1,w34 a1),(2,.i a2),(50,.bool z4)]
   refine oH 18 (atN 3 (ctl1 g72p7)) E2 (mkH [⟨[.i 0],1,false⟩]) ?_
   refine oC (fun (x1_3:S33)=>(.vptr [.i x1_3.f0,.str x1_3.f1,.i x1_3.f2],(mkH [⟨[.i 0],1,false⟩]))) (atN 4 (ctl1 g72p7)) 55 (vidxH (sz:=3) qB (by kernel_rfl)) fun x1_3 hx1_3=>?_
   refine oH 1 (atN 5 (ctl1 g72p7)) ((56,n34 x1_3) :: (55,.vptr [.i x1_3.f0,.str x1_3.f1,.i x1_3.f2]) :: E2) (mkH [⟨[.i 0],1,false⟩]) ?_
   refine oA (fun (x1_5:Int) => .i x1_5) (atN 6 (ctl1 g72p7)) 57 [n34 x1_3] (g90_ok k x1_3) fun x1_5 hx1_5=>?_
   refine oL 4 g72p8 [(0,.str a0),(1,w34 a1),(2,.i a2),(7,.ptr 0 1 0),(8,.func 91 [] [.ptr 0 1 0]),(9,.i x1_5)] ?_
   exact (qOd k a0 a1 a2 k) x1_5 0
 ·refine qEr (fun hb4=>?_) (fun hb4=>?_)
  ·let E9:Env:=[(12,.bool (decide (a2 < 1))),(11,.bool (decide (a2 < 1))),(10,.i a2),(6,.i 0),(0,.str a0),(1,w34 a1),(2,.i a2)]
   let E10:Env:=[(50,.bool true),(49,.tuple []),(48,.tuple []),(47,.tuple []),(46,.tuple []),(45,.tuple []),(44,.tuple []),(43,.tuple []),(42,.tuple []),(41,.tuple []),(40,.tuple []),(39,.tuple []),(38,.tuple []),(37,.bool true),(36,.bool true),(35,.tuple []),(34,.tuple []),(33,.tuple []),(32,.tuple []),(31,.tuple []),(30,.tuple []),(29,.tuple []),(28,.bool true),(27,.bool true),(26,.tuple []),(25,.tuple []),(24,.tuple []),(23,.tuple []),(22,.tuple []),(21,.tuple []),(20,.tuple []),(19,.tuple []),(18,.bool true),(17,.bool true),(16,.tuple []),(15,.tuple []),(14,.tuple []),(13,.tuple []),(12,.bool true),(11,.bool true),(10,.i a2),(6,.i 0),(0,.str a0),(1,w34 a1),(2,.i a2)]
   refine oD (H':=(mkH [])) (nav [0] g72p1) E10 [(mkH []),(mkH []),(mkH [])] g72d0 (oDr 3 3 E9 (oDe (fun z=>[(12,.bool z),(11,.bool z),(10,.i a2),(6,.i 0),(0,.str a0),(1,w34 a1),(2,.i a2)]) hb4 (oDh 38 41 E10 (mkH []) [(mkH []),(mkH []),(mkH [])] .nil))) ?_
   refine oK [0,1,2,50] [(0,.str a0),(1,w34 a1),(2,.i a2),(50,.bool true)] ?_
   exact hj4 true
  ·refine qEr (fun hb5=>?_) (fun hb5=>?_)
   ·let E9:Env:=[(12,.bool (decide (a2 < 1))),(11,.bool (decide (a2 < 1))),(10,.i a2),(6,.i 0),(0,.str a0),(1,w34 a1),(2,.i a2)]
    let E12:Env:=[(18,.bool (decide ((a1.length:Int) ≤ a2))),(17,.bool (decide ((a1.length:Int) ≤ a2))),(16,.bool (decide ((a1.length:Int) ≤ a2))),(15,.i (a1.length:Int)),(14,w34 a1),(13,.i a2),(12,.bool false),(11,.bool false),(10,.i a2),(6,.i 0),(0,.str a0),(1,w34 a1),(2,.i a2)]
    let E13:Env:=[(50,.bool true),(49,.tuple []),(48,.tuple []),(47,.tuple []),(46,.tuple []),(45,.tuple []),(44,.tuple []),(43,.tuple []),(42,.tuple []),(41,.tuple []),(40,.tuple []),(39,.tuple []),(38,.tuple []),(37,.bool true),(36,.bool true),(35,.tuple []),(34,.tuple []),(33,.tuple []),(32,.tuple []),(31,.tuple []),(30,.tuple []),(29,.tuple []),(28,.bool true),(27,.bool true),(26,.tuple []),(25,.tuple []),(24,.tuple []),(23,.tuple []),(22,.tuple []),(21,.tuple []),(20,.tuple []),(19,.tuple []),(18,.bool true),(17,.bool true),(16,.bool true),(15,.i (a1.length:Int)),(14,w34 a1),(13,.i a2),(12,.bool false),(11,.bool false),(10,.i a2),(6,.i 0),(0,.str a0),(1,w34 a1),(2,.i a2)]
    refine oD (H':=(mkH [])) (nav [0] g72p1) E13 [(mkH []),(mkH []),(mkH [])] g72d0 (oDr 3 3 E9 (oDe (fun z=>[(12,.bool z),(11,.bool z),(10,.i a2),(6,.i 0),(0,.str a0),(1,w34 a1),(2,.i a2)]) hb4 (oDr 6 9 E12 (oDe (fun z=>[(18,.bool z),(17,.bool z),(16,.bool z),(15,.i (a1.length:Int)),(14,w34 a1),(13,.i a2),(12,.bool false),(11,.bool false),(10,.i a2),(6,.i 0),(0,.str a0),(1,w34 a1),(2,.i a2)]) hb5 (oDh 32 41 E13 (mkH []) [(mkH []),(mkH []),(mkH [])] .nil))))) ?_
    refine oK [0,1,2,50] [(0,.str a0),(1,w34 a1),(2,.i a2),(50,.bool true)] ?_
    exact hj4 true
   ·refine qA7 (fun x0_13 hx0_13=>?_)
    refine qA7 (fun x0_15 hx0_15=>?_)
    refine qEr (fun hb6=>?_) (fun hb6=>?_)
    ·let E9:Env:=[(12,.bool (decide (a2 < 1))),(11,.bool (decide (a2 < 1))),(10,.i a2),(6,.i 0),(0,.str a0),(1,w34 a1),(2,.i a2)]
     let E12:Env:=[(18,.bool (decide ((a1.length:Int) ≤ a2))),(17,.bool (decide ((a1.length:Int) ≤ a2))),(16,.bool (decide ((a1.length:Int) ≤ a2))),(15,.i (a1.length:Int)),(14,w34 a1),(13,.i a2),(12,.bool false),(11,.bool false),(10,.i a2),(6,.i 0),(0,.str a0),(1,w34 a1),(2,.i a2)]
     let E15:Env:=[(22,.i (fW .i64 (a2 - 1))),(21,.i a2),(20,w34 a1),(19,.str a0),(18,.bool false),(17,.bool false),(16,.bool false),(15,.i (a1.length:Int)),(14,w34 a1),(13,.i a2),(12,.bool false),(11,.bool false),(10,.i a2),(6,.i 0),(0,.str a0),(1,w34 a1),(2,.i a2)]
     let E16:Env:=((28,.bool (!x0_15)) :: (27,.bool (!x0_15)) :: (26,.bool (!x0_15)) :: (25,.bool x0_15) :: (24,n34 x0_13) :: (23,.vptr [.i x0_13.f0,.str x0_13.f1,.i x0_13.f2]) :: E15)
     let E17:Env:=[(50,.bool true),(49,.tuple []),(48,.tuple []),(47,.tuple []),(46,.tuple []),(45,.tuple []),(44,.tuple []),(43,.tuple []),(42,.tuple []),(41,.tuple []),(40,.tuple []),(39,.tuple []),(38,.tuple []),(37,.bool true),(36,.bool true),(35,.tuple []),(34,.tuple []),(33,.tuple []),(32,.tuple []),(31,.tuple []),(30,.tuple []),(29,.tuple []),(28,.bool true),(27,.bool true),(26,.bool true),(25,.bool x0_15),(24,n34 x0_13),(23,.vptr [.i x0_13.f0,.str x0_13.f1,.i x0_13.f2]),(22,.i (fW .i64 (a2 - 1))),(21,.i a2),(20,w34 a1),(19,.str a0),(18,.bool false),(17,.bool false),(16,.bool false),(15,.i (a1.length:Int)),(14,w34 a1),(13,.i a2),(12,.bool false),(11,.bool false),(10,.i a2),(6,.i 0),(0,.str a0),(1,w34 a1),(2,.i a2)]
     refine oD (H':=(mkH [])) (nav [0] g72p1) E17 [(mkH []),(mkH []),(mkH [])] g72d0 (oDr 3 3 E9 (oDe (fun z=>[(12,.bool z),(11,.bool z),(10,.i a2),(6,.i 0),(0,.str a0),(1,w34 a1),(2,.i a2)]) hb4 (oDr 6 9 E12 (oDe (fun z=>[(18,.bool z),(17,.bool z),(16,.bool z),(15,.i (a1.length:Int)),(14,w34 a1),(13,.i a2),(12,.bool false),(11,.bool false),(10,.i a2),(6,.i 0),(0,.str a0),(1,w34 a1),(2,.i a2)]) hb5 (oDr 4 13 E15 (qA9 (l':=(opsAt g72p1).toList.drop 14) (eE:=((23,.vptr [.i x0_13.f0,.str x0_13.f1,.i x0_13.f2]) :: E15)) (hs:=[]) (x:=x0_13) (fun (x0_13:S33)=>(.vptr [.i x0_13.f0,.str x0_13.f1,.i x0_13.f2],(mkH []))) (vidxH (sz:=3) qB (by kernel_rfl)) hx0_13 (by kernel_rfl) (oDr 1 15 ((24,n34 x0_13) :: (23,.vptr [.i x0_13.f0,.str x0_13.f1,.i x0_13.f2]) :: E15) (qAn (l':=(opsAt g72p1).toList.drop 16) (eE:=((25,.bool x0_15) :: (24,n34 x0_13) :: (23,.vptr [.i x0_13.f0,.str x0_13.f1,.i x0_13.f2]) :: E15)) (hs:=[(mkH [])]) (fi:=89) (args:=[.str a0,n34 x0_13]) (v := .bool x0_15) (by kernel_rfl) (by kernel_rfl) (by kernel_rfl) (qHb k a0 x0_13 x0_15 hx0_15) (by kernel_rfl) (oDr 3 19 E16 (oDe (fun z=>[(28,.bool z),(27,.bool z),(26,.bool z),(25,.bool x0_15),(24,n34 x0_13),(23,.vptr [.i x0_13.f0,.str x0_13.f1,.i x0_13.f2]),(22,.i (fW .i64 (a2 - 1))),(21,.i a2),(20,w34 a1),(19,.str a0),(18,.bool false),(17,.bool false),(16,.bool false),(15,.i (a1.length:Int)),(14,w34 a1),(13,.i a2),(12,.bool false),(11,.bool false),(10,.i a2),(6,.i 0),(0,.str a0),(1,w34 a1),(2,.i a2)]) hb6 (oDh 22 41 E17 (mkH []) [(mkH []),(mkH [])] .nil))))))))))) ?_
     refine oK [0,1,2,50] [(0,.str a0),(1,w34 a1),(2,.i a2),(50,.bool true)] ?_
     exact hj4 true
    ·refine qA7 (fun x0_22 hx0_22=>?_)
     refine qA7 (fun x0_24 hx0_24=>?_)
     refine qEr (fun hb7=>?_) (fun hb7=>?_)
     ·let E9:Env:=[(12,.bool (decide (a2 < 1))),(11,.bool (decide (a2 < 1))),(10,.i a2),(6,.i 0),(0,.str a0),(1,w34 a1),(2,.i a2)]
      let E12:Env:=[(18,.bool (decide ((a1.length:Int) ≤ a2))),(17,.bool (decide ((a1.length:Int) ≤ a2))),(16,.bool (decide ((a1.length:Int) ≤ a2))),(15,.i (a1.length:Int)),(14,w34 a1),(13,.i a2),(12,.bool false),(11,.bool false),(10,.i a2),(6,.i 0),(0,.str a0),(1,w34 a1),(2,.i a2)]
      let E15:Env:=[(22,.i (fW .i64 (a2 - 1))),(21,.i a2),(20,w34 a1),(19,.str a0),(18,.bool false),(17,.bool false),(16,.bool false),(15,.i (a1.length:Int)),(14,w34 a1),(13,.i a2),(12,.bool false),(11,.bool false),(10,.i a2),(6,.i 0),(0,.str a0),(1,w34 a1),(2,.i a2)]
      let E16:Env:=((28,.bool (!x0_15)) :: (27,.bool (!x0_15)) :: (26,.bool (!x0_15)) :: (25,.bool x0_15) :: (24,n34 x0_13) :: (23,.vptr [.i x0_13.f0,.str x0_13.f1,.i x0_13.f2]) :: E15)
      let E19:Env:=[(31,.i a2),(30,w34 a1),(29,.str a0),(28,.bool false),(27,.bool false),(26,.bool false),(25,.bool x0_15),(24,n34 x0_13),(23,.vptr [.i x0_13.f0,.str x0_13.f1,.i x0_13.f2]),(22,.i (fW .i64 (a2 - 1))),(21,.i a2),(20,w34 a1),(19,.str a0),(18,.bool false),(17,.bool false),(16,.bool false),(15,.i (a1.length:Int)),(14,w34 a1),(13,.i a2),(12,.bool false),(11,.bool false),(10,.i a2),(6,.i 0),(0,.str a0),(1,w34 a1),(2,.i a2)]
      let E20:Env:=((37,.bool (!x0_24)) :: (36,.bool (!x0_24)) :: (35,.bool (!x0_24)) :: (34,.bool x0_24) :: (33,n34 x0_22) :: (32,.vptr [.i x0_22.f0,.str x0_22.f1,.i x0_22.f2]) :: E19)
      let E21:Env:=[(50,.bool true),(49,.tuple []),(48,.tuple []),(47,.tuple []),(46,.tuple []),(45,.tuple []),(44,.tuple []),(43,.tuple []),(42,.tuple []),(41,.tuple []),(40,.tuple []),(39,.tuple []),(38,.tuple []),(37,.bool true),(36,.bool true),(35,.bool true),(34,.bool x0_24),(33,n34 x0_22),(32,.vptr [.i x0_22.f0,.str x0_22.f1,.i x0_22.f2]),(31,.i a2),(30,w34 a1),(29,.str a0),(28,.bool false),(27,.bool false),(26,.bool false),(25,.bool x0_15),(24,n34 x0_13),(23,.vptr [.i x0_13.f0,.str x0_13.f1,.i x0_13.f2]),(22,.i (fW .i64 (a2 - 1))),(21,.i a2),(20,w34 a1),(19,.str a0),(18,.bool false),(17,.bool false),(16,.bool false),(15,.i (a1.length:Int)),(14,w34 a1),(13,.i a2),(12,.bool false),(11,.bool false),(10,.i a2),(6,.i 0),(0,.str a0),(1,w34 a1),(2,.i a2)]
      refine oD (H':=(mkH [])) (nav [0] g72p1) E21 [(mkH []),(mkH []),(mkH [])] g72d0 (oDr 3 3 E9 (oDe (fun z=>[(12,.bool z),(11,.bool z),(10,.i a2),(6,.i 0),(0,.str a0),(1,w34 a1),(2,.i a2)]) hb4 (oDr 6 9 E12 (oDe (fun z=>[(18,.bool z),(17,.bool z),(16,.bool z),(15,.i (a1.length:Int)),(14,w34 a1),(13,.i a2),(12,.bool false),(11,.bool false),(10,.i a2),(6,.i 0),(0,.str a0),(1,w34 a1),(2,.i a2)]) hb5 (oDr 4 13 E15 (qA9 (l':=(opsAt g72p1).toList.drop 14) (eE:=((23,.vptr [.i x0_13.f0,.str x0_13.f1,.i x0_13.f2]) :: E15)) (hs:=[]) (x:=x0_13) (fun (x0_13:S33)=>(.vptr [.i x0_13.f0,.str x0_13.f1,.i x0_13.f2],(mkH []))) (vidxH (sz:=3) qB (by kernel_rfl)) hx0_13 (by kernel_rfl) (oDr 1 15 ((24,n34 x0_13) :: (23,.vptr [.i x0_13.f0,.str x0_13.f1,.i x0_13.f2]) :: E15) (qAn (l':=(opsAt g72p1).toList.drop 16) (eE:=((25,.bool x0_15) :: (24,n34 x0_13) :: (23,.vptr [.i x0_13.f0,.str x0_13.f1,.i x0_13.f2]) :: E15)) (hs:=[(mkH [])]) (fi:=89) (args:=[.str a0,n34 x0_13]) (v := .bool x0_15) (by kernel_rfl) (by kernel_rfl) (by kernel_rfl) (qHb k a0 x0_13 x0_15 hx0_15) (by kernel_rfl) (oDr 3 19 E16 (oDe (fun z=>[(28,.bool z),(27,.bool z),(26,.bool z),(25,.bool x0_15),(24,n34 x0_13),(23,.vptr [.i x0_13.f0,.str x0_13.f1,.i x0_13.f2]),(22,.i (fW .i64 (a2 - 1))),(21,.i a2),(20,w34 a1),(19,.str a0),(18,.bool false),(17,.bool false),(16,.bool false),(15,.i (a1.length:Int)),(14,w34 a1),(13,.i a2),(12,.bool false),(11,.bool false),(10,.i a2),(6,.i 0),(0,.str a0),(1,w34 a1),(2,.i a2)]) hb6 (oDr 3 22 E19 (qA9 (l':=(opsAt g72p1).toList.drop 23) (eE:=((32,.vptr [.i x0_22.f0,.str x0_22.f1,.i x0_22.f2]) :: E19)) (hs:=[]) (x:=x0_22) (fun (x0_22:S33)=>(.vptr [.i x0_22.f0,.str x0_22.f1,.i x0_22.f2],(mkH []))) (vidxH (sz:=3) qB (by kernel_rfl)) hx0_22 (by kernel_rfl) (oDr 1 24 ((33,n34 x0_22) :: (32,.vptr [.i x0_22.f0,.str x0_22.f1,.i x0_22.f2]) :: E19) (qAn (l':=(opsAt g72p1).toList.drop 25) (eE:=((34,.bool x0_24) :: (33,n34 x0_22) :: (32,.vptr [.i x0_22.f0,.str x0_22.f1,.i x0_22.f2]) :: E19)) (hs:=[(mkH [])]) (fi:=89) (args:=[.str a0,n34 x0_22]) (v := .bool x0_24) (by kernel_rfl) (by kernel_rfl) (by kernel_rfl) (qHb k a0 x0_22 x0_24 hx0_24) (by kernel_rfl) (oDr 3 28 E20 (oDe (fun z=>[(37,.bool z),(36,.bool z),(35,.bool z),(34,.bool x0_24),(33,n34 x0_22),(32,.vptr [.i x0_22.f0,.str x0_22.f1,.i x0_22.f2]),(31,.i a2),(30,w34 a1),(29,.str a0),(28,.bool false),(27,.bool false),(26,.bool false),(25,.bool x0_15),(24,n34 x0_13),(23,.vptr [.i x0_13.f0,.str x0_13.f1,.i x0_13.f2]),(22,.i (fW .i64 (a2 - 1))),(21,.i a2),(20,w34 a1),(19,.str a0),(18,.bool false),(17,.bool false),(16,.bool false),(15,.i (a1.length:Int)),(14,w34 a1),(13,.i a2),(12,.bool false),(11,.bool false),(10,.i a2),(6,.i 0),(0,.str a0),(1,w34 a1),(2,.i a2)]) hb7 (oDh 13 41 E21 (mkH []) [(mkH [])] .nil))))))))))))))))) ?_
      refine oK [0,1,2,50] [(0,.str a0),(1,w34 a1),(2,.i a2),(50,.bool true)] ?_
      exact hj4 true
     ·refine qA7 (fun x0_31 hx0_31=>?_)
      refine qA7 (fun x0_33 hx0_33=>?_)
      refine qA7 (fun x0_36 hx0_36=>?_)
      let E9:Env:=[(12,.bool (decide (a2 < 1))),(11,.bool (decide (a2 < 1))),(10,.i a2),(6,.i 0),(0,.str a0),(1,w34 a1),(2,.i a2)]
      let E12:Env:=[(18,.bool (decide ((a1.length:Int) ≤ a2))),(17,.bool (decide ((a1.length:Int) ≤ a2))),(16,.bool (decide ((a1.length:Int) ≤ a2))),(15,.i (a1.length:Int)),(14,w34 a1),(13,.i a2),(12,.bool false),(11,.bool false),(10,.i a2),(6,.i 0),(0,.str a0),(1,w34 a1),(2,.i a2)]
      let E15:Env:=[(22,.i (fW .i64 (a2 - 1))),(21,.i a2),(20,w34 a1),(19,.str a0),(18,.bool false),(17,.bool false),(16,.bool false),(15,.i (a1.length:Int)),(14,w34 a1),(13,.i a2),(12,.bool false),(11,.bool false),(10,.i a2),(6,.i 0),(0,.str a0),(1,w34 a1),(2,.i a2)]
      let E16:Env:=((28,.bool (!x0_15)) :: (27,.bool (!x0_15)) :: (26,.bool (!x0_15)) :: (25,.bool x0_15) :: (24,n34 x0_13) :: (23,.vptr [.i x0_13.f0,.str x0_13.f1,.i x0_13.f2]) :: E15)
      let E19:Env:=[(31,.i a2),(30,w34 a1),(29,.str a0),(28,.bool false),(27,.bool false),(26,.bool false),(25,.bool x0_15),(24,n34 x0_13),(23,.vptr [.i x0_13.f0,.str x0_13.f1,.i x0_13.f2]),(22,.i (fW .i64 (a2 - 1))),(21,.i a2),(20,w34 a1),(19,.str a0),(18,.bool false),(17,.bool false),(16,.bool false),(15,.i (a1.length:Int)),(14,w34 a1),(13,.i a2),(12,.bool false),(11,.bool false),(10,.i a2),(6,.i 0),(0,.str a0),(1,w34 a1),(2,.i a2)]
      let E20:Env:=((37,.bool (!x0_24)) :: (36,.bool (!x0_24)) :: (35,.bool (!x0_24)) :: (34,.bool x0_24) :: (33,n34 x0_22) :: (32,.vptr [.i x0_22.f0,.str x0_22.f1,.i x0_22.f2]) :: E19)
      let E23:Env:=[(40,.i (fW .i64 (a2 - 1))),(39,.i a2),(38,w34 a1),(37,.bool false),(36,.bool false),(35,.bool false),(34,.bool x0_24),(33,n34 x0_22),(32,.vptr [.i x0_22.f0,.str x0_22.f1,.i x0_22.f2]),(31,.i a2),(30,w34 a1),(29,.str a0),(28,.bool false),(27,.bool false),(26,.bool false),(25,.bool x0_15),(24,n34 x0_13),(23,.vptr [.i x0_13.f0,.str x0_13.f1,.i x0_13.f2]),(22,.i (fW .i64 (a2 - 1))),(21,.i a2),(20,w34 a1),(19,.str a0),(18,.bool false),(17,.bool false),(16,.bool false),(15,.i (a1.length:Int)),(14,w34 a1),(13,.i a2),(12,.bool false),(11,.bool false),(10,.i a2),(6,.i 0),(0,.str a0),(1,w34 a1),(2,.i a2)]
      let E24:Env:=((45,.i a2) :: (44,w34 a1) :: (43,.i x0_33) :: (42,n34 x0_31) :: (41,.vptr [.i x0_31.f0,.str x0_31.f1,.i x0_31.f2]) :: E23)
      let E25:Env:=((50,.bool (decide (x0_36.f2 < x0_33))) :: (49,.bool (decide (x0_36.f2 < x0_33))) :: (48,.i x0_36.f2) :: (47,.vptr [.i x0_36.f2]) :: (46,.vptr [.i x0_36.f0,.str x0_36.f1,.i x0_36.f2]) :: E24)
      refine oD (H':=(mkH [])) (nav [0] g72p1) E25 [(mkH []),(mkH []),(mkH [])] g72d0 (oDr 3 3 E9 (oDe (fun z=>[(12,.bool z),(11,.bool z),(10,.i a2),(6,.i 0),(0,.str a0),(1,w34 a1),(2,.i a2)]) hb4 (oDr 6 9 E12 (oDe (fun z=>[(18,.bool z),(17,.bool z),(16,.bool z),(15,.i (a1.length:Int)),(14,w34 a1),(13,.i a2),(12,.bool false),(11,.bool false),(10,.i a2),(6,.i 0),(0,.str a0),(1,w34 a1),(2,.i a2)]) hb5 (oDr 4 13 E15 (qA9 (l':=(opsAt g72p1).toList.drop 14) (eE:=((23,.vptr [.i x0_13.f0,.str x0_13.f1,.i x0_13.f2]) :: E15)) (hs:=[]) (x:=x0_13) (fun (x0_13:S33)=>(.vptr [.i x0_13.f0,.str x0_13.f1,.i x0_13.f2],(mkH []))) (vidxH (sz:=3) qB (by kernel_rfl)) hx0_13 (by kernel_rfl) (oDr 1 15 ((24,n34 x0_13) :: (23,.vptr [.i x0_13.f0,.str x0_13.f1,.i x0_13.f2]) :: E15) (qAn (l':=(opsAt g72p1).toList.drop 16) (eE:=((25,.bool x0_15) :: (24,n34 x0_13) :: (23,.vptr [.i x0_13.f0,.str x0_13.f1,.i x0_13.f2]) :: E15)) (hs:=[(mkH [])]) (fi:=89) (args:=[.str a0,n34 x0_13]) (v := .bool x0_15) (by kernel_rfl) (by kernel_rfl) (by kernel_rfl) (qHb k a0 x0_13 x0_15 hx0_15) (by kernel_rfl) (oDr 3 19 E16 (oDe (fun z=>[(28,.bool z),(27,.bool z),(26,.bool z),(25,.bool x0_15),(24,n34 x0_13),(23,.vptr [.i x0_13.f0,.str x0_13.f1,.i x0_13.f2]),(22,.i (fW .i64 (a2 - 1))),(21,.i a2),(20,w34 a1),(19,.str a0),(18,.bool false),(17,.bool false),(16,.bool false),(15,.i (a1.length:Int)),(14,w34 a1),(13,.i a2),(12,.bool false),(11,.bool false),(10,.i a2),(6,.i 0),(0,.str a0),(1,w34 a1),(2,.i a2)]) hb6 (oDr 3 22 E19 (qA9 (l':=(opsAt g72p1).toList.drop 23) (eE:=((32,.vptr [.i x0_22.f0,.str x0_22.f1,.i x0_22.f2]) :: E19)) (hs:=[]) (x:=x0_22) (fun (x0_22:S33)=>(.vptr [.i x0_22.f0,.str x0_22.f1,.i x0_22.f2],(mkH []))) (vidxH (sz:=3) qB (by kernel_rfl)) hx0_22 (by kernel_rfl) (oDr 1 24 ((33,n34 x0_22) :: (32,.vptr [.i x0_22.f0,.str x0_22.f1,.i x0_22.f2]) :: E19) (qAn (l':=(opsAt g72p1).toList.drop 25) (eE:=((34,.bool x0_24) :: (33,n34 x0_22) :: (32,.vptr [.i x0_22.f0,.str x0_22.f1,.i x0_22.f2]) :: E19)) (hs:=[(mkH [])]) (fi:=89) (args:=[.str a0,n34 x0_22]) (v := .bool x0_24) (by kernel_rfl) (by kernel_rfl) (by kernel_rfl) (qHb k a0 x0_22 x0_24 hx0_24) (by kernel_rfl) (oDr 3 28 E20 (oDe (fun z=>[(37,.bool z),(36,.bool z),(35,.bool z),(34,.bool x0_24),(33,n34 x0_22),(32,.vptr [.i x0_22.f0,.str x0_22.f1,.i x0_22.f2]),(31,.i a2),(30,w34 a1),(29,.str a0),(28,.bool false),(27,.bool false),(26,.bool false),(25,.bool x0_15),(24,n34 x0_13),(23,.vptr [.i x0_13.f0,.str x0_13.f1,.i x0_13.f2]),(22,.i (fW .i64 (a2 - 1))),(21,.i a2),(20,w34 a1),(19,.str a0),(18,.bool false),(17,.bool false),(16,.bool false),(15,.i (a1.length:Int)),(14,w34 a1),(13,.i a2),(12,.bool false),(11,.bool false),(10,.i a2),(6,.i 0),(0,.str a0),(1,w34 a1),(2,.i a2)]) hb7 (oDr 3 31 E23 (qA9 (l':=(opsAt g72p1).toList.drop 32) (eE:=((41,.vptr [.i x0_31.f0,.str x0_31.f1,.i x0_31.f2]) :: E23)) (hs:=[]) (x:=x0_31) (fun (x0_31:S33)=>(.vptr [.i x0_31.f0,.str x0_31.f1,.i x0_31.f2],(mkH []))) (vidxH (sz:=3) qB (by kernel_rfl)) hx0_31 (by kernel_rfl) (oDr 1 33 ((42,n34 x0_31) :: (41,.vptr [.i x0_31.f0,.str x0_31.f1,.i x0_31.f2]) :: E23) (qAn (l':=(opsAt g72p1).toList.drop 34) (eE:=((43,.i x0_33) :: (42,n34 x0_31) :: (41,.vptr [.i x0_31.f0,.str x0_31.f1,.i x0_31.f2]) :: E23)) (hs:=[(mkH [])]) (fi:=90) (args:=[n34 x0_31]) (v := .i x0_33) (by kernel_rfl) (by kernel_rfl) (by kernel_rfl) (g90_ok k x0_31 x0_33 hx0_33) (by kernel_rfl) (oDr 2 36 E24 (qA9 (l':=(opsAt g72p1).toList.drop 37) (eE:=((46,.vptr [.i x0_36.f0,.str x0_36.f1,.i x0_36.f2]) :: E24)) (hs:=[]) (x:=x0_36) (fun (x0_36:S33)=>(.vptr [.i x0_36.f0,.str x0_36.f1,.i x0_36.f2],(mkH []))) (vidxH (sz:=3) qB (by kernel_rfl)) hx0_36 (by kernel_rfl) (oDr 4 41 E25 .nil))))))))))))))))))))))) ?_
      refine oK [0,1,2,50] [(0,.str a0),(1,w34 a1),(2,.i a2),(50,.bool (decide (x0_36.f2 < x0_33)))] ?_
      exact hj4 (decide (x0_36.f2 < x0_33))
def Xg57:Fx Bool:=⟨Try.prog,cx,Try.f57,fun r => .bool r,0,fun _=>H0,cxTi,cxOrd,fun _=>none,false⟩
def g57p1:Pt:=nav [0,0,0] (nav [0] (bodyAt Try.f57))
def g57 (k:Nat) (a0:(List Nat)) (a1:(List S33)) (a2:Int):Option Bool :=
 (g72 k a0 a1 a2).bind fun x0_3=>some (decide (1 < x0_3))
theorem g57_ok (k:Nat) (a0:(List Nat)) (a1:(List S33)) (a2:Int) (r:Bool) (h:g57 k a0 a1 a2 = some r):PureOk Try.prog 57 [.str a0,w34 a1,.i a2] (.bool r):=by
 refine qA4 Xg57 (fun _=>⟨rfl,rfl⟩) Try.func57 (by decide +kernel) (by kernel_rfl) (t:=g57 k a0 a1 a2) ?_ h
 unfold g57
 refine qA (eE:=[(0,.str a0),(1,w34 a1),(2,.i a2)]) (by kernel_rfl) ?_
 refine oH 9 (atN 3 (ctl1 g57p1)) [(9,.i a2),(8,w34 a1),(7,.str a0),(6,.bool false),(0,.str a0),(1,w34 a1),(2,.i a2)] (mkH []) ?_
 refine oA (fun (x0_3:Int) => .i x0_3) (atN 4 (ctl1 g57p1)) 10 [.str a0,w34 a1,.i a2] (g72_ok k a0 a1 a2) fun x0_3 hx0_3=>?_
 exact oQ 4
def Xg65:Fx Int:=⟨Try.prog,cx,Try.f65,fun r => .i r,0,fun _=>H0,cxTi,cxOrd,fun _=>none,false⟩
def g65p3:Pt:=nav [0,0] (nav [0,0,0,0,0] (nav [0,0,0,0] (nav [0] (bodyAt Try.f65))))
def g65p4:Pt:=nav [1,0] g65p3
def g65p8:Pt:=nav [0,0] (nav [2,0] g65p3)
def g65 (k:Nat) (a0:(List Nat)):Option Int :=
 jn (fun (z0:Bool)=>if z0 then (some (10:Int)) else (some (0:Int))) (fun j0=>if (eqL a0 [43]) then (j0 true) else (if (eqL a0 [45]) then (j0 true) else (if (eqL a0 [110,111,116]) then (j0 true) else (j0 (eqL a0 [98,110,111,116])))))
theorem g65_ok (k:Nat) (a0:(List Nat)) (r:Int) (h:g65 k a0 = some r):PureOk Try.prog 65 [.str a0] (.i r):=by
 refine qA4 Xg65 (fun _=>⟨rfl,rfl⟩) Try.func65 (by decide +kernel) (by kernel_rfl) (t:=g65 k a0) ?_ h
 unfold g65
 refine qA (eE:=[(0,.str a0)]) (by kernel_rfl) ?_
 let E1:Env:=[(4,.bool (eqL a0 [43])),(5,.bool (eqL a0 [43])),(3,.str a0),(2,.i 0),(0,.str a0)]
 refine oH 16 g65p3 E1 (mkH []) ?_
 refine oJ g65p4 (fun (z0:Bool)=>[(4,.bool z0)]) (fun (z0:Bool)=>(mkH [])) (fun z0=>?_) (fun j0 hj0=>?_)
 ·refine oS 4 (fun hb=>?_) (fun hb=>?_)
  ·exact oQ 6
  ·exact oQ 7
 ·refine oS 4 (fun hb=>?_) (fun hb=>?_)
  ·refine oLH 2 g65p4 [(4,.bool true)] (mkH []) ?_
   exact hj0 true
  ·refine oH 6 g65p8 ((4,.bool (eqL a0 [45])) :: (6,.bool (eqL a0 [45])) :: (4,.bool false) :: E1) (mkH []) ?_
   refine oS 4 (fun hb=>?_) (fun hb=>?_)
   ·refine oL 2 g65p4 [(4,.bool true)] ?_
    exact hj0 true
   ·refine oL 6 (nav [0,0] (nav [2,0] g65p8)) [(3,.str a0),(4,.bool (eqL a0 [110,111,116]))] ?_
    refine oS 4 (fun hb=>?_) (fun hb=>?_)
    ·refine oL 2 g65p4 [(4,.bool true)] ?_
     exact hj0 true
    ·refine oL 5 g65p4 [(4,.bool (eqL a0 [98,110,111,116]))] ?_
     exact hj0 (eqL a0 [98,110,111,116])
def Xg75:Fx Bool:=⟨Try.prog,cx,Try.f75,fun r => .bool r,0,fun _=>H0,cxTi,cxOrd,fun _=>none,false⟩
def g75 (k:Nat) (a0:Int):Option Bool :=
 if (decide (1 ≤ a0)) then (some (decide (a0 ≤ 7))) else (some false)
theorem g75_ok (k:Nat) (a0:Int) (r:Bool) (h:g75 k a0 = some r):PureOk Try.prog 75 [.i a0] (.bool r):=by
 refine qA4 Xg75 (fun _=>⟨rfl,rfl⟩) Try.func75 (by decide +kernel) (by kernel_rfl) (t:=g75 k a0) ?_ h
 unfold g75
 refine qA (eE:=[(0,.i a0)]) (by kernel_rfl) ?_
 refine oH 9 (atN 3 (ctl1 (nav [0,0,0] (nav [0] (bodyAt Try.f75))))) [(5,.bool (decide (1 ≤ a0))),(4,.bool (decide (1 ≤ a0))),(3,.i a0),(2,.bool false),(0,.i a0)] (mkH []) ?_
 refine oS 5 (fun hb=>?_) (fun hb=>?_)
 ·exact oQ 6
 ·exact oQ 6
def Xg85:Fx Bool:=⟨Try.prog,cx,Try.f85,fun r => .bool r,0,fun _=>H0,cxTi,cxOrd,fun _=>none,false⟩
def g85p3:Pt:=nav [0,0] (nav [0,0,0,0] (nav [0,0,0,0] (nav [0] (bodyAt Try.f85))))
def g85p4:Pt:=nav [1,0] g85p3
def g85p6:Pt:=nav [0,0,0] g85p4
def g85p7:Pt:=nav [0,0] (nav [2,0,0] g85p3)
def g85p9:Pt:=nav [1,0] g85p7
def g85p13:Pt:=nav [0,0] (nav [2,0] g85p7)
def g85p15:Pt:=nav [0,0] (nav [2,0] g85p13)
def g85p17:Pt:=nav [0,0] (nav [2,0] g85p15)
def g85p19:Pt:=nav [0,0] (nav [2,0] g85p17)
def g85 (k:Nat) (a0:S28):Option Bool :=
 if (decide (a0.f0 = 1)) then ((nthS a0.f1 0).bind fun x0_2=>if (!decide (x0_2 = 36)) then (if (!decide (x0_2 = 34)) then (if (decide (x0_2 < 48)) then (some true) else (some (decide (57 < x0_2)))) else (some false)) else (some false)) else (jn (fun (z1:Bool)=>if z1 then (some true) else (some false)) (fun j1=>if (decide (a0.f0 = 2)) then (j1 true) else (if (decide (a0.f0 = 3)) then (j1 true) else (if (decide (a0.f0 = 8)) then (j1 true) else (if (decide (a0.f0 = 9)) then (j1 true) else (if (decide (a0.f0 = 10)) then (j1 true) else (if (decide (a0.f0 = 11)) then (j1 true) else (j1 (decide (a0.f0 = 12))))))))))
theorem g85_ok (k:Nat) (a0:S28) (r:Bool) (h:g85 k a0 = some r):PureOk Try.prog 85 [.agg [.i a0.f0,.str a0.f1,q29 a0.f2,.bool a0.f3,.bool a0.f4,w9 a0.f5,w9 a0.f6]] (.bool r):=by
 refine qA4 Xg85 (fun _=>⟨rfl,rfl⟩) Try.func85 (by decide +kernel) (by kernel_rfl) (t:=g85 k a0) ?_ h
 unfold g85
 refine qA (eE:=[(0,.agg [.i a0.f0,.str a0.f1,q29 a0.f2,.bool a0.f3,.bool a0.f4,w9 a0.f5,w9 a0.f6])]) (by kernel_rfl) ?_
 let E1:Env:=[(6,.bool (decide (a0.f0 = 1))),(7,.bool (decide (a0.f0 = 1))),(5,.i a0.f0),(4,.ptr 0 7 0),(2,.bool false),(1,.ptr 0 7 0),(0,n29 a0)]
 refine oH 17 g85p3 E1 (mkH [⟨e29 a0,0,false⟩]) ?_
 refine oS 6 (fun hb=>?_) (fun hb=>?_)
 ·refine oR 5 (atN 2 (ctl1 g85p4)) ((9,.str a0.f1) :: (8,.ptr 0 7 1) :: (6,.bool true) :: E1) ?_
  refine oC (fun (x0_2:Int)=>(.y x0_2,(mkH [⟨e29 a0,0,false⟩]))) (atN 3 (ctl1 g85p4)) 10 (idxH (by kernel_rfl)) fun x0_2 hx0_2=>?_
  refine oLH 3 g85p6 [(3,.y x0_2)] (mkH [⟨e29 a0,0,false⟩]) ?_
  refine oR 4 (atN 3 (ctl1 g85p6)) [(13,.bool (!decide (x0_2 = 36))),(12,.bool (!decide (x0_2 = 36))),(11,.y x0_2),(3,.y x0_2)] ?_
  refine oS 13 (fun hb=>?_) (fun hb=>?_)
  ·let E3:Env:=[(17,.bool (!decide (x0_2 = 34))),(16,.bool (!decide (x0_2 = 34))),(15,.bool (!decide (x0_2 = 34))),(14,.y x0_2),(13,.bool true),(13,.bool (!decide (x0_2 = 36))),(12,.bool (!decide (x0_2 = 36))),(11,.y x0_2),(3,.y x0_2)]
   refine oR 4 (atN 7 (ctl1 g85p6)) E3 ?_
   refine oS 17 (fun hb=>?_) (fun hb=>?_)
   ·refine oR 3 (atN 10 (ctl1 g85p6)) ((20,.bool (decide (x0_2 < 48))) :: (19,.bool (decide (x0_2 < 48))) :: (18,.y x0_2) :: (17,.bool true) :: E3) ?_
    refine oS 20 (fun hb=>?_) (fun hb=>?_)
    ·exact oQ 7
    ·exact oQ 7
   ·exact oQ 10
  ·exact oQ 14
 ·refine oL 7 g85p7 [(5,.i a0.f0),(25,.bool (decide (a0.f0 = 2)))] ?_
  let E8:Env:=[(5,.i a0.f0),(25,.bool (decide (a0.f0 = 2)))]
  refine oJ g85p9 (fun (z1:Bool)=>[(25,.bool z1)]) (fun (z1:Bool)=>(mkH [])) (fun z1=>?_) (fun j1 hj1=>?_)
  ·refine oS 25 (fun hb=>?_) (fun hb=>?_)
   ·exact oQ 6
   ·exact oQ 7
  ·refine oS 25 (fun hb=>?_) (fun hb=>?_)
   ·refine oLH 2 g85p9 [(25,.bool true)] (mkH [⟨e29 a0,0,false⟩]) ?_
    refine qAa [] [⟨e29 a0,0,false⟩] (by kernel_rfl) rfl (by kernel_rfl) trivial ?_
    exact hj1 true
   ·refine oH 6 g85p13 ((25,.bool (decide (a0.f0 = 3))) :: (27,.bool (decide (a0.f0 = 3))) :: (25,.bool false) :: E8) (mkH [⟨e29 a0,0,false⟩]) ?_
    refine oS 25 (fun hb=>?_) (fun hb=>?_)
    ·refine oL 2 g85p9 [(25,.bool true)] ?_
     refine qAa [] [⟨e29 a0,0,false⟩] (by kernel_rfl) rfl (by kernel_rfl) trivial ?_
     exact hj1 true
    ·refine oR 6 g85p15 ((25,.bool (decide (a0.f0 = 8))) :: (28,.bool (decide (a0.f0 = 8))) :: (25,.bool false) :: (25,.bool (decide (a0.f0 = 3))) :: (27,.bool (decide (a0.f0 = 3))) :: (25,.bool false) :: E8) ?_
     refine oS 25 (fun hb=>?_) (fun hb=>?_)
     ·refine oL 2 g85p9 [(25,.bool true)] ?_
      refine qAa [] [⟨e29 a0,0,false⟩] (by kernel_rfl) rfl (by kernel_rfl) trivial ?_
      exact hj1 true
     ·refine oL 6 g85p17 [(5,.i a0.f0),(25,.bool (decide (a0.f0 = 9)))] ?_
      let E10:Env:=[(5,.i a0.f0),(25,.bool (decide (a0.f0 = 9)))]
      refine oS 25 (fun hb=>?_) (fun hb=>?_)
      ·refine oL 2 g85p9 [(25,.bool true)] ?_
       refine qAa [] [⟨e29 a0,0,false⟩] (by kernel_rfl) rfl (by kernel_rfl) trivial ?_
       exact hj1 true
      ·refine oR 6 g85p19 ((25,.bool (decide (a0.f0 = 10))) :: (30,.bool (decide (a0.f0 = 10))) :: (25,.bool false) :: E10) ?_
       refine oS 25 (fun hb=>?_) (fun hb=>?_)
       ·refine oL 2 g85p9 [(25,.bool true)] ?_
        refine qAa [] [⟨e29 a0,0,false⟩] (by kernel_rfl) rfl (by kernel_rfl) trivial ?_
        exact hj1 true
       ·refine oR 6 (nav [0,0] (nav [2,0] g85p19)) ((25,.bool (decide (a0.f0 = 11))) :: (31,.bool (decide (a0.f0 = 11))) :: (25,.bool false) :: (25,.bool (decide (a0.f0 = 10))) :: (30,.bool (decide (a0.f0 = 10))) :: (25,.bool false) :: E10) ?_
        refine oS 25 (fun hb=>?_) (fun hb=>?_)
        ·refine oL 2 g85p9 [(25,.bool true)] ?_
         refine qAa [] [⟨e29 a0,0,false⟩] (by kernel_rfl) rfl (by kernel_rfl) trivial ?_
         exact hj1 true
        ·refine oL 5 g85p9 [(25,.bool (decide (a0.f0 = 12)))] ?_
         refine qAa [] [⟨e29 a0,0,false⟩] (by kernel_rfl) rfl (by kernel_rfl) trivial ?_
         exact hj1 (decide (a0.f0 = 12))
abbrev Ti9:Type:=(List Nat) → (List S33) → Int → Int → Option S33
def Xi9 (a0:(List Nat)) (a1:(List S33)) (a2:Int) (a3:Int):Fx S33:=⟨Try.prog,cx,Try.f49,fun r=>n34 r,1,fun r=>(mkH [⟨[.str a0,w34 a1,.i a2,.i a3],4,false⟩]),cxTi,cxOrd,fun _=>none,false⟩
def Pi9 (f:Ti9):Prop := ∀ a0 a1 a2 a3,PNh (Xi9 a0 a1 a2 a3) 49 [.ptr 0 4 0] (mkH [⟨[.str a0,w34 a1,.i a2,.i a3],4,false⟩]) (f a0 a1 a2 a3)
def i9p2:Pt:=nav [0,0,0,0] (nav [0,0,0,0] (nav [0] (bodyAt Try.f49)))
def i9p4:Pt:=nav [0,0] (nav [0,0,0] i9p2)
def i9p5:Pt:=nav [1,0,0,0,0] i9p4
def i9p7:Pt:=nav [0,0] i9p5
def i9p9:Pt:=nav [1,0] i9p7
def qNb (k:Nat)  (a0:(List Nat)) (a1:(List S33)) (a2:Int) (a3:Int) (ih:Int → Option S33):Int → Option S33 :=
 fun (y2_0:Int)=>if (decide (y2_0 < a3)) then ((nthL a1 y2_0).bind fun x0_5=>if (!decide (x0_5.f0 = 11)) then ((nthL a1 y2_0).bind fun x1_5=>some x1_5) else (ih (fW .i64 (y2_0 + 1)))) else (some (⟨(0:Int),([]:List Nat),(0:Int)⟩:S33))
def qLh (k:Nat)  (a0:(List Nat)) (a1:(List S33)) (a2:Int) (a3:Int) (n:Nat):Int → Option S33:=lp (fun _=>none) (qNb k a0 a1 a2 a3) n
theorem qNa (k:Nat)  (a0:(List Nat)) (a1:(List S33)) (a2:Int) (a3:Int) (n:Nat) (y2_0:Int):qLh k a0 a1 a2 a3 (n + 1) y2_0 = (if (decide (y2_0 < a3)) then ((nthL a1 y2_0).bind fun x0_5=>if (!decide (x0_5.f0 = 11)) then ((nthL a1 y2_0).bind fun x1_5=>some x1_5) else ((qLh k a0 a1 a2 a3 n) (fW .i64 (y2_0 + 1)))) else (some (⟨(0:Int),([]:List Nat),(0:Int)⟩:S33))):=rfl
theorem i9_l2_ok (k:Nat) (a0:(List Nat)) (a1:(List S33)) (a2:Int) (a3:Int)    : ∀ (n:Nat) (y2_0:Int),Ok (Xi9 a0 a1 a2 a3) i9p2 [(0,.ptr 0 4 0),(2,.ptr 1 3 0),(3,.i y2_0)] (mkH [⟨[.str a0,w34 a1,.i a2,.i a3],4,false⟩,⟨[.i 0,.str [],.i 0],0,false⟩]) (qLh k a0 a1 a2 a3 n y2_0):=by
 intro n
 induction n with
 | zero=>intro y2_0; exact ok_none
 | succ n ih =>
  intro y2_0
  show Ok _ _ _ _ (qNb k a0 a1 a2 a3 (qLh k a0 a1 a2 a3 n) y2_0)
  unfold qNb
  refine qAf (p':=nav [0] i9p2) (by kernel_rfl) ?_
  let E2:Env:=[(13,.bool (decide (y2_0 < a3))),(12,.i a3),(11,.ptr 0 4 3),(10,.ptr 0 4 0),(9,.ptr 0 4 0),(8,.i y2_0),(0,.ptr 0 4 0),(2,.ptr 1 3 0),(3,.i y2_0)]
  let Q1:Blk:=⟨[.str a0,w34 a1,.i a2,.i a3],4,false⟩
  let Q2:Blk:=⟨[.i 0,.str [],.i 0],0,false⟩
  refine oH 10 i9p4 E2 (mkH [Q1,Q2]) ?_
  refine oS 13 (fun hb=>?_) (fun hb=>?_)
  ·refine oR 11 (atN 5 (ctl1 i9p5)) ((20,.i y2_0) :: (19,w34 a1) :: (18,.ptr 0 4 1) :: (17,.ptr 0 4 0) :: (16,.ptr 0 4 0) :: (13,.bool true) :: E2) ?_
   refine oC (fun (x0_5:S33)=>(.vptr [.i x0_5.f0,.str x0_5.f1,.i x0_5.f2],(mkH [Q1,Q2]))) (atN 6 (ctl1 i9p5)) 21 (vidxH (sz:=3) qB (by kernel_rfl)) fun x0_5 hx0_5=>?_
   refine oLH 4 i9p7 [(0,.ptr 0 4 0),(2,.ptr 1 3 0),(3,.i y2_0),(24,.bool (!decide (x0_5.f0 = 11)))] (mkH [Q1,Q2]) ?_
   refine oS 24 (fun hb=>?_) (fun hb=>?_)
   ·refine oR 8 (atN 5 (ctl1 i9p9)) ((29,.i y2_0) :: (28,w34 a1) :: (27,.ptr 0 4 1) :: (26,.ptr 0 4 0) :: (25,.ptr 0 4 0) :: (24,.bool true) :: [(0,.ptr 0 4 0),(2,.ptr 1 3 0),(3,.i y2_0),(24,.bool (!decide (x0_5.f0 = 11)))]) ?_
    refine oC (fun (x1_5:S33)=>(.vptr [.i x1_5.f0,.str x1_5.f1,.i x1_5.f2],(mkH [Q1,Q2]))) (atN 6 (ctl1 i9p9)) 30 (vidxH (sz:=3) qB (by kernel_rfl)) fun x1_5 hx1_5=>?_
    exact oQF 4 [Q1,⟨e34 x1_5,3,false⟩] 1 [] [n34 x1_5] (n34 x1_5) .ps trivial
   ·refine oL 7 i9p2 [(0,.ptr 0 4 0),(2,.ptr 1 3 0),(3,.i (fW .i64 (y2_0 + 1)))] ?_
    exact ih (fW .i64 (y2_0 + 1))
  ·exact oQF 8 [Q1,⟨[.i 0,.str [],.i 0],3,false⟩] 1 [] [.agg [.i 0,.str [],.i 0]] (.agg [.i 0,.str [],.i 0]) .ps trivial
def i9 (k:Nat) (a0:(List Nat)) (a1:(List S33)) (a2:Int) (a3:Int):Option S33 :=
 qLh k a0 a1 a2 a3 k a2
theorem i9_all (k:Nat):∀ a0 a1 a2 a3 r,i9 k a0 a1 a2 a3 = some r → CallT Try.prog 49 [.ptr 0 4 0] (mkH [⟨[.str a0,w34 a1,.i a2,.i a3],4,false⟩]) ((Xi9 a0 a1 a2 a3).thr r) ((Xi9 a0 a1 a2 a3).enc r) ((Xi9 a0 a1 a2 a3).fin r):=by
 intro a0 a1 a2 a3 r h
 refine qA2 (Xi9 a0 a1 a2 a3) Try.func49 (by kernel_rfl) (by kernel_rfl) rfl (t:=i9 k a0 a1 a2 a3) ?_ h
 unfold i9
 refine qA (eE:=[(0,.ptr 0 4 0)]) (by kernel_rfl) ?_
 refine oLH 15 i9p2 [(0,.ptr 0 4 0),(2,.ptr 1 3 0),(3,.i a2)] (mkH [⟨[.str a0,w34 a1,.i a2,.i a3],4,false⟩,⟨[.i 0,.str [],.i 0],0,false⟩]) ?_
 exact (i9_l2_ok k a0 a1 a2 a3 k) a2
theorem qLg (k:Nat):Pi9 (i9 k):=fun a0 a1 a2 a3=>fun x h=>i9_all k a0 a1 a2 a3 x h
abbrev Ti10:Type:=(List Nat) → (List Nat) → (List S33) → Int → Int → Option Bool
def Xi10 (a0:(List Nat)) (a1:(List Nat)) (a2:(List S33)) (a3:Int) (a4:Int):Fx Bool:=⟨Try.prog,cx,Try.f51,fun r => .bool r,1,fun r=>(mkH [⟨[.str a1,w34 a2,.i a3,.i a4],4,false⟩]),cxTi,cxOrd,fun _=>none,false⟩
def Pi10 (f:Ti10):Prop := ∀ a0 a1 a2 a3 a4,PNh (Xi10 a0 a1 a2 a3 a4) 51 [.ptr 0 4 0,.str a0] (mkH [⟨[.str a1,w34 a2,.i a3,.i a4],4,false⟩]) (f a0 a1 a2 a3 a4)
def i10p1:Pt:=nav [0,0,0] (nav [0] (bodyAt Try.f51))
def i10p2:Pt:=nav [0,0,0] i10p1
def i10 (k:Nat) (a0:(List Nat)) (a1:(List Nat)) (a2:(List S33)) (a3:Int) (a4:Int):Option Bool :=
 (i9 k a1 a2 a3 a4).bind fun x0_1=>if (decide (x0_1.f0 = 9)) then (some (eqL x0_1.f1 a0)) else (if (decide (x0_1.f0 = 8)) then (some (eqL x0_1.f1 a0)) else (some false))
theorem i10_all (k:Nat):∀ a0 a1 a2 a3 a4 r,i10 k a0 a1 a2 a3 a4 = some r → CallT Try.prog 51 [.ptr 0 4 0,.str a0] (mkH [⟨[.str a1,w34 a2,.i a3,.i a4],4,false⟩]) ((Xi10 a0 a1 a2 a3 a4).thr r) ((Xi10 a0 a1 a2 a3 a4).enc r) ((Xi10 a0 a1 a2 a3 a4).fin r):=by
 intro a0 a1 a2 a3 a4 r h
 refine qA2 (Xi10 a0 a1 a2 a3 a4) Try.func51 (by kernel_rfl) (by kernel_rfl) rfl (t:=i10 k a0 a1 a2 a3 a4) ?_ h
 unfold i10
 refine qA (eE:=[(0,.ptr 0 4 0),(1,.str a0)]) (by kernel_rfl) ?_
 let Q1:Blk:=⟨[.str a1,w34 a2,.i a3,.i a4],4,false⟩
 refine oH 7 (atN 1 (ctl1 i10p1)) [(6,.ptr 0 4 0),(4,.bool false),(0,.ptr 0 4 0),(1,.str a0)] (mkH [Q1]) ?_
 refine oN (fun (x0_1:S33)=>n34 x0_1) (fun x0_1=>[Q1]) (atN 2 (ctl1 i10p1)) 7 [0] [] [] [.ptr 0 4 0] (qLg k a1 a2 a3 a4) trivial (fun _=>trivial) fun x0_1 hx0_1=>?_
 let E1:Env:=[(11,.bool (decide (x0_1.f0 = 9))),(10,.bool (decide (x0_1.f0 = 9))),(9,.i x0_1.f0),(8,.ptr 1 3 0),(5,.ptr 1 3 0),(7,n34 x0_1),(6,.ptr 0 4 0),(4,.bool false),(0,.ptr 0 4 0),(1,.str a0)]
 refine oH 9 (atN 4 (ctl1 i10p2)) E1 (mkH [Q1,⟨e34 x0_1,3,false⟩]) ?_
 refine oS 11 (fun hb=>?_) (fun hb=>?_)
 ·exact oQF 13 [Q1,⟨e34 x0_1,3,false⟩] 1 [] [.bool (eqL x0_1.f1 a0)] (.bool (eqL x0_1.f1 a0)) .ps trivial
 ·refine oR 5 (atN 9 (ctl1 i10p2)) ((16,.bool (decide (x0_1.f0 = 8))) :: (15,.bool (decide (x0_1.f0 = 8))) :: (14,.bool (decide (x0_1.f0 = 8))) :: (13,.i x0_1.f0) :: (12,.ptr 1 3 0) :: (11,.bool false) :: E1) ?_
  refine oS 16 (fun hb=>?_) (fun hb=>?_)
  ·exact oQF 8 [Q1,⟨e34 x0_1,3,false⟩] 1 [] [.bool (eqL x0_1.f1 a0)] (.bool (eqL x0_1.f1 a0)) .ps trivial
  ·exact oQF 8 [Q1,⟨e34 x0_1,3,false⟩] 1 [] [.bool false] (.bool false) .ps trivial
theorem qHa (k:Nat):Pi10 (i10 k):=fun a0 a1 a2 a3 a4=>fun x h=>i10_all k a0 a1 a2 a3 a4 x h
abbrev Ti15:Type:=(List Nat) → (List S33) → Int → Int → Option Bool
def Xi15 (a0:(List Nat)) (a1:(List S33)) (a2:Int) (a3:Int):Fx Bool:=⟨Try.prog,cx,Try.f71,fun r => .bool r,1,fun r=>(mkH [⟨[.str a0,w34 a1,.i a2,.i a3],4,false⟩]),cxTi,cxOrd,fun _=>none,false⟩
def Pi15 (f:Ti15):Prop := ∀ a0 a1 a2 a3,PNh (Xi15 a0 a1 a2 a3) 71 [.ptr 0 4 0] (mkH [⟨[.str a0,w34 a1,.i a2,.i a3],4,false⟩]) (f a0 a1 a2 a3)
def i15p1:Pt:=nav [0,0,0] (nav [0] (bodyAt Try.f71))
def i15d0:DP:=⟨[],[(0,0,0),(1,0,0),(3,0,0),(7,0,0),(0,0,0),(16,0,0),(48,0,0),(112,0,0),(255,0,0),(511,0,0),(1023,0,0),(2047,0,0),(4095,0,0),(8191,0,0),(1023,0,0),(17407,0,0),(50175,0,0),(115711,0,0),(262143,0,0),(524287,0,0),(1048575,0,0),(2097151,0,0),(4194303,0,0),(8388607,0,0)],24,thrown,[],H0⟩
def i15 (k:Nat) (a0:(List Nat)) (a1:(List S33)) (a2:Int) (a3:Int):Option Bool :=
 if (decide (a2 < a3)) then ((nthL a1 a2).bind fun x0_18=>some (decide (x0_18.f0 = 11))) else (some false)
theorem i15_all (k:Nat):∀ a0 a1 a2 a3 r,i15 k a0 a1 a2 a3 = some r → CallT Try.prog 71 [.ptr 0 4 0] (mkH [⟨[.str a0,w34 a1,.i a2,.i a3],4,false⟩]) ((Xi15 a0 a1 a2 a3).thr r) ((Xi15 a0 a1 a2 a3).enc r) ((Xi15 a0 a1 a2 a3).fin r):=by
 intro a0 a1 a2 a3 r h
 refine qA2 (Xi15 a0 a1 a2 a3) Try.func71 (by kernel_rfl) (by kernel_rfl) rfl (t:=i15 k a0 a1 a2 a3) ?_ h
 unfold i15
 refine qA (eE:=[(0,.ptr 0 4 0)]) (by kernel_rfl) ?_
 let Q1:Blk:=⟨[.str a0,w34 a1,.i a2,.i a3],4,false⟩
 refine oH 5 i15p1 [(2,.bool false),(0,.ptr 0 4 0)] (mkH [Q1]) ?_
 refine qEr (fun hb4=>?_) (fun hb4=>?_)
 ·refine qA7 (fun x0_18 hx0_18=>?_)
  let E1:Env:=[(12,.bool (decide (a2 < a3))),(11,.bool (decide (a2 < a3))),(10,.i a3),(9,.ptr 0 4 3),(8,.ptr 0 4 0),(7,.ptr 0 4 0),(6,.i a2),(5,.ptr 0 4 2),(4,.ptr 0 4 0),(3,.ptr 0 4 0),(2,.bool false),(0,.ptr 0 4 0)]
  let E2:Env:=[(20,.i a2),(19,.ptr 0 4 2),(18,.ptr 0 4 0),(17,.ptr 0 4 0),(16,w34 a1),(15,.ptr 0 4 1),(14,.ptr 0 4 0),(13,.ptr 0 4 0),(12,.bool true),(11,.bool true),(10,.i a3),(9,.ptr 0 4 3),(8,.ptr 0 4 0),(7,.ptr 0 4 0),(6,.i a2),(5,.ptr 0 4 2),(4,.ptr 0 4 0),(3,.ptr 0 4 0),(2,.bool false),(0,.ptr 0 4 0)]
  let E3:Env:=((2,.bool (decide (x0_18.f0 = 11))) :: (25,.bool (decide (x0_18.f0 = 11))) :: (24,.bool (decide (x0_18.f0 = 11))) :: (23,.i x0_18.f0) :: (22,.vptr [.i x0_18.f0,.str x0_18.f1,.i x0_18.f2]) :: (21,.vptr [.i x0_18.f0,.str x0_18.f1,.i x0_18.f2]) :: E2)
  refine oD (H':=(mkH [Q1])) (nav [0] i15p1) E3 [] i15d0 (oDr 10 10 E1 (oDe (fun z=>[(12,.bool z),(11,.bool z),(10,.i a3),(9,.ptr 0 4 3),(8,.ptr 0 4 0),(7,.ptr 0 4 0),(6,.i a2),(5,.ptr 0 4 2),(4,.ptr 0 4 0),(3,.ptr 0 4 0),(2,.bool false),(0,.ptr 0 4 0)]) hb4 (oDr 8 18 E2 (qA9 (l':=(opsAt i15p1).toList.drop 19) (eE:=((21,.vptr [.i x0_18.f0,.str x0_18.f1,.i x0_18.f2]) :: E2)) (hs:=[]) (x:=x0_18) (fun (x0_18:S33)=>(.vptr [.i x0_18.f0,.str x0_18.f1,.i x0_18.f2],(mkH [Q1]))) (vidxH (sz:=3) qB (by kernel_rfl)) hx0_18 (by kernel_rfl) (oDr 5 24 E3 .nil))))) ?_
  exact oQF 1 [Q1] 1 [] [.bool (decide (x0_18.f0 = 11))] (.bool (decide (x0_18.f0 = 11))) .ps trivial
 ·let E1:Env:=[(12,.bool (decide (a2 < a3))),(11,.bool (decide (a2 < a3))),(10,.i a3),(9,.ptr 0 4 3),(8,.ptr 0 4 0),(7,.ptr 0 4 0),(6,.i a2),(5,.ptr 0 4 2),(4,.ptr 0 4 0),(3,.ptr 0 4 0),(2,.bool false),(0,.ptr 0 4 0)]
  let E4:Env:=[(2,.bool false),(25,.bool false),(24,.tuple []),(23,.tuple []),(22,.tuple []),(21,.tuple []),(20,.tuple []),(19,.tuple []),(18,.tuple []),(17,.tuple []),(16,.tuple []),(15,.tuple []),(14,.tuple []),(13,.tuple []),(12,.bool false),(11,.bool false),(10,.i a3),(9,.ptr 0 4 3),(8,.ptr 0 4 0),(7,.ptr 0 4 0),(6,.i a2),(5,.ptr 0 4 2),(4,.ptr 0 4 0),(3,.ptr 0 4 0),(2,.bool false),(0,.ptr 0 4 0)]
  refine oD (H':=(mkH [Q1])) (nav [0] i15p1) E4 [] i15d0 (oDr 10 10 E1 (oDe (fun z=>[(12,.bool z),(11,.bool z),(10,.i a3),(9,.ptr 0 4 3),(8,.ptr 0 4 0),(7,.ptr 0 4 0),(6,.i a2),(5,.ptr 0 4 2),(4,.ptr 0 4 0),(3,.ptr 0 4 0),(2,.bool false),(0,.ptr 0 4 0)]) hb4 (oDr 14 24 E4 .nil))) ?_
  exact oQF 1 [Q1] 1 [] [.bool false] (.bool false) .ps trivial
theorem qO3 (k:Nat):Pi15 (i15 k):=fun a0 a1 a2 a3=>fun x h=>i15_all k a0 a1 a2 a3 x h
abbrev Ti27:Type:=Option (Option Unit)
def Xi27  : Fx (Option Unit):=⟨Try.prog,cx,Try.f88,fun r=>match r with | some r => .tuple [] | none => .top,0,fun r=>match r with | some r=>(mkH []) | none=>(mkH []),cxTi,cxOrd,fun r=>match r with | some _=>none | none=>some (thrown,[]),false⟩
def Pi27 (f:Ti27):Prop:=PQh Xi27 88 [] (f )
def i27 (k:Nat)  : Option (Option Unit) :=
 some none
theorem qO (k:Nat):∀  r,i27 k  = some r → CallT Try.prog 88 [] (mkH []) (Xi27.thr r) (Xi27.enc r) (Xi27.fin r):=by
 intro  r h
 refine qA2 Xi27 Try.func88 (by kernel_rfl) (by kernel_rfl) rfl (t:=i27 k ) ?_ h
 unfold i27
 refine qA (eE:=[]) (by kernel_rfl) ?_
 refine oH 3 (atN 2 (ctl1 (nav [] (bodyAt Try.f88)))) [(1,.iface 72 (.agg [])),(0,.agg [])] (mkH []) ?_
 exact ok_panic (LX:=[]) (L:=[]) rfl rfl rfl (by kernel_rfl) rfl trivial (by kernel_rfl)
theorem i27_ok (k:Nat):Pi27 (i27 k):=⟨fun x h=>qO k  (some x) h,fun h=>⟨_,qO k  none h⟩⟩
abbrev Ti16:Type:=Bool → Option (Option Unit)
def Xi16 (a0:Bool):Fx (Option Unit):=⟨Try.prog,cx,Try.f70,fun r=>match r with | some r => .tuple [] | none => .top,0,fun r=>match r with | some r=>(mkH []) | none=>(mkH []),cxTi,cxOrd,fun r=>match r with | some _=>none | none=>some (thrown,[]),false⟩
def Pi16 (f:Ti16):Prop := ∀ a0,PQh (Xi16 a0) 70 [.bool a0] (f a0)
def i16p1:Pt:=nav [0,0] (nav [0] (bodyAt Try.f70))
def i16p2:Pt:=nav [1] i16p1
def i16 (k:Nat) (a0:Bool):Option (Option Unit) :=
 if (!a0) then (bT (i27 k) fun x0_0=>some (some ())) else (some (some ()))
theorem qO2 (k:Nat):∀ a0 r,i16 k a0 = some r → CallT Try.prog 70 [.bool a0] (mkH []) ((Xi16 a0).thr r) ((Xi16 a0).enc r) ((Xi16 a0).fin r):=by
 intro a0 r h
 refine qA2 (Xi16 a0) Try.func70 (by kernel_rfl) (by kernel_rfl) rfl (t:=i16 k a0) ?_ h
 unfold i16
 refine qA (eE:=[(0,.bool a0)]) (by kernel_rfl) ?_
 refine oH 5 i16p1 [(3,.bool (!a0)),(2,.bool a0),(0,.bool a0)] (mkH []) ?_
 refine oS 3 (fun hb=>?_) (fun hb=>?_)
 ·refine oR 2 (atN 0 (ctl1 i16p2)) [(3,.bool true),(3,.bool (!a0)),(2,.bool a0),(0,.bool a0)] ?_
  refine oX (fun (x0_0:Unit) => .tuple []) (fun x0_0=>[]) (atN 1 (ctl1 i16p2)) 4 [] [] [] [] [] [] (i27_ok k) trivial (fun _=>trivial) trivial fun x0_0 hx0_0=>?_
  exact oQF 1 [] 0 [] [] (.tuple []) .ps trivial
 ·exact oQF 2 [] 0 [] [] (.tuple []) .ps trivial
theorem qCm (k:Nat):Pi16 (i16 k):=fun a0=>⟨fun x h=>qO2 k a0 (some x) h,fun h=>⟨_,qO2 k a0 none h⟩⟩
abbrev Ti11:Type:=(List Nat) → (List S33) → Int → Int → Option (Option Int)
def Xi11 (a0:(List Nat)) (a1:(List S33)) (a2:Int) (a3:Int):Fx (Option Int):=⟨Try.prog,cx,Try.f53,fun r=>match r with | some r => .tuple [] | none => .top,1,fun r=>match r with | some r=>(mkH [⟨[.str a0,w34 a1,.i r,.i a3],4,false⟩]) | none=>(mkH [⟨[.str a0,w34 a1,.i a2,.i a3],4,false⟩]),cxTi,cxOrd,fun r=>match r with | some _=>none | none=>some (thrown,[]),false⟩
def Pi11 (f:Ti11):Prop := ∀ a0 a1 a2 a3,PQh (Xi11 a0 a1 a2 a3) 53 [.ptr 0 4 0] (f a0 a1 a2 a3)
def i11p0:Pt:=nav [0] (bodyAt Try.f53)
def i11d0:DP:=⟨[],[(0,0,0),(1,0,0),(3,0,0),(7,0,0),(0,0,0),(16,0,0),(48,0,0),(112,0,0),(255,0,0),(511,0,0),(1023,0,0),(2047,0,0),(4095,0,0),(8191,0,0),(16383,0,0)],15,thrown,[],H0⟩
def i11 (k:Nat) (a0:(List Nat)) (a1:(List S33)) (a2:Int) (a3:Int):Option (Option Int) :=
 jn (fun (z1:Unit)=>some (some (fW .i64 (a2 + 1)))) (fun j1=>if (decide (a2 < a3)) then ((i15 k a0 a1 a2 a3).bind fun x0_11=>bT (i16 k (!x0_11)) fun x0_14=>j1 ()) else (bT (i16 k false) fun x0_14=>j1 ()))
theorem qO6 (k:Nat):∀ a0 a1 a2 a3 r,i11 k a0 a1 a2 a3 = some r → CallT Try.prog 53 [.ptr 0 4 0] (mkH [⟨[.str a0,w34 a1,.i a2,.i a3],4,false⟩]) ((Xi11 a0 a1 a2 a3).thr r) ((Xi11 a0 a1 a2 a3).enc r) ((Xi11 a0 a1 a2 a3).fin r):=by
 intro a0 a1 a2 a3 r h
 refine qA2 (Xi11 a0 a1 a2 a3) Try.func53 (by kernel_rfl) (by kernel_rfl) rfl (t:=i11 k a0 a1 a2 a3) ?_ h
 unfold i11
 refine qA (eE:=[(0,.ptr 0 4 0)]) (by kernel_rfl) ?_
 let Q1:Blk:=⟨[.str a0,w34 a1,.i a2,.i a3],4,false⟩
 refine oH 1 i11p0 [(0,.ptr 0 4 0)] (mkH [Q1]) ?_
 refine oJ (nav [0] i11p0) (fun (z1:Unit)=>[(0,.ptr 0 4 0)]) (fun (z1:Unit)=>(mkH [Q1])) (fun z1=>?_) (fun j1 hj1=>?_)
 ·exact oQF 10 [⟨[.str a0,w34 a1,.i (fW .i64 (a2 + 1)),.i a3],4,false⟩] 1 [] [] (.tuple []) .ps trivial
 ·refine qEr (fun hb5=>?_) (fun hb5=>?_)
  ·refine qA7 (fun x0_11 hx0_11=>?_)
   refine qC6 (fun h=>?_) (fun x0_14 hx0_14=>?_)
   ·let E2:Env:=[(11,.bool (decide (a2 < a3))),(10,.bool (decide (a2 < a3))),(9,.i a3),(8,.ptr 0 4 3),(7,.ptr 0 4 0),(6,.ptr 0 4 0),(5,.i a2),(4,.ptr 0 4 2),(3,.ptr 0 4 0),(2,.ptr 0 4 0),(0,.ptr 0 4 0)]
    let E3:Env:=[(12,.ptr 0 4 0),(11,.bool true),(10,.bool true),(9,.i a3),(8,.ptr 0 4 3),(7,.ptr 0 4 0),(6,.ptr 0 4 0),(5,.i a2),(4,.ptr 0 4 2),(3,.ptr 0 4 0),(2,.ptr 0 4 0),(0,.ptr 0 4 0)]
    exact qAj (eE:=((16,.top) :: (15,.bool (!x0_11)) :: (14,.bool (!x0_11)) :: (13,.bool x0_11) :: E3)) (i11d0.th 14 thrown [] (mkH [Q1])) (hs:=[(mkH [Q1]),(mkH [Q1])]) (LX:=[Q1]) (L:=[Q1]) rfl rfl rfl (by kernel_rfl) rfl ⟨.inr ⟨rfl,rfl,by kernel_rfl⟩,trivial⟩ (by kernel_rfl) (by kernel_rfl) (by kernel_rfl) (by kernel_rfl) (qA8 10 (l':=(opsAt i11p0).toList.drop 10) (eE:=E2) (H':=(mkH [Q1])) (hs:=[]) (by kernel_rfl) (oDe (fun z=>[(11,.bool z),(10,.bool z),(9,.i a3),(8,.ptr 0 4 3),(7,.ptr 0 4 0),(6,.ptr 0 4 0),(5,.i a2),(4,.ptr 0 4 2),(3,.ptr 0 4 0),(2,.ptr 0 4 0),(0,.ptr 0 4 0)]) hb5 (qA8 1 (l':=(opsAt i11p0).toList.drop 11) (eE:=E3) (H':=(mkH [Q1])) (hs:=[]) (by kernel_rfl) (qA5 (l':=(opsAt i11p0).toList.drop 12) (eE:=((13,.bool x0_11) :: E3)) (hs:=[(mkH [Q1])]) (H':=(mkH [Q1])) (fi:=71) (args:=[.ptr 0 4 0]) (v := .bool x0_11) (by kernel_rfl) (frC (rs:=[0]) (ms:=[]) (ms':=[]) (qO3 k a0 a1 a2 a3 x0_11 hx0_11) trivial trivial (by kernel_rfl)) (by kernel_rfl) (qA8 2 (l':=(opsAt i11p0).toList.drop 14) (eE:=((15,.bool (!x0_11)) :: (14,.bool (!x0_11)) :: (13,.bool x0_11) :: E3)) (H':=(mkH [Q1])) (hs:=[]) (by kernel_rfl) (qAi (l':=(opsAt i11p0).toList.drop 15) (eE:=((16,.top) :: (15,.bool (!x0_11)) :: (14,.bool (!x0_11)) :: (13,.bool x0_11) :: E3)) (hs:=[(mkH [Q1])]) (fi:=70) (args:=[.bool (!x0_11)]) (by kernel_rfl) (by kernel_rfl) (frS 0 (M:=[Q1]) (rs:=[]) (ms:=[]) (mv:=[]) (mm:=[]) (D:=[]) (xs':=[.bool (!x0_11)]) (.refl) ((qCm k (!x0_11)).2 h) trivial trivial (by kernel_rfl)) (by kernel_rfl) (.nil))))))) (by kernel_rfl) (by kernel_rfl)
   ·let E2:Env:=[(11,.bool (decide (a2 < a3))),(10,.bool (decide (a2 < a3))),(9,.i a3),(8,.ptr 0 4 3),(7,.ptr 0 4 0),(6,.ptr 0 4 0),(5,.i a2),(4,.ptr 0 4 2),(3,.ptr 0 4 0),(2,.ptr 0 4 0),(0,.ptr 0 4 0)]
    let E3:Env:=[(12,.ptr 0 4 0),(11,.bool true),(10,.bool true),(9,.i a3),(8,.ptr 0 4 3),(7,.ptr 0 4 0),(6,.ptr 0 4 0),(5,.i a2),(4,.ptr 0 4 2),(3,.ptr 0 4 0),(2,.ptr 0 4 0),(0,.ptr 0 4 0)]
    refine oD (H':=(mkH [Q1])) (nav [0] i11p0) ((16,.tuple []) :: (15,.bool (!x0_11)) :: (14,.bool (!x0_11)) :: (13,.bool x0_11) :: E3) [(mkH [Q1]),(mkH [Q1])] i11d0 (oDr 10 10 E2 (oDe (fun z=>[(11,.bool z),(10,.bool z),(9,.i a3),(8,.ptr 0 4 3),(7,.ptr 0 4 0),(6,.ptr 0 4 0),(5,.i a2),(4,.ptr 0 4 2),(3,.ptr 0 4 0),(2,.ptr 0 4 0),(0,.ptr 0 4 0)]) hb5 (oDr 1 11 E3 (qA5 (l':=(opsAt i11p0).toList.drop 12) (eE:=((13,.bool x0_11) :: E3)) (hs:=[(mkH [Q1])]) (H':=(mkH [Q1])) (fi:=71) (args:=[.ptr 0 4 0]) (v := .bool x0_11) (by kernel_rfl) (frC (rs:=[0]) (ms:=[]) (ms':=[]) (qO3 k a0 a1 a2 a3 x0_11 hx0_11) trivial trivial (by kernel_rfl)) (by kernel_rfl) (oDr 2 14 ((15,.bool (!x0_11)) :: (14,.bool (!x0_11)) :: (13,.bool x0_11) :: E3) (qA5 (l':=(opsAt i11p0).toList.drop 15) (eE:=((16,.tuple []) :: (15,.bool (!x0_11)) :: (14,.bool (!x0_11)) :: (13,.bool x0_11) :: E3)) (hs:=[(mkH [Q1])]) (H':=(mkH [Q1])) (fi:=70) (args:=[.bool (!x0_11)]) (v := .tuple []) (by kernel_rfl) (frC (rs:=[]) (ms:=[]) (ms':=[]) ((qCm k (!x0_11)).1 x0_14 hx0_14) trivial trivial (by kernel_rfl)) (by kernel_rfl) .nil)))))) ?_
    refine oK [0] [(0,.ptr 0 4 0)] ?_
    exact hj1 ()
  ·refine qC6 (fun h=>?_) (fun x0_14 hx0_14=>?_)
   ·let E2:Env:=[(11,.bool (decide (a2 < a3))),(10,.bool (decide (a2 < a3))),(9,.i a3),(8,.ptr 0 4 3),(7,.ptr 0 4 0),(6,.ptr 0 4 0),(5,.i a2),(4,.ptr 0 4 2),(3,.ptr 0 4 0),(2,.ptr 0 4 0),(0,.ptr 0 4 0)]
    let E4:Env:=[(15,.bool false),(14,.tuple []),(13,.tuple []),(12,.tuple []),(11,.bool false),(10,.bool false),(9,.i a3),(8,.ptr 0 4 3),(7,.ptr 0 4 0),(6,.ptr 0 4 0),(5,.i a2),(4,.ptr 0 4 2),(3,.ptr 0 4 0),(2,.ptr 0 4 0),(0,.ptr 0 4 0)]
    exact qAj (eE:=((16,.top) :: E4)) (i11d0.th 14 thrown [] (mkH [Q1])) (hs:=[(mkH [Q1]),(mkH [Q1])]) (LX:=[Q1]) (L:=[Q1]) rfl rfl rfl (by kernel_rfl) rfl ⟨.inr ⟨rfl,rfl,by kernel_rfl⟩,trivial⟩ (by kernel_rfl) (by kernel_rfl) (by kernel_rfl) (by kernel_rfl) (qA8 10 (l':=(opsAt i11p0).toList.drop 10) (eE:=E2) (H':=(mkH [Q1])) (hs:=[]) (by kernel_rfl) (oDe (fun z=>[(11,.bool z),(10,.bool z),(9,.i a3),(8,.ptr 0 4 3),(7,.ptr 0 4 0),(6,.ptr 0 4 0),(5,.i a2),(4,.ptr 0 4 2),(3,.ptr 0 4 0),(2,.ptr 0 4 0),(0,.ptr 0 4 0)]) hb5 (qA8 4 (l':=(opsAt i11p0).toList.drop 14) (eE:=E4) (H':=(mkH [Q1])) (hs:=[(mkH [Q1])]) (by kernel_rfl) (qAi (l':=(opsAt i11p0).toList.drop 15) (eE:=((16,.top) :: E4)) (hs:=[(mkH [Q1])]) (fi:=70) (args:=[.bool false]) (by kernel_rfl) (by kernel_rfl) (frS 0 (M:=[Q1]) (rs:=[]) (ms:=[]) (mv:=[]) (mm:=[]) (D:=[]) (xs':=[.bool false]) (.refl) ((qCm k false).2 h) trivial trivial (by kernel_rfl)) (by kernel_rfl) (.nil))))) (by kernel_rfl) (by kernel_rfl)
   ·let E2:Env:=[(11,.bool (decide (a2 < a3))),(10,.bool (decide (a2 < a3))),(9,.i a3),(8,.ptr 0 4 3),(7,.ptr 0 4 0),(6,.ptr 0 4 0),(5,.i a2),(4,.ptr 0 4 2),(3,.ptr 0 4 0),(2,.ptr 0 4 0),(0,.ptr 0 4 0)]
    let E4:Env:=[(15,.bool false),(14,.tuple []),(13,.tuple []),(12,.tuple []),(11,.bool false),(10,.bool false),(9,.i a3),(8,.ptr 0 4 3),(7,.ptr 0 4 0),(6,.ptr 0 4 0),(5,.i a2),(4,.ptr 0 4 2),(3,.ptr 0 4 0),(2,.ptr 0 4 0),(0,.ptr 0 4 0)]
    refine oD (H':=(mkH [Q1])) (nav [0] i11p0) ((16,.tuple []) :: E4) [(mkH [Q1]),(mkH [Q1])] i11d0 (oDr 10 10 E2 (oDe (fun z=>[(11,.bool z),(10,.bool z),(9,.i a3),(8,.ptr 0 4 3),(7,.ptr 0 4 0),(6,.ptr 0 4 0),(5,.i a2),(4,.ptr 0 4 2),(3,.ptr 0 4 0),(2,.ptr 0 4 0),(0,.ptr 0 4 0)]) hb5 (oDh 4 14 E4 (mkH [Q1]) [(mkH [Q1])] (qA5 (l':=(opsAt i11p0).toList.drop 15) (eE:=((16,.tuple []) :: E4)) (hs:=[(mkH [Q1])]) (H':=(mkH [Q1])) (fi:=70) (args:=[.bool false]) (v := .tuple []) (by kernel_rfl) (frC (rs:=[]) (ms:=[]) (ms':=[]) ((qCm k false).1 x0_14 hx0_14) trivial trivial (by kernel_rfl)) (by kernel_rfl) .nil)))) ?_
    refine oK [0] [(0,.ptr 0 4 0)] ?_
    exact hj1 ()
theorem qF5 (k:Nat):Pi11 (i11 k):=fun a0 a1 a2 a3=>⟨fun x h=>qO6 k a0 a1 a2 a3 (some x) h,fun h=>⟨_,qO6 k a0 a1 a2 a3 none h⟩⟩
abbrev Ri12:Type:=((List (List Nat)) × Int)
abbrev Ti12:Type:=(List Nat) → (List S33) → Int → Int → Option Ri12
def Xi12 (a0:(List Nat)) (a1:(List S33)) (a2:Int) (a3:Int):Fx Ri12:=⟨Try.prog,cx,Try.f58,fun r=>w9 r.1,1,fun r=>(mkH [⟨[.str a0,w34 a1,.i r.2,.i a3],4,false⟩]),cxTi,cxOrd,fun _=>none,false⟩
def Pi12 (f:Ti12):Prop := ∀ a0 a1 a2 a3,PNh (Xi12 a0 a1 a2 a3) 58 [.ptr 0 4 0] (mkH [⟨[.str a0,w34 a1,.i a2,.i a3],4,false⟩]) (f a0 a1 a2 a3)
def i12p1:Pt:=nav [0,0,0] (nav [0] (bodyAt Try.f58))
def i12p2:Pt:=nav [0,0,0,0,0] i12p1
def i12p3:Pt:=nav [0,0,0] i12p2
def i12p4:Pt:=nav [0,0] i12p3
def i12p5:Pt:=nav [1,0,0,0] i12p4
def i12d0:DP:=⟨[18],[(0,0,0),(0,0,0),(2,0,0),(6,0,0),(14,0,0),(0,0,0),(32,0,0),(96,0,0),(224,0,0),(510,0,0),(1022,0,0),(2046,0,0),(4094,0,0),(8191,0,0),(16383,0,0)],15,thrown,[],H0⟩
def qI7 (k:Nat)  (a0:(List Nat)) (a1:(List S33)) (a3:Int) (ih:Int → (List (List Nat)) → Option Ri12):Int → (List (List Nat)) → Option Ri12 :=
 fun (y2_0:Int) (y2_1:(List (List Nat)))=>(i15 k a0 a1 y2_0 a3).bind fun x0_1=>if x0_1 then ((nthL a1 y2_0).bind fun x1_9=>(appS 16 y2_1 ([x1_9.f1]:List (List Nat))).bind fun x1_13=>ih (fW .i64 (y2_0 + 1)) x1_13) else (some (y2_1,y2_0))
def qF4 (k:Nat)  (a0:(List Nat)) (a1:(List S33)) (a3:Int) (n:Nat):Int → (List (List Nat)) → Option Ri12:=lp (fun _ _=>none) (qI7 k a0 a1 a3) n
theorem qKt (k:Nat)  (a0:(List Nat)) (a1:(List S33)) (a3:Int) (n:Nat) (y2_0:Int) (y2_1:(List (List Nat))):qF4 k a0 a1 a3 (n + 1) y2_0 y2_1 = ((i15 k a0 a1 y2_0 a3).bind fun x0_1=>if x0_1 then ((nthL a1 y2_0).bind fun x1_9=>(appS 16 y2_1 ([x1_9.f1]:List (List Nat))).bind fun x1_13=>(qF4 k a0 a1 a3 n) (fW .i64 (y2_0 + 1)) x1_13) else (some (y2_1,y2_0))):=rfl
theorem qO5 (k:Nat) (a0:(List Nat)) (a1:(List S33)) (a2:Int) (a3:Int)    : ∀ (n:Nat) (y2_0:Int) (y2_1:(List (List Nat))),Ok (Xi12 a0 a1 a2 a3) i12p2 [(0,.ptr 0 4 0),(3,.own 1 (y2_1).length 1)] (mkH [⟨[.str a0,w34 a1,.i y2_0,.i a3],4,false⟩,⟨(y2_1).flatMap e9,0,false⟩]) (qF4 k a0 a1 a3 n y2_0 y2_1):=by
 intro n
 induction n with
 | zero=>intro y2_0 y2_1; exact ok_none
 | succ n ih =>
  intro y2_0 y2_1
  show Ok _ _ _ _ (qI7 k a0 a1 a3 (qF4 k a0 a1 a3 n) y2_0 y2_1)
  unfold qI7
  refine qAf (p':=nav [0] i12p2) (by kernel_rfl) ?_
  let Q1:Blk:=⟨[.str a0,w34 a1,.i y2_0,.i a3],4,false⟩
  let Q2:Blk:=⟨(y2_1).flatMap e9,0,false⟩
  refine oH 4 (atN 1 (ctl1 i12p3)) [(4,.ptr 0 4 0),(0,.ptr 0 4 0),(3,.own 1 (y2_1).length 1)] (mkH [Q1,Q2]) ?_
  refine oN (fun (x0_1:Bool) => .bool x0_1) (fun x0_1=>[Q1,Q2]) (atN 2 (ctl1 i12p3)) 5 [0] [] [] [.ptr 0 4 0] (qO3 k a0 a1 y2_0 a3) trivial (fun _=>trivial) fun x0_1 hx0_1=>?_
  refine oR 1 i12p4 [(5,.bool x0_1),(4,.ptr 0 4 0),(0,.ptr 0 4 0),(3,.own 1 (y2_1).length 1)] ?_
  refine oS 5 (fun hb=>?_) (fun hb=>?_)
  ·refine oR 4 i12p5 [(5,.bool true),(5,.bool x0_1),(4,.ptr 0 4 0),(0,.ptr 0 4 0),(3,.own 1 (y2_1).length 1)] ?_
   refine qA7 (fun x1_9 hx1_9=>?_)
   refine qA7 (fun x1_13 hx1_13=>?_)
   let E2:Env:=[(14,.i y2_0),(13,.ptr 0 4 2),(12,.ptr 0 4 0),(11,.ptr 0 4 0),(10,w34 a1),(9,.ptr 0 4 1),(8,.ptr 0 4 0),(7,.ptr 0 4 0),(6,.own 1 (y2_1).length 1),(5,.bool true),(5,.bool x0_1),(4,.ptr 0 4 0),(0,.ptr 0 4 0),(3,.own 1 (y2_1).length 1)]
   let E3:Env:=((19,.own 1 (x1_13).length 1) :: (18,w9 ([x1_9.f1]:List (List Nat))) :: (17,.str x1_9.f1) :: (16,.vptr [.str x1_9.f1,.i x1_9.f2]) :: (15,.vptr [.i x1_9.f0,.str x1_9.f1,.i x1_9.f2]) :: E2)
   refine oD (H':=(mkH [Q1,⟨(x1_13).flatMap e9,0,false⟩])) (nav [0] i12p5) ((3,.own 1 (x1_13).length 1) :: E3) [(mkH [Q1,⟨(x1_13).flatMap e9,0,false⟩])] i12d0 (oDr 9 9 E2 (qA9 (l':=(opsAt i12p5).toList.drop 10) (eE:=((15,.vptr [.i x1_9.f0,.str x1_9.f1,.i x1_9.f2]) :: E2)) (hs:=[]) (x:=x1_9) (fun (x1_9:S33)=>(.vptr [.i x1_9.f0,.str x1_9.f1,.i x1_9.f2],(mkH [Q1,Q2]))) (vidxH (sz:=3) qB (by kernel_rfl)) hx1_9 (by kernel_rfl) (oDr 3 13 ((18,w9 ([x1_9.f1]:List (List Nat))) :: (17,.str x1_9.f1) :: (16,.vptr [.str x1_9.f1,.i x1_9.f2]) :: (15,.vptr [.i x1_9.f0,.str x1_9.f1,.i x1_9.f2]) :: E2) (qA9 (l':=(opsAt i12p5).toList.drop 14) (eE:=E3) (hs:=[(mkH [Q1,⟨(x1_13).flatMap e9,0,false⟩])]) (x:=x1_13) (fun (x1_13:(List (List Nat)))=>(.own 1 (x1_13).length 1,(mkH [Q1,⟨(x1_13).flatMap e9,0,false⟩]))) (appHV (sz:=1) qBp rfl e9_one [Q1,Q2] 1 16 y2_1 ([x1_9.f1]:List (List Nat)) rfl rfl (by kernel_rfl)) hx1_13 (by kernel_rfl) (oDr 1 15 ((3,.own 1 (x1_13).length 1) :: E3) .nil))))) ?_
   refine oLH 10 i12p2 [(0,.ptr 0 4 0),(3,.own 1 (x1_13).length 1)] (mkH [⟨[.str a0,w34 a1,.i (fW .i64 (y2_0 + 1)),.i a3],4,false⟩,⟨(x1_13).flatMap e9,0,false⟩]) ?_
   exact ih (fW .i64 (y2_0 + 1)) x1_13
  ·exact oQF 8 [Q1,Q2] 1 [] [.own 1 (y2_1).length 1] (w9 y2_1) (qAq qBp e9_pur rfl rfl rfl .ps) trivial
def i12 (k:Nat) (a0:(List Nat)) (a1:(List S33)) (a2:Int) (a3:Int):Option Ri12 :=
 qF4 k a0 a1 a3 k a2 ([]:List (List Nat))
theorem i12_all (k:Nat):∀ a0 a1 a2 a3 r,i12 k a0 a1 a2 a3 = some r → CallT Try.prog 58 [.ptr 0 4 0] (mkH [⟨[.str a0,w34 a1,.i a2,.i a3],4,false⟩]) ((Xi12 a0 a1 a2 a3).thr r) ((Xi12 a0 a1 a2 a3).enc r) ((Xi12 a0 a1 a2 a3).fin r):=by
 intro a0 a1 a2 a3 r h
 refine qA2 (Xi12 a0 a1 a2 a3) Try.func58 (by kernel_rfl) (by kernel_rfl) rfl (t:=i12 k a0 a1 a2 a3) ?_ h
 unfold i12
 refine qA (eE:=[(0,.ptr 0 4 0)]) (by kernel_rfl) ?_
 let Q1:Blk:=⟨[.str a0,w34 a1,.i a2,.i a3],4,false⟩
 refine oH 7 (atN 1 (ctl1 i12p1)) [(3,.nils),(2,.nils),(0,.ptr 0 4 0)] (mkH [Q1]) ?_
 refine qEx [Q1] 3 1 rfl (by kernel_rfl) ?_
 refine oLH 4 i12p2 [(0,.ptr 0 4 0),(3,.own 1 (([]:List (List Nat))).length 1)] (mkH [Q1,⟨(([]:List (List Nat))).flatMap e9,0,false⟩]) ?_
 exact (qO5 k a0 a1 a2 a3 k) a2 ([]:List (List Nat))
theorem qAh (k:Nat):Pi12 (i12 k):=fun a0 a1 a2 a3=>fun x h=>i12_all k a0 a1 a2 a3 x h
def Xg111:Fx Int:=⟨Try.prog,cx,Try.f111,fun r => .i r,0,fun _=>H0,cxTi,cxOrd,fun _=>none,false⟩
def g111p2:Pt:=nav [0,0,0,0] (nav [0,0,0,0] (nav [0] (bodyAt Try.f111)))
def g111p4:Pt:=nav [0,0,0] (nav [0,0] g111p2)
def g111p7:Pt:=nav [0,0,0] (nav [1,0,0,0,0] g111p4)
def qGb (k:Nat)  (a0:(List Int)) (a1:Int) (ih:Int → Option Int):Int → Option Int :=
 fun (y1_0:Int)=>if (decide (y1_0 < (a0.length:Int))) then ((nthL a0 y1_0).bind fun x0_3=>if (decide (a1 = x0_3)) then (some y1_0) else (ih (fW .i64 (y1_0 + 1)))) else (some ((-1):Int))
def qIt (k:Nat)  (a0:(List Int)) (a1:Int) (n:Nat):Int → Option Int:=lp (fun _=>none) (qGb k a0 a1) n
theorem qLp (k:Nat)   (a0:(List Int)) (a1:Int)  : ∀ (n:Nat) (y1_0:Int),Ok Xg111 g111p2 [(0,w3 a0),(1,.i a1),(7,.i (a0.length:Int)),(8,.i y1_0)] (mkH []) (qIt k a0 a1 n y1_0):=by
 intro n
 induction n with
 | zero=>intro y1_0; exact ok_none
 | succ n ih =>
  intro y1_0
  show Ok _ _ _ _ (qGb k a0 a1 (qIt k a0 a1 n) y1_0)
  unfold qGb
  refine qAf (p':=nav [0] g111p2) (by kernel_rfl) ?_
  let E2:Env:=[(9,.bool (decide (y1_0 < (a0.length:Int)))),(0,w3 a0),(1,.i a1),(7,.i (a0.length:Int)),(8,.i y1_0)]
  refine oH 5 g111p4 E2 (mkH []) ?_
  refine oS 9 (fun hb=>?_) (fun hb=>?_)
  ·let E3:Env:=((13,.i y1_0) :: (12,w3 a0) :: (11,.i a1) :: (5,.i y1_0) :: (10,.i y1_0) :: (9,.bool true) :: E2)
   refine oR 14 (atN 3 (ctl1 g111p7)) E3 ?_
   refine oC (fun (x0_3:Int)=>(.vptr [.i x0_3],(mkH []))) (atN 4 (ctl1 g111p7)) 14 (vidxH (sz:=1) qFj (by kernel_rfl)) fun x0_3 hx0_3=>?_
   refine oH 3 (nav [0,0] g111p7) ((16,.bool (decide (a1 = x0_3))) :: (15,.i x0_3) :: (14,.vptr [.i x0_3]) :: E3) (mkH []) ?_
   refine oK [0,1,5,7,8,16] [(0,w3 a0),(1,.i a1),(5,.i y1_0),(7,.i (a0.length:Int)),(8,.i y1_0),(16,.bool (decide (a1 = x0_3)))] ?_
   refine oS 16 (fun hb=>?_) (fun hb=>?_)
   ·exact oQ 7
   ·refine oL 6 g111p2 [(0,w3 a0),(1,.i a1),(7,.i (a0.length:Int)),(8,.i (fW .i64 (y1_0 + 1)))] ?_
    exact ih (fW .i64 (y1_0 + 1))
  ·exact oQ 7
def g111 (k:Nat) (a0:(List Int)) (a1:Int):Option Int :=
 qIt k a0 a1 k 0
theorem g111_ok (k:Nat) (a0:(List Int)) (a1:Int) (r:Int) (h:g111 k a0 a1 = some r):PureOk Try.prog 111 [w3 a0,.i a1] (.i r):=by
 refine qA4 Xg111 (fun _=>⟨rfl,rfl⟩) Try.func111 (by decide +kernel) (by kernel_rfl) (t:=g111 k a0 a1) ?_ h
 unfold g111
 refine qA (eE:=[(0,w3 a0),(1,.i a1)]) (by kernel_rfl) ?_
 refine oLH 13 g111p2 [(0,w3 a0),(1,.i a1),(7,.i (a0.length:Int)),(8,.i 0)] (mkH []) ?_
 exact (qLp k a0 a1 k) 0
def Xg104:Fx Bool:=⟨Try.prog,cx,Try.f104,fun r => .bool r,0,fun _=>H0,cxTi,cxOrd,fun _=>none,false⟩
def g104p1:Pt:=nav [0,0,0] (nav [0] (bodyAt Try.f104))
def g104 (k:Nat) (a0:(List Int)) (a1:Int):Option Bool :=
 (g111 k a0 a1).bind fun x0_2=>some (decide (0 ≤ x0_2))
theorem g104_ok (k:Nat) (a0:(List Int)) (a1:Int) (r:Bool) (h:g104 k a0 a1 = some r):PureOk Try.prog 104 [w3 a0,.i a1] (.bool r):=by
 refine qA4 Xg104 (fun _=>⟨rfl,rfl⟩) Try.func104 (by decide +kernel) (by kernel_rfl) (t:=g104 k a0 a1) ?_ h
 unfold g104
 refine qA (eE:=[(0,w3 a0),(1,.i a1)]) (by kernel_rfl) ?_
 refine oH 8 (atN 2 (ctl1 g104p1)) [(6,.i a1),(5,w3 a0),(4,.bool false),(0,w3 a0),(1,.i a1)] (mkH []) ?_
 refine oA (fun (x0_2:Int) => .i x0_2) (atN 3 (ctl1 g104p1)) 7 [w3 a0,.i a1] (g111_ok k a0 a1) fun x0_2 hx0_2=>?_
 exact oQ 4
abbrev Ri33:Type:=((List Nat) × Int)
abbrev Ti33:Type:=(List Int) → (List Nat) → (List S33) → Int → Int → Option (Option Ri33)
def Xi33 (a0:(List Int)) (a1:(List Nat)) (a2:(List S33)) (a3:Int) (a4:Int):Fx (Option Ri33):=⟨Try.prog,cx,Try.f96,fun r=>match r with | some r => .str r.1 | none => .top,1,fun r=>match r with | some r=>(mkH [⟨[.str a1,w34 a2,.i r.2,.i a4],4,false⟩]) | none=>(mkH [⟨[.str a1,w34 a2,.i a3,.i a4],4,false⟩]),cxTi,cxOrd,fun r=>match r with | some _=>none | none=>some (thrown,[]),false⟩
def Pi33 (f:Ti33):Prop := ∀ a0 a1 a2 a3 a4,PQh (Xi33 a0 a1 a2 a3 a4) 96 [.ptr 0 4 0,w3 a0] (f a0 a1 a2 a3 a4)
def i33p1:Pt:=nav [0,0,0] (nav [0] (bodyAt Try.f96))
def i33p2:Pt:=nav [0,0,0] i33p1
def i33p3:Pt:=nav [0,0,0] i33p2
def i33 (k:Nat) (a0:(List Int)) (a1:(List Nat)) (a2:(List S33)) (a3:Int) (a4:Int):Option (Option Ri33) :=
 (i9 k a1 a2 a3 a4).bind fun x0_1=>(g104 k a0 x0_1.f0).bind fun x1_3=>bT (i16 k x1_3) fun x1_4=>bT (i11 k a1 a2 a3 a4) fun x2_1=>some (some (x0_1.f1,x2_1))
theorem qNv (k:Nat):∀ a0 a1 a2 a3 a4 r,i33 k a0 a1 a2 a3 a4 = some r → CallT Try.prog 96 [.ptr 0 4 0,w3 a0] (mkH [⟨[.str a1,w34 a2,.i a3,.i a4],4,false⟩]) ((Xi33 a0 a1 a2 a3 a4).thr r) ((Xi33 a0 a1 a2 a3 a4).enc r) ((Xi33 a0 a1 a2 a3 a4).fin r):=by
 intro a0 a1 a2 a3 a4 r h
 refine qA2 (Xi33 a0 a1 a2 a3 a4) Try.func96 (by kernel_rfl) (by kernel_rfl) rfl (t:=i33 k a0 a1 a2 a3 a4) ?_ h
 unfold i33
 refine qA (eE:=[(0,.ptr 0 4 0),(1,w3 a0)]) (by kernel_rfl) ?_
 let Q1:Blk:=⟨[.str a1,w34 a2,.i a3,.i a4],4,false⟩
 refine oH 7 (atN 1 (ctl1 i33p1)) [(6,.ptr 0 4 0),(4,.str []),(0,.ptr 0 4 0),(1,w3 a0)] (mkH [Q1]) ?_
 refine oN (fun (x0_1:S33)=>n34 x0_1) (fun x0_1=>[Q1]) (atN 2 (ctl1 i33p1)) 7 [0] [] [] [.ptr 0 4 0] (qLg k a1 a2 a3 a4) trivial (fun _=>trivial) fun x0_1 hx0_1=>?_
 refine oH 8 (atN 3 (ctl1 i33p2)) [(10,.i x0_1.f0),(9,.ptr 1 3 0),(8,w3 a0),(5,.ptr 1 3 0),(7,n34 x0_1),(6,.ptr 0 4 0),(4,.str []),(0,.ptr 0 4 0),(1,w3 a0)] (mkH [Q1,⟨e34 x0_1,3,false⟩]) ?_
 refine oA (fun (x1_3:Bool) => .bool x1_3) (atN 4 (ctl1 i33p2)) 11 [w3 a0,.i x0_1.f0] (g104_ok k a0 x0_1.f0) fun x1_3 hx1_3=>?_
 refine oX (fun (x1_4:Unit) => .tuple []) (fun x1_4=>[Q1,⟨e34 x0_1,3,false⟩]) (atN 5 (ctl1 i33p2)) 12 [] [] [] [] [] [.bool x1_3] (qCm k x1_3) trivial (fun _=>trivial) trivial fun x1_4 hx1_4=>?_
 refine oL 2 i33p3 [(0,.ptr 0 4 0),(5,.ptr 1 3 0)] ?_
 refine oR 2 (atN 1 (ctl1 i33p3)) ((13,.ptr 0 4 0) :: [(0,.ptr 0 4 0),(5,.ptr 1 3 0)]) ?_
 refine oX (fun (x2_1:Int) => .tuple []) (fun x2_1=>[⟨[.str a1,w34 a2,.i x2_1,.i a4],4,false⟩,⟨e34 x0_1,3,false⟩]) (atN 2 (ctl1 i33p3)) 14 [0] [] [] [] [] [.ptr 0 4 0] (qF5 k a1 a2 a3 a4) trivial (fun _=>trivial) trivial fun x2_1 hx2_1=>?_
 exact oQF 8 [⟨[.str a1,w34 a2,.i x2_1,.i a4],4,false⟩,⟨e34 x0_1,3,false⟩] 1 [] [.str x0_1.f1] (.str x0_1.f1) .ps trivial
theorem qF3 (k:Nat):Pi33 (i33 k):=fun a0 a1 a2 a3 a4=>⟨fun x h=>qNv k a0 a1 a2 a3 a4 (some x) h,fun h=>⟨_,qNv k a0 a1 a2 a3 a4 none h⟩⟩
abbrev Ri22:Type:=((List Nat) × Int)
abbrev Ti22:Type:=(List Nat) → (List S33) → Int → Int → Option (Option Ri22)
def Xi22 (a0:(List Nat)) (a1:(List S33)) (a2:Int) (a3:Int):Fx (Option Ri22):=⟨Try.prog,cx,Try.f82,fun r=>match r with | some r => .str r.1 | none => .top,1,fun r=>match r with | some r=>(mkH [⟨[.str a0,w34 a1,.i r.2,.i a3],4,false⟩]) | none=>(mkH [⟨[.str a0,w34 a1,.i a2,.i a3],4,false⟩]),cxTi,cxOrd,fun r=>match r with | some _=>none | none=>some (thrown,[]),false⟩
def Pi22 (f:Ti22):Prop := ∀ a0 a1 a2 a3,PQh (Xi22 a0 a1 a2 a3) 82 [.ptr 0 4 0] (f a0 a1 a2 a3)
def i22c0:List Int:=[(1:Int),(2:Int),(7:Int)]
def i22p1:Pt:=nav [0,0,0] (nav [0] (bodyAt Try.f82))
def i22 (k:Nat) (a0:(List Nat)) (a1:(List S33)) (a2:Int) (a3:Int):Option (Option Ri22) :=
 bT (i33 k i22c0 a0 a1 a2 a3) fun x0_2=>some (some (x0_2.1,x0_2.2))
theorem qO1 (k:Nat):∀ a0 a1 a2 a3 r,i22 k a0 a1 a2 a3 = some r → CallT Try.prog 82 [.ptr 0 4 0] (mkH [⟨[.str a0,w34 a1,.i a2,.i a3],4,false⟩]) ((Xi22 a0 a1 a2 a3).thr r) ((Xi22 a0 a1 a2 a3).enc r) ((Xi22 a0 a1 a2 a3).fin r):=by
 intro a0 a1 a2 a3 r h
 refine qA2 (Xi22 a0 a1 a2 a3) Try.func82 (by kernel_rfl) (by kernel_rfl) rfl (t:=i22 k a0 a1 a2 a3) ?_ h
 unfold i22
 refine qA (eE:=[(0,.ptr 0 4 0)]) (by kernel_rfl) ?_
 let Q1:Blk:=⟨[.str a0,w34 a1,.i a2,.i a3],4,false⟩
 refine oH 8 (atN 2 (ctl1 i22p1)) [(4,.slice 1 3 0 3 1),(3,.ptr 0 4 0),(2,.str []),(0,.ptr 0 4 0)] (mkH [Q1,⟨[.i 1,.i 2,.i 7],0,false⟩]) ?_
 refine oZ 4 1 3 1 [.i 1,.i 2,.i 7] [0,2,3] [] trivial ?_
 refine oE [(4,w3 i22c0),(0,.ptr 0 4 0),(2,.str []),(3,.ptr 0 4 0)] ?_
 refine oHp (mkH [Q1,⟨[],0,false⟩]) ?_
 refine oX (fun (x0_2:Ri33) => .str x0_2.1) (fun x0_2=>[⟨[.str a0,w34 a1,.i x0_2.2,.i a3],4,false⟩,⟨[],0,false⟩]) (atN 3 (ctl1 i22p1)) 5 [0] [] [] [] [] [.ptr 0 4 0,w3 i22c0] (qF3 k i22c0 a0 a1 a2 a3) trivial (fun _=>trivial) trivial fun x0_2 hx0_2=>?_
 exact oQF 3 [⟨[.str a0,w34 a1,.i x0_2.2,.i a3],4,false⟩,⟨[],0,false⟩] 1 [] [.str x0_2.1] (.str x0_2.1) .ps trivial
theorem qH8 (k:Nat):Pi22 (i22 k):=fun a0 a1 a2 a3=>⟨fun x h=>qO1 k a0 a1 a2 a3 (some x) h,fun h=>⟨_,qO1 k a0 a1 a2 a3 none h⟩⟩
abbrev Ti7:Type:=(List Nat) → (List Nat) → (List S33) → Int → Int → Option (Option (Bool × Int))
def Xi7 (a0:(List Nat)) (a1:(List Nat)) (a2:(List S33)) (a3:Int) (a4:Int):Fx (Option (Bool × Int)):=⟨Try.prog,cx,Try.f47,fun r=>match r with | some r => .bool r.1 | none => .top,1,fun r=>match r with | some r=>(mkH [⟨[.str a1,w34 a2,.i r.2,.i a4],4,false⟩]) | none=>(mkH [⟨[.str a1,w34 a2,.i a3,.i a4],4,false⟩]),cxTi,cxOrd,fun r=>match r with | some _=>none | none=>some (thrown,[]),false⟩
def Pi7 (f:Ti7):Prop := ∀ a0 a1 a2 a3 a4,PQh (Xi7 a0 a1 a2 a3 a4) 47 [.ptr 0 4 0,.str a0] (f a0 a1 a2 a3 a4)
def i7p1:Pt:=nav [0,0,0,0] (nav [0] (bodyAt Try.f47))
def i7p2:Pt:=nav [0,0] i7p1
def i7p4:Pt:=nav [2,0,0] i7p2
def i7 (k:Nat) (a0:(List Nat)) (a1:(List Nat)) (a2:(List S33)) (a3:Int) (a4:Int):Option (Option (Bool × Int)) :=
 (i10 k a0 a1 a2 a3 a4).bind fun x0_2=>if (!x0_2) then (some (some (false,a3))) else (bT (i11 k a1 a2 a3 a4) fun x1_1=>some (some (true,x1_1)))
theorem i7_all (k:Nat):∀ a0 a1 a2 a3 a4 r,i7 k a0 a1 a2 a3 a4 = some r → CallT Try.prog 47 [.ptr 0 4 0,.str a0] (mkH [⟨[.str a1,w34 a2,.i a3,.i a4],4,false⟩]) ((Xi7 a0 a1 a2 a3 a4).thr r) ((Xi7 a0 a1 a2 a3 a4).enc r) ((Xi7 a0 a1 a2 a3 a4).fin r):=by
 intro a0 a1 a2 a3 a4 r h
 refine qA2 (Xi7 a0 a1 a2 a3 a4) Try.func47 (by kernel_rfl) (by kernel_rfl) rfl (t:=i7 k a0 a1 a2 a3 a4) ?_ h
 unfold i7
 refine qA (eE:=[(0,.ptr 0 4 0),(1,.str a0)]) (by kernel_rfl) ?_
 let E1:Env:=[(6,.str a0),(5,.ptr 0 4 0),(4,.bool false),(0,.ptr 0 4 0),(1,.str a0)]
 let Q1:Blk:=⟨[.str a1,w34 a2,.i a3,.i a4],4,false⟩
 refine oH 9 (atN 2 (ctl1 i7p1)) E1 (mkH [Q1]) ?_
 refine oN (fun (x0_2:Bool) => .bool x0_2) (fun x0_2=>[Q1]) (atN 3 (ctl1 i7p1)) 7 [0] [] [] [.ptr 0 4 0,.str a0] (qHa k a0 a1 a2 a3 a4) trivial (fun _=>trivial) fun x0_2 hx0_2=>?_
 refine oR 2 i7p2 ((8,.bool (!x0_2)) :: (7,.bool x0_2) :: E1) ?_
 refine oS 8 (fun hb=>?_) (fun hb=>?_)
 ·exact oQF 6 [Q1] 1 [] [.bool false] (.bool false) .ps trivial
 ·refine oR 5 (atN 1 (ctl1 i7p4)) ((9,.ptr 0 4 0) :: (8,.bool false) :: (8,.bool (!x0_2)) :: (7,.bool x0_2) :: E1) ?_
  refine oX (fun (x1_1:Int) => .tuple []) (fun x1_1=>[⟨[.str a1,w34 a2,.i x1_1,.i a4],4,false⟩]) (atN 2 (ctl1 i7p4)) 10 [0] [] [] [] [] [.ptr 0 4 0] (qF5 k a1 a2 a3 a4) trivial (fun _=>trivial) trivial fun x1_1 hx1_1=>?_
  refine oL 2 (nav [0,0,0] i7p4) [] ?_
  exact oQF 4 [⟨[.str a1,w34 a2,.i x1_1,.i a4],4,false⟩] 1 [] [.bool true] (.bool true) .ps trivial
theorem qAg (k:Nat):Pi7 (i7 k):=fun a0 a1 a2 a3 a4=>⟨fun x h=>i7_all k a0 a1 a2 a3 a4 (some x) h,fun h=>⟨_,i7_all k a0 a1 a2 a3 a4 none h⟩⟩
abbrev Ti23:Type:=(List Nat) → (List Nat) → (List S33) → Int → Int → Option (Option Int)
def Xi23 (a0:(List Nat)) (a1:(List Nat)) (a2:(List S33)) (a3:Int) (a4:Int):Fx (Option Int):=⟨Try.prog,cx,Try.f83,fun r=>match r with | some r => .tuple [] | none => .top,1,fun r=>match r with | some r=>(mkH [⟨[.str a1,w34 a2,.i r,.i a4],4,false⟩]) | none=>(mkH [⟨[.str a1,w34 a2,.i a3,.i a4],4,false⟩]),cxTi,cxOrd,fun r=>match r with | some _=>none | none=>some (thrown,[0]),false⟩
def Pi23 (f:Ti23):Prop := ∀ a0 a1 a2 a3 a4,PQh (Xi23 a0 a1 a2 a3 a4) 83 [.ptr 0 4 0,.str a0] (f a0 a1 a2 a3 a4)
def i23p0:Pt:=nav [] (bodyAt Try.f83)
def i23 (k:Nat) (a0:(List Nat)) (a1:(List Nat)) (a2:(List S33)) (a3:Int) (a4:Int):Option (Option Int) :=
 bT (i7 k a0 a1 a2 a3 a4) fun x0_2=>bT (i16 k x0_2.1) fun x0_3=>some (some x0_2.2)
theorem qO0 (k:Nat):∀ a0 a1 a2 a3 a4 r,i23 k a0 a1 a2 a3 a4 = some r → CallT Try.prog 83 [.ptr 0 4 0,.str a0] (mkH [⟨[.str a1,w34 a2,.i a3,.i a4],4,false⟩]) ((Xi23 a0 a1 a2 a3 a4).thr r) ((Xi23 a0 a1 a2 a3 a4).enc r) ((Xi23 a0 a1 a2 a3 a4).fin r):=by
 intro a0 a1 a2 a3 a4 r h
 refine qA2 (Xi23 a0 a1 a2 a3 a4) Try.func83 (by kernel_rfl) (by kernel_rfl) rfl (t:=i23 k a0 a1 a2 a3 a4) ?_ h
 unfold i23
 refine qA (eE:=[(0,.ptr 0 4 0),(1,.str a0)]) (by kernel_rfl) ?_
 refine oH 3 (atN 2 (ctl1 i23p0)) [(5,.str a0),(4,.ptr 0 4 0),(0,.ptr 0 4 0),(1,.str a0)] (mkH [⟨[.str a1,w34 a2,.i a3,.i a4],4,false⟩]) ?_
 refine oX (fun (x0_2:(Bool × Int)) => .bool x0_2.1) (fun x0_2=>[⟨[.str a1,w34 a2,.i x0_2.2,.i a4],4,false⟩]) (atN 3 (ctl1 i23p0)) 6 [0] [] [] [] [] [.ptr 0 4 0,.str a0] (qAg k a0 a1 a2 a3 a4) trivial (fun _=>trivial) trivial fun x0_2 hx0_2=>?_
 let Q1:Blk:=⟨[.str a1,w34 a2,.i x0_2.2,.i a4],4,false⟩
 refine oX (fun (x0_3:Unit) => .tuple []) (fun x0_3=>[Q1]) (atN 4 (ctl1 i23p0)) 7 [] [] [] [] [] [.bool x0_2.1] (qCm k x0_2.1) trivial (fun _=>trivial) trivial fun x0_3 hx0_3=>?_
 exact oQF 1 [Q1] 1 [] [] (.tuple []) .ps trivial
theorem qAt (k:Nat):Pi23 (i23 k):=fun a0 a1 a2 a3 a4=>⟨fun x h=>qO0 k a0 a1 a2 a3 a4 (some x) h,fun h=>⟨_,qO0 k a0 a1 a2 a3 a4 none h⟩⟩
def Xg103:Fx Bool:=⟨Try.prog,cx,Try.f103,fun r => .bool r,0,fun _=>H0,cxTi,cxOrd,fun _=>none,false⟩
def g103p1:Pt:=nav [0,0,0] (nav [0] (bodyAt Try.f103))
def g103 (k:Nat) (a0:(List Nat)) (a1:(List S33)) (a2:Int):Option Bool :=
 (g72 k a0 a1 a2).bind fun x0_3=>some (decide (0 < x0_3))
theorem g103_ok (k:Nat) (a0:(List Nat)) (a1:(List S33)) (a2:Int) (r:Bool) (h:g103 k a0 a1 a2 = some r):PureOk Try.prog 103 [.str a0,w34 a1,.i a2] (.bool r):=by
 refine qA4 Xg103 (fun _=>⟨rfl,rfl⟩) Try.func103 (by decide +kernel) (by kernel_rfl) (t:=g103 k a0 a1 a2) ?_ h
 unfold g103
 refine qA (eE:=[(0,.str a0),(1,w34 a1),(2,.i a2)]) (by kernel_rfl) ?_
 refine oH 9 (atN 3 (ctl1 g103p1)) [(9,.i a2),(8,w34 a1),(7,.str a0),(6,.bool false),(0,.str a0),(1,w34 a1),(2,.i a2)] (mkH []) ?_
 refine oA (fun (x0_3:Int) => .i x0_3) (atN 4 (ctl1 g103p1)) 10 [.str a0,w34 a1,.i a2] (g72_ok k a0 a1 a2) fun x0_3 hx0_3=>?_
 exact oQ 4
abbrev Ti28:Type:=(List Nat) → (List S33) → Int → Int → Option Bool
def Xi28 (a0:(List Nat)) (a1:(List S33)) (a2:Int) (a3:Int):Fx Bool:=⟨Try.prog,cx,Try.f93,fun r => .bool r,1,fun r=>(mkH [⟨[.str a0,w34 a1,.i a2,.i a3],4,false⟩]),cxTi,cxOrd,fun _=>none,false⟩
def Pi28 (f:Ti28):Prop := ∀ a0 a1 a2 a3,PNh (Xi28 a0 a1 a2 a3) 93 [.ptr 0 4 0] (mkH [⟨[.str a0,w34 a1,.i a2,.i a3],4,false⟩]) (f a0 a1 a2 a3)
def i28p1:Pt:=nav [0,0,0] (nav [0] (bodyAt Try.f93))
def i28d0:DP:=⟨[],[(0,0,0),(1,0,0),(3,0,0),(7,0,0),(0,0,0),(16,0,0),(48,0,0),(112,0,0),(0,0,0),(256,0,0),(768,0,0),(1792,0,0),(4095,0,0),(8191,0,0)],14,thrown,[],H0⟩
def i28 (k:Nat) (a0:(List Nat)) (a1:(List S33)) (a2:Int) (a3:Int):Option Bool :=
 (g103 k a0 a1 a2).bind fun x0_12=>some x0_12
theorem i28_all (k:Nat):∀ a0 a1 a2 a3 r,i28 k a0 a1 a2 a3 = some r → CallT Try.prog 93 [.ptr 0 4 0] (mkH [⟨[.str a0,w34 a1,.i a2,.i a3],4,false⟩]) ((Xi28 a0 a1 a2 a3).thr r) ((Xi28 a0 a1 a2 a3).enc r) ((Xi28 a0 a1 a2 a3).fin r):=by
 intro a0 a1 a2 a3 r h
 refine qA2 (Xi28 a0 a1 a2 a3) Try.func93 (by kernel_rfl) (by kernel_rfl) rfl (t:=i28 k a0 a1 a2 a3) ?_ h
 unfold i28
 refine qA (eE:=[(0,.ptr 0 4 0)]) (by kernel_rfl) ?_
 let Q1:Blk:=⟨[.str a0,w34 a1,.i a2,.i a3],4,false⟩
 refine oH 5 i28p1 [(2,.bool false),(0,.ptr 0 4 0)] (mkH [Q1]) ?_
 refine qA7 (fun x0_12 hx0_12=>?_)
 let E1:Env:=[(14,.i a2),(13,.ptr 0 4 2),(12,.ptr 0 4 0),(11,.ptr 0 4 0),(10,w34 a1),(9,.ptr 0 4 1),(8,.ptr 0 4 0),(7,.ptr 0 4 0),(6,.str a0),(5,.ptr 0 4 0),(4,.ptr 0 4 0),(3,.ptr 0 4 0),(2,.bool false),(0,.ptr 0 4 0)]
 refine oD (H':=(mkH [Q1])) (nav [0] i28p1) ((2,.bool x0_12) :: (15,.bool x0_12) :: E1) [(mkH [Q1])] i28d0 (oDr 12 12 E1 (qAn (l':=(opsAt i28p1).toList.drop 13) (eE:=((15,.bool x0_12) :: E1)) (hs:=[(mkH [Q1])]) (fi:=103) (args:=[.str a0,w34 a1,.i a2]) (v := .bool x0_12) (by kernel_rfl) (by kernel_rfl) (by kernel_rfl) (g103_ok k a0 a1 a2 x0_12 hx0_12) (by kernel_rfl) (oDr 1 14 ((2,.bool x0_12) :: (15,.bool x0_12) :: E1) .nil))) ?_
 exact oQF 1 [Q1] 1 [] [.bool x0_12] (.bool x0_12) .ps trivial
theorem qH7 (k:Nat):Pi28 (i28 k):=fun a0 a1 a2 a3=>fun x h=>i28_all k a0 a1 a2 a3 x h
abbrev Ri39:Type:=((List Nat) × Int)
abbrev Ti39:Type:=(List Nat) → (List S33) → Int → Int → Option (Option Ri39)
def Xi39 (a0:(List Nat)) (a1:(List S33)) (a2:Int) (a3:Int):Fx (Option Ri39):=⟨Try.prog,cx,Try.f95,fun r=>match r with | some r => .str r.1 | none => .top,1,fun r=>match r with | some r=>(mkH [⟨[.str a0,w34 a1,.i r.2,.i a3],4,false⟩]) | none=>(mkH [⟨[.str a0,w34 a1,.i a2,.i a3],4,false⟩]),cxTi,cxOrd,fun r=>match r with | some _=>none | none=>some (thrown,[]),false⟩
def Pi39 (f:Ti39):Prop := ∀ a0 a1 a2 a3,PQh (Xi39 a0 a1 a2 a3) 95 [.ptr 0 4 0] (f a0 a1 a2 a3)
def i39c0:List Int:=[(3:Int),(2:Int),(7:Int)]
def i39p1:Pt:=nav [0,0,0] (nav [0] (bodyAt Try.f95))
def i39 (k:Nat) (a0:(List Nat)) (a1:(List S33)) (a2:Int) (a3:Int):Option (Option Ri39) :=
 bT (i33 k i39c0 a0 a1 a2 a3) fun x0_2=>some (some (x0_2.1,x0_2.2))
theorem qNt (k:Nat):∀ a0 a1 a2 a3 r,i39 k a0 a1 a2 a3 = some r → CallT Try.prog 95 [.ptr 0 4 0] (mkH [⟨[.str a0,w34 a1,.i a2,.i a3],4,false⟩]) ((Xi39 a0 a1 a2 a3).thr r) ((Xi39 a0 a1 a2 a3).enc r) ((Xi39 a0 a1 a2 a3).fin r):=by
 intro a0 a1 a2 a3 r h
 refine qA2 (Xi39 a0 a1 a2 a3) Try.func95 (by kernel_rfl) (by kernel_rfl) rfl (t:=i39 k a0 a1 a2 a3) ?_ h
 unfold i39
 refine qA (eE:=[(0,.ptr 0 4 0)]) (by kernel_rfl) ?_
 let Q1:Blk:=⟨[.str a0,w34 a1,.i a2,.i a3],4,false⟩
 refine oH 8 (atN 2 (ctl1 i39p1)) [(4,.slice 1 3 0 3 1),(3,.ptr 0 4 0),(2,.str []),(0,.ptr 0 4 0)] (mkH [Q1,⟨[.i 3,.i 2,.i 7],0,false⟩]) ?_
 refine oZ 4 1 3 1 [.i 3,.i 2,.i 7] [0,2,3] [] trivial ?_
 refine oE [(4,w3 i39c0),(0,.ptr 0 4 0),(2,.str []),(3,.ptr 0 4 0)] ?_
 refine oHp (mkH [Q1,⟨[],0,false⟩]) ?_
 refine oX (fun (x0_2:Ri33) => .str x0_2.1) (fun x0_2=>[⟨[.str a0,w34 a1,.i x0_2.2,.i a3],4,false⟩,⟨[],0,false⟩]) (atN 3 (ctl1 i39p1)) 5 [0] [] [] [] [] [.ptr 0 4 0,w3 i39c0] (qF3 k i39c0 a0 a1 a2 a3) trivial (fun _=>trivial) trivial fun x0_2 hx0_2=>?_
 exact oQF 3 [⟨[.str a0,w34 a1,.i x0_2.2,.i a3],4,false⟩,⟨[],0,false⟩] 1 [] [.str x0_2.1] (.str x0_2.1) .ps trivial
theorem i39_ok (k:Nat):Pi39 (i39 k):=fun a0 a1 a2 a3=>⟨fun x h=>qNt k a0 a1 a2 a3 (some x) h,fun h=>⟨_,qNt k a0 a1 a2 a3 none h⟩⟩
abbrev Ti35:Type:=(List Nat) → (List S33) → Int → Int → Option (Option (S28 × Int))
def Xi35 (a0:(List Nat)) (a1:(List S33)) (a2:Int) (a3:Int):Fx (Option (S28 × Int)):=⟨Try.prog,cx,Try.f98,fun r=>match r with | some r=>n29 r.1 | none => .top,1,fun r=>match r with | some r=>(mkH [⟨[.str a0,w34 a1,.i r.2,.i a3],4,false⟩]) | none=>(mkH [⟨[.str a0,w34 a1,.i a2,.i a3],4,false⟩]),cxTi,cxOrd,fun r=>match r with | some _=>none | none=>some (thrown,[0]),false⟩
def Pi35 (f:Ti35):Prop := ∀ a0 a1 a2 a3,PQh (Xi35 a0 a1 a2 a3) 98 [.ptr 0 4 0] (f a0 a1 a2 a3)
def i35p1:Pt:=nav [0,0,0] (nav [0] (bodyAt Try.f98))
def i35p2:Pt:=nav [0,0,0,0] i35p1
def i35p3:Pt:=nav [0,0] i35p2
def i35p4:Pt:=nav [1] i35p3
def i35p5:Pt:=nav [2,0,0] i35p3
def i35p6:Pt:=nav [0,0,0] i35p5
def i35 (k:Nat) (a0:(List Nat)) (a1:(List S33)) (a2:Int) (a3:Int):Option (Option (S28 × Int)) :=
 bT (i22 k a0 a1 a2 a3) fun x0_1=>bT (i7 k ([58]:List Nat) a0 a1 x0_1.2 a3) fun x1_1=>jn (fun (z5:(List Nat) × Int)=>bT (i23 k ([47]:List Nat) a0 a1 z5.2 a3) fun x3_1=>(catS z5.1 ([47]:List Nat)).bind fun x4_1=>bT (i39 k a0 a1 x3_1 a3) fun x4_3=>(catS x4_1 x4_3.1).bind fun x4_4=>some (some ((⟨(16:Int),x4_4,⟨0,[]⟩,false,false,([]:List (List Nat)),([]:List (List Nat))⟩:S28),x4_3.2))) (fun j5=>if x1_1.1 then ((catS x0_1.1 ([58]:List Nat)).bind fun x2_1=>bT (i22 k a0 a1 x1_1.2 a3) fun x2_3=>(catS x2_1 x2_3.1).bind fun x2_4=>j5 (x2_4,x2_3.2)) else (j5 (x0_1.1,x1_1.2)))
theorem qNu (k:Nat):∀ a0 a1 a2 a3 r,i35 k a0 a1 a2 a3 = some r → CallT Try.prog 98 [.ptr 0 4 0] (mkH [⟨[.str a0,w34 a1,.i a2,.i a3],4,false⟩]) ((Xi35 a0 a1 a2 a3).thr r) ((Xi35 a0 a1 a2 a3).enc r) ((Xi35 a0 a1 a2 a3).fin r):=by
 intro a0 a1 a2 a3 r h
 refine qA2 (Xi35 a0 a1 a2 a3) Try.func98 (by kernel_rfl) (by kernel_rfl) rfl (t:=i35 k a0 a1 a2 a3) ?_ h
 unfold i35
 refine qA (eE:=[(0,.ptr 0 4 0)]) (by kernel_rfl) ?_
 let Q1:Blk:=⟨[.i 0,.str [],.nils,.bool false,.bool false,.nils,.nils],0,false⟩
 refine oH 7 (atN 1 (ctl1 i35p1)) [(4,.ptr 0 4 0),(2,.ptr 1 7 0),(0,.ptr 0 4 0)] (mkH [⟨[.str a0,w34 a1,.i a2,.i a3],4,false⟩,Q1]) ?_
 refine oX (fun (x0_1:Ri22) => .str x0_1.1) (fun x0_1=>[⟨[.str a0,w34 a1,.i x0_1.2,.i a3],4,false⟩,Q1]) (atN 2 (ctl1 i35p1)) 5 [0] [] [] [] [] [.ptr 0 4 0] (qH8 k a0 a1 a2 a3) trivial (fun _=>trivial) trivial fun x0_1 hx0_1=>?_
 let E1:Env:=[(6,.ptr 0 4 0),(3,.str x0_1.1),(5,.str x0_1.1),(4,.ptr 0 4 0),(2,.ptr 1 7 0),(0,.ptr 0 4 0)]
 refine oR 6 (atN 1 (ctl1 i35p2)) E1 ?_
 refine oX (fun (x1_1:(Bool × Int)) => .bool x1_1.1) (fun x1_1=>[⟨[.str a0,w34 a1,.i x1_1.2,.i a3],4,false⟩,Q1]) (atN 2 (ctl1 i35p2)) 7 [0] [] [] [] [] [.ptr 0 4 0,.str [58]] (qAg k ([58]:List Nat) a0 a1 x0_1.2 a3) trivial (fun _=>trivial) trivial fun x1_1 hx1_1=>?_
 refine oR 1 i35p3 ((7,.bool x1_1.1) :: E1) ?_
 refine oJ i35p5 (fun (z5:(List Nat) × Int)=>[(0,.ptr 0 4 0),(2,.ptr 1 7 0),(3,.str z5.1)]) (fun (z5:(List Nat) × Int)=>(mkH [⟨[.str a0,w34 a1,.i z5.2,.i a3],4,false⟩,Q1])) (fun z5=>?_) (fun j5 hj5=>?_)
 ·refine oH 2 (atN 1 (ctl1 i35p5)) [(13,.ptr 0 4 0),(0,.ptr 0 4 0),(2,.ptr 1 7 0),(3,.str z5.1)] (mkH [⟨[.str a0,w34 a1,.i z5.2,.i a3],4,false⟩,Q1]) ?_
  refine oX (fun (x3_1:Int) => .tuple []) (fun x3_1=>[⟨[.str a0,w34 a1,.i x3_1,.i a3],4,false⟩,Q1]) (atN 2 (ctl1 i35p5)) 14 [0] [] [] [0] [] [.ptr 0 4 0,.str [47]] (qAt k ([47]:List Nat) a0 a1 z5.2 a3) trivial (fun _=>trivial) trivial fun x3_1 hx3_1=>?_
  let E2:Env:=[(15,.str z5.1),(14,.tuple []),(13,.ptr 0 4 0),(0,.ptr 0 4 0),(2,.ptr 1 7 0),(3,.str z5.1)]
  refine oR 4 (atN 1 (ctl1 i35p6)) E2 ?_
  let Q2:Blk:=⟨[.str a0,w34 a1,.i x3_1,.i a3],4,false⟩
  refine oC (fun (x4_1:(List Nat))=>(.str x4_1,(mkH [Q2,Q1]))) (atN 2 (ctl1 i35p6)) 16 (catH (by kernel_rfl)) fun x4_1 hx4_1=>?_
  refine oH 1 (atN 3 (ctl1 i35p6)) ((17,.ptr 0 4 0) :: (16,.str x4_1) :: E2) (mkH [Q2,Q1]) ?_
  refine oX (fun (x4_3:Ri39) => .str x4_3.1) (fun x4_3=>[⟨[.str a0,w34 a1,.i x4_3.2,.i a3],4,false⟩,Q1]) (atN 4 (ctl1 i35p6)) 18 [0] [] [] [] [] [.ptr 0 4 0] (i39_ok k a0 a1 x3_1 a3) trivial (fun _=>trivial) trivial fun x4_3 hx4_3=>?_
  let Q3:Blk:=⟨[.str a0,w34 a1,.i x4_3.2,.i a3],4,false⟩
  refine oC (fun (x4_4:(List Nat))=>(.str x4_4,(mkH [Q3,Q1]))) (atN 5 (ctl1 i35p6)) 19 (catH (by kernel_rfl)) fun x4_4 hx4_4=>?_
  exact oQF 4 [Q3,⟨[.i 16,.str x4_4,.nils,.bool false,.bool false,.nils,.nils],7,false⟩] 1 [] [.agg [.i 16,.str x4_4,.nils,.bool false,.bool false,.nils,.nils]] (.agg [.i 16,.str x4_4,.vec 0 7 [],.bool false,.bool false,.vec 0 1 [],.vec 0 1 []]) (.agg (.cs (.cs (.nil (.cs (.cs (.nil (.nil .ps))))))) .ps) trivial
 ·refine oS 7 (fun hb=>?_) (fun hb=>?_)
  ·let Q4:Blk:=⟨[.str a0,w34 a1,.i x1_1.2,.i a3],4,false⟩
   refine oH 3 (atN 1 (ctl1 i35p4)) ((8,.str x0_1.1) :: (7,.bool true) :: (7,.bool x1_1.1) :: E1) (mkH [Q4,Q1]) ?_
   refine oC (fun (x2_1:(List Nat))=>(.str x2_1,(mkH [Q4,Q1]))) (atN 2 (ctl1 i35p4)) 9 (catH (by kernel_rfl)) fun x2_1 hx2_1=>?_
   refine oH 1 (atN 3 (ctl1 i35p4)) ((10,.ptr 0 4 0) :: (9,.str x2_1) :: (8,.str x0_1.1) :: (7,.bool true) :: (7,.bool x1_1.1) :: E1) (mkH [Q4,Q1]) ?_
   refine oX (fun (x2_3:Ri22) => .str x2_3.1) (fun x2_3=>[⟨[.str a0,w34 a1,.i x2_3.2,.i a3],4,false⟩,Q1]) (atN 4 (ctl1 i35p4)) 11 [0] [] [] [] [] [.ptr 0 4 0] (qH8 k a0 a1 x1_1.2 a3) trivial (fun _=>trivial) trivial fun x2_3 hx2_3=>?_
   let Q5:Blk:=⟨[.str a0,w34 a1,.i x2_3.2,.i a3],4,false⟩
   refine oC (fun (x2_4:(List Nat))=>(.str x2_4,(mkH [Q5,Q1]))) (atN 5 (ctl1 i35p4)) 12 (catH (by kernel_rfl)) fun x2_4 hx2_4=>?_
   refine oLH 3 i35p5 [(0,.ptr 0 4 0),(2,.ptr 1 7 0),(3,.str x2_4)] (mkH [Q5,Q1]) ?_
   exact hj5 (x2_4,x2_3.2)
  ·refine oLH 3 i35p5 [(0,.ptr 0 4 0),(2,.ptr 1 7 0),(3,.str x0_1.1)] (mkH [⟨[.str a0,w34 a1,.i x1_1.2,.i a3],4,false⟩,Q1]) ?_
   exact hj5 (x0_1.1,x1_1.2)
theorem i35_ok (k:Nat):Pi35 (i35 k):=fun a0 a1 a2 a3=>⟨fun x h=>qNu k a0 a1 a2 a3 (some x) h,fun h=>⟨_,qNu k a0 a1 a2 a3 none h⟩⟩
abbrev Ti5:Type:=Int → (List Nat) → (List S33) → Int → Int → Option (Option (S28 × Int))
def Xi5 (a0:Int) (a1:(List Nat)) (a2:(List S33)) (a3:Int) (a4:Int):Fx (Option (S28 × Int)):=⟨Try.prog,cx,Try.f29,fun r=>match r with | some r=>n29 r.1 | none => .top,1,fun r=>match r with | some r=>(mkH [⟨[.str a1,w34 a2,.i r.2,.i a4],4,false⟩]) | none=>(mkH [⟨[.str a1,w34 a2,.i a3,.i a4],4,false⟩]),cxTi,cxOrd,fun r=>match r with | some _=>none | none=>some (thrown,[0]),false⟩
def Pi5 (f:Ti5):Prop := ∀ a0 a1 a2 a3 a4,PQh (Xi5 a0 a1 a2 a3 a4) 29 [.ptr 0 4 0,.i a0] (f a0 a1 a2 a3 a4)
abbrev Ti6:Type:=(List Nat) → (List S33) → Int → Int → Option (Option (S28 × Int))
def Xi6 (a0:(List Nat)) (a1:(List S33)) (a2:Int) (a3:Int):Fx (Option (S28 × Int)):=⟨Try.prog,cx,Try.f35,fun r=>match r with | some r=>n29 r.1 | none => .top,1,fun r=>match r with | some r=>(mkH [⟨[.str a0,w34 a1,.i r.2,.i a3],4,false⟩]) | none=>(mkH [⟨[.str a0,w34 a1,.i a2,.i a3],4,false⟩]),cxTi,cxOrd,fun r=>match r with | some _=>none | none=>some (thrown,[0]),false⟩
def Pi6 (f:Ti6):Prop := ∀ a0 a1 a2 a3,PQh (Xi6 a0 a1 a2 a3) 35 [.ptr 0 4 0] (f a0 a1 a2 a3)
abbrev Ri8:Type:=(S28 × Int × Int)
abbrev Ti8:Type:=(List Nat) → (List S33) → Int → Int → Option (Option Ri8)
def Xi8 (a0:(List Nat)) (a1:(List S33)) (a2:Int) (a3:Int):Fx (Option Ri8):=⟨Try.prog,cx,Try.f48,fun r=>match r with | some r => .tuple [n29 r.1,.i r.2.1] | none => .top,1,fun r=>match r with | some r=>(mkH [⟨[.str a0,w34 a1,.i r.2.2,.i a3],4,false⟩]) | none=>(mkH [⟨[.str a0,w34 a1,.i a2,.i a3],4,false⟩]),cxTi,cxOrd,fun r=>match r with | some _=>none | none=>some (thrown,[0]),false⟩
def Pi8 (f:Ti8):Prop := ∀ a0 a1 a2 a3,PQh (Xi8 a0 a1 a2 a3) 48 [.ptr 0 4 0] (f a0 a1 a2 a3)
abbrev Ri13:Type:=(S28 × Bool × Int)
abbrev Ti13:Type:=(List Nat) → (List S33) → Int → Int → Option (Option Ri13)
def Xi13 (a0:(List Nat)) (a1:(List S33)) (a2:Int) (a3:Int):Fx (Option Ri13):=⟨Try.prog,cx,Try.f66,fun r=>match r with | some r => .tuple [n29 r.1,.bool r.2.1] | none => .top,1,fun r=>match r with | some r=>(mkH [⟨[.str a0,w34 a1,.i r.2.2,.i a3],4,false⟩]) | none=>(mkH [⟨[.str a0,w34 a1,.i a2,.i a3],4,false⟩]),cxTi,cxOrd,fun r=>match r with | some _=>none | none=>some (thrown,[0]),false⟩
def Pi13 (f:Ti13):Prop := ∀ a0 a1 a2 a3,PQh (Xi13 a0 a1 a2 a3) 66 [.ptr 0 4 0] (f a0 a1 a2 a3)
abbrev Ti14:Type:=S28 → Bool → (List Nat) → (List S33) → Int → Int → Option (Option (S28 × Int))
def Xi14 (a0:S28) (a1:Bool) (a2:(List Nat)) (a3:(List S33)) (a4:Int) (a5:Int):Fx (Option (S28 × Int)):=⟨Try.prog,cx,Try.f67,fun r=>match r with | some r=>n29 r.1 | none => .top,1,fun r=>match r with | some r=>(mkH [⟨[.str a2,w34 a3,.i r.2,.i a5],4,false⟩]) | none=>(mkH [⟨[.str a2,w34 a3,.i a4,.i a5],4,false⟩]),cxTi,cxOrd,fun r=>match r with | some _=>none | none=>some (thrown,[0]),false⟩
def Pi14 (f:Ti14):Prop := ∀ a0 a1 a2 a3 a4 a5,PQh (Xi14 a0 a1 a2 a3 a4 a5) 67 [.ptr 0 4 0,n29 a0,.bool a1] (f a0 a1 a2 a3 a4 a5)
abbrev Ti17:Type:=(List Nat) → (List S33) → Int → Int → Option (Option (S28 × Int))
def Xi17 (a0:(List Nat)) (a1:(List S33)) (a2:Int) (a3:Int):Fx (Option (S28 × Int)):=⟨Try.prog,cx,Try.f76,fun r=>match r with | some r=>n29 r.1 | none => .top,1,fun r=>match r with | some r=>(mkH [⟨[.str a0,w34 a1,.i r.2,.i a3],4,false⟩]) | none=>(mkH [⟨[.str a0,w34 a1,.i a2,.i a3],4,false⟩]),cxTi,cxOrd,fun r=>match r with | some _=>none | none=>some (thrown,[0]),false⟩
def Pi17 (f:Ti17):Prop := ∀ a0 a1 a2 a3,PQh (Xi17 a0 a1 a2 a3) 76 [.ptr 0 4 0] (f a0 a1 a2 a3)
abbrev Ri18:Type:=(Int × (List Nat) × Bool × Bool × (List (List Nat)) × (List (List Nat)) × Int × (List S28))
abbrev Ti18:Type:=Int → (List Nat) → Bool → Bool → (List (List Nat)) → (List (List Nat)) → (List Nat) → (List Nat) → (List S33) → Int → Int → (List S28) → Option (Option Ri18)
def Xi18 (a0:Int) (a1:(List Nat)) (a2:Bool) (a3:Bool) (a4:(List (List Nat))) (a5:(List (List Nat))) (a6:(List Nat)) (a7:(List Nat)) (a8:(List S33)) (a9:Int) (a10:Int) (b1:(List S28)):Fx (Option Ri18):=⟨Try.prog,cx,Try.f77,fun r=>match r with | some r => .agg [.i r.1,.str r.2.1,.own 1 (r.2.2.2.2.2.2.2).length 7,.bool r.2.2.1,.bool r.2.2.2.1,w9 r.2.2.2.2.1,w9 r.2.2.2.2.2.1] | none => .top,2,fun r=>match r with | some r=>(mkH [⟨[.str a7,w34 a8,.i r.2.2.2.2.2.2.1,.i a10],4,false⟩,⟨(r.2.2.2.2.2.2.2).flatMap e29,0,false⟩]) | none=>(mkH [⟨[.str a7,w34 a8,.i a9,.i a10],4,false⟩,⟨(b1).flatMap e29,0,false⟩]),cxTi,cxOrd,fun r=>match r with | some _=>none | none=>some (thrown,[0,1]),false⟩
def Pi18 (f:Ti18):Prop := ∀ a0 a1 a2 a3 a4 a5 a6 a7 a8 a9 a10 b1,PQh (Xi18 a0 a1 a2 a3 a4 a5 a6 a7 a8 a9 a10 b1) 77 [.ptr 0 4 0,.agg [.i a0,.str a1,.own 1 (b1).length 7,.bool a2,.bool a3,w9 a4,w9 a5],.str a6,.func 78 [.ptr 0 4 0] []] (f a0 a1 a2 a3 a4 a5 a6 a7 a8 a9 a10 b1)
abbrev Ti19:Type:=(List Nat) → (List S33) → Int → Int → Option (Option (S28 × Int))
def Xi19 (a0:(List Nat)) (a1:(List S33)) (a2:Int) (a3:Int):Fx (Option (S28 × Int)):=⟨Try.prog,cx,Try.f79,fun r=>match r with | some r=>n29 r.1 | none => .top,1,fun r=>match r with | some r=>(mkH [⟨[.str a0,w34 a1,.i r.2,.i a3],4,false⟩]) | none=>(mkH [⟨[.str a0,w34 a1,.i a2,.i a3],4,false⟩]),cxTi,cxOrd,fun r=>match r with | some _=>none | none=>some (thrown,[0]),false⟩
def Pi19 (f:Ti19):Prop := ∀ a0 a1 a2 a3,PQh (Xi19 a0 a1 a2 a3) 79 [.ptr 0 4 0] (f a0 a1 a2 a3)
abbrev Ri20:Type:=(Int × (List Nat) × Bool × Bool × (List (List Nat)) × (List (List Nat)) × Int × (List S28))
abbrev Ti20:Type:=Int → (List Nat) → Bool → Bool → (List (List Nat)) → (List (List Nat)) → (List Nat) → (List Nat) → (List S33) → Int → Int → (List S28) → Option (Option Ri20)
def Xi20 (a0:Int) (a1:(List Nat)) (a2:Bool) (a3:Bool) (a4:(List (List Nat))) (a5:(List (List Nat))) (a6:(List Nat)) (a7:(List Nat)) (a8:(List S33)) (a9:Int) (a10:Int) (b1:(List S28)):Fx (Option Ri20):=⟨Try.prog,cx,Try.f77,fun r=>match r with | some r => .agg [.i r.1,.str r.2.1,.own 1 (r.2.2.2.2.2.2.2).length 7,.bool r.2.2.1,.bool r.2.2.2.1,w9 r.2.2.2.2.1,w9 r.2.2.2.2.2.1] | none => .top,2,fun r=>match r with | some r=>(mkH [⟨[.str a7,w34 a8,.i r.2.2.2.2.2.2.1,.i a10],4,false⟩,⟨(r.2.2.2.2.2.2.2).flatMap e29,0,false⟩]) | none=>(mkH [⟨[.str a7,w34 a8,.i a9,.i a10],4,false⟩,⟨(b1).flatMap e29,0,false⟩]),cxTi,cxOrd,fun r=>match r with | some _=>none | none=>some (thrown,[0,1]),false⟩
def Pi20 (f:Ti20):Prop := ∀ a0 a1 a2 a3 a4 a5 a6 a7 a8 a9 a10 b1,PQh (Xi20 a0 a1 a2 a3 a4 a5 a6 a7 a8 a9 a10 b1) 77 [.ptr 0 4 0,.agg [.i a0,.str a1,.own 1 (b1).length 7,.bool a2,.bool a3,w9 a4,w9 a5],.str a6,.func 80 [.ptr 0 4 0] []] (f a0 a1 a2 a3 a4 a5 a6 a7 a8 a9 a10 b1)
abbrev Ri21:Type:=(Int × (List Nat) × Bool × Bool × (List (List Nat)) × (List (List Nat)) × Int × (List S28))
abbrev Ti21:Type:=Int → (List Nat) → Bool → Bool → (List (List Nat)) → (List (List Nat)) → (List Nat) → (List Nat) → (List S33) → Int → Int → (List S28) → Option (Option Ri21)
def Xi21 (a0:Int) (a1:(List Nat)) (a2:Bool) (a3:Bool) (a4:(List (List Nat))) (a5:(List (List Nat))) (a6:(List Nat)) (a7:(List Nat)) (a8:(List S33)) (a9:Int) (a10:Int) (b1:(List S28)):Fx (Option Ri21):=⟨Try.prog,cx,Try.f77,fun r=>match r with | some r => .agg [.i r.1,.str r.2.1,.own 1 (r.2.2.2.2.2.2.2).length 7,.bool r.2.2.1,.bool r.2.2.2.1,w9 r.2.2.2.2.1,w9 r.2.2.2.2.2.1] | none => .top,2,fun r=>match r with | some r=>(mkH [⟨[.str a7,w34 a8,.i r.2.2.2.2.2.2.1,.i a10],4,false⟩,⟨(r.2.2.2.2.2.2.2).flatMap e29,0,false⟩]) | none=>(mkH [⟨[.str a7,w34 a8,.i a9,.i a10],4,false⟩,⟨(b1).flatMap e29,0,false⟩]),cxTi,cxOrd,fun r=>match r with | some _=>none | none=>some (thrown,[0,1]),false⟩
def Pi21 (f:Ti21):Prop := ∀ a0 a1 a2 a3 a4 a5 a6 a7 a8 a9 a10 b1,PQh (Xi21 a0 a1 a2 a3 a4 a5 a6 a7 a8 a9 a10 b1) 77 [.ptr 0 4 0,.agg [.i a0,.str a1,.own 1 (b1).length 7,.bool a2,.bool a3,w9 a4,w9 a5],.str a6,.func 81 [.ptr 0 4 0] []] (f a0 a1 a2 a3 a4 a5 a6 a7 a8 a9 a10 b1)
abbrev Ti24:Type:=(List Nat) → (List S33) → Int → Int → Option (Option (S28 × Int))
def Xi24 (a0:(List Nat)) (a1:(List S33)) (a2:Int) (a3:Int):Fx (Option (S28 × Int)):=⟨Try.prog,cx,Try.f84,fun r=>match r with | some r=>n29 r.1 | none => .top,1,fun r=>match r with | some r=>(mkH [⟨[.str a0,w34 a1,.i r.2,.i a3],4,false⟩]) | none=>(mkH [⟨[.str a0,w34 a1,.i a2,.i a3],4,false⟩]),cxTi,cxOrd,fun r=>match r with | some _=>none | none=>some (thrown,[0]),false⟩
def Pi24 (f:Ti24):Prop := ∀ a0 a1 a2 a3,PQh (Xi24 a0 a1 a2 a3) 84 [.ptr 0 4 0] (f a0 a1 a2 a3)
abbrev Ti25:Type:=(List Nat) → (List S33) → Int → Int → Option (Option (S28 × Int))
def Xi25 (a0:(List Nat)) (a1:(List S33)) (a2:Int) (a3:Int):Fx (Option (S28 × Int)):=⟨Try.prog,cx,Try.f86,fun r=>match r with | some r=>n29 r.1 | none => .top,1,fun r=>match r with | some r=>(mkH [⟨[.str a0,w34 a1,.i r.2,.i a3],4,false⟩]) | none=>(mkH [⟨[.str a0,w34 a1,.i a2,.i a3],4,false⟩]),cxTi,cxOrd,fun r=>match r with | some _=>none | none=>some (thrown,[0]),false⟩
def Pi25 (f:Ti25):Prop := ∀ a0 a1 a2 a3,PQh (Xi25 a0 a1 a2 a3) 86 [.ptr 0 4 0] (f a0 a1 a2 a3)
abbrev Ti26:Type:=S28 → (List Nat) → (List S33) → Int → Int → Option (Option (S28 × Int))
def Xi26 (a0:S28) (a1:(List Nat)) (a2:(List S33)) (a3:Int) (a4:Int):Fx (Option (S28 × Int)):=⟨Try.prog,cx,Try.f87,fun r=>match r with | some r=>n29 r.1 | none => .top,1,fun r=>match r with | some r=>(mkH [⟨[.str a1,w34 a2,.i r.2,.i a4],4,false⟩]) | none=>(mkH [⟨[.str a1,w34 a2,.i a3,.i a4],4,false⟩]),cxTi,cxOrd,fun r=>match r with | some _=>none | none=>some (thrown,[0]),false⟩
def Pi26 (f:Ti26):Prop := ∀ a0 a1 a2 a3 a4,PQh (Xi26 a0 a1 a2 a3 a4) 87 [.ptr 0 4 0,n29 a0] (f a0 a1 a2 a3 a4)
abbrev Ti29:Type:=(List Nat) → (List S33) → Int → Int → Option (Option (S28 × Int))
def Xi29 (a0:(List Nat)) (a1:(List S33)) (a2:Int) (a3:Int):Fx (Option (S28 × Int)):=⟨Try.prog,cx,Try.f78,fun r=>match r with | some r=>n29 r.1 | none => .top,1,fun r=>match r with | some r=>(mkH [⟨[.str a0,w34 a1,.i r.2,.i a3],4,false⟩]) | none=>(mkH [⟨[.str a0,w34 a1,.i a2,.i a3],4,false⟩]),cxTi,cxOrd,fun r=>match r with | some _=>none | none=>some (thrown,[0]),false⟩
def Pi29 (f:Ti29):Prop := ∀ a0 a1 a2 a3,PQh (Xi29 a0 a1 a2 a3) 78 [.ptr 0 4 0] (f a0 a1 a2 a3)
abbrev Ri30:Type:=(Int × (List Nat) × Bool × Bool × (List (List Nat)) × (List (List Nat)) × Int × (List S28))
abbrev Ti30:Type:=Int → (List Nat) → Bool → Bool → (List (List Nat)) → (List (List Nat)) → (List Nat) → (List S33) → Int → Int → (List S28) → Option (Option Ri30)
def Xi30 (a0:Int) (a1:(List Nat)) (a2:Bool) (a3:Bool) (a4:(List (List Nat))) (a5:(List (List Nat))) (a6:(List Nat)) (a7:(List S33)) (a8:Int) (a9:Int) (b1:(List S28)):Fx (Option Ri30):=⟨Try.prog,cx,Try.f94,fun r=>match r with | some r => .agg [.i r.1,.str r.2.1,.own 1 (r.2.2.2.2.2.2.2).length 7,.bool r.2.2.1,.bool r.2.2.2.1,w9 r.2.2.2.2.1,w9 r.2.2.2.2.2.1] | none => .top,2,fun r=>match r with | some r=>(mkH [⟨[.str a6,w34 a7,.i r.2.2.2.2.2.2.1,.i a9],4,false⟩,⟨(r.2.2.2.2.2.2.2).flatMap e29,0,false⟩]) | none=>(mkH [⟨[.str a6,w34 a7,.i a8,.i a9],4,false⟩,⟨(b1).flatMap e29,0,false⟩]),cxTi,cxOrd,fun r=>match r with | some _=>none | none=>some (thrown,[0,1]),false⟩
def Pi30 (f:Ti30):Prop := ∀ a0 a1 a2 a3 a4 a5 a6 a7 a8 a9 b1,PQh (Xi30 a0 a1 a2 a3 a4 a5 a6 a7 a8 a9 b1) 94 [.ptr 0 4 0,.agg [.i a0,.str a1,.own 1 (b1).length 7,.bool a2,.bool a3,w9 a4,w9 a5]] (f a0 a1 a2 a3 a4 a5 a6 a7 a8 a9 b1)
abbrev Ti31:Type:=(List Nat) → (List S33) → Int → Int → Option (Option (S28 × Int))
def Xi31 (a0:(List Nat)) (a1:(List S33)) (a2:Int) (a3:Int):Fx (Option (S28 × Int)):=⟨Try.prog,cx,Try.f80,fun r=>match r with | some r=>n29 r.1 | none => .top,1,fun r=>match r with | some r=>(mkH [⟨[.str a0,w34 a1,.i r.2,.i a3],4,false⟩]) | none=>(mkH [⟨[.str a0,w34 a1,.i a2,.i a3],4,false⟩]),cxTi,cxOrd,fun r=>match r with | some _=>none | none=>some (thrown,[0]),false⟩
def Pi31 (f:Ti31):Prop := ∀ a0 a1 a2 a3,PQh (Xi31 a0 a1 a2 a3) 80 [.ptr 0 4 0] (f a0 a1 a2 a3)
abbrev Ti32:Type:=(List Nat) → (List S33) → Int → Int → Option (Option (S28 × Int))
def Xi32 (a0:(List Nat)) (a1:(List S33)) (a2:Int) (a3:Int):Fx (Option (S28 × Int)):=⟨Try.prog,cx,Try.f81,fun r=>match r with | some r=>n29 r.1 | none => .top,1,fun r=>match r with | some r=>(mkH [⟨[.str a0,w34 a1,.i r.2,.i a3],4,false⟩]) | none=>(mkH [⟨[.str a0,w34 a1,.i a2,.i a3],4,false⟩]),cxTi,cxOrd,fun r=>match r with | some _=>none | none=>some (thrown,[0]),false⟩
def Pi32 (f:Ti32):Prop := ∀ a0 a1 a2 a3,PQh (Xi32 a0 a1 a2 a3) 81 [.ptr 0 4 0] (f a0 a1 a2 a3)
abbrev Ti34:Type:=(List Nat) → (List S33) → Int → Int → Option (Option (S28 × Int))
def Xi34 (a0:(List Nat)) (a1:(List S33)) (a2:Int) (a3:Int):Fx (Option (S28 × Int)):=⟨Try.prog,cx,Try.f97,fun r=>match r with | some r=>n29 r.1 | none => .top,1,fun r=>match r with | some r=>(mkH [⟨[.str a0,w34 a1,.i r.2,.i a3],4,false⟩]) | none=>(mkH [⟨[.str a0,w34 a1,.i a2,.i a3],4,false⟩]),cxTi,cxOrd,fun r=>match r with | some _=>none | none=>some (thrown,[0]),false⟩
def Pi34 (f:Ti34):Prop := ∀ a0 a1 a2 a3,PQh (Xi34 a0 a1 a2 a3) 97 [.ptr 0 4 0] (f a0 a1 a2 a3)
abbrev Ri36:Type:=(Int × (List Nat) × Bool × Bool × (List (List Nat)) × (List (List Nat)) × Int × (List S28))
abbrev Ti36:Type:=Int → (List Nat) → Bool → Bool → (List (List Nat)) → (List (List Nat)) → (List Nat) → (List S33) → Int → Int → (List S28) → Option (Option Ri36)
def Xi36 (a0:Int) (a1:(List Nat)) (a2:Bool) (a3:Bool) (a4:(List (List Nat))) (a5:(List (List Nat))) (a6:(List Nat)) (a7:(List S33)) (a8:Int) (a9:Int) (b1:(List S28)):Fx (Option Ri36):=⟨Try.prog,cx,Try.f99,fun r=>match r with | some r => .agg [.i r.1,.str r.2.1,.own 1 (r.2.2.2.2.2.2.2).length 7,.bool r.2.2.1,.bool r.2.2.2.1,w9 r.2.2.2.2.1,w9 r.2.2.2.2.2.1] | none => .top,2,fun r=>match r with | some r=>(mkH [⟨[.str a6,w34 a7,.i r.2.2.2.2.2.2.1,.i a9],4,false⟩,⟨(r.2.2.2.2.2.2.2).flatMap e29,0,false⟩]) | none=>(mkH [⟨[.str a6,w34 a7,.i a8,.i a9],4,false⟩,⟨(b1).flatMap e29,0,false⟩]),cxTi,cxOrd,fun r=>match r with | some _=>none | none=>some (thrown,[0,1]),false⟩
def Pi36 (f:Ti36):Prop := ∀ a0 a1 a2 a3 a4 a5 a6 a7 a8 a9 b1,PQh (Xi36 a0 a1 a2 a3 a4 a5 a6 a7 a8 a9 b1) 99 [.ptr 0 4 0,.agg [.i a0,.str a1,.own 1 (b1).length 7,.bool a2,.bool a3,w9 a4,w9 a5],.func 100 [.ptr 0 4 0] []] (f a0 a1 a2 a3 a4 a5 a6 a7 a8 a9 b1)
abbrev Ri37:Type:=(Int × (List Nat) × Bool × Bool × (List (List Nat)) × (List (List Nat)) × Int × (List S28))
abbrev Ti37:Type:=Int → (List Nat) → Bool → Bool → (List (List Nat)) → (List (List Nat)) → (List Nat) → (List S33) → Int → Int → (List S28) → Option (Option Ri37)
def Xi37 (a0:Int) (a1:(List Nat)) (a2:Bool) (a3:Bool) (a4:(List (List Nat))) (a5:(List (List Nat))) (a6:(List Nat)) (a7:(List S33)) (a8:Int) (a9:Int) (b1:(List S28)):Fx (Option Ri37):=⟨Try.prog,cx,Try.f99,fun r=>match r with | some r => .agg [.i r.1,.str r.2.1,.own 1 (r.2.2.2.2.2.2.2).length 7,.bool r.2.2.1,.bool r.2.2.2.1,w9 r.2.2.2.2.1,w9 r.2.2.2.2.2.1] | none => .top,2,fun r=>match r with | some r=>(mkH [⟨[.str a6,w34 a7,.i r.2.2.2.2.2.2.1,.i a9],4,false⟩,⟨(r.2.2.2.2.2.2.2).flatMap e29,0,false⟩]) | none=>(mkH [⟨[.str a6,w34 a7,.i a8,.i a9],4,false⟩,⟨(b1).flatMap e29,0,false⟩]),cxTi,cxOrd,fun r=>match r with | some _=>none | none=>some (thrown,[0,1]),false⟩
def Pi37 (f:Ti37):Prop := ∀ a0 a1 a2 a3 a4 a5 a6 a7 a8 a9 b1,PQh (Xi37 a0 a1 a2 a3 a4 a5 a6 a7 a8 a9 b1) 99 [.ptr 0 4 0,.agg [.i a0,.str a1,.own 1 (b1).length 7,.bool a2,.bool a3,w9 a4,w9 a5],.func 101 [.ptr 0 4 0] []] (f a0 a1 a2 a3 a4 a5 a6 a7 a8 a9 b1)
abbrev Ti38:Type:=(List Nat) → (List S33) → Int → Int → Option (Option (S28 × Int))
def Xi38 (a0:(List Nat)) (a1:(List S33)) (a2:Int) (a3:Int):Fx (Option (S28 × Int)):=⟨Try.prog,cx,Try.f102,fun r=>match r with | some r=>n29 r.1 | none => .top,1,fun r=>match r with | some r=>(mkH [⟨[.str a0,w34 a1,.i r.2,.i a3],4,false⟩]) | none=>(mkH [⟨[.str a0,w34 a1,.i a2,.i a3],4,false⟩]),cxTi,cxOrd,fun r=>match r with | some _=>none | none=>some (thrown,[0]),false⟩
def Pi38 (f:Ti38):Prop := ∀ a0 a1 a2 a3,PQh (Xi38 a0 a1 a2 a3) 102 [.ptr 0 4 0] (f a0 a1 a2 a3)
abbrev Ri40:Type:=((List S28) × Int)
abbrev Ti40:Type:=(List (List Nat)) → (List Nat) → (List S33) → Int → Int → Option (Option Ri40)
def Xi40 (a0:(List (List Nat))) (a1:(List Nat)) (a2:(List S33)) (a3:Int) (a4:Int):Fx (Option Ri40):=⟨Try.prog,cx,Try.f105,fun r=>match r with | some r=>w29 r.1 | none => .top,2,fun r=>match r with | some r=>(mkH [⟨[.str a1,w34 a2,.i r.2,.i a4],4,false⟩,⟨[.ptr 0 4 0],1,false⟩]) | none=>(mkH [⟨[.str a1,w34 a2,.i a3,.i a4],4,false⟩,⟨[.ptr 0 4 0],1,false⟩]),cxTi,cxOrd,fun r=>match r with | some _=>none | none=>some (thrown,[0,1]),false⟩
def Pi40 (f:Ti40):Prop := ∀ a0 a1 a2 a3 a4,PQh (Xi40 a0 a1 a2 a3 a4) 105 [.ptr 0 4 0,w9 a0,.func 106 [] [.ptr 1 1 0]] (f a0 a1 a2 a3 a4)
abbrev Ri41:Type:=((List S28) × Int)
abbrev Ti41:Type:=(List (List Nat)) → (List Nat) → (List S33) → Int → Int → Option (Option Ri41)
def Xi41 (a0:(List (List Nat))) (a1:(List Nat)) (a2:(List S33)) (a3:Int) (a4:Int):Fx (Option Ri41):=⟨Try.prog,cx,Try.f105,fun r=>match r with | some r=>w29 r.1 | none => .top,1,fun r=>match r with | some r=>(mkH [⟨[.str a1,w34 a2,.i r.2,.i a4],4,false⟩]) | none=>(mkH [⟨[.str a1,w34 a2,.i a3,.i a4],4,false⟩]),cxTi,cxOrd,fun r=>match r with | some _=>none | none=>some (thrown,[0]),false⟩
def Pi41 (f:Ti41):Prop := ∀ a0 a1 a2 a3 a4,PQh (Xi41 a0 a1 a2 a3 a4) 105 [.ptr 0 4 0,w9 a0,.func 100 [.ptr 0 4 0] []] (f a0 a1 a2 a3 a4)
abbrev Ri42:Type:=((List S28) × Int)
abbrev Ti42:Type:=(List (List Nat)) → (List Nat) → (List S33) → Int → Int → Option (Option Ri42)
def Xi42 (a0:(List (List Nat))) (a1:(List Nat)) (a2:(List S33)) (a3:Int) (a4:Int):Fx (Option Ri42):=⟨Try.prog,cx,Try.f105,fun r=>match r with | some r=>w29 r.1 | none => .top,1,fun r=>match r with | some r=>(mkH [⟨[.str a1,w34 a2,.i r.2,.i a4],4,false⟩]) | none=>(mkH [⟨[.str a1,w34 a2,.i a3,.i a4],4,false⟩]),cxTi,cxOrd,fun r=>match r with | some _=>none | none=>some (thrown,[0]),false⟩
def Pi42 (f:Ti42):Prop := ∀ a0 a1 a2 a3 a4,PQh (Xi42 a0 a1 a2 a3 a4) 105 [.ptr 0 4 0,w9 a0,.func 101 [.ptr 0 4 0] []] (f a0 a1 a2 a3 a4)
abbrev Ri43:Type:=(Int × (List S28))
abbrev Ti43:Type:=(List (List Nat)) → (List Nat) → (List S33) → Int → Int → Option (Option Ri43)
def Xi43 (a0:(List (List Nat))) (a1:(List Nat)) (a2:(List S33)) (a3:Int) (a4:Int):Fx (Option Ri43):=⟨Try.prog,cx,Try.f105,fun r=>match r with | some r => .own 1 (r.2).length 7 | none => .top,1,fun r=>match r with | some r=>(mkH [⟨[.str a1,w34 a2,.i r.1,.i a4],4,false⟩,⟨(r.2).flatMap e29,0,false⟩]) | none=>(mkH [⟨[.str a1,w34 a2,.i a3,.i a4],4,false⟩]),cxTi,cxOrd,fun r=>match r with | some _=>none | none=>some (thrown,[0]),false⟩
def Pi43 (f:Ti43):Prop := ∀ a0 a1 a2 a3 a4,PQh (Xi43 a0 a1 a2 a3 a4) 105 [.ptr 0 4 0,w9 a0,.func 100 [.ptr 0 4 0] []] (f a0 a1 a2 a3 a4)
abbrev Ti44:Type:=(List Nat) → (List S33) → Int → Int → Option (Option (S28 × Int))
def Xi44 (a0:(List Nat)) (a1:(List S33)) (a2:Int) (a3:Int):Fx (Option (S28 × Int)):=⟨Try.prog,cx,Try.f106,fun r=>match r with | some r=>n29 r.1 | none => .top,2,fun r=>match r with | some r=>(mkH [⟨[.str a0,w34 a1,.i r.2,.i a3],4,false⟩,⟨[.ptr 0 4 0],1,false⟩]) | none=>(mkH [⟨[.str a0,w34 a1,.i a2,.i a3],4,false⟩,⟨[.ptr 0 4 0],1,false⟩]),cxTi,cxOrd,fun r=>match r with | some _=>none | none=>some (thrown,[0,1]),false⟩
def Pi44 (f:Ti44):Prop := ∀ a0 a1 a2 a3,PQh (Xi44 a0 a1 a2 a3) 106 [.ptr 1 1 0] (f a0 a1 a2 a3)
abbrev Ti45:Type:=(List Nat) → (List S33) → Int → Int → Option (Option (S28 × Int))
def Xi45 (a0:(List Nat)) (a1:(List S33)) (a2:Int) (a3:Int):Fx (Option (S28 × Int)):=⟨Try.prog,cx,Try.f100,fun r=>match r with | some r=>n29 r.1 | none => .top,1,fun r=>match r with | some r=>(mkH [⟨[.str a0,w34 a1,.i r.2,.i a3],4,false⟩]) | none=>(mkH [⟨[.str a0,w34 a1,.i a2,.i a3],4,false⟩]),cxTi,cxOrd,fun r=>match r with | some _=>none | none=>some (thrown,[0]),false⟩
def Pi45 (f:Ti45):Prop := ∀ a0 a1 a2 a3,PQh (Xi45 a0 a1 a2 a3) 100 [.ptr 0 4 0] (f a0 a1 a2 a3)
abbrev Ti46:Type:=(List Nat) → (List S33) → Int → Int → Option (Option (S28 × Int))
def Xi46 (a0:(List Nat)) (a1:(List S33)) (a2:Int) (a3:Int):Fx (Option (S28 × Int)):=⟨Try.prog,cx,Try.f101,fun r=>match r with | some r=>n29 r.1 | none => .top,1,fun r=>match r with | some r=>(mkH [⟨[.str a0,w34 a1,.i r.2,.i a3],4,false⟩]) | none=>(mkH [⟨[.str a0,w34 a1,.i a2,.i a3],4,false⟩]),cxTi,cxOrd,fun r=>match r with | some _=>none | none=>some (thrown,[0]),false⟩
def Pi46 (f:Ti46):Prop := ∀ a0 a1 a2 a3,PQh (Xi46 a0 a1 a2 a3) 101 [.ptr 0 4 0] (f a0 a1 a2 a3)
abbrev Ti47:Type:=(List Nat) → S28 → S28 → (List Nat) → (List S33) → Int → Int → Option (Option (S28 × Int))
def Xi47 (a0:(List Nat)) (a1:S28) (a2:S28) (a3:(List Nat)) (a4:(List S33)) (a5:Int) (a6:Int):Fx (Option (S28 × Int)):=⟨Try.prog,cx,Try.f108,fun r=>match r with | some r=>n29 r.1 | none => .top,1,fun r=>match r with | some r=>(mkH [⟨[.str a3,w34 a4,.i r.2,.i a6],4,false⟩]) | none=>(mkH [⟨[.str a3,w34 a4,.i a5,.i a6],4,false⟩]),cxTi,cxOrd,fun r=>match r with | some _=>none | none=>some (thrown,[0]),false⟩
def Pi47 (f:Ti47):Prop := ∀ a0 a1 a2 a3 a4 a5 a6,PQh (Xi47 a0 a1 a2 a3 a4 a5 a6) 108 [.ptr 0 4 0,.str a0,n29 a1,n29 a2] (f a0 a1 a2 a3 a4 a5 a6)
abbrev Ti48:Type:=(List Nat) → (List Nat) → (List S33) → Int → Int → Option (Option (S28 × Int))
def Xi48 (a0:(List Nat)) (a1:(List Nat)) (a2:(List S33)) (a3:Int) (a4:Int):Fx (Option (S28 × Int)):=⟨Try.prog,cx,Try.f107,fun r=>match r with | some r=>n29 r.1 | none => .top,1,fun r=>match r with | some r=>(mkH [⟨[.str a1,w34 a2,.i r.2,.i a4],4,false⟩]) | none=>(mkH [⟨[.str a1,w34 a2,.i a3,.i a4],4,false⟩]),cxTi,cxOrd,fun r=>match r with | some _=>none | none=>some (thrown,[0]),false⟩
def Pi48 (f:Ti48):Prop := ∀ a0 a1 a2 a3 a4,PQh (Xi48 a0 a1 a2 a3 a4) 107 [.ptr 0 4 0,.str a0] (f a0 a1 a2 a3 a4)
abbrev Ti49:Type:=(List Nat) → (List S33) → Int → Int → Option (Option (S28 × Int))
def Xi49 (a0:(List Nat)) (a1:(List S33)) (a2:Int) (a3:Int):Fx (Option (S28 × Int)):=⟨Try.prog,cx,Try.f109,fun r=>match r with | some r=>n29 r.1 | none => .top,1,fun r=>match r with | some r=>(mkH [⟨[.str a0,w34 a1,.i r.2,.i a3],4,false⟩]) | none=>(mkH [⟨[.str a0,w34 a1,.i a2,.i a3],4,false⟩]),cxTi,cxOrd,fun r=>match r with | some _=>none | none=>some (thrown,[0]),false⟩
def Pi49 (f:Ti49):Prop := ∀ a0 a1 a2 a3,PQh (Xi49 a0 a1 a2 a3) 109 [.ptr 0 4 0] (f a0 a1 a2 a3)
abbrev Ti50:Type:=(List Nat) → (List S33) → Int → Int → Option (Option (S28 × Int))
def Xi50 (a0:(List Nat)) (a1:(List S33)) (a2:Int) (a3:Int):Fx (Option (S28 × Int)):=⟨Try.prog,cx,Try.f110,fun r=>match r with | some r=>n29 r.1 | none => .top,1,fun r=>match r with | some r=>(mkH [⟨[.str a0,w34 a1,.i r.2,.i a3],4,false⟩]) | none=>(mkH [⟨[.str a0,w34 a1,.i a2,.i a3],4,false⟩]),cxTi,cxOrd,fun r=>match r with | some _=>none | none=>some (thrown,[0]),false⟩
def Pi50 (f:Ti50):Prop := ∀ a0 a1 a2 a3,PQh (Xi50 a0 a1 a2 a3) 110 [.ptr 0 4 0] (f a0 a1 a2 a3)
abbrev Ti51:Type:=(List Nat) → (List S33) → Int → Int → Option (Option (S28 × Int))
def Xi51 (a0:(List Nat)) (a1:(List S33)) (a2:Int) (a3:Int):Fx (Option (S28 × Int)):=⟨Try.prog,cx,Try.f112,fun r=>match r with | some r=>n29 r.1 | none => .top,1,fun r=>match r with | some r=>(mkH [⟨[.str a0,w34 a1,.i r.2,.i a3],4,false⟩]) | none=>(mkH [⟨[.str a0,w34 a1,.i a2,.i a3],4,false⟩]),cxTi,cxOrd,fun r=>match r with | some _=>none | none=>some (thrown,[0]),false⟩
def Pi51 (f:Ti51):Prop := ∀ a0 a1 a2 a3,PQh (Xi51 a0 a1 a2 a3) 112 [.ptr 0 4 0] (f a0 a1 a2 a3)
abbrev Ti52:Type:=(List Nat) → (List S33) → Int → Int → Option (Option (S28 × Int))
def Xi52 (a0:(List Nat)) (a1:(List S33)) (a2:Int) (a3:Int):Fx (Option (S28 × Int)):=⟨Try.prog,cx,Try.f113,fun r=>match r with | some r=>n29 r.1 | none => .top,1,fun r=>match r with | some r=>(mkH [⟨[.str a0,w34 a1,.i r.2,.i a3],4,false⟩]) | none=>(mkH [⟨[.str a0,w34 a1,.i a2,.i a3],4,false⟩]),cxTi,cxOrd,fun r=>match r with | some _=>none | none=>some (thrown,[0]),false⟩
def Pi52 (f:Ti52):Prop := ∀ a0 a1 a2 a3,PQh (Xi52 a0 a1 a2 a3) 113 [.ptr 0 4 0] (f a0 a1 a2 a3)
structure Fns0 where
 i5:Ti5
 i6:Ti6
 i8:Ti8
 i13:Ti13
 i14:Ti14
 i17:Ti17
 i18:Ti18
 i19:Ti19
 i20:Ti20
 i21:Ti21
 i24:Ti24
 i25:Ti25
 i26:Ti26
 i29:Ti29
 i30:Ti30
 i31:Ti31
 i32:Ti32
 i34:Ti34
 i36:Ti36
 i37:Ti37
 i38:Ti38
 i40:Ti40
 i41:Ti41
 i42:Ti42
 i43:Ti43
 i44:Ti44
 i45:Ti45
 i46:Ti46
 i47:Ti47
 i48:Ti48
 i49:Ti49
 i50:Ti50
 i51:Ti51
 i52:Ti52
structure FnsOk0 (F:Fns0):Prop where
 i5_ok:Pi5 (F.i5)
 i6_ok:Pi6 (F.i6)
 i8_ok:Pi8 (F.i8)
 i13_ok:Pi13 (F.i13)
 i14_ok:Pi14 (F.i14)
 i17_ok:Pi17 (F.i17)
 i18_ok:Pi18 (F.i18)
 i19_ok:Pi19 (F.i19)
 i20_ok:Pi20 (F.i20)
 i21_ok:Pi21 (F.i21)
 i24_ok:Pi24 (F.i24)
 i25_ok:Pi25 (F.i25)
 i26_ok:Pi26 (F.i26)
 i29_ok:Pi29 (F.i29)
 i30_ok:Pi30 (F.i30)
 i31_ok:Pi31 (F.i31)
 i32_ok:Pi32 (F.i32)
 i34_ok:Pi34 (F.i34)
 i36_ok:Pi36 (F.i36)
 i37_ok:Pi37 (F.i37)
 i38_ok:Pi38 (F.i38)
 i40_ok:Pi40 (F.i40)
 i41_ok:Pi41 (F.i41)
 i42_ok:Pi42 (F.i42)
 i43_ok:Pi43 (F.i43)
 i44_ok:Pi44 (F.i44)
 i45_ok:Pi45 (F.i45)
 i46_ok:Pi46 (F.i46)
 i47_ok:Pi47 (F.i47)
 i48_ok:Pi48 (F.i48)
 i49_ok:Pi49 (F.i49)
 i50_ok:Pi50 (F.i50)
 i51_ok:Pi51 (F.i51)
 i52_ok:Pi52 (F.i52)
def i13p1:Pt:=nav [0,0,0,0] (nav [0] (bodyAt Try.f66))
def i13p2:Pt:=nav [0,0,0] i13p1
def i13p3:Pt:=nav [0,0] i13p2
def i13p4:Pt:=nav [1,0] i13p3
def i13p5:Pt:=nav [2,0,0,0,0] i13p3
def i13p7:Pt:=nav [0,0] i13p5
def i13p9:Pt:=nav [1,0] i13p7
def i13p10:Pt:=nav [2,0] i13p7
def i13p11:Pt:=nav [0,0] i13p10
def i13p12:Pt:=nav [1,0] i13p11
def i13p13:Pt:=nav [2,0] i13p11
def i13p14:Pt:=nav [0,0] i13p13
def i13p15:Pt:=nav [1,0] i13p14
def i13p16:Pt:=nav [2,0] i13p14
def i13p17:Pt:=nav [0,0] i13p16
def i13p18:Pt:=nav [1,0] i13p17
def i13p19:Pt:=nav [2,0] i13p17
def i13p20:Pt:=nav [0,0] i13p19
def i13p21:Pt:=nav [1,0,0] i13p20
def i13p22:Pt:=nav [2,0,0] i13p20
def i13p23:Pt:=nav [0,0] i13p21
def i13p24:Pt:=nav [1,0] i13p23
def i13p25:Pt:=nav [2,0,0] i13p23
def i13p26:Pt:=nav [0,0,0] i13p25
def i13p27:Pt:=nav [0,0,0] i13p26
def i13B (k:Nat) (F:Fns0) (a0:(List Nat)) (a1:(List S33)) (a2:Int) (a3:Int):Option (Option Ri13) :=
 (i9 k a0 a1 a2 a3).bind fun x0_1=>(g75 k x0_1.f0).bind fun x1_2=>if x1_2 then (bT (i11 k a0 a1 a2 a3) fun x2_1=>some (some ((⟨(1:Int),x0_1.f1,⟨0,[]⟩,false,false,([]:List (List Nat)),([]:List (List Nat))⟩:S28),false,x2_1))) else (bT (i7 k ([40]:List Nat) a0 a1 a2 a3) fun x3_1=>if x3_1.1 then (bT (F.i17 a0 a1 x3_1.2 a3) fun x4_1=>some (some (x4_1.1,true,x4_1.2))) else (bT (i7 k ([123]:List Nat) a0 a1 x3_1.2 a3) fun x5_1=>if x5_1.1 then (bT (F.i18 (4:Int) ([]:List Nat) false false ([]:List (List Nat)) ([]:List (List Nat)) ([125]:List Nat) a0 a1 x5_1.2 a3 ([]:List S28)) fun x6_4=>some (some ((⟨x6_4.1,x6_4.2.1,⟨(x6_4.2.2.2.2.2.2.2).length,(x6_4.2.2.2.2.2.2.2).flatMap e29⟩,x6_4.2.2.1,x6_4.2.2.2.1,x6_4.2.2.2.2.1,x6_4.2.2.2.2.2.1⟩:S28),false,x6_4.2.2.2.2.2.2.1))) else (bT (i7 k ([91]:List Nat) a0 a1 x5_1.2 a3) fun x7_1=>if x7_1.1 then (bT (F.i19 a0 a1 x7_1.2 a3) fun x8_1=>some (some (x8_1.1,false,x8_1.2))) else (bT (i7 k ([60,60]:List Nat) a0 a1 x7_1.2 a3) fun x9_1=>if x9_1.1 then (bT (F.i20 (6:Int) ([]:List Nat) false false ([]:List (List Nat)) ([]:List (List Nat)) ([62,62]:List Nat) a0 a1 x9_1.2 a3 ([]:List S28)) fun x10_4=>some (some ((⟨x10_4.1,x10_4.2.1,⟨(x10_4.2.2.2.2.2.2.2).length,(x10_4.2.2.2.2.2.2.2).flatMap e29⟩,x10_4.2.2.1,x10_4.2.2.2.1,x10_4.2.2.2.2.1,x10_4.2.2.2.2.2.1⟩:S28),false,x10_4.2.2.2.2.2.2.1))) else (bT (i7 k ([35]:List Nat) a0 a1 x9_1.2 a3) fun x11_1=>if x11_1.1 then (bT (i7 k ([123]:List Nat) a0 a1 x11_1.2 a3) fun x12_1=>if x12_1.1 then (bT (F.i21 (8:Int) ([]:List Nat) false false ([]:List (List Nat)) ([]:List (List Nat)) ([125]:List Nat) a0 a1 x12_1.2 a3 ([]:List S28)) fun x13_4=>some (some ((⟨x13_4.1,x13_4.2.1,⟨(x13_4.2.2.2.2.2.2.2).length,(x13_4.2.2.2.2.2.2.2).flatMap e29⟩,x13_4.2.2.1,x13_4.2.2.2.1,x13_4.2.2.2.2.1,x13_4.2.2.2.2.2.1⟩:S28),false,x13_4.2.2.2.2.2.2.1))) else (bT (i22 k a0 a1 x12_1.2 a3) fun x14_1=>bT (i23 k ([123]:List Nat) a0 a1 x14_1.2 a3) fun x15_1=>bT (F.i18 (10:Int) x14_1.1 false false ([]:List (List Nat)) ([]:List (List Nat)) ([125]:List Nat) a0 a1 x15_1 a3 ([]:List S28)) fun x16_5=>some (some ((⟨x16_5.1,x16_5.2.1,⟨(x16_5.2.2.2.2.2.2.2).length,(x16_5.2.2.2.2.2.2.2).flatMap e29⟩,x16_5.2.2.1,x16_5.2.2.2.1,x16_5.2.2.2.2.1,x16_5.2.2.2.2.2.1⟩:S28),false,x16_5.2.2.2.2.2.2.1)))) else (bT (F.i24 a0 a1 x11_1.2 a3) fun x17_1=>some (some (x17_1.1,false,x17_1.2))))))))
theorem qKs (k:Nat) (F:Fns0) (hF:FnsOk0 F):∀ a0 a1 a2 a3 r,i13B k F a0 a1 a2 a3 = some r → CallT Try.prog 66 [.ptr 0 4 0] (mkH [⟨[.str a0,w34 a1,.i a2,.i a3],4,false⟩]) ((Xi13 a0 a1 a2 a3).thr r) ((Xi13 a0 a1 a2 a3).enc r) ((Xi13 a0 a1 a2 a3).fin r):=by
 intro a0 a1 a2 a3 r h
 refine qA2 (Xi13 a0 a1 a2 a3) Try.func66 (by kernel_rfl) (by kernel_rfl) rfl (t:=i13B k F a0 a1 a2 a3) ?_ h
 unfold i13B
 refine qA (eE:=[(0,.ptr 0 4 0)]) (by kernel_rfl) ?_
 let Q1:Blk:=⟨[.str a0,w34 a1,.i a2,.i a3],4,false⟩
 let Q2:Blk:=⟨[.i 0,.str [],.nils,.bool false,.bool false,.nils,.nils],0,false⟩
 refine oH 9 (atN 1 (ctl1 i13p1)) [(6,.ptr 0 4 0),(3,.bool false),(2,.ptr 1 7 0),(0,.ptr 0 4 0)] (mkH [Q1,Q2]) ?_
 refine oN (fun (x0_1:S33)=>n34 x0_1) (fun x0_1=>[Q1,Q2]) (atN 2 (ctl1 i13p1)) 7 [0] [] [] [.ptr 0 4 0] (qLg k a0 a1 a2 a3) trivial (fun _=>trivial) fun x0_1 hx0_1=>?_
 let E1:Env:=[(9,.i x0_1.f0),(8,.ptr 2 3 0),(4,.ptr 2 3 0),(7,n34 x0_1),(6,.ptr 0 4 0),(3,.bool false),(2,.ptr 1 7 0),(0,.ptr 0 4 0)]
 refine oH 7 (atN 2 (ctl1 i13p2)) E1 (mkH [Q1,Q2,⟨e34 x0_1,3,false⟩]) ?_
 refine oA (fun (x1_2:Bool) => .bool x1_2) (atN 3 (ctl1 i13p2)) 10 [.i x0_1.f0] (g75_ok k x0_1.f0) fun x1_2 hx1_2=>?_
 refine oR 1 i13p3 ((10,.bool x1_2) :: E1) ?_
 refine oS 10 (fun hb=>?_) (fun hb=>?_)
 ·refine oR 4 (atN 1 (ctl1 i13p4)) ((11,.ptr 0 4 0) :: (10,.bool true) :: (10,.bool x1_2) :: E1) ?_
  refine oX (fun (x2_1:Int) => .tuple []) (fun x2_1=>[⟨[.str a0,w34 a1,.i x2_1,.i a3],4,false⟩,Q2,⟨e34 x0_1,3,false⟩]) (atN 2 (ctl1 i13p4)) 12 [0] [] [] [] [] [.ptr 0 4 0] (qF5 k a0 a1 a2 a3) trivial (fun _=>trivial) trivial fun x2_1 hx2_1=>?_
  refine oL 2 (nav [0,0,0] i13p4) [(2,.ptr 1 7 0),(4,.ptr 2 3 0)] ?_
  exact oQF 8 [⟨[.str a0,w34 a1,.i x2_1,.i a3],4,false⟩,⟨[.i 1,.str x0_1.f1,.nils,.bool false,.bool false,.nils,.nils],7,false⟩,⟨e34 x0_1,3,false⟩] 1 [] [.agg [.i 1,.str x0_1.f1,.nils,.bool false,.bool false,.nils,.nils],.bool false] (.tuple [.agg [.i 1,.str x0_1.f1,.vec 0 7 [],.bool false,.bool false,.vec 0 1 [],.vec 0 1 []],.bool false]) (.tuple (.agg (.cs (.cs (.nil (.cs (.cs (.nil (.nil .ps))))))) .ps) .ps) trivial
 ·refine oR 7 (atN 1 (ctl1 i13p5)) ((17,.ptr 0 4 0) :: (10,.bool false) :: (10,.bool x1_2) :: E1) ?_
  refine oX (fun (x3_1:(Bool × Int)) => .bool x3_1.1) (fun x3_1=>[⟨[.str a0,w34 a1,.i x3_1.2,.i a3],4,false⟩,Q2,⟨e34 x0_1,3,false⟩]) (atN 2 (ctl1 i13p5)) 18 [0] [] [] [] [] [.ptr 0 4 0,.str [40]] (qAg k ([40]:List Nat) a0 a1 a2 a3) trivial (fun _=>trivial) trivial fun x3_1 hx3_1=>?_
  let E4:Env:=[(0,.ptr 0 4 0),(2,.ptr 1 7 0),(16,.bool x3_1.1)]
  refine oL 2 i13p7 E4 ?_
  refine oS 16 (fun hb=>?_) (fun hb=>?_)
  ·refine oR 4 (atN 1 (ctl1 i13p9)) ((19,.ptr 0 4 0) :: (16,.bool true) :: E4) ?_
   refine oX (fun (x4_1:(S28 × Int))=>n29 x4_1.1) (fun x4_1=>[⟨[.str a0,w34 a1,.i x4_1.2,.i a3],4,false⟩,Q2,⟨e34 x0_1,3,false⟩]) (atN 2 (ctl1 i13p9)) 20 [0] [] [] [0] [] [.ptr 0 4 0] (hF.i17_ok a0 a1 x3_1.2 a3) trivial (fun _=>trivial) trivial fun x4_1 hx4_1=>?_
   exact oQF 4 [⟨[.str a0,w34 a1,.i x4_1.2,.i a3],4,false⟩,⟨e29 x4_1.1,7,false⟩,⟨e34 x0_1,3,false⟩] 1 [] [n29 x4_1.1,.bool true] (.tuple [n29 x4_1.1,.bool true]) .ps trivial
  ·refine oR 4 (atN 1 (ctl1 i13p10)) ((22,.ptr 0 4 0) :: (16,.bool false) :: E4) ?_
   refine oX (fun (x5_1:(Bool × Int)) => .bool x5_1.1) (fun x5_1=>[⟨[.str a0,w34 a1,.i x5_1.2,.i a3],4,false⟩,Q2,⟨e34 x0_1,3,false⟩]) (atN 2 (ctl1 i13p10)) 23 [0] [] [] [] [] [.ptr 0 4 0,.str [123]] (qAg k ([123]:List Nat) a0 a1 x3_1.2 a3) trivial (fun _=>trivial) trivial fun x5_1 hx5_1=>?_
   refine oR 2 i13p11 ((21,.bool x5_1.1) :: (23,.bool x5_1.1) :: (22,.ptr 0 4 0) :: (16,.bool false) :: E4) ?_
   refine oS 21 (fun hb=>?_) (fun hb=>?_)
   ·refine oR 7 (atN 4 (ctl1 i13p12)) ((27,.func 78 [.ptr 0 4 0] []) :: (26,.ptr 0 4 0) :: (25,.agg [.i 4,.str [],.nils,.bool false,.bool false,.nils,.nils]) :: (24,.ptr 0 4 0) :: (21,.bool true) :: (21,.bool x5_1.1) :: (23,.bool x5_1.1) :: (22,.ptr 0 4 0) :: (16,.bool false) :: E4) ?_
    refine oXW 1 [⟨[.str a0,w34 a1,.i x5_1.2,.i a3],4,false⟩,Q2,⟨e34 x0_1,3,false⟩,⟨(([]:List S28)).flatMap e29,0,false⟩] (fun (x6_4:Ri18) => .agg [.i x6_4.1,.str x6_4.2.1,.own 3 (x6_4.2.2.2.2.2.2.2).length 7,.bool x6_4.2.2.1,.bool x6_4.2.2.2.1,w9 x6_4.2.2.2.2.1,w9 x6_4.2.2.2.2.2.1]) (fun x6_4=>[⟨[.str a0,w34 a1,.i x6_4.2.2.2.2.2.2.1,.i a3],4,false⟩,Q2,⟨e34 x0_1,3,false⟩,⟨(x6_4.2.2.2.2.2.2.2).flatMap e29,0,false⟩]) (atN 5 (ctl1 i13p12)) 28 [0,3] [0,1] [0,1] [0,3] [] [0,0,0,1] [.ptr 0 4 0,.agg [.i 4,.str [],.nils,.bool false,.bool false,.nils,.nils],.str [125],.func 78 [.ptr 0 4 0] []] [.ptr 0 4 0,.agg [.i 4,.str [],.own 3 (([]:List S28)).length 7,.bool false,.bool false,w9 ([]:List (List Nat)),w9 ([]:List (List Nat))],.str [125],.func 78 [.ptr 0 4 0] []] (.cons (.agg (.cons (.cons (.none (.cons (.cons (.nil (.nil (.refl)))))))) (.refl))) (hF.i18_ok (4:Int) ([]:List Nat) false false ([]:List (List Nat)) ([]:List (List Nat)) ([125]:List Nat) a0 a1 x5_1.2 a3 ([]:List S28)) ⟨u29 _,trivial⟩ (fun _=>⟨u29 _,trivial⟩) trivial fun x6_4 hx6_4=>?_
    exact oQF 4 [⟨[.str a0,w34 a1,.i x6_4.2.2.2.2.2.2.1,.i a3],4,false⟩,⟨[.i x6_4.1,.str x6_4.2.1,.own 3 (x6_4.2.2.2.2.2.2.2).length 7,.bool x6_4.2.2.1,.bool x6_4.2.2.2.1,w9 x6_4.2.2.2.2.1,w9 x6_4.2.2.2.2.2.1],7,false⟩,⟨e34 x0_1,3,false⟩,⟨(x6_4.2.2.2.2.2.2.2).flatMap e29,0,false⟩] 1 [] [.agg [.i x6_4.1,.str x6_4.2.1,.own 3 (x6_4.2.2.2.2.2.2.2).length 7,.bool x6_4.2.2.1,.bool x6_4.2.2.2.1,w9 x6_4.2.2.2.2.1,w9 x6_4.2.2.2.2.2.1],.bool false] (.tuple [.agg [.i x6_4.1,.str x6_4.2.1,w29 x6_4.2.2.2.2.2.2.2,.bool x6_4.2.2.1,.bool x6_4.2.2.2.1,w9 x6_4.2.2.2.2.1,w9 x6_4.2.2.2.2.2.1],.bool false]) (.tuple (.agg (.cs (.cs (qAq qA6 qAe rfl rfl rfl .ps))) .ps) .ps) trivial
   ·refine oR 4 (atN 1 (ctl1 i13p13)) ((30,.ptr 0 4 0) :: (21,.bool false) :: (21,.bool x5_1.1) :: (23,.bool x5_1.1) :: (22,.ptr 0 4 0) :: (16,.bool false) :: E4) ?_
    refine oX (fun (x7_1:(Bool × Int)) => .bool x7_1.1) (fun x7_1=>[⟨[.str a0,w34 a1,.i x7_1.2,.i a3],4,false⟩,Q2,⟨e34 x0_1,3,false⟩]) (atN 2 (ctl1 i13p13)) 31 [0] [] [] [] [] [.ptr 0 4 0,.str [91]] (qAg k ([91]:List Nat) a0 a1 x5_1.2 a3) trivial (fun _=>trivial) trivial fun x7_1 hx7_1=>?_
    refine oL 2 i13p14 [(0,.ptr 0 4 0),(2,.ptr 1 7 0),(29,.bool x7_1.1)] ?_
    let E7:Env:=[(0,.ptr 0 4 0),(2,.ptr 1 7 0),(29,.bool x7_1.1)]
    refine oS 29 (fun hb=>?_) (fun hb=>?_)
    ·refine oR 4 (atN 1 (ctl1 i13p15)) ((32,.ptr 0 4 0) :: (29,.bool true) :: E7) ?_
     refine oX (fun (x8_1:(S28 × Int))=>n29 x8_1.1) (fun x8_1=>[⟨[.str a0,w34 a1,.i x8_1.2,.i a3],4,false⟩,Q2,⟨e34 x0_1,3,false⟩]) (atN 2 (ctl1 i13p15)) 33 [0] [] [] [0] [] [.ptr 0 4 0] (hF.i19_ok a0 a1 x7_1.2 a3) trivial (fun _=>trivial) trivial fun x8_1 hx8_1=>?_
     exact oQF 4 [⟨[.str a0,w34 a1,.i x8_1.2,.i a3],4,false⟩,⟨e29 x8_1.1,7,false⟩,⟨e34 x0_1,3,false⟩] 1 [] [n29 x8_1.1,.bool false] (.tuple [n29 x8_1.1,.bool false]) .ps trivial
    ·refine oR 4 (atN 1 (ctl1 i13p16)) ((35,.ptr 0 4 0) :: (29,.bool false) :: E7) ?_
     refine oX (fun (x9_1:(Bool × Int)) => .bool x9_1.1) (fun x9_1=>[⟨[.str a0,w34 a1,.i x9_1.2,.i a3],4,false⟩,Q2,⟨e34 x0_1,3,false⟩]) (atN 2 (ctl1 i13p16)) 36 [0] [] [] [] [] [.ptr 0 4 0,.str [60,60]] (qAg k ([60,60]:List Nat) a0 a1 x7_1.2 a3) trivial (fun _=>trivial) trivial fun x9_1 hx9_1=>?_
     refine oR 2 i13p17 ((34,.bool x9_1.1) :: (36,.bool x9_1.1) :: (35,.ptr 0 4 0) :: (29,.bool false) :: E7) ?_
     refine oS 34 (fun hb=>?_) (fun hb=>?_)
     ·refine oR 7 (atN 4 (ctl1 i13p18)) ((40,.func 80 [.ptr 0 4 0] []) :: (39,.ptr 0 4 0) :: (38,.agg [.i 6,.str [],.nils,.bool false,.bool false,.nils,.nils]) :: (37,.ptr 0 4 0) :: (34,.bool true) :: (34,.bool x9_1.1) :: (36,.bool x9_1.1) :: (35,.ptr 0 4 0) :: (29,.bool false) :: E7) ?_
      refine oXW 1 [⟨[.str a0,w34 a1,.i x9_1.2,.i a3],4,false⟩,Q2,⟨e34 x0_1,3,false⟩,⟨(([]:List S28)).flatMap e29,0,false⟩] (fun (x10_4:Ri20) => .agg [.i x10_4.1,.str x10_4.2.1,.own 3 (x10_4.2.2.2.2.2.2.2).length 7,.bool x10_4.2.2.1,.bool x10_4.2.2.2.1,w9 x10_4.2.2.2.2.1,w9 x10_4.2.2.2.2.2.1]) (fun x10_4=>[⟨[.str a0,w34 a1,.i x10_4.2.2.2.2.2.2.1,.i a3],4,false⟩,Q2,⟨e34 x0_1,3,false⟩,⟨(x10_4.2.2.2.2.2.2.2).flatMap e29,0,false⟩]) (atN 5 (ctl1 i13p18)) 41 [0,3] [0,1] [0,1] [0,3] [] [0,0,0,1] [.ptr 0 4 0,.agg [.i 6,.str [],.nils,.bool false,.bool false,.nils,.nils],.str [62,62],.func 80 [.ptr 0 4 0] []] [.ptr 0 4 0,.agg [.i 6,.str [],.own 3 (([]:List S28)).length 7,.bool false,.bool false,w9 ([]:List (List Nat)),w9 ([]:List (List Nat))],.str [62,62],.func 80 [.ptr 0 4 0] []] (.cons (.agg (.cons (.cons (.none (.cons (.cons (.nil (.nil (.refl)))))))) (.refl))) (hF.i20_ok (6:Int) ([]:List Nat) false false ([]:List (List Nat)) ([]:List (List Nat)) ([62,62]:List Nat) a0 a1 x9_1.2 a3 ([]:List S28)) ⟨u29 _,trivial⟩ (fun _=>⟨u29 _,trivial⟩) trivial fun x10_4 hx10_4=>?_
      exact oQF 4 [⟨[.str a0,w34 a1,.i x10_4.2.2.2.2.2.2.1,.i a3],4,false⟩,⟨[.i x10_4.1,.str x10_4.2.1,.own 3 (x10_4.2.2.2.2.2.2.2).length 7,.bool x10_4.2.2.1,.bool x10_4.2.2.2.1,w9 x10_4.2.2.2.2.1,w9 x10_4.2.2.2.2.2.1],7,false⟩,⟨e34 x0_1,3,false⟩,⟨(x10_4.2.2.2.2.2.2.2).flatMap e29,0,false⟩] 1 [] [.agg [.i x10_4.1,.str x10_4.2.1,.own 3 (x10_4.2.2.2.2.2.2.2).length 7,.bool x10_4.2.2.1,.bool x10_4.2.2.2.1,w9 x10_4.2.2.2.2.1,w9 x10_4.2.2.2.2.2.1],.bool false] (.tuple [.agg [.i x10_4.1,.str x10_4.2.1,w29 x10_4.2.2.2.2.2.2.2,.bool x10_4.2.2.1,.bool x10_4.2.2.2.1,w9 x10_4.2.2.2.2.1,w9 x10_4.2.2.2.2.2.1],.bool false]) (.tuple (.agg (.cs (.cs (qAq qA6 qAe rfl rfl rfl .ps))) .ps) .ps) trivial
     ·refine oR 4 (atN 1 (ctl1 i13p19)) ((43,.ptr 0 4 0) :: (34,.bool false) :: (34,.bool x9_1.1) :: (36,.bool x9_1.1) :: (35,.ptr 0 4 0) :: (29,.bool false) :: E7) ?_
      refine oX (fun (x11_1:(Bool × Int)) => .bool x11_1.1) (fun x11_1=>[⟨[.str a0,w34 a1,.i x11_1.2,.i a3],4,false⟩,Q2,⟨e34 x0_1,3,false⟩]) (atN 2 (ctl1 i13p19)) 44 [0] [] [] [] [] [.ptr 0 4 0,.str [35]] (qAg k ([35]:List Nat) a0 a1 x9_1.2 a3) trivial (fun _=>trivial) trivial fun x11_1 hx11_1=>?_
      refine oL 2 i13p20 [(0,.ptr 0 4 0),(2,.ptr 1 7 0),(42,.bool x11_1.1)] ?_
      let E10:Env:=[(0,.ptr 0 4 0),(2,.ptr 1 7 0),(42,.bool x11_1.1)]
      refine oS 42 (fun hb=>?_) (fun hb=>?_)
      ·refine oR 5 (atN 1 (ctl1 i13p21)) ((45,.ptr 0 4 0) :: (42,.bool true) :: E10) ?_
       refine oX (fun (x12_1:(Bool × Int)) => .bool x12_1.1) (fun x12_1=>[⟨[.str a0,w34 a1,.i x12_1.2,.i a3],4,false⟩,Q2,⟨e34 x0_1,3,false⟩]) (atN 2 (ctl1 i13p21)) 46 [0] [] [] [] [] [.ptr 0 4 0,.str [123]] (qAg k ([123]:List Nat) a0 a1 x11_1.2 a3) trivial (fun _=>trivial) trivial fun x12_1 hx12_1=>?_
       refine oR 1 i13p23 ((46,.bool x12_1.1) :: (45,.ptr 0 4 0) :: (42,.bool true) :: E10) ?_
       refine oS 46 (fun hb=>?_) (fun hb=>?_)
       ·refine oR 7 (atN 4 (ctl1 i13p24)) ((50,.func 81 [.ptr 0 4 0] []) :: (49,.ptr 0 4 0) :: (48,.agg [.i 8,.str [],.nils,.bool false,.bool false,.nils,.nils]) :: (47,.ptr 0 4 0) :: (46,.bool true) :: (46,.bool x12_1.1) :: (45,.ptr 0 4 0) :: (42,.bool true) :: E10) ?_
        refine oXW 1 [⟨[.str a0,w34 a1,.i x12_1.2,.i a3],4,false⟩,Q2,⟨e34 x0_1,3,false⟩,⟨(([]:List S28)).flatMap e29,0,false⟩] (fun (x13_4:Ri21) => .agg [.i x13_4.1,.str x13_4.2.1,.own 3 (x13_4.2.2.2.2.2.2.2).length 7,.bool x13_4.2.2.1,.bool x13_4.2.2.2.1,w9 x13_4.2.2.2.2.1,w9 x13_4.2.2.2.2.2.1]) (fun x13_4=>[⟨[.str a0,w34 a1,.i x13_4.2.2.2.2.2.2.1,.i a3],4,false⟩,Q2,⟨e34 x0_1,3,false⟩,⟨(x13_4.2.2.2.2.2.2.2).flatMap e29,0,false⟩]) (atN 5 (ctl1 i13p24)) 51 [0,3] [0,1] [0,1] [0,3] [] [0,0,0,1] [.ptr 0 4 0,.agg [.i 8,.str [],.nils,.bool false,.bool false,.nils,.nils],.str [125],.func 81 [.ptr 0 4 0] []] [.ptr 0 4 0,.agg [.i 8,.str [],.own 3 (([]:List S28)).length 7,.bool false,.bool false,w9 ([]:List (List Nat)),w9 ([]:List (List Nat))],.str [125],.func 81 [.ptr 0 4 0] []] (.cons (.agg (.cons (.cons (.none (.cons (.cons (.nil (.nil (.refl)))))))) (.refl))) (hF.i21_ok (8:Int) ([]:List Nat) false false ([]:List (List Nat)) ([]:List (List Nat)) ([125]:List Nat) a0 a1 x12_1.2 a3 ([]:List S28)) ⟨u29 _,trivial⟩ (fun _=>⟨u29 _,trivial⟩) trivial fun x13_4 hx13_4=>?_
        exact oQF 4 [⟨[.str a0,w34 a1,.i x13_4.2.2.2.2.2.2.1,.i a3],4,false⟩,⟨[.i x13_4.1,.str x13_4.2.1,.own 3 (x13_4.2.2.2.2.2.2.2).length 7,.bool x13_4.2.2.1,.bool x13_4.2.2.2.1,w9 x13_4.2.2.2.2.1,w9 x13_4.2.2.2.2.2.1],7,false⟩,⟨e34 x0_1,3,false⟩,⟨(x13_4.2.2.2.2.2.2.2).flatMap e29,0,false⟩] 1 [] [.agg [.i x13_4.1,.str x13_4.2.1,.own 3 (x13_4.2.2.2.2.2.2.2).length 7,.bool x13_4.2.2.1,.bool x13_4.2.2.2.1,w9 x13_4.2.2.2.2.1,w9 x13_4.2.2.2.2.2.1],.bool false] (.tuple [.agg [.i x13_4.1,.str x13_4.2.1,w29 x13_4.2.2.2.2.2.2.2,.bool x13_4.2.2.1,.bool x13_4.2.2.2.1,w9 x13_4.2.2.2.2.1,w9 x13_4.2.2.2.2.2.1],.bool false]) (.tuple (.agg (.cs (.cs (qAq qA6 qAe rfl rfl rfl .ps))) .ps) .ps) trivial
       ·refine oR 5 (atN 1 (ctl1 i13p25)) ((52,.ptr 0 4 0) :: (46,.bool false) :: (46,.bool x12_1.1) :: (45,.ptr 0 4 0) :: (42,.bool true) :: E10) ?_
        refine oX (fun (x14_1:Ri22) => .str x14_1.1) (fun x14_1=>[⟨[.str a0,w34 a1,.i x14_1.2,.i a3],4,false⟩,Q2,⟨e34 x0_1,3,false⟩]) (atN 2 (ctl1 i13p25)) 53 [0] [] [] [] [] [.ptr 0 4 0] (qH8 k a0 a1 x12_1.2 a3) trivial (fun _=>trivial) trivial fun x14_1 hx14_1=>?_
        refine oL 3 i13p26 [(0,.ptr 0 4 0),(2,.ptr 1 7 0),(5,.str x14_1.1)] ?_
        let E13:Env:=[(0,.ptr 0 4 0),(2,.ptr 1 7 0),(5,.str x14_1.1)]
        refine oR 2 (atN 1 (ctl1 i13p26)) ((54,.ptr 0 4 0) :: E13) ?_
        refine oX (fun (x15_1:Int) => .tuple []) (fun x15_1=>[⟨[.str a0,w34 a1,.i x15_1,.i a3],4,false⟩,Q2,⟨e34 x0_1,3,false⟩]) (atN 2 (ctl1 i13p26)) 55 [0] [] [] [0] [] [.ptr 0 4 0,.str [123]] (qAt k ([123]:List Nat) a0 a1 x14_1.2 a3) trivial (fun _=>trivial) trivial fun x15_1 hx15_1=>?_
        refine oR 8 (atN 5 (ctl1 i13p27)) ((60,.func 78 [.ptr 0 4 0] []) :: (59,.ptr 0 4 0) :: (58,.agg [.i 10,.str x14_1.1,.nils,.bool false,.bool false,.nils,.nils]) :: (57,.str x14_1.1) :: (56,.ptr 0 4 0) :: (55,.tuple []) :: (54,.ptr 0 4 0) :: E13) ?_
        refine oXW 1 [⟨[.str a0,w34 a1,.i x15_1,.i a3],4,false⟩,Q2,⟨e34 x0_1,3,false⟩,⟨(([]:List S28)).flatMap e29,0,false⟩] (fun (x16_5:Ri18) => .agg [.i x16_5.1,.str x16_5.2.1,.own 3 (x16_5.2.2.2.2.2.2.2).length 7,.bool x16_5.2.2.1,.bool x16_5.2.2.2.1,w9 x16_5.2.2.2.2.1,w9 x16_5.2.2.2.2.2.1]) (fun x16_5=>[⟨[.str a0,w34 a1,.i x16_5.2.2.2.2.2.2.1,.i a3],4,false⟩,Q2,⟨e34 x0_1,3,false⟩,⟨(x16_5.2.2.2.2.2.2.2).flatMap e29,0,false⟩]) (atN 6 (ctl1 i13p27)) 61 [0,3] [0,1] [0,1] [0,3] [] [0,0,0,1] [.ptr 0 4 0,.agg [.i 10,.str x14_1.1,.nils,.bool false,.bool false,.nils,.nils],.str [125],.func 78 [.ptr 0 4 0] []] [.ptr 0 4 0,.agg [.i 10,.str x14_1.1,.own 3 (([]:List S28)).length 7,.bool false,.bool false,w9 ([]:List (List Nat)),w9 ([]:List (List Nat))],.str [125],.func 78 [.ptr 0 4 0] []] (.cons (.agg (.cons (.cons (.none (.cons (.cons (.nil (.nil (.refl)))))))) (.refl))) (hF.i18_ok (10:Int) x14_1.1 false false ([]:List (List Nat)) ([]:List (List Nat)) ([125]:List Nat) a0 a1 x15_1 a3 ([]:List S28)) ⟨u29 _,trivial⟩ (fun _=>⟨u29 _,trivial⟩) trivial fun x16_5 hx16_5=>?_
        exact oQF 4 [⟨[.str a0,w34 a1,.i x16_5.2.2.2.2.2.2.1,.i a3],4,false⟩,⟨[.i x16_5.1,.str x16_5.2.1,.own 3 (x16_5.2.2.2.2.2.2.2).length 7,.bool x16_5.2.2.1,.bool x16_5.2.2.2.1,w9 x16_5.2.2.2.2.1,w9 x16_5.2.2.2.2.2.1],7,false⟩,⟨e34 x0_1,3,false⟩,⟨(x16_5.2.2.2.2.2.2.2).flatMap e29,0,false⟩] 1 [] [.agg [.i x16_5.1,.str x16_5.2.1,.own 3 (x16_5.2.2.2.2.2.2.2).length 7,.bool x16_5.2.2.1,.bool x16_5.2.2.2.1,w9 x16_5.2.2.2.2.1,w9 x16_5.2.2.2.2.2.1],.bool false] (.tuple [.agg [.i x16_5.1,.str x16_5.2.1,w29 x16_5.2.2.2.2.2.2.2,.bool x16_5.2.2.1,.bool x16_5.2.2.2.1,w9 x16_5.2.2.2.2.1,w9 x16_5.2.2.2.2.2.1],.bool false]) (.tuple (.agg (.cs (.cs (qAq qA6 qAe rfl rfl rfl .ps))) .ps) .ps) trivial
      ·refine oR 5 (atN 1 (ctl1 i13p22)) ((62,.ptr 0 4 0) :: (42,.bool false) :: E10) ?_
       refine oX (fun (x17_1:(S28 × Int))=>n29 x17_1.1) (fun x17_1=>[⟨[.str a0,w34 a1,.i x17_1.2,.i a3],4,false⟩,Q2,⟨e34 x0_1,3,false⟩]) (atN 2 (ctl1 i13p22)) 63 [0] [] [] [0] [] [.ptr 0 4 0] (hF.i24_ok a0 a1 x11_1.2 a3) trivial (fun _=>trivial) trivial fun x17_1 hx17_1=>?_
       exact oQF 4 [⟨[.str a0,w34 a1,.i x17_1.2,.i a3],4,false⟩,⟨e29 x17_1.1,7,false⟩,⟨e34 x0_1,3,false⟩] 1 [] [n29 x17_1.1,.bool false] (.tuple [n29 x17_1.1,.bool false]) .ps trivial
theorem i13B_ok (k:Nat) (F:Fns0) (hF:FnsOk0 F):Pi13 (i13B k F):=fun a0 a1 a2 a3=>⟨fun x h=>qKs k F hF a0 a1 a2 a3 (some x) h,fun h=>⟨_,qKs k F hF a0 a1 a2 a3 none h⟩⟩
def i14p1:Pt:=nav [0,0,0,0,0,0,0] (nav [0] (bodyAt Try.f67))
def i14p2:Pt:=nav [0,0] i14p1
def i14p4:Pt:=nav [2,0,0,0,0] i14p2
def i14p6:Pt:=nav [0,0] i14p4
def i14p7:Pt:=nav [1] i14p6
def i14p8:Pt:=nav [2,0] i14p6
def i14p9:Pt:=nav [0,0,0] i14p7
def i14p10:Pt:=nav [0,0] i14p8
def i14p11:Pt:=nav [1] i14p10
def i14p12:Pt:=nav [2,0] i14p10
def i14p13:Pt:=nav [0,0] i14p12
def i14p14:Pt:=nav [1] i14p13
def i14d0:DP:=⟨[45],[(0,0,1),(0,0,0),(2,0,0),(7,0,0),(15,0,0),(31,0,0)],6,thrown,[],H0⟩
def qEd (k:Nat) (F:Fns0)  (a2:(List Nat)) (a3:(List S33)) (a4:Int) (a5:Int) (ih:Bool → Int → S28 → Option (Option (S28 × Int))):Bool → Int → S28 → Option (Option (S28 × Int)) :=
 fun (y7_0:Bool) (y7_1:Int) (y7_2:S28)=>jn (fun (z8:Bool × Bool × Int × S28)=>if z8.1 then (some (some (z8.2.2.2,z8.2.2.1))) else (bT (i7 k ([40]:List Nat) a2 a3 z8.2.2.1 a5) fun x1_1=>jn (fun (z9:Int × S28)=>ih false z9.1 z9.2) (fun j9=>if x1_1.1 then (bT (F.i18 (2:Int) ([]:List Nat) false false ([]:List (List Nat)) ([]:List (List Nat)) ([41]:List Nat) a2 a3 x1_1.2 a5 ([z8.2.2.2]:List S28)) fun x2_6=>j9 (x2_6.2.2.2.2.2.2.1,(⟨x2_6.1,x2_6.2.1,(⟨(x2_6.2.2.2.2.2.2.2).length,(x2_6.2.2.2.2.2.2.2).flatMap e29⟩:Raw),x2_6.2.2.1,x2_6.2.2.2.1,x2_6.2.2.2.2.1,x2_6.2.2.2.2.2.1⟩:S28))) else (jn (fun (z10:Bool × Int × S28)=>if z10.1 then (bT (F.i25 a2 a3 z10.2.1 a5) fun x4_2=>j9 (x4_2.2,(⟨3,([]:List Nat),(⟨(([z10.2.2,x4_2.1]:List S28)).length,(([z10.2.2,x4_2.1]:List S28)).flatMap e29⟩:Raw),false,false,([]:List (List Nat)),([]:List (List Nat))⟩:S28))) else (bT (i7 k ([35]:List Nat) a2 a3 z10.2.1 a5) fun x5_1=>if x5_1.1 then (bT (F.i26 z10.2.2 a2 a3 x5_1.2 a5) fun x6_2=>j9 (x6_2.2,x6_2.1)) else (some (some (z10.2.2,x5_1.2))))) (fun j10=>if (!decide (z8.2.2.2.f0 = 3)) then (if z8.2.1 then (bT (i7 k ([58]:List Nat) a2 a3 x1_1.2 a5) fun x3_13=>j10 (x3_13.1,x3_13.2,z8.2.2.2)) else (if (decide (z8.2.2.2.f0 = 1)) then (bT (i7 k ([58]:List Nat) a2 a3 x1_1.2 a5) fun x3_13=>j10 (x3_13.1,x3_13.2,z8.2.2.2)) else (j10 (false,x1_1.2,z8.2.2.2)))) else (j10 (false,x1_1.2,z8.2.2.2))))))) (fun j8=>if (!y7_0) then ((g85 k y7_2).bind fun x0_4=>j8 (!x0_4,y7_0,y7_1,y7_2)) else (j8 (false,y7_0,y7_1,y7_2)))
def qH9 (k:Nat) (F:Fns0)  (a2:(List Nat)) (a3:(List S33)) (a4:Int) (a5:Int) (n:Nat):Bool → Int → S28 → Option (Option (S28 × Int)):=lp (fun _ _ _=>none) (qEd k F a2 a3 a4 a5) n
theorem qO4 (k:Nat) (F:Fns0) (hF:FnsOk0 F) (a0:S28) (a1:Bool) (a2:(List Nat)) (a3:(List S33)) (a4:Int) (a5:Int)    : ∀ (n:Nat) (y7_0:Bool) (y7_1:Int) (y7_2:S28),Ok (Xi14 a0 a1 a2 a3 a4 a5) i14p1 [(0,.ptr 0 4 0),(2,.bool y7_0),(4,.ptr 1 7 0),(6,.ptr 2 7 0)] (mkH [⟨[.str a2,w34 a3,.i y7_1,.i a5],4,false⟩,⟨[.i y7_2.f0,.str y7_2.f1,q29 y7_2.f2,.bool y7_2.f3,.bool y7_2.f4,w9 y7_2.f5,w9 y7_2.f6],7,false⟩,⟨[.i 0,.str [],.nils,.bool false,.bool false,.nils,.nils],0,false⟩]) (qH9 k F a2 a3 a4 a5 n y7_0 y7_1 y7_2):=by
 intro n
 induction n with
 | zero=>intro y7_0 y7_1 y7_2; exact ok_none
 | succ n ih =>
  intro y7_0 y7_1 y7_2
  show Ok _ _ _ _ (qEd k F a2 a3 a4 a5 (qH9 k F a2 a3 a4 a5 n) y7_0 y7_1 y7_2)
  unfold qEd
  let E2:Env:=[(9,.bool (!y7_0)),(8,.bool (!y7_0)),(7,.bool y7_0),(0,.ptr 0 4 0),(2,.bool y7_0),(4,.ptr 1 7 0),(6,.ptr 2 7 0)]
  let Q1:Blk:=⟨[.str a2,w34 a3,.i y7_1,.i a5],4,false⟩
  let Q2:Blk:=⟨[.i 0,.str [],.nils,.bool false,.bool false,.nils,.nils],0,false⟩
  refine oH 4 (atN 3 (ctl1 i14p1)) E2 (mkH [Q1,⟨e29 y7_2,7,false⟩,Q2]) ?_
  refine oJ i14p2 (fun (z8:Bool × Bool × Int × S28)=>[(0,.ptr 0 4 0),(2,.bool z8.2.1),(4,.ptr 1 7 0),(6,.ptr 2 7 0),(13,.bool z8.1)]) (fun (z8:Bool × Bool × Int × S28)=>(mkH [⟨[.str a2,w34 a3,.i z8.2.2.1,.i a5],4,false⟩,⟨e29 z8.2.2.2,7,false⟩,Q2])) (fun z8=>?_) (fun j8 hj8=>?_)
  ·refine oS 13 (fun hb=>?_) (fun hb=>?_)
   ·exact oQF 7 [⟨[.str a2,w34 a3,.i z8.2.2.1,.i a5],4,false⟩,⟨e29 z8.2.2.2,7,false⟩,⟨e29 z8.2.2.2,7,false⟩] 1 [] [n29 z8.2.2.2] (n29 z8.2.2.2) .ps trivial
   ·let E4:Env:=[(17,.ptr 0 4 0),(13,.bool false),(0,.ptr 0 4 0),(2,.bool z8.2.1),(4,.ptr 1 7 0),(6,.ptr 2 7 0),(13,.bool z8.1)]
    refine oH 7 (atN 1 (ctl1 i14p4)) E4 (mkH [⟨[.str a2,w34 a3,.i z8.2.2.1,.i a5],4,false⟩,⟨e29 z8.2.2.2,7,false⟩,Q2]) ?_
    refine oX (fun (x1_1:(Bool × Int)) => .bool x1_1.1) (fun x1_1=>[⟨[.str a2,w34 a3,.i x1_1.2,.i a5],4,false⟩,⟨e29 z8.2.2.2,7,false⟩,Q2]) (atN 2 (ctl1 i14p4)) 18 [0] [] [] [] [] [.ptr 0 4 0,.str [40]] (qAg k ([40]:List Nat) a2 a3 z8.2.2.1 a5) trivial (fun _=>trivial) trivial fun x1_1 hx1_1=>?_
    refine oR 2 i14p6 ((16,.bool x1_1.1) :: (18,.bool x1_1.1) :: E4) ?_
    refine oJ i14p9 (fun (z9:Int × S28)=>[(0,.ptr 0 4 0),(4,.ptr 1 7 0),(6,.ptr 2 7 0)]) (fun (z9:Int × S28)=>(mkH [⟨[.str a2,w34 a3,.i z9.1,.i a5],4,false⟩,⟨e29 z9.2,7,false⟩,Q2])) (fun z9=>?_) (fun j9 hj9=>?_)
    ·refine oLH 8 i14p1 [(0,.ptr 0 4 0),(2,.bool false),(4,.ptr 1 7 0),(6,.ptr 2 7 0)] (mkH [⟨[.str a2,w34 a3,.i z9.1,.i a5],4,false⟩,⟨e29 z9.2,7,false⟩,Q2]) ?_
     exact ih false z9.1 z9.2
    ·refine oS 16 (fun hb=>?_) (fun hb=>?_)
     ·let E6:Env:=((21,.slice 3 7 0 1 7) :: (20,n29 z8.2.2.2) :: (19,.ptr 0 4 0) :: (16,.bool true) :: (16,.bool x1_1.1) :: (18,.bool x1_1.1) :: E4)
      let Q3:Blk:=⟨[.str a2,w34 a3,.i x1_1.2,.i a5],4,false⟩
      refine oH 5 (atN 3 (ctl1 i14p7)) E6 (mkH [Q3,⟨e29 z8.2.2.2,7,false⟩,Q2,⟨e29 z8.2.2.2,0,false⟩]) ?_
      refine qCp 21 3 7 1 7 (by kernel_rfl) rfl ?_
      let Q4:Blk:=⟨(([z8.2.2.2]:List S28)).flatMap e29,0,false⟩
      refine oH 3 (atN 6 (ctl1 i14p7)) ((24,.func 78 [.ptr 0 4 0] []) :: (23,.ptr 0 4 0) :: (22,.agg [.i 2,.str [],.own 3 (([z8.2.2.2]:List S28)).length 7,.bool false,.bool false,.nils,.nils]) :: (21,.own 3 (([z8.2.2.2]:List S28)).length 7) :: E6) (mkH [Q3,⟨e29 z8.2.2.2,7,false⟩,Q2,Q4]) ?_
      refine oXW 0 [Q3,⟨e29 z8.2.2.2,7,false⟩,Q2,Q4] (fun (x2_6:Ri18) => .agg [.i x2_6.1,.str x2_6.2.1,.own 3 (x2_6.2.2.2.2.2.2.2).length 7,.bool x2_6.2.2.1,.bool x2_6.2.2.2.1,w9 x2_6.2.2.2.2.1,w9 x2_6.2.2.2.2.2.1]) (fun x2_6=>[⟨[.str a2,w34 a3,.i x2_6.2.2.2.2.2.2.1,.i a5],4,false⟩,⟨e29 z8.2.2.2,7,false⟩,Q2,⟨(x2_6.2.2.2.2.2.2.2).flatMap e29,0,false⟩]) (atN 7 (ctl1 i14p7)) 25 [0,3] [0,1] [0,1] [0,3] [] [0,0,0,1] [.ptr 0 4 0,.agg [.i 2,.str [],.own 3 (([z8.2.2.2]:List S28)).length 7,.bool false,.bool false,.nils,.nils],.str [41],.func 78 [.ptr 0 4 0] []] [.ptr 0 4 0,.agg [.i 2,.str [],.own 3 (([z8.2.2.2]:List S28)).length 7,.bool false,.bool false,w9 ([]:List (List Nat)),w9 ([]:List (List Nat))],.str [41],.func 78 [.ptr 0 4 0] []] (.cons (.agg (.cons (.cons (.cons (.cons (.cons (.nil (.nil (.refl)))))))) (.refl))) (hF.i18_ok (2:Int) ([]:List Nat) false false ([]:List (List Nat)) ([]:List (List Nat)) ([41]:List Nat) a2 a3 x1_1.2 a5 ([z8.2.2.2]:List S28)) ⟨u29 _,trivial⟩ (fun _=>⟨u29 _,trivial⟩) trivial fun x2_6 hx2_6=>?_
      let Q5:Blk:=⟨[.str a2,w34 a3,.i x2_6.2.2.2.2.2.2.1,.i a5],4,false⟩
      let Q6:Blk:=⟨[.i x2_6.1,.str x2_6.2.1,.own 3 (x2_6.2.2.2.2.2.2.2).length 7,.bool x2_6.2.2.1,.bool x2_6.2.2.2.1,w9 x2_6.2.2.2.2.1,w9 x2_6.2.2.2.2.2.1],7,false⟩
      let Q7:Blk:=⟨(x2_6.2.2.2.2.2.2.2).flatMap e29,0,false⟩
      refine oH 3 i14p9 ((25,.agg [.i x2_6.1,.str x2_6.2.1,.own 3 (x2_6.2.2.2.2.2.2.2).length 7,.bool x2_6.2.2.1,.bool x2_6.2.2.2.1,w9 x2_6.2.2.2.2.1,w9 x2_6.2.2.2.2.2.1]) :: (24,.func 78 [.ptr 0 4 0] []) :: (23,.ptr 0 4 0) :: (22,.agg [.i 2,.str [],.own 3 (([z8.2.2.2]:List S28)).length 7,.bool false,.bool false,.nils,.nils]) :: (21,.own 3 (([z8.2.2.2]:List S28)).length 7) :: E6) (mkH [Q5,Q6,Q2,Q7]) ?_
      let Q8:Blk:=⟨[.i x2_6.1,.str x2_6.2.1,w29 x2_6.2.2.2.2.2.2.2,.bool x2_6.2.2.1,.bool x2_6.2.2.2.1,w9 x2_6.2.2.2.2.1,w9 x2_6.2.2.2.2.2.1],7,false⟩
      refine qMy [Q5,Q6,Q2,Q7] [Q5,Q8,Q2,⟨[],0,false⟩] 3 (x2_6.2.2.2.2.2.2.2).length 7 0 ((x2_6.2.2.2.2.2.2.2).flatMap e29) [0,4,6] (env0:=[(0,.ptr 0 4 0),(4,.ptr 1 7 0),(6,.ptr 2 7 0)]) (eE:=[(0,.ptr 0 4 0),(4,.ptr 1 7 0),(6,.ptr 2 7 0)]) (by kernel_rfl) rfl rfl (qAz qA6 _) (Nat.zero_le _) (u29 _) (by kernel_rfl) ⟨⟨rfl,.refl (by kernel_rfl)⟩,⟨⟨rfl,.refl (by kernel_rfl)⟩,⟨⟨rfl,.refl (by kernel_rfl)⟩,trivial⟩⟩⟩ ⟨.inr ⟨rfl,rfl,rfl,.refl (by kernel_rfl)⟩,⟨.inr ⟨rfl,rfl,rfl,.cons (by kernel_rfl) (.cons (by kernel_rfl) (.own (.refl (by kernel_rfl))))⟩,⟨.inr ⟨rfl,rfl,rfl,.refl (by kernel_rfl)⟩,⟨.inl ⟨rfl,rfl⟩,trivial⟩⟩⟩⟩ ?_
      refine qAa [Q5,Q8,Q2] [⟨[],0,false⟩] (by kernel_rfl) rfl (by kernel_rfl) ⟨(by kernel_rfl),⟨(by kernel_rfl),⟨(by kernel_rfl),trivial⟩⟩⟩ ?_
      exact hj9 (x2_6.2.2.2.2.2.2.1,(⟨x2_6.1,x2_6.2.1,(⟨(x2_6.2.2.2.2.2.2.2).length,(x2_6.2.2.2.2.2.2.2).flatMap e29⟩:Raw),x2_6.2.2.1,x2_6.2.2.2.1,x2_6.2.2.2.2.1,x2_6.2.2.2.2.2.1⟩:S28))
     ·let E8:Env:=((30,.bool (!decide (z8.2.2.2.f0 = 3))) :: (29,.bool (!decide (z8.2.2.2.f0 = 3))) :: (28,.i z8.2.2.2.f0) :: (27,.ptr 1 7 0) :: (16,.bool false) :: (16,.bool x1_1.1) :: (18,.bool x1_1.1) :: E4)
      let Q9:Blk:=⟨[.str a2,w34 a3,.i x1_1.2,.i a5],4,false⟩
      refine oH 7 (atN 4 (ctl1 i14p8)) E8 (mkH [Q9,⟨e29 z8.2.2.2,7,false⟩,Q2]) ?_
      refine oJ i14p10 (fun (z10:Bool × Int × S28)=>[(0,.ptr 0 4 0),(4,.ptr 1 7 0),(6,.ptr 2 7 0),(26,.bool z10.1)]) (fun (z10:Bool × Int × S28)=>(mkH [⟨[.str a2,w34 a3,.i z10.2.1,.i a5],4,false⟩,⟨e29 z10.2.2,7,false⟩,Q2])) (fun z10=>?_) (fun j10 hj10=>?_)
      ·refine oS 26 (fun hb=>?_) (fun hb=>?_)
       ·let Q10:Blk:=⟨[.str a2,w34 a3,.i z10.2.1,.i a5],4,false⟩
        refine oH 1 i14p11 [(26,.bool true),(0,.ptr 0 4 0),(4,.ptr 1 7 0),(6,.ptr 2 7 0),(26,.bool z10.1)] (mkH [Q10,⟨e29 z10.2.2,7,false⟩,Q2]) ?_
        refine qC6 (fun h=>?_) (fun x4_2 hx4_2=>?_)
        ·let E10:Env:=[(43,.ptr 0 4 0),(42,n29 z10.2.2),(26,.bool true),(0,.ptr 0 4 0),(4,.ptr 1 7 0),(6,.ptr 2 7 0),(26,.bool z10.1)]
         exact qAj (eE:=((46,.top) :: (45,.top) :: (44,.top) :: E10)) (i14d0.th 2 thrown [0] (mkH [Q10,⟨e29 z10.2.2,7,false⟩,Q2])) (hs:=[(mkH [Q10,⟨e29 z10.2.2,7,false⟩,Q2]),(mkH [Q10,⟨e29 z10.2.2,7,false⟩,Q2])]) (LX:=[⟨[.str a2,w34 a3,.i a4,.i a5],4,false⟩]) (L:=[Q10,⟨e29 z10.2.2,7,false⟩,Q2]) rfl rfl rfl (by kernel_rfl) rfl ⟨.inl rfl,trivial⟩ (by kernel_rfl) (by kernel_rfl) (by kernel_rfl) (by kernel_rfl) (qA8 2 (l':=(opsAt i14p11).toList.drop 2) (eE:=E10) (H':=(mkH [Q10,⟨e29 z10.2.2,7,false⟩,Q2])) (hs:=[]) (by kernel_rfl) (qAi (l':=(opsAt i14p11).toList.drop 3) (eE:=((44,.top) :: E10)) (hs:=[(mkH [Q10,⟨e29 z10.2.2,7,false⟩,Q2])]) (fi:=86) (args:=[.ptr 0 4 0]) (by kernel_rfl) (by kernel_rfl) (frS 0 (M:=[Q10,⟨e29 z10.2.2,7,false⟩,Q2]) (rs:=[0]) (ms:=[]) (mv:=[]) (mm:=[]) (D:=[0]) (xs':=[.ptr 0 4 0]) (.refl) ((hF.i25_ok a2 a3 z10.2.1 a5).2 h) trivial trivial (by kernel_rfl)) (by kernel_rfl) (qA1 (l':=(opsAt i14p11).toList.drop 4) (eE:=((45,.top) :: (44,.top) :: E10)) (hs:=[]) (by kernel_rfl) (by kernel_rfl) (qA1 (l':=(opsAt i14p11).toList.drop 5) (eE:=((46,.top) :: (45,.top) :: (44,.top) :: E10)) (hs:=[]) (by kernel_rfl) (by kernel_rfl) (qA1 (l':=(opsAt i14p11).toList.drop 6) (eE:=((46,.top) :: (45,.top) :: (44,.top) :: E10)) (hs:=[(mkH [Q10,⟨e29 z10.2.2,7,false⟩,Q2])]) (by kernel_rfl) (by kernel_rfl) (.nil)))))) (by kernel_rfl) (by kernel_rfl)
        ·let E10:Env:=[(43,.ptr 0 4 0),(42,n29 z10.2.2),(26,.bool true),(0,.ptr 0 4 0),(4,.ptr 1 7 0),(6,.ptr 2 7 0),(26,.bool z10.1)]
         let Q11:Blk:=⟨[.str a2,w34 a3,.i x4_2.2,.i a5],4,false⟩
         let Q12:Blk:=⟨[.i 3,.str [],w29 ([z10.2.2,x4_2.1]:List S28),.bool false,.bool false,.nils,.nils],7,false⟩
         refine oD (H':=(mkH [Q11,Q12,Q2])) (nav [0] i14p11) ((46,.agg [.i 3,.str [],w29 ([z10.2.2,x4_2.1]:List S28),.bool false,.bool false,.nils,.nils]) :: (45,w29 ([z10.2.2,x4_2.1]:List S28)) :: (44,n29 x4_2.1) :: E10) [(mkH [Q11,⟨e29 z10.2.2,7,false⟩,Q2]),(mkH [Q11,Q12,Q2])] i14d0 (oDr 2 2 E10 (qA5 (l':=(opsAt i14p11).toList.drop 3) (eE:=((44,n29 x4_2.1) :: E10)) (hs:=[(mkH [Q11,⟨e29 z10.2.2,7,false⟩,Q2])]) (H':=(mkH [Q11,⟨e29 z10.2.2,7,false⟩,Q2])) (fi:=86) (args:=[.ptr 0 4 0]) (v:=n29 x4_2.1) (by kernel_rfl) (frC (rs:=[0]) (ms:=[]) (ms':=[]) ((hF.i25_ok a2 a3 z10.2.1 a5).1 x4_2 hx4_2) trivial trivial (by kernel_rfl)) (by kernel_rfl) (oDh 3 6 ((46,.agg [.i 3,.str [],w29 ([z10.2.2,x4_2.1]:List S28),.bool false,.bool false,.nils,.nils]) :: (45,w29 ([z10.2.2,x4_2.1]:List S28)) :: (44,n29 x4_2.1) :: E10) (mkH [Q11,Q12,Q2]) [(mkH [Q11,Q12,Q2])] .nil))) ?_
         refine oR 1 i14p9 ((46,.agg [.i 3,.str [],w29 ([z10.2.2,x4_2.1]:List S28),.bool false,.bool false,.nils,.nils]) :: (45,w29 ([z10.2.2,x4_2.1]:List S28)) :: (44,n29 x4_2.1) :: E10) ?_
         refine qCw [Q11,Q12,Q2] 1 7 [.i 3,.str [],w29 ([z10.2.2,x4_2.1]:List S28),.bool false,.bool false,.nils,.nils] [.i 3,.str [],w29 ([z10.2.2,x4_2.1]:List S28),.bool false,.bool false,w9 ([]:List (List Nat)),w9 ([]:List (List Nat))] (by kernel_rfl) rfl (.cons (.cons (.cons (.cons (.cons (.nil (.nil (.refl)))))))) ?_
         refine oHp (mkH [Q11,⟨[.i 3,.str [],w29 ([z10.2.2,x4_2.1]:List S28),.bool false,.bool false,w9 ([]:List (List Nat)),w9 ([]:List (List Nat))],7,false⟩,Q2]) ?_
         refine oK [0,4,6] [(0,.ptr 0 4 0),(4,.ptr 1 7 0),(6,.ptr 2 7 0)] ?_
         exact hj9 (x4_2.2,(⟨3,([]:List Nat),(⟨(([z10.2.2,x4_2.1]:List S28)).length,(([z10.2.2,x4_2.1]:List S28)).flatMap e29⟩:Raw),false,false,([]:List (List Nat)),([]:List (List Nat))⟩:S28))
       ·let E12:Env:=[(48,.ptr 0 4 0),(26,.bool false),(0,.ptr 0 4 0),(4,.ptr 1 7 0),(6,.ptr 2 7 0),(26,.bool z10.1)]
        refine oH 4 (atN 1 (ctl1 i14p12)) E12 (mkH [⟨[.str a2,w34 a3,.i z10.2.1,.i a5],4,false⟩,⟨e29 z10.2.2,7,false⟩,Q2]) ?_
        refine oX (fun (x5_1:(Bool × Int)) => .bool x5_1.1) (fun x5_1=>[⟨[.str a2,w34 a3,.i x5_1.2,.i a5],4,false⟩,⟨e29 z10.2.2,7,false⟩,Q2]) (atN 2 (ctl1 i14p12)) 49 [0] [] [] [] [] [.ptr 0 4 0,.str [35]] (qAg k ([35]:List Nat) a2 a3 z10.2.1 a5) trivial (fun _=>trivial) trivial fun x5_1 hx5_1=>?_
        refine oR 2 i14p13 ((47,.bool x5_1.1) :: (49,.bool x5_1.1) :: E12) ?_
        refine oS 47 (fun hb=>?_) (fun hb=>?_)
        ·refine oR 4 (atN 2 (ctl1 i14p14)) ((51,n29 z10.2.2) :: (50,.ptr 0 4 0) :: (47,.bool true) :: (47,.bool x5_1.1) :: (49,.bool x5_1.1) :: E12) ?_
         refine oX (fun (x6_2:(S28 × Int))=>n29 x6_2.1) (fun x6_2=>[⟨[.str a2,w34 a3,.i x6_2.2,.i a5],4,false⟩,⟨e29 z10.2.2,7,false⟩,Q2]) (atN 3 (ctl1 i14p14)) 52 [0] [] [] [0] [] [.ptr 0 4 0,n29 z10.2.2] (hF.i26_ok z10.2.2 a2 a3 x5_1.2 a5) trivial (fun _=>trivial) trivial fun x6_2 hx6_2=>?_
         refine oLH 3 i14p9 [(0,.ptr 0 4 0),(4,.ptr 1 7 0),(6,.ptr 2 7 0)] (mkH [⟨[.str a2,w34 a3,.i x6_2.2,.i a5],4,false⟩,⟨e29 x6_2.1,7,false⟩,Q2]) ?_
         exact hj9 (x6_2.2,x6_2.1)
        ·exact oQF 7 [⟨[.str a2,w34 a3,.i x5_1.2,.i a5],4,false⟩,⟨e29 z10.2.2,7,false⟩,⟨e29 z10.2.2,7,false⟩] 1 [] [n29 z10.2.2] (n29 z10.2.2) .ps trivial
      ·refine oS 30 (fun hb=>?_) (fun hb=>?_)
       ·refine oH 2 (atN 6 (ctl1 i14p8)) ((32,.bool z8.2.1) :: (31,.bool z8.2.1) :: (30,.bool true) :: E8) (mkH [Q9,⟨e29 z8.2.2.2,7,false⟩,Q2]) ?_
        refine oS 32 (fun hb=>?_) (fun hb=>?_)
        ·refine oR 7 (atN 13 (ctl1 i14p8)) ((39,.ptr 0 4 0) :: (38,.bool true) :: (37,.bool true) :: (36,.bool true) :: (35,.tuple []) :: (34,.tuple []) :: (33,.tuple []) :: (32,.bool true) :: (32,.bool z8.2.1) :: (31,.bool z8.2.1) :: (30,.bool true) :: E8) ?_
         refine oX (fun (x3_13:(Bool × Int)) => .bool x3_13.1) (fun x3_13=>[⟨[.str a2,w34 a3,.i x3_13.2,.i a5],4,false⟩,⟨e29 z8.2.2.2,7,false⟩,Q2]) (atN 14 (ctl1 i14p8)) 40 [0] [] [] [] [] [.ptr 0 4 0,.str [58]] (qAg k ([58]:List Nat) a2 a3 x1_1.2 a5) trivial (fun _=>trivial) trivial fun x3_13 hx3_13=>?_
         refine oL 3 i14p10 [(0,.ptr 0 4 0),(4,.ptr 1 7 0),(6,.ptr 2 7 0),(26,.bool x3_13.1)] ?_
         exact hj10 (x3_13.1,x3_13.2,z8.2.2.2)
        ·let E17:Env:=((38,.bool (decide (z8.2.2.2.f0 = 1))) :: (37,.bool (decide (z8.2.2.2.f0 = 1))) :: (36,.bool (decide (z8.2.2.2.f0 = 1))) :: (35,.bool (decide (z8.2.2.2.f0 = 1))) :: (34,.i z8.2.2.2.f0) :: (33,.ptr 1 7 0) :: (32,.bool false) :: (32,.bool z8.2.1) :: (31,.bool z8.2.1) :: (30,.bool true) :: E8)
         refine oR 6 (atN 12 (ctl1 i14p8)) E17 ?_
         refine oS 38 (fun hb=>?_) (fun hb=>?_)
         ·refine oR 1 (atN 13 (ctl1 i14p8)) ((39,.ptr 0 4 0) :: (38,.bool true) :: E17) ?_
          refine oX (fun (x3_13:(Bool × Int)) => .bool x3_13.1) (fun x3_13=>[⟨[.str a2,w34 a3,.i x3_13.2,.i a5],4,false⟩,⟨e29 z8.2.2.2,7,false⟩,Q2]) (atN 14 (ctl1 i14p8)) 40 [0] [] [] [] [] [.ptr 0 4 0,.str [58]] (qAg k ([58]:List Nat) a2 a3 x1_1.2 a5) trivial (fun _=>trivial) trivial fun x3_13 hx3_13=>?_
          refine oL 3 i14p10 [(0,.ptr 0 4 0),(4,.ptr 1 7 0),(6,.ptr 2 7 0),(26,.bool x3_13.1)] ?_
          exact hj10 (x3_13.1,x3_13.2,z8.2.2.2)
         ·refine oL 5 i14p10 [(0,.ptr 0 4 0),(4,.ptr 1 7 0),(6,.ptr 2 7 0),(26,.bool false)] ?_
          exact hj10 (false,x1_1.2,z8.2.2.2)
       ·refine oLH 13 i14p10 [(0,.ptr 0 4 0),(4,.ptr 1 7 0),(6,.ptr 2 7 0),(26,.bool false)] (mkH [Q9,⟨e29 z8.2.2.2,7,false⟩,Q2]) ?_
        exact hj10 (false,x1_1.2,z8.2.2.2)
  ·refine oS 9 (fun hb=>?_) (fun hb=>?_)
   ·refine oH 1 (atN 4 (ctl1 i14p1)) ((10,n29 y7_2) :: (9,.bool true) :: E2) (mkH [Q1,⟨e29 y7_2,7,false⟩,Q2]) ?_
    refine oA (fun (x0_4:Bool) => .bool x0_4) (atN 5 (ctl1 i14p1)) 11 [n29 y7_2] (g85_ok k y7_2) fun x0_4 hx0_4=>?_
    refine oL 3 i14p2 [(0,.ptr 0 4 0),(2,.bool y7_0),(4,.ptr 1 7 0),(6,.ptr 2 7 0),(13,.bool (!x0_4))] ?_
    exact hj8 (!x0_4,y7_0,y7_1,y7_2)
   ·refine oLH 5 i14p2 [(0,.ptr 0 4 0),(2,.bool y7_0),(4,.ptr 1 7 0),(6,.ptr 2 7 0),(13,.bool false)] (mkH [Q1,⟨e29 y7_2,7,false⟩,Q2]) ?_
    exact hj8 (false,y7_0,y7_1,y7_2)
def i14B (k:Nat) (F:Fns0) (a0:S28) (a1:Bool) (a2:(List Nat)) (a3:(List S33)) (a4:Int) (a5:Int):Option (Option (S28 × Int)) :=
 qH9 k F a2 a3 a4 a5 k a1 a4 a0
theorem qKr (k:Nat) (F:Fns0) (hF:FnsOk0 F):∀ a0 a1 a2 a3 a4 a5 r,i14B k F a0 a1 a2 a3 a4 a5 = some r → CallT Try.prog 67 [.ptr 0 4 0,.agg [.i a0.f0,.str a0.f1,q29 a0.f2,.bool a0.f3,.bool a0.f4,w9 a0.f5,w9 a0.f6],.bool a1] (mkH [⟨[.str a2,w34 a3,.i a4,.i a5],4,false⟩]) ((Xi14 a0 a1 a2 a3 a4 a5).thr r) ((Xi14 a0 a1 a2 a3 a4 a5).enc r) ((Xi14 a0 a1 a2 a3 a4 a5).fin r):=by
 intro a0 a1 a2 a3 a4 a5 r h
 refine qA2 (Xi14 a0 a1 a2 a3 a4 a5) Try.func67 (by kernel_rfl) (by kernel_rfl) rfl (t:=i14B k F a0 a1 a2 a3 a4 a5) ?_ h
 unfold i14B
 refine qA (eE:=[(0,.ptr 0 4 0),(1,.agg [.i a0.f0,.str a0.f1,q29 a0.f2,.bool a0.f3,.bool a0.f4,w9 a0.f5,w9 a0.f6]),(2,.bool a1)]) (by kernel_rfl) ?_
 let Q1:Blk:=⟨[.str a2,w34 a3,.i a4,.i a5],4,false⟩
 let Q2:Blk:=⟨[.i 0,.str [],.nils,.bool false,.bool false,.nils,.nils],0,false⟩
 refine oLH 10 i14p1 [(0,.ptr 0 4 0),(2,.bool a1),(4,.ptr 1 7 0),(6,.ptr 2 7 0)] (mkH [Q1,⟨e29 a0,0,false⟩,Q2]) ?_
 refine qMx [Q1,⟨e29 a0,0,false⟩,Q2] 1 [.i a0.f0,.str a0.f1,q29 a0.f2,.bool a0.f3,.bool a0.f4,w9 a0.f5,w9 a0.f6] 0 7 rfl rfl (by decide) ?_
 refine oHp (mkH [Q1,⟨e29 a0,7,false⟩,Q2]) ?_
 exact (qO4 k F hF a0 a1 a2 a3 a4 a5 k) a1 a4 a0
theorem i14B_ok (k:Nat) (F:Fns0) (hF:FnsOk0 F):Pi14 (i14B k F):=fun a0 a1 a2 a3 a4 a5=>⟨fun x h=>qKr k F hF a0 a1 a2 a3 a4 a5 (some x) h,fun h=>⟨_,qKr k F hF a0 a1 a2 a3 a4 a5 none h⟩⟩
def i17p1:Pt:=nav [0,0,0] (nav [0] (bodyAt Try.f76))
def i17p2:Pt:=nav [0,0,0] i17p1
def i17B (k:Nat) (F:Fns0) (a0:(List Nat)) (a1:(List S33)) (a2:Int) (a3:Int):Option (Option (S28 × Int)) :=
 bT (F.i5 (0:Int) a0 a1 a2 a3) fun x0_1=>bT (i23 k ([41]:List Nat) a0 a1 x0_1.2 a3) fun x1_1=>some (some (x0_1.1,x1_1))
theorem qKq (k:Nat) (F:Fns0) (hF:FnsOk0 F):∀ a0 a1 a2 a3 r,i17B k F a0 a1 a2 a3 = some r → CallT Try.prog 76 [.ptr 0 4 0] (mkH [⟨[.str a0,w34 a1,.i a2,.i a3],4,false⟩]) ((Xi17 a0 a1 a2 a3).thr r) ((Xi17 a0 a1 a2 a3).enc r) ((Xi17 a0 a1 a2 a3).fin r):=by
 intro a0 a1 a2 a3 r h
 refine qA2 (Xi17 a0 a1 a2 a3) Try.func76 (by kernel_rfl) (by kernel_rfl) rfl (t:=i17B k F a0 a1 a2 a3) ?_ h
 unfold i17B
 refine qA (eE:=[(0,.ptr 0 4 0)]) (by kernel_rfl) ?_
 let Q1:Blk:=⟨[.i 0,.str [],.nils,.bool false,.bool false,.nils,.nils],0,false⟩
 refine oH 7 (atN 1 (ctl1 i17p1)) [(4,.ptr 0 4 0),(2,.ptr 1 7 0),(0,.ptr 0 4 0)] (mkH [⟨[.str a0,w34 a1,.i a2,.i a3],4,false⟩,Q1]) ?_
 refine oX (fun (x0_1:(S28 × Int))=>n29 x0_1.1) (fun x0_1=>[⟨[.str a0,w34 a1,.i x0_1.2,.i a3],4,false⟩,Q1]) (atN 2 (ctl1 i17p1)) 5 [0] [] [] [0] [] [.ptr 0 4 0,.i 0] (hF.i5_ok (0:Int) a0 a1 a2 a3) trivial (fun _=>trivial) trivial fun x0_1 hx0_1=>?_
 refine oH 6 (atN 1 (ctl1 i17p2)) [(6,.ptr 0 4 0),(3,.ptr 2 7 0),(5,n29 x0_1.1),(4,.ptr 0 4 0),(2,.ptr 1 7 0),(0,.ptr 0 4 0)] (mkH [⟨[.str a0,w34 a1,.i x0_1.2,.i a3],4,false⟩,Q1,⟨e29 x0_1.1,7,false⟩]) ?_
 refine oX (fun (x1_1:Int) => .tuple []) (fun x1_1=>[⟨[.str a0,w34 a1,.i x1_1,.i a3],4,false⟩,Q1,⟨e29 x0_1.1,7,false⟩]) (atN 2 (ctl1 i17p2)) 7 [0] [] [] [0] [] [.ptr 0 4 0,.str [41]] (qAt k ([41]:List Nat) a0 a1 x0_1.2 a3) trivial (fun _=>trivial) trivial fun x1_1 hx1_1=>?_
 exact oQF 7 [⟨[.str a0,w34 a1,.i x1_1,.i a3],4,false⟩,⟨e29 x0_1.1,7,false⟩,⟨e29 x0_1.1,7,false⟩] 1 [] [n29 x0_1.1] (n29 x0_1.1) .ps trivial
theorem i17B_ok (k:Nat) (F:Fns0) (hF:FnsOk0 F):Pi17 (i17B k F):=fun a0 a1 a2 a3=>⟨fun x h=>qKq k F hF a0 a1 a2 a3 (some x) h,fun h=>⟨_,qKq k F hF a0 a1 a2 a3 none h⟩⟩
def i18p1:Pt:=nav [0,0,0,0] (nav [0] (bodyAt Try.f77))
def i18p2:Pt:=nav [0,0,0] i18p1
def i18p3:Pt:=nav [0,0,0,0] i18p2
def i18p4:Pt:=nav [0,0] i18p3
def i18p6:Pt:=nav [2,0,0,0,0] i18p4
def i18p10:Pt:=nav [0,0,0] (nav [0,0,0] i18p6)
def i18p11:Pt:=nav [0,0,0,0] i18p10
def i18p12:Pt:=nav [0,0,0] i18p11
def i18p13:Pt:=nav [0,0] i18p12
def i18p15:Pt:=nav [2,0,0] i18p13
def i18p17:Pt:=nav [0,0,0] i18p15
def i18p18:Pt:=nav [0,0,0] i18p17
def qD (k:Nat) (F:Fns0)  (a0:Int) (a1:(List Nat)) (a3:Bool) (a4:(List (List Nat))) (a5:(List (List Nat))) (a6:(List Nat)) (a7:(List Nat)) (a8:(List S33)) (a10:Int) (x0_1:Bool) (ih:(List (List Nat)) → Int → (List S28) → Option (Option Ri18)):(List (List Nat)) → Int → (List S28) → Option (Option Ri18) :=
 fun (y10_0:(List (List Nat))) (y10_1:Int) (y10_2:(List S28))=>bT (F.i29 a7 a8 y10_1 a10) fun x3_1=>(appS 104 y10_2 ([(⟨x3_1.1.f0,x3_1.1.f1,x3_1.1.f2,x3_1.1.f3,x3_1.1.f4,y10_0,x3_1.1.f6⟩:S28)]:List S28)).bind fun x4_4=>(i12 k a7 a8 x3_1.2 a10).bind fun x5_1=>bT (i7 k a6 a7 a8 x5_1.2 a10) fun x6_2=>if x6_2.1 then (some (some (a0,a1,x0_1,a3,a4,x5_1.1,x6_2.2,x4_4))) else (bT (i16 k (decide ((x5_1.1.length:Int) = 0))) fun x7_3=>bT (i23 k ([44]:List Nat) a7 a8 x6_2.2 a10) fun x8_1=>(i12 k a7 a8 x8_1 a10).bind fun x9_1=>ih x9_1.1 x9_1.2 x4_4)
def qEc (k:Nat) (F:Fns0)  (a0:Int) (a1:(List Nat)) (a3:Bool) (a4:(List (List Nat))) (a5:(List (List Nat))) (a6:(List Nat)) (a7:(List Nat)) (a8:(List S33)) (a10:Int) (x0_1:Bool) (n:Nat):(List (List Nat)) → Int → (List S28) → Option (Option Ri18):=lp (fun _ _ _=>none) (qD k F a0 a1 a3 a4 a5 a6 a7 a8 a10 x0_1) n
theorem qLm (k:Nat) (F:Fns0) (hF:FnsOk0 F) (a0:Int) (a1:(List Nat)) (a2:Bool) (a3:Bool) (a4:(List (List Nat))) (a5:(List (List Nat))) (a6:(List Nat)) (a7:(List Nat)) (a8:(List S33)) (a9:Int) (a10:Int) (b1:(List S28))  (x0_1:Bool)  : ∀ (n:Nat) (y10_0:(List (List Nat))) (y10_1:Int) (y10_2:(List S28)),Ok (Xi18 a0 a1 a2 a3 a4 a5 a6 a7 a8 a9 a10 b1) i18p6 [(0,.ptr 0 4 0),(2,.str a6),(3,.func 78 [.ptr 0 4 0] []),(5,.ptr 2 7 0),(8,.ptr 3 7 0),(9,w9 y10_0)] (mkH [⟨[.str a7,w34 a8,.i y10_1,.i a10],4,false⟩,⟨(y10_2).flatMap e29,0,false⟩,⟨[.i a0,.str a1,.own 1 (y10_2).length 7,.bool x0_1,.bool a3,w9 a4,w9 a5],7,false⟩,⟨[.i 0,.str [],.nils,.bool false,.bool false,.nils,.nils],0,false⟩]) (qEc k F a0 a1 a3 a4 a5 a6 a7 a8 a10 x0_1 n y10_0 y10_1 y10_2):=by
 intro n
 induction n with
 | zero=>intro y10_0 y10_1 y10_2; exact ok_none
 | succ n ih =>
  intro y10_0 y10_1 y10_2
  show Ok _ _ _ _ (qD k F a0 a1 a3 a4 a5 a6 a7 a8 a10 x0_1 (qEc k F a0 a1 a3 a4 a5 a6 a7 a8 a10 x0_1 n) y10_0 y10_1 y10_2)
  unfold qD
  let E5:Env:=[(22,.func 78 [.ptr 0 4 0] []),(0,.ptr 0 4 0),(2,.str a6),(3,.func 78 [.ptr 0 4 0] []),(5,.ptr 2 7 0),(8,.ptr 3 7 0),(9,w9 y10_0)]
  let Q1:Blk:=⟨(y10_2).flatMap e29,0,false⟩
  let Q2:Blk:=⟨[.i a0,.str a1,.own 1 (y10_2).length 7,.bool x0_1,.bool a3,w9 a4,w9 a5],7,false⟩
  let Q3:Blk:=⟨[.i 0,.str [],.nils,.bool false,.bool false,.nils,.nils],0,false⟩
  refine oH 2 (atN 1 (ctl1 i18p6)) E5 (mkH [⟨[.str a7,w34 a8,.i y10_1,.i a10],4,false⟩,Q1,Q2,Q3]) ?_
  refine oX (fun (x3_1:(S28 × Int))=>n29 x3_1.1) (fun x3_1=>[⟨[.str a7,w34 a8,.i x3_1.2,.i a10],4,false⟩,Q1,Q2,Q3]) (atN 2 (ctl1 i18p6)) 23 [0] [] [] [0,2] [0,1] [.ptr 0 4 0] (hF.i29_ok a7 a8 y10_1 a10) trivial (fun _=>trivial) ⟨u29 _,trivial⟩ fun x3_1 hx3_1=>?_
  let Q4:Blk:=⟨[.str a7,w34 a8,.i x3_1.2,.i a10],4,false⟩
  let Q5:Blk:=⟨[.i x3_1.1.f0,.str x3_1.1.f1,q29 x3_1.1.f2,.bool x3_1.1.f3,.bool x3_1.1.f4,w9 y10_0,w9 x3_1.1.f6],7,false⟩
  let Q6:Blk:=⟨[.i x3_1.1.f0,.str x3_1.1.f1,q29 x3_1.1.f2,.bool x3_1.1.f3,.bool x3_1.1.f4,w9 y10_0,w9 x3_1.1.f6],0,false⟩
  refine oH 15 (atN 4 (ctl1 i18p10)) ((29,.slice 5 7 0 1 7) :: (28,.agg [.i x3_1.1.f0,.str x3_1.1.f1,q29 x3_1.1.f2,.bool x3_1.1.f3,.bool x3_1.1.f4,w9 y10_0,w9 x3_1.1.f6]) :: (27,.own 1 (y10_2).length 7) :: (26,.ptr 2 7 2) :: (25,.ptr 4 7 5) :: (24,w9 y10_0) :: (10,.ptr 4 7 0) :: (23,n29 x3_1.1) :: E5) (mkH [Q4,Q1,Q2,Q3,Q5,Q6]) ?_
  refine oC (fun (x4_4:(List S28))=>(.own 1 (x4_4).length 7,(mkH [Q4,⟨(x4_4).flatMap e29,0,false⟩,Q2,Q3,Q5,Q6]))) (atN 5 (ctl1 i18p10)) 30 (appH (sz:=7) qA6 rfl qAu [Q4,Q1,Q2,Q3,Q5,Q6] 1 104 y10_2 ([(⟨x3_1.1.f0,x3_1.1.f1,x3_1.1.f2,x3_1.1.f3,x3_1.1.f4,y10_0,x3_1.1.f6⟩:S28)]:List S28) rfl rfl (by kernel_rfl)) fun x4_4 hx4_4=>?_
  let E7:Env:=[(0,.ptr 0 4 0),(2,.str a6),(3,.func 78 [.ptr 0 4 0] []),(5,.ptr 2 7 0),(8,.ptr 3 7 0)]
  let Q7:Blk:=⟨(x4_4).flatMap e29,0,false⟩
  let Q8:Blk:=⟨[.i a0,.str a1,.own 1 (x4_4).length 7,.bool x0_1,.bool a3,w9 a4,w9 a5],7,false⟩
  refine oLH 5 i18p11 E7 (mkH [Q4,Q7,Q8,Q3,Q5,Q6]) ?_
  refine oR 2 (atN 1 (ctl1 i18p11)) ((32,.ptr 0 4 0) :: E7) ?_
  refine oN (fun (x5_1:Ri12)=>w9 x5_1.1) (fun x5_1=>[⟨[.str a7,w34 a8,.i x5_1.2,.i a10],4,false⟩,Q7,Q8,Q3,Q5,Q6]) (atN 2 (ctl1 i18p11)) 33 [0] [] [] [.ptr 0 4 0] (qAh k a7 a8 x3_1.2 a10) trivial (fun _=>trivial) fun x5_1 hx5_1=>?_
  let E8:Env:=((35,.str a6) :: (34,.ptr 0 4 0) :: (9,w9 x5_1.1) :: (33,w9 x5_1.1) :: (32,.ptr 0 4 0) :: E7)
  refine oR 6 (atN 2 (ctl1 i18p12)) E8 ?_
  refine oX (fun (x6_2:(Bool × Int)) => .bool x6_2.1) (fun x6_2=>[⟨[.str a7,w34 a8,.i x6_2.2,.i a10],4,false⟩,Q7,Q8,Q3,Q5,Q6]) (atN 3 (ctl1 i18p12)) 36 [0] [] [] [2] [0,1] [.ptr 0 4 0,.str a6] (qAg k a6 a7 a8 x5_1.2 a10) trivial (fun _=>trivial) ⟨u29 _,trivial⟩ fun x6_2 hx6_2=>?_
  refine oR 1 i18p13 ((36,.bool x6_2.1) :: E8) ?_
  refine oS 36 (fun hb=>?_) (fun hb=>?_)
  ·let Q9:Blk:=⟨[.str a7,w34 a8,.i x6_2.2,.i a10],4,false⟩
   let Q10:Blk:=⟨[.i a0,.str a1,.own 1 (x4_4).length 7,.bool x0_1,.bool a3,w9 a4,w9 x5_1.1],7,false⟩
   refine oLH 8 (nav [0,0,0] (nav [1,0] i18p13)) [(5,.ptr 2 7 0),(8,.ptr 3 7 0)] (mkH [Q9,Q7,Q10,Q3,Q5,Q6]) ?_
   refine oH 5 .fin ((39,.agg [.i a0,.str a1,.own 1 (x4_4).length 7,.bool x0_1,.bool a3,w9 a4,w9 x5_1.1]) :: [(5,.ptr 2 7 0),(8,.ptr 3 7 0)]) (mkH [Q9,Q7,Q10,Q10,Q5,Q6]) ?_
   exact qBq (r:=some (a0,a1,x0_1,a3,a4,x5_1.1,x6_2.2,x4_4)) (xs:=[.agg [.i a0,.str a1,.own 1 (x4_4).length 7,.bool x0_1,.bool a3,w9 a4,w9 x5_1.1]]) [Q9,Q7] [Q10,Q10,Q5,Q6] (by kernel_rfl) (by kernel_rfl) (by kernel_rfl) (by kernel_rfl) (by kernel_rfl) ⟨(by kernel_rfl),⟨(qA3 _ (u29 _)),trivial⟩⟩ (by kernel_rfl) (by kernel_rfl)
  ·let E10:Env:=((42,.bool (decide ((x5_1.1.length:Int) = 0))) :: (41,.i (x5_1.1.length:Int)) :: (40,w9 x5_1.1) :: (36,.bool false) :: (36,.bool x6_2.1) :: E8)
   refine oR 7 (atN 3 (ctl1 i18p15)) E10 ?_
   refine oX (fun (x7_3:Unit) => .tuple []) (fun x7_3=>[⟨[.str a7,w34 a8,.i x6_2.2,.i a10],4,false⟩,Q7,Q8,Q3,Q5,Q6]) (atN 4 (ctl1 i18p15)) 43 [] [] [] [2] [0,1] [.bool (decide ((x5_1.1.length:Int) = 0))] (qCm k (decide ((x5_1.1.length:Int) = 0))) trivial (fun _=>trivial) ⟨u29 _,trivial⟩ fun x7_3 hx7_3=>?_
   refine oR 2 i18p17 ((43,.tuple []) :: E10) ?_
   refine oK0 [0,2,3,5,8] ?_
   let E11:Env:=keepOnly ((43,.tuple []) :: E10) [0,2,3,5,8]
   refine oR 2 (atN 1 (ctl1 i18p17)) ((44,.ptr 0 4 0) :: E11) ?_
   refine oX (fun (x8_1:Int) => .tuple []) (fun x8_1=>[⟨[.str a7,w34 a8,.i x8_1,.i a10],4,false⟩,Q7,Q8,Q3,Q5,Q6]) (atN 2 (ctl1 i18p17)) 45 [0] [] [] [0,2] [0,1] [.ptr 0 4 0,.str [44]] (qAt k ([44]:List Nat) a7 a8 x6_2.2 a10) trivial (fun _=>trivial) ⟨u29 _,trivial⟩ fun x8_1 hx8_1=>?_
   refine oR 4 (atN 1 (ctl1 i18p18)) ((46,.ptr 0 4 0) :: (45,.tuple []) :: (44,.ptr 0 4 0) :: E11) ?_
   refine oN (fun (x9_1:Ri12)=>w9 x9_1.1) (fun x9_1=>[⟨[.str a7,w34 a8,.i x9_1.2,.i a10],4,false⟩,Q7,Q8,Q3,Q5,Q6]) (atN 2 (ctl1 i18p18)) 47 [0] [] [] [.ptr 0 4 0] (qAh k a7 a8 x8_1 a10) trivial (fun _=>trivial) fun x9_1 hx9_1=>?_
   refine oL 6 i18p6 [(0,.ptr 0 4 0),(2,.str a6),(3,.func 78 [.ptr 0 4 0] []),(5,.ptr 2 7 0),(8,.ptr 3 7 0),(9,w9 x9_1.1)] ?_
   refine qAa [⟨[.str a7,w34 a8,.i x9_1.2,.i a10],4,false⟩,Q7,Q8,Q3] [Q5,Q6] (by kernel_rfl) rfl (by kernel_rfl) ⟨(by kernel_rfl),⟨(qA3 _ (u29 _)),⟨(by kernel_rfl),⟨(by kernel_rfl),trivial⟩⟩⟩⟩ ?_
   exact ih x9_1.1 x9_1.2 x4_4
def i18B (k:Nat) (F:Fns0) (a0:Int) (a1:(List Nat)) (a2:Bool) (a3:Bool) (a4:(List (List Nat))) (a5:(List (List Nat))) (a6:(List Nat)) (a7:(List Nat)) (a8:(List S33)) (a9:Int) (a10:Int) (b1:(List S28)):Option (Option Ri18) :=
 (i28 k a7 a8 a9 a10).bind fun x0_1=>(i12 k a7 a8 a9 a10).bind fun x1_1=>bT (i7 k a6 a7 a8 x1_1.2 a10) fun x2_2=>if x2_2.1 then (some (some (a0,a1,x0_1,a3,a4,x1_1.1,x2_2.2,b1))) else (qEc k F a0 a1 a3 a4 a5 a6 a7 a8 a10 x0_1 k x1_1.1 x2_2.2 b1)
end
end Go.Proofs.Ythpplbkobokghaa.Am
