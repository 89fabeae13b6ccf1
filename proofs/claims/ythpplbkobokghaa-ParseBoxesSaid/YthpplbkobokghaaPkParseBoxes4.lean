/- LawParseBoxes, part 4: whatever the input, the law comes out true: our texts, joined by a tool, without what the claim does not name. -/
import Derived.Test.YthpplbkobokghaaPkParseBoxes3
set_option maxRecDepth 100000
set_option linter.unusedVariables false
set_option linter.unusedSimpArgs false
set_option maxRecDepth 100000
set_option linter.unusedVariables false
namespace Go.Proofs.Ythpplbkobokghaa.Am
noncomputable section
open Go
theorem qKp (k:Nat) (F:Fns0) (hF:FnsOk0 F):∀ a0 a1 a2 a3 a4 a5 a6 a7 a8 a9 a10 b1 r,i18B k F a0 a1 a2 a3 a4 a5 a6 a7 a8 a9 a10 b1 = some r → CallT Try.prog 77 [.ptr 0 4 0,.agg [.i a0,.str a1,.own 1 (b1).length 7,.bool a2,.bool a3,w9 a4,w9 a5],.str a6,.func 78 [.ptr 0 4 0] []] (mkH [⟨[.str a7,w34 a8,.i a9,.i a10],4,false⟩,⟨(b1).flatMap e29,0,false⟩]) ((Xi18 a0 a1 a2 a3 a4 a5 a6 a7 a8 a9 a10 b1).thr r) ((Xi18 a0 a1 a2 a3 a4 a5 a6 a7 a8 a9 a10 b1).enc r) ((Xi18 a0 a1 a2 a3 a4 a5 a6 a7 a8 a9 a10 b1).fin r):=by
 intro a0 a1 a2 a3 a4 a5 a6 a7 a8 a9 a10 b1 r h
 refine qA2 (Xi18 a0 a1 a2 a3 a4 a5 a6 a7 a8 a9 a10 b1) Try.func77 (by kernel_rfl) (by kernel_rfl) rfl (t:=i18B k F a0 a1 a2 a3 a4 a5 a6 a7 a8 a9 a10 b1) ?_ h
 unfold i18B
 refine qA (eE:=[(0,.ptr 0 4 0),(1,.agg [.i a0,.str a1,.own 1 (b1).length 7,.bool a2,.bool a3,w9 a4,w9 a5]),(2,.str a6),(3,.func 78 [.ptr 0 4 0] [])]) (by kernel_rfl) ?_
 let E1:Env:=[(11,.ptr 0 4 0),(8,.ptr 3 7 0),(5,.ptr 2 7 0),(0,.ptr 0 4 0),(1,.agg [.i a0,.str a1,.own 1 (b1).length 7,.bool a2,.bool a3,w9 a4,w9 a5]),(2,.str a6),(3,.func 78 [.ptr 0 4 0] [])]
 let Q1:Blk:=⟨[.str a7,w34 a8,.i a9,.i a10],4,false⟩
 let Q2:Blk:=⟨(b1).flatMap e29,0,false⟩
 let Q3:Blk:=⟨[.i a0,.str a1,.own 1 (b1).length 7,.bool a2,.bool a3,w9 a4,w9 a5],0,false⟩
 let Q4:Blk:=⟨[.i 0,.str [],.nils,.bool false,.bool false,.nils,.nils],0,false⟩
 refine oH 9 (atN 1 (ctl1 i18p1)) E1 (mkH [Q1,Q2,Q3,Q4]) ?_
 refine oN (fun (x0_1:Bool) => .bool x0_1) (fun x0_1=>[Q1,Q2,Q3,Q4]) (atN 2 (ctl1 i18p1)) 12 [0] [] [] [.ptr 0 4 0] (qH7 k a7 a8 a9 a10) trivial (fun _=>trivial) fun x0_1 hx0_1=>?_
 let Q5:Blk:=⟨[.i a0,.str a1,.own 1 (b1).length 7,.bool x0_1,.bool a3,w9 a4,w9 a5],7,false⟩
 refine oH 6 (atN 1 (ctl1 i18p2)) ((14,.ptr 0 4 0) :: (13,.ptr 2 7 3) :: (12,.bool x0_1) :: E1) (mkH [Q1,Q2,Q5,Q4]) ?_
 refine oN (fun (x1_1:Ri12)=>w9 x1_1.1) (fun x1_1=>[⟨[.str a7,w34 a8,.i x1_1.2,.i a10],4,false⟩,Q2,Q5,Q4]) (atN 2 (ctl1 i18p2)) 15 [0] [] [] [.ptr 0 4 0] (qAh k a7 a8 a9 a10) trivial (fun _=>trivial) fun x1_1 hx1_1=>?_
 let E2:Env:=((17,.str a6) :: (16,.ptr 0 4 0) :: (9,w9 x1_1.1) :: (15,w9 x1_1.1) :: (14,.ptr 0 4 0) :: (13,.ptr 2 7 3) :: (12,.bool x0_1) :: E1)
 refine oR 7 (atN 2 (ctl1 i18p3)) E2 ?_
 refine oX (fun (x2_2:(Bool × Int)) => .bool x2_2.1) (fun x2_2=>[⟨[.str a7,w34 a8,.i x2_2.2,.i a10],4,false⟩,Q2,Q5,Q4]) (atN 3 (ctl1 i18p3)) 18 [0] [] [] [2] [0,1] [.ptr 0 4 0,.str a6] (qAg k a6 a7 a8 x1_1.2 a10) trivial (fun _=>trivial) ⟨u29 _,trivial⟩ fun x2_2 hx2_2=>?_
 refine oR 1 i18p4 ((18,.bool x2_2.1) :: E2) ?_
 refine oK [0,2,3,5,8,9,18] [(0,.ptr 0 4 0),(2,.str a6),(3,.func 78 [.ptr 0 4 0] []),(5,.ptr 2 7 0),(8,.ptr 3 7 0),(9,w9 x1_1.1),(18,.bool x2_2.1)] ?_
 refine oS 18 (fun hb=>?_) (fun hb=>?_)
 ·let Q6:Blk:=⟨[.str a7,w34 a8,.i x2_2.2,.i a10],4,false⟩
  let Q7:Blk:=⟨[.i a0,.str a1,.own 1 (b1).length 7,.bool x0_1,.bool a3,w9 a4,w9 x1_1.1],7,false⟩
  refine oLH 8 (nav [0,0,0] (nav [1,0] i18p4)) [(5,.ptr 2 7 0),(8,.ptr 3 7 0)] (mkH [Q6,Q2,Q7,Q4]) ?_
  refine oH 5 .fin ((21,.agg [.i a0,.str a1,.own 1 (b1).length 7,.bool x0_1,.bool a3,w9 a4,w9 x1_1.1]) :: [(5,.ptr 2 7 0),(8,.ptr 3 7 0)]) (mkH [Q6,Q2,Q7,Q7]) ?_
  exact qBq (r:=some (a0,a1,x0_1,a3,a4,x1_1.1,x2_2.2,b1)) (xs:=[.agg [.i a0,.str a1,.own 1 (b1).length 7,.bool x0_1,.bool a3,w9 a4,w9 x1_1.1]]) [Q6,Q2] [Q7,Q7] (by kernel_rfl) (by kernel_rfl) (by kernel_rfl) (by kernel_rfl) (by kernel_rfl) ⟨(by kernel_rfl),⟨(qA3 _ (u29 _)),trivial⟩⟩ (by kernel_rfl) (by kernel_rfl)
 ·refine oR 5 i18p6 ((18,.bool false) :: (keepOnly ((18,.bool x2_2.1) :: E2) [0,2,3,5,8,9,18])) ?_
  refine oK [0,2,3,5,8,9] [(0,.ptr 0 4 0),(2,.str a6),(3,.func 78 [.ptr 0 4 0] []),(5,.ptr 2 7 0),(8,.ptr 3 7 0),(9,w9 x1_1.1)] ?_
  exact (qLm k F hF a0 a1 a2 a3 a4 a5 a6 a7 a8 a9 a10 b1 x0_1 k) x1_1.1 x2_2.2 b1
theorem i18B_ok (k:Nat) (F:Fns0) (hF:FnsOk0 F):Pi18 (i18B k F):=fun a0 a1 a2 a3 a4 a5 a6 a7 a8 a9 a10 b1=>⟨fun x h=>qKp k F hF a0 a1 a2 a3 a4 a5 a6 a7 a8 a9 a10 b1 (some x) h,fun h=>⟨_,qKp k F hF a0 a1 a2 a3 a4 a5 a6 a7 a8 a9 a10 b1 none h⟩⟩
def i19p1:Pt:=nav [0,0,0,0] (nav [0] (bodyAt Try.f79))
def i19p2:Pt:=nav [0,0,0] i19p1
def i19p3:Pt:=nav [0,0,0,0] i19p2
def i19p4:Pt:=nav [0,0] i19p3
def i19p6:Pt:=nav [2,0,0] i19p4
def i19p8:Pt:=nav [0,0,0,0] i19p6
def i19p10:Pt:=nav [0,0] i19p8
def i19p11:Pt:=nav [1,0] i19p10
def i19p12:Pt:=nav [2,0,0,0,0] i19p10
def i19p13:Pt:=nav [0,0,0] i19p12
def i19p14:Pt:=nav [0,0,0,0] i19p13
def i19p15:Pt:=nav [0,0] i19p14
def i19p16:Pt:=nav [1,0] i19p15
def i19p17:Pt:=nav [2,0,0,0] i19p15
def i19p18:Pt:=nav [0,0] i19p16
def i19p19:Pt:=nav [0,0,0] i19p17
def i19p20:Pt:=nav [0,0,0] i19p18
def i19p21:Pt:=nav [0,0] i19p19
def i19p24:Pt:=nav [2,0,0] i19p21
def i19p26:Pt:=nav [0,0,0] i19p24
def i19p27:Pt:=nav [0,0,0] i19p26
def i19p28:Pt:=nav [0,0,0] i19p27
def i19d0:DP:=⟨[46],[(0,0,0),(1,0,1),(0,0,0),(4,0,0),(12,0,0),(31,0,0),(3,0,0),(127,0,0),(255,0,0),(511,0,0)],10,thrown,[],H0⟩
def qCz (k:Nat) (F:Fns0)  (a0:(List Nat)) (a1:(List S33)) (a2:Int) (a3:Int) (x0_1:Bool) (ih:(List (List Nat)) → Int → (List S28) → S28 → Option (Option (S28 × Int))):(List (List Nat)) → Int → (List S28) → S28 → Option (Option (S28 × Int)) :=
 fun (y18_0:(List (List Nat))) (y18_1:Int) (y18_2:(List S28)) (y18_3:S28)=>(appS 104 y18_2 ([(⟨y18_3.f0,y18_3.f1,y18_3.f2,y18_3.f3,y18_3.f4,y18_0,y18_3.f6⟩:S28)]:List S28)).bind fun x6_4=>bT (i7 k ([124]:List Nat) a0 a1 y18_1 a3) fun x7_1=>if x7_1.1 then (bT (F.i5 (3:Int) a0 a1 x7_1.2 a3) fun x8_3=>(appS 104 x6_4 ([x8_3.1]:List S28)).bind fun x8_5=>(i12 k a0 a1 x8_3.2 a3).bind fun x9_1=>bT (i23 k ([93]:List Nat) a0 a1 x9_1.2 a3) fun x10_1=>some (some ((⟨(5:Int),([124]:List Nat),⟨(x8_5).length,(x8_5).flatMap e29⟩,x0_1,false,([]:List (List Nat)),x9_1.1⟩:S28),x10_1))) else ((i12 k a0 a1 x7_1.2 a3).bind fun x11_1=>bT (i7 k ([93]:List Nat) a0 a1 x11_1.2 a3) fun x12_1=>if x12_1.1 then (some (some ((⟨(5:Int),([]:List Nat),⟨(x6_4).length,(x6_4).flatMap e29⟩,x0_1,false,([]:List (List Nat)),x11_1.1⟩:S28),x12_1.2))) else (bT (i16 k (decide ((x11_1.1.length:Int) = 0))) fun x13_3=>bT (i23 k ([44]:List Nat) a0 a1 x12_1.2 a3) fun x14_1=>(i12 k a0 a1 x14_1 a3).bind fun x15_1=>bT (F.i5 (3:Int) a0 a1 x15_1.2 a3) fun x16_1=>ih x15_1.1 x16_1.2 x6_4 x16_1.1))
def qEb (k:Nat) (F:Fns0)  (a0:(List Nat)) (a1:(List S33)) (a2:Int) (a3:Int) (x0_1:Bool) (n:Nat):(List (List Nat)) → Int → (List S28) → S28 → Option (Option (S28 × Int)):=lp (fun _ _ _ _=>none) (qCz k F a0 a1 a2 a3 x0_1) n
theorem qLl (k:Nat) (F:Fns0) (hF:FnsOk0 F) (a0:(List Nat)) (a1:(List S33)) (a2:Int) (a3:Int)  (x0_1:Bool)  : ∀ (n:Nat) (y18_0:(List (List Nat))) (y18_1:Int) (y18_2:(List S28)) (y18_3:S28),Ok (Xi19 a0 a1 a2 a3) i19p12 [(0,.ptr 0 4 0),(2,.ptr 1 7 0),(3,.ptr 2 7 0),(4,w9 y18_0),(5,.ptr 4 7 0)] (mkH [⟨[.str a0,w34 a1,.i y18_1,.i a3],4,false⟩,⟨[.i 0,.str [],.nils,.bool false,.bool false,.nils,.nils],0,false⟩,⟨[.i 5,.str [],.own 3 (y18_2).length 7,.bool x0_1,.bool false,.nils,.nils],7,false⟩,⟨(y18_2).flatMap e29,0,false⟩,⟨[.i y18_3.f0,.str y18_3.f1,q29 y18_3.f2,.bool y18_3.f3,.bool y18_3.f4,w9 y18_3.f5,w9 y18_3.f6],7,false⟩]) (qEb k F a0 a1 a2 a3 x0_1 n y18_0 y18_1 y18_2 y18_3):=by
 intro n
 induction n with
 | zero=>intro y18_0 y18_1 y18_2 y18_3; exact ok_none
 | succ n ih =>
  intro y18_0 y18_1 y18_2 y18_3
  show Ok _ _ _ _ (qCz k F a0 a1 a2 a3 x0_1 (qEb k F a0 a1 a2 a3 x0_1 n) y18_0 y18_1 y18_2 y18_3)
  unfold qCz
  let Q1:Blk:=⟨[.str a0,w34 a1,.i y18_1,.i a3],4,false⟩
  let Q2:Blk:=⟨[.i 0,.str [],.nils,.bool false,.bool false,.nils,.nils],0,false⟩
  let Q3:Blk:=⟨[.i 5,.str [],.own 3 (y18_2).length 7,.bool x0_1,.bool false,.nils,.nils],7,false⟩
  let Q4:Blk:=⟨(y18_2).flatMap e29,0,false⟩
  let Q5:Blk:=⟨[.i y18_3.f0,.str y18_3.f1,q29 y18_3.f2,.bool y18_3.f3,.bool y18_3.f4,w9 y18_0,w9 y18_3.f6],7,false⟩
  let Q6:Blk:=⟨[.i y18_3.f0,.str y18_3.f1,q29 y18_3.f2,.bool y18_3.f3,.bool y18_3.f4,w9 y18_0,w9 y18_3.f6],0,false⟩
  refine oH 11 (atN 4 (ctl1 i19p13)) [(37,.slice 5 7 0 1 7),(36,.agg [.i y18_3.f0,.str y18_3.f1,q29 y18_3.f2,.bool y18_3.f3,.bool y18_3.f4,w9 y18_0,w9 y18_3.f6]),(35,.own 3 (y18_2).length 7),(34,.ptr 2 7 2),(33,.ptr 4 7 5),(32,w9 y18_0),(0,.ptr 0 4 0),(2,.ptr 1 7 0),(3,.ptr 2 7 0),(4,w9 y18_0),(5,.ptr 4 7 0)] (mkH [Q1,Q2,Q3,Q4,Q5,Q6]) ?_
  refine oC (fun (x6_4:(List S28))=>(.own 3 (x6_4).length 7,(mkH [Q1,Q2,Q3,⟨(x6_4).flatMap e29,0,false⟩,Q5,Q6]))) (atN 5 (ctl1 i19p13)) 38 (appH (sz:=7) qA6 rfl qAu [Q1,Q2,Q3,Q4,Q5,Q6] 3 104 y18_2 ([(⟨y18_3.f0,y18_3.f1,y18_3.f2,y18_3.f3,y18_3.f4,y18_0,y18_3.f6⟩:S28)]:List S28) rfl rfl (by kernel_rfl)) fun x6_4 hx6_4=>?_
  let Q7:Blk:=⟨[.i 5,.str [],.own 3 (x6_4).length 7,.bool x0_1,.bool false,.nils,.nils],7,false⟩
  let Q8:Blk:=⟨(x6_4).flatMap e29,0,false⟩
  refine oLH 5 i19p14 [(0,.ptr 0 4 0),(2,.ptr 1 7 0),(3,.ptr 2 7 0),(5,.ptr 4 7 0)] (mkH [Q1,Q2,Q7,Q8,Q5,Q6]) ?_
  let E8:Env:=[(0,.ptr 0 4 0),(2,.ptr 1 7 0),(3,.ptr 2 7 0),(5,.ptr 4 7 0)]
  refine oR 2 (atN 1 (ctl1 i19p14)) ((40,.ptr 0 4 0) :: E8) ?_
  refine oX (fun (x7_1:(Bool × Int)) => .bool x7_1.1) (fun x7_1=>[⟨[.str a0,w34 a1,.i x7_1.2,.i a3],4,false⟩,Q2,Q7,Q8,Q5,Q6]) (atN 2 (ctl1 i19p14)) 41 [0] [] [] [2] [0,0,0,1] [.ptr 0 4 0,.str [124]] (qAg k ([124]:List Nat) a0 a1 y18_1 a3) trivial (fun _=>trivial) ⟨u29 _,trivial⟩ fun x7_1 hx7_1=>?_
  refine oR 1 i19p15 ((41,.bool x7_1.1) :: (40,.ptr 0 4 0) :: E8) ?_
  refine oS 41 (fun hb=>?_) (fun hb=>?_)
  ·refine oR 2 i19p16 ((41,.bool true) :: (41,.bool x7_1.1) :: (40,.ptr 0 4 0) :: E8) ?_
   refine qC6 (fun h=>?_) (fun x8_3 hx8_3=>?_)
   ·let E9:Env:=[(44,.ptr 0 4 0),(43,.own 3 (x6_4).length 7),(42,.ptr 2 7 2),(41,.bool true),(41,.bool x7_1.1),(40,.ptr 0 4 0),(0,.ptr 0 4 0),(2,.ptr 1 7 0),(3,.ptr 2 7 0),(5,.ptr 4 7 0)]
    let E10:Env:=((49,.top) :: (48,.ptr 2 7 1) :: (47,.top) :: (46,.top) :: (45,.top) :: E9)
    let Q9:Blk:=⟨[.str a0,w34 a1,.i x7_1.2,.i a3],4,false⟩
    exact qAj (eE:=E10) (i19d0.th 3 thrown [0,2] (mkH [Q9,Q2,Q7,Q8,Q5,Q6])) (hs:=[(mkH [Q9,Q2,Q7,Q8,Q5,Q6]),(mkH [Q9,Q2,Q7,Q8,Q5,Q6]),(mkH [Q9,Q2,Q7,Q8,Q5,Q6]),(mkH [Q9,Q2,Q7,Q8,Q5,Q6])]) (LX:=[⟨[.str a0,w34 a1,.i a2,.i a3],4,false⟩]) (L:=[Q9,Q2,Q7,Q8,Q5,Q6]) rfl rfl rfl (by kernel_rfl) rfl ⟨.inl rfl,trivial⟩ (by kernel_rfl) (by kernel_rfl) (by kernel_rfl) (by kernel_rfl) (qA8 3 (l':=(opsAt i19p16).toList.drop 3) (eE:=E9) (H':=(mkH [Q9,Q2,Q7,Q8,Q5,Q6])) (hs:=[]) (by kernel_rfl) (qAi (l':=(opsAt i19p16).toList.drop 4) (eE:=((45,.top) :: E9)) (hs:=[(mkH [Q9,Q2,Q7,Q8,Q5,Q6])]) (fi:=29) (args:=[.ptr 0 4 0,.i 3]) (by kernel_rfl) (by kernel_rfl) (frS 0 (M:=[Q9,Q2,Q7,Q8,Q5,Q6]) (rs:=[0]) (ms:=[]) (mv:=[0,0,0,1]) (mm:=[0,0,0,1]) (D:=[0,2]) (xs':=[.ptr 0 4 0,.i 3]) (.refl) ((hF.i5_ok (3:Int) a0 a1 x7_1.2 a3).2 h) trivial ⟨u29 _,trivial⟩ (by kernel_rfl)) (by kernel_rfl) (qA1 (l':=(opsAt i19p16).toList.drop 5) (eE:=((46,.top) :: (45,.top) :: E9)) (hs:=[]) (by kernel_rfl) (by kernel_rfl) (qA1 (l':=(opsAt i19p16).toList.drop 6) (eE:=((47,.top) :: (46,.top) :: (45,.top) :: E9)) (hs:=[(mkH [Q9,Q2,Q7,Q8,Q5,Q6])]) (by kernel_rfl) (by kernel_rfl) (qA8 1 (l':=(opsAt i19p16).toList.drop 7) (eE:=((48,.ptr 2 7 1) :: (47,.top) :: (46,.top) :: (45,.top) :: E9)) (H':=(mkH [Q9,Q2,Q7,Q8,Q5,Q6])) (hs:=[]) (by kernel_rfl) (qA1 (l':=(opsAt i19p16).toList.drop 8) (eE:=((48,.ptr 2 7 1) :: (47,.top) :: (46,.top) :: (45,.top) :: E9)) (hs:=[(mkH [Q9,Q2,Q7,Q8,Q5,Q6])]) (by kernel_rfl) (by kernel_rfl) (qA1 (l':=(opsAt i19p16).toList.drop 9) (eE:=E10) (hs:=[]) (by kernel_rfl) (by kernel_rfl) (qA1 (l':=(opsAt i19p16).toList.drop 10) (eE:=E10) (hs:=[(mkH [Q9,Q2,Q7,Q8,Q5,Q6])]) (by kernel_rfl) (by kernel_rfl) (.nil))))))))) (by kernel_rfl) (by kernel_rfl)
   ·refine qA7 (fun x8_5 hx8_5=>?_)
    let E9:Env:=[(44,.ptr 0 4 0),(43,.own 3 (x6_4).length 7),(42,.ptr 2 7 2),(41,.bool true),(41,.bool x7_1.1),(40,.ptr 0 4 0),(0,.ptr 0 4 0),(2,.ptr 1 7 0),(3,.ptr 2 7 0),(5,.ptr 4 7 0)]
    let E11:Env:=((49,.ptr 2 7 2) :: (48,.ptr 2 7 1) :: (47,.own 3 (x8_5).length 7) :: (46,w29 ([x8_3.1]:List S28)) :: (45,n29 x8_3.1) :: E9)
    let Q10:Blk:=⟨[.str a0,w34 a1,.i x8_3.2,.i a3],4,false⟩
    let Q11:Blk:=⟨[.i 5,.str [124],.own 3 (x6_4).length 7,.bool x0_1,.bool false,.nils,.nils],7,false⟩
    refine oD (H':=(mkH [Q10,Q2,⟨[.i 5,.str [124],.own 3 (x8_5).length 7,.bool x0_1,.bool false,.nils,.nils],7,false⟩,⟨(x8_5).flatMap e29,0,false⟩,Q5,Q6])) (nav [0] i19p16) E11 [(mkH [Q10,Q2,Q7,Q8,Q5,Q6]),(mkH [Q10,Q2,Q7,⟨(x8_5).flatMap e29,0,false⟩,Q5,Q6]),(mkH [Q10,Q2,Q11,⟨(x8_5).flatMap e29,0,false⟩,Q5,Q6]),(mkH [Q10,Q2,⟨[.i 5,.str [124],.own 3 (x8_5).length 7,.bool x0_1,.bool false,.nils,.nils],7,false⟩,⟨(x8_5).flatMap e29,0,false⟩,Q5,Q6])] i19d0 (oDr 3 3 E9 (qA5 (l':=(opsAt i19p16).toList.drop 4) (eE:=((45,n29 x8_3.1) :: E9)) (hs:=[(mkH [Q10,Q2,Q7,Q8,Q5,Q6])]) (H':=(mkH [Q10,Q2,Q7,Q8,Q5,Q6])) (fi:=29) (args:=[.ptr 0 4 0,.i 3]) (v:=n29 x8_3.1) (by kernel_rfl) (frC (rs:=[0]) (ms:=[]) (ms':=[]) ((hF.i5_ok (3:Int) a0 a1 x7_1.2 a3).1 x8_3 hx8_3) trivial trivial (by kernel_rfl)) (by kernel_rfl) (oDr 1 5 ((46,w29 ([x8_3.1]:List S28)) :: (45,n29 x8_3.1) :: E9) (qA9 (l':=(opsAt i19p16).toList.drop 6) (eE:=((47,.own 3 (x8_5).length 7) :: (46,w29 ([x8_3.1]:List S28)) :: (45,n29 x8_3.1) :: E9)) (hs:=[(mkH [Q10,Q2,Q7,⟨(x8_5).flatMap e29,0,false⟩,Q5,Q6])]) (x:=x8_5) (fun (x8_5:(List S28))=>(.own 3 (x8_5).length 7,(mkH [Q10,Q2,Q7,⟨(x8_5).flatMap e29,0,false⟩,Q5,Q6]))) (appHV (sz:=7) qA6 rfl qAu [Q10,Q2,Q7,Q8,Q5,Q6] 3 104 x6_4 ([x8_3.1]:List S28) rfl rfl (by kernel_rfl)) hx8_5 (by kernel_rfl) (oDh 4 10 E11 (mkH [Q10,Q2,⟨[.i 5,.str [124],.own 3 (x8_5).length 7,.bool x0_1,.bool false,.nils,.nils],7,false⟩,⟨(x8_5).flatMap e29,0,false⟩,Q5,Q6]) [(mkH [Q10,Q2,Q11,⟨(x8_5).flatMap e29,0,false⟩,Q5,Q6]),(mkH [Q10,Q2,⟨[.i 5,.str [124],.own 3 (x8_5).length 7,.bool x0_1,.bool false,.nils,.nils],7,false⟩,⟨(x8_5).flatMap e29,0,false⟩,Q5,Q6])] .nil))))) ?_
    refine oR 3 (atN 1 (ctl1 i19p18)) ((50,.ptr 0 4 0) :: E11) ?_
    let Q12:Blk:=⟨(x8_5).flatMap e29,0,false⟩
    refine oN (fun (x9_1:Ri12)=>w9 x9_1.1) (fun x9_1=>[⟨[.str a0,w34 a1,.i x9_1.2,.i a3],4,false⟩,Q2,⟨[.i 5,.str [124],.own 3 (x8_5).length 7,.bool x0_1,.bool false,.nils,.nils],7,false⟩,Q12,Q5,Q6]) (atN 2 (ctl1 i19p18)) 51 [0] [] [] [.ptr 0 4 0] (qAh k a0 a1 x8_3.2 a3) trivial (fun _=>trivial) fun x9_1 hx9_1=>?_
    let Q13:Blk:=⟨[.i 5,.str [124],.own 3 (x8_5).length 7,.bool x0_1,.bool false,.nils,w9 x9_1.1],7,false⟩
    refine oLH 4 i19p20 [(0,.ptr 0 4 0),(2,.ptr 1 7 0),(3,.ptr 2 7 0)] (mkH [⟨[.str a0,w34 a1,.i x9_1.2,.i a3],4,false⟩,Q2,Q13,Q12,Q5,Q6]) ?_
    refine oR 2 (atN 1 (ctl1 i19p20)) ((53,.ptr 0 4 0) :: [(0,.ptr 0 4 0),(2,.ptr 1 7 0),(3,.ptr 2 7 0)]) ?_
    refine oX (fun (x10_1:Int) => .tuple []) (fun x10_1=>[⟨[.str a0,w34 a1,.i x10_1,.i a3],4,false⟩,Q2,Q13,Q12,Q5,Q6]) (atN 2 (ctl1 i19p20)) 54 [0] [] [] [0,2] [0,0,0,1] [.ptr 0 4 0,.str [93]] (qAt k ([93]:List Nat) a0 a1 x9_1.2 a3) trivial (fun _=>trivial) ⟨u29 _,trivial⟩ fun x10_1 hx10_1=>?_
    exact oQF 7 [⟨[.str a0,w34 a1,.i x10_1,.i a3],4,false⟩,Q13,Q13,Q12,Q5,Q6] 1 [] [.agg [.i 5,.str [124],.own 3 (x8_5).length 7,.bool x0_1,.bool false,.nils,w9 x9_1.1]] (.agg [.i 5,.str [124],w29 x8_5,.bool x0_1,.bool false,.vec 0 1 [],w9 x9_1.1]) (.agg (.cs (.cs (qAq qA6 qAe rfl rfl rfl (.cs (.cs (.nil .ps)))))) .ps) trivial
  ·refine oR 6 (atN 1 (ctl1 i19p17)) ((56,.ptr 0 4 0) :: (41,.bool false) :: (41,.bool x7_1.1) :: (40,.ptr 0 4 0) :: E8) ?_
   refine oN (fun (x11_1:Ri12)=>w9 x11_1.1) (fun x11_1=>[⟨[.str a0,w34 a1,.i x11_1.2,.i a3],4,false⟩,Q2,Q7,Q8,Q5,Q6]) (atN 2 (ctl1 i19p17)) 57 [0] [] [] [.ptr 0 4 0] (qAh k a0 a1 x7_1.2 a3) trivial (fun _=>trivial) fun x11_1 hx11_1=>?_
   let E13:Env:=((58,.ptr 0 4 0) :: (4,w9 x11_1.1) :: (57,w9 x11_1.1) :: (56,.ptr 0 4 0) :: (41,.bool false) :: (41,.bool x7_1.1) :: (40,.ptr 0 4 0) :: E8)
   refine oR 5 (atN 1 (ctl1 i19p19)) E13 ?_
   refine oX (fun (x12_1:(Bool × Int)) => .bool x12_1.1) (fun x12_1=>[⟨[.str a0,w34 a1,.i x12_1.2,.i a3],4,false⟩,Q2,Q7,Q8,Q5,Q6]) (atN 2 (ctl1 i19p19)) 59 [0] [] [] [2] [0,0,0,1] [.ptr 0 4 0,.str [93]] (qAg k ([93]:List Nat) a0 a1 x11_1.2 a3) trivial (fun _=>trivial) ⟨u29 _,trivial⟩ fun x12_1 hx12_1=>?_
   refine oR 1 i19p21 ((59,.bool x12_1.1) :: E13) ?_
   refine oS 59 (fun hb=>?_) (fun hb=>?_)
   ·let Q14:Blk:=⟨[.str a0,w34 a1,.i x12_1.2,.i a3],4,false⟩
    let Q15:Blk:=⟨[.i 5,.str [],.own 3 (x6_4).length 7,.bool x0_1,.bool false,.nils,w9 x11_1.1],7,false⟩
    refine oLH 8 (nav [0,0,0] (nav [1,0] i19p21)) [(2,.ptr 1 7 0),(3,.ptr 2 7 0)] (mkH [Q14,Q2,Q15,Q8,Q5,Q6]) ?_
    exact oQF 5 [Q14,Q15,Q15,Q8,Q5,Q6] 1 [] [.agg [.i 5,.str [],.own 3 (x6_4).length 7,.bool x0_1,.bool false,.nils,w9 x11_1.1]] (.agg [.i 5,.str [],w29 x6_4,.bool x0_1,.bool false,.vec 0 1 [],w9 x11_1.1]) (.agg (.cs (.cs (qAq qA6 qAe rfl rfl rfl (.cs (.cs (.nil .ps)))))) .ps) trivial
   ·let E15:Env:=((65,.bool (decide ((x11_1.1.length:Int) = 0))) :: (64,.i (x11_1.1.length:Int)) :: (63,w9 x11_1.1) :: (59,.bool false) :: (59,.bool x12_1.1) :: E13)
    refine oR 7 (atN 3 (ctl1 i19p24)) E15 ?_
    refine oX (fun (x13_3:Unit) => .tuple []) (fun x13_3=>[⟨[.str a0,w34 a1,.i x12_1.2,.i a3],4,false⟩,Q2,Q7,Q8,Q5,Q6]) (atN 4 (ctl1 i19p24)) 66 [] [] [] [2] [0,0,0,1] [.bool (decide ((x11_1.1.length:Int) = 0))] (qCm k (decide ((x11_1.1.length:Int) = 0))) trivial (fun _=>trivial) ⟨u29 _,trivial⟩ fun x13_3 hx13_3=>?_
    refine oR 2 i19p26 ((66,.tuple []) :: E15) ?_
    refine oK0 [0,2,3,5] ?_
    let E16:Env:=keepOnly ((66,.tuple []) :: E15) [0,2,3,5]
    refine oR 2 (atN 1 (ctl1 i19p26)) ((67,.ptr 0 4 0) :: E16) ?_
    refine oX (fun (x14_1:Int) => .tuple []) (fun x14_1=>[⟨[.str a0,w34 a1,.i x14_1,.i a3],4,false⟩,Q2,Q7,Q8,Q5,Q6]) (atN 2 (ctl1 i19p26)) 68 [0] [] [] [0,2] [0,0,0,1] [.ptr 0 4 0,.str [44]] (qAt k ([44]:List Nat) a0 a1 x12_1.2 a3) trivial (fun _=>trivial) ⟨u29 _,trivial⟩ fun x14_1 hx14_1=>?_
    refine oR 4 (atN 1 (ctl1 i19p27)) ((69,.ptr 0 4 0) :: (68,.tuple []) :: (67,.ptr 0 4 0) :: E16) ?_
    refine oN (fun (x15_1:Ri12)=>w9 x15_1.1) (fun x15_1=>[⟨[.str a0,w34 a1,.i x15_1.2,.i a3],4,false⟩,Q2,Q7,Q8,Q5,Q6]) (atN 2 (ctl1 i19p27)) 70 [0] [] [] [.ptr 0 4 0] (qAh k a0 a1 x14_1 a3) trivial (fun _=>trivial) fun x15_1 hx15_1=>?_
    refine oR 5 (atN 1 (ctl1 i19p28)) ((71,.ptr 0 4 0) :: (4,w9 x15_1.1) :: (70,w9 x15_1.1) :: (69,.ptr 0 4 0) :: (68,.tuple []) :: (67,.ptr 0 4 0) :: E16) ?_
    refine oX (fun (x16_1:(S28 × Int))=>n29 x16_1.1) (fun x16_1=>[⟨[.str a0,w34 a1,.i x16_1.2,.i a3],4,false⟩,Q2,Q7,Q8,Q5,Q6]) (atN 2 (ctl1 i19p28)) 72 [0] [] [] [0,2] [0,0,0,1] [.ptr 0 4 0,.i 3] (hF.i5_ok (3:Int) a0 a1 x15_1.2 a3) trivial (fun _=>trivial) ⟨u29 _,trivial⟩ fun x16_1 hx16_1=>?_
    let Q16:Blk:=⟨[.str a0,w34 a1,.i x16_1.2,.i a3],4,false⟩
    refine oLH 6 i19p12 [(0,.ptr 0 4 0),(2,.ptr 1 7 0),(3,.ptr 2 7 0),(4,w9 x15_1.1),(5,.ptr 4 7 0)] (mkH [Q16,Q2,Q7,Q8,⟨e29 x16_1.1,7,false⟩,Q6]) ?_
    refine qAa [Q16,Q2,Q7,Q8,⟨e29 x16_1.1,7,false⟩] [Q6] (by kernel_rfl) rfl (by kernel_rfl) ⟨(by kernel_rfl),⟨(by kernel_rfl),⟨(by kernel_rfl),⟨(qA3 _ (u29 _)),⟨(by kernel_rfl),trivial⟩⟩⟩⟩⟩ ?_
    exact ih x15_1.1 x16_1.2 x6_4 x16_1.1
def i19B (k:Nat) (F:Fns0) (a0:(List Nat)) (a1:(List S33)) (a2:Int) (a3:Int):Option (Option (S28 × Int)) :=
 (i28 k a0 a1 a2 a3).bind fun x0_1=>(i12 k a0 a1 a2 a3).bind fun x1_1=>bT (i7 k ([93]:List Nat) a0 a1 x1_1.2 a3) fun x2_1=>if x2_1.1 then (some (some ((⟨(5:Int),([]:List Nat),⟨(([]:List S28)).length,(([]:List S28)).flatMap e29⟩,x0_1,false,([]:List (List Nat)),x1_1.1⟩:S28),x2_1.2))) else (bT (F.i5 (3:Int) a0 a1 x2_1.2 a3) fun x3_1=>jn (fun (z17:Bool × Int)=>if z17.1 then (bT (F.i30 (15:Int) ([]:List Nat) x0_1 false ([]:List (List Nat)) ([]:List (List Nat)) a0 a1 z17.2 a3 ([x3_1.1]:List S28)) fun x5_6=>some (some ((⟨x5_6.1,x5_6.2.1,⟨(x5_6.2.2.2.2.2.2.2).length,(x5_6.2.2.2.2.2.2.2).flatMap e29⟩,x5_6.2.2.1,x5_6.2.2.2.1,x5_6.2.2.2.2.1,x5_6.2.2.2.2.2.1⟩:S28),x5_6.2.2.2.2.2.2.1))) else (qEb k F a0 a1 a2 a3 x0_1 k x1_1.1 z17.2 ([]:List S28) x3_1.1)) (fun j17=>if (decide ((x1_1.1.length:Int) = 0)) then (bT (i7 k ([124,124]:List Nat) a0 a1 x3_1.2 a3) fun x4_5=>j17 (x4_5.1,x4_5.2)) else (j17 (false,x3_1.2))))
theorem qKo (k:Nat) (F:Fns0) (hF:FnsOk0 F):∀ a0 a1 a2 a3 r,i19B k F a0 a1 a2 a3 = some r → CallT Try.prog 79 [.ptr 0 4 0] (mkH [⟨[.str a0,w34 a1,.i a2,.i a3],4,false⟩]) ((Xi19 a0 a1 a2 a3).thr r) ((Xi19 a0 a1 a2 a3).enc r) ((Xi19 a0 a1 a2 a3).fin r):=by
 intro a0 a1 a2 a3 r h
 refine qA2 (Xi19 a0 a1 a2 a3) Try.func79 (by kernel_rfl) (by kernel_rfl) rfl (t:=i19B k F a0 a1 a2 a3) ?_ h
 unfold i19B
 refine qA (eE:=[(0,.ptr 0 4 0)]) (by kernel_rfl) ?_
 let Q1:Blk:=⟨[.str a0,w34 a1,.i a2,.i a3],4,false⟩
 let Q2:Blk:=⟨[.i 0,.str [],.nils,.bool false,.bool false,.nils,.nils],0,false⟩
 refine oH 8 (atN 1 (ctl1 i19p1)) [(6,.ptr 0 4 0),(2,.ptr 1 7 0),(0,.ptr 0 4 0)] (mkH [Q1,Q2]) ?_
 refine oN (fun (x0_1:Bool) => .bool x0_1) (fun x0_1=>[Q1,Q2]) (atN 2 (ctl1 i19p1)) 7 [0] [] [] [.ptr 0 4 0] (qH7 k a0 a1 a2 a3) trivial (fun _=>trivial) fun x0_1 hx0_1=>?_
 let E1:Env:=[(3,.ptr 2 7 0),(8,.agg [.i 5,.str [],.nils,.bool x0_1,.bool false,.nils,.nils]),(7,.bool x0_1),(6,.ptr 0 4 0),(2,.ptr 1 7 0),(0,.ptr 0 4 0)]
 let Q3:Blk:=⟨[.i 5,.str [],.nils,.bool x0_1,.bool false,.nils,.nils],7,false⟩
 refine oH 5 i19p2 E1 (mkH [Q1,Q2,Q3]) ?_
 refine qG0 [Q1,Q2,Q3] (by kernel_rfl) ?_
 let Q4:Blk:=⟨(([]:List S28)).flatMap e29,0,false⟩
 refine oHp (mkH [Q1,Q2,Q3,Q4]) ?_
 refine qCw [Q1,Q2,Q3,Q4] 2 7 [.i 5,.str [],.nils,.bool x0_1,.bool false,.nils,.nils] [.i 5,.str [],.own 3 (([]:List S28)).length 7,.bool x0_1,.bool false,.nils,.nils] (by kernel_rfl) rfl (.cons (.cons (.none (.refl)))) ?_
 let Q5:Blk:=⟨[.i 5,.str [],.own 3 (([]:List S28)).length 7,.bool x0_1,.bool false,.nils,.nils],7,false⟩
 refine oH 2 (atN 1 (ctl1 i19p2)) ((9,.ptr 0 4 0) :: E1) (mkH [Q1,Q2,Q5,Q4]) ?_
 refine oN (fun (x1_1:Ri12)=>w9 x1_1.1) (fun x1_1=>[⟨[.str a0,w34 a1,.i x1_1.2,.i a3],4,false⟩,Q2,Q5,Q4]) (atN 2 (ctl1 i19p2)) 10 [0] [] [] [.ptr 0 4 0] (qAh k a0 a1 a2 a3) trivial (fun _=>trivial) fun x1_1 hx1_1=>?_
 refine oR 6 (atN 1 (ctl1 i19p3)) ((11,.ptr 0 4 0) :: (4,w9 x1_1.1) :: (10,w9 x1_1.1) :: (9,.ptr 0 4 0) :: E1) ?_
 refine oX (fun (x2_1:(Bool × Int)) => .bool x2_1.1) (fun x2_1=>[⟨[.str a0,w34 a1,.i x2_1.2,.i a3],4,false⟩,Q2,Q5,Q4]) (atN 2 (ctl1 i19p3)) 12 [0] [] [] [2] [0,0,0,1] [.ptr 0 4 0,.str [93]] (qAg k ([93]:List Nat) a0 a1 x1_1.2 a3) trivial (fun _=>trivial) ⟨u29 _,trivial⟩ fun x2_1 hx2_1=>?_
 let E2:Env:=((12,.bool x2_1.1) :: (11,.ptr 0 4 0) :: (4,w9 x1_1.1) :: (10,w9 x1_1.1) :: (9,.ptr 0 4 0) :: E1)
 refine oR 1 i19p4 E2 ?_
 refine oS 12 (fun hb=>?_) (fun hb=>?_)
 ·let Q6:Blk:=⟨[.str a0,w34 a1,.i x2_1.2,.i a3],4,false⟩
  let Q7:Blk:=⟨[.i 5,.str [],.own 3 (([]:List S28)).length 7,.bool x0_1,.bool false,.nils,w9 x1_1.1],7,false⟩
  refine oLH 8 (nav [0,0,0] (nav [1,0] i19p4)) [(2,.ptr 1 7 0),(3,.ptr 2 7 0)] (mkH [Q6,Q2,Q7,Q4]) ?_
  exact oQF 5 [Q6,Q7,Q7,Q4] 1 [] [.agg [.i 5,.str [],.own 3 (([]:List S28)).length 7,.bool x0_1,.bool false,.nils,w9 x1_1.1]] (.agg [.i 5,.str [],w29 ([]:List S28),.bool x0_1,.bool false,.vec 0 1 [],w9 x1_1.1]) (.agg (.cs (.cs (qAq qA6 qAe rfl rfl rfl (.cs (.cs (.nil .ps)))))) .ps) trivial
 ·refine oR 5 (atN 1 (ctl1 i19p6)) ((16,.ptr 0 4 0) :: (12,.bool false) :: E2) ?_
  refine oX (fun (x3_1:(S28 × Int))=>n29 x3_1.1) (fun x3_1=>[⟨[.str a0,w34 a1,.i x3_1.2,.i a3],4,false⟩,Q2,Q5,Q4]) (atN 2 (ctl1 i19p6)) 17 [0] [] [] [0,2] [0,0,0,1] [.ptr 0 4 0,.i 3] (hF.i5_ok (3:Int) a0 a1 x2_1.2 a3) trivial (fun _=>trivial) ⟨u29 _,trivial⟩ fun x3_1 hx3_1=>?_
  let Q8:Blk:=⟨[.str a0,w34 a1,.i x3_1.2,.i a3],4,false⟩
  refine oLH 5 i19p8 [(0,.ptr 0 4 0),(2,.ptr 1 7 0),(3,.ptr 2 7 0),(4,w9 x1_1.1),(5,.ptr 4 7 0)] (mkH [Q8,Q2,Q5,Q4,⟨e29 x3_1.1,7,false⟩]) ?_
  let E4:Env:=[(0,.ptr 0 4 0),(2,.ptr 1 7 0),(3,.ptr 2 7 0),(4,w9 x1_1.1),(5,.ptr 4 7 0)]
  refine oR 5 (atN 4 (ctl1 i19p8)) ((21,.bool (decide ((x1_1.1.length:Int) = 0))) :: (20,.bool (decide ((x1_1.1.length:Int) = 0))) :: (19,.i (x1_1.1.length:Int)) :: (18,w9 x1_1.1) :: E4) ?_
  refine oJ i19p10 (fun (z17:Bool × Int)=>[(0,.ptr 0 4 0),(2,.ptr 1 7 0),(3,.ptr 2 7 0),(4,w9 x1_1.1),(5,.ptr 4 7 0),(24,.bool z17.1)]) (fun (z17:Bool × Int)=>(mkH [⟨[.str a0,w34 a1,.i z17.2,.i a3],4,false⟩,Q2,Q5,Q4,⟨e29 x3_1.1,7,false⟩])) (fun z17=>?_) (fun j17 hj17=>?_)
  ·refine oS 24 (fun hb=>?_) (fun hb=>?_)
   ·let E5:Env:=[(29,.slice 5 7 0 1 7),(28,n29 x3_1.1),(27,.bool x0_1),(26,.ptr 2 7 3),(25,.ptr 0 4 0),(24,.bool true),(0,.ptr 0 4 0),(2,.ptr 1 7 0),(3,.ptr 2 7 0),(4,w9 x1_1.1),(5,.ptr 4 7 0),(24,.bool z17.1)]
    let Q9:Blk:=⟨[.str a0,w34 a1,.i z17.2,.i a3],4,false⟩
    refine oH 8 (atN 5 (ctl1 i19p11)) E5 (mkH [Q9,Q2,Q5,Q4,⟨e29 x3_1.1,7,false⟩,⟨e29 x3_1.1,0,false⟩]) ?_
    refine qCp 29 5 7 1 7 (by kernel_rfl) rfl ?_
    let Q10:Blk:=⟨(([x3_1.1]:List S28)).flatMap e29,0,false⟩
    refine oH 1 (atN 6 (ctl1 i19p11)) ((30,.agg [.i 15,.str [],.own 5 (([x3_1.1]:List S28)).length 7,.bool x0_1,.bool false,.nils,.nils]) :: (29,.own 5 (([x3_1.1]:List S28)).length 7) :: E5) (mkH [Q9,Q2,Q5,Q4,⟨e29 x3_1.1,7,false⟩,Q10]) ?_
    refine oXW 0 [Q9,Q2,Q5,Q4,⟨e29 x3_1.1,7,false⟩,Q10] (fun (x5_6:Ri30) => .agg [.i x5_6.1,.str x5_6.2.1,.own 5 (x5_6.2.2.2.2.2.2.2).length 7,.bool x5_6.2.2.1,.bool x5_6.2.2.2.1,w9 x5_6.2.2.2.2.1,w9 x5_6.2.2.2.2.2.1]) (fun x5_6=>[⟨[.str a0,w34 a1,.i x5_6.2.2.2.2.2.2.1,.i a3],4,false⟩,Q2,Q5,Q4,⟨e29 x3_1.1,7,false⟩,⟨(x5_6.2.2.2.2.2.2.2).flatMap e29,0,false⟩]) (atN 7 (ctl1 i19p11)) 31 [0,5] [0,1] [0,1] [0,2,5] [0,0,0,1] [0,0,0,1,0,1] [.ptr 0 4 0,.agg [.i 15,.str [],.own 5 (([x3_1.1]:List S28)).length 7,.bool x0_1,.bool false,.nils,.nils]] [.ptr 0 4 0,.agg [.i 15,.str [],.own 5 (([x3_1.1]:List S28)).length 7,.bool x0_1,.bool false,w9 ([]:List (List Nat)),w9 ([]:List (List Nat))]] (.cons (.agg (.cons (.cons (.cons (.cons (.cons (.nil (.nil (.refl)))))))) (.refl))) (hF.i30_ok (15:Int) ([]:List Nat) x0_1 false ([]:List (List Nat)) ([]:List (List Nat)) a0 a1 z17.2 a3 ([x3_1.1]:List S28)) ⟨u29 _,trivial⟩ (fun _=>⟨u29 _,trivial⟩) ⟨u29 _,trivial⟩ fun x5_6 hx5_6=>?_
    exact oQF 3 [⟨[.str a0,w34 a1,.i x5_6.2.2.2.2.2.2.1,.i a3],4,false⟩,⟨[.i x5_6.1,.str x5_6.2.1,.own 5 (x5_6.2.2.2.2.2.2.2).length 7,.bool x5_6.2.2.1,.bool x5_6.2.2.2.1,w9 x5_6.2.2.2.2.1,w9 x5_6.2.2.2.2.2.1],7,false⟩,Q5,Q4,⟨e29 x3_1.1,7,false⟩,⟨(x5_6.2.2.2.2.2.2.2).flatMap e29,0,false⟩] 1 [] [.agg [.i x5_6.1,.str x5_6.2.1,.own 5 (x5_6.2.2.2.2.2.2.2).length 7,.bool x5_6.2.2.1,.bool x5_6.2.2.2.1,w9 x5_6.2.2.2.2.1,w9 x5_6.2.2.2.2.2.1]] (.agg [.i x5_6.1,.str x5_6.2.1,w29 x5_6.2.2.2.2.2.2.2,.bool x5_6.2.2.1,.bool x5_6.2.2.2.1,w9 x5_6.2.2.2.2.1,w9 x5_6.2.2.2.2.2.1]) (.agg (.cs (.cs (qAq qA6 qAe rfl rfl rfl .ps))) .ps) trivial
   ·refine oLH 5 i19p12 [(0,.ptr 0 4 0),(2,.ptr 1 7 0),(3,.ptr 2 7 0),(4,w9 x1_1.1),(5,.ptr 4 7 0)] (mkH [⟨[.str a0,w34 a1,.i z17.2,.i a3],4,false⟩,Q2,Q5,Q4,⟨e29 x3_1.1,7,false⟩]) ?_
    exact (qLl k F hF a0 a1 a2 a3 x0_1 k) x1_1.1 z17.2 ([]:List S28) x3_1.1
  ·refine oS 21 (fun hb=>?_) (fun hb=>?_)
   ·let E20:Env:=((22,.ptr 0 4 0) :: (21,.bool true) :: (21,.bool (decide ((x1_1.1.length:Int) = 0))) :: (20,.bool (decide ((x1_1.1.length:Int) = 0))) :: (19,.i (x1_1.1.length:Int)) :: (18,w9 x1_1.1) :: E4)
    refine oH 1 (atN 5 (ctl1 i19p8)) E20 (mkH [Q8,Q2,Q5,Q4,⟨e29 x3_1.1,7,false⟩]) ?_
    refine oX (fun (x4_5:(Bool × Int)) => .bool x4_5.1) (fun x4_5=>[⟨[.str a0,w34 a1,.i x4_5.2,.i a3],4,false⟩,Q2,Q5,Q4,⟨e29 x3_1.1,7,false⟩]) (atN 6 (ctl1 i19p8)) 23 [0] [] [] [2] [0,0,0,1] [.ptr 0 4 0,.str [124,124]] (qAg k ([124,124]:List Nat) a0 a1 x3_1.2 a3) trivial (fun _=>trivial) ⟨u29 _,trivial⟩ fun x4_5 hx4_5=>?_
    refine oR 2 i19p10 ((24,.bool x4_5.1) :: (23,.bool x4_5.1) :: E20) ?_
    refine oK [0,2,3,4,5,24] [(0,.ptr 0 4 0),(2,.ptr 1 7 0),(3,.ptr 2 7 0),(4,w9 x1_1.1),(5,.ptr 4 7 0),(24,.bool x4_5.1)] ?_
    exact hj17 (x4_5.1,x4_5.2)
   ·refine oLH 4 i19p10 [(0,.ptr 0 4 0),(2,.ptr 1 7 0),(3,.ptr 2 7 0),(4,w9 x1_1.1),(5,.ptr 4 7 0),(24,.bool false)] (mkH [Q8,Q2,Q5,Q4,⟨e29 x3_1.1,7,false⟩]) ?_
    exact hj17 (false,x3_1.2)
theorem i19B_ok (k:Nat) (F:Fns0) (hF:FnsOk0 F):Pi19 (i19B k F):=fun a0 a1 a2 a3=>⟨fun x h=>qKo k F hF a0 a1 a2 a3 (some x) h,fun h=>⟨_,qKo k F hF a0 a1 a2 a3 none h⟩⟩
def i20p1:Pt:=nav [0,0,0,0] (nav [0] (bodyAt Try.f77))
def i20p2:Pt:=nav [0,0,0] i20p1
def i20p3:Pt:=nav [0,0,0,0] i20p2
def i20p4:Pt:=nav [0,0] i20p3
def i20p6:Pt:=nav [2,0,0,0,0] i20p4
def i20p10:Pt:=nav [0,0,0] (nav [0,0,0] i20p6)
def i20p11:Pt:=nav [0,0,0,0] i20p10
def i20p12:Pt:=nav [0,0,0] i20p11
def i20p13:Pt:=nav [0,0] i20p12
def i20p15:Pt:=nav [2,0,0] i20p13
def i20p17:Pt:=nav [0,0,0] i20p15
def i20p18:Pt:=nav [0,0,0] i20p17
def qG6 (k:Nat) (F:Fns0)  (a0:Int) (a1:(List Nat)) (a3:Bool) (a4:(List (List Nat))) (a5:(List (List Nat))) (a6:(List Nat)) (a7:(List Nat)) (a8:(List S33)) (a10:Int) (x0_1:Bool) (ih:(List (List Nat)) → Int → (List S28) → Option (Option Ri20)):(List (List Nat)) → Int → (List S28) → Option (Option Ri20) :=
 fun (y10_0:(List (List Nat))) (y10_1:Int) (y10_2:(List S28))=>bT (F.i31 a7 a8 y10_1 a10) fun x3_1=>(appS 104 y10_2 ([(⟨x3_1.1.f0,x3_1.1.f1,x3_1.1.f2,x3_1.1.f3,x3_1.1.f4,y10_0,x3_1.1.f6⟩:S28)]:List S28)).bind fun x4_4=>(i12 k a7 a8 x3_1.2 a10).bind fun x5_1=>bT (i7 k a6 a7 a8 x5_1.2 a10) fun x6_2=>if x6_2.1 then (some (some (a0,a1,x0_1,a3,a4,x5_1.1,x6_2.2,x4_4))) else (bT (i16 k (decide ((x5_1.1.length:Int) = 0))) fun x7_3=>bT (i23 k ([44]:List Nat) a7 a8 x6_2.2 a10) fun x8_1=>(i12 k a7 a8 x8_1 a10).bind fun x9_1=>ih x9_1.1 x9_1.2 x4_4)
def qI6 (k:Nat) (F:Fns0)  (a0:Int) (a1:(List Nat)) (a3:Bool) (a4:(List (List Nat))) (a5:(List (List Nat))) (a6:(List Nat)) (a7:(List Nat)) (a8:(List S33)) (a10:Int) (x0_1:Bool) (n:Nat):(List (List Nat)) → Int → (List S28) → Option (Option Ri20):=lp (fun _ _ _=>none) (qG6 k F a0 a1 a3 a4 a5 a6 a7 a8 a10 x0_1) n
theorem qLk (k:Nat) (F:Fns0) (hF:FnsOk0 F) (a0:Int) (a1:(List Nat)) (a2:Bool) (a3:Bool) (a4:(List (List Nat))) (a5:(List (List Nat))) (a6:(List Nat)) (a7:(List Nat)) (a8:(List S33)) (a9:Int) (a10:Int) (b1:(List S28))  (x0_1:Bool)  : ∀ (n:Nat) (y10_0:(List (List Nat))) (y10_1:Int) (y10_2:(List S28)),Ok (Xi20 a0 a1 a2 a3 a4 a5 a6 a7 a8 a9 a10 b1) i20p6 [(0,.ptr 0 4 0),(2,.str a6),(3,.func 80 [.ptr 0 4 0] []),(5,.ptr 2 7 0),(8,.ptr 3 7 0),(9,w9 y10_0)] (mkH [⟨[.str a7,w34 a8,.i y10_1,.i a10],4,false⟩,⟨(y10_2).flatMap e29,0,false⟩,⟨[.i a0,.str a1,.own 1 (y10_2).length 7,.bool x0_1,.bool a3,w9 a4,w9 a5],7,false⟩,⟨[.i 0,.str [],.nils,.bool false,.bool false,.nils,.nils],0,false⟩]) (qI6 k F a0 a1 a3 a4 a5 a6 a7 a8 a10 x0_1 n y10_0 y10_1 y10_2):=by
 intro n
 induction n with
 | zero=>intro y10_0 y10_1 y10_2; exact ok_none
 | succ n ih =>
  intro y10_0 y10_1 y10_2
  show Ok _ _ _ _ (qG6 k F a0 a1 a3 a4 a5 a6 a7 a8 a10 x0_1 (qI6 k F a0 a1 a3 a4 a5 a6 a7 a8 a10 x0_1 n) y10_0 y10_1 y10_2)
  unfold qG6
  let E5:Env:=[(22,.func 80 [.ptr 0 4 0] []),(0,.ptr 0 4 0),(2,.str a6),(3,.func 80 [.ptr 0 4 0] []),(5,.ptr 2 7 0),(8,.ptr 3 7 0),(9,w9 y10_0)]
  let Q1:Blk:=⟨(y10_2).flatMap e29,0,false⟩
  let Q2:Blk:=⟨[.i a0,.str a1,.own 1 (y10_2).length 7,.bool x0_1,.bool a3,w9 a4,w9 a5],7,false⟩
  let Q3:Blk:=⟨[.i 0,.str [],.nils,.bool false,.bool false,.nils,.nils],0,false⟩
  refine oH 2 (atN 1 (ctl1 i20p6)) E5 (mkH [⟨[.str a7,w34 a8,.i y10_1,.i a10],4,false⟩,Q1,Q2,Q3]) ?_
  refine oX (fun (x3_1:(S28 × Int))=>n29 x3_1.1) (fun x3_1=>[⟨[.str a7,w34 a8,.i x3_1.2,.i a10],4,false⟩,Q1,Q2,Q3]) (atN 2 (ctl1 i20p6)) 23 [0] [] [] [0,2] [0,1] [.ptr 0 4 0] (hF.i31_ok a7 a8 y10_1 a10) trivial (fun _=>trivial) ⟨u29 _,trivial⟩ fun x3_1 hx3_1=>?_
  let Q4:Blk:=⟨[.str a7,w34 a8,.i x3_1.2,.i a10],4,false⟩
  let Q5:Blk:=⟨[.i x3_1.1.f0,.str x3_1.1.f1,q29 x3_1.1.f2,.bool x3_1.1.f3,.bool x3_1.1.f4,w9 y10_0,w9 x3_1.1.f6],7,false⟩
  let Q6:Blk:=⟨[.i x3_1.1.f0,.str x3_1.1.f1,q29 x3_1.1.f2,.bool x3_1.1.f3,.bool x3_1.1.f4,w9 y10_0,w9 x3_1.1.f6],0,false⟩
  refine oH 15 (atN 4 (ctl1 i20p10)) ((29,.slice 5 7 0 1 7) :: (28,.agg [.i x3_1.1.f0,.str x3_1.1.f1,q29 x3_1.1.f2,.bool x3_1.1.f3,.bool x3_1.1.f4,w9 y10_0,w9 x3_1.1.f6]) :: (27,.own 1 (y10_2).length 7) :: (26,.ptr 2 7 2) :: (25,.ptr 4 7 5) :: (24,w9 y10_0) :: (10,.ptr 4 7 0) :: (23,n29 x3_1.1) :: E5) (mkH [Q4,Q1,Q2,Q3,Q5,Q6]) ?_
  refine oC (fun (x4_4:(List S28))=>(.own 1 (x4_4).length 7,(mkH [Q4,⟨(x4_4).flatMap e29,0,false⟩,Q2,Q3,Q5,Q6]))) (atN 5 (ctl1 i20p10)) 30 (appH (sz:=7) qA6 rfl qAu [Q4,Q1,Q2,Q3,Q5,Q6] 1 104 y10_2 ([(⟨x3_1.1.f0,x3_1.1.f1,x3_1.1.f2,x3_1.1.f3,x3_1.1.f4,y10_0,x3_1.1.f6⟩:S28)]:List S28) rfl rfl (by kernel_rfl)) fun x4_4 hx4_4=>?_
  let E7:Env:=[(0,.ptr 0 4 0),(2,.str a6),(3,.func 80 [.ptr 0 4 0] []),(5,.ptr 2 7 0),(8,.ptr 3 7 0)]
  let Q7:Blk:=⟨(x4_4).flatMap e29,0,false⟩
  let Q8:Blk:=⟨[.i a0,.str a1,.own 1 (x4_4).length 7,.bool x0_1,.bool a3,w9 a4,w9 a5],7,false⟩
  refine oLH 5 i20p11 E7 (mkH [Q4,Q7,Q8,Q3,Q5,Q6]) ?_
  refine oR 2 (atN 1 (ctl1 i20p11)) ((32,.ptr 0 4 0) :: E7) ?_
  refine oN (fun (x5_1:Ri12)=>w9 x5_1.1) (fun x5_1=>[⟨[.str a7,w34 a8,.i x5_1.2,.i a10],4,false⟩,Q7,Q8,Q3,Q5,Q6]) (atN 2 (ctl1 i20p11)) 33 [0] [] [] [.ptr 0 4 0] (qAh k a7 a8 x3_1.2 a10) trivial (fun _=>trivial) fun x5_1 hx5_1=>?_
  let E8:Env:=((35,.str a6) :: (34,.ptr 0 4 0) :: (9,w9 x5_1.1) :: (33,w9 x5_1.1) :: (32,.ptr 0 4 0) :: E7)
  refine oR 6 (atN 2 (ctl1 i20p12)) E8 ?_
  refine oX (fun (x6_2:(Bool × Int)) => .bool x6_2.1) (fun x6_2=>[⟨[.str a7,w34 a8,.i x6_2.2,.i a10],4,false⟩,Q7,Q8,Q3,Q5,Q6]) (atN 3 (ctl1 i20p12)) 36 [0] [] [] [2] [0,1] [.ptr 0 4 0,.str a6] (qAg k a6 a7 a8 x5_1.2 a10) trivial (fun _=>trivial) ⟨u29 _,trivial⟩ fun x6_2 hx6_2=>?_
  refine oR 1 i20p13 ((36,.bool x6_2.1) :: E8) ?_
  refine oS 36 (fun hb=>?_) (fun hb=>?_)
  ·let Q9:Blk:=⟨[.str a7,w34 a8,.i x6_2.2,.i a10],4,false⟩
   let Q10:Blk:=⟨[.i a0,.str a1,.own 1 (x4_4).length 7,.bool x0_1,.bool a3,w9 a4,w9 x5_1.1],7,false⟩
   refine oLH 8 (nav [0,0,0] (nav [1,0] i20p13)) [(5,.ptr 2 7 0),(8,.ptr 3 7 0)] (mkH [Q9,Q7,Q10,Q3,Q5,Q6]) ?_
   refine oH 5 .fin ((39,.agg [.i a0,.str a1,.own 1 (x4_4).length 7,.bool x0_1,.bool a3,w9 a4,w9 x5_1.1]) :: [(5,.ptr 2 7 0),(8,.ptr 3 7 0)]) (mkH [Q9,Q7,Q10,Q10,Q5,Q6]) ?_
   exact qBq (r:=some (a0,a1,x0_1,a3,a4,x5_1.1,x6_2.2,x4_4)) (xs:=[.agg [.i a0,.str a1,.own 1 (x4_4).length 7,.bool x0_1,.bool a3,w9 a4,w9 x5_1.1]]) [Q9,Q7] [Q10,Q10,Q5,Q6] (by kernel_rfl) (by kernel_rfl) (by kernel_rfl) (by kernel_rfl) (by kernel_rfl) ⟨(by kernel_rfl),⟨(qA3 _ (u29 _)),trivial⟩⟩ (by kernel_rfl) (by kernel_rfl)
  ·let E10:Env:=((42,.bool (decide ((x5_1.1.length:Int) = 0))) :: (41,.i (x5_1.1.length:Int)) :: (40,w9 x5_1.1) :: (36,.bool false) :: (36,.bool x6_2.1) :: E8)
   refine oR 7 (atN 3 (ctl1 i20p15)) E10 ?_
   refine oX (fun (x7_3:Unit) => .tuple []) (fun x7_3=>[⟨[.str a7,w34 a8,.i x6_2.2,.i a10],4,false⟩,Q7,Q8,Q3,Q5,Q6]) (atN 4 (ctl1 i20p15)) 43 [] [] [] [2] [0,1] [.bool (decide ((x5_1.1.length:Int) = 0))] (qCm k (decide ((x5_1.1.length:Int) = 0))) trivial (fun _=>trivial) ⟨u29 _,trivial⟩ fun x7_3 hx7_3=>?_
   refine oR 2 i20p17 ((43,.tuple []) :: E10) ?_
   refine oK0 [0,2,3,5,8] ?_
   let E11:Env:=keepOnly ((43,.tuple []) :: E10) [0,2,3,5,8]
   refine oR 2 (atN 1 (ctl1 i20p17)) ((44,.ptr 0 4 0) :: E11) ?_
   refine oX (fun (x8_1:Int) => .tuple []) (fun x8_1=>[⟨[.str a7,w34 a8,.i x8_1,.i a10],4,false⟩,Q7,Q8,Q3,Q5,Q6]) (atN 2 (ctl1 i20p17)) 45 [0] [] [] [0,2] [0,1] [.ptr 0 4 0,.str [44]] (qAt k ([44]:List Nat) a7 a8 x6_2.2 a10) trivial (fun _=>trivial) ⟨u29 _,trivial⟩ fun x8_1 hx8_1=>?_
   refine oR 4 (atN 1 (ctl1 i20p18)) ((46,.ptr 0 4 0) :: (45,.tuple []) :: (44,.ptr 0 4 0) :: E11) ?_
   refine oN (fun (x9_1:Ri12)=>w9 x9_1.1) (fun x9_1=>[⟨[.str a7,w34 a8,.i x9_1.2,.i a10],4,false⟩,Q7,Q8,Q3,Q5,Q6]) (atN 2 (ctl1 i20p18)) 47 [0] [] [] [.ptr 0 4 0] (qAh k a7 a8 x8_1 a10) trivial (fun _=>trivial) fun x9_1 hx9_1=>?_
   refine oL 6 i20p6 [(0,.ptr 0 4 0),(2,.str a6),(3,.func 80 [.ptr 0 4 0] []),(5,.ptr 2 7 0),(8,.ptr 3 7 0),(9,w9 x9_1.1)] ?_
   refine qAa [⟨[.str a7,w34 a8,.i x9_1.2,.i a10],4,false⟩,Q7,Q8,Q3] [Q5,Q6] (by kernel_rfl) rfl (by kernel_rfl) ⟨(by kernel_rfl),⟨(qA3 _ (u29 _)),⟨(by kernel_rfl),⟨(by kernel_rfl),trivial⟩⟩⟩⟩ ?_
   exact ih x9_1.1 x9_1.2 x4_4
def i20B (k:Nat) (F:Fns0) (a0:Int) (a1:(List Nat)) (a2:Bool) (a3:Bool) (a4:(List (List Nat))) (a5:(List (List Nat))) (a6:(List Nat)) (a7:(List Nat)) (a8:(List S33)) (a9:Int) (a10:Int) (b1:(List S28)):Option (Option Ri20) :=
 (i28 k a7 a8 a9 a10).bind fun x0_1=>(i12 k a7 a8 a9 a10).bind fun x1_1=>bT (i7 k a6 a7 a8 x1_1.2 a10) fun x2_2=>if x2_2.1 then (some (some (a0,a1,x0_1,a3,a4,x1_1.1,x2_2.2,b1))) else (qI6 k F a0 a1 a3 a4 a5 a6 a7 a8 a10 x0_1 k x1_1.1 x2_2.2 b1)
theorem qKn (k:Nat) (F:Fns0) (hF:FnsOk0 F):∀ a0 a1 a2 a3 a4 a5 a6 a7 a8 a9 a10 b1 r,i20B k F a0 a1 a2 a3 a4 a5 a6 a7 a8 a9 a10 b1 = some r → CallT Try.prog 77 [.ptr 0 4 0,.agg [.i a0,.str a1,.own 1 (b1).length 7,.bool a2,.bool a3,w9 a4,w9 a5],.str a6,.func 80 [.ptr 0 4 0] []] (mkH [⟨[.str a7,w34 a8,.i a9,.i a10],4,false⟩,⟨(b1).flatMap e29,0,false⟩]) ((Xi20 a0 a1 a2 a3 a4 a5 a6 a7 a8 a9 a10 b1).thr r) ((Xi20 a0 a1 a2 a3 a4 a5 a6 a7 a8 a9 a10 b1).enc r) ((Xi20 a0 a1 a2 a3 a4 a5 a6 a7 a8 a9 a10 b1).fin r):=by
 intro a0 a1 a2 a3 a4 a5 a6 a7 a8 a9 a10 b1 r h
 refine qA2 (Xi20 a0 a1 a2 a3 a4 a5 a6 a7 a8 a9 a10 b1) Try.func77 (by kernel_rfl) (by kernel_rfl) rfl (t:=i20B k F a0 a1 a2 a3 a4 a5 a6 a7 a8 a9 a10 b1) ?_ h
 unfold i20B
 refine qA (eE:=[(0,.ptr 0 4 0),(1,.agg [.i a0,.str a1,.own 1 (b1).length 7,.bool a2,.bool a3,w9 a4,w9 a5]),(2,.str a6),(3,.func 80 [.ptr 0 4 0] [])]) (by kernel_rfl) ?_
 let E1:Env:=[(11,.ptr 0 4 0),(8,.ptr 3 7 0),(5,.ptr 2 7 0),(0,.ptr 0 4 0),(1,.agg [.i a0,.str a1,.own 1 (b1).length 7,.bool a2,.bool a3,w9 a4,w9 a5]),(2,.str a6),(3,.func 80 [.ptr 0 4 0] [])]
 let Q1:Blk:=⟨[.str a7,w34 a8,.i a9,.i a10],4,false⟩
 let Q2:Blk:=⟨(b1).flatMap e29,0,false⟩
 let Q3:Blk:=⟨[.i a0,.str a1,.own 1 (b1).length 7,.bool a2,.bool a3,w9 a4,w9 a5],0,false⟩
 let Q4:Blk:=⟨[.i 0,.str [],.nils,.bool false,.bool false,.nils,.nils],0,false⟩
 refine oH 9 (atN 1 (ctl1 i20p1)) E1 (mkH [Q1,Q2,Q3,Q4]) ?_
 refine oN (fun (x0_1:Bool) => .bool x0_1) (fun x0_1=>[Q1,Q2,Q3,Q4]) (atN 2 (ctl1 i20p1)) 12 [0] [] [] [.ptr 0 4 0] (qH7 k a7 a8 a9 a10) trivial (fun _=>trivial) fun x0_1 hx0_1=>?_
 let Q5:Blk:=⟨[.i a0,.str a1,.own 1 (b1).length 7,.bool x0_1,.bool a3,w9 a4,w9 a5],7,false⟩
 refine oH 6 (atN 1 (ctl1 i20p2)) ((14,.ptr 0 4 0) :: (13,.ptr 2 7 3) :: (12,.bool x0_1) :: E1) (mkH [Q1,Q2,Q5,Q4]) ?_
 refine oN (fun (x1_1:Ri12)=>w9 x1_1.1) (fun x1_1=>[⟨[.str a7,w34 a8,.i x1_1.2,.i a10],4,false⟩,Q2,Q5,Q4]) (atN 2 (ctl1 i20p2)) 15 [0] [] [] [.ptr 0 4 0] (qAh k a7 a8 a9 a10) trivial (fun _=>trivial) fun x1_1 hx1_1=>?_
 let E2:Env:=((17,.str a6) :: (16,.ptr 0 4 0) :: (9,w9 x1_1.1) :: (15,w9 x1_1.1) :: (14,.ptr 0 4 0) :: (13,.ptr 2 7 3) :: (12,.bool x0_1) :: E1)
 refine oR 7 (atN 2 (ctl1 i20p3)) E2 ?_
 refine oX (fun (x2_2:(Bool × Int)) => .bool x2_2.1) (fun x2_2=>[⟨[.str a7,w34 a8,.i x2_2.2,.i a10],4,false⟩,Q2,Q5,Q4]) (atN 3 (ctl1 i20p3)) 18 [0] [] [] [2] [0,1] [.ptr 0 4 0,.str a6] (qAg k a6 a7 a8 x1_1.2 a10) trivial (fun _=>trivial) ⟨u29 _,trivial⟩ fun x2_2 hx2_2=>?_
 refine oR 1 i20p4 ((18,.bool x2_2.1) :: E2) ?_
 refine oK [0,2,3,5,8,9,18] [(0,.ptr 0 4 0),(2,.str a6),(3,.func 80 [.ptr 0 4 0] []),(5,.ptr 2 7 0),(8,.ptr 3 7 0),(9,w9 x1_1.1),(18,.bool x2_2.1)] ?_
 refine oS 18 (fun hb=>?_) (fun hb=>?_)
 ·let Q6:Blk:=⟨[.str a7,w34 a8,.i x2_2.2,.i a10],4,false⟩
  let Q7:Blk:=⟨[.i a0,.str a1,.own 1 (b1).length 7,.bool x0_1,.bool a3,w9 a4,w9 x1_1.1],7,false⟩
  refine oLH 8 (nav [0,0,0] (nav [1,0] i20p4)) [(5,.ptr 2 7 0),(8,.ptr 3 7 0)] (mkH [Q6,Q2,Q7,Q4]) ?_
  refine oH 5 .fin ((21,.agg [.i a0,.str a1,.own 1 (b1).length 7,.bool x0_1,.bool a3,w9 a4,w9 x1_1.1]) :: [(5,.ptr 2 7 0),(8,.ptr 3 7 0)]) (mkH [Q6,Q2,Q7,Q7]) ?_
  exact qBq (r:=some (a0,a1,x0_1,a3,a4,x1_1.1,x2_2.2,b1)) (xs:=[.agg [.i a0,.str a1,.own 1 (b1).length 7,.bool x0_1,.bool a3,w9 a4,w9 x1_1.1]]) [Q6,Q2] [Q7,Q7] (by kernel_rfl) (by kernel_rfl) (by kernel_rfl) (by kernel_rfl) (by kernel_rfl) ⟨(by kernel_rfl),⟨(qA3 _ (u29 _)),trivial⟩⟩ (by kernel_rfl) (by kernel_rfl)
 ·refine oR 5 i20p6 ((18,.bool false) :: (keepOnly ((18,.bool x2_2.1) :: E2) [0,2,3,5,8,9,18])) ?_
  refine oK [0,2,3,5,8,9] [(0,.ptr 0 4 0),(2,.str a6),(3,.func 80 [.ptr 0 4 0] []),(5,.ptr 2 7 0),(8,.ptr 3 7 0),(9,w9 x1_1.1)] ?_
  exact (qLk k F hF a0 a1 a2 a3 a4 a5 a6 a7 a8 a9 a10 b1 x0_1 k) x1_1.1 x2_2.2 b1
theorem i20B_ok (k:Nat) (F:Fns0) (hF:FnsOk0 F):Pi20 (i20B k F):=fun a0 a1 a2 a3 a4 a5 a6 a7 a8 a9 a10 b1=>⟨fun x h=>qKn k F hF a0 a1 a2 a3 a4 a5 a6 a7 a8 a9 a10 b1 (some x) h,fun h=>⟨_,qKn k F hF a0 a1 a2 a3 a4 a5 a6 a7 a8 a9 a10 b1 none h⟩⟩
def i21p1:Pt:=nav [0,0,0,0] (nav [0] (bodyAt Try.f77))
def i21p2:Pt:=nav [0,0,0] i21p1
def i21p3:Pt:=nav [0,0,0,0] i21p2
def i21p4:Pt:=nav [0,0] i21p3
def i21p6:Pt:=nav [2,0,0,0,0] i21p4
def i21p10:Pt:=nav [0,0,0] (nav [0,0,0] i21p6)
def i21p11:Pt:=nav [0,0,0,0] i21p10
def i21p12:Pt:=nav [0,0,0] i21p11
def i21p13:Pt:=nav [0,0] i21p12
def i21p15:Pt:=nav [2,0,0] i21p13
def i21p17:Pt:=nav [0,0,0] i21p15
def i21p18:Pt:=nav [0,0,0] i21p17
def qCy (k:Nat) (F:Fns0)  (a0:Int) (a1:(List Nat)) (a3:Bool) (a4:(List (List Nat))) (a5:(List (List Nat))) (a6:(List Nat)) (a7:(List Nat)) (a8:(List S33)) (a10:Int) (x0_1:Bool) (ih:(List (List Nat)) → Int → (List S28) → Option (Option Ri21)):(List (List Nat)) → Int → (List S28) → Option (Option Ri21) :=
 fun (y10_0:(List (List Nat))) (y10_1:Int) (y10_2:(List S28))=>bT (F.i32 a7 a8 y10_1 a10) fun x3_1=>(appS 104 y10_2 ([(⟨x3_1.1.f0,x3_1.1.f1,x3_1.1.f2,x3_1.1.f3,x3_1.1.f4,y10_0,x3_1.1.f6⟩:S28)]:List S28)).bind fun x4_4=>(i12 k a7 a8 x3_1.2 a10).bind fun x5_1=>bT (i7 k a6 a7 a8 x5_1.2 a10) fun x6_2=>if x6_2.1 then (some (some (a0,a1,x0_1,a3,a4,x5_1.1,x6_2.2,x4_4))) else (bT (i16 k (decide ((x5_1.1.length:Int) = 0))) fun x7_3=>bT (i23 k ([44]:List Nat) a7 a8 x6_2.2 a10) fun x8_1=>(i12 k a7 a8 x8_1 a10).bind fun x9_1=>ih x9_1.1 x9_1.2 x4_4)
def qEa (k:Nat) (F:Fns0)  (a0:Int) (a1:(List Nat)) (a3:Bool) (a4:(List (List Nat))) (a5:(List (List Nat))) (a6:(List Nat)) (a7:(List Nat)) (a8:(List S33)) (a10:Int) (x0_1:Bool) (n:Nat):(List (List Nat)) → Int → (List S28) → Option (Option Ri21):=lp (fun _ _ _=>none) (qCy k F a0 a1 a3 a4 a5 a6 a7 a8 a10 x0_1) n
theorem qLj (k:Nat) (F:Fns0) (hF:FnsOk0 F) (a0:Int) (a1:(List Nat)) (a2:Bool) (a3:Bool) (a4:(List (List Nat))) (a5:(List (List Nat))) (a6:(List Nat)) (a7:(List Nat)) (a8:(List S33)) (a9:Int) (a10:Int) (b1:(List S28))  (x0_1:Bool)  : ∀ (n:Nat) (y10_0:(List (List Nat))) (y10_1:Int) (y10_2:(List S28)),Ok (Xi21 a0 a1 a2 a3 a4 a5 a6 a7 a8 a9 a10 b1) i21p6 [(0,.ptr 0 4 0),(2,.str a6),(3,.func 81 [.ptr 0 4 0] []),(5,.ptr 2 7 0),(8,.ptr 3 7 0),(9,w9 y10_0)] (mkH [⟨[.str a7,w34 a8,.i y10_1,.i a10],4,false⟩,⟨(y10_2).flatMap e29,0,false⟩,⟨[.i a0,.str a1,.own 1 (y10_2).length 7,.bool x0_1,.bool a3,w9 a4,w9 a5],7,false⟩,⟨[.i 0,.str [],.nils,.bool false,.bool false,.nils,.nils],0,false⟩]) (qEa k F a0 a1 a3 a4 a5 a6 a7 a8 a10 x0_1 n y10_0 y10_1 y10_2):=by
 intro n
 induction n with
 | zero=>intro y10_0 y10_1 y10_2; exact ok_none
 | succ n ih =>
  intro y10_0 y10_1 y10_2
  show Ok _ _ _ _ (qCy k F a0 a1 a3 a4 a5 a6 a7 a8 a10 x0_1 (qEa k F a0 a1 a3 a4 a5 a6 a7 a8 a10 x0_1 n) y10_0 y10_1 y10_2)
  unfold qCy
  let E5:Env:=[(22,.func 81 [.ptr 0 4 0] []),(0,.ptr 0 4 0),(2,.str a6),(3,.func 81 [.ptr 0 4 0] []),(5,.ptr 2 7 0),(8,.ptr 3 7 0),(9,w9 y10_0)]
  let Q1:Blk:=⟨(y10_2).flatMap e29,0,false⟩
  let Q2:Blk:=⟨[.i a0,.str a1,.own 1 (y10_2).length 7,.bool x0_1,.bool a3,w9 a4,w9 a5],7,false⟩
  let Q3:Blk:=⟨[.i 0,.str [],.nils,.bool false,.bool false,.nils,.nils],0,false⟩
  refine oH 2 (atN 1 (ctl1 i21p6)) E5 (mkH [⟨[.str a7,w34 a8,.i y10_1,.i a10],4,false⟩,Q1,Q2,Q3]) ?_
  refine oX (fun (x3_1:(S28 × Int))=>n29 x3_1.1) (fun x3_1=>[⟨[.str a7,w34 a8,.i x3_1.2,.i a10],4,false⟩,Q1,Q2,Q3]) (atN 2 (ctl1 i21p6)) 23 [0] [] [] [0,2] [0,1] [.ptr 0 4 0] (hF.i32_ok a7 a8 y10_1 a10) trivial (fun _=>trivial) ⟨u29 _,trivial⟩ fun x3_1 hx3_1=>?_
  let Q4:Blk:=⟨[.str a7,w34 a8,.i x3_1.2,.i a10],4,false⟩
  let Q5:Blk:=⟨[.i x3_1.1.f0,.str x3_1.1.f1,q29 x3_1.1.f2,.bool x3_1.1.f3,.bool x3_1.1.f4,w9 y10_0,w9 x3_1.1.f6],7,false⟩
  let Q6:Blk:=⟨[.i x3_1.1.f0,.str x3_1.1.f1,q29 x3_1.1.f2,.bool x3_1.1.f3,.bool x3_1.1.f4,w9 y10_0,w9 x3_1.1.f6],0,false⟩
  refine oH 15 (atN 4 (ctl1 i21p10)) ((29,.slice 5 7 0 1 7) :: (28,.agg [.i x3_1.1.f0,.str x3_1.1.f1,q29 x3_1.1.f2,.bool x3_1.1.f3,.bool x3_1.1.f4,w9 y10_0,w9 x3_1.1.f6]) :: (27,.own 1 (y10_2).length 7) :: (26,.ptr 2 7 2) :: (25,.ptr 4 7 5) :: (24,w9 y10_0) :: (10,.ptr 4 7 0) :: (23,n29 x3_1.1) :: E5) (mkH [Q4,Q1,Q2,Q3,Q5,Q6]) ?_
  refine oC (fun (x4_4:(List S28))=>(.own 1 (x4_4).length 7,(mkH [Q4,⟨(x4_4).flatMap e29,0,false⟩,Q2,Q3,Q5,Q6]))) (atN 5 (ctl1 i21p10)) 30 (appH (sz:=7) qA6 rfl qAu [Q4,Q1,Q2,Q3,Q5,Q6] 1 104 y10_2 ([(⟨x3_1.1.f0,x3_1.1.f1,x3_1.1.f2,x3_1.1.f3,x3_1.1.f4,y10_0,x3_1.1.f6⟩:S28)]:List S28) rfl rfl (by kernel_rfl)) fun x4_4 hx4_4=>?_
  let E7:Env:=[(0,.ptr 0 4 0),(2,.str a6),(3,.func 81 [.ptr 0 4 0] []),(5,.ptr 2 7 0),(8,.ptr 3 7 0)]
  let Q7:Blk:=⟨(x4_4).flatMap e29,0,false⟩
  let Q8:Blk:=⟨[.i a0,.str a1,.own 1 (x4_4).length 7,.bool x0_1,.bool a3,w9 a4,w9 a5],7,false⟩
  refine oLH 5 i21p11 E7 (mkH [Q4,Q7,Q8,Q3,Q5,Q6]) ?_
  refine oR 2 (atN 1 (ctl1 i21p11)) ((32,.ptr 0 4 0) :: E7) ?_
  refine oN (fun (x5_1:Ri12)=>w9 x5_1.1) (fun x5_1=>[⟨[.str a7,w34 a8,.i x5_1.2,.i a10],4,false⟩,Q7,Q8,Q3,Q5,Q6]) (atN 2 (ctl1 i21p11)) 33 [0] [] [] [.ptr 0 4 0] (qAh k a7 a8 x3_1.2 a10) trivial (fun _=>trivial) fun x5_1 hx5_1=>?_
  let E8:Env:=((35,.str a6) :: (34,.ptr 0 4 0) :: (9,w9 x5_1.1) :: (33,w9 x5_1.1) :: (32,.ptr 0 4 0) :: E7)
  refine oR 6 (atN 2 (ctl1 i21p12)) E8 ?_
  refine oX (fun (x6_2:(Bool × Int)) => .bool x6_2.1) (fun x6_2=>[⟨[.str a7,w34 a8,.i x6_2.2,.i a10],4,false⟩,Q7,Q8,Q3,Q5,Q6]) (atN 3 (ctl1 i21p12)) 36 [0] [] [] [2] [0,1] [.ptr 0 4 0,.str a6] (qAg k a6 a7 a8 x5_1.2 a10) trivial (fun _=>trivial) ⟨u29 _,trivial⟩ fun x6_2 hx6_2=>?_
  refine oR 1 i21p13 ((36,.bool x6_2.1) :: E8) ?_
  refine oS 36 (fun hb=>?_) (fun hb=>?_)
  ·let Q9:Blk:=⟨[.str a7,w34 a8,.i x6_2.2,.i a10],4,false⟩
   let Q10:Blk:=⟨[.i a0,.str a1,.own 1 (x4_4).length 7,.bool x0_1,.bool a3,w9 a4,w9 x5_1.1],7,false⟩
   refine oLH 8 (nav [0,0,0] (nav [1,0] i21p13)) [(5,.ptr 2 7 0),(8,.ptr 3 7 0)] (mkH [Q9,Q7,Q10,Q3,Q5,Q6]) ?_
   refine oH 5 .fin ((39,.agg [.i a0,.str a1,.own 1 (x4_4).length 7,.bool x0_1,.bool a3,w9 a4,w9 x5_1.1]) :: [(5,.ptr 2 7 0),(8,.ptr 3 7 0)]) (mkH [Q9,Q7,Q10,Q10,Q5,Q6]) ?_
   exact qBq (r:=some (a0,a1,x0_1,a3,a4,x5_1.1,x6_2.2,x4_4)) (xs:=[.agg [.i a0,.str a1,.own 1 (x4_4).length 7,.bool x0_1,.bool a3,w9 a4,w9 x5_1.1]]) [Q9,Q7] [Q10,Q10,Q5,Q6] (by kernel_rfl) (by kernel_rfl) (by kernel_rfl) (by kernel_rfl) (by kernel_rfl) ⟨(by kernel_rfl),⟨(qA3 _ (u29 _)),trivial⟩⟩ (by kernel_rfl) (by kernel_rfl)
  ·let E10:Env:=((42,.bool (decide ((x5_1.1.length:Int) = 0))) :: (41,.i (x5_1.1.length:Int)) :: (40,w9 x5_1.1) :: (36,.bool false) :: (36,.bool x6_2.1) :: E8)
   refine oR 7 (atN 3 (ctl1 i21p15)) E10 ?_
   refine oX (fun (x7_3:Unit) => .tuple []) (fun x7_3=>[⟨[.str a7,w34 a8,.i x6_2.2,.i a10],4,false⟩,Q7,Q8,Q3,Q5,Q6]) (atN 4 (ctl1 i21p15)) 43 [] [] [] [2] [0,1] [.bool (decide ((x5_1.1.length:Int) = 0))] (qCm k (decide ((x5_1.1.length:Int) = 0))) trivial (fun _=>trivial) ⟨u29 _,trivial⟩ fun x7_3 hx7_3=>?_
   refine oR 2 i21p17 ((43,.tuple []) :: E10) ?_
   refine oK0 [0,2,3,5,8] ?_
   let E11:Env:=keepOnly ((43,.tuple []) :: E10) [0,2,3,5,8]
   refine oR 2 (atN 1 (ctl1 i21p17)) ((44,.ptr 0 4 0) :: E11) ?_
   refine oX (fun (x8_1:Int) => .tuple []) (fun x8_1=>[⟨[.str a7,w34 a8,.i x8_1,.i a10],4,false⟩,Q7,Q8,Q3,Q5,Q6]) (atN 2 (ctl1 i21p17)) 45 [0] [] [] [0,2] [0,1] [.ptr 0 4 0,.str [44]] (qAt k ([44]:List Nat) a7 a8 x6_2.2 a10) trivial (fun _=>trivial) ⟨u29 _,trivial⟩ fun x8_1 hx8_1=>?_
   refine oR 4 (atN 1 (ctl1 i21p18)) ((46,.ptr 0 4 0) :: (45,.tuple []) :: (44,.ptr 0 4 0) :: E11) ?_
   refine oN (fun (x9_1:Ri12)=>w9 x9_1.1) (fun x9_1=>[⟨[.str a7,w34 a8,.i x9_1.2,.i a10],4,false⟩,Q7,Q8,Q3,Q5,Q6]) (atN 2 (ctl1 i21p18)) 47 [0] [] [] [.ptr 0 4 0] (qAh k a7 a8 x8_1 a10) trivial (fun _=>trivial) fun x9_1 hx9_1=>?_
   refine oL 6 i21p6 [(0,.ptr 0 4 0),(2,.str a6),(3,.func 81 [.ptr 0 4 0] []),(5,.ptr 2 7 0),(8,.ptr 3 7 0),(9,w9 x9_1.1)] ?_
   refine qAa [⟨[.str a7,w34 a8,.i x9_1.2,.i a10],4,false⟩,Q7,Q8,Q3] [Q5,Q6] (by kernel_rfl) rfl (by kernel_rfl) ⟨(by kernel_rfl),⟨(qA3 _ (u29 _)),⟨(by kernel_rfl),⟨(by kernel_rfl),trivial⟩⟩⟩⟩ ?_
   exact ih x9_1.1 x9_1.2 x4_4
def i21B (k:Nat) (F:Fns0) (a0:Int) (a1:(List Nat)) (a2:Bool) (a3:Bool) (a4:(List (List Nat))) (a5:(List (List Nat))) (a6:(List Nat)) (a7:(List Nat)) (a8:(List S33)) (a9:Int) (a10:Int) (b1:(List S28)):Option (Option Ri21) :=
 (i28 k a7 a8 a9 a10).bind fun x0_1=>(i12 k a7 a8 a9 a10).bind fun x1_1=>bT (i7 k a6 a7 a8 x1_1.2 a10) fun x2_2=>if x2_2.1 then (some (some (a0,a1,x0_1,a3,a4,x1_1.1,x2_2.2,b1))) else (qEa k F a0 a1 a3 a4 a5 a6 a7 a8 a10 x0_1 k x1_1.1 x2_2.2 b1)
theorem qKm (k:Nat) (F:Fns0) (hF:FnsOk0 F):∀ a0 a1 a2 a3 a4 a5 a6 a7 a8 a9 a10 b1 r,i21B k F a0 a1 a2 a3 a4 a5 a6 a7 a8 a9 a10 b1 = some r → CallT Try.prog 77 [.ptr 0 4 0,.agg [.i a0,.str a1,.own 1 (b1).length 7,.bool a2,.bool a3,w9 a4,w9 a5],.str a6,.func 81 [.ptr 0 4 0] []] (mkH [⟨[.str a7,w34 a8,.i a9,.i a10],4,false⟩,⟨(b1).flatMap e29,0,false⟩]) ((Xi21 a0 a1 a2 a3 a4 a5 a6 a7 a8 a9 a10 b1).thr r) ((Xi21 a0 a1 a2 a3 a4 a5 a6 a7 a8 a9 a10 b1).enc r) ((Xi21 a0 a1 a2 a3 a4 a5 a6 a7 a8 a9 a10 b1).fin r):=by
 intro a0 a1 a2 a3 a4 a5 a6 a7 a8 a9 a10 b1 r h
 refine qA2 (Xi21 a0 a1 a2 a3 a4 a5 a6 a7 a8 a9 a10 b1) Try.func77 (by kernel_rfl) (by kernel_rfl) rfl (t:=i21B k F a0 a1 a2 a3 a4 a5 a6 a7 a8 a9 a10 b1) ?_ h
 unfold i21B
 refine qA (eE:=[(0,.ptr 0 4 0),(1,.agg [.i a0,.str a1,.own 1 (b1).length 7,.bool a2,.bool a3,w9 a4,w9 a5]),(2,.str a6),(3,.func 81 [.ptr 0 4 0] [])]) (by kernel_rfl) ?_
 let E1:Env:=[(11,.ptr 0 4 0),(8,.ptr 3 7 0),(5,.ptr 2 7 0),(0,.ptr 0 4 0),(1,.agg [.i a0,.str a1,.own 1 (b1).length 7,.bool a2,.bool a3,w9 a4,w9 a5]),(2,.str a6),(3,.func 81 [.ptr 0 4 0] [])]
 let Q1:Blk:=⟨[.str a7,w34 a8,.i a9,.i a10],4,false⟩
 let Q2:Blk:=⟨(b1).flatMap e29,0,false⟩
 let Q3:Blk:=⟨[.i a0,.str a1,.own 1 (b1).length 7,.bool a2,.bool a3,w9 a4,w9 a5],0,false⟩
 let Q4:Blk:=⟨[.i 0,.str [],.nils,.bool false,.bool false,.nils,.nils],0,false⟩
 refine oH 9 (atN 1 (ctl1 i21p1)) E1 (mkH [Q1,Q2,Q3,Q4]) ?_
 refine oN (fun (x0_1:Bool) => .bool x0_1) (fun x0_1=>[Q1,Q2,Q3,Q4]) (atN 2 (ctl1 i21p1)) 12 [0] [] [] [.ptr 0 4 0] (qH7 k a7 a8 a9 a10) trivial (fun _=>trivial) fun x0_1 hx0_1=>?_
 let Q5:Blk:=⟨[.i a0,.str a1,.own 1 (b1).length 7,.bool x0_1,.bool a3,w9 a4,w9 a5],7,false⟩
 refine oH 6 (atN 1 (ctl1 i21p2)) ((14,.ptr 0 4 0) :: (13,.ptr 2 7 3) :: (12,.bool x0_1) :: E1) (mkH [Q1,Q2,Q5,Q4]) ?_
 refine oN (fun (x1_1:Ri12)=>w9 x1_1.1) (fun x1_1=>[⟨[.str a7,w34 a8,.i x1_1.2,.i a10],4,false⟩,Q2,Q5,Q4]) (atN 2 (ctl1 i21p2)) 15 [0] [] [] [.ptr 0 4 0] (qAh k a7 a8 a9 a10) trivial (fun _=>trivial) fun x1_1 hx1_1=>?_
 let E2:Env:=((17,.str a6) :: (16,.ptr 0 4 0) :: (9,w9 x1_1.1) :: (15,w9 x1_1.1) :: (14,.ptr 0 4 0) :: (13,.ptr 2 7 3) :: (12,.bool x0_1) :: E1)
 refine oR 7 (atN 2 (ctl1 i21p3)) E2 ?_
 refine oX (fun (x2_2:(Bool × Int)) => .bool x2_2.1) (fun x2_2=>[⟨[.str a7,w34 a8,.i x2_2.2,.i a10],4,false⟩,Q2,Q5,Q4]) (atN 3 (ctl1 i21p3)) 18 [0] [] [] [2] [0,1] [.ptr 0 4 0,.str a6] (qAg k a6 a7 a8 x1_1.2 a10) trivial (fun _=>trivial) ⟨u29 _,trivial⟩ fun x2_2 hx2_2=>?_
 refine oR 1 i21p4 ((18,.bool x2_2.1) :: E2) ?_
 refine oK [0,2,3,5,8,9,18] [(0,.ptr 0 4 0),(2,.str a6),(3,.func 81 [.ptr 0 4 0] []),(5,.ptr 2 7 0),(8,.ptr 3 7 0),(9,w9 x1_1.1),(18,.bool x2_2.1)] ?_
 refine oS 18 (fun hb=>?_) (fun hb=>?_)
 ·let Q6:Blk:=⟨[.str a7,w34 a8,.i x2_2.2,.i a10],4,false⟩
  let Q7:Blk:=⟨[.i a0,.str a1,.own 1 (b1).length 7,.bool x0_1,.bool a3,w9 a4,w9 x1_1.1],7,false⟩
  refine oLH 8 (nav [0,0,0] (nav [1,0] i21p4)) [(5,.ptr 2 7 0),(8,.ptr 3 7 0)] (mkH [Q6,Q2,Q7,Q4]) ?_
  refine oH 5 .fin ((21,.agg [.i a0,.str a1,.own 1 (b1).length 7,.bool x0_1,.bool a3,w9 a4,w9 x1_1.1]) :: [(5,.ptr 2 7 0),(8,.ptr 3 7 0)]) (mkH [Q6,Q2,Q7,Q7]) ?_
  exact qBq (r:=some (a0,a1,x0_1,a3,a4,x1_1.1,x2_2.2,b1)) (xs:=[.agg [.i a0,.str a1,.own 1 (b1).length 7,.bool x0_1,.bool a3,w9 a4,w9 x1_1.1]]) [Q6,Q2] [Q7,Q7] (by kernel_rfl) (by kernel_rfl) (by kernel_rfl) (by kernel_rfl) (by kernel_rfl) ⟨(by kernel_rfl),⟨(qA3 _ (u29 _)),trivial⟩⟩ (by kernel_rfl) (by kernel_rfl)
 ·refine oR 5 i21p6 ((18,.bool false) :: (keepOnly ((18,.bool x2_2.1) :: E2) [0,2,3,5,8,9,18])) ?_
  refine oK [0,2,3,5,8,9] [(0,.ptr 0 4 0),(2,.str a6),(3,.func 81 [.ptr 0 4 0] []),(5,.ptr 2 7 0),(8,.ptr 3 7 0),(9,w9 x1_1.1)] ?_
  exact (qLj k F hF a0 a1 a2 a3 a4 a5 a6 a7 a8 a9 a10 b1 x0_1 k) x1_1.1 x2_2.2 b1
theorem i21B_ok (k:Nat) (F:Fns0) (hF:FnsOk0 F):Pi21 (i21B k F):=fun a0 a1 a2 a3 a4 a5 a6 a7 a8 a9 a10 b1=>⟨fun x h=>qKm k F hF a0 a1 a2 a3 a4 a5 a6 a7 a8 a9 a10 b1 (some x) h,fun h=>⟨_,qKm k F hF a0 a1 a2 a3 a4 a5 a6 a7 a8 a9 a10 b1 none h⟩⟩
def i24c0:List Nat:=[114,101,99,101,105,118,101]
def i24c1:List Nat:=[98,101,103,105,110]
def i24p1:Pt:=nav [0,0,0,0,0] (nav [0] (bodyAt Try.f84))
def i24p2:Pt:=nav [0,0] i24p1
def i24p3:Pt:=nav [1,0,0] i24p2
def i24p4:Pt:=nav [2,0] i24p2
def i24p5:Pt:=nav [0,0] i24p3
def i24p6:Pt:=nav [0,0] i24p4
def i24p7:Pt:=nav [1,0] i24p5
def i24p8:Pt:=nav [2,0,0] i24p5
def i24p9:Pt:=nav [1,0] i24p6
def i24p10:Pt:=nav [2,0] i24p6
def i24p12:Pt:=nav [0,0,0] i24p9
def i24p13:Pt:=nav [0,0] i24p10
def i24p14:Pt:=nav [0,0,0] i24p12
def i24p15:Pt:=nav [1,0] i24p13
def i24p16:Pt:=nav [2,0] i24p13
def i24p17:Pt:=nav [0,0] i24p16
def i24p18:Pt:=nav [1,0] i24p17
def i24p19:Pt:=nav [2,0,0] i24p17
def i24p20:Pt:=nav [0,0,0] i24p19
def i24p21:Pt:=nav [0,0,0] i24p20
def i24p22:Pt:=nav [0,0,0] i24p21
def i24B (k:Nat) (F:Fns0) (a0:(List Nat)) (a1:(List S33)) (a2:Int) (a3:Int):Option (Option (S28 × Int)) :=
 bT (i7 k ([102,117,110]:List Nat) a0 a1 a2 a3) fun x0_1=>if x0_1.1 then ((i10 k ([40]:List Nat) a0 a1 x0_1.2 a3).bind fun x1_1=>if x1_1 then (bT (F.i34 a0 a1 x0_1.2 a3) fun x2_1=>some (some (x2_1.1,x2_1.2))) else (bT (i35 k a0 a1 x0_1.2 a3) fun x3_1=>some (some (x3_1.1,x3_1.2)))) else (bT (i7 k ([99,97,115,101]:List Nat) a0 a1 x0_1.2 a3) fun x4_1=>if x4_1.1 then (bT (F.i5 (0:Int) a0 a1 x4_1.2 a3) fun x5_1=>bT (i23 k ([111,102]:List Nat) a0 a1 x5_1.2 a3) fun x6_1=>bT (F.i36 (18:Int) ([]:List Nat) false false ([]:List (List Nat)) ([]:List (List Nat)) a0 a1 x6_1 a3 ([x5_1.1]:List S28)) fun x7_4=>some (some ((⟨x7_4.1,x7_4.2.1,⟨(x7_4.2.2.2.2.2.2.2).length,(x7_4.2.2.2.2.2.2.2).flatMap e29⟩,x7_4.2.2.1,x7_4.2.2.2.1,x7_4.2.2.2.2.1,x7_4.2.2.2.2.2.1⟩:S28),x7_4.2.2.2.2.2.2.1))) else (bT (i7 k ([105,102]:List Nat) a0 a1 x4_1.2 a3) fun x8_1=>if x8_1.1 then (bT (F.i37 (19:Int) ([]:List Nat) false false ([]:List (List Nat)) ([]:List (List Nat)) a0 a1 x8_1.2 a3 ([]:List S28)) fun x9_4=>some (some ((⟨x9_4.1,x9_4.2.1,⟨(x9_4.2.2.2.2.2.2.2).length,(x9_4.2.2.2.2.2.2.2).flatMap e29⟩,x9_4.2.2.1,x9_4.2.2.2.1,x9_4.2.2.2.2.1,x9_4.2.2.2.2.2.1⟩:S28),x9_4.2.2.2.2.2.2.1))) else (bT (i7 k i24c0 a0 a1 x8_1.2 a3) fun x10_1=>if x10_1.1 then (bT (F.i38 a0 a1 x10_1.2 a3) fun x11_1=>some (some (x11_1.1,x11_1.2))) else (bT (i23 k i24c1 a0 a1 x10_1.2 a3) fun x12_1=>bT (F.i6 a0 a1 x12_1 a3) fun x13_1=>(i12 k a0 a1 x13_1.2 a3).bind fun x14_1=>bT (i23 k ([101,110,100]:List Nat) a0 a1 x14_1.2 a3) fun x15_1=>some (some ((⟨(21:Int),([]:List Nat),⟨(([x13_1.1]:List S28)).length,(([x13_1.1]:List S28)).flatMap e29⟩,false,false,([]:List (List Nat)),x14_1.1⟩:S28),x15_1))))))
theorem qKl (k:Nat) (F:Fns0) (hF:FnsOk0 F):∀ a0 a1 a2 a3 r,i24B k F a0 a1 a2 a3 = some r → CallT Try.prog 84 [.ptr 0 4 0] (mkH [⟨[.str a0,w34 a1,.i a2,.i a3],4,false⟩]) ((Xi24 a0 a1 a2 a3).thr r) ((Xi24 a0 a1 a2 a3).enc r) ((Xi24 a0 a1 a2 a3).fin r):=by
 intro a0 a1 a2 a3 r h
 refine qA2 (Xi24 a0 a1 a2 a3) Try.func84 (by kernel_rfl) (by kernel_rfl) rfl (t:=i24B k F a0 a1 a2 a3) ?_ h
 unfold i24B
 refine qA (eE:=[(0,.ptr 0 4 0)]) (by kernel_rfl) ?_
 let Q1:Blk:=⟨[.i 0,.str [],.nils,.bool false,.bool false,.nils,.nils],0,false⟩
 refine oH 9 (atN 1 (ctl1 i24p1)) [(6,.ptr 0 4 0),(2,.ptr 1 7 0),(0,.ptr 0 4 0)] (mkH [⟨[.str a0,w34 a1,.i a2,.i a3],4,false⟩,Q1]) ?_
 refine oX (fun (x0_1:(Bool × Int)) => .bool x0_1.1) (fun x0_1=>[⟨[.str a0,w34 a1,.i x0_1.2,.i a3],4,false⟩,Q1]) (atN 2 (ctl1 i24p1)) 7 [0] [] [] [] [] [.ptr 0 4 0,.str [102,117,110]] (qAg k ([102,117,110]:List Nat) a0 a1 a2 a3) trivial (fun _=>trivial) trivial fun x0_1 hx0_1=>?_
 let E1:Env:=[(5,.bool x0_1.1),(7,.bool x0_1.1),(6,.ptr 0 4 0),(2,.ptr 1 7 0),(0,.ptr 0 4 0)]
 refine oR 2 i24p2 E1 ?_
 refine oS 5 (fun hb=>?_) (fun hb=>?_)
 ·refine oR 5 (atN 1 (ctl1 i24p3)) ((8,.ptr 0 4 0) :: (5,.bool true) :: E1) ?_
  refine oN (fun (x1_1:Bool) => .bool x1_1) (fun x1_1=>[⟨[.str a0,w34 a1,.i x0_1.2,.i a3],4,false⟩,Q1]) (atN 2 (ctl1 i24p3)) 9 [0] [] [] [.ptr 0 4 0,.str [40]] (qHa k ([40]:List Nat) a0 a1 x0_1.2 a3) trivial (fun _=>trivial) fun x1_1 hx1_1=>?_
  refine oR 1 i24p5 ((9,.bool x1_1) :: (8,.ptr 0 4 0) :: (5,.bool true) :: E1) ?_
  refine oS 9 (fun hb=>?_) (fun hb=>?_)
  ·refine oR 4 (atN 1 (ctl1 i24p7)) ((10,.ptr 0 4 0) :: (9,.bool true) :: (9,.bool x1_1) :: (8,.ptr 0 4 0) :: (5,.bool true) :: E1) ?_
   refine oX (fun (x2_1:(S28 × Int))=>n29 x2_1.1) (fun x2_1=>[⟨[.str a0,w34 a1,.i x2_1.2,.i a3],4,false⟩,Q1]) (atN 2 (ctl1 i24p7)) 11 [0] [] [] [0] [] [.ptr 0 4 0] (hF.i34_ok a0 a1 x0_1.2 a3) trivial (fun _=>trivial) trivial fun x2_1 hx2_1=>?_
   exact oQF 3 [⟨[.str a0,w34 a1,.i x2_1.2,.i a3],4,false⟩,⟨e29 x2_1.1,7,false⟩] 1 [] [n29 x2_1.1] (n29 x2_1.1) .ps trivial
  ·refine oR 5 (atN 1 (ctl1 i24p8)) ((12,.ptr 0 4 0) :: (9,.bool false) :: (9,.bool x1_1) :: (8,.ptr 0 4 0) :: (5,.bool true) :: E1) ?_
   refine oX (fun (x3_1:(S28 × Int))=>n29 x3_1.1) (fun x3_1=>[⟨[.str a0,w34 a1,.i x3_1.2,.i a3],4,false⟩,Q1]) (atN 2 (ctl1 i24p8)) 13 [0] [] [] [0] [] [.ptr 0 4 0] (i35_ok k a0 a1 x0_1.2 a3) trivial (fun _=>trivial) trivial fun x3_1 hx3_1=>?_
   exact oQF 3 [⟨[.str a0,w34 a1,.i x3_1.2,.i a3],4,false⟩,⟨e29 x3_1.1,7,false⟩] 1 [] [n29 x3_1.1] (n29 x3_1.1) .ps trivial
 ·refine oR 4 (atN 1 (ctl1 i24p4)) ((15,.ptr 0 4 0) :: (5,.bool false) :: E1) ?_
  refine oX (fun (x4_1:(Bool × Int)) => .bool x4_1.1) (fun x4_1=>[⟨[.str a0,w34 a1,.i x4_1.2,.i a3],4,false⟩,Q1]) (atN 2 (ctl1 i24p4)) 16 [0] [] [] [] [] [.ptr 0 4 0,.str [99,97,115,101]] (qAg k ([99,97,115,101]:List Nat) a0 a1 x0_1.2 a3) trivial (fun _=>trivial) trivial fun x4_1 hx4_1=>?_
  refine oR 2 i24p6 ((14,.bool x4_1.1) :: (16,.bool x4_1.1) :: (15,.ptr 0 4 0) :: (5,.bool false) :: E1) ?_
  refine oS 14 (fun hb=>?_) (fun hb=>?_)
  ·let E4:Env:=((17,.ptr 0 4 0) :: (14,.bool true) :: (14,.bool x4_1.1) :: (16,.bool x4_1.1) :: (15,.ptr 0 4 0) :: (5,.bool false) :: E1)
   refine oR 4 (atN 1 (ctl1 i24p9)) E4 ?_
   refine oX (fun (x5_1:(S28 × Int))=>n29 x5_1.1) (fun x5_1=>[⟨[.str a0,w34 a1,.i x5_1.2,.i a3],4,false⟩,Q1]) (atN 2 (ctl1 i24p9)) 18 [0] [] [] [0] [] [.ptr 0 4 0,.i 0] (hF.i5_ok (0:Int) a0 a1 x4_1.2 a3) trivial (fun _=>trivial) trivial fun x5_1 hx5_1=>?_
   let Q2:Blk:=⟨[.str a0,w34 a1,.i x5_1.2,.i a3],4,false⟩
   refine oH 1 (atN 3 (ctl1 i24p9)) ((19,.slice 2 7 0 1 7) :: (18,n29 x5_1.1) :: E4) (mkH [Q2,Q1,⟨e29 x5_1.1,0,false⟩]) ?_
   refine qCp 19 2 7 1 7 (by kernel_rfl) rfl ?_
   let E6:Env:=[(0,.ptr 0 4 0),(2,.ptr 1 7 0),(3,.ptr 3 7 0)]
   let Q3:Blk:=⟨(([x5_1.1]:List S28)).flatMap e29,0,false⟩
   let Q4:Blk:=⟨[.i 18,.str [],.own 2 (([x5_1.1]:List S28)).length 7,.bool false,.bool false,.nils,.nils],7,false⟩
   refine oLH 5 i24p12 E6 (mkH [Q2,Q1,Q3,Q4]) ?_
   refine oR 2 (atN 1 (ctl1 i24p12)) ((21,.ptr 0 4 0) :: E6) ?_
   refine oX (fun (x6_1:Int) => .tuple []) (fun x6_1=>[⟨[.str a0,w34 a1,.i x6_1,.i a3],4,false⟩,Q1,Q3,Q4]) (atN 2 (ctl1 i24p12)) 22 [0] [] [] [0,3] [0,0,1] [.ptr 0 4 0,.str [111,102]] (qAt k ([111,102]:List Nat) a0 a1 x5_1.2 a3) trivial (fun _=>trivial) ⟨u29 _,trivial⟩ fun x6_1 hx6_1=>?_
   refine oR 7 (atN 4 (ctl1 i24p14)) ((26,.func 100 [.ptr 0 4 0] []) :: (25,.ptr 0 4 0) :: (24,.agg [.i 18,.str [],.own 2 (([x5_1.1]:List S28)).length 7,.bool false,.bool false,.nils,.nils]) :: (23,.ptr 0 4 0) :: (22,.tuple []) :: (21,.ptr 0 4 0) :: E6) ?_
   refine oXW 0 [⟨[.str a0,w34 a1,.i x6_1,.i a3],4,false⟩,Q1,Q3,Q4] (fun (x7_4:Ri36) => .agg [.i x7_4.1,.str x7_4.2.1,.own 2 (x7_4.2.2.2.2.2.2.2).length 7,.bool x7_4.2.2.1,.bool x7_4.2.2.2.1,w9 x7_4.2.2.2.2.1,w9 x7_4.2.2.2.2.2.1]) (fun x7_4=>[⟨[.str a0,w34 a1,.i x7_4.2.2.2.2.2.2.1,.i a3],4,false⟩,Q1,⟨(x7_4.2.2.2.2.2.2.2).flatMap e29,0,false⟩,Q4]) (atN 5 (ctl1 i24p14)) 27 [0,2] [0,1] [0,1] [0,2,3] [] [0,0,1] [.ptr 0 4 0,.agg [.i 18,.str [],.own 2 (([x5_1.1]:List S28)).length 7,.bool false,.bool false,.nils,.nils],.func 100 [.ptr 0 4 0] []] [.ptr 0 4 0,.agg [.i 18,.str [],.own 2 (([x5_1.1]:List S28)).length 7,.bool false,.bool false,w9 ([]:List (List Nat)),w9 ([]:List (List Nat))],.func 100 [.ptr 0 4 0] []] (.cons (.agg (.cons (.cons (.cons (.cons (.cons (.nil (.nil (.refl)))))))) (.refl))) (hF.i36_ok (18:Int) ([]:List Nat) false false ([]:List (List Nat)) ([]:List (List Nat)) a0 a1 x6_1 a3 ([x5_1.1]:List S28)) ⟨u29 _,trivial⟩ (fun _=>⟨u29 _,trivial⟩) trivial fun x7_4 hx7_4=>?_
   exact oQF 3 [⟨[.str a0,w34 a1,.i x7_4.2.2.2.2.2.2.1,.i a3],4,false⟩,⟨[.i x7_4.1,.str x7_4.2.1,.own 2 (x7_4.2.2.2.2.2.2.2).length 7,.bool x7_4.2.2.1,.bool x7_4.2.2.2.1,w9 x7_4.2.2.2.2.1,w9 x7_4.2.2.2.2.2.1],7,false⟩,⟨(x7_4.2.2.2.2.2.2.2).flatMap e29,0,false⟩,Q4] 1 [] [.agg [.i x7_4.1,.str x7_4.2.1,.own 2 (x7_4.2.2.2.2.2.2.2).length 7,.bool x7_4.2.2.1,.bool x7_4.2.2.2.1,w9 x7_4.2.2.2.2.1,w9 x7_4.2.2.2.2.2.1]] (.agg [.i x7_4.1,.str x7_4.2.1,w29 x7_4.2.2.2.2.2.2.2,.bool x7_4.2.2.1,.bool x7_4.2.2.2.1,w9 x7_4.2.2.2.2.1,w9 x7_4.2.2.2.2.2.1]) (.agg (.cs (.cs (qAq qA6 qAe rfl rfl rfl .ps))) .ps) trivial
  ·refine oR 4 (atN 1 (ctl1 i24p10)) ((29,.ptr 0 4 0) :: (14,.bool false) :: (14,.bool x4_1.1) :: (16,.bool x4_1.1) :: (15,.ptr 0 4 0) :: (5,.bool false) :: E1) ?_
   refine oX (fun (x8_1:(Bool × Int)) => .bool x8_1.1) (fun x8_1=>[⟨[.str a0,w34 a1,.i x8_1.2,.i a3],4,false⟩,Q1]) (atN 2 (ctl1 i24p10)) 30 [0] [] [] [] [] [.ptr 0 4 0,.str [105,102]] (qAg k ([105,102]:List Nat) a0 a1 x4_1.2 a3) trivial (fun _=>trivial) trivial fun x8_1 hx8_1=>?_
   refine oL 2 i24p13 [(0,.ptr 0 4 0),(2,.ptr 1 7 0),(28,.bool x8_1.1)] ?_
   let E9:Env:=[(0,.ptr 0 4 0),(2,.ptr 1 7 0),(28,.bool x8_1.1)]
   refine oS 28 (fun hb=>?_) (fun hb=>?_)
   ·refine oR 7 (atN 4 (ctl1 i24p15)) ((34,.func 101 [.ptr 0 4 0] []) :: (33,.ptr 0 4 0) :: (32,.agg [.i 19,.str [],.nils,.bool false,.bool false,.nils,.nils]) :: (31,.ptr 0 4 0) :: (28,.bool true) :: E9) ?_
    refine oXW 1 [⟨[.str a0,w34 a1,.i x8_1.2,.i a3],4,false⟩,Q1,⟨(([]:List S28)).flatMap e29,0,false⟩] (fun (x9_4:Ri37) => .agg [.i x9_4.1,.str x9_4.2.1,.own 2 (x9_4.2.2.2.2.2.2.2).length 7,.bool x9_4.2.2.1,.bool x9_4.2.2.2.1,w9 x9_4.2.2.2.2.1,w9 x9_4.2.2.2.2.2.1]) (fun x9_4=>[⟨[.str a0,w34 a1,.i x9_4.2.2.2.2.2.2.1,.i a3],4,false⟩,Q1,⟨(x9_4.2.2.2.2.2.2.2).flatMap e29,0,false⟩]) (atN 5 (ctl1 i24p15)) 35 [0,2] [0,1] [0,1] [0,2] [] [0,0,1] [.ptr 0 4 0,.agg [.i 19,.str [],.nils,.bool false,.bool false,.nils,.nils],.func 101 [.ptr 0 4 0] []] [.ptr 0 4 0,.agg [.i 19,.str [],.own 2 (([]:List S28)).length 7,.bool false,.bool false,w9 ([]:List (List Nat)),w9 ([]:List (List Nat))],.func 101 [.ptr 0 4 0] []] (.cons (.agg (.cons (.cons (.none (.cons (.cons (.nil (.nil (.refl)))))))) (.refl))) (hF.i37_ok (19:Int) ([]:List Nat) false false ([]:List (List Nat)) ([]:List (List Nat)) a0 a1 x8_1.2 a3 ([]:List S28)) ⟨u29 _,trivial⟩ (fun _=>⟨u29 _,trivial⟩) trivial fun x9_4 hx9_4=>?_
    exact oQF 3 [⟨[.str a0,w34 a1,.i x9_4.2.2.2.2.2.2.1,.i a3],4,false⟩,⟨[.i x9_4.1,.str x9_4.2.1,.own 2 (x9_4.2.2.2.2.2.2.2).length 7,.bool x9_4.2.2.1,.bool x9_4.2.2.2.1,w9 x9_4.2.2.2.2.1,w9 x9_4.2.2.2.2.2.1],7,false⟩,⟨(x9_4.2.2.2.2.2.2.2).flatMap e29,0,false⟩] 1 [] [.agg [.i x9_4.1,.str x9_4.2.1,.own 2 (x9_4.2.2.2.2.2.2.2).length 7,.bool x9_4.2.2.1,.bool x9_4.2.2.2.1,w9 x9_4.2.2.2.2.1,w9 x9_4.2.2.2.2.2.1]] (.agg [.i x9_4.1,.str x9_4.2.1,w29 x9_4.2.2.2.2.2.2.2,.bool x9_4.2.2.1,.bool x9_4.2.2.2.1,w9 x9_4.2.2.2.2.1,w9 x9_4.2.2.2.2.2.1]) (.agg (.cs (.cs (qAq qA6 qAe rfl rfl rfl .ps))) .ps) trivial
   ·refine oR 4 (atN 1 (ctl1 i24p16)) ((37,.ptr 0 4 0) :: (28,.bool false) :: E9) ?_
    refine oX (fun (x10_1:(Bool × Int)) => .bool x10_1.1) (fun x10_1=>[⟨[.str a0,w34 a1,.i x10_1.2,.i a3],4,false⟩,Q1]) (atN 2 (ctl1 i24p16)) 38 [0] [] [] [] [] [.ptr 0 4 0,.str i24c0] (qAg k i24c0 a0 a1 x8_1.2 a3) trivial (fun _=>trivial) trivial fun x10_1 hx10_1=>?_
    refine oR 2 i24p17 ((36,.bool x10_1.1) :: (38,.bool x10_1.1) :: (37,.ptr 0 4 0) :: (28,.bool false) :: E9) ?_
    refine oS 36 (fun hb=>?_) (fun hb=>?_)
    ·refine oR 4 (atN 1 (ctl1 i24p18)) ((39,.ptr 0 4 0) :: (36,.bool true) :: (36,.bool x10_1.1) :: (38,.bool x10_1.1) :: (37,.ptr 0 4 0) :: (28,.bool false) :: E9) ?_
     refine oX (fun (x11_1:(S28 × Int))=>n29 x11_1.1) (fun x11_1=>[⟨[.str a0,w34 a1,.i x11_1.2,.i a3],4,false⟩,Q1]) (atN 2 (ctl1 i24p18)) 40 [0] [] [] [0] [] [.ptr 0 4 0] (hF.i38_ok a0 a1 x10_1.2 a3) trivial (fun _=>trivial) trivial fun x11_1 hx11_1=>?_
     exact oQF 3 [⟨[.str a0,w34 a1,.i x11_1.2,.i a3],4,false⟩,⟨e29 x11_1.1,7,false⟩] 1 [] [n29 x11_1.1] (n29 x11_1.1) .ps trivial
    ·refine oR 5 (atN 1 (ctl1 i24p19)) ((41,.ptr 0 4 0) :: (36,.bool false) :: (36,.bool x10_1.1) :: (38,.bool x10_1.1) :: (37,.ptr 0 4 0) :: (28,.bool false) :: E9) ?_
     refine oX (fun (x12_1:Int) => .tuple []) (fun x12_1=>[⟨[.str a0,w34 a1,.i x12_1,.i a3],4,false⟩,Q1]) (atN 2 (ctl1 i24p19)) 42 [0] [] [] [0] [] [.ptr 0 4 0,.str i24c1] (qAt k i24c1 a0 a1 x10_1.2 a3) trivial (fun _=>trivial) trivial fun x12_1 hx12_1=>?_
     refine oL 2 i24p20 [(0,.ptr 0 4 0),(2,.ptr 1 7 0)] ?_
     let E13:Env:=[(0,.ptr 0 4 0),(2,.ptr 1 7 0)]
     refine oR 2 (atN 1 (ctl1 i24p20)) ((43,.ptr 0 4 0) :: E13) ?_
     refine oX (fun (x13_1:(S28 × Int))=>n29 x13_1.1) (fun x13_1=>[⟨[.str a0,w34 a1,.i x13_1.2,.i a3],4,false⟩,Q1]) (atN 2 (ctl1 i24p20)) 44 [0] [] [] [0] [] [.ptr 0 4 0] (hF.i6_ok a0 a1 x12_1 a3) trivial (fun _=>trivial) trivial fun x13_1 hx13_1=>?_
     let Q5:Blk:=⟨[.str a0,w34 a1,.i x13_1.2,.i a3],4,false⟩
     refine oH 1 (atN 3 (ctl1 i24p20)) ((45,.slice 2 7 0 1 7) :: (44,n29 x13_1.1) :: (43,.ptr 0 4 0) :: E13) (mkH [Q5,Q1,⟨e29 x13_1.1,0,false⟩]) ?_
     refine oZ 45 2 1 7 [.i x13_1.1.f0,.str x13_1.1.f1,q29 x13_1.1.f2,.bool x13_1.1.f3,.bool x13_1.1.f4,w9 x13_1.1.f5,w9 x13_1.1.f6] [0,2,43,44] [] trivial ?_
     let Q6:Blk:=⟨[.i 21,.str [],w29 ([x13_1.1]:List S28),.bool false,.bool false,.nils,.nils],7,false⟩
     refine oH 7 (atN 1 (ctl1 i24p21)) [(47,.ptr 0 4 0),(4,.ptr 3 7 0),(46,.agg [.i 21,.str [],w29 ([x13_1.1]:List S28),.bool false,.bool false,.nils,.nils]),(45,w29 ([x13_1.1]:List S28)),(0,.ptr 0 4 0),(2,.ptr 1 7 0),(43,.ptr 0 4 0),(44,n29 x13_1.1)] (mkH [Q5,Q1,⟨[],0,false⟩,Q6]) ?_
     refine oN (fun (x14_1:Ri12)=>w9 x14_1.1) (fun x14_1=>[⟨[.str a0,w34 a1,.i x14_1.2,.i a3],4,false⟩,Q1,⟨[],0,false⟩,Q6]) (atN 2 (ctl1 i24p21)) 48 [0] [] [] [.ptr 0 4 0] (qAh k a0 a1 x13_1.2 a3) trivial (fun _=>trivial) fun x14_1 hx14_1=>?_
     let Q7:Blk:=⟨[.i 21,.str [],w29 ([x13_1.1]:List S28),.bool false,.bool false,.nils,w9 x14_1.1],7,false⟩
     refine oLH 4 i24p22 [(0,.ptr 0 4 0),(2,.ptr 1 7 0),(4,.ptr 3 7 0)] (mkH [⟨[.str a0,w34 a1,.i x14_1.2,.i a3],4,false⟩,Q1,⟨[],0,false⟩,Q7]) ?_
     refine oR 2 (atN 1 (ctl1 i24p22)) ((50,.ptr 0 4 0) :: [(0,.ptr 0 4 0),(2,.ptr 1 7 0),(4,.ptr 3 7 0)]) ?_
     refine oX (fun (x15_1:Int) => .tuple []) (fun x15_1=>[⟨[.str a0,w34 a1,.i x15_1,.i a3],4,false⟩,Q1,⟨[],0,false⟩,Q7]) (atN 2 (ctl1 i24p22)) 51 [0] [] [] [0] [] [.ptr 0 4 0,.str [101,110,100]] (qAt k ([101,110,100]:List Nat) a0 a1 x14_1.2 a3) trivial (fun _=>trivial) trivial fun x15_1 hx15_1=>?_
     exact oQF 7 [⟨[.str a0,w34 a1,.i x15_1,.i a3],4,false⟩,Q7,⟨[],0,false⟩,Q7] 1 [] [.agg [.i 21,.str [],w29 ([x13_1.1]:List S28),.bool false,.bool false,.nils,w9 x14_1.1]] (.agg [.i 21,.str [],w29 ([x13_1.1]:List S28),.bool false,.bool false,.vec 0 1 [],w9 x14_1.1]) (.agg (.cs (.cs (.cs (.cs (.cs (.nil .ps)))))) .ps) trivial
theorem i24B_ok (k:Nat) (F:Fns0) (hF:FnsOk0 F):Pi24 (i24B k F):=fun a0 a1 a2 a3=>⟨fun x h=>qKl k F hF a0 a1 a2 a3 (some x) h,fun h=>⟨_,qKl k F hF a0 a1 a2 a3 none h⟩⟩
def i25p1:Pt:=nav [0,0,0,0] (nav [0] (bodyAt Try.f86))
def i25p2:Pt:=nav [0,0] i25p1
def i25p3:Pt:=nav [1,0] i25p2
def i25p4:Pt:=nav [2,0,0] i25p2
def i25B (k:Nat) (F:Fns0) (a0:(List Nat)) (a1:(List S33)) (a2:Int) (a3:Int):Option (Option (S28 × Int)) :=
 bT (i7 k ([40]:List Nat) a0 a1 a2 a3) fun x0_1=>if x0_1.1 then (bT (F.i17 a0 a1 x0_1.2 a3) fun x1_1=>some (some (x1_1.1,x1_1.2))) else (bT (i22 k a0 a1 x0_1.2 a3) fun x2_1=>some (some ((⟨(1:Int),x2_1.1,⟨0,[]⟩,false,false,([]:List (List Nat)),([]:List (List Nat))⟩:S28),x2_1.2)))
theorem qKk (k:Nat) (F:Fns0) (hF:FnsOk0 F):∀ a0 a1 a2 a3 r,i25B k F a0 a1 a2 a3 = some r → CallT Try.prog 86 [.ptr 0 4 0] (mkH [⟨[.str a0,w34 a1,.i a2,.i a3],4,false⟩]) ((Xi25 a0 a1 a2 a3).thr r) ((Xi25 a0 a1 a2 a3).enc r) ((Xi25 a0 a1 a2 a3).fin r):=by
 intro a0 a1 a2 a3 r h
 refine qA2 (Xi25 a0 a1 a2 a3) Try.func86 (by kernel_rfl) (by kernel_rfl) rfl (t:=i25B k F a0 a1 a2 a3) ?_ h
 unfold i25B
 refine qA (eE:=[(0,.ptr 0 4 0)]) (by kernel_rfl) ?_
 let Q1:Blk:=⟨[.i 0,.str [],.nils,.bool false,.bool false,.nils,.nils],0,false⟩
 refine oH 8 (atN 1 (ctl1 i25p1)) [(3,.ptr 0 4 0),(2,.ptr 1 7 0),(0,.ptr 0 4 0)] (mkH [⟨[.str a0,w34 a1,.i a2,.i a3],4,false⟩,Q1]) ?_
 refine oX (fun (x0_1:(Bool × Int)) => .bool x0_1.1) (fun x0_1=>[⟨[.str a0,w34 a1,.i x0_1.2,.i a3],4,false⟩,Q1]) (atN 2 (ctl1 i25p1)) 4 [0] [] [] [] [] [.ptr 0 4 0,.str [40]] (qAg k ([40]:List Nat) a0 a1 a2 a3) trivial (fun _=>trivial) trivial fun x0_1 hx0_1=>?_
 refine oR 1 i25p2 [(4,.bool x0_1.1),(3,.ptr 0 4 0),(2,.ptr 1 7 0),(0,.ptr 0 4 0)] ?_
 refine oS 4 (fun hb=>?_) (fun hb=>?_)
 ·refine oR 4 (atN 1 (ctl1 i25p3)) [(5,.ptr 0 4 0),(4,.bool true),(4,.bool x0_1.1),(3,.ptr 0 4 0),(2,.ptr 1 7 0),(0,.ptr 0 4 0)] ?_
  refine oX (fun (x1_1:(S28 × Int))=>n29 x1_1.1) (fun x1_1=>[⟨[.str a0,w34 a1,.i x1_1.2,.i a3],4,false⟩,Q1]) (atN 2 (ctl1 i25p3)) 6 [0] [] [] [0] [] [.ptr 0 4 0] (hF.i17_ok a0 a1 x0_1.2 a3) trivial (fun _=>trivial) trivial fun x1_1 hx1_1=>?_
  exact oQF 3 [⟨[.str a0,w34 a1,.i x1_1.2,.i a3],4,false⟩,⟨e29 x1_1.1,7,false⟩] 1 [] [n29 x1_1.1] (n29 x1_1.1) .ps trivial
 ·refine oR 5 (atN 1 (ctl1 i25p4)) [(7,.ptr 0 4 0),(4,.bool false),(4,.bool x0_1.1),(3,.ptr 0 4 0),(2,.ptr 1 7 0),(0,.ptr 0 4 0)] ?_
  refine oX (fun (x2_1:Ri22) => .str x2_1.1) (fun x2_1=>[⟨[.str a0,w34 a1,.i x2_1.2,.i a3],4,false⟩,Q1]) (atN 2 (ctl1 i25p4)) 8 [0] [] [] [] [] [.ptr 0 4 0] (qH8 k a0 a1 x0_1.2 a3) trivial (fun _=>trivial) trivial fun x2_1 hx2_1=>?_
  exact oQF 4 [⟨[.str a0,w34 a1,.i x2_1.2,.i a3],4,false⟩,⟨[.i 1,.str x2_1.1,.nils,.bool false,.bool false,.nils,.nils],7,false⟩] 1 [] [.agg [.i 1,.str x2_1.1,.nils,.bool false,.bool false,.nils,.nils]] (.agg [.i 1,.str x2_1.1,.vec 0 7 [],.bool false,.bool false,.vec 0 1 [],.vec 0 1 []]) (.agg (.cs (.cs (.nil (.cs (.cs (.nil (.nil .ps))))))) .ps) trivial
theorem i25B_ok (k:Nat) (F:Fns0) (hF:FnsOk0 F):Pi25 (i25B k F):=fun a0 a1 a2 a3=>⟨fun x h=>qKk k F hF a0 a1 a2 a3 (some x) h,fun h=>⟨_,qKk k F hF a0 a1 a2 a3 none h⟩⟩
def i26p1:Pt:=nav [0,0,0,0] (nav [0] (bodyAt Try.f87))
def i26p2:Pt:=nav [0,0] i26p1
def i26p3:Pt:=nav [1,0] i26p2
def i26p4:Pt:=nav [2,0,0] i26p2
def i26p6:Pt:=nav [0,0,0,0] i26p4
def i26p7:Pt:=nav [0,0] i26p6
def i26p8:Pt:=nav [1,0] i26p7
def i26p9:Pt:=nav [2,0,0] i26p7
def i26p10:Pt:=nav [0,0,0] i26p9
def i26d0:DP:=⟨[22,26],[(0,0,0),(1,0,0),(0,0,0),(0,0,0),(12,0,0),(31,0,0),(0,0,1),(64,0,0),(255,0,0),(511,0,0)],10,thrown,[],H0⟩
def i26B (k:Nat) (F:Fns0) (a0:S28) (a1:(List Nat)) (a2:(List S33)) (a3:Int) (a4:Int):Option (Option (S28 × Int)) :=
 bT (i7 k ([123]:List Nat) a1 a2 a3 a4) fun x0_1=>if x0_1.1 then (bT (F.i21 (9:Int) ([]:List Nat) false false ([]:List (List Nat)) ([]:List (List Nat)) ([125]:List Nat) a1 a2 x0_1.2 a4 ([a0]:List S28)) fun x1_6=>some (some ((⟨x1_6.1,x1_6.2.1,⟨(x1_6.2.2.2.2.2.2.2).length,(x1_6.2.2.2.2.2.2.2).flatMap e29⟩,x1_6.2.2.1,x1_6.2.2.2.1,x1_6.2.2.2.2.1,x1_6.2.2.2.2.2.1⟩:S28),x1_6.2.2.2.2.2.2.1))) else (bT (i22 k a1 a2 x0_1.2 a4) fun x2_1=>bT (i7 k ([46]:List Nat) a1 a2 x2_1.2 a4) fun x3_1=>if x3_1.1 then ((catS x2_1.1 ([46]:List Nat)).bind fun x4_1=>bT (i33 k ([(1:Int)]:List Int) a1 a2 x3_1.2 a4) fun x4_4=>(catS x4_1 x4_4.1).bind fun x4_5=>some (some ((⟨(12:Int),x4_5,⟨(([a0]:List S28)).length,(([a0]:List S28)).flatMap e29⟩,false,false,([]:List (List Nat)),([]:List (List Nat))⟩:S28),x4_4.2))) else (bT (i23 k ([123]:List Nat) a1 a2 x3_1.2 a4) fun x5_1=>bT (F.i18 (11:Int) x2_1.1 false false ([]:List (List Nat)) ([]:List (List Nat)) ([125]:List Nat) a1 a2 x5_1 a4 ([a0]:List S28)) fun x6_7=>some (some ((⟨x6_7.1,x6_7.2.1,⟨(x6_7.2.2.2.2.2.2.2).length,(x6_7.2.2.2.2.2.2.2).flatMap e29⟩,x6_7.2.2.1,x6_7.2.2.2.1,x6_7.2.2.2.2.1,x6_7.2.2.2.2.2.1⟩:S28),x6_7.2.2.2.2.2.2.1))))
theorem qKj (k:Nat) (F:Fns0) (hF:FnsOk0 F):∀ a0 a1 a2 a3 a4 r,i26B k F a0 a1 a2 a3 a4 = some r → CallT Try.prog 87 [.ptr 0 4 0,.agg [.i a0.f0,.str a0.f1,q29 a0.f2,.bool a0.f3,.bool a0.f4,w9 a0.f5,w9 a0.f6]] (mkH [⟨[.str a1,w34 a2,.i a3,.i a4],4,false⟩]) ((Xi26 a0 a1 a2 a3 a4).thr r) ((Xi26 a0 a1 a2 a3 a4).enc r) ((Xi26 a0 a1 a2 a3 a4).fin r):=by
 intro a0 a1 a2 a3 a4 r h
 refine qA2 (Xi26 a0 a1 a2 a3 a4) Try.func87 (by kernel_rfl) (by kernel_rfl) rfl (t:=i26B k F a0 a1 a2 a3 a4) ?_ h
 unfold i26B
 refine qA (eE:=[(0,.ptr 0 4 0),(1,.agg [.i a0.f0,.str a0.f1,q29 a0.f2,.bool a0.f3,.bool a0.f4,w9 a0.f5,w9 a0.f6])]) (by kernel_rfl) ?_
 let E1:Env:=[(6,.ptr 0 4 0),(4,.ptr 2 7 0),(3,.ptr 1 7 0),(0,.ptr 0 4 0),(1,n29 a0)]
 let Q1:Blk:=⟨[.str a1,w34 a2,.i a3,.i a4],4,false⟩
 let Q2:Blk:=⟨[.i 0,.str [],.nils,.bool false,.bool false,.nils,.nils],0,false⟩
 refine oH 9 (atN 1 (ctl1 i26p1)) E1 (mkH [Q1,⟨e29 a0,0,false⟩,Q2]) ?_
 refine oX (fun (x0_1:(Bool × Int)) => .bool x0_1.1) (fun x0_1=>[⟨[.str a1,w34 a2,.i x0_1.2,.i a4],4,false⟩,⟨e29 a0,0,false⟩,Q2]) (atN 2 (ctl1 i26p1)) 7 [0] [] [] [] [] [.ptr 0 4 0,.str [123]] (qAg k ([123]:List Nat) a1 a2 a3 a4) trivial (fun _=>trivial) trivial fun x0_1 hx0_1=>?_
 refine oR 1 i26p2 ((7,.bool x0_1.1) :: E1) ?_
 refine oS 7 (fun hb=>?_) (fun hb=>?_)
 ·let E2:Env:=((10,.slice 3 7 0 1 7) :: (9,n29 a0) :: (8,.ptr 0 4 0) :: (7,.bool true) :: (7,.bool x0_1.1) :: E1)
  let Q3:Blk:=⟨[.str a1,w34 a2,.i x0_1.2,.i a4],4,false⟩
  refine oH 6 (atN 3 (ctl1 i26p3)) E2 (mkH [Q3,⟨e29 a0,0,false⟩,Q2,⟨e29 a0,0,false⟩]) ?_
  refine qCp 10 3 7 1 7 (by kernel_rfl) rfl ?_
  let Q4:Blk:=⟨(([a0]:List S28)).flatMap e29,0,false⟩
  refine oH 3 (atN 6 (ctl1 i26p3)) ((13,.func 81 [.ptr 0 4 0] []) :: (12,.ptr 0 4 0) :: (11,.agg [.i 9,.str [],.own 3 (([a0]:List S28)).length 7,.bool false,.bool false,.nils,.nils]) :: (10,.own 3 (([a0]:List S28)).length 7) :: E2) (mkH [Q3,⟨e29 a0,0,false⟩,Q2,Q4]) ?_
  refine oXW 0 [Q3,⟨e29 a0,0,false⟩,Q2,Q4] (fun (x1_6:Ri21) => .agg [.i x1_6.1,.str x1_6.2.1,.own 3 (x1_6.2.2.2.2.2.2.2).length 7,.bool x1_6.2.2.1,.bool x1_6.2.2.2.1,w9 x1_6.2.2.2.2.1,w9 x1_6.2.2.2.2.2.1]) (fun x1_6=>[⟨[.str a1,w34 a2,.i x1_6.2.2.2.2.2.2.1,.i a4],4,false⟩,⟨e29 a0,0,false⟩,Q2,⟨(x1_6.2.2.2.2.2.2.2).flatMap e29,0,false⟩]) (atN 7 (ctl1 i26p3)) 14 [0,3] [0,1] [0,1] [0,3] [] [0,0,0,1] [.ptr 0 4 0,.agg [.i 9,.str [],.own 3 (([a0]:List S28)).length 7,.bool false,.bool false,.nils,.nils],.str [125],.func 81 [.ptr 0 4 0] []] [.ptr 0 4 0,.agg [.i 9,.str [],.own 3 (([a0]:List S28)).length 7,.bool false,.bool false,w9 ([]:List (List Nat)),w9 ([]:List (List Nat))],.str [125],.func 81 [.ptr 0 4 0] []] (.cons (.agg (.cons (.cons (.cons (.cons (.cons (.nil (.nil (.refl)))))))) (.refl))) (hF.i21_ok (9:Int) ([]:List Nat) false false ([]:List (List Nat)) ([]:List (List Nat)) ([125]:List Nat) a1 a2 x0_1.2 a4 ([a0]:List S28)) ⟨u29 _,trivial⟩ (fun _=>⟨u29 _,trivial⟩) trivial fun x1_6 hx1_6=>?_
  exact oQF 3 [⟨[.str a1,w34 a2,.i x1_6.2.2.2.2.2.2.1,.i a4],4,false⟩,⟨e29 a0,0,false⟩,⟨[.i x1_6.1,.str x1_6.2.1,.own 3 (x1_6.2.2.2.2.2.2.2).length 7,.bool x1_6.2.2.1,.bool x1_6.2.2.2.1,w9 x1_6.2.2.2.2.1,w9 x1_6.2.2.2.2.2.1],7,false⟩,⟨(x1_6.2.2.2.2.2.2.2).flatMap e29,0,false⟩] 1 [] [.agg [.i x1_6.1,.str x1_6.2.1,.own 3 (x1_6.2.2.2.2.2.2.2).length 7,.bool x1_6.2.2.1,.bool x1_6.2.2.2.1,w9 x1_6.2.2.2.2.1,w9 x1_6.2.2.2.2.2.1]] (.agg [.i x1_6.1,.str x1_6.2.1,w29 x1_6.2.2.2.2.2.2.2,.bool x1_6.2.2.1,.bool x1_6.2.2.2.1,w9 x1_6.2.2.2.2.1,w9 x1_6.2.2.2.2.2.1]) (.agg (.cs (.cs (qAq qA6 qAe rfl rfl rfl .ps))) .ps) trivial
 ·refine oR 5 (atN 1 (ctl1 i26p4)) ((15,.ptr 0 4 0) :: (7,.bool false) :: (7,.bool x0_1.1) :: E1) ?_
  refine oX (fun (x2_1:Ri22) => .str x2_1.1) (fun x2_1=>[⟨[.str a1,w34 a2,.i x2_1.2,.i a4],4,false⟩,⟨e29 a0,0,false⟩,Q2]) (atN 2 (ctl1 i26p4)) 16 [0] [] [] [] [] [.ptr 0 4 0] (qH8 k a1 a2 x0_1.2 a4) trivial (fun _=>trivial) trivial fun x2_1 hx2_1=>?_
  let E4:Env:=((17,.ptr 0 4 0) :: (5,.str x2_1.1) :: (16,.str x2_1.1) :: (15,.ptr 0 4 0) :: (7,.bool false) :: (7,.bool x0_1.1) :: E1)
  refine oR 6 (atN 1 (ctl1 i26p6)) E4 ?_
  refine oX (fun (x3_1:(Bool × Int)) => .bool x3_1.1) (fun x3_1=>[⟨[.str a1,w34 a2,.i x3_1.2,.i a4],4,false⟩,⟨e29 a0,0,false⟩,Q2]) (atN 2 (ctl1 i26p6)) 18 [0] [] [] [] [] [.ptr 0 4 0,.str [46]] (qAg k ([46]:List Nat) a1 a2 x2_1.2 a4) trivial (fun _=>trivial) trivial fun x3_1 hx3_1=>?_
  refine oR 1 i26p7 ((18,.bool x3_1.1) :: E4) ?_
  refine oK [0,3,4,5,18] [(0,.ptr 0 4 0),(3,.ptr 1 7 0),(4,.ptr 2 7 0),(5,.str x2_1.1),(18,.bool x3_1.1)] ?_
  let E5:Env:=keepOnly ((18,.bool x3_1.1) :: E4) [0,3,4,5,18]
  refine oS 18 (fun hb=>?_) (fun hb=>?_)
  ·refine oR 2 i26p8 ((18,.bool true) :: E5) ?_
   refine qA7 (fun x4_1 hx4_1=>?_)
   refine qC6 (fun h=>?_) (fun x4_4 hx4_4=>?_)
   ·let E6:Env:=[(19,.str x2_1.1),(18,.bool true),(0,.ptr 0 4 0),(3,.ptr 1 7 0),(4,.ptr 2 7 0),(5,.str x2_1.1),(18,.bool x3_1.1)]
    let E7:Env:=((24,.top) :: (23,.top) :: (22,w3 ([(1:Int)]:List Int)) :: (21,.ptr 0 4 0) :: (20,.str x4_1) :: E6)
    let Q5:Blk:=⟨[.str a1,w34 a2,.i x3_1.2,.i a4],4,false⟩
    exact qAj (eE:=((27,.top) :: (26,w29 ([a0]:List S28)) :: (25,n29 a0) :: E7)) (i26d0.th 4 thrown [] (mkH [Q5,⟨e29 a0,0,false⟩,Q2])) (hs:=[(mkH [Q5,⟨e29 a0,0,false⟩,Q2]),(mkH [Q5,⟨e29 a0,0,false⟩,Q2])]) (LX:=[Q1]) (L:=[Q5,⟨e29 a0,0,false⟩,Q2]) rfl rfl rfl (by kernel_rfl) rfl ⟨.inl rfl,trivial⟩ (by kernel_rfl) (by kernel_rfl) (by kernel_rfl) (by kernel_rfl) (qA8 1 (l':=(opsAt i26p8).toList.drop 1) (eE:=E6) (H':=(mkH [Q5,⟨e29 a0,0,false⟩,Q2])) (hs:=[]) (by kernel_rfl) (qA9 (l':=(opsAt i26p8).toList.drop 2) (eE:=((20,.str x4_1) :: E6)) (hs:=[]) (x:=x4_1) (fun (x4_1:(List Nat))=>(.str x4_1,(mkH [Q5,⟨e29 a0,0,false⟩,Q2]))) (catH (by kernel_rfl)) hx4_1 (by kernel_rfl) (qA8 2 (l':=(opsAt i26p8).toList.drop 4) (eE:=((22,w3 ([(1:Int)]:List Int)) :: (21,.ptr 0 4 0) :: (20,.str x4_1) :: E6)) (H':=(mkH [Q5,⟨e29 a0,0,false⟩,Q2])) (hs:=[]) (by kernel_rfl) (qAi (l':=(opsAt i26p8).toList.drop 5) (eE:=((23,.top) :: (22,w3 ([(1:Int)]:List Int)) :: (21,.ptr 0 4 0) :: (20,.str x4_1) :: E6)) (hs:=[(mkH [Q5,⟨e29 a0,0,false⟩,Q2])]) (fi:=96) (args:=[.ptr 0 4 0,w3 ([(1:Int)]:List Int)]) (by kernel_rfl) (by kernel_rfl) (frS 0 (M:=[Q5,⟨e29 a0,0,false⟩,Q2]) (rs:=[0]) (ms:=[]) (mv:=[]) (mm:=[]) (D:=[]) (xs':=[.ptr 0 4 0,w3 ([(1:Int)]:List Int)]) (.refl) ((qF3 k ([(1:Int)]:List Int) a1 a2 x3_1.2 a4).2 h) trivial trivial (by kernel_rfl)) (by kernel_rfl) (qA1 (l':=(opsAt i26p8).toList.drop 6) (eE:=E7) (hs:=[]) (by kernel_rfl) (by kernel_rfl) (qA8 2 (l':=(opsAt i26p8).toList.drop 8) (eE:=((26,w29 ([a0]:List S28)) :: (25,n29 a0) :: E7)) (H':=(mkH [Q5,⟨e29 a0,0,false⟩,Q2])) (hs:=[]) (by kernel_rfl) (qA1 (l':=(opsAt i26p8).toList.drop 9) (eE:=((27,.top) :: (26,w29 ([a0]:List S28)) :: (25,n29 a0) :: E7)) (hs:=[]) (by kernel_rfl) (by kernel_rfl) (qA1 (l':=(opsAt i26p8).toList.drop 10) (eE:=((27,.top) :: (26,w29 ([a0]:List S28)) :: (25,n29 a0) :: E7)) (hs:=[(mkH [Q5,⟨e29 a0,0,false⟩,Q2])]) (by kernel_rfl) (by kernel_rfl) (.nil))))))))) (by kernel_rfl) (by kernel_rfl)
   ·refine qA7 (fun x4_5 hx4_5=>?_)
    let E6:Env:=[(19,.str x2_1.1),(18,.bool true),(0,.ptr 0 4 0),(3,.ptr 1 7 0),(4,.ptr 2 7 0),(5,.str x2_1.1),(18,.bool x3_1.1)]
    let E8:Env:=((24,.str x4_5) :: (23,.str x4_4.1) :: (22,w3 ([(1:Int)]:List Int)) :: (21,.ptr 0 4 0) :: (20,.str x4_1) :: E6)
    let Q6:Blk:=⟨[.str a1,w34 a2,.i x4_4.2,.i a4],4,false⟩
    refine oD (H':=(mkH [Q6,⟨e29 a0,0,false⟩,⟨[.i 12,.str x4_5,w29 ([a0]:List S28),.bool false,.bool false,.nils,.nils],7,false⟩])) (nav [0] i26p8) ((27,.agg [.i 12,.str x4_5,w29 ([a0]:List S28),.bool false,.bool false,.nils,.nils]) :: (26,w29 ([a0]:List S28)) :: (25,n29 a0) :: E8) [(mkH [Q6,⟨e29 a0,0,false⟩,Q2]),(mkH [Q6,⟨e29 a0,0,false⟩,⟨[.i 12,.str x4_5,w29 ([a0]:List S28),.bool false,.bool false,.nils,.nils],7,false⟩])] i26d0 (oDr 1 1 E6 (qA9 (l':=(opsAt i26p8).toList.drop 2) (eE:=((20,.str x4_1) :: E6)) (hs:=[]) (x:=x4_1) (fun (x4_1:(List Nat))=>(.str x4_1,(mkH [⟨[.str a1,w34 a2,.i x3_1.2,.i a4],4,false⟩,⟨e29 a0,0,false⟩,Q2]))) (catH (by kernel_rfl)) hx4_1 (by kernel_rfl) (oDr 2 4 ((22,w3 ([(1:Int)]:List Int)) :: (21,.ptr 0 4 0) :: (20,.str x4_1) :: E6) (qA5 (l':=(opsAt i26p8).toList.drop 5) (eE:=((23,.str x4_4.1) :: (22,w3 ([(1:Int)]:List Int)) :: (21,.ptr 0 4 0) :: (20,.str x4_1) :: E6)) (hs:=[(mkH [Q6,⟨e29 a0,0,false⟩,Q2])]) (H':=(mkH [Q6,⟨e29 a0,0,false⟩,Q2])) (fi:=96) (args:=[.ptr 0 4 0,w3 ([(1:Int)]:List Int)]) (v := .str x4_4.1) (by kernel_rfl) (frC (rs:=[0]) (ms:=[]) (ms':=[]) ((qF3 k ([(1:Int)]:List Int) a1 a2 x3_1.2 a4).1 x4_4 hx4_4) trivial trivial (by kernel_rfl)) (by kernel_rfl) (qA9 (l':=(opsAt i26p8).toList.drop 6) (eE:=E8) (hs:=[]) (x:=x4_5) (fun (x4_5:(List Nat))=>(.str x4_5,(mkH [Q6,⟨e29 a0,0,false⟩,Q2]))) (catH (by kernel_rfl)) hx4_5 (by kernel_rfl) (oDh 4 10 ((27,.agg [.i 12,.str x4_5,w29 ([a0]:List S28),.bool false,.bool false,.nils,.nils]) :: (26,w29 ([a0]:List S28)) :: (25,n29 a0) :: E8) (mkH [Q6,⟨e29 a0,0,false⟩,⟨[.i 12,.str x4_5,w29 ([a0]:List S28),.bool false,.bool false,.nils,.nils],7,false⟩]) [(mkH [Q6,⟨e29 a0,0,false⟩,⟨[.i 12,.str x4_5,w29 ([a0]:List S28),.bool false,.bool false,.nils,.nils],7,false⟩])] .nil)))))) ?_
    exact oQF 1 [Q6,⟨e29 a0,0,false⟩,⟨[.i 12,.str x4_5,w29 ([a0]:List S28),.bool false,.bool false,.nils,.nils],7,false⟩] 1 [] [.agg [.i 12,.str x4_5,w29 ([a0]:List S28),.bool false,.bool false,.nils,.nils]] (.agg [.i 12,.str x4_5,w29 ([a0]:List S28),.bool false,.bool false,.vec 0 1 [],.vec 0 1 []]) (.agg (.cs (.cs (.cs (.cs (.cs (.nil (.nil .ps))))))) .ps) trivial
  ·refine oR 5 (atN 1 (ctl1 i26p9)) ((28,.ptr 0 4 0) :: (18,.bool false) :: E5) ?_
   refine oX (fun (x5_1:Int) => .tuple []) (fun x5_1=>[⟨[.str a1,w34 a2,.i x5_1,.i a4],4,false⟩,⟨e29 a0,0,false⟩,Q2]) (atN 2 (ctl1 i26p9)) 29 [0] [] [] [0] [] [.ptr 0 4 0,.str [123]] (qAt k ([123]:List Nat) a1 a2 x3_1.2 a4) trivial (fun _=>trivial) trivial fun x5_1 hx5_1=>?_
   let E9:Env:=((33,.slice 3 7 0 1 7) :: (32,n29 a0) :: (31,.str x2_1.1) :: (30,.ptr 0 4 0) :: (29,.tuple []) :: (28,.ptr 0 4 0) :: (18,.bool false) :: E5)
   let Q7:Blk:=⟨[.str a1,w34 a2,.i x5_1,.i a4],4,false⟩
   refine oH 7 (atN 4 (ctl1 i26p10)) E9 (mkH [Q7,⟨e29 a0,0,false⟩,Q2,⟨e29 a0,0,false⟩]) ?_
   refine qCp 33 3 7 1 7 (by kernel_rfl) rfl ?_
   let Q8:Blk:=⟨(([a0]:List S28)).flatMap e29,0,false⟩
   refine oH 3 (atN 7 (ctl1 i26p10)) ((36,.func 78 [.ptr 0 4 0] []) :: (35,.ptr 0 4 0) :: (34,.agg [.i 11,.str x2_1.1,.own 3 (([a0]:List S28)).length 7,.bool false,.bool false,.nils,.nils]) :: (33,.own 3 (([a0]:List S28)).length 7) :: E9) (mkH [Q7,⟨e29 a0,0,false⟩,Q2,Q8]) ?_
   refine oXW 0 [Q7,⟨e29 a0,0,false⟩,Q2,Q8] (fun (x6_7:Ri18) => .agg [.i x6_7.1,.str x6_7.2.1,.own 3 (x6_7.2.2.2.2.2.2.2).length 7,.bool x6_7.2.2.1,.bool x6_7.2.2.2.1,w9 x6_7.2.2.2.2.1,w9 x6_7.2.2.2.2.2.1]) (fun x6_7=>[⟨[.str a1,w34 a2,.i x6_7.2.2.2.2.2.2.1,.i a4],4,false⟩,⟨e29 a0,0,false⟩,Q2,⟨(x6_7.2.2.2.2.2.2.2).flatMap e29,0,false⟩]) (atN 8 (ctl1 i26p10)) 37 [0,3] [0,1] [0,1] [0,3] [] [0,0,0,1] [.ptr 0 4 0,.agg [.i 11,.str x2_1.1,.own 3 (([a0]:List S28)).length 7,.bool false,.bool false,.nils,.nils],.str [125],.func 78 [.ptr 0 4 0] []] [.ptr 0 4 0,.agg [.i 11,.str x2_1.1,.own 3 (([a0]:List S28)).length 7,.bool false,.bool false,w9 ([]:List (List Nat)),w9 ([]:List (List Nat))],.str [125],.func 78 [.ptr 0 4 0] []] (.cons (.agg (.cons (.cons (.cons (.cons (.cons (.nil (.nil (.refl)))))))) (.refl))) (hF.i18_ok (11:Int) x2_1.1 false false ([]:List (List Nat)) ([]:List (List Nat)) ([125]:List Nat) a1 a2 x5_1 a4 ([a0]:List S28)) ⟨u29 _,trivial⟩ (fun _=>⟨u29 _,trivial⟩) trivial fun x6_7 hx6_7=>?_
   exact oQF 3 [⟨[.str a1,w34 a2,.i x6_7.2.2.2.2.2.2.1,.i a4],4,false⟩,⟨e29 a0,0,false⟩,⟨[.i x6_7.1,.str x6_7.2.1,.own 3 (x6_7.2.2.2.2.2.2.2).length 7,.bool x6_7.2.2.1,.bool x6_7.2.2.2.1,w9 x6_7.2.2.2.2.1,w9 x6_7.2.2.2.2.2.1],7,false⟩,⟨(x6_7.2.2.2.2.2.2.2).flatMap e29,0,false⟩] 1 [] [.agg [.i x6_7.1,.str x6_7.2.1,.own 3 (x6_7.2.2.2.2.2.2.2).length 7,.bool x6_7.2.2.1,.bool x6_7.2.2.2.1,w9 x6_7.2.2.2.2.1,w9 x6_7.2.2.2.2.2.1]] (.agg [.i x6_7.1,.str x6_7.2.1,w29 x6_7.2.2.2.2.2.2.2,.bool x6_7.2.2.1,.bool x6_7.2.2.2.1,w9 x6_7.2.2.2.2.1,w9 x6_7.2.2.2.2.2.1]) (.agg (.cs (.cs (qAq qA6 qAe rfl rfl rfl .ps))) .ps) trivial
theorem i26B_ok (k:Nat) (F:Fns0) (hF:FnsOk0 F):Pi26 (i26B k F):=fun a0 a1 a2 a3 a4=>⟨fun x h=>qKj k F hF a0 a1 a2 a3 a4 (some x) h,fun h=>⟨_,qKj k F hF a0 a1 a2 a3 a4 none h⟩⟩
def i29p1:Pt:=nav [0,0,0] (nav [0] (bodyAt Try.f78))
def i29B (k:Nat) (F:Fns0) (a0:(List Nat)) (a1:(List S33)) (a2:Int) (a3:Int):Option (Option (S28 × Int)) :=
 bT (F.i5 (0:Int) a0 a1 a2 a3) fun x0_1=>some (some (x0_1.1,x0_1.2))
theorem qKi (k:Nat) (F:Fns0) (hF:FnsOk0 F):∀ a0 a1 a2 a3 r,i29B k F a0 a1 a2 a3 = some r → CallT Try.prog 78 [.ptr 0 4 0] (mkH [⟨[.str a0,w34 a1,.i a2,.i a3],4,false⟩]) ((Xi29 a0 a1 a2 a3).thr r) ((Xi29 a0 a1 a2 a3).enc r) ((Xi29 a0 a1 a2 a3).fin r):=by
 intro a0 a1 a2 a3 r h
 refine qA2 (Xi29 a0 a1 a2 a3) Try.func78 (by kernel_rfl) (by kernel_rfl) rfl (t:=i29B k F a0 a1 a2 a3) ?_ h
 unfold i29B
 refine qA (eE:=[(0,.ptr 0 4 0)]) (by kernel_rfl) ?_
 let Q1:Blk:=⟨[.i 0,.str [],.nils,.bool false,.bool false,.nils,.nils],0,false⟩
 refine oH 7 (atN 1 (ctl1 i29p1)) [(3,.ptr 0 4 0),(2,.ptr 1 7 0),(0,.ptr 0 4 0)] (mkH [⟨[.str a0,w34 a1,.i a2,.i a3],4,false⟩,Q1]) ?_
 refine oX (fun (x0_1:(S28 × Int))=>n29 x0_1.1) (fun x0_1=>[⟨[.str a0,w34 a1,.i x0_1.2,.i a3],4,false⟩,Q1]) (atN 2 (ctl1 i29p1)) 4 [0] [] [] [0] [] [.ptr 0 4 0,.i 0] (hF.i5_ok (0:Int) a0 a1 a2 a3) trivial (fun _=>trivial) trivial fun x0_1 hx0_1=>?_
 exact oQF 3 [⟨[.str a0,w34 a1,.i x0_1.2,.i a3],4,false⟩,⟨e29 x0_1.1,7,false⟩] 1 [] [n29 x0_1.1] (n29 x0_1.1) .ps trivial
theorem i29B_ok (k:Nat) (F:Fns0) (hF:FnsOk0 F):Pi29 (i29B k F):=fun a0 a1 a2 a3=>⟨fun x h=>qKi k F hF a0 a1 a2 a3 (some x) h,fun h=>⟨_,qKi k F hF a0 a1 a2 a3 none h⟩⟩
def i30c0:List (List Nat):=[([60,45]:List Nat),([60,61]:List Nat)]
def i30p1:Pt:=nav [0,0,0,0] (nav [0] (bodyAt Try.f94))
def i30p2:Pt:=nav [0,0,0] i30p1
def i30p3:Pt:=nav [0,0,0,0] i30p2
def i30p4:Pt:=nav [0,0,0,0] i30p3
def i30p6:Pt:=nav [0,0,0] (nav [0,0] i30p4)
def i30p7:Pt:=nav [1,0,0,0,0] i30p6
def i30p8:Pt:=nav [2,0,0] i30p6
def i30p9:Pt:=nav [0,0,0] i30p7
def i30p10:Pt:=nav [0,0,0,0] i30p8
def i30p11:Pt:=nav [0,0] i30p9
def i30p12:Pt:=nav [0,0] i30p10
def i30p13:Pt:=nav [1,0] i30p11
def i30p16:Pt:=nav [2,0] i30p12
def i30d0:DP:=⟨[23],[(0,0,0),(0,0,1),(0,0,0),(4,0,0),(14,0,0),(31,0,0),(63,0,0)],7,thrown,[],H0⟩
def qI4 (k:Nat) (F:Fns0) (c7:Int → (List S28) → Option (Option Ri30)) (a0:Int) (a1:(List Nat)) (a2:Bool) (a3:Bool) (a4:(List (List Nat))) (a5:(List (List Nat))) (a6:(List Nat)) (a7:(List S33)) (a8:Int) (a9:Int) (b1:(List S28)) (x0_1:(S28 × Int)) (ih:Int → Int → (List S28) → Option (Option Ri30)):Int → Int → (List S28) → Option (Option Ri30) :=
 fun (y8_0:Int) (y8_1:Int) (y8_2:(List S28))=>jn (fun (z10:Int × S28 × (List S28))=>(appS 104 z10.2.2 ([z10.2.1]:List S28)).bind fun x4_4=>bT (i7 k ([93]:List Nat) a6 a7 z10.1 a9) fun x5_1=>if x5_1.1 then (some (some (a0,a1,a2,a3,a4,a5,x5_1.2,x4_4))) else (bT (i23 k ([44]:List Nat) a6 a7 x5_1.2 a9) fun x6_1=>c7 x6_1 x4_4)) (fun j10=>if (decide (y8_0 < (i30c0.length:Int))) then ((nthL i30c0 y8_0).bind fun x1_0=>bT (i7 k x1_0 a6 a7 y8_1 a9) fun x2_2=>jn (fun (z9:(List S28))=>bT (F.i5 (3:Int) a6 a7 x2_2.2 a9) fun x3_3=>j10 (x3_3.2,(⟨14,x1_0,(⟨(([x0_1.1,x3_3.1]:List S28)).length,(([x0_1.1,x3_3.1]:List S28)).flatMap e29⟩:Raw),false,false,([]:List (List Nat)),([]:List (List Nat))⟩:S28),z9)) (fun j9=>if x2_2.1 then (j9 y8_2) else (ih (fW .i64 (y8_0 + 1)) x2_2.2 y8_2))) else (j10 (y8_1,x0_1.1,y8_2)))
def qNy (k:Nat) (F:Fns0) (c7:Int → (List S28) → Option (Option Ri30)) (a0:Int) (a1:(List Nat)) (a2:Bool) (a3:Bool) (a4:(List (List Nat))) (a5:(List (List Nat))) (a6:(List Nat)) (a7:(List S33)) (a8:Int) (a9:Int) (b1:(List S28)) (x0_1:(S28 × Int)) (n:Nat):Int → Int → (List S28) → Option (Option Ri30):=lp (fun _ _ _=>none) (qI4 k F c7 a0 a1 a2 a3 a4 a5 a6 a7 a8 a9 b1 x0_1) n
theorem qNx (k:Nat) (F:Fns0) (hF:FnsOk0 F) (a0:Int) (a1:(List Nat)) (a2:Bool) (a3:Bool) (a4:(List (List Nat))) (a5:(List (List Nat))) (a6:(List Nat)) (a7:(List S33)) (a8:Int) (a9:Int) (b1:(List S28)) (c7:Int → (List S28) → Option (Option Ri30)) (x0_1:(S28 × Int)) (hc7:∀ (y7_0:Int) (y7_1:(List S28)),Ok (Xi30 a0 a1 a2 a3 a4 a5 a6 a7 a8 a9 b1) i30p1 [(0,.ptr 0 4 0),(3,.ptr 2 7 0),(4,.ptr 3 7 0)] (mkH [⟨[.str a6,w34 a7,.i y7_0,.i a9],4,false⟩,⟨(y7_1).flatMap e29,0,false⟩,⟨[.i a0,.str a1,.own 1 (y7_1).length 7,.bool a2,.bool a3,w9 a4,w9 a5],7,false⟩,⟨[.i 0,.str [],.nils,.bool false,.bool false,.nils,.nils],0,false⟩]) (c7 y7_0 y7_1)):∀ (n:Nat) (y8_0:Int) (y8_1:Int) (y8_2:(List S28)),Ok (Xi30 a0 a1 a2 a3 a4 a5 a6 a7 a8 a9 b1) i30p4 [(0,.ptr 0 4 0),(3,.ptr 2 7 0),(4,.ptr 3 7 0),(5,.ptr 4 7 0),(10,w9 i30c0),(11,.i (i30c0.length:Int)),(12,.i y8_0)] (mkH [⟨[.str a6,w34 a7,.i y8_1,.i a9],4,false⟩,⟨(y8_2).flatMap e29,0,false⟩,⟨[.i a0,.str a1,.own 1 (y8_2).length 7,.bool a2,.bool a3,w9 a4,w9 a5],7,false⟩,⟨[.i 0,.str [],.nils,.bool false,.bool false,.nils,.nils],0,false⟩,⟨[.i x0_1.1.f0,.str x0_1.1.f1,q29 x0_1.1.f2,.bool x0_1.1.f3,.bool x0_1.1.f4,w9 x0_1.1.f5,w9 x0_1.1.f6],7,false⟩]) (qNy k F c7 a0 a1 a2 a3 a4 a5 a6 a7 a8 a9 b1 x0_1 n y8_0 y8_1 y8_2):=by
 intro n
 induction n with
 | zero=>intro y8_0 y8_1 y8_2; exact ok_none
 | succ n ih =>
  intro y8_0 y8_1 y8_2
  show Ok _ _ _ _ (qI4 k F c7 a0 a1 a2 a3 a4 a5 a6 a7 a8 a9 b1 x0_1 (qNy k F c7 a0 a1 a2 a3 a4 a5 a6 a7 a8 a9 b1 x0_1 n) y8_0 y8_1 y8_2)
  unfold qI4
  refine qAf (p':=nav [0] i30p4) (by kernel_rfl) ?_
  let E3:Env:=[(13,.bool (decide (y8_0 < (i30c0.length:Int)))),(0,.ptr 0 4 0),(3,.ptr 2 7 0),(4,.ptr 3 7 0),(5,.ptr 4 7 0),(10,w9 i30c0),(11,.i (i30c0.length:Int)),(12,.i y8_0)]
  let Q1:Blk:=⟨[.str a6,w34 a7,.i y8_1,.i a9],4,false⟩
  let Q2:Blk:=⟨(y8_2).flatMap e29,0,false⟩
  let Q3:Blk:=⟨[.i a0,.str a1,.own 1 (y8_2).length 7,.bool a2,.bool a3,w9 a4,w9 a5],7,false⟩
  let Q4:Blk:=⟨[.i 0,.str [],.nils,.bool false,.bool false,.nils,.nils],0,false⟩
  refine oH 5 i30p6 E3 (mkH [Q1,Q2,Q3,Q4,⟨e29 x0_1.1,7,false⟩]) ?_
  refine oJ i30p8 (fun (z10:Int × S28 × (List S28))=>[(0,.ptr 0 4 0),(3,.ptr 2 7 0),(4,.ptr 3 7 0),(5,.ptr 4 7 0)]) (fun (z10:Int × S28 × (List S28))=>(mkH [⟨[.str a6,w34 a7,.i z10.1,.i a9],4,false⟩,⟨(z10.2.2).flatMap e29,0,false⟩,⟨[.i a0,.str a1,.own 1 (z10.2.2).length 7,.bool a2,.bool a3,w9 a4,w9 a5],7,false⟩,Q4,⟨e29 z10.2.1,7,false⟩])) (fun z10=>?_) (fun j10 hj10=>?_)
  ·let Q5:Blk:=⟨[.str a6,w34 a7,.i z10.1,.i a9],4,false⟩
   let Q7:Blk:=⟨[.i a0,.str a1,.own 1 (z10.2.2).length 7,.bool a2,.bool a3,w9 a4,w9 a5],7,false⟩
   let K1:List Blk:=[Q5,⟨(z10.2.2).flatMap e29,0,false⟩,Q7,Q4,⟨e29 z10.2.1,7,false⟩,⟨e29 z10.2.1,0,false⟩]
   refine oH 5 (atN 4 (ctl1 i30p8)) [(29,.slice 5 7 0 1 7),(28,n29 z10.2.1),(27,.own 1 (z10.2.2).length 7),(26,.ptr 2 7 2),(0,.ptr 0 4 0),(3,.ptr 2 7 0),(4,.ptr 3 7 0),(5,.ptr 4 7 0)] (mkH K1) ?_
   refine oC (fun (x4_4:(List S28))=>(.own 1 (x4_4).length 7,(mkH [Q5,⟨(x4_4).flatMap e29,0,false⟩,Q7,Q4,⟨e29 z10.2.1,7,false⟩,⟨e29 z10.2.1,0,false⟩]))) (atN 5 (ctl1 i30p8)) 30 (appH (sz:=7) qA6 rfl qAu K1 1 104 z10.2.2 ([z10.2.1]:List S28) rfl rfl (by kernel_rfl)) fun x4_4 hx4_4=>?_
   let Q8:Blk:=⟨(x4_4).flatMap e29,0,false⟩
   let Q9:Blk:=⟨[.i a0,.str a1,.own 1 (x4_4).length 7,.bool a2,.bool a3,w9 a4,w9 a5],7,false⟩
   refine oLH 5 i30p10 [(0,.ptr 0 4 0),(3,.ptr 2 7 0),(4,.ptr 3 7 0)] (mkH [Q5,Q8,Q9,Q4,⟨e29 z10.2.1,7,false⟩,⟨e29 z10.2.1,0,false⟩]) ?_
   let E5:Env:=[(0,.ptr 0 4 0),(3,.ptr 2 7 0),(4,.ptr 3 7 0)]
   refine oR 2 (atN 1 (ctl1 i30p10)) ((32,.ptr 0 4 0) :: E5) ?_
   refine oX (fun (x5_1:(Bool × Int)) => .bool x5_1.1) (fun x5_1=>[⟨[.str a6,w34 a7,.i x5_1.2,.i a9],4,false⟩,Q8,Q9,Q4,⟨e29 z10.2.1,7,false⟩,⟨e29 z10.2.1,0,false⟩]) (atN 2 (ctl1 i30p10)) 33 [0] [] [] [2] [0,1] [.ptr 0 4 0,.str [93]] (qAg k ([93]:List Nat) a6 a7 z10.1 a9) trivial (fun _=>trivial) ⟨u29 _,trivial⟩ fun x5_1 hx5_1=>?_
   refine oR 1 i30p12 ((33,.bool x5_1.1) :: (32,.ptr 0 4 0) :: E5) ?_
   refine oS 33 (fun hb=>?_) (fun hb=>?_)
   ·let Q10:Blk:=⟨[.str a6,w34 a7,.i x5_1.2,.i a9],4,false⟩
    refine oH 7 .fin ((34,.agg [.i a0,.str a1,.own 1 (x4_4).length 7,.bool a2,.bool a3,w9 a4,w9 a5]) :: (33,.bool true) :: (33,.bool x5_1.1) :: (32,.ptr 0 4 0) :: E5) (mkH [Q10,Q8,Q9,Q9,⟨e29 z10.2.1,7,false⟩,⟨e29 z10.2.1,0,false⟩]) ?_
    exact qBq (r:=some (a0,a1,a2,a3,a4,a5,x5_1.2,x4_4)) (xs:=[.agg [.i a0,.str a1,.own 1 (x4_4).length 7,.bool a2,.bool a3,w9 a4,w9 a5]]) [Q10,Q8] [Q9,Q9,⟨e29 z10.2.1,7,false⟩,⟨e29 z10.2.1,0,false⟩] (by kernel_rfl) (by kernel_rfl) (by kernel_rfl) (by kernel_rfl) (by kernel_rfl) ⟨(by kernel_rfl),⟨(qA3 _ (u29 _)),trivial⟩⟩ (by kernel_rfl) (by kernel_rfl)
   ·refine oR 4 (atN 1 (ctl1 i30p16)) ((35,.ptr 0 4 0) :: (33,.bool false) :: (33,.bool x5_1.1) :: (32,.ptr 0 4 0) :: E5) ?_
    refine oX (fun (x6_1:Int) => .tuple []) (fun x6_1=>[⟨[.str a6,w34 a7,.i x6_1,.i a9],4,false⟩,Q8,Q9,Q4,⟨e29 z10.2.1,7,false⟩,⟨e29 z10.2.1,0,false⟩]) (atN 2 (ctl1 i30p16)) 36 [0] [] [] [0,2] [0,1] [.ptr 0 4 0,.str [44]] (qAt k ([44]:List Nat) a6 a7 x5_1.2 a9) trivial (fun _=>trivial) ⟨u29 _,trivial⟩ fun x6_1 hx6_1=>?_
    refine oL 1 i30p1 [(0,.ptr 0 4 0),(3,.ptr 2 7 0),(4,.ptr 3 7 0)] ?_
    refine qAa [⟨[.str a6,w34 a7,.i x6_1,.i a9],4,false⟩,Q8,Q9,Q4] [⟨e29 z10.2.1,7,false⟩,⟨e29 z10.2.1,0,false⟩] (by kernel_rfl) rfl (by kernel_rfl) ⟨(by kernel_rfl),⟨(qA3 _ (u29 _)),⟨(by kernel_rfl),⟨(by kernel_rfl),trivial⟩⟩⟩⟩ ?_
    exact hc7 x6_1 x4_4
  ·refine oS 13 (fun hb=>?_) (fun hb=>?_)
   ·refine oH 6 (atN 0 (ctl1 i30p7)) ((13,.bool true) :: E3) (mkH [Q1,Q2,Q3,Q4,⟨e29 x0_1.1,7,false⟩]) ?_
    refine oC (fun (x1_0:(List Nat))=>(.vptr [.str x1_0],(mkH [Q1,Q2,Q3,Q4,⟨e29 x0_1.1,7,false⟩]))) (atN 1 (ctl1 i30p7)) 14 (vidxH (sz:=1) qBp (by kernel_rfl)) fun x1_0 hx1_0=>?_
    let E8:Env:=((17,.str x1_0) :: (16,.ptr 0 4 0) :: (7,.str x1_0) :: (15,.str x1_0) :: (14,.vptr [.str x1_0]) :: (13,.bool true) :: E3)
    refine oH 7 (atN 2 (ctl1 i30p9)) E8 (mkH [Q1,Q2,Q3,Q4,⟨e29 x0_1.1,7,false⟩]) ?_
    refine oX (fun (x2_2:(Bool × Int)) => .bool x2_2.1) (fun x2_2=>[⟨[.str a6,w34 a7,.i x2_2.2,.i a9],4,false⟩,Q2,Q3,Q4,⟨e29 x0_1.1,7,false⟩]) (atN 3 (ctl1 i30p9)) 18 [0] [] [] [2] [0,1] [.ptr 0 4 0,.str x1_0] (qAg k x1_0 a6 a7 y8_1 a9) trivial (fun _=>trivial) ⟨u29 _,trivial⟩ fun x2_2 hx2_2=>?_
    refine oR 1 i30p11 ((18,.bool x2_2.1) :: E8) ?_
    let Q11:Blk:=⟨[.str a6,w34 a7,.i x2_2.2,.i a9],4,false⟩
    refine oJ i30p13 (fun (z9:(List S28))=>[(0,.ptr 0 4 0),(3,.ptr 2 7 0),(4,.ptr 3 7 0),(5,.ptr 4 7 0),(7,.str x1_0)]) (fun (z9:(List S28))=>(mkH [Q11,⟨(z9).flatMap e29,0,false⟩,⟨[.i a0,.str a1,.own 1 (z9).length 7,.bool a2,.bool a3,w9 a4,w9 a5],7,false⟩,Q4,⟨e29 x0_1.1,7,false⟩])) (fun z9=>?_) (fun j9 hj9=>?_)
    ·refine qC6 (fun h=>?_) (fun x3_3 hx3_3=>?_)
     ·let E9:Env:=[(21,.ptr 0 4 0),(20,n29 x0_1.1),(19,.str x1_0),(0,.ptr 0 4 0),(3,.ptr 2 7 0),(4,.ptr 3 7 0),(5,.ptr 4 7 0),(7,.str x1_0)]
      let Q12:Blk:=⟨(z9).flatMap e29,0,false⟩
      let Q13:Blk:=⟨[.i a0,.str a1,.own 1 (z9).length 7,.bool a2,.bool a3,w9 a4,w9 a5],7,false⟩
      exact qAj (eE:=((24,.top) :: (23,.top) :: (22,.top) :: E9)) (i30d0.th 3 thrown [0,2] (mkH [Q11,Q12,Q13,Q4,⟨e29 x0_1.1,7,false⟩])) (hs:=[(mkH [Q11,Q12,Q13,Q4,⟨e29 x0_1.1,7,false⟩]),(mkH [Q11,Q12,Q13,Q4,⟨e29 x0_1.1,7,false⟩])]) (LX:=[⟨[.str a6,w34 a7,.i a8,.i a9],4,false⟩,⟨(b1).flatMap e29,0,false⟩]) (L:=[Q11,Q12,Q13,Q4,⟨e29 x0_1.1,7,false⟩]) rfl rfl rfl (by kernel_rfl) rfl ⟨.inl rfl,⟨.inl rfl,trivial⟩⟩ (by kernel_rfl) (by kernel_rfl) (by kernel_rfl) (by kernel_rfl) (qA8 3 (l':=(opsAt i30p13).toList.drop 3) (eE:=E9) (H':=(mkH [Q11,Q12,Q13,Q4,⟨e29 x0_1.1,7,false⟩])) (hs:=[]) (by kernel_rfl) (qAi (l':=(opsAt i30p13).toList.drop 4) (eE:=((22,.top) :: E9)) (hs:=[(mkH [Q11,Q12,Q13,Q4,⟨e29 x0_1.1,7,false⟩])]) (fi:=29) (args:=[.ptr 0 4 0,.i 3]) (by kernel_rfl) (by kernel_rfl) (frS 0 (M:=[Q11,Q12,Q13,Q4,⟨e29 x0_1.1,7,false⟩]) (rs:=[0]) (ms:=[]) (mv:=[0,1]) (mm:=[0,1]) (D:=[0,2]) (xs':=[.ptr 0 4 0,.i 3]) (.refl) ((hF.i5_ok (3:Int) a6 a7 x2_2.2 a9).2 h) trivial ⟨u29 _,trivial⟩ (by kernel_rfl)) (by kernel_rfl) (qA1 (l':=(opsAt i30p13).toList.drop 5) (eE:=((23,.top) :: (22,.top) :: E9)) (hs:=[]) (by kernel_rfl) (by kernel_rfl) (qA1 (l':=(opsAt i30p13).toList.drop 6) (eE:=((24,.top) :: (23,.top) :: (22,.top) :: E9)) (hs:=[]) (by kernel_rfl) (by kernel_rfl) (qA1 (l':=(opsAt i30p13).toList.drop 7) (eE:=((24,.top) :: (23,.top) :: (22,.top) :: E9)) (hs:=[(mkH [Q11,Q12,Q13,Q4,⟨e29 x0_1.1,7,false⟩])]) (by kernel_rfl) (by kernel_rfl) (.nil)))))) (by kernel_rfl) (by kernel_rfl)
     ·let E9:Env:=[(21,.ptr 0 4 0),(20,n29 x0_1.1),(19,.str x1_0),(0,.ptr 0 4 0),(3,.ptr 2 7 0),(4,.ptr 3 7 0),(5,.ptr 4 7 0),(7,.str x1_0)]
      let Q14:Blk:=⟨[.str a6,w34 a7,.i x3_3.2,.i a9],4,false⟩
      let Q15:Blk:=⟨(z9).flatMap e29,0,false⟩
      let Q16:Blk:=⟨[.i a0,.str a1,.own 1 (z9).length 7,.bool a2,.bool a3,w9 a4,w9 a5],7,false⟩
      let Q17:Blk:=⟨[.i 14,.str x1_0,w29 ([x0_1.1,x3_3.1]:List S28),.bool false,.bool false,.nils,.nils],7,false⟩
      refine oD (H':=(mkH [Q14,Q15,Q16,Q4,Q17])) (nav [0] i30p13) ((24,.agg [.i 14,.str x1_0,w29 ([x0_1.1,x3_3.1]:List S28),.bool false,.bool false,.nils,.nils]) :: (23,w29 ([x0_1.1,x3_3.1]:List S28)) :: (22,n29 x3_3.1) :: E9) [(mkH [Q14,Q15,Q16,Q4,⟨e29 x0_1.1,7,false⟩]),(mkH [Q14,Q15,Q16,Q4,Q17])] i30d0 (oDr 3 3 E9 (qA5 (l':=(opsAt i30p13).toList.drop 4) (eE:=((22,n29 x3_3.1) :: E9)) (hs:=[(mkH [Q14,Q15,Q16,Q4,⟨e29 x0_1.1,7,false⟩])]) (H':=(mkH [Q14,Q15,Q16,Q4,⟨e29 x0_1.1,7,false⟩])) (fi:=29) (args:=[.ptr 0 4 0,.i 3]) (v:=n29 x3_3.1) (by kernel_rfl) (frC (rs:=[0]) (ms:=[]) (ms':=[]) ((hF.i5_ok (3:Int) a6 a7 x2_2.2 a9).1 x3_3 hx3_3) trivial trivial (by kernel_rfl)) (by kernel_rfl) (oDh 3 7 ((24,.agg [.i 14,.str x1_0,w29 ([x0_1.1,x3_3.1]:List S28),.bool false,.bool false,.nils,.nils]) :: (23,w29 ([x0_1.1,x3_3.1]:List S28)) :: (22,n29 x3_3.1) :: E9) (mkH [Q14,Q15,Q16,Q4,Q17]) [(mkH [Q14,Q15,Q16,Q4,Q17])] .nil))) ?_
      refine oR 2 i30p8 ((24,.agg [.i 14,.str x1_0,w29 ([x0_1.1,x3_3.1]:List S28),.bool false,.bool false,.nils,.nils]) :: (23,w29 ([x0_1.1,x3_3.1]:List S28)) :: (22,n29 x3_3.1) :: E9) ?_
      refine qCw [Q14,Q15,Q16,Q4,Q17] 4 7 [.i 14,.str x1_0,w29 ([x0_1.1,x3_3.1]:List S28),.bool false,.bool false,.nils,.nils] [.i 14,.str x1_0,w29 ([x0_1.1,x3_3.1]:List S28),.bool false,.bool false,w9 ([]:List (List Nat)),w9 ([]:List (List Nat))] (by kernel_rfl) rfl (.cons (.cons (.cons (.cons (.cons (.nil (.nil (.refl)))))))) ?_
      refine oHp (mkH [Q14,Q15,Q16,Q4,⟨[.i 14,.str x1_0,w29 ([x0_1.1,x3_3.1]:List S28),.bool false,.bool false,w9 ([]:List (List Nat)),w9 ([]:List (List Nat))],7,false⟩]) ?_
      refine oK [0,3,4,5] [(0,.ptr 0 4 0),(3,.ptr 2 7 0),(4,.ptr 3 7 0),(5,.ptr 4 7 0)] ?_
      exact hj10 (x3_3.2,(⟨14,x1_0,(⟨(([x0_1.1,x3_3.1]:List S28)).length,(([x0_1.1,x3_3.1]:List S28)).flatMap e29⟩:Raw),false,false,([]:List (List Nat)),([]:List (List Nat))⟩:S28),z9)
    ·refine oS 18 (fun hb=>?_) (fun hb=>?_)
     ·refine oLH 2 i30p13 [(0,.ptr 0 4 0),(3,.ptr 2 7 0),(4,.ptr 3 7 0),(5,.ptr 4 7 0),(7,.str x1_0)] (mkH [Q11,Q2,Q3,Q4,⟨e29 x0_1.1,7,false⟩]) ?_
      exact hj9 y8_2
     ·refine oLH 6 i30p4 [(0,.ptr 0 4 0),(3,.ptr 2 7 0),(4,.ptr 3 7 0),(5,.ptr 4 7 0),(10,w9 i30c0),(11,.i (i30c0.length:Int)),(12,.i (fW .i64 (y8_0 + 1)))] (mkH [Q11,Q2,Q3,Q4,⟨e29 x0_1.1,7,false⟩]) ?_
      exact ih (fW .i64 (y8_0 + 1)) x2_2.2 y8_2
   ·refine oH 3 i30p8 ((13,.bool false) :: E3) (mkH [Q1,Q2,Q3,Q4,⟨e29 x0_1.1,7,false⟩]) ?_
    refine oK [0,3,4,5] [(0,.ptr 0 4 0),(3,.ptr 2 7 0),(4,.ptr 3 7 0),(5,.ptr 4 7 0)] ?_
    exact hj10 (y8_1,x0_1.1,y8_2)
def qI5 (k:Nat) (F:Fns0)  (a0:Int) (a1:(List Nat)) (a2:Bool) (a3:Bool) (a4:(List (List Nat))) (a5:(List (List Nat))) (a6:(List Nat)) (a7:(List S33)) (a8:Int) (a9:Int) (b1:(List S28)) (ih:Int → (List S28) → Option (Option Ri30)):Int → (List S28) → Option (Option Ri30) :=
 fun (y7_0:Int) (y7_1:(List S28))=>bT (F.i5 (3:Int) a6 a7 y7_0 a9) fun x0_1=>qNy k F ih a0 a1 a2 a3 a4 a5 a6 a7 a8 a9 b1 x0_1 k 0 x0_1.2 y7_1
def qKg (k:Nat) (F:Fns0)  (a0:Int) (a1:(List Nat)) (a2:Bool) (a3:Bool) (a4:(List (List Nat))) (a5:(List (List Nat))) (a6:(List Nat)) (a7:(List S33)) (a8:Int) (a9:Int) (b1:(List S28)) (n:Nat):Int → (List S28) → Option (Option Ri30):=lp (fun _ _=>none) (qI5 k F a0 a1 a2 a3 a4 a5 a6 a7 a8 a9 b1) n
theorem qNz (k:Nat) (F:Fns0) (hF:FnsOk0 F) (a0:Int) (a1:(List Nat)) (a2:Bool) (a3:Bool) (a4:(List (List Nat))) (a5:(List (List Nat))) (a6:(List Nat)) (a7:(List S33)) (a8:Int) (a9:Int) (b1:(List S28))    : ∀ (n:Nat) (y7_0:Int) (y7_1:(List S28)),Ok (Xi30 a0 a1 a2 a3 a4 a5 a6 a7 a8 a9 b1) i30p1 [(0,.ptr 0 4 0),(3,.ptr 2 7 0),(4,.ptr 3 7 0)] (mkH [⟨[.str a6,w34 a7,.i y7_0,.i a9],4,false⟩,⟨(y7_1).flatMap e29,0,false⟩,⟨[.i a0,.str a1,.own 1 (y7_1).length 7,.bool a2,.bool a3,w9 a4,w9 a5],7,false⟩,⟨[.i 0,.str [],.nils,.bool false,.bool false,.nils,.nils],0,false⟩]) (qKg k F a0 a1 a2 a3 a4 a5 a6 a7 a8 a9 b1 n y7_0 y7_1):=by
 intro n
 induction n with
 | zero=>intro y7_0 y7_1; exact ok_none
 | succ n ih =>
  intro y7_0 y7_1
  show Ok _ _ _ _ (qI5 k F a0 a1 a2 a3 a4 a5 a6 a7 a8 a9 b1 (qKg k F a0 a1 a2 a3 a4 a5 a6 a7 a8 a9 b1 n) y7_0 y7_1)
  unfold qI5
  refine qAf (p':=nav [0] i30p1) (by kernel_rfl) ?_
  let Q1:Blk:=⟨(y7_1).flatMap e29,0,false⟩
  let Q2:Blk:=⟨[.i a0,.str a1,.own 1 (y7_1).length 7,.bool a2,.bool a3,w9 a4,w9 a5],7,false⟩
  let Q3:Blk:=⟨[.i 0,.str [],.nils,.bool false,.bool false,.nils,.nils],0,false⟩
  refine oH 4 (atN 1 (ctl1 i30p2)) [(8,.ptr 0 4 0),(0,.ptr 0 4 0),(3,.ptr 2 7 0),(4,.ptr 3 7 0)] (mkH [⟨[.str a6,w34 a7,.i y7_0,.i a9],4,false⟩,Q1,Q2,Q3]) ?_
  refine oX (fun (x0_1:(S28 × Int))=>n29 x0_1.1) (fun x0_1=>[⟨[.str a6,w34 a7,.i x0_1.2,.i a9],4,false⟩,Q1,Q2,Q3]) (atN 2 (ctl1 i30p2)) 9 [0] [] [] [0,2] [0,1] [.ptr 0 4 0,.i 3] (hF.i5_ok (3:Int) a6 a7 y7_0 a9) trivial (fun _=>trivial) ⟨u29 _,trivial⟩ fun x0_1 hx0_1=>?_
  let Q4:Blk:=⟨[.str a6,w34 a7,.i x0_1.2,.i a9],4,false⟩
  refine oH 7 (atN 1 (ctl1 i30p3)) [(10,.slice 5 2 0 2 1),(5,.ptr 4 7 0),(9,n29 x0_1.1),(8,.ptr 0 4 0),(0,.ptr 0 4 0),(3,.ptr 2 7 0),(4,.ptr 3 7 0)] (mkH [Q4,Q1,Q2,Q3,⟨e29 x0_1.1,7,false⟩,⟨[.str [60,45],.str [60,61]],0,false⟩]) ?_
  refine oZ 10 5 2 1 [.str [60,45],.str [60,61]] [0,3,4,5,8,9] [0,1] ⟨u29 _,trivial⟩ ?_
  refine oLH 5 i30p4 [(0,.ptr 0 4 0),(3,.ptr 2 7 0),(4,.ptr 3 7 0),(5,.ptr 4 7 0),(10,w9 i30c0),(11,.i (i30c0.length:Int)),(12,.i 0)] (mkH [Q4,Q1,Q2,Q3,⟨e29 x0_1.1,7,false⟩,⟨[],0,false⟩]) ?_
  refine qAa [Q4,Q1,Q2,Q3,⟨e29 x0_1.1,7,false⟩] [⟨[],0,false⟩] (by kernel_rfl) rfl (by kernel_rfl) ⟨(by kernel_rfl),⟨(qA3 _ (u29 _)),⟨(by kernel_rfl),⟨(by kernel_rfl),⟨(by kernel_rfl),trivial⟩⟩⟩⟩⟩ ?_
  exact (qNx k F hF a0 a1 a2 a3 a4 a5 a6 a7 a8 a9 b1 (qKg k F a0 a1 a2 a3 a4 a5 a6 a7 a8 a9 b1 n) x0_1 ih k) 0 x0_1.2 y7_1
def i30B (k:Nat) (F:Fns0) (a0:Int) (a1:(List Nat)) (a2:Bool) (a3:Bool) (a4:(List (List Nat))) (a5:(List (List Nat))) (a6:(List Nat)) (a7:(List S33)) (a8:Int) (a9:Int) (b1:(List S28)):Option (Option Ri30) :=
 qKg k F a0 a1 a2 a3 a4 a5 a6 a7 a8 a9 b1 k a8 b1
theorem qKh (k:Nat) (F:Fns0) (hF:FnsOk0 F):∀ a0 a1 a2 a3 a4 a5 a6 a7 a8 a9 b1 r,i30B k F a0 a1 a2 a3 a4 a5 a6 a7 a8 a9 b1 = some r → CallT Try.prog 94 [.ptr 0 4 0,.agg [.i a0,.str a1,.own 1 (b1).length 7,.bool a2,.bool a3,w9 a4,w9 a5]] (mkH [⟨[.str a6,w34 a7,.i a8,.i a9],4,false⟩,⟨(b1).flatMap e29,0,false⟩]) ((Xi30 a0 a1 a2 a3 a4 a5 a6 a7 a8 a9 b1).thr r) ((Xi30 a0 a1 a2 a3 a4 a5 a6 a7 a8 a9 b1).enc r) ((Xi30 a0 a1 a2 a3 a4 a5 a6 a7 a8 a9 b1).fin r):=by
 intro a0 a1 a2 a3 a4 a5 a6 a7 a8 a9 b1 r h
 refine qA2 (Xi30 a0 a1 a2 a3 a4 a5 a6 a7 a8 a9 b1) Try.func94 (by kernel_rfl) (by kernel_rfl) rfl (t:=i30B k F a0 a1 a2 a3 a4 a5 a6 a7 a8 a9 b1) ?_ h
 unfold i30B
 refine qA (eE:=[(0,.ptr 0 4 0),(1,.agg [.i a0,.str a1,.own 1 (b1).length 7,.bool a2,.bool a3,w9 a4,w9 a5])]) (by kernel_rfl) ?_
 let Q1:Blk:=⟨[.str a6,w34 a7,.i a8,.i a9],4,false⟩
 let Q2:Blk:=⟨(b1).flatMap e29,0,false⟩
 let Q3:Blk:=⟨[.i a0,.str a1,.own 1 (b1).length 7,.bool a2,.bool a3,w9 a4,w9 a5],0,false⟩
 let Q4:Blk:=⟨[.i 0,.str [],.nils,.bool false,.bool false,.nils,.nils],0,false⟩
 refine oLH 7 i30p1 [(0,.ptr 0 4 0),(3,.ptr 2 7 0),(4,.ptr 3 7 0)] (mkH [Q1,Q2,Q3,Q4]) ?_
 refine qMx [Q1,Q2,Q3,Q4] 2 [.i a0,.str a1,.own 1 (b1).length 7,.bool a2,.bool a3,w9 a4,w9 a5] 0 7 rfl rfl (by decide) ?_
 refine oHp (mkH [Q1,Q2,⟨[.i a0,.str a1,.own 1 (b1).length 7,.bool a2,.bool a3,w9 a4,w9 a5],7,false⟩,Q4]) ?_
 exact (qNz k F hF a0 a1 a2 a3 a4 a5 a6 a7 a8 a9 b1 k) a8 b1
theorem i30B_ok (k:Nat) (F:Fns0) (hF:FnsOk0 F):Pi30 (i30B k F):=fun a0 a1 a2 a3 a4 a5 a6 a7 a8 a9 b1=>⟨fun x h=>qKh k F hF a0 a1 a2 a3 a4 a5 a6 a7 a8 a9 b1 (some x) h,fun h=>⟨_,qKh k F hF a0 a1 a2 a3 a4 a5 a6 a7 a8 a9 b1 none h⟩⟩
def i31p2:Pt:=nav [0,0,0,0] (nav [0,0,0] (nav [0] (bodyAt Try.f80)))
def i31p3:Pt:=nav [0,0,0,0] i31p2
def i31p4:Pt:=nav [0,0] i31p3
def i31p5:Pt:=nav [1,0] i31p4
def i31p6:Pt:=nav [2,0] i31p4
def i31p7:Pt:=nav [0,0] i31p5
def i31p8:Pt:=nav [0,0] i31p6
def i31p9:Pt:=nav [0,0,0] i31p7
def i31p10:Pt:=nav [1] i31p8
def i31p11:Pt:=nav [2,0] i31p8
def i31p12:Pt:=nav [0,0,0,0] i31p9
def i31p13:Pt:=nav [0,0] i31p11
def i31p14:Pt:=nav [0,0] i31p12
def i31p15:Pt:=nav [1] i31p14
def i31p16:Pt:=nav [2,0,0,0] i31p14
def i31p17:Pt:=nav [0,0] i31p16
def i31p18:Pt:=nav [1,0] i31p17
def i31p19:Pt:=nav [2,0,0,0] i31p17
def i31p20:Pt:=nav [0,0,0,0] i31p18
def i31p21:Pt:=nav [0,0] i31p19
def i31p22:Pt:=nav [0,0,0] i31p20
def i31p25:Pt:=nav [0,0] i31p22
def i31p27:Pt:=nav [1,0,0] i31p25
def qG5 (k:Nat) (F:Fns0) (c16:(List Nat) × Int → Option (Option (S28 × Int))) (a0:(List Nat)) (a1:(List S33)) (a3:Int) (z13:Int × S28) (ih:(List Nat) → Int → Option (Option (S28 × Int))):(List Nat) → Int → Option (Option (S28 × Int)) :=
 fun (y15_0:(List Nat)) (y15_1:Int)=>bT (i7 k ([45]:List Nat) a0 a1 y15_1 a3) fun x11_1=>if x11_1.1 then ((catS y15_0 ([45]:List Nat)).bind fun x12_1=>bT (i33 k ([(1:Int)]:List Int) a0 a1 x11_1.2 a3) fun x12_4=>(catS x12_1 x12_4.1).bind fun x12_5=>ih x12_5 x12_4.2) else (c16 (y15_0,x11_1.2))
def qI3 (k:Nat) (F:Fns0) (c16:(List Nat) × Int → Option (Option (S28 × Int))) (a0:(List Nat)) (a1:(List S33)) (a3:Int) (z13:Int × S28) (n:Nat):(List Nat) → Int → Option (Option (S28 × Int)):=lp (fun _ _=>none) (qG5 k F c16 a0 a1 a3 z13) n
theorem qLi (k:Nat) (F:Fns0) (hF:FnsOk0 F) (a0:(List Nat)) (a1:(List S33)) (a2:Int) (a3:Int) (c16:(List Nat) × Int → Option (Option (S28 × Int))) (z13:Int × S28) (hc16:∀ z16:(List Nat) × Int,Ok (Xi31 a0 a1 a2 a3) i31p19 ((fun (z16:(List Nat) × Int)=>[(2,.ptr 1 7 0),(3,.ptr 2 7 0),(5,.str z16.1)]) z16) ((fun (z16:(List Nat) × Int)=>(mkH [⟨[.str a0,w34 a1,.i z16.2,.i a3],4,false⟩,⟨[.i 0,.str [],.nils,.bool false,.bool false,.nils,.nils],0,false⟩,⟨[.i z13.2.f0,.str z13.2.f1,q29 z13.2.f2,.bool z13.2.f3,.bool z13.2.f4,w9 z13.2.f5,w9 z13.2.f6],7,false⟩])) z16) (c16 z16)):∀ (n:Nat) (y15_0:(List Nat)) (y15_1:Int),Ok (Xi31 a0 a1 a2 a3) i31p20 [(0,.ptr 0 4 0),(2,.ptr 1 7 0),(3,.ptr 2 7 0),(5,.str y15_0)] (mkH [⟨[.str a0,w34 a1,.i y15_1,.i a3],4,false⟩,⟨[.i 0,.str [],.nils,.bool false,.bool false,.nils,.nils],0,false⟩,⟨[.i z13.2.f0,.str z13.2.f1,q29 z13.2.f2,.bool z13.2.f3,.bool z13.2.f4,w9 z13.2.f5,w9 z13.2.f6],7,false⟩]) (qI3 k F c16 a0 a1 a3 z13 n y15_0 y15_1):=by
 intro n
 induction n with
 | zero=>intro y15_0 y15_1; exact ok_none
 | succ n ih =>
  intro y15_0 y15_1
  show Ok _ _ _ _ (qG5 k F c16 a0 a1 a3 z13 (qI3 k F c16 a0 a1 a3 z13 n) y15_0 y15_1)
  unfold qG5
  refine qAf (p':=nav [0] i31p20) (by kernel_rfl) ?_
  let E8:Env:=[(42,.ptr 0 4 0),(0,.ptr 0 4 0),(2,.ptr 1 7 0),(3,.ptr 2 7 0),(5,.str y15_0)]
  let Q1:Blk:=⟨[.i 0,.str [],.nils,.bool false,.bool false,.nils,.nils],0,false⟩
  refine oH 4 (atN 1 (ctl1 i31p22)) E8 (mkH [⟨[.str a0,w34 a1,.i y15_1,.i a3],4,false⟩,Q1,⟨e29 z13.2,7,false⟩]) ?_
  refine oX (fun (x11_1:(Bool × Int)) => .bool x11_1.1) (fun x11_1=>[⟨[.str a0,w34 a1,.i x11_1.2,.i a3],4,false⟩,Q1,⟨e29 z13.2,7,false⟩]) (atN 2 (ctl1 i31p22)) 43 [0] [] [] [] [] [.ptr 0 4 0,.str [45]] (qAg k ([45]:List Nat) a0 a1 y15_1 a3) trivial (fun _=>trivial) trivial fun x11_1 hx11_1=>?_
  refine oR 1 i31p25 ((43,.bool x11_1.1) :: E8) ?_
  refine oS 43 (fun hb=>?_) (fun hb=>?_)
  ·refine oR 5 (atN 1 (ctl1 i31p27)) ((44,.str y15_0) :: (43,.bool true) :: (43,.bool x11_1.1) :: E8) ?_
   let Q2:Blk:=⟨[.str a0,w34 a1,.i x11_1.2,.i a3],4,false⟩
   refine oC (fun (x12_1:(List Nat))=>(.str x12_1,(mkH [Q2,Q1,⟨e29 z13.2,7,false⟩]))) (atN 2 (ctl1 i31p27)) 45 (catH (by kernel_rfl)) fun x12_1 hx12_1=>?_
   refine oH 2 (atN 4 (ctl1 i31p27)) ((47,.slice 3 1 0 1 1) :: (46,.ptr 0 4 0) :: (45,.str x12_1) :: (44,.str y15_0) :: (43,.bool true) :: (43,.bool x11_1.1) :: E8) (mkH [Q2,Q1,⟨e29 z13.2,7,false⟩,⟨[.i 1],0,false⟩]) ?_
   refine oZ 47 3 1 1 [.i 1] [0,2,3,5,42,43,44,45,46] [] trivial ?_
   refine oE [(47,w3 ([(1:Int)]:List Int)),(0,.ptr 0 4 0),(2,.ptr 1 7 0),(3,.ptr 2 7 0),(5,.str y15_0),(42,.ptr 0 4 0),(43,.bool true),(44,.str y15_0),(45,.str x12_1),(46,.ptr 0 4 0)] ?_
   refine oHp (mkH [Q2,Q1,⟨e29 z13.2,7,false⟩,⟨[],0,false⟩]) ?_
   refine oX (fun (x12_4:Ri33) => .str x12_4.1) (fun x12_4=>[⟨[.str a0,w34 a1,.i x12_4.2,.i a3],4,false⟩,Q1,⟨e29 z13.2,7,false⟩,⟨[],0,false⟩]) (atN 5 (ctl1 i31p27)) 48 [0] [] [] [] [] [.ptr 0 4 0,w3 ([(1:Int)]:List Int)] (qF3 k ([(1:Int)]:List Int) a0 a1 x11_1.2 a3) trivial (fun _=>trivial) trivial fun x12_4 hx12_4=>?_
   let Q3:Blk:=⟨[.str a0,w34 a1,.i x12_4.2,.i a3],4,false⟩
   refine oC (fun (x12_5:(List Nat))=>(.str x12_5,(mkH [Q3,Q1,⟨e29 z13.2,7,false⟩,⟨[],0,false⟩]))) (atN 6 (ctl1 i31p27)) 49 (catH (by kernel_rfl)) fun x12_5 hx12_5=>?_
   refine oLH 2 i31p20 [(0,.ptr 0 4 0),(2,.ptr 1 7 0),(3,.ptr 2 7 0),(5,.str x12_5)] (mkH [Q3,Q1,⟨e29 z13.2,7,false⟩,⟨[],0,false⟩]) ?_
   refine qAa [Q3,Q1,⟨e29 z13.2,7,false⟩] [⟨[],0,false⟩] (by kernel_rfl) rfl (by kernel_rfl) ⟨(by kernel_rfl),⟨(by kernel_rfl),⟨(by kernel_rfl),trivial⟩⟩⟩ ?_
   exact ih x12_5 x12_4.2
  ·refine oL 4 i31p19 [(2,.ptr 1 7 0),(3,.ptr 2 7 0),(5,.str y15_0)] ?_
   exact hc16 (y15_0,x11_1.2)
def i31B (k:Nat) (F:Fns0) (a0:(List Nat)) (a1:(List S33)) (a2:Int) (a3:Int):Option (Option (S28 × Int)) :=
 (i9 k a0 a1 a2 a3).bind fun x0_1=>(g75 k x0_1.f0).bind fun x1_2=>jn (fun (z13:Int × S28)=>bT (i7 k ([58]:List Nat) a0 a1 z13.1 a3) fun x7_1=>jn (fun (z14:(List Nat) × Int)=>bT (i7 k ([47]:List Nat) a0 a1 z14.2 a3) fun x9_1=>jn (fun (z16:(List Nat) × Int)=>if (eqL z16.1 []) then (some (some (z13.2,z16.2))) else (some (some ((⟨(7:Int),z16.1,⟨(([z13.2]:List S28)).length,(([z13.2]:List S28)).flatMap e29⟩,false,false,([]:List (List Nat)),([]:List (List Nat))⟩:S28),z16.2)))) (fun j16=>if x9_1.1 then ((catS z14.1 ([47]:List Nat)).bind fun x10_1=>bT (i33 k ([(1:Int)]:List Int) a0 a1 x9_1.2 a3) fun x10_4=>(catS x10_1 x10_4.1).bind fun x10_5=>qI3 k F j16 a0 a1 a3 z13 k x10_5 x10_4.2) else (j16 (z14.1,x9_1.2)))) (fun j14=>if x7_1.1 then (bT (i39 k a0 a1 x7_1.2 a3) fun x8_1=>(catS ([58]:List Nat) x8_1.1).bind fun x8_2=>j14 (x8_2,x8_1.2)) else (j14 (([]:List Nat),x7_1.2)))) (fun j13=>if x1_2 then (bT (i11 k a0 a1 a2 a3) fun x2_1=>j13 (x2_1,(⟨1,x0_1.f1,(⟨(([]:List S28)).length,(([]:List S28)).flatMap e29⟩:Raw),false,false,([]:List (List Nat)),([]:List (List Nat))⟩:S28))) else (bT (i7 k ([40]:List Nat) a0 a1 a2 a3) fun x3_1=>if x3_1.1 then (bT (F.i17 a0 a1 x3_1.2 a3) fun x4_1=>j13 (x4_1.2,x4_1.1)) else (bT (i23 k ([60,60]:List Nat) a0 a1 x3_1.2 a3) fun x5_1=>bT (F.i20 (6:Int) ([]:List Nat) false false ([]:List (List Nat)) ([]:List (List Nat)) ([62,62]:List Nat) a0 a1 x5_1 a3 ([]:List S28)) fun x6_4=>j13 (x6_4.2.2.2.2.2.2.1,(⟨x6_4.1,x6_4.2.1,(⟨(x6_4.2.2.2.2.2.2.2).length,(x6_4.2.2.2.2.2.2.2).flatMap e29⟩:Raw),x6_4.2.2.1,x6_4.2.2.2.1,x6_4.2.2.2.2.1,x6_4.2.2.2.2.2.1⟩:S28)))))
theorem qKf (k:Nat) (F:Fns0) (hF:FnsOk0 F):∀ a0 a1 a2 a3 r,i31B k F a0 a1 a2 a3 = some r → CallT Try.prog 80 [.ptr 0 4 0] (mkH [⟨[.str a0,w34 a1,.i a2,.i a3],4,false⟩]) ((Xi31 a0 a1 a2 a3).thr r) ((Xi31 a0 a1 a2 a3).enc r) ((Xi31 a0 a1 a2 a3).fin r):=by
 intro a0 a1 a2 a3 r h
 refine qA2 (Xi31 a0 a1 a2 a3) Try.func80 (by kernel_rfl) (by kernel_rfl) rfl (t:=i31B k F a0 a1 a2 a3) ?_ h
 unfold i31B
 refine qA (eE:=[(0,.ptr 0 4 0)]) (by kernel_rfl) ?_
 let Q1:Blk:=⟨[.str a0,w34 a1,.i a2,.i a3],4,false⟩
 let Q2:Blk:=⟨[.i 0,.str [],.nils,.bool false,.bool false,.nils,.nils],0,false⟩
 refine oH 12 (atN 1 (ctl1 i31p2)) [(6,.ptr 0 4 0),(3,.ptr 2 7 0),(2,.ptr 1 7 0),(0,.ptr 0 4 0)] (mkH [Q1,Q2,Q2]) ?_
 refine oN (fun (x0_1:S33)=>n34 x0_1) (fun x0_1=>[Q1,Q2,Q2]) (atN 2 (ctl1 i31p2)) 7 [0] [] [] [.ptr 0 4 0] (qLg k a0 a1 a2 a3) trivial (fun _=>trivial) fun x0_1 hx0_1=>?_
 let E1:Env:=[(17,.i x0_1.f0),(16,.ptr 3 3 0),(4,.ptr 3 3 0),(7,n34 x0_1),(6,.ptr 0 4 0),(3,.ptr 2 7 0),(2,.ptr 1 7 0),(0,.ptr 0 4 0)]
 refine oH 8 (atN 2 (ctl1 i31p3)) E1 (mkH [Q1,Q2,Q2,⟨e34 x0_1,3,false⟩]) ?_
 refine oA (fun (x1_2:Bool) => .bool x1_2) (atN 3 (ctl1 i31p3)) 18 [.i x0_1.f0] (g75_ok k x0_1.f0) fun x1_2 hx1_2=>?_
 refine oR 2 i31p4 ((15,.bool x1_2) :: (18,.bool x1_2) :: E1) ?_
 refine oJ i31p9 (fun (z13:Int × S28)=>[(0,.ptr 0 4 0),(2,.ptr 1 7 0),(3,.ptr 2 7 0)]) (fun (z13:Int × S28)=>(mkH [⟨[.str a0,w34 a1,.i z13.1,.i a3],4,false⟩,Q2,⟨e29 z13.2,7,false⟩])) (fun z13=>?_) (fun j13 hj13=>?_)
 ·let E2:Env:=[(29,.ptr 0 4 0),(5,.str []),(0,.ptr 0 4 0),(2,.ptr 1 7 0),(3,.ptr 2 7 0)]
  refine oH 7 (atN 1 (ctl1 i31p12)) E2 (mkH [⟨[.str a0,w34 a1,.i z13.1,.i a3],4,false⟩,Q2,⟨e29 z13.2,7,false⟩]) ?_
  refine oX (fun (x7_1:(Bool × Int)) => .bool x7_1.1) (fun x7_1=>[⟨[.str a0,w34 a1,.i x7_1.2,.i a3],4,false⟩,Q2,⟨e29 z13.2,7,false⟩]) (atN 2 (ctl1 i31p12)) 30 [0] [] [] [] [] [.ptr 0 4 0,.str [58]] (qAg k ([58]:List Nat) a0 a1 z13.1 a3) trivial (fun _=>trivial) trivial fun x7_1 hx7_1=>?_
  refine oR 1 i31p14 ((30,.bool x7_1.1) :: E2) ?_
  refine oJ i31p16 (fun (z14:(List Nat) × Int)=>[(0,.ptr 0 4 0),(2,.ptr 1 7 0),(3,.ptr 2 7 0),(5,.str z14.1)]) (fun (z14:(List Nat) × Int)=>(mkH [⟨[.str a0,w34 a1,.i z14.2,.i a3],4,false⟩,Q2,⟨e29 z13.2,7,false⟩])) (fun z14=>?_) (fun j14 hj14=>?_)
  ·let E3:Env:=[(34,.ptr 0 4 0),(0,.ptr 0 4 0),(2,.ptr 1 7 0),(3,.ptr 2 7 0),(5,.str z14.1)]
   refine oH 2 (atN 1 (ctl1 i31p16)) E3 (mkH [⟨[.str a0,w34 a1,.i z14.2,.i a3],4,false⟩,Q2,⟨e29 z13.2,7,false⟩]) ?_
   refine oX (fun (x9_1:(Bool × Int)) => .bool x9_1.1) (fun x9_1=>[⟨[.str a0,w34 a1,.i x9_1.2,.i a3],4,false⟩,Q2,⟨e29 z13.2,7,false⟩]) (atN 2 (ctl1 i31p16)) 35 [0] [] [] [] [] [.ptr 0 4 0,.str [47]] (qAg k ([47]:List Nat) a0 a1 z14.2 a3) trivial (fun _=>trivial) trivial fun x9_1 hx9_1=>?_
   refine oR 1 i31p17 ((35,.bool x9_1.1) :: E3) ?_
   refine oJ i31p19 (fun (z16:(List Nat) × Int)=>[(2,.ptr 1 7 0),(3,.ptr 2 7 0),(5,.str z16.1)]) (fun (z16:(List Nat) × Int)=>(mkH [⟨[.str a0,w34 a1,.i z16.2,.i a3],4,false⟩,Q2,⟨e29 z13.2,7,false⟩])) (fun z16=>?_) (fun j16 hj16=>?_)
   ·let E4:Env:=[(51,.bool (eqL z16.1 [])),(50,.str z16.1),(2,.ptr 1 7 0),(3,.ptr 2 7 0),(5,.str z16.1)]
    let Q3:Blk:=⟨[.str a0,w34 a1,.i z16.2,.i a3],4,false⟩
    refine oH 4 i31p21 E4 (mkH [Q3,Q2,⟨e29 z13.2,7,false⟩]) ?_
    refine oS 51 (fun hb=>?_) (fun hb=>?_)
    ·exact oQF 7 [Q3,⟨e29 z13.2,7,false⟩,⟨e29 z13.2,7,false⟩] 1 [] [n29 z13.2] (n29 z13.2) .ps trivial
    ·refine oH 7 (atN 3 (ctl1 (nav [2,0,0] i31p21))) ((55,.slice 3 7 0 1 7) :: (54,n29 z13.2) :: (53,.str z16.1) :: (51,.bool false) :: E4) (mkH [Q3,Q2,⟨e29 z13.2,7,false⟩,⟨e29 z13.2,0,false⟩]) ?_
     refine oZ 55 3 1 7 [.i z13.2.f0,.str z13.2.f1,q29 z13.2.f2,.bool z13.2.f3,.bool z13.2.f4,w9 z13.2.f5,w9 z13.2.f6] [2,3,5,50,51,53,54] [] trivial ?_
     exact oQF 4 [Q3,⟨[.i 7,.str z16.1,w29 ([z13.2]:List S28),.bool false,.bool false,.nils,.nils],7,false⟩,⟨e29 z13.2,7,false⟩,⟨[],0,false⟩] 1 [] [.agg [.i 7,.str z16.1,w29 ([z13.2]:List S28),.bool false,.bool false,.nils,.nils]] (.agg [.i 7,.str z16.1,w29 ([z13.2]:List S28),.bool false,.bool false,.vec 0 1 [],.vec 0 1 []]) (.agg (.cs (.cs (.cs (.cs (.cs (.nil (.nil .ps))))))) .ps) trivial
   ·refine oS 35 (fun hb=>?_) (fun hb=>?_)
    ·let Q4:Blk:=⟨[.str a0,w34 a1,.i x9_1.2,.i a3],4,false⟩
     refine oH 4 (atN 1 (ctl1 i31p18)) ((36,.str z14.1) :: (35,.bool true) :: (35,.bool x9_1.1) :: E3) (mkH [Q4,Q2,⟨e29 z13.2,7,false⟩]) ?_
     refine oC (fun (x10_1:(List Nat))=>(.str x10_1,(mkH [Q4,Q2,⟨e29 z13.2,7,false⟩]))) (atN 2 (ctl1 i31p18)) 37 (catH (by kernel_rfl)) fun x10_1 hx10_1=>?_
     refine oH 2 (atN 4 (ctl1 i31p18)) ((39,.slice 3 1 0 1 1) :: (38,.ptr 0 4 0) :: (37,.str x10_1) :: (36,.str z14.1) :: (35,.bool true) :: (35,.bool x9_1.1) :: E3) (mkH [Q4,Q2,⟨e29 z13.2,7,false⟩,⟨[.i 1],0,false⟩]) ?_
     refine oZ 39 3 1 1 [.i 1] [0,2,3,5,34,35,36,37,38] [] trivial ?_
     refine oE [(39,w3 ([(1:Int)]:List Int)),(0,.ptr 0 4 0),(2,.ptr 1 7 0),(3,.ptr 2 7 0),(5,.str z14.1),(34,.ptr 0 4 0),(35,.bool true),(36,.str z14.1),(37,.str x10_1),(38,.ptr 0 4 0)] ?_
     refine oHp (mkH [Q4,Q2,⟨e29 z13.2,7,false⟩,⟨[],0,false⟩]) ?_
     refine oX (fun (x10_4:Ri33) => .str x10_4.1) (fun x10_4=>[⟨[.str a0,w34 a1,.i x10_4.2,.i a3],4,false⟩,Q2,⟨e29 z13.2,7,false⟩,⟨[],0,false⟩]) (atN 5 (ctl1 i31p18)) 40 [0] [] [] [] [] [.ptr 0 4 0,w3 ([(1:Int)]:List Int)] (qF3 k ([(1:Int)]:List Int) a0 a1 x9_1.2 a3) trivial (fun _=>trivial) trivial fun x10_4 hx10_4=>?_
     let Q5:Blk:=⟨[.str a0,w34 a1,.i x10_4.2,.i a3],4,false⟩
     refine oC (fun (x10_5:(List Nat))=>(.str x10_5,(mkH [Q5,Q2,⟨e29 z13.2,7,false⟩,⟨[],0,false⟩]))) (atN 6 (ctl1 i31p18)) 41 (catH (by kernel_rfl)) fun x10_5 hx10_5=>?_
     refine oLH 4 i31p20 [(0,.ptr 0 4 0),(2,.ptr 1 7 0),(3,.ptr 2 7 0),(5,.str x10_5)] (mkH [Q5,Q2,⟨e29 z13.2,7,false⟩,⟨[],0,false⟩]) ?_
     refine qAa [Q5,Q2,⟨e29 z13.2,7,false⟩] [⟨[],0,false⟩] (by kernel_rfl) rfl (by kernel_rfl) ⟨(by kernel_rfl),⟨(by kernel_rfl),⟨(by kernel_rfl),trivial⟩⟩⟩ ?_
     exact (qLi k F hF a0 a1 a2 a3 j16 z13 hj16 k) x10_5 x10_4.2
    ·refine oLH 4 i31p19 [(2,.ptr 1 7 0),(3,.ptr 2 7 0),(5,.str z14.1)] (mkH [⟨[.str a0,w34 a1,.i x9_1.2,.i a3],4,false⟩,Q2,⟨e29 z13.2,7,false⟩]) ?_
     exact hj16 (z14.1,x9_1.2)
  ·refine oS 30 (fun hb=>?_) (fun hb=>?_)
   ·refine oH 3 (atN 1 (ctl1 i31p15)) ((31,.ptr 0 4 0) :: (30,.bool true) :: (30,.bool x7_1.1) :: E2) (mkH [⟨[.str a0,w34 a1,.i x7_1.2,.i a3],4,false⟩,Q2,⟨e29 z13.2,7,false⟩]) ?_
    refine oX (fun (x8_1:Ri39) => .str x8_1.1) (fun x8_1=>[⟨[.str a0,w34 a1,.i x8_1.2,.i a3],4,false⟩,Q2,⟨e29 z13.2,7,false⟩]) (atN 2 (ctl1 i31p15)) 32 [0] [] [] [] [] [.ptr 0 4 0] (i39_ok k a0 a1 x7_1.2 a3) trivial (fun _=>trivial) trivial fun x8_1 hx8_1=>?_
    let Q6:Blk:=⟨[.str a0,w34 a1,.i x8_1.2,.i a3],4,false⟩
    refine oC (fun (x8_2:(List Nat))=>(.str x8_2,(mkH [Q6,Q2,⟨e29 z13.2,7,false⟩]))) (atN 3 (ctl1 i31p15)) 33 (catH (by kernel_rfl)) fun x8_2 hx8_2=>?_
    refine oLH 4 i31p16 [(0,.ptr 0 4 0),(2,.ptr 1 7 0),(3,.ptr 2 7 0),(5,.str x8_2)] (mkH [Q6,Q2,⟨e29 z13.2,7,false⟩]) ?_
    exact hj14 (x8_2,x8_1.2)
   ·refine oLH 4 i31p16 [(0,.ptr 0 4 0),(2,.ptr 1 7 0),(3,.ptr 2 7 0),(5,.str [])] (mkH [⟨[.str a0,w34 a1,.i x7_1.2,.i a3],4,false⟩,Q2,⟨e29 z13.2,7,false⟩]) ?_
    exact hj14 (([]:List Nat),x7_1.2)
 ·refine oS 15 (fun hb=>?_) (fun hb=>?_)
  ·refine oH 4 (atN 1 (ctl1 i31p5)) ((19,.ptr 0 4 0) :: (15,.bool true) :: (15,.bool x1_2) :: (18,.bool x1_2) :: E1) (mkH [Q1,Q2,Q2,⟨e34 x0_1,3,false⟩]) ?_
   refine oX (fun (x2_1:Int) => .tuple []) (fun x2_1=>[⟨[.str a0,w34 a1,.i x2_1,.i a3],4,false⟩,Q2,Q2,⟨e34 x0_1,3,false⟩]) (atN 2 (ctl1 i31p5)) 20 [0] [] [] [] [] [.ptr 0 4 0] (qF5 k a0 a1 a2 a3) trivial (fun _=>trivial) trivial fun x2_1 hx2_1=>?_
   let E19:Env:=[(0,.ptr 0 4 0),(2,.ptr 1 7 0),(3,.ptr 2 7 0),(4,.ptr 3 3 0)]
   refine oL 1 i31p7 E19 ?_
   let Q7:Blk:=⟨[.str a0,w34 a1,.i x2_1,.i a3],4,false⟩
   let Q8:Blk:=⟨[.i 1,.str x0_1.f1,.nils,.bool false,.bool false,.nils,.nils],7,false⟩
   refine oH 7 i31p9 ((23,.agg [.i 1,.str x0_1.f1,.nils,.bool false,.bool false,.nils,.nils]) :: (22,.str x0_1.f1) :: (21,.ptr 3 3 1) :: E19) (mkH [Q7,Q2,Q8,⟨e34 x0_1,3,false⟩]) ?_
   refine qCw [Q7,Q2,Q8,⟨e34 x0_1,3,false⟩] 2 7 [.i 1,.str x0_1.f1,.nils,.bool false,.bool false,.nils,.nils] [.i 1,.str x0_1.f1,w29 ([]:List S28),.bool false,.bool false,w9 ([]:List (List Nat)),w9 ([]:List (List Nat))] (by kernel_rfl) rfl (.cons (.cons (.nil (.cons (.cons (.nil (.nil (.refl)))))))) ?_
   let Q9:Blk:=⟨[.i 1,.str x0_1.f1,w29 ([]:List S28),.bool false,.bool false,w9 ([]:List (List Nat)),w9 ([]:List (List Nat))],7,false⟩
   refine oHp (mkH [Q7,Q2,Q9,⟨e34 x0_1,3,false⟩]) ?_
   refine oK [0,2,3] [(0,.ptr 0 4 0),(2,.ptr 1 7 0),(3,.ptr 2 7 0)] ?_
   refine qAa [Q7,Q2,Q9] [⟨e34 x0_1,3,false⟩] (by kernel_rfl) rfl (by kernel_rfl) ⟨(by kernel_rfl),⟨(by kernel_rfl),⟨(by kernel_rfl),trivial⟩⟩⟩ ?_
   exact hj13 (x2_1,(⟨1,x0_1.f1,(⟨(([]:List S28)).length,(([]:List S28)).flatMap e29⟩:Raw),false,false,([]:List (List Nat)),([]:List (List Nat))⟩:S28))
  ·refine oH 4 (atN 1 (ctl1 i31p6)) ((25,.ptr 0 4 0) :: (15,.bool false) :: (15,.bool x1_2) :: (18,.bool x1_2) :: E1) (mkH [Q1,Q2,Q2,⟨e34 x0_1,3,false⟩]) ?_
   refine oX (fun (x3_1:(Bool × Int)) => .bool x3_1.1) (fun x3_1=>[⟨[.str a0,w34 a1,.i x3_1.2,.i a3],4,false⟩,Q2,Q2,⟨e34 x0_1,3,false⟩]) (atN 2 (ctl1 i31p6)) 26 [0] [] [] [] [] [.ptr 0 4 0,.str [40]] (qAg k ([40]:List Nat) a0 a1 a2 a3) trivial (fun _=>trivial) trivial fun x3_1 hx3_1=>?_
   let E22:Env:=[(0,.ptr 0 4 0),(2,.ptr 1 7 0),(3,.ptr 2 7 0),(24,.bool x3_1.1)]
   refine oL 2 i31p8 E22 ?_
   refine oS 24 (fun hb=>?_) (fun hb=>?_)
   ·refine oR 3 (atN 1 (ctl1 i31p10)) ((27,.ptr 0 4 0) :: (24,.bool true) :: E22) ?_
    refine oX (fun (x4_1:(S28 × Int))=>n29 x4_1.1) (fun x4_1=>[⟨[.str a0,w34 a1,.i x4_1.2,.i a3],4,false⟩,Q2,Q2,⟨e34 x0_1,3,false⟩]) (atN 2 (ctl1 i31p10)) 28 [0] [] [] [0] [] [.ptr 0 4 0] (hF.i17_ok a0 a1 x3_1.2 a3) trivial (fun _=>trivial) trivial fun x4_1 hx4_1=>?_
    let Q10:Blk:=⟨[.str a0,w34 a1,.i x4_1.2,.i a3],4,false⟩
    refine oLH 3 i31p9 [(0,.ptr 0 4 0),(2,.ptr 1 7 0),(3,.ptr 2 7 0)] (mkH [Q10,Q2,⟨e29 x4_1.1,7,false⟩,⟨e34 x0_1,3,false⟩]) ?_
    refine qAa [Q10,Q2,⟨e29 x4_1.1,7,false⟩] [⟨e34 x0_1,3,false⟩] (by kernel_rfl) rfl (by kernel_rfl) ⟨(by kernel_rfl),⟨(by kernel_rfl),⟨(by kernel_rfl),trivial⟩⟩⟩ ?_
    exact hj13 (x4_1.2,x4_1.1)
   ·refine oR 4 (atN 1 (ctl1 i31p11)) ((8,.ptr 0 4 0) :: (24,.bool false) :: E22) ?_
    refine oX (fun (x5_1:Int) => .tuple []) (fun x5_1=>[⟨[.str a0,w34 a1,.i x5_1,.i a3],4,false⟩,Q2,Q2,⟨e34 x0_1,3,false⟩]) (atN 2 (ctl1 i31p11)) 9 [0] [] [] [0] [] [.ptr 0 4 0,.str [60,60]] (qAt k ([60,60]:List Nat) a0 a1 x3_1.2 a3) trivial (fun _=>trivial) trivial fun x5_1 hx5_1=>?_
    let E24:Env:=((13,.func 80 [.ptr 0 4 0] []) :: (12,.ptr 0 4 0) :: (11,.agg [.i 6,.str [],.nils,.bool false,.bool false,.nils,.nils]) :: (10,.ptr 0 4 0) :: (9,.tuple []) :: (8,.ptr 0 4 0) :: (24,.bool false) :: E22)
    refine oR 6 (atN 4 (ctl1 i31p13)) E24 ?_
    refine oXW 1 [⟨[.str a0,w34 a1,.i x5_1,.i a3],4,false⟩,Q2,Q2,⟨e34 x0_1,3,false⟩,⟨(([]:List S28)).flatMap e29,0,false⟩] (fun (x6_4:Ri20) => .agg [.i x6_4.1,.str x6_4.2.1,.own 4 (x6_4.2.2.2.2.2.2.2).length 7,.bool x6_4.2.2.1,.bool x6_4.2.2.2.1,w9 x6_4.2.2.2.2.1,w9 x6_4.2.2.2.2.2.1]) (fun x6_4=>[⟨[.str a0,w34 a1,.i x6_4.2.2.2.2.2.2.1,.i a3],4,false⟩,Q2,Q2,⟨e34 x0_1,3,false⟩,⟨(x6_4.2.2.2.2.2.2.2).flatMap e29,0,false⟩]) (atN 5 (ctl1 i31p13)) 14 [0,4] [0,1] [0,1] [0,4] [] [0,0,0,0,1] [.ptr 0 4 0,.agg [.i 6,.str [],.nils,.bool false,.bool false,.nils,.nils],.str [62,62],.func 80 [.ptr 0 4 0] []] [.ptr 0 4 0,.agg [.i 6,.str [],.own 4 (([]:List S28)).length 7,.bool false,.bool false,w9 ([]:List (List Nat)),w9 ([]:List (List Nat))],.str [62,62],.func 80 [.ptr 0 4 0] []] (.cons (.agg (.cons (.cons (.none (.cons (.cons (.nil (.nil (.refl)))))))) (.refl))) (hF.i20_ok (6:Int) ([]:List Nat) false false ([]:List (List Nat)) ([]:List (List Nat)) ([62,62]:List Nat) a0 a1 x5_1 a3 ([]:List S28)) ⟨u29 _,trivial⟩ (fun _=>⟨u29 _,trivial⟩) trivial fun x6_4 hx6_4=>?_
    let Q11:Blk:=⟨[.str a0,w34 a1,.i x6_4.2.2.2.2.2.2.1,.i a3],4,false⟩
    let Q12:Blk:=⟨[.i x6_4.1,.str x6_4.2.1,.own 4 (x6_4.2.2.2.2.2.2.2).length 7,.bool x6_4.2.2.1,.bool x6_4.2.2.2.1,w9 x6_4.2.2.2.2.1,w9 x6_4.2.2.2.2.2.1],7,false⟩
    let Q13:Blk:=⟨(x6_4.2.2.2.2.2.2.2).flatMap e29,0,false⟩
    refine oH 3 i31p9 ((14,.agg [.i x6_4.1,.str x6_4.2.1,.own 4 (x6_4.2.2.2.2.2.2.2).length 7,.bool x6_4.2.2.1,.bool x6_4.2.2.2.1,w9 x6_4.2.2.2.2.1,w9 x6_4.2.2.2.2.2.1]) :: E24) (mkH [Q11,Q2,Q12,⟨e34 x0_1,3,false⟩,Q13]) ?_
    let Q14:Blk:=⟨[.i x6_4.1,.str x6_4.2.1,w29 x6_4.2.2.2.2.2.2.2,.bool x6_4.2.2.1,.bool x6_4.2.2.2.1,w9 x6_4.2.2.2.2.1,w9 x6_4.2.2.2.2.2.1],7,false⟩
    refine qMy [Q11,Q2,Q12,⟨e34 x0_1,3,false⟩,Q13] [Q11,Q2,Q14,⟨e34 x0_1,3,false⟩,⟨[],0,false⟩] 4 (x6_4.2.2.2.2.2.2.2).length 7 0 ((x6_4.2.2.2.2.2.2.2).flatMap e29) [0,2,3] (env0:=[(0,.ptr 0 4 0),(2,.ptr 1 7 0),(3,.ptr 2 7 0)]) (eE:=[(0,.ptr 0 4 0),(2,.ptr 1 7 0),(3,.ptr 2 7 0)]) (by kernel_rfl) rfl rfl (qAz qA6 _) (Nat.zero_le _) (u29 _) (by kernel_rfl) ⟨⟨rfl,.refl (by kernel_rfl)⟩,⟨⟨rfl,.refl (by kernel_rfl)⟩,⟨⟨rfl,.refl (by kernel_rfl)⟩,trivial⟩⟩⟩ ⟨.inr ⟨rfl,rfl,rfl,.refl (by kernel_rfl)⟩,⟨.inr ⟨rfl,rfl,rfl,.refl (by kernel_rfl)⟩,⟨.inr ⟨rfl,rfl,rfl,.cons (by kernel_rfl) (.cons (by kernel_rfl) (.own (.refl (by kernel_rfl))))⟩,⟨.inr ⟨rfl,rfl,rfl,.refl (by kernel_rfl)⟩,⟨.inl ⟨rfl,rfl⟩,trivial⟩⟩⟩⟩⟩ ?_
    refine qAa [Q11,Q2,Q14] [⟨e34 x0_1,3,false⟩,⟨[],0,false⟩] (by kernel_rfl) rfl (by kernel_rfl) ⟨(by kernel_rfl),⟨(by kernel_rfl),⟨(by kernel_rfl),trivial⟩⟩⟩ ?_
    exact hj13 (x6_4.2.2.2.2.2.2.1,(⟨x6_4.1,x6_4.2.1,(⟨(x6_4.2.2.2.2.2.2.2).length,(x6_4.2.2.2.2.2.2.2).flatMap e29⟩:Raw),x6_4.2.2.1,x6_4.2.2.2.1,x6_4.2.2.2.2.1,x6_4.2.2.2.2.2.1⟩:S28))
theorem i31B_ok (k:Nat) (F:Fns0) (hF:FnsOk0 F):Pi31 (i31B k F):=fun a0 a1 a2 a3=>⟨fun x h=>qKf k F hF a0 a1 a2 a3 (some x) h,fun h=>⟨_,qKf k F hF a0 a1 a2 a3 none h⟩⟩
def i32c0:List (List Nat):=[([61,62]:List Nat),([58,61]:List Nat)]
def i32p1:Pt:=nav [0,0,0] (nav [0] (bodyAt Try.f81))
def i32p2:Pt:=nav [0,0,0,0] i32p1
def i32p3:Pt:=nav [0,0,0,0] i32p2
def i32p5:Pt:=nav [0,0,0] (nav [0,0] i32p3)
def i32p6:Pt:=nav [1,0,0,0,0] i32p5
def i32p8:Pt:=nav [0,0,0] i32p6
def i32p10:Pt:=nav [0,0] i32p8
def i32p11:Pt:=nav [1,0] i32p10
def i32d0:DP:=⟨[21],[(0,0,0),(0,0,1),(0,0,0),(4,0,0),(14,0,0),(31,0,0),(63,0,0)],7,thrown,[],H0⟩
def qE9 (k:Nat) (F:Fns0)  (a0:(List Nat)) (a1:(List S33)) (a2:Int) (a3:Int) (x0_1:(S28 × Int)) (ih:Int → Int → Option (Option (S28 × Int))):Int → Int → Option (Option (S28 × Int)) :=
 fun (y4_0:Int) (y4_1:Int)=>if (decide (y4_0 < (i32c0.length:Int))) then ((nthL i32c0 y4_0).bind fun x1_0=>bT (i7 k x1_0 a0 a1 y4_1 a3) fun x2_2=>if x2_2.1 then (bT (F.i5 (1:Int) a0 a1 x2_2.2 a3) fun x3_3=>some (some ((⟨(14:Int),x1_0,⟨(([x0_1.1,x3_3.1]:List S28)).length,(([x0_1.1,x3_3.1]:List S28)).flatMap e29⟩,false,false,([]:List (List Nat)),([]:List (List Nat))⟩:S28),x3_3.2))) else (ih (fW .i64 (y4_0 + 1)) x2_2.2)) else (some (some (x0_1.1,y4_1)))
def qH6 (k:Nat) (F:Fns0)  (a0:(List Nat)) (a1:(List S33)) (a2:Int) (a3:Int) (x0_1:(S28 × Int)) (n:Nat):Int → Int → Option (Option (S28 × Int)):=lp (fun _ _=>none) (qE9 k F a0 a1 a2 a3 x0_1) n
theorem qNw (k:Nat) (F:Fns0) (hF:FnsOk0 F) (a0:(List Nat)) (a1:(List S33)) (a2:Int) (a3:Int)  (x0_1:(S28 × Int))  : ∀ (n:Nat) (y4_0:Int) (y4_1:Int),Ok (Xi32 a0 a1 a2 a3) i32p3 [(0,.ptr 0 4 0),(2,.ptr 1 7 0),(3,.ptr 2 7 0),(8,w9 i32c0),(9,.i (i32c0.length:Int)),(10,.i y4_0)] (mkH [⟨[.str a0,w34 a1,.i y4_1,.i a3],4,false⟩,⟨[.i 0,.str [],.nils,.bool false,.bool false,.nils,.nils],0,false⟩,⟨[.i x0_1.1.f0,.str x0_1.1.f1,q29 x0_1.1.f2,.bool x0_1.1.f3,.bool x0_1.1.f4,w9 x0_1.1.f5,w9 x0_1.1.f6],7,false⟩]) (qH6 k F a0 a1 a2 a3 x0_1 n y4_0 y4_1):=by
 intro n
 induction n with
 | zero=>intro y4_0 y4_1; exact ok_none
 | succ n ih =>
  intro y4_0 y4_1
  show Ok _ _ _ _ (qE9 k F a0 a1 a2 a3 x0_1 (qH6 k F a0 a1 a2 a3 x0_1 n) y4_0 y4_1)
  unfold qE9
  refine qAf (p':=nav [0] i32p3) (by kernel_rfl) ?_
  let E3:Env:=[(11,.bool (decide (y4_0 < (i32c0.length:Int)))),(0,.ptr 0 4 0),(2,.ptr 1 7 0),(3,.ptr 2 7 0),(8,w9 i32c0),(9,.i (i32c0.length:Int)),(10,.i y4_0)]
  let Q1:Blk:=⟨[.str a0,w34 a1,.i y4_1,.i a3],4,false⟩
  let Q2:Blk:=⟨[.i 0,.str [],.nils,.bool false,.bool false,.nils,.nils],0,false⟩
  refine oH 5 i32p5 E3 (mkH [Q1,Q2,⟨e29 x0_1.1,7,false⟩]) ?_
  refine oS 11 (fun hb=>?_) (fun hb=>?_)
  ·refine oR 6 (atN 0 (ctl1 i32p6)) ((11,.bool true) :: E3) ?_
   refine oC (fun (x1_0:(List Nat))=>(.vptr [.str x1_0],(mkH [Q1,Q2,⟨e29 x0_1.1,7,false⟩]))) (atN 1 (ctl1 i32p6)) 12 (vidxH (sz:=1) qBp (by kernel_rfl)) fun x1_0 hx1_0=>?_
   let E4:Env:=((15,.str x1_0) :: (14,.ptr 0 4 0) :: (5,.str x1_0) :: (13,.str x1_0) :: (12,.vptr [.str x1_0]) :: (11,.bool true) :: E3)
   refine oH 7 (atN 2 (ctl1 i32p8)) E4 (mkH [Q1,Q2,⟨e29 x0_1.1,7,false⟩]) ?_
   refine oX (fun (x2_2:(Bool × Int)) => .bool x2_2.1) (fun x2_2=>[⟨[.str a0,w34 a1,.i x2_2.2,.i a3],4,false⟩,Q2,⟨e29 x0_1.1,7,false⟩]) (atN 3 (ctl1 i32p8)) 16 [0] [] [] [] [] [.ptr 0 4 0,.str x1_0] (qAg k x1_0 a0 a1 y4_1 a3) trivial (fun _=>trivial) trivial fun x2_2 hx2_2=>?_
   refine oR 1 i32p10 ((16,.bool x2_2.1) :: E4) ?_
   refine oS 16 (fun hb=>?_) (fun hb=>?_)
   ·refine oR 2 i32p11 ((16,.bool true) :: (16,.bool x2_2.1) :: E4) ?_
    refine qC6 (fun h=>?_) (fun x3_3 hx3_3=>?_)
    ·let E5:Env:=[(19,.ptr 0 4 0),(18,n29 x0_1.1),(17,.str x1_0),(16,.bool true),(16,.bool x2_2.1),(15,.str x1_0),(14,.ptr 0 4 0),(5,.str x1_0),(13,.str x1_0),(12,.vptr [.str x1_0]),(11,.bool true),(11,.bool (decide (y4_0 < (i32c0.length:Int)))),(0,.ptr 0 4 0),(2,.ptr 1 7 0),(3,.ptr 2 7 0),(8,w9 i32c0),(9,.i (i32c0.length:Int)),(10,.i y4_0)]
     let Q3:Blk:=⟨[.str a0,w34 a1,.i x2_2.2,.i a3],4,false⟩
     exact qAj (eE:=((22,.top) :: (21,.top) :: (20,.top) :: E5)) (i32d0.th 3 thrown [0] (mkH [Q3,Q2,⟨e29 x0_1.1,7,false⟩])) (hs:=[(mkH [Q3,Q2,⟨e29 x0_1.1,7,false⟩]),(mkH [Q3,Q2,⟨e29 x0_1.1,7,false⟩])]) (LX:=[⟨[.str a0,w34 a1,.i a2,.i a3],4,false⟩]) (L:=[Q3,Q2,⟨e29 x0_1.1,7,false⟩]) rfl rfl rfl (by kernel_rfl) rfl ⟨.inl rfl,trivial⟩ (by kernel_rfl) (by kernel_rfl) (by kernel_rfl) (by kernel_rfl) (qA8 3 (l':=(opsAt i32p11).toList.drop 3) (eE:=E5) (H':=(mkH [Q3,Q2,⟨e29 x0_1.1,7,false⟩])) (hs:=[]) (by kernel_rfl) (qAi (l':=(opsAt i32p11).toList.drop 4) (eE:=((20,.top) :: E5)) (hs:=[(mkH [Q3,Q2,⟨e29 x0_1.1,7,false⟩])]) (fi:=29) (args:=[.ptr 0 4 0,.i 1]) (by kernel_rfl) (by kernel_rfl) (frS 0 (M:=[Q3,Q2,⟨e29 x0_1.1,7,false⟩]) (rs:=[0]) (ms:=[]) (mv:=[]) (mm:=[]) (D:=[0]) (xs':=[.ptr 0 4 0,.i 1]) (.refl) ((hF.i5_ok (1:Int) a0 a1 x2_2.2 a3).2 h) trivial trivial (by kernel_rfl)) (by kernel_rfl) (qA1 (l':=(opsAt i32p11).toList.drop 5) (eE:=((21,.top) :: (20,.top) :: E5)) (hs:=[]) (by kernel_rfl) (by kernel_rfl) (qA1 (l':=(opsAt i32p11).toList.drop 6) (eE:=((22,.top) :: (21,.top) :: (20,.top) :: E5)) (hs:=[]) (by kernel_rfl) (by kernel_rfl) (qA1 (l':=(opsAt i32p11).toList.drop 7) (eE:=((22,.top) :: (21,.top) :: (20,.top) :: E5)) (hs:=[(mkH [Q3,Q2,⟨e29 x0_1.1,7,false⟩])]) (by kernel_rfl) (by kernel_rfl) (.nil)))))) (by kernel_rfl) (by kernel_rfl)
    ·let E5:Env:=[(19,.ptr 0 4 0),(18,n29 x0_1.1),(17,.str x1_0),(16,.bool true),(16,.bool x2_2.1),(15,.str x1_0),(14,.ptr 0 4 0),(5,.str x1_0),(13,.str x1_0),(12,.vptr [.str x1_0]),(11,.bool true),(11,.bool (decide (y4_0 < (i32c0.length:Int)))),(0,.ptr 0 4 0),(2,.ptr 1 7 0),(3,.ptr 2 7 0),(8,w9 i32c0),(9,.i (i32c0.length:Int)),(10,.i y4_0)]
     let Q4:Blk:=⟨[.str a0,w34 a1,.i x3_3.2,.i a3],4,false⟩
     let Q5:Blk:=⟨[.i 14,.str x1_0,w29 ([x0_1.1,x3_3.1]:List S28),.bool false,.bool false,.nils,.nils],7,false⟩
     refine oD (H':=(mkH [Q4,Q5,⟨e29 x0_1.1,7,false⟩])) (nav [0] i32p11) ((22,.agg [.i 14,.str x1_0,w29 ([x0_1.1,x3_3.1]:List S28),.bool false,.bool false,.nils,.nils]) :: (21,w29 ([x0_1.1,x3_3.1]:List S28)) :: (20,n29 x3_3.1) :: E5) [(mkH [Q4,Q2,⟨e29 x0_1.1,7,false⟩]),(mkH [Q4,Q5,⟨e29 x0_1.1,7,false⟩])] i32d0 (oDr 3 3 E5 (qA5 (l':=(opsAt i32p11).toList.drop 4) (eE:=((20,n29 x3_3.1) :: E5)) (hs:=[(mkH [Q4,Q2,⟨e29 x0_1.1,7,false⟩])]) (H':=(mkH [Q4,Q2,⟨e29 x0_1.1,7,false⟩])) (fi:=29) (args:=[.ptr 0 4 0,.i 1]) (v:=n29 x3_3.1) (by kernel_rfl) (frC (rs:=[0]) (ms:=[]) (ms':=[]) ((hF.i5_ok (1:Int) a0 a1 x2_2.2 a3).1 x3_3 hx3_3) trivial trivial (by kernel_rfl)) (by kernel_rfl) (oDh 3 7 ((22,.agg [.i 14,.str x1_0,w29 ([x0_1.1,x3_3.1]:List S28),.bool false,.bool false,.nils,.nils]) :: (21,w29 ([x0_1.1,x3_3.1]:List S28)) :: (20,n29 x3_3.1) :: E5) (mkH [Q4,Q5,⟨e29 x0_1.1,7,false⟩]) [(mkH [Q4,Q5,⟨e29 x0_1.1,7,false⟩])] .nil))) ?_
     exact oQF 1 [Q4,Q5,⟨e29 x0_1.1,7,false⟩] 1 [] [.agg [.i 14,.str x1_0,w29 ([x0_1.1,x3_3.1]:List S28),.bool false,.bool false,.nils,.nils]] (.agg [.i 14,.str x1_0,w29 ([x0_1.1,x3_3.1]:List S28),.bool false,.bool false,.vec 0 1 [],.vec 0 1 []]) (.agg (.cs (.cs (.cs (.cs (.cs (.nil (.nil .ps))))))) .ps) trivial
   ·refine oL 6 i32p3 [(0,.ptr 0 4 0),(2,.ptr 1 7 0),(3,.ptr 2 7 0),(8,w9 i32c0),(9,.i (i32c0.length:Int)),(10,.i (fW .i64 (y4_0 + 1)))] ?_
    exact ih (fW .i64 (y4_0 + 1)) x2_2.2
  ·exact oQF 8 [Q1,⟨e29 x0_1.1,7,false⟩,⟨e29 x0_1.1,7,false⟩] 1 [] [n29 x0_1.1] (n29 x0_1.1) .ps trivial
def i32B (k:Nat) (F:Fns0) (a0:(List Nat)) (a1:(List S33)) (a2:Int) (a3:Int):Option (Option (S28 × Int)) :=
 bT (F.i5 (1:Int) a0 a1 a2 a3) fun x0_1=>qH6 k F a0 a1 a2 a3 x0_1 k 0 x0_1.2
theorem qKe (k:Nat) (F:Fns0) (hF:FnsOk0 F):∀ a0 a1 a2 a3 r,i32B k F a0 a1 a2 a3 = some r → CallT Try.prog 81 [.ptr 0 4 0] (mkH [⟨[.str a0,w34 a1,.i a2,.i a3],4,false⟩]) ((Xi32 a0 a1 a2 a3).thr r) ((Xi32 a0 a1 a2 a3).enc r) ((Xi32 a0 a1 a2 a3).fin r):=by
 intro a0 a1 a2 a3 r h
 refine qA2 (Xi32 a0 a1 a2 a3) Try.func81 (by kernel_rfl) (by kernel_rfl) rfl (t:=i32B k F a0 a1 a2 a3) ?_ h
 unfold i32B
 refine qA (eE:=[(0,.ptr 0 4 0)]) (by kernel_rfl) ?_
 let Q1:Blk:=⟨[.i 0,.str [],.nils,.bool false,.bool false,.nils,.nils],0,false⟩
 refine oH 7 (atN 1 (ctl1 i32p1)) [(6,.ptr 0 4 0),(2,.ptr 1 7 0),(0,.ptr 0 4 0)] (mkH [⟨[.str a0,w34 a1,.i a2,.i a3],4,false⟩,Q1]) ?_
 refine oX (fun (x0_1:(S28 × Int))=>n29 x0_1.1) (fun x0_1=>[⟨[.str a0,w34 a1,.i x0_1.2,.i a3],4,false⟩,Q1]) (atN 2 (ctl1 i32p1)) 7 [0] [] [] [0] [] [.ptr 0 4 0,.i 1] (hF.i5_ok (1:Int) a0 a1 a2 a3) trivial (fun _=>trivial) trivial fun x0_1 hx0_1=>?_
 let Q2:Blk:=⟨[.str a0,w34 a1,.i x0_1.2,.i a3],4,false⟩
 refine oH 7 (atN 1 (ctl1 i32p2)) [(8,.slice 3 2 0 2 1),(3,.ptr 2 7 0),(7,n29 x0_1.1),(6,.ptr 0 4 0),(2,.ptr 1 7 0),(0,.ptr 0 4 0)] (mkH [Q2,Q1,⟨e29 x0_1.1,7,false⟩,⟨[.str [61,62],.str [58,61]],0,false⟩]) ?_
 refine oZ 8 3 2 1 [.str [61,62],.str [58,61]] [0,2,3,6,7] [] trivial ?_
 refine oLH 5 i32p3 [(0,.ptr 0 4 0),(2,.ptr 1 7 0),(3,.ptr 2 7 0),(8,w9 i32c0),(9,.i (i32c0.length:Int)),(10,.i 0)] (mkH [Q2,Q1,⟨e29 x0_1.1,7,false⟩,⟨[],0,false⟩]) ?_
 refine qAa [Q2,Q1,⟨e29 x0_1.1,7,false⟩] [⟨[],0,false⟩] (by kernel_rfl) rfl (by kernel_rfl) ⟨(by kernel_rfl),⟨(by kernel_rfl),⟨(by kernel_rfl),trivial⟩⟩⟩ ?_
 exact (qNw k F hF a0 a1 a2 a3 x0_1 k) 0 x0_1.2
theorem i32B_ok (k:Nat) (F:Fns0) (hF:FnsOk0 F):Pi32 (i32B k F):=fun a0 a1 a2 a3=>⟨fun x h=>qKe k F hF a0 a1 a2 a3 (some x) h,fun h=>⟨_,qKe k F hF a0 a1 a2 a3 none h⟩⟩
def i34p1:Pt:=nav [0,0,0] (nav [0] (bodyAt Try.f97))
def i34p2:Pt:=nav [0,0,0] i34p1
def i34p3:Pt:=nav [0,0,0] i34p2
def i34B (k:Nat) (F:Fns0) (a0:(List Nat)) (a1:(List S33)) (a2:Int) (a3:Int):Option (Option (S28 × Int)) :=
 bT (F.i40 ([]:List (List Nat)) a0 a1 a2 a3) fun x0_2=>(i12 k a0 a1 x0_2.2 a3).bind fun x1_1=>bT (i23 k ([101,110,100]:List Nat) a0 a1 x1_1.2 a3) fun x2_1=>some (some ((⟨(17:Int),([]:List Nat),⟨(x0_2.1).length,(x0_2.1).flatMap e29⟩,false,false,([]:List (List Nat)),x1_1.1⟩:S28),x2_1))
theorem qKd (k:Nat) (F:Fns0) (hF:FnsOk0 F):∀ a0 a1 a2 a3 r,i34B k F a0 a1 a2 a3 = some r → CallT Try.prog 97 [.ptr 0 4 0] (mkH [⟨[.str a0,w34 a1,.i a2,.i a3],4,false⟩]) ((Xi34 a0 a1 a2 a3).thr r) ((Xi34 a0 a1 a2 a3).enc r) ((Xi34 a0 a1 a2 a3).fin r):=by
 intro a0 a1 a2 a3 r h
 refine qA2 (Xi34 a0 a1 a2 a3) Try.func97 (by kernel_rfl) (by kernel_rfl) rfl (t:=i34B k F a0 a1 a2 a3) ?_ h
 unfold i34B
 refine qA (eE:=[(0,.ptr 0 4 0)]) (by kernel_rfl) ?_
 let E1:Env:=[(5,.func 106 [] [.ptr 1 1 0]),(4,.ptr 0 4 0),(2,.ptr 2 7 0),(1,.ptr 1 1 0),(0,.ptr 0 4 0)]
 let Q1:Blk:=⟨[.str a0,w34 a1,.i a2,.i a3],4,false⟩
 let Q2:Blk:=⟨[.i 0,.str [],.nils,.bool false,.bool false,.nils,.nils],0,false⟩
 refine oH 9 (atN 2 (ctl1 i34p1)) E1 (mkH [Q1,⟨[.ptr 0 4 0],0,false⟩,Q2]) ?_
 refine oXW 0 [Q1,⟨[.ptr 0 4 0],1,false⟩,Q2] (fun (x0_2:Ri40)=>w29 x0_2.1) (fun x0_2=>[⟨[.str a0,w34 a1,.i x0_2.2,.i a3],4,false⟩,⟨[.ptr 0 4 0],1,false⟩,Q2]) (atN 3 (ctl1 i34p1)) 6 [0,1] [] [] [0,1] [] [] [.ptr 0 4 0,.nils,.func 106 [] [.ptr 1 1 0]] [.ptr 0 4 0,w9 ([]:List (List Nat)),.func 106 [] [.ptr 1 1 0]] (.cons (.nil (.refl))) (hF.i40_ok ([]:List (List Nat)) a0 a1 a2 a3) trivial (fun _=>trivial) trivial fun x0_2 hx0_2=>?_
 let Q3:Blk:=⟨[.i 17,.str [],w29 x0_2.1,.bool false,.bool false,.nils,.nils],7,false⟩
 refine oH 7 (atN 1 (ctl1 i34p2)) ((8,.ptr 0 4 0) :: (3,.ptr 3 7 0) :: (7,.agg [.i 17,.str [],w29 x0_2.1,.bool false,.bool false,.nils,.nils]) :: (6,w29 x0_2.1) :: E1) (mkH [⟨[.str a0,w34 a1,.i x0_2.2,.i a3],4,false⟩,⟨[.ptr 0 4 0],1,false⟩,Q2,Q3]) ?_
 refine oN (fun (x1_1:Ri12)=>w9 x1_1.1) (fun x1_1=>[⟨[.str a0,w34 a1,.i x1_1.2,.i a3],4,false⟩,⟨[.ptr 0 4 0],1,false⟩,Q2,Q3]) (atN 2 (ctl1 i34p2)) 9 [0] [] [] [.ptr 0 4 0] (qAh k a0 a1 x0_2.2 a3) trivial (fun _=>trivial) fun x1_1 hx1_1=>?_
 let E3:Env:=[(1,.ptr 1 1 0),(2,.ptr 2 7 0),(3,.ptr 3 7 0)]
 let Q4:Blk:=⟨[.i 17,.str [],w29 x0_2.1,.bool false,.bool false,.nils,w9 x1_1.1],7,false⟩
 refine oLH 4 i34p3 E3 (mkH [⟨[.str a0,w34 a1,.i x1_1.2,.i a3],4,false⟩,⟨[.ptr 0 4 0],1,false⟩,Q2,Q4]) ?_
 refine oR 2 (atN 1 (ctl1 i34p3)) ((11,.ptr 0 4 0) :: E3) ?_
 refine oX (fun (x2_1:Int) => .tuple []) (fun x2_1=>[⟨[.str a0,w34 a1,.i x2_1,.i a3],4,false⟩,⟨[.ptr 0 4 0],1,false⟩,Q2,Q4]) (atN 2 (ctl1 i34p3)) 12 [0] [] [] [0,1] [] [.ptr 0 4 0,.str [101,110,100]] (qAt k ([101,110,100]:List Nat) a0 a1 x1_1.2 a3) trivial (fun _=>trivial) trivial fun x2_1 hx2_1=>?_
 exact oQF 7 [⟨[.str a0,w34 a1,.i x2_1,.i a3],4,false⟩,⟨[.ptr 0 4 0],1,false⟩,Q4,Q4] 1 [] [.agg [.i 17,.str [],w29 x0_2.1,.bool false,.bool false,.nils,w9 x1_1.1]] (.agg [.i 17,.str [],w29 x0_2.1,.bool false,.bool false,.vec 0 1 [],w9 x1_1.1]) (.agg (.cs (.cs (.cs (.cs (.cs (.nil .ps)))))) .ps) trivial
theorem i34B_ok (k:Nat) (F:Fns0) (hF:FnsOk0 F):Pi34 (i34B k F):=fun a0 a1 a2 a3=>⟨fun x h=>qKd k F hF a0 a1 a2 a3 (some x) h,fun h=>⟨_,qKd k F hF a0 a1 a2 a3 none h⟩⟩
def i36p1:Pt:=nav [0,0,0] (nav [0] (bodyAt Try.f99))
def i36p2:Pt:=nav [0,0] i36p1
def i36p3:Pt:=nav [0,0,0] i36p2
def i36d0:DP:=⟨[],[(0,0,0),(1,0,2),(0,0,0),(0,0,0),(8,0,0),(0,0,0),(60,0,0),(127,0,0),(255,0,0),(511,0,0)],10,thrown,[],H0⟩
def i36B (k:Nat) (F:Fns0) (a0:Int) (a1:(List Nat)) (a2:Bool) (a3:Bool) (a4:(List (List Nat))) (a5:(List (List Nat))) (a6:(List Nat)) (a7:(List S33)) (a8:Int) (a9:Int) (b1:(List S28)):Option (Option Ri36) :=
 (i12 k a6 a7 a8 a9).bind fun x0_4=>bT (F.i41 x0_4.1 a6 a7 x0_4.2 a9) fun x0_6=>(appS 104 b1 x0_6.1).bind fun x0_7=>(i12 k a6 a7 x0_6.2 a9).bind fun x1_1=>bT (i23 k ([101,110,100]:List Nat) a6 a7 x1_1.2 a9) fun x2_1=>some (some (a0,a1,a2,a3,a4,x1_1.1,x2_1,x0_7))
theorem qKc (k:Nat) (F:Fns0) (hF:FnsOk0 F):∀ a0 a1 a2 a3 a4 a5 a6 a7 a8 a9 b1 r,i36B k F a0 a1 a2 a3 a4 a5 a6 a7 a8 a9 b1 = some r → CallT Try.prog 99 [.ptr 0 4 0,.agg [.i a0,.str a1,.own 1 (b1).length 7,.bool a2,.bool a3,w9 a4,w9 a5],.func 100 [.ptr 0 4 0] []] (mkH [⟨[.str a6,w34 a7,.i a8,.i a9],4,false⟩,⟨(b1).flatMap e29,0,false⟩]) ((Xi36 a0 a1 a2 a3 a4 a5 a6 a7 a8 a9 b1).thr r) ((Xi36 a0 a1 a2 a3 a4 a5 a6 a7 a8 a9 b1).enc r) ((Xi36 a0 a1 a2 a3 a4 a5 a6 a7 a8 a9 b1).fin r):=by
 intro a0 a1 a2 a3 a4 a5 a6 a7 a8 a9 b1 r h
 refine qA2 (Xi36 a0 a1 a2 a3 a4 a5 a6 a7 a8 a9 b1) Try.func99 (by kernel_rfl) (by kernel_rfl) rfl (t:=i36B k F a0 a1 a2 a3 a4 a5 a6 a7 a8 a9 b1) ?_ h
 unfold i36B
 refine qA (eE:=[(0,.ptr 0 4 0),(1,.agg [.i a0,.str a1,.own 1 (b1).length 7,.bool a2,.bool a3,w9 a4,w9 a5]),(2,.func 100 [.ptr 0 4 0] [])]) (by kernel_rfl) ?_
 let Q1:Blk:=⟨[.str a6,w34 a7,.i a8,.i a9],4,false⟩
 let Q2:Blk:=⟨(b1).flatMap e29,0,false⟩
 let Q3:Blk:=⟨[.i a0,.str a1,.own 1 (b1).length 7,.bool a2,.bool a3,w9 a4,w9 a5],0,false⟩
 let Q4:Blk:=⟨[.i 0,.str [],.nils,.bool false,.bool false,.nils,.nils],0,false⟩
 refine oH 6 i36p1 [(6,.ptr 3 7 0),(4,.ptr 2 7 0),(0,.ptr 0 4 0),(1,.agg [.i a0,.str a1,.own 1 (b1).length 7,.bool a2,.bool a3,w9 a4,w9 a5]),(2,.func 100 [.ptr 0 4 0] [])] (mkH [Q1,Q2,Q3,Q4]) ?_
 refine qA7 (fun x0_4 hx0_4=>?_)
 refine qC6 (fun h=>?_) (fun x0_6 hx0_6=>?_)
 ·let E2:Env:=[(10,.ptr 0 4 0),(9,.ptr 0 4 0),(8,.own 1 (b1).length 7),(7,.ptr 2 7 2),(6,.ptr 3 7 0),(4,.ptr 2 7 0),(0,.ptr 0 4 0),(1,.agg [.i a0,.str a1,.own 1 (b1).length 7,.bool a2,.bool a3,w9 a4,w9 a5]),(2,.func 100 [.ptr 0 4 0] [])]
  let E3:Env:=((15,.top) :: (14,.top) :: (13,.top) :: (12,.func 100 [.ptr 0 4 0] []) :: (11,w9 x0_4.1) :: E2)
  let Q5:Blk:=⟨[.str a6,w34 a7,.i x0_4.2,.i a9],4,false⟩
  exact qAj (eE:=E3) (i36d0.th 6 thrown [0,2] (mkH [Q5,Q2,Q3,Q4])) (hs:=[(mkH [Q5,Q2,Q3,Q4]),(mkH [Q5,Q2,Q3,Q4]),(mkH [Q5,Q2,Q3,Q4]),(mkH [Q5,Q2,Q3,Q4])]) (LX:=[Q1,Q2]) (L:=[Q5,Q2,Q3,Q4]) rfl rfl rfl (by kernel_rfl) rfl ⟨.inl rfl,⟨.inl rfl,trivial⟩⟩ (by kernel_rfl) (by kernel_rfl) (by kernel_rfl) (by kernel_rfl) (qA8 4 (l':=(opsAt i36p1).toList.drop 4) (eE:=E2) (H':=(mkH [Q1,Q2,Q3,Q4])) (hs:=[]) (by kernel_rfl) (qA5 (l':=(opsAt i36p1).toList.drop 5) (eE:=((11,w9 x0_4.1) :: E2)) (hs:=[(mkH [Q5,Q2,Q3,Q4])]) (H':=(mkH [Q5,Q2,Q3,Q4])) (fi:=58) (args:=[.ptr 0 4 0]) (v:=w9 x0_4.1) (by kernel_rfl) (frC (rs:=[0]) (ms:=[]) (ms':=[]) (qAh k a6 a7 a8 a9 x0_4 hx0_4) trivial trivial (by kernel_rfl)) (by kernel_rfl) (qA8 1 (l':=(opsAt i36p1).toList.drop 6) (eE:=((12,.func 100 [.ptr 0 4 0] []) :: (11,w9 x0_4.1) :: E2)) (H':=(mkH [Q5,Q2,Q3,Q4])) (hs:=[]) (by kernel_rfl) (qAi (l':=(opsAt i36p1).toList.drop 7) (eE:=((13,.top) :: (12,.func 100 [.ptr 0 4 0] []) :: (11,w9 x0_4.1) :: E2)) (hs:=[(mkH [Q5,Q2,Q3,Q4])]) (fi:=105) (args:=[.ptr 0 4 0,w9 x0_4.1,.func 100 [.ptr 0 4 0] []]) (by kernel_rfl) (by kernel_rfl) (frS 0 (M:=[Q5,Q2,Q3,Q4]) (rs:=[0]) (ms:=[]) (mv:=[0,1]) (mm:=[0,1]) (D:=[0,2]) (xs':=[.ptr 0 4 0,w9 x0_4.1,.func 100 [.ptr 0 4 0] []]) (.refl) ((hF.i41_ok x0_4.1 a6 a7 x0_4.2 a9).2 h) trivial ⟨u29 _,trivial⟩ (by kernel_rfl)) (by kernel_rfl) (qA1 (l':=(opsAt i36p1).toList.drop 8) (eE:=((14,.top) :: (13,.top) :: (12,.func 100 [.ptr 0 4 0] []) :: (11,w9 x0_4.1) :: E2)) (hs:=[(mkH [Q5,Q2,Q3,Q4])]) (by kernel_rfl) (by kernel_rfl) (qA1 (l':=(opsAt i36p1).toList.drop 9) (eE:=E3) (hs:=[]) (by kernel_rfl) (by kernel_rfl) (qA1 (l':=(opsAt i36p1).toList.drop 10) (eE:=E3) (hs:=[(mkH [Q5,Q2,Q3,Q4])]) (by kernel_rfl) (by kernel_rfl) (.nil)))))))) (by kernel_rfl) (by kernel_rfl)
 ·refine qA7 (fun x0_7 hx0_7=>?_)
  let E2:Env:=[(10,.ptr 0 4 0),(9,.ptr 0 4 0),(8,.own 1 (b1).length 7),(7,.ptr 2 7 2),(6,.ptr 3 7 0),(4,.ptr 2 7 0),(0,.ptr 0 4 0),(1,.agg [.i a0,.str a1,.own 1 (b1).length 7,.bool a2,.bool a3,w9 a4,w9 a5]),(2,.func 100 [.ptr 0 4 0] [])]
  let E4:Env:=((15,.ptr 2 7 2) :: (14,.own 1 (x0_7).length 7) :: (13,w29 x0_6.1) :: (12,.func 100 [.ptr 0 4 0] []) :: (11,w9 x0_4.1) :: E2)
  let Q6:Blk:=⟨[.str a6,w34 a7,.i x0_6.2,.i a9],4,false⟩
  let Q7:Blk:=⟨[.str a6,w34 a7,.i x0_4.2,.i a9],4,false⟩
  refine oD (H':=(mkH [Q6,⟨(x0_7).flatMap e29,0,false⟩,⟨[.i a0,.str a1,.own 1 (x0_7).length 7,.bool a2,.bool a3,w9 a4,w9 a5],7,false⟩,Q4])) (nav [0] i36p1) E4 [(mkH [Q7,Q2,Q3,Q4]),(mkH [Q6,Q2,Q3,Q4]),(mkH [Q6,⟨(x0_7).flatMap e29,0,false⟩,Q3,Q4]),(mkH [Q6,⟨(x0_7).flatMap e29,0,false⟩,⟨[.i a0,.str a1,.own 1 (x0_7).length 7,.bool a2,.bool a3,w9 a4,w9 a5],7,false⟩,Q4])] i36d0 (oDr 4 4 E2 (qA5 (l':=(opsAt i36p1).toList.drop 5) (eE:=((11,w9 x0_4.1) :: E2)) (hs:=[(mkH [Q7,Q2,Q3,Q4])]) (H':=(mkH [Q7,Q2,Q3,Q4])) (fi:=58) (args:=[.ptr 0 4 0]) (v:=w9 x0_4.1) (by kernel_rfl) (frC (rs:=[0]) (ms:=[]) (ms':=[]) (qAh k a6 a7 a8 a9 x0_4 hx0_4) trivial trivial (by kernel_rfl)) (by kernel_rfl) (oDr 1 6 ((12,.func 100 [.ptr 0 4 0] []) :: (11,w9 x0_4.1) :: E2) (qA5 (l':=(opsAt i36p1).toList.drop 7) (eE:=((13,w29 x0_6.1) :: (12,.func 100 [.ptr 0 4 0] []) :: (11,w9 x0_4.1) :: E2)) (hs:=[(mkH [Q6,Q2,Q3,Q4])]) (H':=(mkH [Q6,Q2,Q3,Q4])) (fi:=105) (args:=[.ptr 0 4 0,w9 x0_4.1,.func 100 [.ptr 0 4 0] []]) (v:=w29 x0_6.1) (by kernel_rfl) (frC (rs:=[0]) (ms:=[]) (ms':=[]) ((hF.i41_ok x0_4.1 a6 a7 x0_4.2 a9).1 x0_6 hx0_6) trivial trivial (by kernel_rfl)) (by kernel_rfl) (qA9 (l':=(opsAt i36p1).toList.drop 8) (eE:=((14,.own 1 (x0_7).length 7) :: (13,w29 x0_6.1) :: (12,.func 100 [.ptr 0 4 0] []) :: (11,w9 x0_4.1) :: E2)) (hs:=[(mkH [Q6,⟨(x0_7).flatMap e29,0,false⟩,Q3,Q4])]) (x:=x0_7) (fun (x0_7:(List S28))=>(.own 1 (x0_7).length 7,(mkH [Q6,⟨(x0_7).flatMap e29,0,false⟩,Q3,Q4]))) (appHV (sz:=7) qA6 rfl qAu [Q6,Q2,Q3,Q4] 1 104 b1 x0_6.1 rfl rfl (by kernel_rfl)) hx0_7 (by kernel_rfl) (oDh 2 10 E4 (mkH [Q6,⟨(x0_7).flatMap e29,0,false⟩,⟨[.i a0,.str a1,.own 1 (x0_7).length 7,.bool a2,.bool a3,w9 a4,w9 a5],7,false⟩,Q4]) [(mkH [Q6,⟨(x0_7).flatMap e29,0,false⟩,⟨[.i a0,.str a1,.own 1 (x0_7).length 7,.bool a2,.bool a3,w9 a4,w9 a5],7,false⟩,Q4])] .nil)))))) ?_
  refine oR 3 (atN 1 (ctl1 i36p2)) ((16,.ptr 0 4 0) :: E4) ?_
  let Q8:Blk:=⟨(x0_7).flatMap e29,0,false⟩
  refine oN (fun (x1_1:Ri12)=>w9 x1_1.1) (fun x1_1=>[⟨[.str a6,w34 a7,.i x1_1.2,.i a9],4,false⟩,Q8,⟨[.i a0,.str a1,.own 1 (x0_7).length 7,.bool a2,.bool a3,w9 a4,w9 a5],7,false⟩,Q4]) (atN 2 (ctl1 i36p2)) 17 [0] [] [] [.ptr 0 4 0] (qAh k a6 a7 x0_6.2 a9) trivial (fun _=>trivial) fun x1_1 hx1_1=>?_
  let Q9:Blk:=⟨[.i a0,.str a1,.own 1 (x0_7).length 7,.bool a2,.bool a3,w9 a4,w9 x1_1.1],7,false⟩
  refine oLH 4 i36p3 [(0,.ptr 0 4 0),(4,.ptr 2 7 0),(6,.ptr 3 7 0)] (mkH [⟨[.str a6,w34 a7,.i x1_1.2,.i a9],4,false⟩,Q8,Q9,Q4]) ?_
  let E5:Env:=[(0,.ptr 0 4 0),(4,.ptr 2 7 0),(6,.ptr 3 7 0)]
  refine oR 2 (atN 1 (ctl1 i36p3)) ((19,.ptr 0 4 0) :: E5) ?_
  refine oX (fun (x2_1:Int) => .tuple []) (fun x2_1=>[⟨[.str a6,w34 a7,.i x2_1,.i a9],4,false⟩,Q8,Q9,Q4]) (atN 2 (ctl1 i36p3)) 20 [0] [] [] [0,2] [0,1] [.ptr 0 4 0,.str [101,110,100]] (qAt k ([101,110,100]:List Nat) a6 a7 x1_1.2 a9) trivial (fun _=>trivial) ⟨u29 _,trivial⟩ fun x2_1 hx2_1=>?_
  let Q10:Blk:=⟨[.str a6,w34 a7,.i x2_1,.i a9],4,false⟩
  refine oH 7 .fin ((21,.agg [.i a0,.str a1,.own 1 (x0_7).length 7,.bool a2,.bool a3,w9 a4,w9 x1_1.1]) :: (20,.tuple []) :: (19,.ptr 0 4 0) :: E5) (mkH [Q10,Q8,Q9,Q9]) ?_
  exact qBq (r:=some (a0,a1,a2,a3,a4,x1_1.1,x2_1,x0_7)) (xs:=[.agg [.i a0,.str a1,.own 1 (x0_7).length 7,.bool a2,.bool a3,w9 a4,w9 x1_1.1]]) [Q10,Q8] [Q9,Q9] (by kernel_rfl) (by kernel_rfl) (by kernel_rfl) (by kernel_rfl) (by kernel_rfl) ⟨(by kernel_rfl),⟨(qA3 _ (u29 _)),trivial⟩⟩ (by kernel_rfl) (by kernel_rfl)
theorem i36B_ok (k:Nat) (F:Fns0) (hF:FnsOk0 F):Pi36 (i36B k F):=fun a0 a1 a2 a3 a4 a5 a6 a7 a8 a9 b1=>⟨fun x h=>qKc k F hF a0 a1 a2 a3 a4 a5 a6 a7 a8 a9 b1 (some x) h,fun h=>⟨_,qKc k F hF a0 a1 a2 a3 a4 a5 a6 a7 a8 a9 b1 none h⟩⟩
def i37p1:Pt:=nav [0,0,0] (nav [0] (bodyAt Try.f99))
def i37p2:Pt:=nav [0,0] i37p1
def i37p3:Pt:=nav [0,0,0] i37p2
def i37d0:DP:=⟨[],[(0,0,0),(1,0,2),(0,0,0),(0,0,0),(8,0,0),(0,0,0),(60,0,0),(127,0,0),(255,0,0),(511,0,0)],10,thrown,[],H0⟩
def i37B (k:Nat) (F:Fns0) (a0:Int) (a1:(List Nat)) (a2:Bool) (a3:Bool) (a4:(List (List Nat))) (a5:(List (List Nat))) (a6:(List Nat)) (a7:(List S33)) (a8:Int) (a9:Int) (b1:(List S28)):Option (Option Ri37) :=
 (i12 k a6 a7 a8 a9).bind fun x0_4=>bT (F.i42 x0_4.1 a6 a7 x0_4.2 a9) fun x0_6=>(appS 104 b1 x0_6.1).bind fun x0_7=>(i12 k a6 a7 x0_6.2 a9).bind fun x1_1=>bT (i23 k ([101,110,100]:List Nat) a6 a7 x1_1.2 a9) fun x2_1=>some (some (a0,a1,a2,a3,a4,x1_1.1,x2_1,x0_7))
theorem qKb (k:Nat) (F:Fns0) (hF:FnsOk0 F):∀ a0 a1 a2 a3 a4 a5 a6 a7 a8 a9 b1 r,i37B k F a0 a1 a2 a3 a4 a5 a6 a7 a8 a9 b1 = some r → CallT Try.prog 99 [.ptr 0 4 0,.agg [.i a0,.str a1,.own 1 (b1).length 7,.bool a2,.bool a3,w9 a4,w9 a5],.func 101 [.ptr 0 4 0] []] (mkH [⟨[.str a6,w34 a7,.i a8,.i a9],4,false⟩,⟨(b1).flatMap e29,0,false⟩]) ((Xi37 a0 a1 a2 a3 a4 a5 a6 a7 a8 a9 b1).thr r) ((Xi37 a0 a1 a2 a3 a4 a5 a6 a7 a8 a9 b1).enc r) ((Xi37 a0 a1 a2 a3 a4 a5 a6 a7 a8 a9 b1).fin r):=by
 intro a0 a1 a2 a3 a4 a5 a6 a7 a8 a9 b1 r h
 refine qA2 (Xi37 a0 a1 a2 a3 a4 a5 a6 a7 a8 a9 b1) Try.func99 (by kernel_rfl) (by kernel_rfl) rfl (t:=i37B k F a0 a1 a2 a3 a4 a5 a6 a7 a8 a9 b1) ?_ h
 unfold i37B
 refine qA (eE:=[(0,.ptr 0 4 0),(1,.agg [.i a0,.str a1,.own 1 (b1).length 7,.bool a2,.bool a3,w9 a4,w9 a5]),(2,.func 101 [.ptr 0 4 0] [])]) (by kernel_rfl) ?_
 let Q1:Blk:=⟨[.str a6,w34 a7,.i a8,.i a9],4,false⟩
 let Q2:Blk:=⟨(b1).flatMap e29,0,false⟩
 let Q3:Blk:=⟨[.i a0,.str a1,.own 1 (b1).length 7,.bool a2,.bool a3,w9 a4,w9 a5],0,false⟩
 let Q4:Blk:=⟨[.i 0,.str [],.nils,.bool false,.bool false,.nils,.nils],0,false⟩
 refine oH 6 i37p1 [(6,.ptr 3 7 0),(4,.ptr 2 7 0),(0,.ptr 0 4 0),(1,.agg [.i a0,.str a1,.own 1 (b1).length 7,.bool a2,.bool a3,w9 a4,w9 a5]),(2,.func 101 [.ptr 0 4 0] [])] (mkH [Q1,Q2,Q3,Q4]) ?_
 refine qA7 (fun x0_4 hx0_4=>?_)
 refine qC6 (fun h=>?_) (fun x0_6 hx0_6=>?_)
 ·let E2:Env:=[(10,.ptr 0 4 0),(9,.ptr 0 4 0),(8,.own 1 (b1).length 7),(7,.ptr 2 7 2),(6,.ptr 3 7 0),(4,.ptr 2 7 0),(0,.ptr 0 4 0),(1,.agg [.i a0,.str a1,.own 1 (b1).length 7,.bool a2,.bool a3,w9 a4,w9 a5]),(2,.func 101 [.ptr 0 4 0] [])]
  let E3:Env:=((15,.top) :: (14,.top) :: (13,.top) :: (12,.func 101 [.ptr 0 4 0] []) :: (11,w9 x0_4.1) :: E2)
  let Q5:Blk:=⟨[.str a6,w34 a7,.i x0_4.2,.i a9],4,false⟩
  exact qAj (eE:=E3) (i37d0.th 6 thrown [0,2] (mkH [Q5,Q2,Q3,Q4])) (hs:=[(mkH [Q5,Q2,Q3,Q4]),(mkH [Q5,Q2,Q3,Q4]),(mkH [Q5,Q2,Q3,Q4]),(mkH [Q5,Q2,Q3,Q4])]) (LX:=[Q1,Q2]) (L:=[Q5,Q2,Q3,Q4]) rfl rfl rfl (by kernel_rfl) rfl ⟨.inl rfl,⟨.inl rfl,trivial⟩⟩ (by kernel_rfl) (by kernel_rfl) (by kernel_rfl) (by kernel_rfl) (qA8 4 (l':=(opsAt i37p1).toList.drop 4) (eE:=E2) (H':=(mkH [Q1,Q2,Q3,Q4])) (hs:=[]) (by kernel_rfl) (qA5 (l':=(opsAt i37p1).toList.drop 5) (eE:=((11,w9 x0_4.1) :: E2)) (hs:=[(mkH [Q5,Q2,Q3,Q4])]) (H':=(mkH [Q5,Q2,Q3,Q4])) (fi:=58) (args:=[.ptr 0 4 0]) (v:=w9 x0_4.1) (by kernel_rfl) (frC (rs:=[0]) (ms:=[]) (ms':=[]) (qAh k a6 a7 a8 a9 x0_4 hx0_4) trivial trivial (by kernel_rfl)) (by kernel_rfl) (qA8 1 (l':=(opsAt i37p1).toList.drop 6) (eE:=((12,.func 101 [.ptr 0 4 0] []) :: (11,w9 x0_4.1) :: E2)) (H':=(mkH [Q5,Q2,Q3,Q4])) (hs:=[]) (by kernel_rfl) (qAi (l':=(opsAt i37p1).toList.drop 7) (eE:=((13,.top) :: (12,.func 101 [.ptr 0 4 0] []) :: (11,w9 x0_4.1) :: E2)) (hs:=[(mkH [Q5,Q2,Q3,Q4])]) (fi:=105) (args:=[.ptr 0 4 0,w9 x0_4.1,.func 101 [.ptr 0 4 0] []]) (by kernel_rfl) (by kernel_rfl) (frS 0 (M:=[Q5,Q2,Q3,Q4]) (rs:=[0]) (ms:=[]) (mv:=[0,1]) (mm:=[0,1]) (D:=[0,2]) (xs':=[.ptr 0 4 0,w9 x0_4.1,.func 101 [.ptr 0 4 0] []]) (.refl) ((hF.i42_ok x0_4.1 a6 a7 x0_4.2 a9).2 h) trivial ⟨u29 _,trivial⟩ (by kernel_rfl)) (by kernel_rfl) (qA1 (l':=(opsAt i37p1).toList.drop 8) (eE:=((14,.top) :: (13,.top) :: (12,.func 101 [.ptr 0 4 0] []) :: (11,w9 x0_4.1) :: E2)) (hs:=[(mkH [Q5,Q2,Q3,Q4])]) (by kernel_rfl) (by kernel_rfl) (qA1 (l':=(opsAt i37p1).toList.drop 9) (eE:=E3) (hs:=[]) (by kernel_rfl) (by kernel_rfl) (qA1 (l':=(opsAt i37p1).toList.drop 10) (eE:=E3) (hs:=[(mkH [Q5,Q2,Q3,Q4])]) (by kernel_rfl) (by kernel_rfl) (.nil)))))))) (by kernel_rfl) (by kernel_rfl)
 ·refine qA7 (fun x0_7 hx0_7=>?_)
  let E2:Env:=[(10,.ptr 0 4 0),(9,.ptr 0 4 0),(8,.own 1 (b1).length 7),(7,.ptr 2 7 2),(6,.ptr 3 7 0),(4,.ptr 2 7 0),(0,.ptr 0 4 0),(1,.agg [.i a0,.str a1,.own 1 (b1).length 7,.bool a2,.bool a3,w9 a4,w9 a5]),(2,.func 101 [.ptr 0 4 0] [])]
  let E4:Env:=((15,.ptr 2 7 2) :: (14,.own 1 (x0_7).length 7) :: (13,w29 x0_6.1) :: (12,.func 101 [.ptr 0 4 0] []) :: (11,w9 x0_4.1) :: E2)
  let Q6:Blk:=⟨[.str a6,w34 a7,.i x0_6.2,.i a9],4,false⟩
  let Q7:Blk:=⟨[.str a6,w34 a7,.i x0_4.2,.i a9],4,false⟩
  refine oD (H':=(mkH [Q6,⟨(x0_7).flatMap e29,0,false⟩,⟨[.i a0,.str a1,.own 1 (x0_7).length 7,.bool a2,.bool a3,w9 a4,w9 a5],7,false⟩,Q4])) (nav [0] i37p1) E4 [(mkH [Q7,Q2,Q3,Q4]),(mkH [Q6,Q2,Q3,Q4]),(mkH [Q6,⟨(x0_7).flatMap e29,0,false⟩,Q3,Q4]),(mkH [Q6,⟨(x0_7).flatMap e29,0,false⟩,⟨[.i a0,.str a1,.own 1 (x0_7).length 7,.bool a2,.bool a3,w9 a4,w9 a5],7,false⟩,Q4])] i37d0 (oDr 4 4 E2 (qA5 (l':=(opsAt i37p1).toList.drop 5) (eE:=((11,w9 x0_4.1) :: E2)) (hs:=[(mkH [Q7,Q2,Q3,Q4])]) (H':=(mkH [Q7,Q2,Q3,Q4])) (fi:=58) (args:=[.ptr 0 4 0]) (v:=w9 x0_4.1) (by kernel_rfl) (frC (rs:=[0]) (ms:=[]) (ms':=[]) (qAh k a6 a7 a8 a9 x0_4 hx0_4) trivial trivial (by kernel_rfl)) (by kernel_rfl) (oDr 1 6 ((12,.func 101 [.ptr 0 4 0] []) :: (11,w9 x0_4.1) :: E2) (qA5 (l':=(opsAt i37p1).toList.drop 7) (eE:=((13,w29 x0_6.1) :: (12,.func 101 [.ptr 0 4 0] []) :: (11,w9 x0_4.1) :: E2)) (hs:=[(mkH [Q6,Q2,Q3,Q4])]) (H':=(mkH [Q6,Q2,Q3,Q4])) (fi:=105) (args:=[.ptr 0 4 0,w9 x0_4.1,.func 101 [.ptr 0 4 0] []]) (v:=w29 x0_6.1) (by kernel_rfl) (frC (rs:=[0]) (ms:=[]) (ms':=[]) ((hF.i42_ok x0_4.1 a6 a7 x0_4.2 a9).1 x0_6 hx0_6) trivial trivial (by kernel_rfl)) (by kernel_rfl) (qA9 (l':=(opsAt i37p1).toList.drop 8) (eE:=((14,.own 1 (x0_7).length 7) :: (13,w29 x0_6.1) :: (12,.func 101 [.ptr 0 4 0] []) :: (11,w9 x0_4.1) :: E2)) (hs:=[(mkH [Q6,⟨(x0_7).flatMap e29,0,false⟩,Q3,Q4])]) (x:=x0_7) (fun (x0_7:(List S28))=>(.own 1 (x0_7).length 7,(mkH [Q6,⟨(x0_7).flatMap e29,0,false⟩,Q3,Q4]))) (appHV (sz:=7) qA6 rfl qAu [Q6,Q2,Q3,Q4] 1 104 b1 x0_6.1 rfl rfl (by kernel_rfl)) hx0_7 (by kernel_rfl) (oDh 2 10 E4 (mkH [Q6,⟨(x0_7).flatMap e29,0,false⟩,⟨[.i a0,.str a1,.own 1 (x0_7).length 7,.bool a2,.bool a3,w9 a4,w9 a5],7,false⟩,Q4]) [(mkH [Q6,⟨(x0_7).flatMap e29,0,false⟩,⟨[.i a0,.str a1,.own 1 (x0_7).length 7,.bool a2,.bool a3,w9 a4,w9 a5],7,false⟩,Q4])] .nil)))))) ?_
  refine oR 3 (atN 1 (ctl1 i37p2)) ((16,.ptr 0 4 0) :: E4) ?_
  let Q8:Blk:=⟨(x0_7).flatMap e29,0,false⟩
  refine oN (fun (x1_1:Ri12)=>w9 x1_1.1) (fun x1_1=>[⟨[.str a6,w34 a7,.i x1_1.2,.i a9],4,false⟩,Q8,⟨[.i a0,.str a1,.own 1 (x0_7).length 7,.bool a2,.bool a3,w9 a4,w9 a5],7,false⟩,Q4]) (atN 2 (ctl1 i37p2)) 17 [0] [] [] [.ptr 0 4 0] (qAh k a6 a7 x0_6.2 a9) trivial (fun _=>trivial) fun x1_1 hx1_1=>?_
  let Q9:Blk:=⟨[.i a0,.str a1,.own 1 (x0_7).length 7,.bool a2,.bool a3,w9 a4,w9 x1_1.1],7,false⟩
  refine oLH 4 i37p3 [(0,.ptr 0 4 0),(4,.ptr 2 7 0),(6,.ptr 3 7 0)] (mkH [⟨[.str a6,w34 a7,.i x1_1.2,.i a9],4,false⟩,Q8,Q9,Q4]) ?_
  let E5:Env:=[(0,.ptr 0 4 0),(4,.ptr 2 7 0),(6,.ptr 3 7 0)]
  refine oR 2 (atN 1 (ctl1 i37p3)) ((19,.ptr 0 4 0) :: E5) ?_
  refine oX (fun (x2_1:Int) => .tuple []) (fun x2_1=>[⟨[.str a6,w34 a7,.i x2_1,.i a9],4,false⟩,Q8,Q9,Q4]) (atN 2 (ctl1 i37p3)) 20 [0] [] [] [0,2] [0,1] [.ptr 0 4 0,.str [101,110,100]] (qAt k ([101,110,100]:List Nat) a6 a7 x1_1.2 a9) trivial (fun _=>trivial) ⟨u29 _,trivial⟩ fun x2_1 hx2_1=>?_
  let Q10:Blk:=⟨[.str a6,w34 a7,.i x2_1,.i a9],4,false⟩
  refine oH 7 .fin ((21,.agg [.i a0,.str a1,.own 1 (x0_7).length 7,.bool a2,.bool a3,w9 a4,w9 x1_1.1]) :: (20,.tuple []) :: (19,.ptr 0 4 0) :: E5) (mkH [Q10,Q8,Q9,Q9]) ?_
  exact qBq (r:=some (a0,a1,a2,a3,a4,x1_1.1,x2_1,x0_7)) (xs:=[.agg [.i a0,.str a1,.own 1 (x0_7).length 7,.bool a2,.bool a3,w9 a4,w9 x1_1.1]]) [Q10,Q8] [Q9,Q9] (by kernel_rfl) (by kernel_rfl) (by kernel_rfl) (by kernel_rfl) (by kernel_rfl) ⟨(by kernel_rfl),⟨(qA3 _ (u29 _)),trivial⟩⟩ (by kernel_rfl) (by kernel_rfl)
theorem i37B_ok (k:Nat) (F:Fns0) (hF:FnsOk0 F):Pi37 (i37B k F):=fun a0 a1 a2 a3 a4 a5 a6 a7 a8 a9 b1=>⟨fun x h=>qKb k F hF a0 a1 a2 a3 a4 a5 a6 a7 a8 a9 b1 (some x) h,fun h=>⟨_,qKb k F hF a0 a1 a2 a3 a4 a5 a6 a7 a8 a9 b1 none h⟩⟩
def i38c0:List Nat:=[97,102,116,101,114]
def i38p2:Pt:=nav [0,0,0] (nav [0,0,0] (nav [0] (bodyAt Try.f102)))
def i38p3:Pt:=nav [0,0,0,0] i38p2
def i38p4:Pt:=nav [0,0] i38p3
def i38p5:Pt:=nav [1,0] i38p4
def i38p6:Pt:=nav [2,0,0,0] i38p4
def i38p7:Pt:=nav [0,0] i38p5
def i38p8:Pt:=nav [0,0] i38p6
def i38p9:Pt:=nav [1,0] i38p8
def i38p11:Pt:=nav [0,0,0] i38p9
def i38p12:Pt:=nav [0,0,0] (nav [2,0,0] i38p8)
def i38p13:Pt:=nav [0,0,0] i38p11
def i38p14:Pt:=nav [0,0,0] i38p12
def i38p15:Pt:=nav [0,0,0] i38p13
def i38p17:Pt:=nav [0,0] i38p15
def i38B (k:Nat) (F:Fns0) (a0:(List Nat)) (a1:(List S33)) (a2:Int) (a3:Int):Option (Option (S28 × Int)) :=
 (i12 k a0 a1 a2 a3).bind fun x0_1=>(i10 k i38c0 a0 a1 x0_1.2 a3).bind fun x1_1=>if (!x1_1) then (bT (F.i43 x0_1.1 a0 a1 x0_1.2 a3) fun x2_4=>(i12 k a0 a1 x2_4.1 a3).bind fun x3_1=>bT (i7 k i38c0 a0 a1 x3_1.2 a3) fun x4_1=>if x4_1.1 then (bT (F.i5 (1:Int) a0 a1 x4_1.2 a3) fun x5_1=>bT (F.i47 ([]:List Nat) (⟨23,([]:List Nat),(⟨(([x5_1.1]:List S28)).length,(([x5_1.1]:List S28)).flatMap e29⟩:Raw),false,false,([]:List (List Nat)),([]:List (List Nat))⟩:S28) (⟨24,([]:List Nat),(⟨(([]:List S28)).length,(([]:List S28)).flatMap e29⟩:Raw),false,false,([]:List (List Nat)),([]:List (List Nat))⟩:S28) a0 a1 x5_1.2 a3) fun x6_3=>(appS 104 x2_4.2 ([(⟨x6_3.1.f0,x6_3.1.f1,x6_3.1.f2,x6_3.1.f3,x6_3.1.f4,x3_1.1,x6_3.1.f6⟩:S28)]:List S28)).bind fun x7_4=>(i12 k a0 a1 x6_3.2 a3).bind fun x8_1=>bT (i23 k ([101,110,100]:List Nat) a0 a1 x8_1.2 a3) fun x9_1=>some (some ((⟨(20:Int),i38c0,⟨(x7_4).length,(x7_4).flatMap e29⟩,false,false,([]:List (List Nat)),x8_1.1⟩:S28),x9_1))) else (bT (i23 k ([101,110,100]:List Nat) a0 a1 x4_1.2 a3) fun x9_1=>some (some ((⟨(20:Int),([]:List Nat),⟨(x2_4.2).length,(x2_4.2).flatMap e29⟩,false,false,([]:List (List Nat)),x3_1.1⟩:S28),x9_1)))) else (bT (i7 k i38c0 a0 a1 x0_1.2 a3) fun x4_1=>if x4_1.1 then (bT (F.i5 (1:Int) a0 a1 x4_1.2 a3) fun x5_1=>bT (F.i47 ([]:List Nat) (⟨23,([]:List Nat),(⟨(([x5_1.1]:List S28)).length,(([x5_1.1]:List S28)).flatMap e29⟩:Raw),false,false,([]:List (List Nat)),([]:List (List Nat))⟩:S28) (⟨24,([]:List Nat),(⟨(([]:List S28)).length,(([]:List S28)).flatMap e29⟩:Raw),false,false,([]:List (List Nat)),([]:List (List Nat))⟩:S28) a0 a1 x5_1.2 a3) fun x6_3=>(appS 104 ([]:List S28) ([(⟨x6_3.1.f0,x6_3.1.f1,x6_3.1.f2,x6_3.1.f3,x6_3.1.f4,x0_1.1,x6_3.1.f6⟩:S28)]:List S28)).bind fun x7_4=>(i12 k a0 a1 x6_3.2 a3).bind fun x8_1=>bT (i23 k ([101,110,100]:List Nat) a0 a1 x8_1.2 a3) fun x9_1=>some (some ((⟨(20:Int),i38c0,⟨(x7_4).length,(x7_4).flatMap e29⟩,false,false,([]:List (List Nat)),x8_1.1⟩:S28),x9_1))) else (bT (i23 k ([101,110,100]:List Nat) a0 a1 x4_1.2 a3) fun x9_1=>some (some ((⟨(20:Int),([]:List Nat),⟨(([]:List S28)).length,(([]:List S28)).flatMap e29⟩,false,false,([]:List (List Nat)),x0_1.1⟩:S28),x9_1))))
theorem qKa (k:Nat) (F:Fns0) (hF:FnsOk0 F):∀ a0 a1 a2 a3 r,i38B k F a0 a1 a2 a3 = some r → CallT Try.prog 102 [.ptr 0 4 0] (mkH [⟨[.str a0,w34 a1,.i a2,.i a3],4,false⟩]) ((Xi38 a0 a1 a2 a3).thr r) ((Xi38 a0 a1 a2 a3).enc r) ((Xi38 a0 a1 a2 a3).fin r):=by
 intro a0 a1 a2 a3 r h
 refine qA2 (Xi38 a0 a1 a2 a3) Try.func102 (by kernel_rfl) (by kernel_rfl) rfl (t:=i38B k F a0 a1 a2 a3) ?_ h
 unfold i38B
 refine qA (eE:=[(0,.ptr 0 4 0)]) (by kernel_rfl) ?_
 let Q1:Blk:=⟨[.str a0,w34 a1,.i a2,.i a3],4,false⟩
 let Q2:Blk:=⟨[.i 0,.str [],.nils,.bool false,.bool false,.nils,.nils],0,false⟩
 let Q3:Blk:=⟨[.i 20,.str [],.nils,.bool false,.bool false,.nils,.nils],7,false⟩
 refine oH 11 i38p2 [(3,.ptr 2 7 0),(7,.agg [.i 20,.str [],.nils,.bool false,.bool false,.nils,.nils]),(2,.ptr 1 7 0),(0,.ptr 0 4 0)] (mkH [Q1,Q2,Q3]) ?_
 refine qG0 [Q1,Q2,Q3] (by kernel_rfl) ?_
 let Q4:Blk:=⟨(([]:List S28)).flatMap e29,0,false⟩
 refine oHp (mkH [Q1,Q2,Q3,Q4]) ?_
 refine qCw [Q1,Q2,Q3,Q4] 2 7 [.i 20,.str [],.nils,.bool false,.bool false,.nils,.nils] [.i 20,.str [],.own 3 (([]:List S28)).length 7,.bool false,.bool false,.nils,.nils] (by kernel_rfl) rfl (.cons (.cons (.none (.refl)))) ?_
 let E1:Env:=[(8,.ptr 0 4 0),(3,.ptr 2 7 0),(7,.agg [.i 20,.str [],.nils,.bool false,.bool false,.nils,.nils]),(2,.ptr 1 7 0),(0,.ptr 0 4 0)]
 let Q5:Blk:=⟨[.i 20,.str [],.own 3 (([]:List S28)).length 7,.bool false,.bool false,.nils,.nils],7,false⟩
 refine oH 2 (atN 1 (ctl1 i38p2)) E1 (mkH [Q1,Q2,Q5,Q4]) ?_
 refine oN (fun (x0_1:Ri12)=>w9 x0_1.1) (fun x0_1=>[⟨[.str a0,w34 a1,.i x0_1.2,.i a3],4,false⟩,Q2,Q5,Q4]) (atN 2 (ctl1 i38p2)) 9 [0] [] [] [.ptr 0 4 0] (qAh k a0 a1 a2 a3) trivial (fun _=>trivial) fun x0_1 hx0_1=>?_
 refine oR 6 (atN 1 (ctl1 i38p3)) ((10,.ptr 0 4 0) :: (4,w9 x0_1.1) :: (9,w9 x0_1.1) :: E1) ?_
 refine oN (fun (x1_1:Bool) => .bool x1_1) (fun x1_1=>[⟨[.str a0,w34 a1,.i x0_1.2,.i a3],4,false⟩,Q2,Q5,Q4]) (atN 2 (ctl1 i38p3)) 11 [0] [] [] [.ptr 0 4 0,.str i38c0] (qHa k i38c0 a0 a1 x0_1.2 a3) trivial (fun _=>trivial) fun x1_1 hx1_1=>?_
 let E2:Env:=((12,.bool (!x1_1)) :: (11,.bool x1_1) :: (10,.ptr 0 4 0) :: (4,w9 x0_1.1) :: (9,w9 x0_1.1) :: E1)
 refine oR 2 i38p4 E2 ?_
 refine oS 12 (fun hb=>?_) (fun hb=>?_)
 ·refine oR 7 (atN 4 (ctl1 i38p5)) ((16,.func 100 [.ptr 0 4 0] []) :: (15,.ptr 0 4 0) :: (14,w9 x0_1.1) :: (13,.ptr 0 4 0) :: (12,.bool true) :: E2) ?_
  refine oX (fun (x2_4:Ri43) => .own 4 (x2_4.2).length 7) (fun x2_4=>[⟨[.str a0,w34 a1,.i x2_4.1,.i a3],4,false⟩,Q2,Q5,Q4,⟨(x2_4.2).flatMap e29,0,false⟩]) (atN 5 (ctl1 i38p5)) 17 [0,4] [] [0,1] [0,2] [0,0,0,1] [.ptr 0 4 0,w9 x0_1.1,.func 100 [.ptr 0 4 0] []] (hF.i43_ok x0_1.1 a0 a1 x0_1.2 a3) trivial (fun _=>⟨u29 _,trivial⟩) ⟨u29 _,trivial⟩ fun x2_4 hx2_4=>?_
  let Q6:Blk:=⟨[.i 20,.str [],.own 4 (x2_4.2).length 7,.bool false,.bool false,.nils,.nils],7,false⟩
  let Q7:Blk:=⟨(x2_4.2).flatMap e29,0,false⟩
  refine oLH 3 i38p7 [(0,.ptr 0 4 0),(2,.ptr 1 7 0),(3,.ptr 2 7 0)] (mkH [⟨[.str a0,w34 a1,.i x2_4.1,.i a3],4,false⟩,Q2,Q6,Q4,Q7]) ?_
  let E4:Env:=[(0,.ptr 0 4 0),(2,.ptr 1 7 0),(3,.ptr 2 7 0)]
  refine oR 2 (atN 1 (ctl1 i38p7)) ((19,.ptr 0 4 0) :: E4) ?_
  refine oN (fun (x3_1:Ri12)=>w9 x3_1.1) (fun x3_1=>[⟨[.str a0,w34 a1,.i x3_1.2,.i a3],4,false⟩,Q2,Q6,Q4,Q7]) (atN 2 (ctl1 i38p7)) 20 [0] [] [] [.ptr 0 4 0] (qAh k a0 a1 x2_4.1 a3) trivial (fun _=>trivial) fun x3_1 hx3_1=>?_
  refine oR 6 (atN 1 (ctl1 i38p6)) ((21,.ptr 0 4 0) :: (4,w9 x3_1.1) :: (20,w9 x3_1.1) :: (19,.ptr 0 4 0) :: E4) ?_
  refine oX (fun (x4_1:(Bool × Int)) => .bool x4_1.1) (fun x4_1=>[⟨[.str a0,w34 a1,.i x4_1.2,.i a3],4,false⟩,Q2,Q6,Q4,Q7]) (atN 2 (ctl1 i38p6)) 22 [0] [] [] [2] [0,0,0,1,1] [.ptr 0 4 0,.str i38c0] (qAg k i38c0 a0 a1 x3_1.2 a3) trivial (fun _=>trivial) ⟨u29 _,u29 _,trivial⟩ fun x4_1 hx4_1=>?_
  let E5:Env:=((22,.bool x4_1.1) :: (21,.ptr 0 4 0) :: (4,w9 x3_1.1) :: (20,w9 x3_1.1) :: (19,.ptr 0 4 0) :: E4)
  refine oR 1 i38p8 E5 ?_
  refine oS 22 (fun hb=>?_) (fun hb=>?_)
  ·refine oR 4 (atN 1 (ctl1 i38p9)) ((23,.ptr 0 4 0) :: (22,.bool true) :: E5) ?_
   refine oX (fun (x5_1:(S28 × Int))=>n29 x5_1.1) (fun x5_1=>[⟨[.str a0,w34 a1,.i x5_1.2,.i a3],4,false⟩,Q2,Q6,Q4,Q7]) (atN 2 (ctl1 i38p9)) 24 [0] [] [] [0,2] [0,0,0,1,1] [.ptr 0 4 0,.i 1] (hF.i5_ok (1:Int) a0 a1 x4_1.2 a3) trivial (fun _=>trivial) ⟨u29 _,u29 _,trivial⟩ fun x5_1 hx5_1=>?_
   let Q8:Blk:=⟨[.str a0,w34 a1,.i x5_1.2,.i a3],4,false⟩
   refine oH 1 (atN 3 (ctl1 i38p9)) ((25,.slice 5 7 0 1 7) :: (24,n29 x5_1.1) :: (23,.ptr 0 4 0) :: (22,.bool true) :: E5) (mkH [Q8,Q2,Q6,Q4,Q7,⟨e29 x5_1.1,0,false⟩]) ?_
   refine oZ 25 5 1 7 [.i x5_1.1.f0,.str x5_1.1.f1,q29 x5_1.1.f2,.bool x5_1.1.f3,.bool x5_1.1.f4,w9 x5_1.1.f5,w9 x5_1.1.f6] [0,2,3,4,19,20,21,22,23,24] [0,0,0,1,1] ⟨u29 _,u29 _,trivial⟩ ?_
   let E7:Env:=[(0,.ptr 0 4 0),(2,.ptr 1 7 0),(3,.ptr 2 7 0),(4,w9 x3_1.1),(5,.ptr 6 7 0)]
   let Q9:Blk:=⟨[.i 23,.str [],w29 ([x5_1.1]:List S28),.bool false,.bool false,.nils,.nils],7,false⟩
   refine oLH 5 i38p11 E7 (mkH [Q8,Q2,Q6,Q4,Q7,⟨[],0,false⟩,Q9]) ?_
   refine oR 4 (atN 3 (ctl1 i38p11)) ((29,.agg [.i 24,.str [],.nils,.bool false,.bool false,.nils,.nils]) :: (28,.agg [.i 23,.str [],w29 ([x5_1.1]:List S28),.bool false,.bool false,.nils,.nils]) :: (27,.ptr 0 4 0) :: E7) ?_
   refine oXW 0 [Q8,Q2,Q6,Q4,Q7,⟨[],0,false⟩,Q9] (fun (x6_3:(S28 × Int))=>n29 x6_3.1) (fun x6_3=>[⟨[.str a0,w34 a1,.i x6_3.2,.i a3],4,false⟩,Q2,Q6,Q4,Q7,⟨[],0,false⟩,Q9]) (atN 4 (ctl1 i38p11)) 30 [0] [] [] [0,2] [0,0,0,1,1] [0,0,0,1,1] [.ptr 0 4 0,.str [],.agg [.i 23,.str [],w29 ([x5_1.1]:List S28),.bool false,.bool false,.nils,.nils],.agg [.i 24,.str [],.nils,.bool false,.bool false,.nils,.nils]] [.ptr 0 4 0,.str [],.agg [.i 23,.str [],w29 ([x5_1.1]:List S28),.bool false,.bool false,w9 ([]:List (List Nat)),w9 ([]:List (List Nat))],.agg [.i 24,.str [],w29 ([]:List S28),.bool false,.bool false,w9 ([]:List (List Nat)),w9 ([]:List (List Nat))]] (.cons (.cons (.agg (.cons (.cons (.cons (.cons (.cons (.nil (.nil (.refl)))))))) (.agg (.cons (.cons (.nil (.cons (.cons (.nil (.nil (.refl)))))))) (.refl))))) (hF.i47_ok ([]:List Nat) (⟨23,([]:List Nat),(⟨(([x5_1.1]:List S28)).length,(([x5_1.1]:List S28)).flatMap e29⟩:Raw),false,false,([]:List (List Nat)),([]:List (List Nat))⟩:S28) (⟨24,([]:List Nat),(⟨(([]:List S28)).length,(([]:List S28)).flatMap e29⟩:Raw),false,false,([]:List (List Nat)),([]:List (List Nat))⟩:S28) a0 a1 x5_1.2 a3) trivial (fun _=>trivial) ⟨u29 _,u29 _,trivial⟩ fun x6_3 hx6_3=>?_
   let E9:Env:=[(0,.ptr 0 4 0),(2,.ptr 1 7 0),(3,.ptr 2 7 0),(6,.ptr 7 7 0)]
   let Q10:Blk:=⟨[.str a0,w34 a1,.i x6_3.2,.i a3],4,false⟩
   let Q11:Blk:=⟨[.i x6_3.1.f0,.str x6_3.1.f1,q29 x6_3.1.f2,.bool x6_3.1.f3,.bool x6_3.1.f4,w9 x3_1.1,w9 x6_3.1.f6],7,false⟩
   refine oLH 10 i38p15 E9 (mkH [Q10,Q2,Q6,Q4,Q7,⟨[],0,false⟩,Q9,Q11]) ?_
   let Q12:Blk:=⟨[.i x6_3.1.f0,.str x6_3.1.f1,q29 x6_3.1.f2,.bool x6_3.1.f3,.bool x6_3.1.f4,w9 x3_1.1,w9 x6_3.1.f6],0,false⟩
   let K1:List Blk:=[Q10,Q2,Q6,Q4,Q7,⟨[],0,false⟩,Q9,Q11,Q12]
   refine oH 5 (atN 4 (ctl1 i38p15)) ((36,.slice 8 7 0 1 7) :: (35,.agg [.i x6_3.1.f0,.str x6_3.1.f1,q29 x6_3.1.f2,.bool x6_3.1.f3,.bool x6_3.1.f4,w9 x3_1.1,w9 x6_3.1.f6]) :: (34,.own 4 (x2_4.2).length 7) :: (33,.ptr 2 7 2) :: E9) (mkH K1) ?_
   refine oC (fun (x7_4:(List S28))=>(.own 4 (x7_4).length 7,(mkH [Q10,Q2,Q6,Q4,⟨(x7_4).flatMap e29,0,false⟩,⟨[],0,false⟩,Q9,Q11,Q12]))) (atN 5 (ctl1 i38p15)) 37 (appH (sz:=7) qA6 rfl qAu K1 4 104 x2_4.2 ([(⟨x6_3.1.f0,x6_3.1.f1,x6_3.1.f2,x6_3.1.f3,x6_3.1.f4,x3_1.1,x6_3.1.f6⟩:S28)]:List S28) rfl rfl (by kernel_rfl)) fun x7_4 hx7_4=>?_
   let E11:Env:=[(0,.ptr 0 4 0),(2,.ptr 1 7 0),(3,.ptr 2 7 0)]
   let Q13:Blk:=⟨[.i 20,.str i38c0,.own 4 (x7_4).length 7,.bool false,.bool false,.nils,.nils],7,false⟩
   let Q14:Blk:=⟨(x7_4).flatMap e29,0,false⟩
   refine oLH 5 i38p17 E11 (mkH [Q10,Q2,Q13,Q4,Q14,⟨[],0,false⟩,Q9,Q11,Q12]) ?_
   refine oR 2 (atN 1 (ctl1 i38p17)) ((40,.ptr 0 4 0) :: E11) ?_
   refine oN (fun (x8_1:Ri12)=>w9 x8_1.1) (fun x8_1=>[⟨[.str a0,w34 a1,.i x8_1.2,.i a3],4,false⟩,Q2,Q13,Q4,Q14,⟨[],0,false⟩,Q9,Q11,Q12]) (atN 2 (ctl1 i38p17)) 41 [0] [] [] [.ptr 0 4 0] (qAh k a0 a1 x6_3.2 a3) trivial (fun _=>trivial) fun x8_1 hx8_1=>?_
   let Q15:Blk:=⟨[.i 20,.str i38c0,.own 4 (x7_4).length 7,.bool false,.bool false,.nils,w9 x8_1.1],7,false⟩
   refine oH 11 (atN 1 (ctl1 i38p12)) ((44,.ptr 0 4 0) :: (43,.ptr 2 7 6) :: (42,w9 x8_1.1) :: (4,w9 x8_1.1) :: (41,w9 x8_1.1) :: (40,.ptr 0 4 0) :: E11) (mkH [⟨[.str a0,w34 a1,.i x8_1.2,.i a3],4,false⟩,Q2,Q15,Q4,Q14,⟨[],0,false⟩,Q9,Q11,Q12]) ?_
   refine oX (fun (x9_1:Int) => .tuple []) (fun x9_1=>[⟨[.str a0,w34 a1,.i x9_1,.i a3],4,false⟩,Q2,Q15,Q4,Q14,⟨[],0,false⟩,Q9,Q11,Q12]) (atN 2 (ctl1 i38p12)) 45 [0] [] [] [0,2] [0,0,0,1,1] [.ptr 0 4 0,.str [101,110,100]] (qAt k ([101,110,100]:List Nat) a0 a1 x8_1.2 a3) trivial (fun _=>trivial) ⟨u29 _,u29 _,trivial⟩ fun x9_1 hx9_1=>?_
   refine oL 2 i38p14 [(2,.ptr 1 7 0),(3,.ptr 2 7 0)] ?_
   exact oQF 5 [⟨[.str a0,w34 a1,.i x9_1,.i a3],4,false⟩,Q15,Q15,Q4,Q14,⟨[],0,false⟩,Q9,Q11,Q12] 1 [] [.agg [.i 20,.str i38c0,.own 4 (x7_4).length 7,.bool false,.bool false,.nils,w9 x8_1.1]] (.agg [.i 20,.str i38c0,w29 x7_4,.bool false,.bool false,.vec 0 1 [],w9 x8_1.1]) (.agg (.cs (.cs (qAq qA6 qAe rfl rfl rfl (.cs (.cs (.nil .ps)))))) .ps) trivial
  ·let Q16:Blk:=⟨[.i 20,.str [],.own 4 (x2_4.2).length 7,.bool false,.bool false,.nils,w9 x3_1.1],7,false⟩
   refine oLH 9 i38p12 [(0,.ptr 0 4 0),(2,.ptr 1 7 0),(3,.ptr 2 7 0)] (mkH [⟨[.str a0,w34 a1,.i x4_1.2,.i a3],4,false⟩,Q2,Q16,Q4,Q7]) ?_
   refine oR 2 (atN 1 (ctl1 i38p12)) ((44,.ptr 0 4 0) :: [(0,.ptr 0 4 0),(2,.ptr 1 7 0),(3,.ptr 2 7 0)]) ?_
   refine oX (fun (x9_1:Int) => .tuple []) (fun x9_1=>[⟨[.str a0,w34 a1,.i x9_1,.i a3],4,false⟩,Q2,Q16,Q4,Q7]) (atN 2 (ctl1 i38p12)) 45 [0] [] [] [0,2] [0,0,0,1,1] [.ptr 0 4 0,.str [101,110,100]] (qAt k ([101,110,100]:List Nat) a0 a1 x4_1.2 a3) trivial (fun _=>trivial) ⟨u29 _,u29 _,trivial⟩ fun x9_1 hx9_1=>?_
   exact oQF 7 [⟨[.str a0,w34 a1,.i x9_1,.i a3],4,false⟩,Q16,Q16,Q4,Q7] 1 [] [.agg [.i 20,.str [],.own 4 (x2_4.2).length 7,.bool false,.bool false,.nils,w9 x3_1.1]] (.agg [.i 20,.str [],w29 x2_4.2,.bool false,.bool false,.vec 0 1 [],w9 x3_1.1]) (.agg (.cs (.cs (qAq qA6 qAe rfl rfl rfl (.cs (.cs (.nil .ps)))))) .ps) trivial
 ·refine oR 6 (atN 1 (ctl1 i38p6)) ((21,.ptr 0 4 0) :: (12,.bool false) :: E2) ?_
  refine oX (fun (x4_1:(Bool × Int)) => .bool x4_1.1) (fun x4_1=>[⟨[.str a0,w34 a1,.i x4_1.2,.i a3],4,false⟩,Q2,Q5,Q4]) (atN 2 (ctl1 i38p6)) 22 [0] [] [] [2] [0,0,0,1] [.ptr 0 4 0,.str i38c0] (qAg k i38c0 a0 a1 x0_1.2 a3) trivial (fun _=>trivial) ⟨u29 _,trivial⟩ fun x4_1 hx4_1=>?_
  refine oL 1 i38p8 [(0,.ptr 0 4 0),(2,.ptr 1 7 0),(3,.ptr 2 7 0),(4,w9 x0_1.1),(22,.bool x4_1.1)] ?_
  let E15:Env:=[(0,.ptr 0 4 0),(2,.ptr 1 7 0),(3,.ptr 2 7 0),(4,w9 x0_1.1),(22,.bool x4_1.1)]
  refine oS 22 (fun hb=>?_) (fun hb=>?_)
  ·refine oR 4 (atN 1 (ctl1 i38p9)) ((23,.ptr 0 4 0) :: (22,.bool true) :: E15) ?_
   refine oX (fun (x5_1:(S28 × Int))=>n29 x5_1.1) (fun x5_1=>[⟨[.str a0,w34 a1,.i x5_1.2,.i a3],4,false⟩,Q2,Q5,Q4]) (atN 2 (ctl1 i38p9)) 24 [0] [] [] [0,2] [0,0,0,1] [.ptr 0 4 0,.i 1] (hF.i5_ok (1:Int) a0 a1 x4_1.2 a3) trivial (fun _=>trivial) ⟨u29 _,trivial⟩ fun x5_1 hx5_1=>?_
   let Q17:Blk:=⟨[.str a0,w34 a1,.i x5_1.2,.i a3],4,false⟩
   refine oH 1 (atN 3 (ctl1 i38p9)) ((25,.slice 4 7 0 1 7) :: (24,n29 x5_1.1) :: (23,.ptr 0 4 0) :: (22,.bool true) :: E15) (mkH [Q17,Q2,Q5,Q4,⟨e29 x5_1.1,0,false⟩]) ?_
   refine oZ 25 4 1 7 [.i x5_1.1.f0,.str x5_1.1.f1,q29 x5_1.1.f2,.bool x5_1.1.f3,.bool x5_1.1.f4,w9 x5_1.1.f5,w9 x5_1.1.f6] [0,2,3,4,22,23,24] [0,0,0,1] ⟨u29 _,trivial⟩ ?_
   let Q18:Blk:=⟨[.i 23,.str [],w29 ([x5_1.1]:List S28),.bool false,.bool false,.nils,.nils],7,false⟩
   refine oH 9 (atN 3 (ctl1 i38p11)) [(29,.agg [.i 24,.str [],.nils,.bool false,.bool false,.nils,.nils]),(28,.agg [.i 23,.str [],w29 ([x5_1.1]:List S28),.bool false,.bool false,.nils,.nils]),(27,.ptr 0 4 0),(5,.ptr 5 7 0),(26,.agg [.i 23,.str [],w29 ([x5_1.1]:List S28),.bool false,.bool false,.nils,.nils]),(25,w29 ([x5_1.1]:List S28)),(0,.ptr 0 4 0),(2,.ptr 1 7 0),(3,.ptr 2 7 0),(4,w9 x0_1.1),(22,.bool true),(23,.ptr 0 4 0),(24,n29 x5_1.1)] (mkH [Q17,Q2,Q5,Q4,⟨[],0,false⟩,Q18]) ?_
   refine oXW 0 [Q17,Q2,Q5,Q4,⟨[],0,false⟩,Q18] (fun (x6_3:(S28 × Int))=>n29 x6_3.1) (fun x6_3=>[⟨[.str a0,w34 a1,.i x6_3.2,.i a3],4,false⟩,Q2,Q5,Q4,⟨[],0,false⟩,Q18]) (atN 4 (ctl1 i38p11)) 30 [0] [] [] [0,2] [0,0,0,1] [0,0,0,1] [.ptr 0 4 0,.str [],.agg [.i 23,.str [],w29 ([x5_1.1]:List S28),.bool false,.bool false,.nils,.nils],.agg [.i 24,.str [],.nils,.bool false,.bool false,.nils,.nils]] [.ptr 0 4 0,.str [],.agg [.i 23,.str [],w29 ([x5_1.1]:List S28),.bool false,.bool false,w9 ([]:List (List Nat)),w9 ([]:List (List Nat))],.agg [.i 24,.str [],w29 ([]:List S28),.bool false,.bool false,w9 ([]:List (List Nat)),w9 ([]:List (List Nat))]] (.cons (.cons (.agg (.cons (.cons (.cons (.cons (.cons (.nil (.nil (.refl)))))))) (.agg (.cons (.cons (.nil (.cons (.cons (.nil (.nil (.refl)))))))) (.refl))))) (hF.i47_ok ([]:List Nat) (⟨23,([]:List Nat),(⟨(([x5_1.1]:List S28)).length,(([x5_1.1]:List S28)).flatMap e29⟩:Raw),false,false,([]:List (List Nat)),([]:List (List Nat))⟩:S28) (⟨24,([]:List Nat),(⟨(([]:List S28)).length,(([]:List S28)).flatMap e29⟩:Raw),false,false,([]:List (List Nat)),([]:List (List Nat))⟩:S28) a0 a1 x5_1.2 a3) trivial (fun _=>trivial) ⟨u29 _,trivial⟩ fun x6_3 hx6_3=>?_
   let Q19:Blk:=⟨[.str a0,w34 a1,.i x6_3.2,.i a3],4,false⟩
   refine oLH 4 i38p13 [(0,.ptr 0 4 0),(2,.ptr 1 7 0),(3,.ptr 2 7 0),(4,w9 x0_1.1),(6,.ptr 6 7 0)] (mkH [Q19,Q2,Q5,Q4,⟨[],0,false⟩,Q18,⟨e29 x6_3.1,7,false⟩]) ?_
   let Q20:Blk:=⟨[.i x6_3.1.f0,.str x6_3.1.f1,q29 x6_3.1.f2,.bool x6_3.1.f3,.bool x6_3.1.f4,w9 x0_1.1,w9 x6_3.1.f6],7,false⟩
   let Q21:Blk:=⟨[.i x6_3.1.f0,.str x6_3.1.f1,q29 x6_3.1.f2,.bool x6_3.1.f3,.bool x6_3.1.f4,w9 x0_1.1,w9 x6_3.1.f6],0,false⟩
   refine oH 11 (atN 4 (ctl1 i38p15)) ((36,.slice 7 7 0 1 7) :: (35,.agg [.i x6_3.1.f0,.str x6_3.1.f1,q29 x6_3.1.f2,.bool x6_3.1.f3,.bool x6_3.1.f4,w9 x0_1.1,w9 x6_3.1.f6]) :: (34,.own 3 (([]:List S28)).length 7) :: (33,.ptr 2 7 2) :: (32,.ptr 6 7 5) :: (31,w9 x0_1.1) :: [(0,.ptr 0 4 0),(2,.ptr 1 7 0),(3,.ptr 2 7 0),(4,w9 x0_1.1),(6,.ptr 6 7 0)]) (mkH [Q19,Q2,Q5,Q4,⟨[],0,false⟩,Q18,Q20,Q21]) ?_
   refine oC (fun (x7_4:(List S28))=>(.own 3 (x7_4).length 7,(mkH [Q19,Q2,Q5,⟨(x7_4).flatMap e29,0,false⟩,⟨[],0,false⟩,Q18,Q20,Q21]))) (atN 5 (ctl1 i38p15)) 37 (appH (sz:=7) qA6 rfl qAu [Q19,Q2,Q5,Q4,⟨[],0,false⟩,Q18,Q20,Q21] 3 104 ([]:List S28) ([(⟨x6_3.1.f0,x6_3.1.f1,x6_3.1.f2,x6_3.1.f3,x6_3.1.f4,x0_1.1,x6_3.1.f6⟩:S28)]:List S28) rfl rfl (by kernel_rfl)) fun x7_4 hx7_4=>?_
   let Q22:Blk:=⟨[.i 20,.str i38c0,.own 3 (x7_4).length 7,.bool false,.bool false,.nils,.nils],7,false⟩
   let Q23:Blk:=⟨(x7_4).flatMap e29,0,false⟩
   refine oLH 5 i38p17 [(0,.ptr 0 4 0),(2,.ptr 1 7 0),(3,.ptr 2 7 0)] (mkH [Q19,Q2,Q22,Q23,⟨[],0,false⟩,Q18,Q20,Q21]) ?_
   let E19:Env:=[(0,.ptr 0 4 0),(2,.ptr 1 7 0),(3,.ptr 2 7 0)]
   refine oR 2 (atN 1 (ctl1 i38p17)) ((40,.ptr 0 4 0) :: E19) ?_
   refine oN (fun (x8_1:Ri12)=>w9 x8_1.1) (fun x8_1=>[⟨[.str a0,w34 a1,.i x8_1.2,.i a3],4,false⟩,Q2,Q22,Q23,⟨[],0,false⟩,Q18,Q20,Q21]) (atN 2 (ctl1 i38p17)) 41 [0] [] [] [.ptr 0 4 0] (qAh k a0 a1 x6_3.2 a3) trivial (fun _=>trivial) fun x8_1 hx8_1=>?_
   let Q24:Blk:=⟨[.i 20,.str i38c0,.own 3 (x7_4).length 7,.bool false,.bool false,.nils,w9 x8_1.1],7,false⟩
   refine oH 11 (atN 1 (ctl1 i38p12)) ((44,.ptr 0 4 0) :: (43,.ptr 2 7 6) :: (42,w9 x8_1.1) :: (4,w9 x8_1.1) :: (41,w9 x8_1.1) :: (40,.ptr 0 4 0) :: E19) (mkH [⟨[.str a0,w34 a1,.i x8_1.2,.i a3],4,false⟩,Q2,Q24,Q23,⟨[],0,false⟩,Q18,Q20,Q21]) ?_
   refine oX (fun (x9_1:Int) => .tuple []) (fun x9_1=>[⟨[.str a0,w34 a1,.i x9_1,.i a3],4,false⟩,Q2,Q24,Q23,⟨[],0,false⟩,Q18,Q20,Q21]) (atN 2 (ctl1 i38p12)) 45 [0] [] [] [0,2] [0,0,0,1] [.ptr 0 4 0,.str [101,110,100]] (qAt k ([101,110,100]:List Nat) a0 a1 x8_1.2 a3) trivial (fun _=>trivial) ⟨u29 _,trivial⟩ fun x9_1 hx9_1=>?_
   refine oL 2 i38p14 [(2,.ptr 1 7 0),(3,.ptr 2 7 0)] ?_
   exact oQF 5 [⟨[.str a0,w34 a1,.i x9_1,.i a3],4,false⟩,Q24,Q24,Q23,⟨[],0,false⟩,Q18,Q20,Q21] 1 [] [.agg [.i 20,.str i38c0,.own 3 (x7_4).length 7,.bool false,.bool false,.nils,w9 x8_1.1]] (.agg [.i 20,.str i38c0,w29 x7_4,.bool false,.bool false,.vec 0 1 [],w9 x8_1.1]) (.agg (.cs (.cs (qAq qA6 qAe rfl rfl rfl (.cs (.cs (.nil .ps)))))) .ps) trivial
  ·let Q25:Blk:=⟨[.i 20,.str [],.own 3 (([]:List S28)).length 7,.bool false,.bool false,.nils,w9 x0_1.1],7,false⟩
   refine oH 11 (atN 1 (ctl1 i38p12)) ((44,.ptr 0 4 0) :: (43,.ptr 2 7 6) :: (42,w9 x0_1.1) :: (22,.bool false) :: E15) (mkH [⟨[.str a0,w34 a1,.i x4_1.2,.i a3],4,false⟩,Q2,Q25,Q4]) ?_
   refine oX (fun (x9_1:Int) => .tuple []) (fun x9_1=>[⟨[.str a0,w34 a1,.i x9_1,.i a3],4,false⟩,Q2,Q25,Q4]) (atN 2 (ctl1 i38p12)) 45 [0] [] [] [0,2] [0,0,0,1] [.ptr 0 4 0,.str [101,110,100]] (qAt k ([101,110,100]:List Nat) a0 a1 x4_1.2 a3) trivial (fun _=>trivial) ⟨u29 _,trivial⟩ fun x9_1 hx9_1=>?_
   refine oL 2 i38p14 [(2,.ptr 1 7 0),(3,.ptr 2 7 0)] ?_
   exact oQF 5 [⟨[.str a0,w34 a1,.i x9_1,.i a3],4,false⟩,Q25,Q25,Q4] 1 [] [.agg [.i 20,.str [],.own 3 (([]:List S28)).length 7,.bool false,.bool false,.nils,w9 x0_1.1]] (.agg [.i 20,.str [],w29 ([]:List S28),.bool false,.bool false,.vec 0 1 [],w9 x0_1.1]) (.agg (.cs (.cs (qAq qA6 qAe rfl rfl rfl (.cs (.cs (.nil .ps)))))) .ps) trivial
theorem i38B_ok (k:Nat) (F:Fns0) (hF:FnsOk0 F):Pi38 (i38B k F):=fun a0 a1 a2 a3=>⟨fun x h=>qKa k F hF a0 a1 a2 a3 (some x) h,fun h=>⟨_,qKa k F hF a0 a1 a2 a3 none h⟩⟩
def i40p1:Pt:=nav [0,0,0,0] (nav [0] (bodyAt Try.f105))
def i40p2:Pt:=nav [0,0,0,0,0] i40p1
def i40p4:Pt:=nav [0,0,0] (nav [0,0,0] i40p2)
def i40p5:Pt:=nav [0,0,0,0] i40p4
def i40p6:Pt:=nav [0,0] i40p5
def i40p7:Pt:=nav [1,0] i40p6
def qI2 (k:Nat) (F:Fns0)  (a1:(List Nat)) (a2:(List S33)) (a4:Int) (ih:(List (List Nat)) → Int → (List S28) → Option (Option Ri40)):(List (List Nat)) → Int → (List S28) → Option (Option Ri40) :=
 fun (y4_0:(List (List Nat))) (y4_1:Int) (y4_2:(List S28))=>bT (F.i44 a1 a2 y4_1 a4) fun x0_1=>(appS 104 y4_2 ([(⟨x0_1.1.f0,x0_1.1.f1,x0_1.1.f2,x0_1.1.f3,x0_1.1.f4,y4_0,x0_1.1.f6⟩:S28)]:List S28)).bind fun x1_3=>bT (i7 k ([59]:List Nat) a1 a2 x0_1.2 a4) fun x2_1=>if x2_1.1 then ((i12 k a1 a2 x2_1.2 a4).bind fun x3_1=>ih x3_1.1 x3_1.2 x1_3) else (some (some (x1_3,x2_1.2)))
def qNs (k:Nat) (F:Fns0)  (a1:(List Nat)) (a2:(List S33)) (a4:Int) (n:Nat):(List (List Nat)) → Int → (List S28) → Option (Option Ri40):=lp (fun _ _ _=>none) (qI2 k F a1 a2 a4) n
theorem qNr (k:Nat) (F:Fns0) (hF:FnsOk0 F) (a0:(List (List Nat))) (a1:(List Nat)) (a2:(List S33)) (a3:Int) (a4:Int)    : ∀ (n:Nat) (y4_0:(List (List Nat))) (y4_1:Int) (y4_2:(List S28)),Ok (Xi40 a0 a1 a2 a3 a4) i40p2 [(0,.ptr 0 4 0),(1,w9 y4_0),(2,.func 106 [] [.ptr 1 1 0]),(7,.own 2 (y4_2).length 7)] (mkH [⟨[.str a1,w34 a2,.i y4_1,.i a4],4,false⟩,⟨[.ptr 0 4 0],1,false⟩,⟨(y4_2).flatMap e29,0,false⟩]) (qNs k F a1 a2 a4 n y4_0 y4_1 y4_2):=by
 intro n
 induction n with
 | zero=>intro y4_0 y4_1 y4_2; exact ok_none
 | succ n ih =>
  intro y4_0 y4_1 y4_2
  show Ok _ _ _ _ (qI2 k F a1 a2 a4 (qNs k F a1 a2 a4 n) y4_0 y4_1 y4_2)
  unfold qI2
  let E2:Env:=[(9,.func 106 [] [.ptr 1 1 0]),(0,.ptr 0 4 0),(1,w9 y4_0),(2,.func 106 [] [.ptr 1 1 0]),(7,.own 2 (y4_2).length 7)]
  let Q1:Blk:=⟨(y4_2).flatMap e29,0,false⟩
  refine oH 2 (atN 1 (ctl1 i40p2)) E2 (mkH [⟨[.str a1,w34 a2,.i y4_1,.i a4],4,false⟩,⟨[.ptr 0 4 0],1,false⟩,Q1]) ?_
  refine oX (fun (x0_1:(S28 × Int))=>n29 x0_1.1) (fun x0_1=>[⟨[.str a1,w34 a2,.i x0_1.2,.i a4],4,false⟩,⟨[.ptr 0 4 0],1,false⟩,Q1]) (atN 2 (ctl1 i40p2)) 10 [0,1] [] [] [0,1] [0,0,1] [.ptr 1 1 0] (hF.i44_ok a1 a2 y4_1 a4) trivial (fun _=>trivial) ⟨u29 _,trivial⟩ fun x0_1 hx0_1=>?_
  let Q2:Blk:=⟨[.str a1,w34 a2,.i x0_1.2,.i a4],4,false⟩
  let Q3:Blk:=⟨[.i x0_1.1.f0,.str x0_1.1.f1,q29 x0_1.1.f2,.bool x0_1.1.f3,.bool x0_1.1.f4,w9 y4_0,w9 x0_1.1.f6],7,false⟩
  let Q4:Blk:=⟨[.i x0_1.1.f0,.str x0_1.1.f1,q29 x0_1.1.f2,.bool x0_1.1.f3,.bool x0_1.1.f4,w9 y4_0,w9 x0_1.1.f6],0,false⟩
  refine oH 14 (atN 3 (ctl1 i40p4)) ((15,.slice 4 7 0 1 7) :: (14,.agg [.i x0_1.1.f0,.str x0_1.1.f1,q29 x0_1.1.f2,.bool x0_1.1.f3,.bool x0_1.1.f4,w9 y4_0,w9 x0_1.1.f6]) :: (13,.own 2 (y4_2).length 7) :: (12,.ptr 3 7 5) :: (11,w9 y4_0) :: (8,.ptr 3 7 0) :: (10,n29 x0_1.1) :: E2) (mkH [Q2,⟨[.ptr 0 4 0],1,false⟩,Q1,Q3,Q4]) ?_
  refine oC (fun (x1_3:(List S28))=>(.own 2 (x1_3).length 7,(mkH [Q2,⟨[.ptr 0 4 0],1,false⟩,⟨(x1_3).flatMap e29,0,false⟩,Q3,Q4]))) (atN 4 (ctl1 i40p4)) 16 (appH (sz:=7) qA6 rfl qAu [Q2,⟨[.ptr 0 4 0],1,false⟩,Q1,Q3,Q4] 2 104 y4_2 ([(⟨x0_1.1.f0,x0_1.1.f1,x0_1.1.f2,x0_1.1.f3,x0_1.1.f4,y4_0,x0_1.1.f6⟩:S28)]:List S28) rfl rfl (by kernel_rfl)) fun x1_3 hx1_3=>?_
  let Q5:Blk:=⟨(x1_3).flatMap e29,0,false⟩
  refine oLH 4 i40p5 [(0,.ptr 0 4 0),(2,.func 106 [] [.ptr 1 1 0]),(7,.own 2 (x1_3).length 7)] (mkH [Q2,⟨[.ptr 0 4 0],1,false⟩,Q5,Q3,Q4]) ?_
  let E4:Env:=[(0,.ptr 0 4 0),(2,.func 106 [] [.ptr 1 1 0]),(7,.own 2 (x1_3).length 7)]
  refine oR 2 (atN 1 (ctl1 i40p5)) ((17,.ptr 0 4 0) :: E4) ?_
  refine oX (fun (x2_1:(Bool × Int)) => .bool x2_1.1) (fun x2_1=>[⟨[.str a1,w34 a2,.i x2_1.2,.i a4],4,false⟩,⟨[.ptr 0 4 0],1,false⟩,Q5,Q3,Q4]) (atN 2 (ctl1 i40p5)) 18 [0] [] [] [1] [0,0,1] [.ptr 0 4 0,.str [59]] (qAg k ([59]:List Nat) a1 a2 x0_1.2 a4) trivial (fun _=>trivial) ⟨u29 _,trivial⟩ fun x2_1 hx2_1=>?_
  refine oR 1 i40p6 ((18,.bool x2_1.1) :: (17,.ptr 0 4 0) :: E4) ?_
  refine oS 18 (fun hb=>?_) (fun hb=>?_)
  ·refine oR 4 (atN 1 (ctl1 i40p7)) ((19,.ptr 0 4 0) :: (18,.bool true) :: (18,.bool x2_1.1) :: (17,.ptr 0 4 0) :: E4) ?_
   refine oN (fun (x3_1:Ri12)=>w9 x3_1.1) (fun x3_1=>[⟨[.str a1,w34 a2,.i x3_1.2,.i a4],4,false⟩,⟨[.ptr 0 4 0],1,false⟩,Q5,Q3,Q4]) (atN 2 (ctl1 i40p7)) 20 [0] [] [] [.ptr 0 4 0] (qAh k a1 a2 x2_1.2 a4) trivial (fun _=>trivial) fun x3_1 hx3_1=>?_
   refine oL 6 i40p2 [(0,.ptr 0 4 0),(1,w9 x3_1.1),(2,.func 106 [] [.ptr 1 1 0]),(7,.own 2 (x1_3).length 7)] ?_
   refine qAa [⟨[.str a1,w34 a2,.i x3_1.2,.i a4],4,false⟩,⟨[.ptr 0 4 0],1,false⟩,Q5] [Q3,Q4] (by kernel_rfl) rfl (by kernel_rfl) ⟨(by kernel_rfl),⟨(by kernel_rfl),⟨(qA3 _ (u29 _)),trivial⟩⟩⟩ ?_
   exact ih x3_1.1 x3_1.2 x1_3
  ·exact oQF 8 [⟨[.str a1,w34 a2,.i x2_1.2,.i a4],4,false⟩,⟨[.ptr 0 4 0],1,false⟩,Q5,Q3,Q4] 2 [] [.own 2 (x1_3).length 7] (w29 x1_3) (qAq qA6 qAe rfl rfl rfl .ps) trivial
def i40B (k:Nat) (F:Fns0) (a0:(List (List Nat))) (a1:(List Nat)) (a2:(List S33)) (a3:Int) (a4:Int):Option (Option Ri40) :=
 qNs k F a1 a2 a4 k a0 a3 ([]:List S28)
theorem qK9 (k:Nat) (F:Fns0) (hF:FnsOk0 F):∀ a0 a1 a2 a3 a4 r,i40B k F a0 a1 a2 a3 a4 = some r → CallT Try.prog 105 [.ptr 0 4 0,w9 a0,.func 106 [] [.ptr 1 1 0]] (mkH [⟨[.str a1,w34 a2,.i a3,.i a4],4,false⟩,⟨[.ptr 0 4 0],1,false⟩]) ((Xi40 a0 a1 a2 a3 a4).thr r) ((Xi40 a0 a1 a2 a3 a4).enc r) ((Xi40 a0 a1 a2 a3 a4).fin r):=by
 intro a0 a1 a2 a3 a4 r h
 refine qA2 (Xi40 a0 a1 a2 a3 a4) Try.func105 (by kernel_rfl) (by kernel_rfl) rfl (t:=i40B k F a0 a1 a2 a3 a4) ?_ h
 unfold i40B
 refine qA (eE:=[(0,.ptr 0 4 0),(1,w9 a0),(2,.func 106 [] [.ptr 1 1 0])]) (by kernel_rfl) ?_
 let E1:Env:=[(7,.nils),(6,.nils),(0,.ptr 0 4 0),(1,w9 a0),(2,.func 106 [] [.ptr 1 1 0])]
 let Q1:Blk:=⟨[.str a1,w34 a2,.i a3,.i a4],4,false⟩
 refine oH 8 (atN 1 (ctl1 i40p1)) E1 (mkH [Q1,⟨[.ptr 0 4 0],1,false⟩]) ?_
 refine qEx [Q1,⟨[.ptr 0 4 0],1,false⟩] 7 7 rfl (by kernel_rfl) ?_
 refine oH 4 i40p2 ((7,.own 2 (([]:List S28)).length 7) :: E1) (mkH [Q1,⟨[.ptr 0 4 0],1,false⟩,⟨(([]:List S28)).flatMap e29,0,false⟩]) ?_
 refine oK [0,1,2,7] [(0,.ptr 0 4 0),(1,w9 a0),(2,.func 106 [] [.ptr 1 1 0]),(7,.own 2 (([]:List S28)).length 7)] ?_
 exact (qNr k F hF a0 a1 a2 a3 a4 k) a0 a3 ([]:List S28)
theorem i40B_ok (k:Nat) (F:Fns0) (hF:FnsOk0 F):Pi40 (i40B k F):=fun a0 a1 a2 a3 a4=>⟨fun x h=>qK9 k F hF a0 a1 a2 a3 a4 (some x) h,fun h=>⟨_,qK9 k F hF a0 a1 a2 a3 a4 none h⟩⟩
def i41p1:Pt:=nav [0,0,0,0] (nav [0] (bodyAt Try.f105))
def i41p2:Pt:=nav [0,0,0,0,0] i41p1
def i41p4:Pt:=nav [0,0,0] (nav [0,0,0] i41p2)
def i41p5:Pt:=nav [0,0,0,0] i41p4
def i41p6:Pt:=nav [0,0] i41p5
def i41p7:Pt:=nav [1,0] i41p6
def qI1 (k:Nat) (F:Fns0)  (a1:(List Nat)) (a2:(List S33)) (a4:Int) (ih:(List (List Nat)) → Int → (List S28) → Option (Option Ri41)):(List (List Nat)) → Int → (List S28) → Option (Option Ri41) :=
 fun (y4_0:(List (List Nat))) (y4_1:Int) (y4_2:(List S28))=>bT (F.i45 a1 a2 y4_1 a4) fun x0_1=>(appS 104 y4_2 ([(⟨x0_1.1.f0,x0_1.1.f1,x0_1.1.f2,x0_1.1.f3,x0_1.1.f4,y4_0,x0_1.1.f6⟩:S28)]:List S28)).bind fun x1_3=>bT (i7 k ([59]:List Nat) a1 a2 x0_1.2 a4) fun x2_1=>if x2_1.1 then ((i12 k a1 a2 x2_1.2 a4).bind fun x3_1=>ih x3_1.1 x3_1.2 x1_3) else (some (some (x1_3,x2_1.2)))
def qNq (k:Nat) (F:Fns0)  (a1:(List Nat)) (a2:(List S33)) (a4:Int) (n:Nat):(List (List Nat)) → Int → (List S28) → Option (Option Ri41):=lp (fun _ _ _=>none) (qI1 k F a1 a2 a4) n
theorem qNp (k:Nat) (F:Fns0) (hF:FnsOk0 F) (a0:(List (List Nat))) (a1:(List Nat)) (a2:(List S33)) (a3:Int) (a4:Int)    : ∀ (n:Nat) (y4_0:(List (List Nat))) (y4_1:Int) (y4_2:(List S28)),Ok (Xi41 a0 a1 a2 a3 a4) i41p2 [(0,.ptr 0 4 0),(1,w9 y4_0),(2,.func 100 [.ptr 0 4 0] []),(7,.own 1 (y4_2).length 7)] (mkH [⟨[.str a1,w34 a2,.i y4_1,.i a4],4,false⟩,⟨(y4_2).flatMap e29,0,false⟩]) (qNq k F a1 a2 a4 n y4_0 y4_1 y4_2):=by
 intro n
 induction n with
 | zero=>intro y4_0 y4_1 y4_2; exact ok_none
 | succ n ih =>
  intro y4_0 y4_1 y4_2
  show Ok _ _ _ _ (qI1 k F a1 a2 a4 (qNq k F a1 a2 a4 n) y4_0 y4_1 y4_2)
  unfold qI1
  let E2:Env:=[(9,.func 100 [.ptr 0 4 0] []),(0,.ptr 0 4 0),(1,w9 y4_0),(2,.func 100 [.ptr 0 4 0] []),(7,.own 1 (y4_2).length 7)]
  let Q1:Blk:=⟨(y4_2).flatMap e29,0,false⟩
  refine oH 2 (atN 1 (ctl1 i41p2)) E2 (mkH [⟨[.str a1,w34 a2,.i y4_1,.i a4],4,false⟩,Q1]) ?_
  refine oX (fun (x0_1:(S28 × Int))=>n29 x0_1.1) (fun x0_1=>[⟨[.str a1,w34 a2,.i x0_1.2,.i a4],4,false⟩,Q1]) (atN 2 (ctl1 i41p2)) 10 [0] [] [] [0] [0,1] [.ptr 0 4 0] (hF.i45_ok a1 a2 y4_1 a4) trivial (fun _=>trivial) ⟨u29 _,trivial⟩ fun x0_1 hx0_1=>?_
  let Q2:Blk:=⟨[.str a1,w34 a2,.i x0_1.2,.i a4],4,false⟩
  let Q3:Blk:=⟨[.i x0_1.1.f0,.str x0_1.1.f1,q29 x0_1.1.f2,.bool x0_1.1.f3,.bool x0_1.1.f4,w9 y4_0,w9 x0_1.1.f6],7,false⟩
  let Q4:Blk:=⟨[.i x0_1.1.f0,.str x0_1.1.f1,q29 x0_1.1.f2,.bool x0_1.1.f3,.bool x0_1.1.f4,w9 y4_0,w9 x0_1.1.f6],0,false⟩
  refine oH 14 (atN 3 (ctl1 i41p4)) ((15,.slice 3 7 0 1 7) :: (14,.agg [.i x0_1.1.f0,.str x0_1.1.f1,q29 x0_1.1.f2,.bool x0_1.1.f3,.bool x0_1.1.f4,w9 y4_0,w9 x0_1.1.f6]) :: (13,.own 1 (y4_2).length 7) :: (12,.ptr 2 7 5) :: (11,w9 y4_0) :: (8,.ptr 2 7 0) :: (10,n29 x0_1.1) :: E2) (mkH [Q2,Q1,Q3,Q4]) ?_
  refine oC (fun (x1_3:(List S28))=>(.own 1 (x1_3).length 7,(mkH [Q2,⟨(x1_3).flatMap e29,0,false⟩,Q3,Q4]))) (atN 4 (ctl1 i41p4)) 16 (appH (sz:=7) qA6 rfl qAu [Q2,Q1,Q3,Q4] 1 104 y4_2 ([(⟨x0_1.1.f0,x0_1.1.f1,x0_1.1.f2,x0_1.1.f3,x0_1.1.f4,y4_0,x0_1.1.f6⟩:S28)]:List S28) rfl rfl (by kernel_rfl)) fun x1_3 hx1_3=>?_
  let Q5:Blk:=⟨(x1_3).flatMap e29,0,false⟩
  refine oLH 4 i41p5 [(0,.ptr 0 4 0),(2,.func 100 [.ptr 0 4 0] []),(7,.own 1 (x1_3).length 7)] (mkH [Q2,Q5,Q3,Q4]) ?_
  let E4:Env:=[(0,.ptr 0 4 0),(2,.func 100 [.ptr 0 4 0] []),(7,.own 1 (x1_3).length 7)]
  refine oR 2 (atN 1 (ctl1 i41p5)) ((17,.ptr 0 4 0) :: E4) ?_
  refine oX (fun (x2_1:(Bool × Int)) => .bool x2_1.1) (fun x2_1=>[⟨[.str a1,w34 a2,.i x2_1.2,.i a4],4,false⟩,Q5,Q3,Q4]) (atN 2 (ctl1 i41p5)) 18 [0] [] [] [] [0,1] [.ptr 0 4 0,.str [59]] (qAg k ([59]:List Nat) a1 a2 x0_1.2 a4) trivial (fun _=>trivial) ⟨u29 _,trivial⟩ fun x2_1 hx2_1=>?_
  refine oR 1 i41p6 ((18,.bool x2_1.1) :: (17,.ptr 0 4 0) :: E4) ?_
  refine oS 18 (fun hb=>?_) (fun hb=>?_)
  ·refine oR 4 (atN 1 (ctl1 i41p7)) ((19,.ptr 0 4 0) :: (18,.bool true) :: (18,.bool x2_1.1) :: (17,.ptr 0 4 0) :: E4) ?_
   refine oN (fun (x3_1:Ri12)=>w9 x3_1.1) (fun x3_1=>[⟨[.str a1,w34 a2,.i x3_1.2,.i a4],4,false⟩,Q5,Q3,Q4]) (atN 2 (ctl1 i41p7)) 20 [0] [] [] [.ptr 0 4 0] (qAh k a1 a2 x2_1.2 a4) trivial (fun _=>trivial) fun x3_1 hx3_1=>?_
   refine oL 6 i41p2 [(0,.ptr 0 4 0),(1,w9 x3_1.1),(2,.func 100 [.ptr 0 4 0] []),(7,.own 1 (x1_3).length 7)] ?_
   refine qAa [⟨[.str a1,w34 a2,.i x3_1.2,.i a4],4,false⟩,Q5] [Q3,Q4] (by kernel_rfl) rfl (by kernel_rfl) ⟨(by kernel_rfl),⟨(qA3 _ (u29 _)),trivial⟩⟩ ?_
   exact ih x3_1.1 x3_1.2 x1_3
  ·exact oQF 8 [⟨[.str a1,w34 a2,.i x2_1.2,.i a4],4,false⟩,Q5,Q3,Q4] 1 [] [.own 1 (x1_3).length 7] (w29 x1_3) (qAq qA6 qAe rfl rfl rfl .ps) trivial
def i41B (k:Nat) (F:Fns0) (a0:(List (List Nat))) (a1:(List Nat)) (a2:(List S33)) (a3:Int) (a4:Int):Option (Option Ri41) :=
 qNq k F a1 a2 a4 k a0 a3 ([]:List S28)
theorem qK8 (k:Nat) (F:Fns0) (hF:FnsOk0 F):∀ a0 a1 a2 a3 a4 r,i41B k F a0 a1 a2 a3 a4 = some r → CallT Try.prog 105 [.ptr 0 4 0,w9 a0,.func 100 [.ptr 0 4 0] []] (mkH [⟨[.str a1,w34 a2,.i a3,.i a4],4,false⟩]) ((Xi41 a0 a1 a2 a3 a4).thr r) ((Xi41 a0 a1 a2 a3 a4).enc r) ((Xi41 a0 a1 a2 a3 a4).fin r):=by
 intro a0 a1 a2 a3 a4 r h
 refine qA2 (Xi41 a0 a1 a2 a3 a4) Try.func105 (by kernel_rfl) (by kernel_rfl) rfl (t:=i41B k F a0 a1 a2 a3 a4) ?_ h
 unfold i41B
 refine qA (eE:=[(0,.ptr 0 4 0),(1,w9 a0),(2,.func 100 [.ptr 0 4 0] [])]) (by kernel_rfl) ?_
 let E1:Env:=[(7,.nils),(6,.nils),(0,.ptr 0 4 0),(1,w9 a0),(2,.func 100 [.ptr 0 4 0] [])]
 let Q1:Blk:=⟨[.str a1,w34 a2,.i a3,.i a4],4,false⟩
 refine oH 8 (atN 1 (ctl1 i41p1)) E1 (mkH [Q1]) ?_
 refine qEx [Q1] 7 7 rfl (by kernel_rfl) ?_
 refine oH 4 i41p2 ((7,.own 1 (([]:List S28)).length 7) :: E1) (mkH [Q1,⟨(([]:List S28)).flatMap e29,0,false⟩]) ?_
 refine oK [0,1,2,7] [(0,.ptr 0 4 0),(1,w9 a0),(2,.func 100 [.ptr 0 4 0] []),(7,.own 1 (([]:List S28)).length 7)] ?_
 exact (qNp k F hF a0 a1 a2 a3 a4 k) a0 a3 ([]:List S28)
theorem i41B_ok (k:Nat) (F:Fns0) (hF:FnsOk0 F):Pi41 (i41B k F):=fun a0 a1 a2 a3 a4=>⟨fun x h=>qK8 k F hF a0 a1 a2 a3 a4 (some x) h,fun h=>⟨_,qK8 k F hF a0 a1 a2 a3 a4 none h⟩⟩
def i42p1:Pt:=nav [0,0,0,0] (nav [0] (bodyAt Try.f105))
def i42p2:Pt:=nav [0,0,0,0,0] i42p1
def i42p4:Pt:=nav [0,0,0] (nav [0,0,0] i42p2)
def i42p5:Pt:=nav [0,0,0,0] i42p4
def i42p6:Pt:=nav [0,0] i42p5
def i42p7:Pt:=nav [1,0] i42p6
def qI0 (k:Nat) (F:Fns0)  (a1:(List Nat)) (a2:(List S33)) (a4:Int) (ih:(List (List Nat)) → Int → (List S28) → Option (Option Ri42)):(List (List Nat)) → Int → (List S28) → Option (Option Ri42) :=
 fun (y4_0:(List (List Nat))) (y4_1:Int) (y4_2:(List S28))=>bT (F.i46 a1 a2 y4_1 a4) fun x0_1=>(appS 104 y4_2 ([(⟨x0_1.1.f0,x0_1.1.f1,x0_1.1.f2,x0_1.1.f3,x0_1.1.f4,y4_0,x0_1.1.f6⟩:S28)]:List S28)).bind fun x1_3=>bT (i7 k ([59]:List Nat) a1 a2 x0_1.2 a4) fun x2_1=>if x2_1.1 then ((i12 k a1 a2 x2_1.2 a4).bind fun x3_1=>ih x3_1.1 x3_1.2 x1_3) else (some (some (x1_3,x2_1.2)))
def qNo (k:Nat) (F:Fns0)  (a1:(List Nat)) (a2:(List S33)) (a4:Int) (n:Nat):(List (List Nat)) → Int → (List S28) → Option (Option Ri42):=lp (fun _ _ _=>none) (qI0 k F a1 a2 a4) n
theorem qNn (k:Nat) (F:Fns0) (hF:FnsOk0 F) (a0:(List (List Nat))) (a1:(List Nat)) (a2:(List S33)) (a3:Int) (a4:Int)    : ∀ (n:Nat) (y4_0:(List (List Nat))) (y4_1:Int) (y4_2:(List S28)),Ok (Xi42 a0 a1 a2 a3 a4) i42p2 [(0,.ptr 0 4 0),(1,w9 y4_0),(2,.func 101 [.ptr 0 4 0] []),(7,.own 1 (y4_2).length 7)] (mkH [⟨[.str a1,w34 a2,.i y4_1,.i a4],4,false⟩,⟨(y4_2).flatMap e29,0,false⟩]) (qNo k F a1 a2 a4 n y4_0 y4_1 y4_2):=by
 intro n
 induction n with
 | zero=>intro y4_0 y4_1 y4_2; exact ok_none
 | succ n ih =>
  intro y4_0 y4_1 y4_2
  show Ok _ _ _ _ (qI0 k F a1 a2 a4 (qNo k F a1 a2 a4 n) y4_0 y4_1 y4_2)
  unfold qI0
  let E2:Env:=[(9,.func 101 [.ptr 0 4 0] []),(0,.ptr 0 4 0),(1,w9 y4_0),(2,.func 101 [.ptr 0 4 0] []),(7,.own 1 (y4_2).length 7)]
  let Q1:Blk:=⟨(y4_2).flatMap e29,0,false⟩
  refine oH 2 (atN 1 (ctl1 i42p2)) E2 (mkH [⟨[.str a1,w34 a2,.i y4_1,.i a4],4,false⟩,Q1]) ?_
  refine oX (fun (x0_1:(S28 × Int))=>n29 x0_1.1) (fun x0_1=>[⟨[.str a1,w34 a2,.i x0_1.2,.i a4],4,false⟩,Q1]) (atN 2 (ctl1 i42p2)) 10 [0] [] [] [0] [0,1] [.ptr 0 4 0] (hF.i46_ok a1 a2 y4_1 a4) trivial (fun _=>trivial) ⟨u29 _,trivial⟩ fun x0_1 hx0_1=>?_
  let Q2:Blk:=⟨[.str a1,w34 a2,.i x0_1.2,.i a4],4,false⟩
  let Q3:Blk:=⟨[.i x0_1.1.f0,.str x0_1.1.f1,q29 x0_1.1.f2,.bool x0_1.1.f3,.bool x0_1.1.f4,w9 y4_0,w9 x0_1.1.f6],7,false⟩
  let Q4:Blk:=⟨[.i x0_1.1.f0,.str x0_1.1.f1,q29 x0_1.1.f2,.bool x0_1.1.f3,.bool x0_1.1.f4,w9 y4_0,w9 x0_1.1.f6],0,false⟩
  refine oH 14 (atN 3 (ctl1 i42p4)) ((15,.slice 3 7 0 1 7) :: (14,.agg [.i x0_1.1.f0,.str x0_1.1.f1,q29 x0_1.1.f2,.bool x0_1.1.f3,.bool x0_1.1.f4,w9 y4_0,w9 x0_1.1.f6]) :: (13,.own 1 (y4_2).length 7) :: (12,.ptr 2 7 5) :: (11,w9 y4_0) :: (8,.ptr 2 7 0) :: (10,n29 x0_1.1) :: E2) (mkH [Q2,Q1,Q3,Q4]) ?_
  refine oC (fun (x1_3:(List S28))=>(.own 1 (x1_3).length 7,(mkH [Q2,⟨(x1_3).flatMap e29,0,false⟩,Q3,Q4]))) (atN 4 (ctl1 i42p4)) 16 (appH (sz:=7) qA6 rfl qAu [Q2,Q1,Q3,Q4] 1 104 y4_2 ([(⟨x0_1.1.f0,x0_1.1.f1,x0_1.1.f2,x0_1.1.f3,x0_1.1.f4,y4_0,x0_1.1.f6⟩:S28)]:List S28) rfl rfl (by kernel_rfl)) fun x1_3 hx1_3=>?_
  let Q5:Blk:=⟨(x1_3).flatMap e29,0,false⟩
  refine oLH 4 i42p5 [(0,.ptr 0 4 0),(2,.func 101 [.ptr 0 4 0] []),(7,.own 1 (x1_3).length 7)] (mkH [Q2,Q5,Q3,Q4]) ?_
  let E4:Env:=[(0,.ptr 0 4 0),(2,.func 101 [.ptr 0 4 0] []),(7,.own 1 (x1_3).length 7)]
  refine oR 2 (atN 1 (ctl1 i42p5)) ((17,.ptr 0 4 0) :: E4) ?_
  refine oX (fun (x2_1:(Bool × Int)) => .bool x2_1.1) (fun x2_1=>[⟨[.str a1,w34 a2,.i x2_1.2,.i a4],4,false⟩,Q5,Q3,Q4]) (atN 2 (ctl1 i42p5)) 18 [0] [] [] [] [0,1] [.ptr 0 4 0,.str [59]] (qAg k ([59]:List Nat) a1 a2 x0_1.2 a4) trivial (fun _=>trivial) ⟨u29 _,trivial⟩ fun x2_1 hx2_1=>?_
  refine oR 1 i42p6 ((18,.bool x2_1.1) :: (17,.ptr 0 4 0) :: E4) ?_
  refine oS 18 (fun hb=>?_) (fun hb=>?_)
  ·refine oR 4 (atN 1 (ctl1 i42p7)) ((19,.ptr 0 4 0) :: (18,.bool true) :: (18,.bool x2_1.1) :: (17,.ptr 0 4 0) :: E4) ?_
   refine oN (fun (x3_1:Ri12)=>w9 x3_1.1) (fun x3_1=>[⟨[.str a1,w34 a2,.i x3_1.2,.i a4],4,false⟩,Q5,Q3,Q4]) (atN 2 (ctl1 i42p7)) 20 [0] [] [] [.ptr 0 4 0] (qAh k a1 a2 x2_1.2 a4) trivial (fun _=>trivial) fun x3_1 hx3_1=>?_
   refine oL 6 i42p2 [(0,.ptr 0 4 0),(1,w9 x3_1.1),(2,.func 101 [.ptr 0 4 0] []),(7,.own 1 (x1_3).length 7)] ?_
   refine qAa [⟨[.str a1,w34 a2,.i x3_1.2,.i a4],4,false⟩,Q5] [Q3,Q4] (by kernel_rfl) rfl (by kernel_rfl) ⟨(by kernel_rfl),⟨(qA3 _ (u29 _)),trivial⟩⟩ ?_
   exact ih x3_1.1 x3_1.2 x1_3
  ·exact oQF 8 [⟨[.str a1,w34 a2,.i x2_1.2,.i a4],4,false⟩,Q5,Q3,Q4] 1 [] [.own 1 (x1_3).length 7] (w29 x1_3) (qAq qA6 qAe rfl rfl rfl .ps) trivial
def i42B (k:Nat) (F:Fns0) (a0:(List (List Nat))) (a1:(List Nat)) (a2:(List S33)) (a3:Int) (a4:Int):Option (Option Ri42) :=
 qNo k F a1 a2 a4 k a0 a3 ([]:List S28)
theorem qK7 (k:Nat) (F:Fns0) (hF:FnsOk0 F):∀ a0 a1 a2 a3 a4 r,i42B k F a0 a1 a2 a3 a4 = some r → CallT Try.prog 105 [.ptr 0 4 0,w9 a0,.func 101 [.ptr 0 4 0] []] (mkH [⟨[.str a1,w34 a2,.i a3,.i a4],4,false⟩]) ((Xi42 a0 a1 a2 a3 a4).thr r) ((Xi42 a0 a1 a2 a3 a4).enc r) ((Xi42 a0 a1 a2 a3 a4).fin r):=by
 intro a0 a1 a2 a3 a4 r h
 refine qA2 (Xi42 a0 a1 a2 a3 a4) Try.func105 (by kernel_rfl) (by kernel_rfl) rfl (t:=i42B k F a0 a1 a2 a3 a4) ?_ h
 unfold i42B
 refine qA (eE:=[(0,.ptr 0 4 0),(1,w9 a0),(2,.func 101 [.ptr 0 4 0] [])]) (by kernel_rfl) ?_
 let E1:Env:=[(7,.nils),(6,.nils),(0,.ptr 0 4 0),(1,w9 a0),(2,.func 101 [.ptr 0 4 0] [])]
 let Q1:Blk:=⟨[.str a1,w34 a2,.i a3,.i a4],4,false⟩
 refine oH 8 (atN 1 (ctl1 i42p1)) E1 (mkH [Q1]) ?_
 refine qEx [Q1] 7 7 rfl (by kernel_rfl) ?_
 refine oH 4 i42p2 ((7,.own 1 (([]:List S28)).length 7) :: E1) (mkH [Q1,⟨(([]:List S28)).flatMap e29,0,false⟩]) ?_
 refine oK [0,1,2,7] [(0,.ptr 0 4 0),(1,w9 a0),(2,.func 101 [.ptr 0 4 0] []),(7,.own 1 (([]:List S28)).length 7)] ?_
 exact (qNn k F hF a0 a1 a2 a3 a4 k) a0 a3 ([]:List S28)
theorem i42B_ok (k:Nat) (F:Fns0) (hF:FnsOk0 F):Pi42 (i42B k F):=fun a0 a1 a2 a3 a4=>⟨fun x h=>qK7 k F hF a0 a1 a2 a3 a4 (some x) h,fun h=>⟨_,qK7 k F hF a0 a1 a2 a3 a4 none h⟩⟩
def i43p1:Pt:=nav [0,0,0,0] (nav [0] (bodyAt Try.f105))
def i43p2:Pt:=nav [0,0,0,0,0] i43p1
def i43p4:Pt:=nav [0,0,0] (nav [0,0,0] i43p2)
def i43p5:Pt:=nav [0,0,0,0] i43p4
def i43p6:Pt:=nav [0,0] i43p5
def i43p7:Pt:=nav [1,0] i43p6
def qI (k:Nat) (F:Fns0)  (a1:(List Nat)) (a2:(List S33)) (a4:Int) (ih:(List (List Nat)) → Int → (List S28) → Option (Option Ri43)):(List (List Nat)) → Int → (List S28) → Option (Option Ri43) :=
 fun (y4_0:(List (List Nat))) (y4_1:Int) (y4_2:(List S28))=>bT (F.i45 a1 a2 y4_1 a4) fun x0_1=>(appS 104 y4_2 ([(⟨x0_1.1.f0,x0_1.1.f1,x0_1.1.f2,x0_1.1.f3,x0_1.1.f4,y4_0,x0_1.1.f6⟩:S28)]:List S28)).bind fun x1_3=>bT (i7 k ([59]:List Nat) a1 a2 x0_1.2 a4) fun x2_1=>if x2_1.1 then ((i12 k a1 a2 x2_1.2 a4).bind fun x3_1=>ih x3_1.1 x3_1.2 x1_3) else (some (some (x2_1.2,x1_3)))
def qNm (k:Nat) (F:Fns0)  (a1:(List Nat)) (a2:(List S33)) (a4:Int) (n:Nat):(List (List Nat)) → Int → (List S28) → Option (Option Ri43):=lp (fun _ _ _=>none) (qI k F a1 a2 a4) n
theorem qNl (k:Nat) (F:Fns0) (hF:FnsOk0 F) (a0:(List (List Nat))) (a1:(List Nat)) (a2:(List S33)) (a3:Int) (a4:Int)    : ∀ (n:Nat) (y4_0:(List (List Nat))) (y4_1:Int) (y4_2:(List S28)),Ok (Xi43 a0 a1 a2 a3 a4) i43p2 [(0,.ptr 0 4 0),(1,w9 y4_0),(2,.func 100 [.ptr 0 4 0] []),(7,.own 1 (y4_2).length 7)] (mkH [⟨[.str a1,w34 a2,.i y4_1,.i a4],4,false⟩,⟨(y4_2).flatMap e29,0,false⟩]) (qNm k F a1 a2 a4 n y4_0 y4_1 y4_2):=by
 intro n
 induction n with
 | zero=>intro y4_0 y4_1 y4_2; exact ok_none
 | succ n ih =>
  intro y4_0 y4_1 y4_2
  show Ok _ _ _ _ (qI k F a1 a2 a4 (qNm k F a1 a2 a4 n) y4_0 y4_1 y4_2)
  unfold qI
  let E2:Env:=[(9,.func 100 [.ptr 0 4 0] []),(0,.ptr 0 4 0),(1,w9 y4_0),(2,.func 100 [.ptr 0 4 0] []),(7,.own 1 (y4_2).length 7)]
  let Q1:Blk:=⟨(y4_2).flatMap e29,0,false⟩
  refine oH 2 (atN 1 (ctl1 i43p2)) E2 (mkH [⟨[.str a1,w34 a2,.i y4_1,.i a4],4,false⟩,Q1]) ?_
  refine oX (fun (x0_1:(S28 × Int))=>n29 x0_1.1) (fun x0_1=>[⟨[.str a1,w34 a2,.i x0_1.2,.i a4],4,false⟩,Q1]) (atN 2 (ctl1 i43p2)) 10 [0] [] [] [0] [0,1] [.ptr 0 4 0] (hF.i45_ok a1 a2 y4_1 a4) trivial (fun _=>trivial) ⟨u29 _,trivial⟩ fun x0_1 hx0_1=>?_
  let Q2:Blk:=⟨[.str a1,w34 a2,.i x0_1.2,.i a4],4,false⟩
  let Q3:Blk:=⟨[.i x0_1.1.f0,.str x0_1.1.f1,q29 x0_1.1.f2,.bool x0_1.1.f3,.bool x0_1.1.f4,w9 y4_0,w9 x0_1.1.f6],7,false⟩
  let Q4:Blk:=⟨[.i x0_1.1.f0,.str x0_1.1.f1,q29 x0_1.1.f2,.bool x0_1.1.f3,.bool x0_1.1.f4,w9 y4_0,w9 x0_1.1.f6],0,false⟩
  refine oH 14 (atN 3 (ctl1 i43p4)) ((15,.slice 3 7 0 1 7) :: (14,.agg [.i x0_1.1.f0,.str x0_1.1.f1,q29 x0_1.1.f2,.bool x0_1.1.f3,.bool x0_1.1.f4,w9 y4_0,w9 x0_1.1.f6]) :: (13,.own 1 (y4_2).length 7) :: (12,.ptr 2 7 5) :: (11,w9 y4_0) :: (8,.ptr 2 7 0) :: (10,n29 x0_1.1) :: E2) (mkH [Q2,Q1,Q3,Q4]) ?_
  refine oC (fun (x1_3:(List S28))=>(.own 1 (x1_3).length 7,(mkH [Q2,⟨(x1_3).flatMap e29,0,false⟩,Q3,Q4]))) (atN 4 (ctl1 i43p4)) 16 (appH (sz:=7) qA6 rfl qAu [Q2,Q1,Q3,Q4] 1 104 y4_2 ([(⟨x0_1.1.f0,x0_1.1.f1,x0_1.1.f2,x0_1.1.f3,x0_1.1.f4,y4_0,x0_1.1.f6⟩:S28)]:List S28) rfl rfl (by kernel_rfl)) fun x1_3 hx1_3=>?_
  let Q5:Blk:=⟨(x1_3).flatMap e29,0,false⟩
  refine oLH 4 i43p5 [(0,.ptr 0 4 0),(2,.func 100 [.ptr 0 4 0] []),(7,.own 1 (x1_3).length 7)] (mkH [Q2,Q5,Q3,Q4]) ?_
  let E4:Env:=[(0,.ptr 0 4 0),(2,.func 100 [.ptr 0 4 0] []),(7,.own 1 (x1_3).length 7)]
  refine oR 2 (atN 1 (ctl1 i43p5)) ((17,.ptr 0 4 0) :: E4) ?_
  refine oX (fun (x2_1:(Bool × Int)) => .bool x2_1.1) (fun x2_1=>[⟨[.str a1,w34 a2,.i x2_1.2,.i a4],4,false⟩,Q5,Q3,Q4]) (atN 2 (ctl1 i43p5)) 18 [0] [] [] [] [0,1] [.ptr 0 4 0,.str [59]] (qAg k ([59]:List Nat) a1 a2 x0_1.2 a4) trivial (fun _=>trivial) ⟨u29 _,trivial⟩ fun x2_1 hx2_1=>?_
  refine oR 1 i43p6 ((18,.bool x2_1.1) :: (17,.ptr 0 4 0) :: E4) ?_
  refine oS 18 (fun hb=>?_) (fun hb=>?_)
  ·refine oR 4 (atN 1 (ctl1 i43p7)) ((19,.ptr 0 4 0) :: (18,.bool true) :: (18,.bool x2_1.1) :: (17,.ptr 0 4 0) :: E4) ?_
   refine oN (fun (x3_1:Ri12)=>w9 x3_1.1) (fun x3_1=>[⟨[.str a1,w34 a2,.i x3_1.2,.i a4],4,false⟩,Q5,Q3,Q4]) (atN 2 (ctl1 i43p7)) 20 [0] [] [] [.ptr 0 4 0] (qAh k a1 a2 x2_1.2 a4) trivial (fun _=>trivial) fun x3_1 hx3_1=>?_
   refine oL 6 i43p2 [(0,.ptr 0 4 0),(1,w9 x3_1.1),(2,.func 100 [.ptr 0 4 0] []),(7,.own 1 (x1_3).length 7)] ?_
   refine qAa [⟨[.str a1,w34 a2,.i x3_1.2,.i a4],4,false⟩,Q5] [Q3,Q4] (by kernel_rfl) rfl (by kernel_rfl) ⟨(by kernel_rfl),⟨(qA3 _ (u29 _)),trivial⟩⟩ ?_
   exact ih x3_1.1 x3_1.2 x1_3
  ·refine oR 8 .fin ((6,.own 1 (x1_3).length 7) :: (21,.own 1 (x1_3).length 7) :: (18,.bool false) :: (18,.bool x2_1.1) :: (17,.ptr 0 4 0) :: E4) ?_
   exact qBq (r:=some (x2_1.2,x1_3)) (xs:=[.own 1 (x1_3).length 7]) [⟨[.str a1,w34 a2,.i x2_1.2,.i a4],4,false⟩,Q5] [Q3,Q4] (by kernel_rfl) (by kernel_rfl) (by kernel_rfl) (by kernel_rfl) (by kernel_rfl) ⟨(by kernel_rfl),⟨(qA3 _ (u29 _)),trivial⟩⟩ (by kernel_rfl) (by kernel_rfl)
def i43B (k:Nat) (F:Fns0) (a0:(List (List Nat))) (a1:(List Nat)) (a2:(List S33)) (a3:Int) (a4:Int):Option (Option Ri43) :=
 qNm k F a1 a2 a4 k a0 a3 ([]:List S28)
theorem qK6 (k:Nat) (F:Fns0) (hF:FnsOk0 F):∀ a0 a1 a2 a3 a4 r,i43B k F a0 a1 a2 a3 a4 = some r → CallT Try.prog 105 [.ptr 0 4 0,w9 a0,.func 100 [.ptr 0 4 0] []] (mkH [⟨[.str a1,w34 a2,.i a3,.i a4],4,false⟩]) ((Xi43 a0 a1 a2 a3 a4).thr r) ((Xi43 a0 a1 a2 a3 a4).enc r) ((Xi43 a0 a1 a2 a3 a4).fin r):=by
 intro a0 a1 a2 a3 a4 r h
 refine qA2 (Xi43 a0 a1 a2 a3 a4) Try.func105 (by kernel_rfl) (by kernel_rfl) rfl (t:=i43B k F a0 a1 a2 a3 a4) ?_ h
 unfold i43B
 refine qA (eE:=[(0,.ptr 0 4 0),(1,w9 a0),(2,.func 100 [.ptr 0 4 0] [])]) (by kernel_rfl) ?_
 let E1:Env:=[(7,.nils),(6,.nils),(0,.ptr 0 4 0),(1,w9 a0),(2,.func 100 [.ptr 0 4 0] [])]
 let Q1:Blk:=⟨[.str a1,w34 a2,.i a3,.i a4],4,false⟩
 refine oH 8 (atN 1 (ctl1 i43p1)) E1 (mkH [Q1]) ?_
 refine qEx [Q1] 7 7 rfl (by kernel_rfl) ?_
 refine oH 4 i43p2 ((7,.own 1 (([]:List S28)).length 7) :: E1) (mkH [Q1,⟨(([]:List S28)).flatMap e29,0,false⟩]) ?_
 refine oK [0,1,2,7] [(0,.ptr 0 4 0),(1,w9 a0),(2,.func 100 [.ptr 0 4 0] []),(7,.own 1 (([]:List S28)).length 7)] ?_
 exact (qNl k F hF a0 a1 a2 a3 a4 k) a0 a3 ([]:List S28)
theorem i43B_ok (k:Nat) (F:Fns0) (hF:FnsOk0 F):Pi43 (i43B k F):=fun a0 a1 a2 a3 a4=>⟨fun x h=>qK6 k F hF a0 a1 a2 a3 a4 (some x) h,fun h=>⟨_,qK6 k F hF a0 a1 a2 a3 a4 none h⟩⟩
def i44p1:Pt:=nav [0,0,0] (nav [0] (bodyAt Try.f106))
def i44B (k:Nat) (F:Fns0) (a0:(List Nat)) (a1:(List S33)) (a2:Int) (a3:Int):Option (Option (S28 × Int)) :=
 bT (F.i48 ([]:List Nat) a0 a1 a2 a3) fun x0_1=>some (some (x0_1.1,x0_1.2))
theorem qK5 (k:Nat) (F:Fns0) (hF:FnsOk0 F):∀ a0 a1 a2 a3 r,i44B k F a0 a1 a2 a3 = some r → CallT Try.prog 106 [.ptr 1 1 0] (mkH [⟨[.str a0,w34 a1,.i a2,.i a3],4,false⟩,⟨[.ptr 0 4 0],1,false⟩]) ((Xi44 a0 a1 a2 a3).thr r) ((Xi44 a0 a1 a2 a3).enc r) ((Xi44 a0 a1 a2 a3).fin r):=by
 intro a0 a1 a2 a3 r h
 refine qA2 (Xi44 a0 a1 a2 a3) Try.func106 (by kernel_rfl) (by kernel_rfl) rfl (t:=i44B k F a0 a1 a2 a3) ?_ h
 unfold i44B
 refine qA (eE:=[(0,.ptr 1 1 0)]) (by kernel_rfl) ?_
 let Q1:Blk:=⟨[.i 0,.str [],.nils,.bool false,.bool false,.nils,.nils],0,false⟩
 refine oH 7 (atN 1 (ctl1 i44p1)) [(2,.ptr 0 4 0),(1,.ptr 2 7 0),(0,.ptr 1 1 0)] (mkH [⟨[.str a0,w34 a1,.i a2,.i a3],4,false⟩,⟨[.ptr 0 4 0],1,false⟩,Q1]) ?_
 refine oX (fun (x0_1:(S28 × Int))=>n29 x0_1.1) (fun x0_1=>[⟨[.str a0,w34 a1,.i x0_1.2,.i a3],4,false⟩,⟨[.ptr 0 4 0],1,false⟩,Q1]) (atN 2 (ctl1 i44p1)) 3 [0] [] [] [0,1] [] [.ptr 0 4 0,.str []] (hF.i48_ok ([]:List Nat) a0 a1 a2 a3) trivial (fun _=>trivial) trivial fun x0_1 hx0_1=>?_
 exact oQF 3 [⟨[.str a0,w34 a1,.i x0_1.2,.i a3],4,false⟩,⟨[.ptr 0 4 0],1,false⟩,⟨e29 x0_1.1,7,false⟩] 2 [] [n29 x0_1.1] (n29 x0_1.1) .ps trivial
theorem i44B_ok (k:Nat) (F:Fns0) (hF:FnsOk0 F):Pi44 (i44B k F):=fun a0 a1 a2 a3=>⟨fun x h=>qK5 k F hF a0 a1 a2 a3 (some x) h,fun h=>⟨_,qK5 k F hF a0 a1 a2 a3 none h⟩⟩
def i45p1:Pt:=nav [0,0,0] (nav [0] (bodyAt Try.f100))
def i45p2:Pt:=nav [0,0,0] i45p1
def i45d0:DP:=⟨[],[(0,0,0),(0,0,1),(0,0,0),(4,0,0),(15,0,0),(31,0,0)],6,thrown,[],H0⟩
def i45B (k:Nat) (F:Fns0) (a0:(List Nat)) (a1:(List S33)) (a2:Int) (a3:Int):Option (Option (S28 × Int)) :=
 bT (F.i5 (1:Int) a0 a1 a2 a3) fun x0_1=>bT (F.i49 a0 a1 x0_1.2 a3) fun x1_3=>bT (F.i47 ([]:List Nat) (⟨23,([]:List Nat),(⟨(([x0_1.1]:List S28)).length,(([x0_1.1]:List S28)).flatMap e29⟩:Raw),false,false,([]:List (List Nat)),([]:List (List Nat))⟩:S28) x1_3.1 a0 a1 x1_3.2 a3) fun x1_4=>some (some (x1_4.1,x1_4.2))
theorem qK4 (k:Nat) (F:Fns0) (hF:FnsOk0 F):∀ a0 a1 a2 a3 r,i45B k F a0 a1 a2 a3 = some r → CallT Try.prog 100 [.ptr 0 4 0] (mkH [⟨[.str a0,w34 a1,.i a2,.i a3],4,false⟩]) ((Xi45 a0 a1 a2 a3).thr r) ((Xi45 a0 a1 a2 a3).enc r) ((Xi45 a0 a1 a2 a3).fin r):=by
 intro a0 a1 a2 a3 r h
 refine qA2 (Xi45 a0 a1 a2 a3) Try.func100 (by kernel_rfl) (by kernel_rfl) rfl (t:=i45B k F a0 a1 a2 a3) ?_ h
 unfold i45B
 refine qA (eE:=[(0,.ptr 0 4 0)]) (by kernel_rfl) ?_
 let Q1:Blk:=⟨[.str a0,w34 a1,.i a2,.i a3],4,false⟩
 let Q2:Blk:=⟨[.i 0,.str [],.nils,.bool false,.bool false,.nils,.nils],0,false⟩
 refine oH 7 (atN 1 (ctl1 i45p1)) [(4,.ptr 0 4 0),(2,.ptr 1 7 0),(0,.ptr 0 4 0)] (mkH [Q1,Q2]) ?_
 refine oX (fun (x0_1:(S28 × Int))=>n29 x0_1.1) (fun x0_1=>[⟨[.str a0,w34 a1,.i x0_1.2,.i a3],4,false⟩,Q2]) (atN 2 (ctl1 i45p1)) 5 [0] [] [] [0] [] [.ptr 0 4 0,.i 1] (hF.i5_ok (1:Int) a0 a1 a2 a3) trivial (fun _=>trivial) trivial fun x0_1 hx0_1=>?_
 let Q3:Blk:=⟨[.str a0,w34 a1,.i x0_1.2,.i a3],4,false⟩
 refine oH 1 (atN 3 (ctl1 i45p1)) [(6,.slice 2 7 0 1 7),(5,n29 x0_1.1),(4,.ptr 0 4 0),(2,.ptr 1 7 0),(0,.ptr 0 4 0)] (mkH [Q3,Q2,⟨e29 x0_1.1,0,false⟩]) ?_
 refine oZ 6 2 1 7 [.i x0_1.1.f0,.str x0_1.1.f1,q29 x0_1.1.f2,.bool x0_1.1.f3,.bool x0_1.1.f4,w9 x0_1.1.f5,w9 x0_1.1.f6] [0,2,4,5] [] trivial ?_
 let Q4:Blk:=⟨[.i 23,.str [],w29 ([x0_1.1]:List S28),.bool false,.bool false,.nils,.nils],7,false⟩
 refine oH 5 i45p2 [(3,.ptr 3 7 0),(7,.agg [.i 23,.str [],w29 ([x0_1.1]:List S28),.bool false,.bool false,.nils,.nils]),(6,w29 ([x0_1.1]:List S28)),(0,.ptr 0 4 0),(2,.ptr 1 7 0),(4,.ptr 0 4 0),(5,n29 x0_1.1)] (mkH [Q3,Q2,⟨[],0,false⟩,Q4]) ?_
 refine qC6 (fun h=>?_) (fun x1_3 hx1_3=>?_)
 ·let E3:Env:=[(10,.ptr 0 4 0),(9,.agg [.i 23,.str [],w29 ([x0_1.1]:List S28),.bool false,.bool false,.nils,.nils]),(8,.ptr 0 4 0),(3,.ptr 3 7 0),(7,.agg [.i 23,.str [],w29 ([x0_1.1]:List S28),.bool false,.bool false,.nils,.nils]),(6,w29 ([x0_1.1]:List S28)),(0,.ptr 0 4 0),(2,.ptr 1 7 0),(4,.ptr 0 4 0),(5,n29 x0_1.1)]
  exact qAj (eE:=((12,.top) :: (11,.top) :: E3)) (i45d0.th 3 thrown [0] (mkH [Q3,Q2,⟨[],0,false⟩,Q4])) (hs:=[(mkH [Q3,Q2,⟨[],0,false⟩,Q4]),(mkH [Q3,Q2,⟨[],0,false⟩,Q4]),(mkH [Q3,Q2,⟨[],0,false⟩,Q4])]) (LX:=[Q1]) (L:=[Q3,Q2,⟨[],0,false⟩,Q4]) rfl rfl rfl (by kernel_rfl) rfl ⟨.inl rfl,trivial⟩ (by kernel_rfl) (by kernel_rfl) (by kernel_rfl) (by kernel_rfl) (qA8 3 (l':=(opsAt i45p2).toList.drop 3) (eE:=E3) (H':=(mkH [Q3,Q2,⟨[],0,false⟩,Q4])) (hs:=[]) (by kernel_rfl) (qAi (l':=(opsAt i45p2).toList.drop 4) (eE:=((11,.top) :: E3)) (hs:=[(mkH [Q3,Q2,⟨[],0,false⟩,Q4])]) (fi:=109) (args:=[.ptr 0 4 0]) (by kernel_rfl) (by kernel_rfl) (frS 0 (M:=[Q3,Q2,⟨[],0,false⟩,Q4]) (rs:=[0]) (ms:=[]) (mv:=[]) (mm:=[]) (D:=[0]) (xs':=[.ptr 0 4 0]) (.refl) ((hF.i49_ok a0 a1 x0_1.2 a3).2 h) trivial trivial (by kernel_rfl)) (by kernel_rfl) (qA1 (l':=(opsAt i45p2).toList.drop 5) (eE:=((12,.top) :: (11,.top) :: E3)) (hs:=[(mkH [Q3,Q2,⟨[],0,false⟩,Q4])]) (by kernel_rfl) (by kernel_rfl) (qA1 (l':=(opsAt i45p2).toList.drop 6) (eE:=((12,.top) :: (11,.top) :: E3)) (hs:=[(mkH [Q3,Q2,⟨[],0,false⟩,Q4])]) (by kernel_rfl) (by kernel_rfl) (.nil))))) (by kernel_rfl) (by kernel_rfl)
 ·refine qC6 (fun h=>?_) (fun x1_4 hx1_4=>?_)
  ·let E3:Env:=[(10,.ptr 0 4 0),(9,.agg [.i 23,.str [],w29 ([x0_1.1]:List S28),.bool false,.bool false,.nils,.nils]),(8,.ptr 0 4 0),(3,.ptr 3 7 0),(7,.agg [.i 23,.str [],w29 ([x0_1.1]:List S28),.bool false,.bool false,.nils,.nils]),(6,w29 ([x0_1.1]:List S28)),(0,.ptr 0 4 0),(2,.ptr 1 7 0),(4,.ptr 0 4 0),(5,n29 x0_1.1)]
   let Q5:Blk:=⟨[.str a0,w34 a1,.i x1_3.2,.i a3],4,false⟩
   exact qAj (eE:=((12,.top) :: (11,n29 x1_3.1) :: E3)) (i45d0.th 4 thrown [0] (mkH [Q5,Q2,⟨[],0,false⟩,Q4])) (hs:=[(mkH [Q5,Q2,⟨[],0,false⟩,Q4]),(mkH [Q5,Q2,⟨[],0,false⟩,Q4]),(mkH [Q5,Q2,⟨[],0,false⟩,Q4])]) (LX:=[Q1]) (L:=[Q5,Q2,⟨[],0,false⟩,Q4]) rfl rfl rfl (by kernel_rfl) rfl ⟨.inl rfl,trivial⟩ (by kernel_rfl) (by kernel_rfl) (by kernel_rfl) (by kernel_rfl) (qA8 3 (l':=(opsAt i45p2).toList.drop 3) (eE:=E3) (H':=(mkH [Q3,Q2,⟨[],0,false⟩,Q4])) (hs:=[]) (by kernel_rfl) (qA5 (l':=(opsAt i45p2).toList.drop 4) (eE:=((11,n29 x1_3.1) :: E3)) (hs:=[(mkH [Q5,Q2,⟨[],0,false⟩,Q4])]) (H':=(mkH [Q5,Q2,⟨[],0,false⟩,Q4])) (fi:=109) (args:=[.ptr 0 4 0]) (v:=n29 x1_3.1) (by kernel_rfl) (frC (rs:=[0]) (ms:=[]) (ms':=[]) ((hF.i49_ok a0 a1 x0_1.2 a3).1 x1_3 hx1_3) trivial trivial (by kernel_rfl)) (by kernel_rfl) (qAi (l':=(opsAt i45p2).toList.drop 5) (eE:=((12,.top) :: (11,n29 x1_3.1) :: E3)) (hs:=[(mkH [Q5,Q2,⟨[],0,false⟩,Q4])]) (fi:=108) (args:=[.ptr 0 4 0,.str [],.agg [.i 23,.str [],w29 ([x0_1.1]:List S28),.bool false,.bool false,.nils,.nils],n29 x1_3.1]) (by kernel_rfl) (by kernel_rfl) (frS 0 (M:=[Q5,Q2,⟨[],0,false⟩,Q4]) (rs:=[0]) (ms:=[]) (mv:=[]) (mm:=[]) (D:=[0]) (xs':=[.ptr 0 4 0,.str [],.agg [.i 23,.str [],w29 ([x0_1.1]:List S28),.bool false,.bool false,w9 ([]:List (List Nat)),w9 ([]:List (List Nat))],n29 x1_3.1]) (.cons (.cons (.agg (.cons (.cons (.cons (.cons (.cons (.nil (.nil (.refl)))))))) (.refl)))) ((hF.i47_ok ([]:List Nat) (⟨23,([]:List Nat),(⟨(([x0_1.1]:List S28)).length,(([x0_1.1]:List S28)).flatMap e29⟩:Raw),false,false,([]:List (List Nat)),([]:List (List Nat))⟩:S28) x1_3.1 a0 a1 x1_3.2 a3).2 h) trivial trivial (by kernel_rfl)) (by kernel_rfl) (qA1 (l':=(opsAt i45p2).toList.drop 6) (eE:=((12,.top) :: (11,n29 x1_3.1) :: E3)) (hs:=[(mkH [Q5,Q2,⟨[],0,false⟩,Q4])]) (by kernel_rfl) (by kernel_rfl) (.nil))))) (by kernel_rfl) (by kernel_rfl)
  ·let E3:Env:=[(10,.ptr 0 4 0),(9,.agg [.i 23,.str [],w29 ([x0_1.1]:List S28),.bool false,.bool false,.nils,.nils]),(8,.ptr 0 4 0),(3,.ptr 3 7 0),(7,.agg [.i 23,.str [],w29 ([x0_1.1]:List S28),.bool false,.bool false,.nils,.nils]),(6,w29 ([x0_1.1]:List S28)),(0,.ptr 0 4 0),(2,.ptr 1 7 0),(4,.ptr 0 4 0),(5,n29 x0_1.1)]
   let Q6:Blk:=⟨[.str a0,w34 a1,.i x1_4.2,.i a3],4,false⟩
   let Q7:Blk:=⟨[.str a0,w34 a1,.i x1_3.2,.i a3],4,false⟩
   refine oD (H':=(mkH [Q6,⟨e29 x1_4.1,7,false⟩,⟨[],0,false⟩,Q4])) (nav [0] i45p2) ((12,n29 x1_4.1) :: (11,n29 x1_3.1) :: E3) [(mkH [Q7,Q2,⟨[],0,false⟩,Q4]),(mkH [Q6,Q2,⟨[],0,false⟩,Q4]),(mkH [Q6,⟨e29 x1_4.1,7,false⟩,⟨[],0,false⟩,Q4])] i45d0 (oDr 3 3 E3 (qA5 (l':=(opsAt i45p2).toList.drop 4) (eE:=((11,n29 x1_3.1) :: E3)) (hs:=[(mkH [Q7,Q2,⟨[],0,false⟩,Q4])]) (H':=(mkH [Q7,Q2,⟨[],0,false⟩,Q4])) (fi:=109) (args:=[.ptr 0 4 0]) (v:=n29 x1_3.1) (by kernel_rfl) (frC (rs:=[0]) (ms:=[]) (ms':=[]) ((hF.i49_ok a0 a1 x0_1.2 a3).1 x1_3 hx1_3) trivial trivial (by kernel_rfl)) (by kernel_rfl) (qA5 (l':=(opsAt i45p2).toList.drop 5) (eE:=((12,n29 x1_4.1) :: (11,n29 x1_3.1) :: E3)) (hs:=[(mkH [Q6,Q2,⟨[],0,false⟩,Q4])]) (H':=(mkH [Q6,Q2,⟨[],0,false⟩,Q4])) (fi:=108) (args:=[.ptr 0 4 0,.str [],.agg [.i 23,.str [],w29 ([x0_1.1]:List S28),.bool false,.bool false,.nils,.nils],n29 x1_3.1]) (v:=n29 x1_4.1) (by kernel_rfl) (frW 0 [Q7,Q2,⟨[],0,false⟩,Q4] (rs:=[0]) (ms:=[]) (ms':=[]) (mv:=[]) (xs':=[.ptr 0 4 0,.str [],.agg [.i 23,.str [],w29 ([x0_1.1]:List S28),.bool false,.bool false,w9 ([]:List (List Nat)),w9 ([]:List (List Nat))],n29 x1_3.1]) (.cons (.cons (.agg (.cons (.cons (.cons (.cons (.cons (.nil (.nil (.refl)))))))) (.refl)))) ((hF.i47_ok ([]:List Nat) (⟨23,([]:List Nat),(⟨(([x0_1.1]:List S28)).length,(([x0_1.1]:List S28)).flatMap e29⟩:Raw),false,false,([]:List (List Nat)),([]:List (List Nat))⟩:S28) x1_3.1 a0 a1 x1_3.2 a3).1 x1_4 hx1_4) trivial trivial (by kernel_rfl)) (by kernel_rfl) (oDh 1 6 ((12,n29 x1_4.1) :: (11,n29 x1_3.1) :: E3) (mkH [Q6,⟨e29 x1_4.1,7,false⟩,⟨[],0,false⟩,Q4]) [(mkH [Q6,⟨e29 x1_4.1,7,false⟩,⟨[],0,false⟩,Q4])] .nil)))) ?_
   exact oQF 1 [Q6,⟨e29 x1_4.1,7,false⟩,⟨[],0,false⟩,Q4] 1 [] [n29 x1_4.1] (n29 x1_4.1) .ps trivial
theorem i45B_ok (k:Nat) (F:Fns0) (hF:FnsOk0 F):Pi45 (i45B k F):=fun a0 a1 a2 a3=>⟨fun x h=>qK4 k F hF a0 a1 a2 a3 (some x) h,fun h=>⟨_,qK4 k F hF a0 a1 a2 a3 none h⟩⟩
def i46p1:Pt:=nav [0,0,0] (nav [0] (bodyAt Try.f101))
def i46B (k:Nat) (F:Fns0) (a0:(List Nat)) (a1:(List S33)) (a2:Int) (a3:Int):Option (Option (S28 × Int)) :=
 bT (F.i50 a0 a1 a2 a3) fun x0_3=>bT (F.i47 ([]:List Nat) (⟨23,([]:List Nat),(⟨(([]:List S28)).length,(([]:List S28)).flatMap e29⟩:Raw),false,false,([]:List (List Nat)),([]:List (List Nat))⟩:S28) x0_3.1 a0 a1 x0_3.2 a3) fun x0_4=>some (some (x0_4.1,x0_4.2))
theorem qK3 (k:Nat) (F:Fns0) (hF:FnsOk0 F):∀ a0 a1 a2 a3 r,i46B k F a0 a1 a2 a3 = some r → CallT Try.prog 101 [.ptr 0 4 0] (mkH [⟨[.str a0,w34 a1,.i a2,.i a3],4,false⟩]) ((Xi46 a0 a1 a2 a3).thr r) ((Xi46 a0 a1 a2 a3).enc r) ((Xi46 a0 a1 a2 a3).fin r):=by
 intro a0 a1 a2 a3 r h
 refine qA2 (Xi46 a0 a1 a2 a3) Try.func101 (by kernel_rfl) (by kernel_rfl) rfl (t:=i46B k F a0 a1 a2 a3) ?_ h
 unfold i46B
 refine qA (eE:=[(0,.ptr 0 4 0)]) (by kernel_rfl) ?_
 let Q1:Blk:=⟨[.i 0,.str [],.nils,.bool false,.bool false,.nils,.nils],0,false⟩
 refine oH 9 (atN 3 (ctl1 i46p1)) [(5,.ptr 0 4 0),(4,.agg [.i 23,.str [],.nils,.bool false,.bool false,.nils,.nils]),(3,.ptr 0 4 0),(2,.ptr 1 7 0),(0,.ptr 0 4 0)] (mkH [⟨[.str a0,w34 a1,.i a2,.i a3],4,false⟩,Q1]) ?_
 refine oX (fun (x0_3:(S28 × Int))=>n29 x0_3.1) (fun x0_3=>[⟨[.str a0,w34 a1,.i x0_3.2,.i a3],4,false⟩,Q1]) (atN 4 (ctl1 i46p1)) 6 [0] [] [] [0] [] [.ptr 0 4 0] (hF.i50_ok a0 a1 a2 a3) trivial (fun _=>trivial) trivial fun x0_3 hx0_3=>?_
 refine oXW 0 [⟨[.str a0,w34 a1,.i x0_3.2,.i a3],4,false⟩,Q1] (fun (x0_4:(S28 × Int))=>n29 x0_4.1) (fun x0_4=>[⟨[.str a0,w34 a1,.i x0_4.2,.i a3],4,false⟩,Q1]) (atN 5 (ctl1 i46p1)) 7 [0] [] [] [0] [] [] [.ptr 0 4 0,.str [],.agg [.i 23,.str [],.nils,.bool false,.bool false,.nils,.nils],n29 x0_3.1] [.ptr 0 4 0,.str [],.agg [.i 23,.str [],w29 ([]:List S28),.bool false,.bool false,w9 ([]:List (List Nat)),w9 ([]:List (List Nat))],n29 x0_3.1] (.cons (.cons (.agg (.cons (.cons (.nil (.cons (.cons (.nil (.nil (.refl)))))))) (.refl)))) (hF.i47_ok ([]:List Nat) (⟨23,([]:List Nat),(⟨(([]:List S28)).length,(([]:List S28)).flatMap e29⟩:Raw),false,false,([]:List (List Nat)),([]:List (List Nat))⟩:S28) x0_3.1 a0 a1 x0_3.2 a3) trivial (fun _=>trivial) trivial fun x0_4 hx0_4=>?_
 exact oQF 3 [⟨[.str a0,w34 a1,.i x0_4.2,.i a3],4,false⟩,⟨e29 x0_4.1,7,false⟩] 1 [] [n29 x0_4.1] (n29 x0_4.1) .ps trivial
theorem i46B_ok (k:Nat) (F:Fns0) (hF:FnsOk0 F):Pi46 (i46B k F):=fun a0 a1 a2 a3=>⟨fun x h=>qK3 k F hF a0 a1 a2 a3 (some x) h,fun h=>⟨_,qK3 k F hF a0 a1 a2 a3 none h⟩⟩
def i47p1:Pt:=nav [0,0,0] (nav [0] (bodyAt Try.f108))
def i47p2:Pt:=nav [0,0,0] i47p1
def i47p3:Pt:=nav [0,0,0] i47p2
def i47d0:DP:=⟨[20],[(0,0,1),(0,0,1),(0,0,0),(4,0,0),(15,0,0),(31,0,0),(63,0,0)],7,thrown,[],H0⟩
def i47B (k:Nat) (F:Fns0) (a0:(List Nat)) (a1:S28) (a2:S28) (a3:(List Nat)) (a4:(List S33)) (a5:Int) (a6:Int):Option (Option (S28 × Int)) :=
 bT (i23 k ([45,62]:List Nat) a3 a4 a5 a6) fun x0_1=>(i28 k a3 a4 x0_1 a6).bind fun x1_2=>bT (F.i6 a3 a4 x0_1 a6) fun x2_3=>some (some ((⟨(22:Int),a0,⟨(([a1,a2,x2_3.1]:List S28)).length,(([a1,a2,x2_3.1]:List S28)).flatMap e29⟩,x1_2,false,([]:List (List Nat)),([]:List (List Nat))⟩:S28),x2_3.2))
theorem qK2 (k:Nat) (F:Fns0) (hF:FnsOk0 F):∀ a0 a1 a2 a3 a4 a5 a6 r,i47B k F a0 a1 a2 a3 a4 a5 a6 = some r → CallT Try.prog 108 [.ptr 0 4 0,.str a0,.agg [.i a1.f0,.str a1.f1,q29 a1.f2,.bool a1.f3,.bool a1.f4,w9 a1.f5,w9 a1.f6],.agg [.i a2.f0,.str a2.f1,q29 a2.f2,.bool a2.f3,.bool a2.f4,w9 a2.f5,w9 a2.f6]] (mkH [⟨[.str a3,w34 a4,.i a5,.i a6],4,false⟩]) ((Xi47 a0 a1 a2 a3 a4 a5 a6).thr r) ((Xi47 a0 a1 a2 a3 a4 a5 a6).enc r) ((Xi47 a0 a1 a2 a3 a4 a5 a6).fin r):=by
 intro a0 a1 a2 a3 a4 a5 a6 r h
 refine qA2 (Xi47 a0 a1 a2 a3 a4 a5 a6) Try.func108 (by kernel_rfl) (by kernel_rfl) rfl (t:=i47B k F a0 a1 a2 a3 a4 a5 a6) ?_ h
 unfold i47B
 refine qA (eE:=[(0,.ptr 0 4 0),(1,.str a0),(2,.agg [.i a1.f0,.str a1.f1,q29 a1.f2,.bool a1.f3,.bool a1.f4,w9 a1.f5,w9 a1.f6]),(3,.agg [.i a2.f0,.str a2.f1,q29 a2.f2,.bool a2.f3,.bool a2.f4,w9 a2.f5,w9 a2.f6])]) (by kernel_rfl) ?_
 let E1:Env:=[(10,.ptr 0 4 0),(8,.ptr 3 7 0),(7,.ptr 2 7 0),(6,.ptr 1 7 0),(0,.ptr 0 4 0),(1,.str a0),(2,n29 a1),(3,n29 a2)]
 let Q1:Blk:=⟨[.str a3,w34 a4,.i a5,.i a6],4,false⟩
 let Q2:Blk:=⟨[.i 0,.str [],.nils,.bool false,.bool false,.nils,.nils],0,false⟩
 refine oH 9 (atN 1 (ctl1 i47p1)) E1 (mkH [Q1,⟨e29 a1,0,false⟩,⟨e29 a2,0,false⟩,Q2]) ?_
 refine oX (fun (x0_1:Int) => .tuple []) (fun x0_1=>[⟨[.str a3,w34 a4,.i x0_1,.i a6],4,false⟩,⟨e29 a1,0,false⟩,⟨e29 a2,0,false⟩,Q2]) (atN 2 (ctl1 i47p1)) 11 [0] [] [] [0] [] [.ptr 0 4 0,.str [45,62]] (qAt k ([45,62]:List Nat) a3 a4 a5 a6) trivial (fun _=>trivial) trivial fun x0_1 hx0_1=>?_
 refine oR 5 (atN 2 (ctl1 i47p2)) ((13,.ptr 0 4 0) :: (12,.str a0) :: (11,.tuple []) :: E1) ?_
 let Q3:Blk:=⟨[.str a3,w34 a4,.i x0_1,.i a6],4,false⟩
 refine oN (fun (x1_2:Bool) => .bool x1_2) (fun x1_2=>[Q3,⟨e29 a1,0,false⟩,⟨e29 a2,0,false⟩,Q2]) (atN 3 (ctl1 i47p2)) 14 [0] [] [] [.ptr 0 4 0] (qH7 k a3 a4 x0_1 a6) trivial (fun _=>trivial) fun x1_2 hx1_2=>?_
 let Q4:Blk:=⟨[.i 22,.str a0,.nils,.bool x1_2,.bool false,.nils,.nils],7,false⟩
 let K1:List Blk:=[Q3,⟨e29 a1,0,false⟩,⟨e29 a2,0,false⟩,Q2,Q4]
 refine oLH 5 i47p3 [(0,.ptr 0 4 0),(6,.ptr 1 7 0),(7,.ptr 2 7 0),(8,.ptr 3 7 0),(9,.ptr 4 7 0)] (mkH K1) ?_
 refine qC6 (fun h=>?_) (fun x2_3 hx2_3=>?_)
 ·let E4:Env:=[(18,.ptr 0 4 0),(17,n29 a2),(16,n29 a1),(0,.ptr 0 4 0),(6,.ptr 1 7 0),(7,.ptr 2 7 0),(8,.ptr 3 7 0),(9,.ptr 4 7 0)]
  exact qAj (eE:=((21,.top) :: (20,.top) :: (19,.top) :: E4)) (i47d0.th 3 thrown [0] (mkH K1)) (hs:=[(mkH K1),(mkH K1)]) (LX:=[Q1]) (L:=K1) rfl rfl rfl (by kernel_rfl) rfl ⟨.inl rfl,trivial⟩ (by kernel_rfl) (by kernel_rfl) (by kernel_rfl) (by kernel_rfl) (qA8 3 (l':=(opsAt i47p3).toList.drop 3) (eE:=E4) (H':=(mkH K1)) (hs:=[]) (by kernel_rfl) (qAi (l':=(opsAt i47p3).toList.drop 4) (eE:=((19,.top) :: E4)) (hs:=[(mkH K1)]) (fi:=35) (args:=[.ptr 0 4 0]) (by kernel_rfl) (by kernel_rfl) (frS 0 (M:=K1) (rs:=[0]) (ms:=[]) (mv:=[]) (mm:=[]) (D:=[0]) (xs':=[.ptr 0 4 0]) (.refl) ((hF.i6_ok a3 a4 x0_1 a6).2 h) trivial trivial (by kernel_rfl)) (by kernel_rfl) (qA1 (l':=(opsAt i47p3).toList.drop 5) (eE:=((20,.top) :: (19,.top) :: E4)) (hs:=[]) (by kernel_rfl) (by kernel_rfl) (qA1 (l':=(opsAt i47p3).toList.drop 6) (eE:=((21,.top) :: (20,.top) :: (19,.top) :: E4)) (hs:=[]) (by kernel_rfl) (by kernel_rfl) (qA1 (l':=(opsAt i47p3).toList.drop 7) (eE:=((21,.top) :: (20,.top) :: (19,.top) :: E4)) (hs:=[(mkH K1)]) (by kernel_rfl) (by kernel_rfl) (.nil)))))) (by kernel_rfl) (by kernel_rfl)
 ·let E4:Env:=[(18,.ptr 0 4 0),(17,n29 a2),(16,n29 a1),(0,.ptr 0 4 0),(6,.ptr 1 7 0),(7,.ptr 2 7 0),(8,.ptr 3 7 0),(9,.ptr 4 7 0)]
  let Q5:Blk:=⟨[.str a3,w34 a4,.i x2_3.2,.i a6],4,false⟩
  let Q6:Blk:=⟨[.i 22,.str a0,w29 ([a1,a2,x2_3.1]:List S28),.bool x1_2,.bool false,.nils,.nils],7,false⟩
  let K2:List Blk:=[Q5,⟨e29 a1,0,false⟩,⟨e29 a2,0,false⟩,Q2,Q6]
  let K3:List Blk:=[Q5,⟨e29 a1,0,false⟩,⟨e29 a2,0,false⟩,Q2,Q4]
  refine oD (H':=(mkH K2)) (nav [0] i47p3) ((21,.ptr 4 7 2) :: (20,w29 ([a1,a2,x2_3.1]:List S28)) :: (19,n29 x2_3.1) :: E4) [(mkH K3),(mkH K2)] i47d0 (oDr 3 3 E4 (qA5 (l':=(opsAt i47p3).toList.drop 4) (eE:=((19,n29 x2_3.1) :: E4)) (hs:=[(mkH K3)]) (H':=(mkH K3)) (fi:=35) (args:=[.ptr 0 4 0]) (v:=n29 x2_3.1) (by kernel_rfl) (frC (rs:=[0]) (ms:=[]) (ms':=[]) ((hF.i6_ok a3 a4 x0_1 a6).1 x2_3 hx2_3) trivial trivial (by kernel_rfl)) (by kernel_rfl) (oDh 3 7 ((21,.ptr 4 7 2) :: (20,w29 ([a1,a2,x2_3.1]:List S28)) :: (19,n29 x2_3.1) :: E4) (mkH K2) [(mkH K2)] .nil))) ?_
  exact oQF 6 [Q5,⟨e29 a1,0,false⟩,⟨e29 a2,0,false⟩,Q6,Q6] 1 [] [.agg [.i 22,.str a0,w29 ([a1,a2,x2_3.1]:List S28),.bool x1_2,.bool false,.nils,.nils]] (.agg [.i 22,.str a0,w29 ([a1,a2,x2_3.1]:List S28),.bool x1_2,.bool false,.vec 0 1 [],.vec 0 1 []]) (.agg (.cs (.cs (.cs (.cs (.cs (.nil (.nil .ps))))))) .ps) trivial
theorem i47B_ok (k:Nat) (F:Fns0) (hF:FnsOk0 F):Pi47 (i47B k F):=fun a0 a1 a2 a3 a4 a5 a6=>⟨fun x h=>qK2 k F hF a0 a1 a2 a3 a4 a5 a6 (some x) h,fun h=>⟨_,qK2 k F hF a0 a1 a2 a3 a4 a5 a6 none h⟩⟩
def i48p1:Pt:=nav [0,0,0] (nav [0] (bodyAt Try.f107))
def i48p2:Pt:=nav [0,0,0] i48p1
def i48d0:DP:=⟨[],[(0,0,0),(0,0,0),(0,0,1),(0,0,0),(8,0,0),(31,0,0),(63,0,0)],7,thrown,[],H0⟩
def i48B (k:Nat) (F:Fns0) (a0:(List Nat)) (a1:(List Nat)) (a2:(List S33)) (a3:Int) (a4:Int):Option (Option (S28 × Int)) :=
 bT (F.i51 a1 a2 a3 a4) fun x0_1=>bT (F.i49 a1 a2 x0_1.2 a4) fun x1_4=>bT (F.i47 a0 x0_1.1 x1_4.1 a1 a2 x1_4.2 a4) fun x1_5=>some (some (x1_5.1,x1_5.2))
theorem qK1 (k:Nat) (F:Fns0) (hF:FnsOk0 F):∀ a0 a1 a2 a3 a4 r,i48B k F a0 a1 a2 a3 a4 = some r → CallT Try.prog 107 [.ptr 0 4 0,.str a0] (mkH [⟨[.str a1,w34 a2,.i a3,.i a4],4,false⟩]) ((Xi48 a0 a1 a2 a3 a4).thr r) ((Xi48 a0 a1 a2 a3 a4).enc r) ((Xi48 a0 a1 a2 a3 a4).fin r):=by
 intro a0 a1 a2 a3 a4 r h
 refine qA2 (Xi48 a0 a1 a2 a3 a4) Try.func107 (by kernel_rfl) (by kernel_rfl) rfl (t:=i48B k F a0 a1 a2 a3 a4) ?_ h
 unfold i48B
 refine qA (eE:=[(0,.ptr 0 4 0),(1,.str a0)]) (by kernel_rfl) ?_
 let Q1:Blk:=⟨[.str a1,w34 a2,.i a3,.i a4],4,false⟩
 let Q2:Blk:=⟨[.i 0,.str [],.nils,.bool false,.bool false,.nils,.nils],0,false⟩
 refine oH 7 (atN 1 (ctl1 i48p1)) [(6,.ptr 0 4 0),(4,.ptr 1 7 0),(0,.ptr 0 4 0),(1,.str a0)] (mkH [Q1,Q2]) ?_
 refine oX (fun (x0_1:(S28 × Int))=>n29 x0_1.1) (fun x0_1=>[⟨[.str a1,w34 a2,.i x0_1.2,.i a4],4,false⟩,Q2]) (atN 2 (ctl1 i48p1)) 7 [0] [] [] [0] [] [.ptr 0 4 0] (hF.i51_ok a1 a2 a3 a4) trivial (fun _=>trivial) trivial fun x0_1 hx0_1=>?_
 let Q3:Blk:=⟨[.str a1,w34 a2,.i x0_1.2,.i a4],4,false⟩
 refine oH 4 i48p2 [(5,.ptr 2 7 0),(7,n29 x0_1.1),(6,.ptr 0 4 0),(4,.ptr 1 7 0),(0,.ptr 0 4 0),(1,.str a0)] (mkH [Q3,Q2,⟨e29 x0_1.1,7,false⟩]) ?_
 refine qC6 (fun h=>?_) (fun x1_4 hx1_4=>?_)
 ·let E2:Env:=[(11,.ptr 0 4 0),(10,n29 x0_1.1),(9,.str a0),(8,.ptr 0 4 0),(5,.ptr 2 7 0),(7,n29 x0_1.1),(6,.ptr 0 4 0),(4,.ptr 1 7 0),(0,.ptr 0 4 0),(1,.str a0)]
  exact qAj (eE:=((13,.top) :: (12,.top) :: E2)) (i48d0.th 4 thrown [0] (mkH [Q3,Q2,⟨e29 x0_1.1,7,false⟩])) (hs:=[(mkH [Q3,Q2,⟨e29 x0_1.1,7,false⟩]),(mkH [Q3,Q2,⟨e29 x0_1.1,7,false⟩]),(mkH [Q3,Q2,⟨e29 x0_1.1,7,false⟩])]) (LX:=[Q1]) (L:=[Q3,Q2,⟨e29 x0_1.1,7,false⟩]) rfl rfl rfl (by kernel_rfl) rfl ⟨.inl rfl,trivial⟩ (by kernel_rfl) (by kernel_rfl) (by kernel_rfl) (by kernel_rfl) (qA8 4 (l':=(opsAt i48p2).toList.drop 4) (eE:=E2) (H':=(mkH [Q3,Q2,⟨e29 x0_1.1,7,false⟩])) (hs:=[]) (by kernel_rfl) (qAi (l':=(opsAt i48p2).toList.drop 5) (eE:=((12,.top) :: E2)) (hs:=[(mkH [Q3,Q2,⟨e29 x0_1.1,7,false⟩])]) (fi:=109) (args:=[.ptr 0 4 0]) (by kernel_rfl) (by kernel_rfl) (frS 0 (M:=[Q3,Q2,⟨e29 x0_1.1,7,false⟩]) (rs:=[0]) (ms:=[]) (mv:=[]) (mm:=[]) (D:=[0]) (xs':=[.ptr 0 4 0]) (.refl) ((hF.i49_ok a1 a2 x0_1.2 a4).2 h) trivial trivial (by kernel_rfl)) (by kernel_rfl) (qA1 (l':=(opsAt i48p2).toList.drop 6) (eE:=((13,.top) :: (12,.top) :: E2)) (hs:=[(mkH [Q3,Q2,⟨e29 x0_1.1,7,false⟩])]) (by kernel_rfl) (by kernel_rfl) (qA1 (l':=(opsAt i48p2).toList.drop 7) (eE:=((13,.top) :: (12,.top) :: E2)) (hs:=[(mkH [Q3,Q2,⟨e29 x0_1.1,7,false⟩])]) (by kernel_rfl) (by kernel_rfl) (.nil))))) (by kernel_rfl) (by kernel_rfl)
 ·refine qC6 (fun h=>?_) (fun x1_5 hx1_5=>?_)
  ·let E2:Env:=[(11,.ptr 0 4 0),(10,n29 x0_1.1),(9,.str a0),(8,.ptr 0 4 0),(5,.ptr 2 7 0),(7,n29 x0_1.1),(6,.ptr 0 4 0),(4,.ptr 1 7 0),(0,.ptr 0 4 0),(1,.str a0)]
   let Q4:Blk:=⟨[.str a1,w34 a2,.i x1_4.2,.i a4],4,false⟩
   exact qAj (eE:=((13,.top) :: (12,n29 x1_4.1) :: E2)) (i48d0.th 5 thrown [0] (mkH [Q4,Q2,⟨e29 x0_1.1,7,false⟩])) (hs:=[(mkH [Q4,Q2,⟨e29 x0_1.1,7,false⟩]),(mkH [Q4,Q2,⟨e29 x0_1.1,7,false⟩]),(mkH [Q4,Q2,⟨e29 x0_1.1,7,false⟩])]) (LX:=[Q1]) (L:=[Q4,Q2,⟨e29 x0_1.1,7,false⟩]) rfl rfl rfl (by kernel_rfl) rfl ⟨.inl rfl,trivial⟩ (by kernel_rfl) (by kernel_rfl) (by kernel_rfl) (by kernel_rfl) (qA8 4 (l':=(opsAt i48p2).toList.drop 4) (eE:=E2) (H':=(mkH [Q3,Q2,⟨e29 x0_1.1,7,false⟩])) (hs:=[]) (by kernel_rfl) (qA5 (l':=(opsAt i48p2).toList.drop 5) (eE:=((12,n29 x1_4.1) :: E2)) (hs:=[(mkH [Q4,Q2,⟨e29 x0_1.1,7,false⟩])]) (H':=(mkH [Q4,Q2,⟨e29 x0_1.1,7,false⟩])) (fi:=109) (args:=[.ptr 0 4 0]) (v:=n29 x1_4.1) (by kernel_rfl) (frC (rs:=[0]) (ms:=[]) (ms':=[]) ((hF.i49_ok a1 a2 x0_1.2 a4).1 x1_4 hx1_4) trivial trivial (by kernel_rfl)) (by kernel_rfl) (qAi (l':=(opsAt i48p2).toList.drop 6) (eE:=((13,.top) :: (12,n29 x1_4.1) :: E2)) (hs:=[(mkH [Q4,Q2,⟨e29 x0_1.1,7,false⟩])]) (fi:=108) (args:=[.ptr 0 4 0,.str a0,n29 x0_1.1,n29 x1_4.1]) (by kernel_rfl) (by kernel_rfl) (frS 0 (M:=[Q4,Q2,⟨e29 x0_1.1,7,false⟩]) (rs:=[0]) (ms:=[]) (mv:=[]) (mm:=[]) (D:=[0]) (xs':=[.ptr 0 4 0,.str a0,n29 x0_1.1,n29 x1_4.1]) (.refl) ((hF.i47_ok a0 x0_1.1 x1_4.1 a1 a2 x1_4.2 a4).2 h) trivial trivial (by kernel_rfl)) (by kernel_rfl) (qA1 (l':=(opsAt i48p2).toList.drop 7) (eE:=((13,.top) :: (12,n29 x1_4.1) :: E2)) (hs:=[(mkH [Q4,Q2,⟨e29 x0_1.1,7,false⟩])]) (by kernel_rfl) (by kernel_rfl) (.nil))))) (by kernel_rfl) (by kernel_rfl)
  ·let E2:Env:=[(11,.ptr 0 4 0),(10,n29 x0_1.1),(9,.str a0),(8,.ptr 0 4 0),(5,.ptr 2 7 0),(7,n29 x0_1.1),(6,.ptr 0 4 0),(4,.ptr 1 7 0),(0,.ptr 0 4 0),(1,.str a0)]
   let Q5:Blk:=⟨[.str a1,w34 a2,.i x1_5.2,.i a4],4,false⟩
   let Q6:Blk:=⟨[.str a1,w34 a2,.i x1_4.2,.i a4],4,false⟩
   let K1:List Blk:=[Q5,⟨e29 x1_5.1,7,false⟩,⟨e29 x0_1.1,7,false⟩]
   refine oD (H':=(mkH K1)) (nav [0] i48p2) ((13,n29 x1_5.1) :: (12,n29 x1_4.1) :: E2) [(mkH [Q6,Q2,⟨e29 x0_1.1,7,false⟩]),(mkH [Q5,Q2,⟨e29 x0_1.1,7,false⟩]),(mkH K1)] i48d0 (oDr 4 4 E2 (qA5 (l':=(opsAt i48p2).toList.drop 5) (eE:=((12,n29 x1_4.1) :: E2)) (hs:=[(mkH [Q6,Q2,⟨e29 x0_1.1,7,false⟩])]) (H':=(mkH [Q6,Q2,⟨e29 x0_1.1,7,false⟩])) (fi:=109) (args:=[.ptr 0 4 0]) (v:=n29 x1_4.1) (by kernel_rfl) (frC (rs:=[0]) (ms:=[]) (ms':=[]) ((hF.i49_ok a1 a2 x0_1.2 a4).1 x1_4 hx1_4) trivial trivial (by kernel_rfl)) (by kernel_rfl) (qA5 (l':=(opsAt i48p2).toList.drop 6) (eE:=((13,n29 x1_5.1) :: (12,n29 x1_4.1) :: E2)) (hs:=[(mkH [Q5,Q2,⟨e29 x0_1.1,7,false⟩])]) (H':=(mkH [Q5,Q2,⟨e29 x0_1.1,7,false⟩])) (fi:=108) (args:=[.ptr 0 4 0,.str a0,n29 x0_1.1,n29 x1_4.1]) (v:=n29 x1_5.1) (by kernel_rfl) (frC (rs:=[0]) (ms:=[]) (ms':=[]) ((hF.i47_ok a0 x0_1.1 x1_4.1 a1 a2 x1_4.2 a4).1 x1_5 hx1_5) trivial trivial (by kernel_rfl)) (by kernel_rfl) (oDh 1 7 ((13,n29 x1_5.1) :: (12,n29 x1_4.1) :: E2) (mkH K1) [(mkH K1)] .nil)))) ?_
   exact oQF 1 K1 1 [] [n29 x1_5.1] (n29 x1_5.1) .ps trivial
theorem i48B_ok (k:Nat) (F:Fns0) (hF:FnsOk0 F):Pi48 (i48B k F):=fun a0 a1 a2 a3 a4=>⟨fun x h=>qK1 k F hF a0 a1 a2 a3 a4 (some x) h,fun h=>⟨_,qK1 k F hF a0 a1 a2 a3 a4 none h⟩⟩
def i49p1:Pt:=nav [0,0,0,0] (nav [0] (bodyAt Try.f109))
def i49p2:Pt:=nav [0,0] i49p1
def i49p3:Pt:=nav [1,0] i49p2
def i49B (k:Nat) (F:Fns0) (a0:(List Nat)) (a1:(List S33)) (a2:Int) (a3:Int):Option (Option (S28 × Int)) :=
 bT (i7 k ([119,104,101,110]:List Nat) a0 a1 a2 a3) fun x0_1=>if x0_1.1 then (bT (F.i50 a0 a1 x0_1.2 a3) fun x1_1=>some (some (x1_1.1,x1_1.2))) else (some (some ((⟨(24:Int),([]:List Nat),⟨0,[]⟩,false,false,([]:List (List Nat)),([]:List (List Nat))⟩:S28),x0_1.2)))
theorem qK0 (k:Nat) (F:Fns0) (hF:FnsOk0 F):∀ a0 a1 a2 a3 r,i49B k F a0 a1 a2 a3 = some r → CallT Try.prog 109 [.ptr 0 4 0] (mkH [⟨[.str a0,w34 a1,.i a2,.i a3],4,false⟩]) ((Xi49 a0 a1 a2 a3).thr r) ((Xi49 a0 a1 a2 a3).enc r) ((Xi49 a0 a1 a2 a3).fin r):=by
 intro a0 a1 a2 a3 r h
 refine qA2 (Xi49 a0 a1 a2 a3) Try.func109 (by kernel_rfl) (by kernel_rfl) rfl (t:=i49B k F a0 a1 a2 a3) ?_ h
 unfold i49B
 refine qA (eE:=[(0,.ptr 0 4 0)]) (by kernel_rfl) ?_
 let Q1:Blk:=⟨[.i 0,.str [],.nils,.bool false,.bool false,.nils,.nils],0,false⟩
 refine oH 8 (atN 1 (ctl1 i49p1)) [(3,.ptr 0 4 0),(2,.ptr 1 7 0),(0,.ptr 0 4 0)] (mkH [⟨[.str a0,w34 a1,.i a2,.i a3],4,false⟩,Q1]) ?_
 refine oX (fun (x0_1:(Bool × Int)) => .bool x0_1.1) (fun x0_1=>[⟨[.str a0,w34 a1,.i x0_1.2,.i a3],4,false⟩,Q1]) (atN 2 (ctl1 i49p1)) 4 [0] [] [] [] [] [.ptr 0 4 0,.str [119,104,101,110]] (qAg k ([119,104,101,110]:List Nat) a0 a1 a2 a3) trivial (fun _=>trivial) trivial fun x0_1 hx0_1=>?_
 refine oR 1 i49p2 [(4,.bool x0_1.1),(3,.ptr 0 4 0),(2,.ptr 1 7 0),(0,.ptr 0 4 0)] ?_
 refine oS 4 (fun hb=>?_) (fun hb=>?_)
 ·refine oR 4 (atN 1 (ctl1 i49p3)) [(5,.ptr 0 4 0),(4,.bool true),(4,.bool x0_1.1),(3,.ptr 0 4 0),(2,.ptr 1 7 0),(0,.ptr 0 4 0)] ?_
  refine oX (fun (x1_1:(S28 × Int))=>n29 x1_1.1) (fun x1_1=>[⟨[.str a0,w34 a1,.i x1_1.2,.i a3],4,false⟩,Q1]) (atN 2 (ctl1 i49p3)) 6 [0] [] [] [0] [] [.ptr 0 4 0] (hF.i50_ok a0 a1 x0_1.2 a3) trivial (fun _=>trivial) trivial fun x1_1 hx1_1=>?_
  exact oQF 3 [⟨[.str a0,w34 a1,.i x1_1.2,.i a3],4,false⟩,⟨e29 x1_1.1,7,false⟩] 1 [] [n29 x1_1.1] (n29 x1_1.1) .ps trivial
 ·exact oQF 8 [⟨[.str a0,w34 a1,.i x0_1.2,.i a3],4,false⟩,⟨[.i 24,.str [],.nils,.bool false,.bool false,.nils,.nils],7,false⟩] 1 [] [.agg [.i 24,.str [],.nils,.bool false,.bool false,.nils,.nils]] (.agg [.i 24,.str [],.vec 0 7 [],.bool false,.bool false,.vec 0 1 [],.vec 0 1 []]) (.agg (.cs (.cs (.nil (.cs (.cs (.nil (.nil .ps))))))) .ps) trivial
theorem i49B_ok (k:Nat) (F:Fns0) (hF:FnsOk0 F):Pi49 (i49B k F):=fun a0 a1 a2 a3=>⟨fun x h=>qK0 k F hF a0 a1 a2 a3 (some x) h,fun h=>⟨_,qK0 k F hF a0 a1 a2 a3 none h⟩⟩
def i5p1:Pt:=nav [0,0,0,0] (nav [0] (bodyAt Try.f29))
def i5p2:Pt:=nav [0,0] i5p1
def i5p3:Pt:=nav [1,0] i5p2
def i5p4:Pt:=nav [2,0,0] i5p2
def i5p6:Pt:=nav [0,0,0,0,0] i5p4
def i5p8:Pt:=nav [0,0] (nav [0,0,0] i5p6)
def i5p9:Pt:=nav [1,0,0,0] i5p8
def i5p10:Pt:=nav [2,0,0] i5p8
def i5p11:Pt:=nav [0,0,0] i5p9
def i5p12:Pt:=nav [0,0,0,0] i5p11
def i5p13:Pt:=nav [0,0] i5p12
def i5p14:Pt:=nav [2,0,0] i5p13
def i5p15:Pt:=nav [0,0] i5p14
def i5d0:DP:=⟨[59],[(0,0,0),(1,0,2),(0,0,2),(0,0,0),(0,0,0),(16,0,0),(48,0,0),(120,0,0),(252,0,0),(511,0,0),(0,0,0),(1023,0,0),(4095,0,0)],13,thrown,[],H0⟩
def qH5 (k:Nat) (F:Fns0)  (a0:Int) (a1:(List Nat)) (a2:(List S33)) (a3:Int) (a4:Int) (ih:Int → Int → S28 → Option (Option (S28 × Int))):Int → Int → S28 → Option (Option (S28 × Int)) :=
 fun (y9_0:Int) (y9_1:Int) (y9_2:S28)=>jn (fun (z11:Int × S28)=>some (some (z11.2,z11.1))) (fun j11=>if (decide (a0 ≤ 9)) then ((i9 k a1 a2 y9_1 a4).bind fun x3_1=>(g50 k x3_1.f1).bind fun x4_2=>(i10 k x3_1.f1 a1 a2 y9_1 a4).bind fun x5_3=>jn (fun (z10:Bool × Int × S28)=>if z10.1 then (j11 (z10.2.1,z10.2.2)) else (bT (i11 k a1 a2 z10.2.1 a4) fun x6_1=>(g54 k x3_1.f1).bind fun x7_6=>bT (F.i5 x7_6 a1 a2 x6_1 a4) fun x7_7=>ih x4_2 x7_7.2 (⟨14,x3_1.f1,(⟨(([z10.2.2,x7_7.1]:List S28)).length,(([z10.2.2,x7_7.1]:List S28)).flatMap e29⟩:Raw),false,false,([]:List (List Nat)),([]:List (List Nat))⟩:S28))) (fun j10=>if (!x5_3) then (j10 (true,y9_1,y9_2)) else (if (decide (x4_2 < maxI a0 1)) then (j10 (true,y9_1,y9_2)) else ((g52 k x3_1.f1).bind fun x5_15=>j10 (decide (y9_0 < x5_15),y9_1,y9_2))))) else (j11 (y9_1,y9_2)))
def qNf (k:Nat) (F:Fns0)  (a0:Int) (a1:(List Nat)) (a2:(List S33)) (a3:Int) (a4:Int) (n:Nat):Int → Int → S28 → Option (Option (S28 × Int)):=lp (fun _ _ _=>none) (qH5 k F a0 a1 a2 a3 a4) n
theorem i5_l9_ok (k:Nat) (F:Fns0) (hF:FnsOk0 F) (a0:Int) (a1:(List Nat)) (a2:(List S33)) (a3:Int) (a4:Int)    : ∀ (n:Nat) (y9_0:Int) (y9_1:Int) (y9_2:S28),Ok (Xi5 a0 a1 a2 a3 a4) i5p6 [(0,.ptr 0 4 0),(1,.i a0),(4,.ptr 1 7 0),(5,.ptr 2 7 0),(6,.i y9_0)] (mkH [⟨[.str a1,w34 a2,.i y9_1,.i a4],4,false⟩,⟨[.i 0,.str [],.nils,.bool false,.bool false,.nils,.nils],0,false⟩,⟨[.i y9_2.f0,.str y9_2.f1,q29 y9_2.f2,.bool y9_2.f3,.bool y9_2.f4,w9 y9_2.f5,w9 y9_2.f6],7,false⟩]) (qNf k F a0 a1 a2 a3 a4 n y9_0 y9_1 y9_2):=by
 intro n
 induction n with
 | zero=>intro y9_0 y9_1 y9_2; exact ok_none
 | succ n ih =>
  intro y9_0 y9_1 y9_2
  show Ok _ _ _ _ (qH5 k F a0 a1 a2 a3 a4 (qNf k F a0 a1 a2 a3 a4 n) y9_0 y9_1 y9_2)
  unfold qH5
  refine qAf (p':=nav [0] i5p6) (by kernel_rfl) ?_
  let E6:Env:=[(25,.bool (decide (a0 ≤ 9))),(24,.i a0),(0,.ptr 0 4 0),(1,.i a0),(4,.ptr 1 7 0),(5,.ptr 2 7 0),(6,.i y9_0)]
  let Q1:Blk:=⟨[.str a1,w34 a2,.i y9_1,.i a4],4,false⟩
  let Q2:Blk:=⟨[.i 0,.str [],.nils,.bool false,.bool false,.nils,.nils],0,false⟩
  refine oH 6 i5p8 E6 (mkH [Q1,Q2,⟨e29 y9_2,7,false⟩]) ?_
  refine oJ i5p10 (fun (z11:Int × S28)=>[(4,.ptr 1 7 0),(5,.ptr 2 7 0)]) (fun (z11:Int × S28)=>(mkH [⟨[.str a1,w34 a2,.i z11.1,.i a4],4,false⟩,Q2,⟨e29 z11.2,7,false⟩])) (fun z11=>?_) (fun j11 hj11=>?_)
  ·exact oQF 5 [⟨[.str a1,w34 a2,.i z11.1,.i a4],4,false⟩,⟨e29 z11.2,7,false⟩,⟨e29 z11.2,7,false⟩] 1 [] [n29 z11.2] (n29 z11.2) .ps trivial
  ·refine oS 25 (fun hb=>?_) (fun hb=>?_)
   ·refine oH 6 (atN 1 (ctl1 i5p9)) ((26,.ptr 0 4 0) :: (25,.bool true) :: E6) (mkH [Q1,Q2,⟨e29 y9_2,7,false⟩]) ?_
    refine oN (fun (x3_1:S33)=>n34 x3_1) (fun x3_1=>[Q1,Q2,⟨e29 y9_2,7,false⟩]) (atN 2 (ctl1 i5p9)) 27 [0] [] [] [.ptr 0 4 0] (qLg k a1 a2 y9_1 a4) trivial (fun _=>trivial) fun x3_1 hx3_1=>?_
    let E7:Env:=((29,.str x3_1.f1) :: (28,.ptr 3 3 1) :: (7,.ptr 3 3 0) :: (27,n34 x3_1) :: (26,.ptr 0 4 0) :: (25,.bool true) :: E6)
    let K1:List Blk:=[Q1,Q2,⟨e29 y9_2,7,false⟩,⟨e34 x3_1,3,false⟩]
    refine oH 7 (atN 2 (ctl1 i5p11)) E7 (mkH K1) ?_
    refine oA (fun (x4_2:Int) => .i x4_2) (atN 3 (ctl1 i5p11)) 30 [.str x3_1.f1] (qFa k x3_1.f1) fun x4_2 hx4_2=>?_
    refine oR 4 i5p12 ((8,.i x4_2) :: (30,.i x4_2) :: E7) ?_
    refine oK0 [0,1,4,5,6,7,8] ?_
    let E8:Env:=keepOnly ((8,.i x4_2) :: (30,.i x4_2) :: E7) [0,1,4,5,6,7,8]
    refine oR 4 (atN 3 (ctl1 i5p12)) ((33,.str x3_1.f1) :: (32,.ptr 3 3 1) :: (31,.ptr 0 4 0) :: E8) ?_
    refine oN (fun (x5_3:Bool) => .bool x5_3) (fun x5_3=>K1) (atN 4 (ctl1 i5p12)) 34 [0] [] [] [.ptr 0 4 0,.str x3_1.f1] (qHa k x3_1.f1 a1 a2 y9_1 a4) trivial (fun _=>trivial) fun x5_3 hx5_3=>?_
    let E9:Env:=((36,.bool (!x5_3)) :: (35,.bool (!x5_3)) :: (34,.bool x5_3) :: (33,.str x3_1.f1) :: (32,.ptr 3 3 1) :: (31,.ptr 0 4 0) :: E8)
    refine oR 2 (atN 6 (ctl1 i5p12)) E9 ?_
    refine oJ i5p13 (fun (z10:Bool × Int × S28)=>[(0,.ptr 0 4 0),(1,.i a0),(4,.ptr 1 7 0),(5,.ptr 2 7 0),(7,.ptr 3 3 0),(8,.i x4_2),(48,.bool z10.1)]) (fun (z10:Bool × Int × S28)=>(mkH [⟨[.str a1,w34 a2,.i z10.2.1,.i a4],4,false⟩,Q2,⟨e29 z10.2.2,7,false⟩,⟨e34 x3_1,3,false⟩])) (fun z10=>?_) (fun j10 hj10=>?_)
    ·refine oS 48 (fun hb=>?_) (fun hb=>?_)
     ·let Q3:Blk:=⟨[.str a1,w34 a2,.i z10.2.1,.i a4],4,false⟩
      refine oLH 3 i5p10 [(4,.ptr 1 7 0),(5,.ptr 2 7 0)] (mkH [Q3,Q2,⟨e29 z10.2.2,7,false⟩,⟨e34 x3_1,3,false⟩]) ?_
      refine qAa [Q3,Q2,⟨e29 z10.2.2,7,false⟩] [⟨e34 x3_1,3,false⟩] (by kernel_rfl) rfl (by kernel_rfl) ⟨(by kernel_rfl),⟨(by kernel_rfl),⟨(by kernel_rfl),trivial⟩⟩⟩ ?_
      exact hj11 (z10.2.1,z10.2.2)
     ·let E12:Env:=[(49,.ptr 0 4 0),(48,.bool false),(0,.ptr 0 4 0),(1,.i a0),(4,.ptr 1 7 0),(5,.ptr 2 7 0),(7,.ptr 3 3 0),(8,.i x4_2),(48,.bool z10.1)]
      refine oH 5 (atN 1 (ctl1 i5p14)) E12 (mkH [⟨[.str a1,w34 a2,.i z10.2.1,.i a4],4,false⟩,Q2,⟨e29 z10.2.2,7,false⟩,⟨e34 x3_1,3,false⟩]) ?_
      refine oX (fun (x6_1:Int) => .tuple []) (fun x6_1=>[⟨[.str a1,w34 a2,.i x6_1,.i a4],4,false⟩,Q2,⟨e29 z10.2.2,7,false⟩,⟨e34 x3_1,3,false⟩]) (atN 2 (ctl1 i5p14)) 50 [0] [] [] [] [] [.ptr 0 4 0] (qF5 k a1 a2 z10.2.1 a4) trivial (fun _=>trivial) trivial fun x6_1 hx6_1=>?_
      refine oR 1 i5p15 ((50,.tuple []) :: E12) ?_
      refine qA7 (fun x7_6 hx7_6=>?_)
      refine qC6 (fun h=>?_) (fun x7_7 hx7_7=>?_)
      ·let E13:Env:=[(56,.str x3_1.f1),(55,.ptr 3 3 1),(54,.ptr 0 4 0),(53,n29 z10.2.2),(52,.str x3_1.f1),(51,.ptr 3 3 1),(50,.tuple []),(49,.ptr 0 4 0),(48,.bool false),(0,.ptr 0 4 0),(1,.i a0),(4,.ptr 1 7 0),(5,.ptr 2 7 0),(7,.ptr 3 3 0),(8,.i x4_2),(48,.bool z10.1)]
       let E14:Env:=((61,.i x4_2) :: (60,.top) :: (59,.top) :: (58,.top) :: (57,.i x7_6) :: E13)
       let K2:List Blk:=[⟨[.str a1,w34 a2,.i x6_1,.i a4],4,false⟩,Q2,⟨e29 z10.2.2,7,false⟩,⟨e34 x3_1,3,false⟩]
       exact qAj (eE:=((6,.top) :: E14)) (i5d0.th 7 thrown [0] (mkH K2)) (hs:=[(mkH K2),(mkH K2),(mkH K2)]) (LX:=[⟨[.str a1,w34 a2,.i a3,.i a4],4,false⟩]) (L:=K2) rfl rfl rfl (by kernel_rfl) rfl ⟨.inl rfl,trivial⟩ (by kernel_rfl) (by kernel_rfl) (by kernel_rfl) (by kernel_rfl) (qA8 6 (l':=(opsAt i5p15).toList.drop 6) (eE:=E13) (H':=(mkH K2)) (hs:=[]) (by kernel_rfl) (qAn (l':=(opsAt i5p15).toList.drop 7) (eE:=((57,.i x7_6) :: E13)) (hs:=[(mkH K2)]) (fi:=54) (args:=[.str x3_1.f1]) (v := .i x7_6) (by kernel_rfl) (by kernel_rfl) (by kernel_rfl) (g54_ok k x3_1.f1 x7_6 hx7_6) (by kernel_rfl) (qAi (l':=(opsAt i5p15).toList.drop 8) (eE:=((58,.top) :: (57,.i x7_6) :: E13)) (hs:=[(mkH K2)]) (fi:=29) (args:=[.ptr 0 4 0,.i x7_6]) (by kernel_rfl) (by kernel_rfl) (frS 0 (M:=K2) (rs:=[0]) (ms:=[]) (mv:=[]) (mm:=[]) (D:=[0]) (xs':=[.ptr 0 4 0,.i x7_6]) (.refl) ((hF.i5_ok x7_6 a1 a2 x6_1 a4).2 h) trivial trivial (by kernel_rfl)) (by kernel_rfl) (qA1 (l':=(opsAt i5p15).toList.drop 9) (eE:=((59,.top) :: (58,.top) :: (57,.i x7_6) :: E13)) (hs:=[]) (by kernel_rfl) (by kernel_rfl) (qA1 (l':=(opsAt i5p15).toList.drop 10) (eE:=((60,.top) :: (59,.top) :: (58,.top) :: (57,.i x7_6) :: E13)) (hs:=[]) (by kernel_rfl) (by kernel_rfl) (qA8 1 (l':=(opsAt i5p15).toList.drop 11) (eE:=E14) (H':=(mkH K2)) (hs:=[]) (by kernel_rfl) (qA1 (l':=(opsAt i5p15).toList.drop 12) (eE:=E14) (hs:=[(mkH K2)]) (by kernel_rfl) (by kernel_rfl) (qA1 (l':=(opsAt i5p15).toList.drop 13) (eE:=((6,.top) :: E14)) (hs:=[]) (by kernel_rfl) (by kernel_rfl) (.nil))))))))) (by kernel_rfl) (by kernel_rfl)
      ·let E13:Env:=[(56,.str x3_1.f1),(55,.ptr 3 3 1),(54,.ptr 0 4 0),(53,n29 z10.2.2),(52,.str x3_1.f1),(51,.ptr 3 3 1),(50,.tuple []),(49,.ptr 0 4 0),(48,.bool false),(0,.ptr 0 4 0),(1,.i a0),(4,.ptr 1 7 0),(5,.ptr 2 7 0),(7,.ptr 3 3 0),(8,.i x4_2),(48,.bool z10.1)]
       let E15:Env:=((6,.i x4_2) :: (61,.i x4_2) :: (60,.agg [.i 14,.str x3_1.f1,w29 ([z10.2.2,x7_7.1]:List S28),.bool false,.bool false,.nils,.nils]) :: (59,w29 ([z10.2.2,x7_7.1]:List S28)) :: (58,n29 x7_7.1) :: (57,.i x7_6) :: E13)
       let Q5:Blk:=⟨[.str a1,w34 a2,.i x7_7.2,.i a4],4,false⟩
       let Q6:Blk:=⟨[.i 14,.str x3_1.f1,w29 ([z10.2.2,x7_7.1]:List S28),.bool false,.bool false,.nils,.nils],7,false⟩
       let K3:List Blk:=[⟨[.str a1,w34 a2,.i x6_1,.i a4],4,false⟩,Q2,⟨e29 z10.2.2,7,false⟩,⟨e34 x3_1,3,false⟩]
       let K4:List Blk:=[Q5,Q2,⟨e29 z10.2.2,7,false⟩,⟨e34 x3_1,3,false⟩]
       refine oD (H':=(mkH [Q5,Q2,Q6,⟨e34 x3_1,3,false⟩])) (nav [0] i5p15) E15 [(mkH K3),(mkH K4),(mkH [Q5,Q2,Q6,⟨e34 x3_1,3,false⟩])] i5d0 (oDr 6 6 E13 (qAn (l':=(opsAt i5p15).toList.drop 7) (eE:=((57,.i x7_6) :: E13)) (hs:=[(mkH K3)]) (fi:=54) (args:=[.str x3_1.f1]) (v := .i x7_6) (by kernel_rfl) (by kernel_rfl) (by kernel_rfl) (g54_ok k x3_1.f1 x7_6 hx7_6) (by kernel_rfl) (qA5 (l':=(opsAt i5p15).toList.drop 8) (eE:=((58,n29 x7_7.1) :: (57,.i x7_6) :: E13)) (hs:=[(mkH K4)]) (H':=(mkH K4)) (fi:=29) (args:=[.ptr 0 4 0,.i x7_6]) (v:=n29 x7_7.1) (by kernel_rfl) (frC (rs:=[0]) (ms:=[]) (ms':=[]) ((hF.i5_ok x7_6 a1 a2 x6_1 a4).1 x7_7 hx7_7) trivial trivial (by kernel_rfl)) (by kernel_rfl) (oDh 5 13 E15 (mkH [Q5,Q2,Q6,⟨e34 x3_1,3,false⟩]) [(mkH [Q5,Q2,Q6,⟨e34 x3_1,3,false⟩])] .nil)))) ?_
       refine qCw [Q5,Q2,Q6,⟨e34 x3_1,3,false⟩] 2 7 [.i 14,.str x3_1.f1,w29 ([z10.2.2,x7_7.1]:List S28),.bool false,.bool false,.nils,.nils] [.i 14,.str x3_1.f1,w29 ([z10.2.2,x7_7.1]:List S28),.bool false,.bool false,w9 ([]:List (List Nat)),w9 ([]:List (List Nat))] (by kernel_rfl) rfl (.cons (.cons (.cons (.cons (.cons (.nil (.nil (.refl)))))))) ?_
       let Q8:Blk:=⟨[.i 14,.str x3_1.f1,w29 ([z10.2.2,x7_7.1]:List S28),.bool false,.bool false,w9 ([]:List (List Nat)),w9 ([]:List (List Nat))],7,false⟩
       refine oHp (mkH [Q5,Q2,Q8,⟨e34 x3_1,3,false⟩]) ?_
       refine oK [0,1,4,5,6] [(0,.ptr 0 4 0),(1,.i a0),(4,.ptr 1 7 0),(5,.ptr 2 7 0),(6,.i x4_2)] ?_
       refine qAa [Q5,Q2,Q8] [⟨e34 x3_1,3,false⟩] (by kernel_rfl) rfl (by kernel_rfl) ⟨(by kernel_rfl),⟨(by kernel_rfl),⟨(by kernel_rfl),trivial⟩⟩⟩ ?_
       exact ih x4_2 x7_7.2 (⟨14,x3_1.f1,(⟨(([z10.2.2,x7_7.1]:List S28)).length,(([z10.2.2,x7_7.1]:List S28)).flatMap e29⟩:Raw),false,false,([]:List (List Nat)),([]:List (List Nat))⟩:S28)
    ·refine oS 36 (fun hb=>?_) (fun hb=>?_)
     ·refine oLH 13 i5p13 [(0,.ptr 0 4 0),(1,.i a0),(4,.ptr 1 7 0),(5,.ptr 2 7 0),(7,.ptr 3 3 0),(8,.i x4_2),(48,.bool true)] (mkH K1) ?_
      exact hj10 (true,y9_1,y9_2)
     ·let E19:Env:=((42,.bool (decide (x4_2 < maxI a0 1))) :: (41,.bool (decide (x4_2 < maxI a0 1))) :: (40,.bool (decide (x4_2 < maxI a0 1))) :: (39,.i (maxI a0 1)) :: (38,.i a0) :: (37,.i x4_2) :: (36,.bool false) :: E9)
      refine oH 6 (atN 12 (ctl1 i5p12)) E19 (mkH K1) ?_
      refine oS 42 (fun hb=>?_) (fun hb=>?_)
      ·refine oL 7 i5p13 [(0,.ptr 0 4 0),(1,.i a0),(4,.ptr 1 7 0),(5,.ptr 2 7 0),(7,.ptr 3 3 0),(8,.i x4_2),(48,.bool true)] ?_
       exact hj10 (true,y9_1,y9_2)
      ·refine oR 3 (atN 15 (ctl1 i5p12)) ((45,.str x3_1.f1) :: (44,.ptr 3 3 1) :: (43,.i y9_0) :: (42,.bool false) :: E19) ?_
       refine oA (fun (x5_15:Int) => .i x5_15) (atN 16 (ctl1 i5p12)) 46 [.str x3_1.f1] (g52_ok k x3_1.f1) fun x5_15 hx5_15=>?_
       refine oL 3 i5p13 [(0,.ptr 0 4 0),(1,.i a0),(4,.ptr 1 7 0),(5,.ptr 2 7 0),(7,.ptr 3 3 0),(8,.i x4_2),(48,.bool (decide (y9_0 < x5_15)))] ?_
       exact hj10 (decide (y9_0 < x5_15),y9_1,y9_2)
   ·refine oLH 3 i5p10 [(4,.ptr 1 7 0),(5,.ptr 2 7 0)] (mkH [Q1,Q2,⟨e29 y9_2,7,false⟩]) ?_
    exact hj11 (y9_1,y9_2)
def i5B (k:Nat) (F:Fns0) (a0:Int) (a1:(List Nat)) (a2:(List S33)) (a3:Int) (a4:Int):Option (Option (S28 × Int)) :=
 jn (fun (z8:Bool × Int)=>if z8.1 then (bT (F.i5 (0:Int) a1 a2 z8.2 a4) fun x1_1=>some (some ((⟨(13:Int),([99,97,116,99,104]:List Nat),⟨(([x1_1.1]:List S28)).length,(([x1_1.1]:List S28)).flatMap e29⟩,false,false,([]:List (List Nat)),([]:List (List Nat))⟩:S28),x1_1.2))) else (bT (F.i8 a1 a2 z8.2 a4) fun x2_1=>qNf k F a0 a1 a2 a3 a4 k x2_1.2.1 x2_1.2.2 x2_1.1)) (fun j8=>if (decide (a0 ≤ 0)) then (bT (i7 k ([99,97,116,99,104]:List Nat) a1 a2 a3 a4) fun x0_4=>j8 (x0_4.1,x0_4.2)) else (j8 (false,a3)))
theorem qNg (k:Nat) (F:Fns0) (hF:FnsOk0 F):∀ a0 a1 a2 a3 a4 r,i5B k F a0 a1 a2 a3 a4 = some r → CallT Try.prog 29 [.ptr 0 4 0,.i a0] (mkH [⟨[.str a1,w34 a2,.i a3,.i a4],4,false⟩]) ((Xi5 a0 a1 a2 a3 a4).thr r) ((Xi5 a0 a1 a2 a3 a4).enc r) ((Xi5 a0 a1 a2 a3 a4).fin r):=by
 intro a0 a1 a2 a3 a4 r h
 refine qA2 (Xi5 a0 a1 a2 a3 a4) Try.func29 (by kernel_rfl) (by kernel_rfl) rfl (t:=i5B k F a0 a1 a2 a3 a4) ?_ h
 unfold i5B
 refine qA (eE:=[(0,.ptr 0 4 0),(1,.i a0)]) (by kernel_rfl) ?_
 let E1:Env:=[(11,.bool (decide (a0 ≤ 0))),(10,.bool (decide (a0 ≤ 0))),(9,.i a0),(4,.ptr 1 7 0),(0,.ptr 0 4 0),(1,.i a0)]
 let Q1:Blk:=⟨[.str a1,w34 a2,.i a3,.i a4],4,false⟩
 let Q2:Blk:=⟨[.i 0,.str [],.nils,.bool false,.bool false,.nils,.nils],0,false⟩
 refine oH 10 (atN 3 (ctl1 i5p1)) E1 (mkH [Q1,Q2]) ?_
 refine oJ i5p2 (fun (z8:Bool × Int)=>[(0,.ptr 0 4 0),(1,.i a0),(4,.ptr 1 7 0),(14,.bool z8.1)]) (fun (z8:Bool × Int)=>(mkH [⟨[.str a1,w34 a2,.i z8.2,.i a4],4,false⟩,Q2])) (fun z8=>?_) (fun j8 hj8=>?_)
 ·refine oS 14 (fun hb=>?_) (fun hb=>?_)
  ·let E2:Env:=[(15,.ptr 0 4 0),(14,.bool true),(0,.ptr 0 4 0),(1,.i a0),(4,.ptr 1 7 0),(14,.bool z8.1)]
   refine oH 4 (atN 1 (ctl1 i5p3)) E2 (mkH [⟨[.str a1,w34 a2,.i z8.2,.i a4],4,false⟩,Q2]) ?_
   refine oX (fun (x1_1:(S28 × Int))=>n29 x1_1.1) (fun x1_1=>[⟨[.str a1,w34 a2,.i x1_1.2,.i a4],4,false⟩,Q2]) (atN 2 (ctl1 i5p3)) 16 [0] [] [] [0] [] [.ptr 0 4 0,.i 0] (hF.i5_ok (0:Int) a1 a2 z8.2 a4) trivial (fun _=>trivial) trivial fun x1_1 hx1_1=>?_
   let Q3:Blk:=⟨[.str a1,w34 a2,.i x1_1.2,.i a4],4,false⟩
   refine oH 1 (atN 3 (ctl1 i5p3)) ((17,.slice 2 7 0 1 7) :: (16,n29 x1_1.1) :: E2) (mkH [Q3,Q2,⟨e29 x1_1.1,0,false⟩]) ?_
   refine oZ 17 2 1 7 [.i x1_1.1.f0,.str x1_1.1.f1,q29 x1_1.1.f2,.bool x1_1.1.f3,.bool x1_1.1.f4,w9 x1_1.1.f5,w9 x1_1.1.f6] [0,1,4,14,15,16] [] trivial ?_
   exact oQF 4 [Q3,⟨[.i 13,.str [99,97,116,99,104],w29 ([x1_1.1]:List S28),.bool false,.bool false,.nils,.nils],7,false⟩,⟨[],0,false⟩] 1 [] [.agg [.i 13,.str [99,97,116,99,104],w29 ([x1_1.1]:List S28),.bool false,.bool false,.nils,.nils]] (.agg [.i 13,.str [99,97,116,99,104],w29 ([x1_1.1]:List S28),.bool false,.bool false,.vec 0 1 [],.vec 0 1 []]) (.agg (.cs (.cs (.cs (.cs (.cs (.nil (.nil .ps))))))) .ps) trivial
  ·refine oH 5 (atN 1 (ctl1 i5p4)) [(20,.ptr 0 4 0),(14,.bool false),(0,.ptr 0 4 0),(1,.i a0),(4,.ptr 1 7 0),(14,.bool z8.1)] (mkH [⟨[.str a1,w34 a2,.i z8.2,.i a4],4,false⟩,Q2]) ?_
   refine oX (fun (x2_1:Ri8) => .tuple [n29 x2_1.1,.i x2_1.2.1]) (fun x2_1=>[⟨[.str a1,w34 a2,.i x2_1.2.2,.i a4],4,false⟩,Q2]) (atN 2 (ctl1 i5p4)) 21 [0] [] [] [0] [] [.ptr 0 4 0] (hF.i8_ok a1 a2 z8.2 a4) trivial (fun _=>trivial) trivial fun x2_1 hx2_1=>?_
   refine oLH 10 i5p6 [(0,.ptr 0 4 0),(1,.i a0),(4,.ptr 1 7 0),(5,.ptr 2 7 0),(6,.i x2_1.2.1)] (mkH [⟨[.str a1,w34 a2,.i x2_1.2.2,.i a4],4,false⟩,Q2,⟨e29 x2_1.1,7,false⟩]) ?_
   exact (i5_l9_ok k F hF a0 a1 a2 a3 a4 k) x2_1.2.1 x2_1.2.2 x2_1.1
 ·refine oS 11 (fun hb=>?_) (fun hb=>?_)
  ·refine oH 1 (atN 4 (ctl1 i5p1)) ((12,.ptr 0 4 0) :: (11,.bool true) :: E1) (mkH [Q1,Q2]) ?_
   refine oX (fun (x0_4:(Bool × Int)) => .bool x0_4.1) (fun x0_4=>[⟨[.str a1,w34 a2,.i x0_4.2,.i a4],4,false⟩,Q2]) (atN 5 (ctl1 i5p1)) 13 [0] [] [] [] [] [.ptr 0 4 0,.str [99,97,116,99,104]] (qAg k ([99,97,116,99,104]:List Nat) a1 a2 a3 a4) trivial (fun _=>trivial) trivial fun x0_4 hx0_4=>?_
   refine oL 2 i5p2 [(0,.ptr 0 4 0),(1,.i a0),(4,.ptr 1 7 0),(14,.bool x0_4.1)] ?_
   exact hj8 (x0_4.1,x0_4.2)
  ·refine oLH 4 i5p2 [(0,.ptr 0 4 0),(1,.i a0),(4,.ptr 1 7 0),(14,.bool false)] (mkH [Q1,Q2]) ?_
   exact hj8 (false,a3)
theorem i5B_ok (k:Nat) (F:Fns0) (hF:FnsOk0 F):Pi5 (i5B k F):=fun a0 a1 a2 a3 a4=>⟨fun x h=>qNg k F hF a0 a1 a2 a3 a4 (some x) h,fun h=>⟨_,qNg k F hF a0 a1 a2 a3 a4 none h⟩⟩
def i50p1:Pt:=nav [0,0,0] (nav [0] (bodyAt Try.f110))
def i50p2:Pt:=nav [0,0,0,0,0] i50p1
def i50p3:Pt:=nav [0,0,0] i50p2
def i50p4:Pt:=nav [0,0] i50p3
def i50p5:Pt:=nav [1,0,0] i50p4
def i50d0:DP:=⟨[14],[(0,0,0),(1,0,1),(0,0,0),(4,0,0),(12,0,0),(31,0,0),(63,0,0),(127,0,0)],8,thrown,[],H0⟩
def qHz (k:Nat) (F:Fns0)  (a0:(List Nat)) (a1:(List S33)) (a2:Int) (a3:Int) (ih:Int → (List S28) → Option (Option (S28 × Int))):Int → (List S28) → Option (Option (S28 × Int)) :=
 fun (y3_0:Int) (y3_1:(List S28))=>bT (i7 k ([59]:List Nat) a0 a1 y3_0 a3) fun x1_1=>if x1_1.1 then (bT (F.i52 a0 a1 x1_1.2 a3) fun x2_3=>(appS 104 y3_1 ([x2_3.1]:List S28)).bind fun x2_5=>ih x2_3.2 x2_5) else (some (some ((⟨(24:Int),([]:List Nat),⟨(y3_1).length,(y3_1).flatMap e29⟩,false,false,([]:List (List Nat)),([]:List (List Nat))⟩:S28),x1_1.2)))
def qNk (k:Nat) (F:Fns0)  (a0:(List Nat)) (a1:(List S33)) (a2:Int) (a3:Int) (n:Nat):Int → (List S28) → Option (Option (S28 × Int)):=lp (fun _ _=>none) (qHz k F a0 a1 a2 a3) n
theorem qNj (k:Nat) (F:Fns0) (hF:FnsOk0 F) (a0:(List Nat)) (a1:(List S33)) (a2:Int) (a3:Int)    : ∀ (n:Nat) (y3_0:Int) (y3_1:(List S28)),Ok (Xi50 a0 a1 a2 a3) i50p2 [(0,.ptr 0 4 0),(2,.ptr 1 7 0),(3,.ptr 3 7 0)] (mkH [⟨[.str a0,w34 a1,.i y3_0,.i a3],4,false⟩,⟨[.i 0,.str [],.nils,.bool false,.bool false,.nils,.nils],0,false⟩,⟨(y3_1).flatMap e29,0,false⟩,⟨[.i 24,.str [],.own 2 (y3_1).length 7,.bool false,.bool false,.nils,.nils],7,false⟩]) (qNk k F a0 a1 a2 a3 n y3_0 y3_1):=by
 intro n
 induction n with
 | zero=>intro y3_0 y3_1; exact ok_none
 | succ n ih =>
  intro y3_0 y3_1
  show Ok _ _ _ _ (qHz k F a0 a1 a2 a3 (qNk k F a0 a1 a2 a3 n) y3_0 y3_1)
  unfold qHz
  refine qAf (p':=nav [0] i50p2) (by kernel_rfl) ?_
  let Q1:Blk:=⟨[.i 0,.str [],.nils,.bool false,.bool false,.nils,.nils],0,false⟩
  let Q2:Blk:=⟨(y3_1).flatMap e29,0,false⟩
  let Q3:Blk:=⟨[.i 24,.str [],.own 2 (y3_1).length 7,.bool false,.bool false,.nils,.nils],7,false⟩
  refine oH 4 (atN 1 (ctl1 i50p3)) [(8,.ptr 0 4 0),(0,.ptr 0 4 0),(2,.ptr 1 7 0),(3,.ptr 3 7 0)] (mkH [⟨[.str a0,w34 a1,.i y3_0,.i a3],4,false⟩,Q1,Q2,Q3]) ?_
  refine oX (fun (x1_1:(Bool × Int)) => .bool x1_1.1) (fun x1_1=>[⟨[.str a0,w34 a1,.i x1_1.2,.i a3],4,false⟩,Q1,Q2,Q3]) (atN 2 (ctl1 i50p3)) 9 [0] [] [] [3] [0,0,1] [.ptr 0 4 0,.str [59]] (qAg k ([59]:List Nat) a0 a1 y3_0 a3) trivial (fun _=>trivial) ⟨u29 _,trivial⟩ fun x1_1 hx1_1=>?_
  let E2:Env:=[(9,.bool x1_1.1),(8,.ptr 0 4 0),(0,.ptr 0 4 0),(2,.ptr 1 7 0),(3,.ptr 3 7 0)]
  refine oR 1 i50p4 E2 ?_
  refine oS 9 (fun hb=>?_) (fun hb=>?_)
  ·refine oR 3 i50p5 ((9,.bool true) :: E2) ?_
   refine qC6 (fun h=>?_) (fun x2_3 hx2_3=>?_)
   ·let E3:Env:=[(12,.ptr 0 4 0),(11,.own 2 (y3_1).length 7),(10,.ptr 3 7 2),(9,.bool true),(9,.bool x1_1.1),(8,.ptr 0 4 0),(0,.ptr 0 4 0),(2,.ptr 1 7 0),(3,.ptr 3 7 0)]
    let Q4:Blk:=⟨[.str a0,w34 a1,.i x1_1.2,.i a3],4,false⟩
    exact qAj (eE:=((16,.top) :: (15,.top) :: (14,.top) :: (13,.top) :: E3)) (i50d0.th 3 thrown [0,3] (mkH [Q4,Q1,Q2,Q3])) (hs:=[(mkH [Q4,Q1,Q2,Q3]),(mkH [Q4,Q1,Q2,Q3]),(mkH [Q4,Q1,Q2,Q3])]) (LX:=[⟨[.str a0,w34 a1,.i a2,.i a3],4,false⟩]) (L:=[Q4,Q1,Q2,Q3]) rfl rfl rfl (by kernel_rfl) rfl ⟨.inl rfl,trivial⟩ (by kernel_rfl) (by kernel_rfl) (by kernel_rfl) (by kernel_rfl) (qA8 3 (l':=(opsAt i50p5).toList.drop 3) (eE:=E3) (H':=(mkH [Q4,Q1,Q2,Q3])) (hs:=[]) (by kernel_rfl) (qAi (l':=(opsAt i50p5).toList.drop 4) (eE:=((13,.top) :: E3)) (hs:=[(mkH [Q4,Q1,Q2,Q3])]) (fi:=113) (args:=[.ptr 0 4 0]) (by kernel_rfl) (by kernel_rfl) (frS 0 (M:=[Q4,Q1,Q2,Q3]) (rs:=[0]) (ms:=[]) (mv:=[0,0,1]) (mm:=[0,0,1]) (D:=[0,3]) (xs':=[.ptr 0 4 0]) (.refl) ((hF.i52_ok a0 a1 x1_1.2 a3).2 h) trivial ⟨u29 _,trivial⟩ (by kernel_rfl)) (by kernel_rfl) (qA1 (l':=(opsAt i50p5).toList.drop 5) (eE:=((14,.top) :: (13,.top) :: E3)) (hs:=[]) (by kernel_rfl) (by kernel_rfl) (qA1 (l':=(opsAt i50p5).toList.drop 6) (eE:=((15,.top) :: (14,.top) :: (13,.top) :: E3)) (hs:=[(mkH [Q4,Q1,Q2,Q3])]) (by kernel_rfl) (by kernel_rfl) (qA1 (l':=(opsAt i50p5).toList.drop 7) (eE:=((16,.top) :: (15,.top) :: (14,.top) :: (13,.top) :: E3)) (hs:=[]) (by kernel_rfl) (by kernel_rfl) (qA1 (l':=(opsAt i50p5).toList.drop 8) (eE:=((16,.top) :: (15,.top) :: (14,.top) :: (13,.top) :: E3)) (hs:=[(mkH [Q4,Q1,Q2,Q3])]) (by kernel_rfl) (by kernel_rfl) (.nil))))))) (by kernel_rfl) (by kernel_rfl)
   ·refine qA7 (fun x2_5 hx2_5=>?_)
    let E3:Env:=[(12,.ptr 0 4 0),(11,.own 2 (y3_1).length 7),(10,.ptr 3 7 2),(9,.bool true),(9,.bool x1_1.1),(8,.ptr 0 4 0),(0,.ptr 0 4 0),(2,.ptr 1 7 0),(3,.ptr 3 7 0)]
    let Q5:Blk:=⟨[.str a0,w34 a1,.i x2_3.2,.i a3],4,false⟩
    refine oD (H':=(mkH [Q5,Q1,⟨(x2_5).flatMap e29,0,false⟩,⟨[.i 24,.str [],.own 2 (x2_5).length 7,.bool false,.bool false,.nils,.nils],7,false⟩])) (nav [0] i50p5) ((16,.ptr 3 7 2) :: (15,.own 2 (x2_5).length 7) :: (14,w29 ([x2_3.1]:List S28)) :: (13,n29 x2_3.1) :: E3) [(mkH [Q5,Q1,Q2,Q3]),(mkH [Q5,Q1,⟨(x2_5).flatMap e29,0,false⟩,Q3]),(mkH [Q5,Q1,⟨(x2_5).flatMap e29,0,false⟩,⟨[.i 24,.str [],.own 2 (x2_5).length 7,.bool false,.bool false,.nils,.nils],7,false⟩])] i50d0 (oDr 3 3 E3 (qA5 (l':=(opsAt i50p5).toList.drop 4) (eE:=((13,n29 x2_3.1) :: E3)) (hs:=[(mkH [Q5,Q1,Q2,Q3])]) (H':=(mkH [Q5,Q1,Q2,Q3])) (fi:=113) (args:=[.ptr 0 4 0]) (v:=n29 x2_3.1) (by kernel_rfl) (frC (rs:=[0]) (ms:=[]) (ms':=[]) ((hF.i52_ok a0 a1 x1_1.2 a3).1 x2_3 hx2_3) trivial trivial (by kernel_rfl)) (by kernel_rfl) (oDr 1 5 ((14,w29 ([x2_3.1]:List S28)) :: (13,n29 x2_3.1) :: E3) (qA9 (l':=(opsAt i50p5).toList.drop 6) (eE:=((15,.own 2 (x2_5).length 7) :: (14,w29 ([x2_3.1]:List S28)) :: (13,n29 x2_3.1) :: E3)) (hs:=[(mkH [Q5,Q1,⟨(x2_5).flatMap e29,0,false⟩,Q3])]) (x:=x2_5) (fun (x2_5:(List S28))=>(.own 2 (x2_5).length 7,(mkH [Q5,Q1,⟨(x2_5).flatMap e29,0,false⟩,Q3]))) (appHV (sz:=7) qA6 rfl qAu [Q5,Q1,Q2,Q3] 2 104 y3_1 ([x2_3.1]:List S28) rfl rfl (by kernel_rfl)) hx2_5 (by kernel_rfl) (oDh 2 8 ((16,.ptr 3 7 2) :: (15,.own 2 (x2_5).length 7) :: (14,w29 ([x2_3.1]:List S28)) :: (13,n29 x2_3.1) :: E3) (mkH [Q5,Q1,⟨(x2_5).flatMap e29,0,false⟩,⟨[.i 24,.str [],.own 2 (x2_5).length 7,.bool false,.bool false,.nils,.nils],7,false⟩]) [(mkH [Q5,Q1,⟨(x2_5).flatMap e29,0,false⟩,⟨[.i 24,.str [],.own 2 (x2_5).length 7,.bool false,.bool false,.nils,.nils],7,false⟩])] .nil))))) ?_
    refine oK [0,2,3] [(0,.ptr 0 4 0),(2,.ptr 1 7 0),(3,.ptr 3 7 0)] ?_
    exact ih x2_3.2 x2_5
  ·exact oQF 8 [⟨[.str a0,w34 a1,.i x1_1.2,.i a3],4,false⟩,Q3,Q2,Q3] 1 [] [.agg [.i 24,.str [],.own 2 (y3_1).length 7,.bool false,.bool false,.nils,.nils]] (.agg [.i 24,.str [],w29 y3_1,.bool false,.bool false,.vec 0 1 [],.vec 0 1 []]) (.agg (.cs (.cs (qAq qA6 qAe rfl rfl rfl (.cs (.cs (.nil (.nil .ps))))))) .ps) trivial
def i50B (k:Nat) (F:Fns0) (a0:(List Nat)) (a1:(List S33)) (a2:Int) (a3:Int):Option (Option (S28 × Int)) :=
 bT (F.i52 a0 a1 a2 a3) fun x0_1=>qNk k F a0 a1 a2 a3 k x0_1.2 ([x0_1.1]:List S28)
theorem qK (k:Nat) (F:Fns0) (hF:FnsOk0 F):∀ a0 a1 a2 a3 r,i50B k F a0 a1 a2 a3 = some r → CallT Try.prog 110 [.ptr 0 4 0] (mkH [⟨[.str a0,w34 a1,.i a2,.i a3],4,false⟩]) ((Xi50 a0 a1 a2 a3).thr r) ((Xi50 a0 a1 a2 a3).enc r) ((Xi50 a0 a1 a2 a3).fin r):=by
 intro a0 a1 a2 a3 r h
 refine qA2 (Xi50 a0 a1 a2 a3) Try.func110 (by kernel_rfl) (by kernel_rfl) rfl (t:=i50B k F a0 a1 a2 a3) ?_ h
 unfold i50B
 refine qA (eE:=[(0,.ptr 0 4 0)]) (by kernel_rfl) ?_
 let Q1:Blk:=⟨[.i 0,.str [],.nils,.bool false,.bool false,.nils,.nils],0,false⟩
 refine oH 7 (atN 1 (ctl1 i50p1)) [(4,.ptr 0 4 0),(2,.ptr 1 7 0),(0,.ptr 0 4 0)] (mkH [⟨[.str a0,w34 a1,.i a2,.i a3],4,false⟩,Q1]) ?_
 refine oX (fun (x0_1:(S28 × Int))=>n29 x0_1.1) (fun x0_1=>[⟨[.str a0,w34 a1,.i x0_1.2,.i a3],4,false⟩,Q1]) (atN 2 (ctl1 i50p1)) 5 [0] [] [] [0] [] [.ptr 0 4 0] (hF.i52_ok a0 a1 a2 a3) trivial (fun _=>trivial) trivial fun x0_1 hx0_1=>?_
 let Q2:Blk:=⟨[.str a0,w34 a1,.i x0_1.2,.i a3],4,false⟩
 refine oH 1 (atN 3 (ctl1 i50p1)) [(6,.slice 2 7 0 1 7),(5,n29 x0_1.1),(4,.ptr 0 4 0),(2,.ptr 1 7 0),(0,.ptr 0 4 0)] (mkH [Q2,Q1,⟨e29 x0_1.1,0,false⟩]) ?_
 refine qCp 6 2 7 1 7 (by kernel_rfl) rfl ?_
 refine oLH 7 i50p2 [(0,.ptr 0 4 0),(2,.ptr 1 7 0),(3,.ptr 3 7 0)] (mkH [Q2,Q1,⟨(([x0_1.1]:List S28)).flatMap e29,0,false⟩,⟨[.i 24,.str [],.own 2 (([x0_1.1]:List S28)).length 7,.bool false,.bool false,.nils,.nils],7,false⟩]) ?_
 exact (qNj k F hF a0 a1 a2 a3 k) x0_1.2 ([x0_1.1]:List S28)
theorem i50B_ok (k:Nat) (F:Fns0) (hF:FnsOk0 F):Pi50 (i50B k F):=fun a0 a1 a2 a3=>⟨fun x h=>qK k F hF a0 a1 a2 a3 (some x) h,fun h=>⟨_,qK k F hF a0 a1 a2 a3 none h⟩⟩
def i51p1:Pt:=nav [0,0,0] (nav [0] (bodyAt Try.f112))
def i51p2:Pt:=nav [0,0,0] i51p1
def i51B (k:Nat) (F:Fns0) (a0:(List Nat)) (a1:(List S33)) (a2:Int) (a3:Int):Option (Option (S28 × Int)) :=
 bT (i23 k ([40]:List Nat) a0 a1 a2 a3) fun x0_1=>bT (F.i18 (23:Int) ([]:List Nat) false false ([]:List (List Nat)) ([]:List (List Nat)) ([41]:List Nat) a0 a1 x0_1 a3 ([]:List S28)) fun x1_4=>some (some ((⟨x1_4.1,x1_4.2.1,⟨(x1_4.2.2.2.2.2.2.2).length,(x1_4.2.2.2.2.2.2.2).flatMap e29⟩,x1_4.2.2.1,x1_4.2.2.2.1,x1_4.2.2.2.2.1,x1_4.2.2.2.2.2.1⟩:S28),x1_4.2.2.2.2.2.2.1))
theorem qJz (k:Nat) (F:Fns0) (hF:FnsOk0 F):∀ a0 a1 a2 a3 r,i51B k F a0 a1 a2 a3 = some r → CallT Try.prog 112 [.ptr 0 4 0] (mkH [⟨[.str a0,w34 a1,.i a2,.i a3],4,false⟩]) ((Xi51 a0 a1 a2 a3).thr r) ((Xi51 a0 a1 a2 a3).enc r) ((Xi51 a0 a1 a2 a3).fin r):=by
 intro a0 a1 a2 a3 r h
 refine qA2 (Xi51 a0 a1 a2 a3) Try.func112 (by kernel_rfl) (by kernel_rfl) rfl (t:=i51B k F a0 a1 a2 a3) ?_ h
 unfold i51B
 refine qA (eE:=[(0,.ptr 0 4 0)]) (by kernel_rfl) ?_
 let Q1:Blk:=⟨[.i 0,.str [],.nils,.bool false,.bool false,.nils,.nils],0,false⟩
 refine oH 7 (atN 1 (ctl1 i51p1)) [(3,.ptr 0 4 0),(2,.ptr 1 7 0),(0,.ptr 0 4 0)] (mkH [⟨[.str a0,w34 a1,.i a2,.i a3],4,false⟩,Q1]) ?_
 refine oX (fun (x0_1:Int) => .tuple []) (fun x0_1=>[⟨[.str a0,w34 a1,.i x0_1,.i a3],4,false⟩,Q1]) (atN 2 (ctl1 i51p1)) 4 [0] [] [] [0] [] [.ptr 0 4 0,.str [40]] (qAt k ([40]:List Nat) a0 a1 a2 a3) trivial (fun _=>trivial) trivial fun x0_1 hx0_1=>?_
 refine oR 7 (atN 4 (ctl1 i51p2)) [(8,.func 78 [.ptr 0 4 0] []),(7,.ptr 0 4 0),(6,.agg [.i 23,.str [],.nils,.bool false,.bool false,.nils,.nils]),(5,.ptr 0 4 0),(4,.tuple []),(3,.ptr 0 4 0),(2,.ptr 1 7 0),(0,.ptr 0 4 0)] ?_
 refine oXW 1 [⟨[.str a0,w34 a1,.i x0_1,.i a3],4,false⟩,Q1,⟨(([]:List S28)).flatMap e29,0,false⟩] (fun (x1_4:Ri18) => .agg [.i x1_4.1,.str x1_4.2.1,.own 2 (x1_4.2.2.2.2.2.2.2).length 7,.bool x1_4.2.2.1,.bool x1_4.2.2.2.1,w9 x1_4.2.2.2.2.1,w9 x1_4.2.2.2.2.2.1]) (fun x1_4=>[⟨[.str a0,w34 a1,.i x1_4.2.2.2.2.2.2.1,.i a3],4,false⟩,Q1,⟨(x1_4.2.2.2.2.2.2.2).flatMap e29,0,false⟩]) (atN 5 (ctl1 i51p2)) 9 [0,2] [0,1] [0,1] [0,2] [] [0,0,1] [.ptr 0 4 0,.agg [.i 23,.str [],.nils,.bool false,.bool false,.nils,.nils],.str [41],.func 78 [.ptr 0 4 0] []] [.ptr 0 4 0,.agg [.i 23,.str [],.own 2 (([]:List S28)).length 7,.bool false,.bool false,w9 ([]:List (List Nat)),w9 ([]:List (List Nat))],.str [41],.func 78 [.ptr 0 4 0] []] (.cons (.agg (.cons (.cons (.none (.cons (.cons (.nil (.nil (.refl)))))))) (.refl))) (hF.i18_ok (23:Int) ([]:List Nat) false false ([]:List (List Nat)) ([]:List (List Nat)) ([41]:List Nat) a0 a1 x0_1 a3 ([]:List S28)) ⟨u29 _,trivial⟩ (fun _=>⟨u29 _,trivial⟩) trivial fun x1_4 hx1_4=>?_
 exact oQF 3 [⟨[.str a0,w34 a1,.i x1_4.2.2.2.2.2.2.1,.i a3],4,false⟩,⟨[.i x1_4.1,.str x1_4.2.1,.own 2 (x1_4.2.2.2.2.2.2.2).length 7,.bool x1_4.2.2.1,.bool x1_4.2.2.2.1,w9 x1_4.2.2.2.2.1,w9 x1_4.2.2.2.2.2.1],7,false⟩,⟨(x1_4.2.2.2.2.2.2.2).flatMap e29,0,false⟩] 1 [] [.agg [.i x1_4.1,.str x1_4.2.1,.own 2 (x1_4.2.2.2.2.2.2.2).length 7,.bool x1_4.2.2.1,.bool x1_4.2.2.2.1,w9 x1_4.2.2.2.2.1,w9 x1_4.2.2.2.2.2.1]] (.agg [.i x1_4.1,.str x1_4.2.1,w29 x1_4.2.2.2.2.2.2.2,.bool x1_4.2.2.1,.bool x1_4.2.2.2.1,w9 x1_4.2.2.2.2.1,w9 x1_4.2.2.2.2.2.1]) (.agg (.cs (.cs (qAq qA6 qAe rfl rfl rfl .ps))) .ps) trivial
theorem i51B_ok (k:Nat) (F:Fns0) (hF:FnsOk0 F):Pi51 (i51B k F):=fun a0 a1 a2 a3=>⟨fun x h=>qJz k F hF a0 a1 a2 a3 (some x) h,fun h=>⟨_,qJz k F hF a0 a1 a2 a3 none h⟩⟩
def i52p1:Pt:=nav [0,0,0] (nav [0] (bodyAt Try.f113))
def i52p2:Pt:=nav [0,0,0,0,0] i52p1
def i52p3:Pt:=nav [0,0,0] i52p2
def i52p4:Pt:=nav [0,0] i52p3
def i52p5:Pt:=nav [1,0,0] i52p4
def i52d0:DP:=⟨[14],[(0,0,0),(1,0,1),(0,0,0),(4,0,0),(12,0,0),(31,0,0),(63,0,0),(127,0,0)],8,thrown,[],H0⟩
def qHy (k:Nat) (F:Fns0)  (a0:(List Nat)) (a1:(List S33)) (a2:Int) (a3:Int) (ih:Int → (List S28) → Option (Option (S28 × Int))):Int → (List S28) → Option (Option (S28 × Int)) :=
 fun (y3_0:Int) (y3_1:(List S28))=>bT (i7 k ([44]:List Nat) a0 a1 y3_0 a3) fun x1_1=>if x1_1.1 then (bT (F.i5 (1:Int) a0 a1 x1_1.2 a3) fun x2_3=>(appS 104 y3_1 ([x2_3.1]:List S28)).bind fun x2_5=>ih x2_3.2 x2_5) else (some (some ((⟨(25:Int),([]:List Nat),⟨(y3_1).length,(y3_1).flatMap e29⟩,false,false,([]:List (List Nat)),([]:List (List Nat))⟩:S28),x1_1.2)))
def qNi (k:Nat) (F:Fns0)  (a0:(List Nat)) (a1:(List S33)) (a2:Int) (a3:Int) (n:Nat):Int → (List S28) → Option (Option (S28 × Int)):=lp (fun _ _=>none) (qHy k F a0 a1 a2 a3) n
theorem qNh (k:Nat) (F:Fns0) (hF:FnsOk0 F) (a0:(List Nat)) (a1:(List S33)) (a2:Int) (a3:Int)    : ∀ (n:Nat) (y3_0:Int) (y3_1:(List S28)),Ok (Xi52 a0 a1 a2 a3) i52p2 [(0,.ptr 0 4 0),(2,.ptr 1 7 0),(3,.ptr 3 7 0)] (mkH [⟨[.str a0,w34 a1,.i y3_0,.i a3],4,false⟩,⟨[.i 0,.str [],.nils,.bool false,.bool false,.nils,.nils],0,false⟩,⟨(y3_1).flatMap e29,0,false⟩,⟨[.i 25,.str [],.own 2 (y3_1).length 7,.bool false,.bool false,.nils,.nils],7,false⟩]) (qNi k F a0 a1 a2 a3 n y3_0 y3_1):=by
 intro n
 induction n with
 | zero=>intro y3_0 y3_1; exact ok_none
 | succ n ih =>
  intro y3_0 y3_1
  show Ok _ _ _ _ (qHy k F a0 a1 a2 a3 (qNi k F a0 a1 a2 a3 n) y3_0 y3_1)
  unfold qHy
  refine qAf (p':=nav [0] i52p2) (by kernel_rfl) ?_
  let Q1:Blk:=⟨[.i 0,.str [],.nils,.bool false,.bool false,.nils,.nils],0,false⟩
  let Q2:Blk:=⟨(y3_1).flatMap e29,0,false⟩
  let Q3:Blk:=⟨[.i 25,.str [],.own 2 (y3_1).length 7,.bool false,.bool false,.nils,.nils],7,false⟩
  refine oH 4 (atN 1 (ctl1 i52p3)) [(8,.ptr 0 4 0),(0,.ptr 0 4 0),(2,.ptr 1 7 0),(3,.ptr 3 7 0)] (mkH [⟨[.str a0,w34 a1,.i y3_0,.i a3],4,false⟩,Q1,Q2,Q3]) ?_
  refine oX (fun (x1_1:(Bool × Int)) => .bool x1_1.1) (fun x1_1=>[⟨[.str a0,w34 a1,.i x1_1.2,.i a3],4,false⟩,Q1,Q2,Q3]) (atN 2 (ctl1 i52p3)) 9 [0] [] [] [3] [0,0,1] [.ptr 0 4 0,.str [44]] (qAg k ([44]:List Nat) a0 a1 y3_0 a3) trivial (fun _=>trivial) ⟨u29 _,trivial⟩ fun x1_1 hx1_1=>?_
  let E2:Env:=[(9,.bool x1_1.1),(8,.ptr 0 4 0),(0,.ptr 0 4 0),(2,.ptr 1 7 0),(3,.ptr 3 7 0)]
  refine oR 1 i52p4 E2 ?_
  refine oS 9 (fun hb=>?_) (fun hb=>?_)
  ·refine oR 3 i52p5 ((9,.bool true) :: E2) ?_
   refine qC6 (fun h=>?_) (fun x2_3 hx2_3=>?_)
   ·let E3:Env:=[(12,.ptr 0 4 0),(11,.own 2 (y3_1).length 7),(10,.ptr 3 7 2),(9,.bool true),(9,.bool x1_1.1),(8,.ptr 0 4 0),(0,.ptr 0 4 0),(2,.ptr 1 7 0),(3,.ptr 3 7 0)]
    let Q4:Blk:=⟨[.str a0,w34 a1,.i x1_1.2,.i a3],4,false⟩
    exact qAj (eE:=((16,.top) :: (15,.top) :: (14,.top) :: (13,.top) :: E3)) (i52d0.th 3 thrown [0,3] (mkH [Q4,Q1,Q2,Q3])) (hs:=[(mkH [Q4,Q1,Q2,Q3]),(mkH [Q4,Q1,Q2,Q3]),(mkH [Q4,Q1,Q2,Q3])]) (LX:=[⟨[.str a0,w34 a1,.i a2,.i a3],4,false⟩]) (L:=[Q4,Q1,Q2,Q3]) rfl rfl rfl (by kernel_rfl) rfl ⟨.inl rfl,trivial⟩ (by kernel_rfl) (by kernel_rfl) (by kernel_rfl) (by kernel_rfl) (qA8 3 (l':=(opsAt i52p5).toList.drop 3) (eE:=E3) (H':=(mkH [Q4,Q1,Q2,Q3])) (hs:=[]) (by kernel_rfl) (qAi (l':=(opsAt i52p5).toList.drop 4) (eE:=((13,.top) :: E3)) (hs:=[(mkH [Q4,Q1,Q2,Q3])]) (fi:=29) (args:=[.ptr 0 4 0,.i 1]) (by kernel_rfl) (by kernel_rfl) (frS 0 (M:=[Q4,Q1,Q2,Q3]) (rs:=[0]) (ms:=[]) (mv:=[0,0,1]) (mm:=[0,0,1]) (D:=[0,3]) (xs':=[.ptr 0 4 0,.i 1]) (.refl) ((hF.i5_ok (1:Int) a0 a1 x1_1.2 a3).2 h) trivial ⟨u29 _,trivial⟩ (by kernel_rfl)) (by kernel_rfl) (qA1 (l':=(opsAt i52p5).toList.drop 5) (eE:=((14,.top) :: (13,.top) :: E3)) (hs:=[]) (by kernel_rfl) (by kernel_rfl) (qA1 (l':=(opsAt i52p5).toList.drop 6) (eE:=((15,.top) :: (14,.top) :: (13,.top) :: E3)) (hs:=[(mkH [Q4,Q1,Q2,Q3])]) (by kernel_rfl) (by kernel_rfl) (qA1 (l':=(opsAt i52p5).toList.drop 7) (eE:=((16,.top) :: (15,.top) :: (14,.top) :: (13,.top) :: E3)) (hs:=[]) (by kernel_rfl) (by kernel_rfl) (qA1 (l':=(opsAt i52p5).toList.drop 8) (eE:=((16,.top) :: (15,.top) :: (14,.top) :: (13,.top) :: E3)) (hs:=[(mkH [Q4,Q1,Q2,Q3])]) (by kernel_rfl) (by kernel_rfl) (.nil))))))) (by kernel_rfl) (by kernel_rfl)
   ·refine qA7 (fun x2_5 hx2_5=>?_)
    let E3:Env:=[(12,.ptr 0 4 0),(11,.own 2 (y3_1).length 7),(10,.ptr 3 7 2),(9,.bool true),(9,.bool x1_1.1),(8,.ptr 0 4 0),(0,.ptr 0 4 0),(2,.ptr 1 7 0),(3,.ptr 3 7 0)]
    let Q5:Blk:=⟨[.str a0,w34 a1,.i x2_3.2,.i a3],4,false⟩
    refine oD (H':=(mkH [Q5,Q1,⟨(x2_5).flatMap e29,0,false⟩,⟨[.i 25,.str [],.own 2 (x2_5).length 7,.bool false,.bool false,.nils,.nils],7,false⟩])) (nav [0] i52p5) ((16,.ptr 3 7 2) :: (15,.own 2 (x2_5).length 7) :: (14,w29 ([x2_3.1]:List S28)) :: (13,n29 x2_3.1) :: E3) [(mkH [Q5,Q1,Q2,Q3]),(mkH [Q5,Q1,⟨(x2_5).flatMap e29,0,false⟩,Q3]),(mkH [Q5,Q1,⟨(x2_5).flatMap e29,0,false⟩,⟨[.i 25,.str [],.own 2 (x2_5).length 7,.bool false,.bool false,.nils,.nils],7,false⟩])] i52d0 (oDr 3 3 E3 (qA5 (l':=(opsAt i52p5).toList.drop 4) (eE:=((13,n29 x2_3.1) :: E3)) (hs:=[(mkH [Q5,Q1,Q2,Q3])]) (H':=(mkH [Q5,Q1,Q2,Q3])) (fi:=29) (args:=[.ptr 0 4 0,.i 1]) (v:=n29 x2_3.1) (by kernel_rfl) (frC (rs:=[0]) (ms:=[]) (ms':=[]) ((hF.i5_ok (1:Int) a0 a1 x1_1.2 a3).1 x2_3 hx2_3) trivial trivial (by kernel_rfl)) (by kernel_rfl) (oDr 1 5 ((14,w29 ([x2_3.1]:List S28)) :: (13,n29 x2_3.1) :: E3) (qA9 (l':=(opsAt i52p5).toList.drop 6) (eE:=((15,.own 2 (x2_5).length 7) :: (14,w29 ([x2_3.1]:List S28)) :: (13,n29 x2_3.1) :: E3)) (hs:=[(mkH [Q5,Q1,⟨(x2_5).flatMap e29,0,false⟩,Q3])]) (x:=x2_5) (fun (x2_5:(List S28))=>(.own 2 (x2_5).length 7,(mkH [Q5,Q1,⟨(x2_5).flatMap e29,0,false⟩,Q3]))) (appHV (sz:=7) qA6 rfl qAu [Q5,Q1,Q2,Q3] 2 104 y3_1 ([x2_3.1]:List S28) rfl rfl (by kernel_rfl)) hx2_5 (by kernel_rfl) (oDh 2 8 ((16,.ptr 3 7 2) :: (15,.own 2 (x2_5).length 7) :: (14,w29 ([x2_3.1]:List S28)) :: (13,n29 x2_3.1) :: E3) (mkH [Q5,Q1,⟨(x2_5).flatMap e29,0,false⟩,⟨[.i 25,.str [],.own 2 (x2_5).length 7,.bool false,.bool false,.nils,.nils],7,false⟩]) [(mkH [Q5,Q1,⟨(x2_5).flatMap e29,0,false⟩,⟨[.i 25,.str [],.own 2 (x2_5).length 7,.bool false,.bool false,.nils,.nils],7,false⟩])] .nil))))) ?_
    refine oK [0,2,3] [(0,.ptr 0 4 0),(2,.ptr 1 7 0),(3,.ptr 3 7 0)] ?_
    exact ih x2_3.2 x2_5
  ·exact oQF 8 [⟨[.str a0,w34 a1,.i x1_1.2,.i a3],4,false⟩,Q3,Q2,Q3] 1 [] [.agg [.i 25,.str [],.own 2 (y3_1).length 7,.bool false,.bool false,.nils,.nils]] (.agg [.i 25,.str [],w29 y3_1,.bool false,.bool false,.vec 0 1 [],.vec 0 1 []]) (.agg (.cs (.cs (qAq qA6 qAe rfl rfl rfl (.cs (.cs (.nil (.nil .ps))))))) .ps) trivial
def i52B (k:Nat) (F:Fns0) (a0:(List Nat)) (a1:(List S33)) (a2:Int) (a3:Int):Option (Option (S28 × Int)) :=
 bT (F.i5 (1:Int) a0 a1 a2 a3) fun x0_1=>qNi k F a0 a1 a2 a3 k x0_1.2 ([x0_1.1]:List S28)
theorem qJy (k:Nat) (F:Fns0) (hF:FnsOk0 F):∀ a0 a1 a2 a3 r,i52B k F a0 a1 a2 a3 = some r → CallT Try.prog 113 [.ptr 0 4 0] (mkH [⟨[.str a0,w34 a1,.i a2,.i a3],4,false⟩]) ((Xi52 a0 a1 a2 a3).thr r) ((Xi52 a0 a1 a2 a3).enc r) ((Xi52 a0 a1 a2 a3).fin r):=by
 intro a0 a1 a2 a3 r h
 refine qA2 (Xi52 a0 a1 a2 a3) Try.func113 (by kernel_rfl) (by kernel_rfl) rfl (t:=i52B k F a0 a1 a2 a3) ?_ h
 unfold i52B
 refine qA (eE:=[(0,.ptr 0 4 0)]) (by kernel_rfl) ?_
 let Q1:Blk:=⟨[.i 0,.str [],.nils,.bool false,.bool false,.nils,.nils],0,false⟩
 refine oH 7 (atN 1 (ctl1 i52p1)) [(4,.ptr 0 4 0),(2,.ptr 1 7 0),(0,.ptr 0 4 0)] (mkH [⟨[.str a0,w34 a1,.i a2,.i a3],4,false⟩,Q1]) ?_
 refine oX (fun (x0_1:(S28 × Int))=>n29 x0_1.1) (fun x0_1=>[⟨[.str a0,w34 a1,.i x0_1.2,.i a3],4,false⟩,Q1]) (atN 2 (ctl1 i52p1)) 5 [0] [] [] [0] [] [.ptr 0 4 0,.i 1] (hF.i5_ok (1:Int) a0 a1 a2 a3) trivial (fun _=>trivial) trivial fun x0_1 hx0_1=>?_
 let Q2:Blk:=⟨[.str a0,w34 a1,.i x0_1.2,.i a3],4,false⟩
 refine oH 1 (atN 3 (ctl1 i52p1)) [(6,.slice 2 7 0 1 7),(5,n29 x0_1.1),(4,.ptr 0 4 0),(2,.ptr 1 7 0),(0,.ptr 0 4 0)] (mkH [Q2,Q1,⟨e29 x0_1.1,0,false⟩]) ?_
 refine qCp 6 2 7 1 7 (by kernel_rfl) rfl ?_
 refine oLH 7 i52p2 [(0,.ptr 0 4 0),(2,.ptr 1 7 0),(3,.ptr 3 7 0)] (mkH [Q2,Q1,⟨(([x0_1.1]:List S28)).flatMap e29,0,false⟩,⟨[.i 25,.str [],.own 2 (([x0_1.1]:List S28)).length 7,.bool false,.bool false,.nils,.nils],7,false⟩]) ?_
 exact (qNh k F hF a0 a1 a2 a3 k) x0_1.2 ([x0_1.1]:List S28)
theorem i52B_ok (k:Nat) (F:Fns0) (hF:FnsOk0 F):Pi52 (i52B k F):=fun a0 a1 a2 a3=>⟨fun x h=>qJy k F hF a0 a1 a2 a3 (some x) h,fun h=>⟨_,qJy k F hF a0 a1 a2 a3 none h⟩⟩
def i6p2:Pt:=nav [0,0,0,0,0] (nav [0,0,0,0] (nav [0] (bodyAt Try.f35)))
def i6p3:Pt:=nav [0,0] i6p2
def i6p4:Pt:=nav [0,0,0] i6p3
def i6p6:Pt:=nav [0,0,0] (nav [0,0,0] i6p4)
def i6p7:Pt:=nav [0,0,0,0] i6p6
def i6d0:DP:=⟨[],[(0,0,0),(1,0,0),(3,0,0),(7,0,0),(15,0,0),(31,0,0),(63,0,0),(127,0,0),(255,0,0),(31,0,0),(543,0,0),(1567,0,0),(3615,0,0),(31,0,0),(8223,0,0),(24607,0,0),(57375,0,0),(131071,0,0),(262143,0,0),(524287,0,0)],20,thrown,[],H0⟩
def qH4 (k:Nat) (F:Fns0)  (a0:(List Nat)) (a1:(List S33)) (a3:Int) (ih:Int → (List S28) → Option (Option (S28 × Int))):Int → (List S28) → Option (Option (S28 × Int)) :=
 fun (y5_0:Int) (y5_1:(List S28))=>jn (fun (z6:Bool × Int × (List S28))=>(i12 k a0 a1 z6.2.1 a3).bind fun x1_1=>bT (F.i5 (0:Int) a0 a1 x1_1.2 a3) fun x2_1=>(appS 104 z6.2.2 ([(⟨x2_1.1.f0,x2_1.1.f1,x2_1.1.f2,x2_1.1.f3,z6.1,x1_1.1,x2_1.1.f6⟩:S28)]:List S28)).bind fun x3_4=>bT (i7 k ([44]:List Nat) a0 a1 x2_1.2 a3) fun x4_1=>if x4_1.1 then (ih x4_1.2 x3_4) else (some (some ((⟨(25:Int),([]:List Nat),⟨(x3_4).length,(x3_4).flatMap e29⟩,false,false,([]:List (List Nat)),([]:List (List Nat))⟩:S28),x4_1.2)))) (fun j6=>if (decide (0 < (y5_1.length:Int))) then ((g57 k a0 a1 y5_0).bind fun x0_17=>j6 (x0_17,y5_0,y5_1)) else (j6 (false,y5_0,y5_1)))
def qNd (k:Nat) (F:Fns0)  (a0:(List Nat)) (a1:(List S33)) (a3:Int) (n:Nat):Int → (List S28) → Option (Option (S28 × Int)):=lp (fun _ _=>none) (qH4 k F a0 a1 a3) n
theorem i6_l5_ok (k:Nat) (F:Fns0) (hF:FnsOk0 F) (a0:(List Nat)) (a1:(List S33)) (a2:Int) (a3:Int)    : ∀ (n:Nat) (y5_0:Int) (y5_1:(List S28)),Ok (Xi6 a0 a1 a2 a3) i6p2 [(0,.ptr 0 4 0),(2,.ptr 1 7 0),(3,.ptr 2 7 0)] (mkH [⟨[.str a0,w34 a1,.i y5_0,.i a3],4,false⟩,⟨[.i 0,.str [],.nils,.bool false,.bool false,.nils,.nils],0,false⟩,⟨[.i 25,.str [],.own 3 (y5_1).length 7,.bool false,.bool false,.nils,.nils],7,false⟩,⟨(y5_1).flatMap e29,0,false⟩]) (qNd k F a0 a1 a3 n y5_0 y5_1):=by
 intro n
 induction n with
 | zero=>intro y5_0 y5_1; exact ok_none
 | succ n ih =>
  intro y5_0 y5_1
  show Ok _ _ _ _ (qH4 k F a0 a1 a3 (qNd k F a0 a1 a3 n) y5_0 y5_1)
  unfold qH4
  let Q1:Blk:=⟨[.i 0,.str [],.nils,.bool false,.bool false,.nils,.nils],0,false⟩
  refine oJ i6p3 (fun (z6:Bool × Int × (List S28))=>[(0,.ptr 0 4 0),(2,.ptr 1 7 0),(3,.ptr 2 7 0),(4,.bool z6.1)]) (fun (z6:Bool × Int × (List S28))=>(mkH [⟨[.str a0,w34 a1,.i z6.2.1,.i a3],4,false⟩,Q1,⟨[.i 25,.str [],.own 3 (z6.2.2).length 7,.bool false,.bool false,.nils,.nils],7,false⟩,⟨(z6.2.2).flatMap e29,0,false⟩])) (fun z6=>?_) (fun j6 hj6=>?_)
  ·let E1:Env:=[(27,.ptr 0 4 0),(0,.ptr 0 4 0),(2,.ptr 1 7 0),(3,.ptr 2 7 0),(4,.bool z6.1)]
   let Q2:Blk:=⟨[.i 25,.str [],.own 3 (z6.2.2).length 7,.bool false,.bool false,.nils,.nils],7,false⟩
   let Q3:Blk:=⟨(z6.2.2).flatMap e29,0,false⟩
   refine oH 2 (atN 1 (ctl1 i6p3)) E1 (mkH [⟨[.str a0,w34 a1,.i z6.2.1,.i a3],4,false⟩,Q1,Q2,Q3]) ?_
   refine oN (fun (x1_1:Ri12)=>w9 x1_1.1) (fun x1_1=>[⟨[.str a0,w34 a1,.i x1_1.2,.i a3],4,false⟩,Q1,Q2,Q3]) (atN 2 (ctl1 i6p3)) 28 [0] [] [] [.ptr 0 4 0] (qAh k a0 a1 z6.2.1 a3) trivial (fun _=>trivial) fun x1_1 hx1_1=>?_
   refine oR 5 (atN 1 (ctl1 i6p4)) ((29,.ptr 0 4 0) :: (5,w9 x1_1.1) :: (28,w9 x1_1.1) :: E1) ?_
   refine oX (fun (x2_1:(S28 × Int))=>n29 x2_1.1) (fun x2_1=>[⟨[.str a0,w34 a1,.i x2_1.2,.i a3],4,false⟩,Q1,Q2,Q3]) (atN 2 (ctl1 i6p4)) 30 [0] [] [] [0,2] [0,0,0,1] [.ptr 0 4 0,.i 0] (hF.i5_ok (0:Int) a0 a1 x1_1.2 a3) trivial (fun _=>trivial) ⟨u29 _,trivial⟩ fun x2_1 hx2_1=>?_
   let E3:Env:=[(0,.ptr 0 4 0),(2,.ptr 1 7 0),(3,.ptr 2 7 0),(6,.ptr 4 7 0)]
   let Q4:Blk:=⟨[.str a0,w34 a1,.i x2_1.2,.i a3],4,false⟩
   let Q5:Blk:=⟨[.i x2_1.1.f0,.str x2_1.1.f1,q29 x2_1.1.f2,.bool x2_1.1.f3,.bool z6.1,w9 x1_1.1,w9 x2_1.1.f6],7,false⟩
   refine oLH 13 i6p6 E3 (mkH [Q4,Q1,Q2,Q3,Q5]) ?_
   let Q6:Blk:=⟨[.i x2_1.1.f0,.str x2_1.1.f1,q29 x2_1.1.f2,.bool x2_1.1.f3,.bool z6.1,w9 x1_1.1,w9 x2_1.1.f6],0,false⟩
   refine oH 5 (atN 4 (ctl1 i6p6)) ((38,.slice 5 7 0 1 7) :: (37,.agg [.i x2_1.1.f0,.str x2_1.1.f1,q29 x2_1.1.f2,.bool x2_1.1.f3,.bool z6.1,w9 x1_1.1,w9 x2_1.1.f6]) :: (36,.own 3 (z6.2.2).length 7) :: (35,.ptr 2 7 2) :: E3) (mkH [Q4,Q1,Q2,Q3,Q5,Q6]) ?_
   refine oC (fun (x3_4:(List S28))=>(.own 3 (x3_4).length 7,(mkH [Q4,Q1,Q2,⟨(x3_4).flatMap e29,0,false⟩,Q5,Q6]))) (atN 5 (ctl1 i6p6)) 39 (appH (sz:=7) qA6 rfl qAu [Q4,Q1,Q2,Q3,Q5,Q6] 3 104 z6.2.2 ([(⟨x2_1.1.f0,x2_1.1.f1,x2_1.1.f2,x2_1.1.f3,z6.1,x1_1.1,x2_1.1.f6⟩:S28)]:List S28) rfl rfl (by kernel_rfl)) fun x3_4 hx3_4=>?_
   let E5:Env:=[(0,.ptr 0 4 0),(2,.ptr 1 7 0),(3,.ptr 2 7 0)]
   let Q7:Blk:=⟨[.i 25,.str [],.own 3 (x3_4).length 7,.bool false,.bool false,.nils,.nils],7,false⟩
   let Q8:Blk:=⟨(x3_4).flatMap e29,0,false⟩
   refine oLH 5 i6p7 E5 (mkH [Q4,Q1,Q7,Q8,Q5,Q6]) ?_
   refine oR 2 (atN 1 (ctl1 i6p7)) ((41,.ptr 0 4 0) :: E5) ?_
   refine oX (fun (x4_1:(Bool × Int)) => .bool x4_1.1) (fun x4_1=>[⟨[.str a0,w34 a1,.i x4_1.2,.i a3],4,false⟩,Q1,Q7,Q8,Q5,Q6]) (atN 2 (ctl1 i6p7)) 42 [0] [] [] [2] [0,0,0,1] [.ptr 0 4 0,.str [44]] (qAg k ([44]:List Nat) a0 a1 x2_1.2 a3) trivial (fun _=>trivial) ⟨u29 _,trivial⟩ fun x4_1 hx4_1=>?_
   refine oR 1 (nav [0,0] i6p7) ((42,.bool x4_1.1) :: (41,.ptr 0 4 0) :: E5) ?_
   refine oS 42 (fun hb=>?_) (fun hb=>?_)
   ·refine oL 5 i6p2 [(0,.ptr 0 4 0),(2,.ptr 1 7 0),(3,.ptr 2 7 0)] ?_
    refine qAa [⟨[.str a0,w34 a1,.i x4_1.2,.i a3],4,false⟩,Q1,Q7,Q8] [Q5,Q6] (by kernel_rfl) rfl (by kernel_rfl) ⟨(by kernel_rfl),⟨(by kernel_rfl),⟨(by kernel_rfl),⟨(qA3 _ (u29 _)),trivial⟩⟩⟩⟩ ?_
    exact ih x4_1.2 x3_4
   ·exact oQF 8 [⟨[.str a0,w34 a1,.i x4_1.2,.i a3],4,false⟩,Q7,Q7,Q8,Q5,Q6] 1 [] [.agg [.i 25,.str [],.own 3 (x3_4).length 7,.bool false,.bool false,.nils,.nils]] (.agg [.i 25,.str [],w29 x3_4,.bool false,.bool false,.vec 0 1 [],.vec 0 1 []]) (.agg (.cs (.cs (qAq qA6 qAe rfl rfl rfl (.cs (.cs (.nil (.nil .ps))))))) .ps) trivial
  ·refine qEr (fun hb7=>?_) (fun hb7=>?_)
   ·refine qA7 (fun x0_17 hx0_17=>?_)
    let E7:Env:=[(12,.bool (decide (0 < (y5_1.length:Int)))),(11,.bool (decide (0 < (y5_1.length:Int)))),(10,.i (y5_1.length:Int)),(9,.own 3 (y5_1).length 7),(8,.ptr 2 7 2),(0,.ptr 0 4 0),(2,.ptr 1 7 0),(3,.ptr 2 7 0)]
    let E8:Env:=[(24,.i y5_0),(23,.ptr 0 4 2),(22,.ptr 0 4 0),(21,.ptr 0 4 0),(20,w34 a1),(19,.ptr 0 4 1),(18,.ptr 0 4 0),(17,.ptr 0 4 0),(16,.str a0),(15,.ptr 0 4 0),(14,.ptr 0 4 0),(13,.ptr 0 4 0),(12,.bool true),(11,.bool true),(10,.i (y5_1.length:Int)),(9,.own 3 (y5_1).length 7),(8,.ptr 2 7 2),(0,.ptr 0 4 0),(2,.ptr 1 7 0),(3,.ptr 2 7 0)]
    let Q9:Blk:=⟨[.str a0,w34 a1,.i y5_0,.i a3],4,false⟩
    let Q10:Blk:=⟨[.i 25,.str [],.own 3 (y5_1).length 7,.bool false,.bool false,.nils,.nils],7,false⟩
    let Q11:Blk:=⟨(y5_1).flatMap e29,0,false⟩
    refine oD (H':=(mkH [Q9,Q1,Q10,Q11])) (nav [0] i6p2) ((4,.bool x0_17) :: (26,.bool x0_17) :: (25,.bool x0_17) :: E8) [(mkH [Q9,Q1,Q10,Q11])] i6d0 (oDr 5 5 E7 (oDe (fun z=>[(12,.bool z),(11,.bool z),(10,.i (y5_1.length:Int)),(9,.own 3 (y5_1).length 7),(8,.ptr 2 7 2),(0,.ptr 0 4 0),(2,.ptr 1 7 0),(3,.ptr 2 7 0)]) hb7 (oDr 12 17 E8 (qAn (l':=(opsAt i6p2).toList.drop 18) (eE:=((25,.bool x0_17) :: E8)) (hs:=[(mkH [Q9,Q1,Q10,Q11])]) (fi:=57) (args:=[.str a0,w34 a1,.i y5_0]) (v := .bool x0_17) (by kernel_rfl) (by kernel_rfl) (by kernel_rfl) (g57_ok k a0 a1 y5_0 x0_17 hx0_17) (by kernel_rfl) (oDr 2 20 ((4,.bool x0_17) :: (26,.bool x0_17) :: (25,.bool x0_17) :: E8) .nil))))) ?_
    refine oL 1 i6p3 [(0,.ptr 0 4 0),(2,.ptr 1 7 0),(3,.ptr 2 7 0),(4,.bool x0_17)] ?_
    exact hj6 (x0_17,y5_0,y5_1)
   ·let E7:Env:=[(12,.bool (decide (0 < (y5_1.length:Int)))),(11,.bool (decide (0 < (y5_1.length:Int)))),(10,.i (y5_1.length:Int)),(9,.own 3 (y5_1).length 7),(8,.ptr 2 7 2),(0,.ptr 0 4 0),(2,.ptr 1 7 0),(3,.ptr 2 7 0)]
    let E10:Env:=[(4,.bool false),(26,.bool false),(25,.tuple []),(24,.tuple []),(23,.tuple []),(22,.tuple []),(21,.tuple []),(20,.tuple []),(19,.tuple []),(18,.tuple []),(17,.tuple []),(16,.tuple []),(15,.tuple []),(14,.tuple []),(13,.tuple []),(12,.bool false),(11,.bool false),(10,.i (y5_1.length:Int)),(9,.own 3 (y5_1).length 7),(8,.ptr 2 7 2),(0,.ptr 0 4 0),(2,.ptr 1 7 0),(3,.ptr 2 7 0)]
    let Q12:Blk:=⟨[.str a0,w34 a1,.i y5_0,.i a3],4,false⟩
    let Q13:Blk:=⟨[.i 25,.str [],.own 3 (y5_1).length 7,.bool false,.bool false,.nils,.nils],7,false⟩
    let Q14:Blk:=⟨(y5_1).flatMap e29,0,false⟩
    refine oD (H':=(mkH [Q12,Q1,Q13,Q14])) (nav [0] i6p2) E10 [(mkH [Q12,Q1,Q13,Q14])] i6d0 (oDr 5 5 E7 (oDe (fun z=>[(12,.bool z),(11,.bool z),(10,.i (y5_1.length:Int)),(9,.own 3 (y5_1).length 7),(8,.ptr 2 7 2),(0,.ptr 0 4 0),(2,.ptr 1 7 0),(3,.ptr 2 7 0)]) hb7 (oDh 15 20 E10 (mkH [Q12,Q1,Q13,Q14]) [(mkH [Q12,Q1,Q13,Q14])] .nil))) ?_
    refine oL 1 i6p3 [(0,.ptr 0 4 0),(2,.ptr 1 7 0),(3,.ptr 2 7 0),(4,.bool false)] ?_
    exact hj6 (false,y5_0,y5_1)
def i6B (k:Nat) (F:Fns0) (a0:(List Nat)) (a1:(List S33)) (a2:Int) (a3:Int):Option (Option (S28 × Int)) :=
 qNd k F a0 a1 a3 k a2 ([]:List S28)
theorem qNe (k:Nat) (F:Fns0) (hF:FnsOk0 F):∀ a0 a1 a2 a3 r,i6B k F a0 a1 a2 a3 = some r → CallT Try.prog 35 [.ptr 0 4 0] (mkH [⟨[.str a0,w34 a1,.i a2,.i a3],4,false⟩]) ((Xi6 a0 a1 a2 a3).thr r) ((Xi6 a0 a1 a2 a3).enc r) ((Xi6 a0 a1 a2 a3).fin r):=by
 intro a0 a1 a2 a3 r h
 refine qA2 (Xi6 a0 a1 a2 a3) Try.func35 (by kernel_rfl) (by kernel_rfl) rfl (t:=i6B k F a0 a1 a2 a3) ?_ h
 unfold i6B
 refine qA (eE:=[(0,.ptr 0 4 0)]) (by kernel_rfl) ?_
 let Q1:Blk:=⟨[.str a0,w34 a1,.i a2,.i a3],4,false⟩
 let Q2:Blk:=⟨[.i 0,.str [],.nils,.bool false,.bool false,.nils,.nils],0,false⟩
 let Q3:Blk:=⟨[.i 25,.str [],.nils,.bool false,.bool false,.nils,.nils],7,false⟩
 refine oH 14 i6p2 [(3,.ptr 2 7 0),(7,.agg [.i 25,.str [],.nils,.bool false,.bool false,.nils,.nils]),(2,.ptr 1 7 0),(0,.ptr 0 4 0)] (mkH [Q1,Q2,Q3]) ?_
 refine qG0 [Q1,Q2,Q3] (by kernel_rfl) ?_
 let Q4:Blk:=⟨(([]:List S28)).flatMap e29,0,false⟩
 refine oHp (mkH [Q1,Q2,Q3,Q4]) ?_
 refine qCw [Q1,Q2,Q3,Q4] 2 7 [.i 25,.str [],.nils,.bool false,.bool false,.nils,.nils] [.i 25,.str [],.own 3 (([]:List S28)).length 7,.bool false,.bool false,.nils,.nils] (by kernel_rfl) rfl (.cons (.cons (.none (.refl)))) ?_
 refine oHp (mkH [Q1,Q2,⟨[.i 25,.str [],.own 3 (([]:List S28)).length 7,.bool false,.bool false,.nils,.nils],7,false⟩,Q4]) ?_
 refine oK [0,2,3] [(0,.ptr 0 4 0),(2,.ptr 1 7 0),(3,.ptr 2 7 0)] ?_
 exact (i6_l5_ok k F hF a0 a1 a2 a3 k) a2 ([]:List S28)
theorem i6B_ok (k:Nat) (F:Fns0) (hF:FnsOk0 F):Pi6 (i6B k F):=fun a0 a1 a2 a3=>⟨fun x h=>qNe k F hF a0 a1 a2 a3 (some x) h,fun h=>⟨_,qNe k F hF a0 a1 a2 a3 none h⟩⟩
def i8p1:Pt:=nav [0,0,0] (nav [0] (bodyAt Try.f48))
def i8p2:Pt:=nav [0,0,0,0] i8p1
def i8p3:Pt:=nav [0,0] i8p2
def i8p4:Pt:=nav [1,0] i8p3
def i8p5:Pt:=nav [2,0,0] i8p3
def i8p6:Pt:=nav [0,0,0] i8p4
def i8p7:Pt:=nav [0,0,0] i8p5
def i8p8:Pt:=nav [0,0,0] i8p6
def i8d0:DP:=⟨[31],[(0,0,0),(1,0,1),(0,0,1),(4,0,0),(15,0,0),(0,0,0),(32,0,0),(96,0,0),(255,0,0),(511,0,0)],10,thrown,[],H0⟩
def i8B (k:Nat) (F:Fns0) (a0:(List Nat)) (a1:(List S33)) (a2:Int) (a3:Int):Option (Option Ri8) :=
 (i9 k a0 a1 a2 a3).bind fun x0_1=>(i10 k x0_1.f1 a0 a1 a2 a3).bind fun x1_3=>jn (fun (z7:Bool)=>if z7 then (bT (i11 k a0 a1 a2 a3) fun x2_1=>bT (F.i8 a0 a1 x2_1 a3) fun x3_1=>(g65 k x0_1.f1).bind fun x4_7=>some (some ((⟨(13:Int),x0_1.f1,⟨(([x3_1.1]:List S28)).length,(([x3_1.1]:List S28)).flatMap e29⟩,false,false,([]:List (List Nat)),([]:List (List Nat))⟩:S28),x4_7,x3_1.2.2))) else (bT (F.i13 a0 a1 a2 a3) fun x5_1=>bT (F.i14 x5_1.1 x5_1.2.1 a0 a1 x5_1.2.2 a3) fun x6_3=>some (some (x6_3.1,(11:Int),x6_3.2)))) (fun j7=>if x1_3 then ((g65 k x0_1.f1).bind fun x1_7=>j7 (decide (0 < x1_7))) else (j7 false))
theorem qNc (k:Nat) (F:Fns0) (hF:FnsOk0 F):∀ a0 a1 a2 a3 r,i8B k F a0 a1 a2 a3 = some r → CallT Try.prog 48 [.ptr 0 4 0] (mkH [⟨[.str a0,w34 a1,.i a2,.i a3],4,false⟩]) ((Xi8 a0 a1 a2 a3).thr r) ((Xi8 a0 a1 a2 a3).enc r) ((Xi8 a0 a1 a2 a3).fin r):=by
 intro a0 a1 a2 a3 r h
 refine qA2 (Xi8 a0 a1 a2 a3) Try.func48 (by kernel_rfl) (by kernel_rfl) rfl (t:=i8B k F a0 a1 a2 a3) ?_ h
 unfold i8B
 refine qA (eE:=[(0,.ptr 0 4 0)]) (by kernel_rfl) ?_
 let Q1:Blk:=⟨[.str a0,w34 a1,.i a2,.i a3],4,false⟩
 let Q2:Blk:=⟨[.i 0,.str [],.nils,.bool false,.bool false,.nils,.nils],0,false⟩
 refine oH 8 (atN 1 (ctl1 i8p1)) [(9,.ptr 0 4 0),(3,.i 0),(2,.ptr 1 7 0),(0,.ptr 0 4 0)] (mkH [Q1,Q2]) ?_
 refine oN (fun (x0_1:S33)=>n34 x0_1) (fun x0_1=>[Q1,Q2]) (atN 2 (ctl1 i8p1)) 10 [0] [] [] [.ptr 0 4 0] (qLg k a0 a1 a2 a3) trivial (fun _=>trivial) fun x0_1 hx0_1=>?_
 let E1:Env:=[(13,.str x0_1.f1),(12,.ptr 2 3 1),(11,.ptr 0 4 0),(4,.ptr 2 3 0),(10,n34 x0_1),(9,.ptr 0 4 0),(3,.i 0),(2,.ptr 1 7 0),(0,.ptr 0 4 0)]
 refine oH 9 (atN 3 (ctl1 i8p2)) E1 (mkH [Q1,Q2,⟨e34 x0_1,3,false⟩]) ?_
 refine oN (fun (x1_3:Bool) => .bool x1_3) (fun x1_3=>[Q1,Q2,⟨e34 x0_1,3,false⟩]) (atN 4 (ctl1 i8p2)) 14 [0] [] [] [.ptr 0 4 0,.str x0_1.f1] (qHa k x0_1.f1 a0 a1 a2 a3) trivial (fun _=>trivial) fun x1_3 hx1_3=>?_
 refine oR 1 (atN 5 (ctl1 i8p2)) ((15,.bool x1_3) :: (14,.bool x1_3) :: E1) ?_
 refine oJ i8p3 (fun (z7:Bool)=>[(0,.ptr 0 4 0),(2,.ptr 1 7 0),(4,.ptr 2 3 0),(20,.bool z7)]) (fun (z7:Bool)=>(mkH [Q1,Q2,⟨e34 x0_1,3,false⟩])) (fun z7=>?_) (fun j7 hj7=>?_)
 ·refine oS 20 (fun hb=>?_) (fun hb=>?_)
  ·let E2:Env:=[(21,.ptr 0 4 0),(20,.bool true),(0,.ptr 0 4 0),(2,.ptr 1 7 0),(4,.ptr 2 3 0),(20,.bool z7)]
   refine oH 4 (atN 1 (ctl1 i8p4)) E2 (mkH [Q1,Q2,⟨e34 x0_1,3,false⟩]) ?_
   refine oX (fun (x2_1:Int) => .tuple []) (fun x2_1=>[⟨[.str a0,w34 a1,.i x2_1,.i a3],4,false⟩,Q2,⟨e34 x0_1,3,false⟩]) (atN 2 (ctl1 i8p4)) 22 [0] [] [] [] [] [.ptr 0 4 0] (qF5 k a0 a1 a2 a3) trivial (fun _=>trivial) trivial fun x2_1 hx2_1=>?_
   refine oR 4 (atN 1 (ctl1 i8p6)) ((24,.ptr 0 4 0) :: (22,.tuple []) :: E2) ?_
   refine oX (fun (x3_1:Ri8) => .tuple [n29 x3_1.1,.i x3_1.2.1]) (fun x3_1=>[⟨[.str a0,w34 a1,.i x3_1.2.2,.i a3],4,false⟩,Q2,⟨e34 x0_1,3,false⟩]) (atN 2 (ctl1 i8p6)) 25 [0] [] [] [0] [] [.ptr 0 4 0] (hF.i8_ok a0 a1 x2_1 a3) trivial (fun _=>trivial) trivial fun x3_1 hx3_1=>?_
   let Q3:Blk:=⟨[.str a0,w34 a1,.i x3_1.2.2,.i a3],4,false⟩
   let K1:List Blk:=[Q3,Q2,⟨e34 x0_1,3,false⟩,⟨e29 x3_1.1,7,false⟩]
   refine oLH 8 i8p8 [(2,.ptr 1 7 0),(4,.ptr 2 3 0),(5,.ptr 3 7 0)] (mkH K1) ?_
   refine qA7 (fun x4_7 hx4_7=>?_)
   let E5:Env:=[(34,.str x0_1.f1),(33,.ptr 2 3 1),(32,.agg [.i 13,.str x0_1.f1,w29 ([x3_1.1]:List S28),.bool false,.bool false,.nils,.nils]),(31,w29 ([x3_1.1]:List S28)),(30,n29 x3_1.1),(29,.str x0_1.f1),(28,.ptr 2 3 1),(2,.ptr 1 7 0),(4,.ptr 2 3 0),(5,.ptr 3 7 0)]
   let K2:List Blk:=[Q3,⟨[.i 13,.str x0_1.f1,w29 ([x3_1.1]:List S28),.bool false,.bool false,.nils,.nils],7,false⟩,⟨e34 x0_1,3,false⟩,⟨e29 x3_1.1,7,false⟩]
   refine oD (H':=(mkH K2)) (nav [0] i8p8) ((3,.i x4_7) :: (35,.i x4_7) :: E5) [(mkH K1),(mkH K2)] i8d0 (oDr 7 7 E5 (qAn (l':=(opsAt i8p8).toList.drop 8) (eE:=((35,.i x4_7) :: E5)) (hs:=[(mkH K1)]) (fi:=65) (args:=[.str x0_1.f1]) (v := .i x4_7) (by kernel_rfl) (by kernel_rfl) (by kernel_rfl) (g65_ok k x0_1.f1 x4_7 hx4_7) (by kernel_rfl) (oDh 2 10 ((3,.i x4_7) :: (35,.i x4_7) :: E5) (mkH K2) [(mkH K2)] .nil))) ?_
   exact oQF 1 K2 1 [] [.agg [.i 13,.str x0_1.f1,w29 ([x3_1.1]:List S28),.bool false,.bool false,.nils,.nils],.i x4_7] (.tuple [.agg [.i 13,.str x0_1.f1,w29 ([x3_1.1]:List S28),.bool false,.bool false,.vec 0 1 [],.vec 0 1 []],.i x4_7]) (.tuple (.agg (.cs (.cs (.cs (.cs (.cs (.nil (.nil .ps))))))) .ps) .ps) trivial
  ·refine oH 5 (atN 1 (ctl1 i8p5)) [(37,.ptr 0 4 0),(20,.bool false),(0,.ptr 0 4 0),(2,.ptr 1 7 0),(4,.ptr 2 3 0),(20,.bool z7)] (mkH [Q1,Q2,⟨e34 x0_1,3,false⟩]) ?_
   refine oX (fun (x5_1:Ri13) => .tuple [n29 x5_1.1,.bool x5_1.2.1]) (fun x5_1=>[⟨[.str a0,w34 a1,.i x5_1.2.2,.i a3],4,false⟩,Q2,⟨e34 x0_1,3,false⟩]) (atN 2 (ctl1 i8p5)) 38 [0] [] [] [0] [] [.ptr 0 4 0] (hF.i13_ok a0 a1 a2 a3) trivial (fun _=>trivial) trivial fun x5_1 hx5_1=>?_
   let E8:Env:=[(0,.ptr 0 4 0),(2,.ptr 1 7 0),(7,.ptr 3 7 0),(8,.bool x5_1.2.1)]
   refine oLH 8 i8p7 E8 (mkH [⟨[.str a0,w34 a1,.i x5_1.2.2,.i a3],4,false⟩,Q2,⟨e34 x0_1,3,false⟩,⟨e29 x5_1.1,7,false⟩]) ?_
   refine oR 4 (atN 3 (ctl1 i8p7)) ((43,.bool x5_1.2.1) :: (42,n29 x5_1.1) :: (41,.ptr 0 4 0) :: E8) ?_
   refine oX (fun (x6_3:(S28 × Int))=>n29 x6_3.1) (fun x6_3=>[⟨[.str a0,w34 a1,.i x6_3.2,.i a3],4,false⟩,Q2,⟨e34 x0_1,3,false⟩,⟨e29 x5_1.1,7,false⟩]) (atN 4 (ctl1 i8p7)) 44 [0] [] [] [0] [] [.ptr 0 4 0,n29 x5_1.1,.bool x5_1.2.1] (hF.i14_ok x5_1.1 x5_1.2.1 a0 a1 x5_1.2.2 a3) trivial (fun _=>trivial) trivial fun x6_3 hx6_3=>?_
   exact oQF 4 [⟨[.str a0,w34 a1,.i x6_3.2,.i a3],4,false⟩,⟨e29 x6_3.1,7,false⟩,⟨e34 x0_1,3,false⟩,⟨e29 x5_1.1,7,false⟩] 1 [] [n29 x6_3.1,.i 11] (.tuple [n29 x6_3.1,.i 11]) .ps trivial
 ·refine oS 15 (fun hb=>?_) (fun hb=>?_)
  ·refine oH 2 (atN 7 (ctl1 i8p2)) ((17,.str x0_1.f1) :: (16,.ptr 2 3 1) :: (15,.bool true) :: (15,.bool x1_3) :: (14,.bool x1_3) :: E1) (mkH [Q1,Q2,⟨e34 x0_1,3,false⟩]) ?_
   refine oA (fun (x1_7:Int) => .i x1_7) (atN 8 (ctl1 i8p2)) 18 [.str x0_1.f1] (g65_ok k x0_1.f1) fun x1_7 hx1_7=>?_
   refine oL 3 i8p3 [(0,.ptr 0 4 0),(2,.ptr 1 7 0),(4,.ptr 2 3 0),(20,.bool (decide (0 < x1_7)))] ?_
   exact hj7 (decide (0 < x1_7))
  ·refine oLH 6 i8p3 [(0,.ptr 0 4 0),(2,.ptr 1 7 0),(4,.ptr 2 3 0),(20,.bool false)] (mkH [Q1,Q2,⟨e34 x0_1,3,false⟩]) ?_
   exact hj7 false
theorem i8B_ok (k:Nat) (F:Fns0) (hF:FnsOk0 F):Pi8 (i8B k F):=fun a0 a1 a2 a3=>⟨fun x h=>qNc k F hF a0 a1 a2 a3 (some x) h,fun h=>⟨_,qNc k F hF a0 a1 a2 a3 none h⟩⟩
def par0 (n:Nat):Fns0:=Nat.rec (motive:=fun _=>Fns0) ⟨fun _ _ _ _ _=>none,fun _ _ _ _=>none,fun _ _ _ _=>none,fun _ _ _ _=>none,fun _ _ _ _ _ _=>none,fun _ _ _ _=>none,fun _ _ _ _ _ _ _ _ _ _ _ _=>none,fun _ _ _ _=>none,fun _ _ _ _ _ _ _ _ _ _ _ _=>none,fun _ _ _ _ _ _ _ _ _ _ _ _=>none,fun _ _ _ _=>none,fun _ _ _ _=>none,fun _ _ _ _ _=>none,fun _ _ _ _=>none,fun _ _ _ _ _ _ _ _ _ _ _=>none,fun _ _ _ _=>none,fun _ _ _ _=>none,fun _ _ _ _=>none,fun _ _ _ _ _ _ _ _ _ _ _=>none,fun _ _ _ _ _ _ _ _ _ _ _=>none,fun _ _ _ _=>none,fun _ _ _ _ _=>none,fun _ _ _ _ _=>none,fun _ _ _ _ _=>none,fun _ _ _ _ _=>none,fun _ _ _ _=>none,fun _ _ _ _=>none,fun _ _ _ _=>none,fun _ _ _ _ _ _ _=>none,fun _ _ _ _ _=>none,fun _ _ _ _=>none,fun _ _ _ _=>none,fun _ _ _ _=>none,fun _ _ _ _=>none⟩ (fun k F=>⟨i5B k F,i6B k F,i8B k F,i13B k F,i14B k F,i17B k F,i18B k F,i19B k F,i20B k F,i21B k F,i24B k F,i25B k F,i26B k F,i29B k F,i30B k F,i31B k F,i32B k F,i34B k F,i36B k F,i37B k F,i38B k F,i40B k F,i41B k F,i42B k F,i43B k F,i44B k F,i45B k F,i46B k F,i47B k F,i48B k F,i49B k F,i50B k F,i51B k F,i52B k F⟩) n
end
end Go.Proofs.Ythpplbkobokghaa.Am
