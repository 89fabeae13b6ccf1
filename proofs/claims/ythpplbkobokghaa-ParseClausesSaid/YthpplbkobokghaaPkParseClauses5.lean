/- LawParseClauses, part 5: whatever the input, the law comes out true: our texts, joined by a tool, without what the claim does not name. -/
import Derived.Test.YthpplbkobokghaaPkParseClauses4
import Derived.SizedLaws
import Derived.ChangeSlices
import Derived.Below
import Derived.Test.YthpplbkobokghaaRows
import Derived.WalkKit
import Derived.ProofKit
import Derived.OpenShut
import Derived.ShutString
import Derived.ChangeOld
set_option maxRecDepth 100000
set_option linter.unusedVariables false
set_option linter.unusedSimpArgs false
set_option maxRecDepth 100000
set_option linter.unusedVariables false
namespace Go.Proofs.Ythpplbkobokghaa.Am
noncomputable section
open Go
theorem qNd (k:Nat) (F:Fns0) (hF:FnsOk0 F):∀ a0 a1 a2 a3 r,i8B k F a0 a1 a2 a3 = some r → CallT Try.prog 48 [.ptr 0 4 0] (mkH [⟨[.str a0,w34 a1,.i a2,.i a3],4,false⟩]) ((Xi8 a0 a1 a2 a3).thr r) ((Xi8 a0 a1 a2 a3).enc r) ((Xi8 a0 a1 a2 a3).fin r):=by
 intro a0 a1 a2 a3 r h
 refine qA2 (Xi8 a0 a1 a2 a3) Try.func48 (by kernel_rfl) (by kernel_rfl) rfl (t:=i8B k F a0 a1 a2 a3) ?_ h
 unfold i8B
 refine qA (eE:=[(0,.ptr 0 4 0)]) (by kernel_rfl) ?_
 let Q1:Blk:=⟨[.str a0,w34 a1,.i a2,.i a3],4,false⟩
 let Q2:Blk:=⟨[.i 0,.str [],.nils,.bool false,.bool false,.nils,.nils],0,false⟩
 refine oH 8 (atN 1 (ctl1 i8p1)) [(9,.ptr 0 4 0),(3,.i 0),(2,.ptr 1 7 0),(0,.ptr 0 4 0)] (mkH [Q1,Q2]) ?_
 refine oN (fun (x0_1:S33)=>n34 x0_1) (fun x0_1=>[Q1,Q2]) (atN 2 (ctl1 i8p1)) 10 [0] [] [] [.ptr 0 4 0] (qLi k a0 a1 a2 a3) trivial (fun _=>trivial) fun x0_1 hx0_1=>?_
 let E1:Env:=[(13,.str x0_1.f1),(12,.ptr 2 3 1),(11,.ptr 0 4 0),(4,.ptr 2 3 0),(10,n34 x0_1),(9,.ptr 0 4 0),(3,.i 0),(2,.ptr 1 7 0),(0,.ptr 0 4 0)]
 refine oH 9 (atN 3 (ctl1 i8p2)) E1 (mkH [Q1,Q2,⟨e34 x0_1,3,false⟩]) ?_
 refine oN (fun (x1_3:Bool) => .bool x1_3) (fun x1_3=>[Q1,Q2,⟨e34 x0_1,3,false⟩]) (atN 4 (ctl1 i8p2)) 14 [0] [] [] [.ptr 0 4 0,.str x0_1.f1] (qHp k x0_1.f1 a0 a1 a2 a3) trivial (fun _=>trivial) fun x1_3 hx1_3=>?_
 refine oR 1 (atN 5 (ctl1 i8p2)) ((15,.bool x1_3) :: (14,.bool x1_3) :: E1) ?_
 refine oJ i8p3 (fun (z7:Bool)=>[(0,.ptr 0 4 0),(2,.ptr 1 7 0),(4,.ptr 2 3 0),(20,.bool z7)]) (fun (z7:Bool)=>(mkH [Q1,Q2,⟨e34 x0_1,3,false⟩])) (fun z7=>?_) (fun j7 hj7=>?_)
 ·refine oS 20 (fun hb=>?_) (fun hb=>?_)
  ·let E2:Env:=[(21,.ptr 0 4 0),(20,.bool true),(0,.ptr 0 4 0),(2,.ptr 1 7 0),(4,.ptr 2 3 0),(20,.bool z7)]
   refine oH 4 (atN 1 (ctl1 i8p4)) E2 (mkH [Q1,Q2,⟨e34 x0_1,3,false⟩]) ?_
   refine oX (fun (x2_1:Int) => .tuple []) (fun x2_1=>[⟨[.str a0,w34 a1,.i x2_1,.i a3],4,false⟩,Q2,⟨e34 x0_1,3,false⟩]) (atN 2 (ctl1 i8p4)) 22 [0] [] [] [] [] [.ptr 0 4 0] (qFa k a0 a1 a2 a3) trivial (fun _=>trivial) trivial fun x2_1 hx2_1=>?_
   refine oR 4 (atN 1 (ctl1 i8p6)) ((24,.ptr 0 4 0) :: (22,.tuple []) :: E2) ?_
   refine oX (fun (x3_1:Ri8) => .tuple [n29 x3_1.1,.i x3_1.2.1]) (fun x3_1=>[⟨[.str a0,w34 a1,.i x3_1.2.2,.i a3],4,false⟩,Q2,⟨e34 x0_1,3,false⟩]) (atN 2 (ctl1 i8p6)) 25 [0] [] [] [0] [] [.ptr 0 4 0] (hF.i8_ok a0 a1 x2_1 a3) trivial (fun _=>trivial) trivial fun x3_1 hx3_1=>?_
   let Q3:Blk:=⟨[.str a0,w34 a1,.i x3_1.2.2,.i a3],4,false⟩
   let K1:List Blk:=[Q3,Q2,⟨e34 x0_1,3,false⟩,⟨e29 x3_1.1,7,false⟩]
   refine oLH 8 i8p8 [(2,.ptr 1 7 0),(4,.ptr 2 3 0),(5,.ptr 3 7 0)] (mkH K1) ?_
   refine qA7 (fun x4_7 hx4_7=>?_)
   let E5:Env:=[(34,.str x0_1.f1),(33,.ptr 2 3 1),(32,.agg [.i 13,.str x0_1.f1,w29 ([x3_1.1]:List S28),.bool false,.bool false,.nils,.nils]),(31,w29 ([x3_1.1]:List S28)),(30,n29 x3_1.1),(29,.str x0_1.f1),(28,.ptr 2 3 1),(2,.ptr 1 7 0),(4,.ptr 2 3 0),(5,.ptr 3 7 0)]
   let K2:List Blk:=[Q3,⟨[.i 13,.str x0_1.f1,w29 ([x3_1.1]:List S28),.bool false,.bool false,.nils,.nils],7,false⟩,⟨e34 x0_1,3,false⟩,⟨e29 x3_1.1,7,false⟩]
   refine oD (H':=(mkH K2)) (nav [0] i8p8) ((3,.i x4_7) :: (35,.i x4_7) :: E5) [(mkH K1),(mkH K2)] i8d0 (oDr 7 7 E5 (qAu (l':=(opsAt i8p8).toList.drop 8) (eE:=((35,.i x4_7) :: E5)) (hs:=[(mkH K1)]) (fi:=65) (args:=[.str x0_1.f1]) (v := .i x4_7) (by kernel_rfl) (by kernel_rfl) (by kernel_rfl) (g65_ok k x0_1.f1 x4_7 hx4_7) (by kernel_rfl) (oDh 2 10 ((3,.i x4_7) :: (35,.i x4_7) :: E5) (mkH K2) [(mkH K2)] .nil))) ?_
   exact oQF 1 K2 1 [] [.agg [.i 13,.str x0_1.f1,w29 ([x3_1.1]:List S28),.bool false,.bool false,.nils,.nils],.i x4_7] (.tuple [.agg [.i 13,.str x0_1.f1,w29 ([x3_1.1]:List S28),.bool false,.bool false,.vec 0 1 [],.vec 0 1 []],.i x4_7]) (.tuple (.agg (.cs (.cs (.cs (.cs (.cs (.nil (.nil .ps))))))) .ps) .ps) trivial
  ·refine oH 5 (atN 1 (ctl1 i8p5)) [(37,.ptr 0 4 0),(20,.bool false),(0,.ptr 0 4 0),(2,.ptr 1 7 0),(4,.ptr 2 3 0),(20,.bool z7)] (mkH [Q1,Q2,⟨e34 x0_1,3,false⟩]) ?_
   refine oX (fun (x5_1:Ri13) => .tuple [n29 x5_1.1,.bool x5_1.2.1]) (fun x5_1=>[⟨[.str a0,w34 a1,.i x5_1.2.2,.i a3],4,false⟩,Q2,⟨e34 x0_1,3,false⟩]) (atN 2 (ctl1 i8p5)) 38 [0] [] [] [0] [] [.ptr 0 4 0] (hF.i13_ok a0 a1 a2 a3) trivial (fun _=>trivial) trivial fun x5_1 hx5_1=>?_
   let E8:Env:=[(0,.ptr 0 4 0),(2,.ptr 1 7 0),(7,.ptr 3 7 0),(8,.bool x5_1.2.1)]
   refine oLH 8 i8p7 E8 (mkH [⟨[.str a0,w34 a1,.i x5_1.2.2,.i a3],4,false⟩,Q2,⟨e34 x0_1,3,false⟩,⟨e29 x5_1.1,7,false⟩]) ?_
   refine oR 4 (atN 3 (ctl1 i8p7)) ((43,.bool x5_1.2.1) :: (42,n29 x5_1.1) :: (41,.ptr 0 4 0) :: E8) ?_
   refine oX (fun (x6_3:(S28 × Int))=>n29 x6_3.1) (fun x6_3=>[⟨[.str a0,w34 a1,.i x6_3.2,.i a3],4,false⟩,Q2,⟨e34 x0_1,3,false⟩,⟨e29 x5_1.1,7,false⟩]) (atN 4 (ctl1 i8p7)) 44 [0] [] [] [0] [] [.ptr 0 4 0,n29 x5_1.1,.bool x5_1.2.1] (hF.i14_ok x5_1.1 x5_1.2.1 a0 a1 x5_1.2.2 a3) trivial (fun _=>trivial) trivial fun x6_3 hx6_3=>?_
   exact oQF 4 [⟨[.str a0,w34 a1,.i x6_3.2,.i a3],4,false⟩,⟨e29 x6_3.1,7,false⟩,⟨e34 x0_1,3,false⟩,⟨e29 x5_1.1,7,false⟩] 1 [] [n29 x6_3.1,.i 11] (.tuple [n29 x6_3.1,.i 11]) .ps trivial
 ·refine oS 15 (fun hb=>?_) (fun hb=>?_)
  ·refine oH 2 (atN 7 (ctl1 i8p2)) ((17,.str x0_1.f1) :: (16,.ptr 2 3 1) :: (15,.bool true) :: (15,.bool x1_3) :: (14,.bool x1_3) :: E1) (mkH [Q1,Q2,⟨e34 x0_1,3,false⟩]) ?_
   refine oA (fun (x1_7:Int) => .i x1_7) (atN 8 (ctl1 i8p2)) 18 [.str x0_1.f1] (g65_ok k x0_1.f1) fun x1_7 hx1_7=>?_
   refine oL 3 i8p3 [(0,.ptr 0 4 0),(2,.ptr 1 7 0),(4,.ptr 2 3 0),(20,.bool (decide (0 < x1_7)))] ?_
   exact hj7 (decide (0 < x1_7))
  ·refine oLH 6 i8p3 [(0,.ptr 0 4 0),(2,.ptr 1 7 0),(4,.ptr 2 3 0),(20,.bool false)] (mkH [Q1,Q2,⟨e34 x0_1,3,false⟩]) ?_
   exact hj7 false
theorem i8B_ok (k:Nat) (F:Fns0) (hF:FnsOk0 F):Pi8 (i8B k F):=fun a0 a1 a2 a3=>⟨fun x h=>qNd k F hF a0 a1 a2 a3 (some x) h,fun h=>⟨_,qNd k F hF a0 a1 a2 a3 none h⟩⟩
def par0 (n:Nat):Fns0:=Nat.rec (motive:=fun _=>Fns0) ⟨fun _ _ _ _ _=>none,fun _ _ _ _=>none,fun _ _ _ _=>none,fun _ _ _ _=>none,fun _ _ _ _ _ _=>none,fun _ _ _ _=>none,fun _ _ _ _ _ _ _ _ _ _ _ _=>none,fun _ _ _ _=>none,fun _ _ _ _ _ _ _ _ _ _ _ _=>none,fun _ _ _ _ _ _ _ _ _ _ _ _=>none,fun _ _ _ _=>none,fun _ _ _ _=>none,fun _ _ _ _ _=>none,fun _ _ _ _=>none,fun _ _ _ _ _ _ _ _ _ _ _=>none,fun _ _ _ _=>none,fun _ _ _ _=>none,fun _ _ _ _=>none,fun _ _ _ _ _ _ _ _ _ _ _=>none,fun _ _ _ _ _ _ _ _ _ _ _=>none,fun _ _ _ _=>none,fun _ _ _ _ _=>none,fun _ _ _ _ _=>none,fun _ _ _ _ _=>none,fun _ _ _ _ _=>none,fun _ _ _ _=>none,fun _ _ _ _=>none,fun _ _ _ _=>none,fun _ _ _ _ _ _ _=>none,fun _ _ _ _ _=>none,fun _ _ _ _=>none,fun _ _ _ _=>none,fun _ _ _ _=>none,fun _ _ _ _=>none⟩ (fun k F=>⟨i5B k F,i6B k F,i8B k F,i13B k F,i14B k F,i17B k F,i18B k F,i19B k F,i20B k F,i21B k F,i24B k F,i25B k F,i26B k F,i29B k F,i30B k F,i31B k F,i32B k F,i34B k F,i36B k F,i37B k F,i38B k F,i40B k F,i41B k F,i42B k F,i43B k F,i44B k F,i45B k F,i46B k F,i47B k F,i48B k F,i49B k F,i50B k F,i51B k F,i52B k F⟩) n
theorem qA0 : ∀ k, FnsOk0 (par0 k)
 | 0=>⟨(fun _ _ _ _ _=>⟨fun _ h=>(nomatch h),fun h=>(nomatch h)⟩),(fun _ _ _ _=>⟨fun _ h=>(nomatch h),fun h=>(nomatch h)⟩),(fun _ _ _ _=>⟨fun _ h=>(nomatch h),fun h=>(nomatch h)⟩),(fun _ _ _ _=>⟨fun _ h=>(nomatch h),fun h=>(nomatch h)⟩),(fun _ _ _ _ _ _=>⟨fun _ h=>(nomatch h),fun h=>(nomatch h)⟩),(fun _ _ _ _=>⟨fun _ h=>(nomatch h),fun h=>(nomatch h)⟩),(fun _ _ _ _ _ _ _ _ _ _ _ _=>⟨fun _ h=>(nomatch h),fun h=>(nomatch h)⟩),(fun _ _ _ _=>⟨fun _ h=>(nomatch h),fun h=>(nomatch h)⟩),(fun _ _ _ _ _ _ _ _ _ _ _ _=>⟨fun _ h=>(nomatch h),fun h=>(nomatch h)⟩),(fun _ _ _ _ _ _ _ _ _ _ _ _=>⟨fun _ h=>(nomatch h),fun h=>(nomatch h)⟩),(fun _ _ _ _=>⟨fun _ h=>(nomatch h),fun h=>(nomatch h)⟩),(fun _ _ _ _=>⟨fun _ h=>(nomatch h),fun h=>(nomatch h)⟩),(fun _ _ _ _ _=>⟨fun _ h=>(nomatch h),fun h=>(nomatch h)⟩),(fun _ _ _ _=>⟨fun _ h=>(nomatch h),fun h=>(nomatch h)⟩),(fun _ _ _ _ _ _ _ _ _ _ _=>⟨fun _ h=>(nomatch h),fun h=>(nomatch h)⟩),(fun _ _ _ _=>⟨fun _ h=>(nomatch h),fun h=>(nomatch h)⟩),(fun _ _ _ _=>⟨fun _ h=>(nomatch h),fun h=>(nomatch h)⟩),(fun _ _ _ _=>⟨fun _ h=>(nomatch h),fun h=>(nomatch h)⟩),(fun _ _ _ _ _ _ _ _ _ _ _=>⟨fun _ h=>(nomatch h),fun h=>(nomatch h)⟩),(fun _ _ _ _ _ _ _ _ _ _ _=>⟨fun _ h=>(nomatch h),fun h=>(nomatch h)⟩),(fun _ _ _ _=>⟨fun _ h=>(nomatch h),fun h=>(nomatch h)⟩),(fun _ _ _ _ _=>⟨fun _ h=>(nomatch h),fun h=>(nomatch h)⟩),(fun _ _ _ _ _=>⟨fun _ h=>(nomatch h),fun h=>(nomatch h)⟩),(fun _ _ _ _ _=>⟨fun _ h=>(nomatch h),fun h=>(nomatch h)⟩),(fun _ _ _ _ _=>⟨fun _ h=>(nomatch h),fun h=>(nomatch h)⟩),(fun _ _ _ _=>⟨fun _ h=>(nomatch h),fun h=>(nomatch h)⟩),(fun _ _ _ _=>⟨fun _ h=>(nomatch h),fun h=>(nomatch h)⟩),(fun _ _ _ _=>⟨fun _ h=>(nomatch h),fun h=>(nomatch h)⟩),(fun _ _ _ _ _ _ _=>⟨fun _ h=>(nomatch h),fun h=>(nomatch h)⟩),(fun _ _ _ _ _=>⟨fun _ h=>(nomatch h),fun h=>(nomatch h)⟩),(fun _ _ _ _=>⟨fun _ h=>(nomatch h),fun h=>(nomatch h)⟩),(fun _ _ _ _=>⟨fun _ h=>(nomatch h),fun h=>(nomatch h)⟩),(fun _ _ _ _=>⟨fun _ h=>(nomatch h),fun h=>(nomatch h)⟩),(fun _ _ _ _=>⟨fun _ h=>(nomatch h),fun h=>(nomatch h)⟩)⟩
 | k + 1=>⟨i5B_ok k (par0 k) (qA0 k),i6B_ok k (par0 k) (qA0 k),i8B_ok k (par0 k) (qA0 k),i13B_ok k (par0 k) (qA0 k),i14B_ok k (par0 k) (qA0 k),i17B_ok k (par0 k) (qA0 k),i18B_ok k (par0 k) (qA0 k),i19B_ok k (par0 k) (qA0 k),i20B_ok k (par0 k) (qA0 k),i21B_ok k (par0 k) (qA0 k),i24B_ok k (par0 k) (qA0 k),i25B_ok k (par0 k) (qA0 k),i26B_ok k (par0 k) (qA0 k),i29B_ok k (par0 k) (qA0 k),i30B_ok k (par0 k) (qA0 k),i31B_ok k (par0 k) (qA0 k),i32B_ok k (par0 k) (qA0 k),i34B_ok k (par0 k) (qA0 k),i36B_ok k (par0 k) (qA0 k),i37B_ok k (par0 k) (qA0 k),i38B_ok k (par0 k) (qA0 k),i40B_ok k (par0 k) (qA0 k),i41B_ok k (par0 k) (qA0 k),i42B_ok k (par0 k) (qA0 k),i43B_ok k (par0 k) (qA0 k),i44B_ok k (par0 k) (qA0 k),i45B_ok k (par0 k) (qA0 k),i46B_ok k (par0 k) (qA0 k),i47B_ok k (par0 k) (qA0 k),i48B_ok k (par0 k) (qA0 k),i49B_ok k (par0 k) (qA0 k),i50B_ok k (par0 k) (qA0 k),i51B_ok k (par0 k) (qA0 k),i52B_ok k (par0 k) (qA0 k)⟩
def i5 (k:Nat):Ti5:=(par0 k).i5
theorem i5_ok (k:Nat):Pi5 (i5 k):=(qA0 k).i5_ok
def i6 (k:Nat):Ti6:=(par0 k).i6
theorem i6_ok (k:Nat):Pi6 (i6 k):=(qA0 k).i6_ok
def i8 (k:Nat):Ti8:=(par0 k).i8
theorem i8_ok (k:Nat):Pi8 (i8 k):=(qA0 k).i8_ok
def i13 (k:Nat):Ti13:=(par0 k).i13
theorem i13_ok (k:Nat):Pi13 (i13 k):=(qA0 k).i13_ok
def i14 (k:Nat):Ti14:=(par0 k).i14
theorem i14_ok (k:Nat):Pi14 (i14 k):=(qA0 k).i14_ok
def i17 (k:Nat):Ti17:=(par0 k).i17
theorem i17_ok (k:Nat):Pi17 (i17 k):=(qA0 k).i17_ok
def i18 (k:Nat):Ti18:=(par0 k).i18
theorem i18_ok (k:Nat):Pi18 (i18 k):=(qA0 k).i18_ok
def i19 (k:Nat):Ti19:=(par0 k).i19
theorem i19_ok (k:Nat):Pi19 (i19 k):=(qA0 k).i19_ok
def i20 (k:Nat):Ti20:=(par0 k).i20
theorem i20_ok (k:Nat):Pi20 (i20 k):=(qA0 k).i20_ok
def i21 (k:Nat):Ti21:=(par0 k).i21
theorem i21_ok (k:Nat):Pi21 (i21 k):=(qA0 k).i21_ok
def i24 (k:Nat):Ti24:=(par0 k).i24
theorem i24_ok (k:Nat):Pi24 (i24 k):=(qA0 k).i24_ok
def i25 (k:Nat):Ti25:=(par0 k).i25
theorem i25_ok (k:Nat):Pi25 (i25 k):=(qA0 k).i25_ok
def i26 (k:Nat):Ti26:=(par0 k).i26
theorem i26_ok (k:Nat):Pi26 (i26 k):=(qA0 k).i26_ok
def i29 (k:Nat):Ti29:=(par0 k).i29
theorem i29_ok (k:Nat):Pi29 (i29 k):=(qA0 k).i29_ok
def i30 (k:Nat):Ti30:=(par0 k).i30
theorem i30_ok (k:Nat):Pi30 (i30 k):=(qA0 k).i30_ok
def i31 (k:Nat):Ti31:=(par0 k).i31
theorem i31_ok (k:Nat):Pi31 (i31 k):=(qA0 k).i31_ok
def i32 (k:Nat):Ti32:=(par0 k).i32
theorem i32_ok (k:Nat):Pi32 (i32 k):=(qA0 k).i32_ok
def i34 (k:Nat):Ti34:=(par0 k).i34
theorem i34_ok (k:Nat):Pi34 (i34 k):=(qA0 k).i34_ok
def i36 (k:Nat):Ti36:=(par0 k).i36
theorem i36_ok (k:Nat):Pi36 (i36 k):=(qA0 k).i36_ok
def i37 (k:Nat):Ti37:=(par0 k).i37
theorem i37_ok (k:Nat):Pi37 (i37 k):=(qA0 k).i37_ok
def i38 (k:Nat):Ti38:=(par0 k).i38
theorem i38_ok (k:Nat):Pi38 (i38 k):=(qA0 k).i38_ok
def i40 (k:Nat):Ti40:=(par0 k).i40
theorem i40_ok (k:Nat):Pi40 (i40 k):=(qA0 k).i40_ok
def i41 (k:Nat):Ti41:=(par0 k).i41
theorem i41_ok (k:Nat):Pi41 (i41 k):=(qA0 k).i41_ok
def i42 (k:Nat):Ti42:=(par0 k).i42
theorem i42_ok (k:Nat):Pi42 (i42 k):=(qA0 k).i42_ok
def i43 (k:Nat):Ti43:=(par0 k).i43
theorem i43_ok (k:Nat):Pi43 (i43 k):=(qA0 k).i43_ok
def i44 (k:Nat):Ti44:=(par0 k).i44
theorem i44_ok (k:Nat):Pi44 (i44 k):=(qA0 k).i44_ok
def i45 (k:Nat):Ti45:=(par0 k).i45
theorem i45_ok (k:Nat):Pi45 (i45 k):=(qA0 k).i45_ok
def i46 (k:Nat):Ti46:=(par0 k).i46
theorem i46_ok (k:Nat):Pi46 (i46 k):=(qA0 k).i46_ok
def i47 (k:Nat):Ti47:=(par0 k).i47
theorem i47_ok (k:Nat):Pi47 (i47 k):=(qA0 k).i47_ok
def i48 (k:Nat):Ti48:=(par0 k).i48
theorem i48_ok (k:Nat):Pi48 (i48 k):=(qA0 k).i48_ok
def i49 (k:Nat):Ti49:=(par0 k).i49
theorem i49_ok (k:Nat):Pi49 (i49 k):=(qA0 k).i49_ok
def i50 (k:Nat):Ti50:=(par0 k).i50
theorem i50_ok (k:Nat):Pi50 (i50 k):=(qA0 k).i50_ok
def i51 (k:Nat):Ti51:=(par0 k).i51
theorem i51_ok (k:Nat):Pi51 (i51 k):=(qA0 k).i51_ok
def i52 (k:Nat):Ti52:=(par0 k).i52
theorem i52_ok (k:Nat):Pi52 (i52 k):=(qA0 k).i52_ok
abbrev Ri3:Type:=(Int × Int × (List Nat) × Raw × Bool × Bool × (List (List Nat)) × (List (List Nat)))
abbrev Ti3:Type:=Int → Int → (List Nat) → Raw → Bool → Bool → (List (List Nat)) → (List (List Nat)) → (List Nat) → (List S33) → Int → Int → Option (Option Ri3)
def Xi3 (a0:Int) (a1:Int) (a2:(List Nat)) (a3:Raw) (a4:Bool) (a5:Bool) (a6:(List (List Nat))) (a7:(List (List Nat))) (a8:(List Nat)) (a9:(List S33)) (a10:Int) (a11:Int):Fx (Option Ri3):=⟨Try.prog,cx,Try.f28,fun r=>match r with | some r => .tuple [] | none => .top,3,fun r=>match r with | some r=>(mkH [⟨[.i a0],1,false⟩,⟨[.i r.1,.str r.2.2.1,q29 r.2.2.2.1,.bool r.2.2.2.2.1,.bool r.2.2.2.2.2.1,w9 r.2.2.2.2.2.2.1,w9 r.2.2.2.2.2.2.2],7,false⟩,⟨[.str a8,w34 a9,.i r.2.1,.i a11],4,false⟩]) | none=>(mkH [⟨[.i a0],1,false⟩,⟨[.i a1,.str a2,q29 a3,.bool a4,.bool a5,w9 a6,w9 a7],7,false⟩,⟨[.str a8,w34 a9,.i a10,.i a11],4,false⟩]),cxTi,cxOrd,fun r=>match r with | some _=>none | none=>some (thrown,[2]),false⟩
def Pi3 (f:Ti3):Prop := ∀ a0 a1 a2 a3 a4 a5 a6 a7 a8 a9 a10 a11,PQh (Xi3 a0 a1 a2 a3 a4 a5 a6 a7 a8 a9 a10 a11) 28 [.ptr 2 4 0,.ptr 0 1 0,.ptr 1 7 0] (f a0 a1 a2 a3 a4 a5 a6 a7 a8 a9 a10 a11)
def i3p0:Pt:=nav [] (bodyAt Try.f28)
def i3 (k:Nat) (a0:Int) (a1:Int) (a2:(List Nat)) (a3:Raw) (a4:Bool) (a5:Bool) (a6:(List (List Nat))) (a7:(List (List Nat))) (a8:(List Nat)) (a9:(List S33)) (a10:Int) (a11:Int):Option (Option Ri3) :=
 bT (i5 k a0 a8 a9 a10 a11) fun x0_2=>some (some (x0_2.1.f0,x0_2.2,x0_2.1.f1,x0_2.1.f2,x0_2.1.f3,x0_2.1.f4,x0_2.1.f5,x0_2.1.f6))
theorem i3_all (k:Nat):∀ a0 a1 a2 a3 a4 a5 a6 a7 a8 a9 a10 a11 r,i3 k a0 a1 a2 a3 a4 a5 a6 a7 a8 a9 a10 a11 = some r → CallT Try.prog 28 [.ptr 2 4 0,.ptr 0 1 0,.ptr 1 7 0] (mkH [⟨[.i a0],1,false⟩,⟨[.i a1,.str a2,q29 a3,.bool a4,.bool a5,w9 a6,w9 a7],7,false⟩,⟨[.str a8,w34 a9,.i a10,.i a11],4,false⟩]) ((Xi3 a0 a1 a2 a3 a4 a5 a6 a7 a8 a9 a10 a11).thr r) ((Xi3 a0 a1 a2 a3 a4 a5 a6 a7 a8 a9 a10 a11).enc r) ((Xi3 a0 a1 a2 a3 a4 a5 a6 a7 a8 a9 a10 a11).fin r):=by
 intro a0 a1 a2 a3 a4 a5 a6 a7 a8 a9 a10 a11 r h
 refine qA2 (Xi3 a0 a1 a2 a3 a4 a5 a6 a7 a8 a9 a10 a11) Try.func28 (by kernel_rfl) (by kernel_rfl) rfl (t:=i3 k a0 a1 a2 a3 a4 a5 a6 a7 a8 a9 a10 a11) ?_ h
 unfold i3
 refine qA (eE:=[(0,.ptr 2 4 0),(1,.ptr 0 1 0),(2,.ptr 1 7 0)]) (by kernel_rfl) ?_
 let Q1:Blk:=⟨[.i a1,.str a2,q29 a3,.bool a4,.bool a5,w9 a6,w9 a7],7,false⟩
 refine oH 3 (atN 2 (ctl1 i3p0)) [(5,.i a0),(4,.ptr 2 4 0),(0,.ptr 2 4 0),(1,.ptr 0 1 0),(2,.ptr 1 7 0)] (mkH [⟨[.i a0],1,false⟩,Q1,⟨[.str a8,w34 a9,.i a10,.i a11],4,false⟩]) ?_
 refine oX (fun (x0_2:(S28 × Int))=>n29 x0_2.1) (fun x0_2=>[⟨[.i a0],1,false⟩,Q1,⟨[.str a8,w34 a9,.i x0_2.2,.i a11],4,false⟩]) (atN 3 (ctl1 i3p0)) 6 [2] [] [] [2] [] [.ptr 2 4 0,.i a0] (i5_ok k a0 a8 a9 a10 a11) trivial (fun _=>trivial) trivial fun x0_2 hx0_2=>?_
 exact oQF 2 [⟨[.i a0],1,false⟩,⟨e29 x0_2.1,7,false⟩,⟨[.str a8,w34 a9,.i x0_2.2,.i a11],4,false⟩] 3 [] [] (.tuple []) .ps trivial
theorem i3_ok (k:Nat):Pi3 (i3 k):=fun a0 a1 a2 a3 a4 a5 a6 a7 a8 a9 a10 a11=>⟨fun x h=>i3_all k a0 a1 a2 a3 a4 a5 a6 a7 a8 a9 a10 a11 (some x) h,fun h=>⟨_,i3_all k a0 a1 a2 a3 a4 a5 a6 a7 a8 a9 a10 a11 none h⟩⟩
abbrev Ri0:Type:=(Int × Int × (List (List Nat)) × (List (List Nat)) × Int × (List Nat) × Raw × Bool × Bool)
abbrev Ti0:Type:=(List Nat) → (List S33) → Int → Int → Int → Int → (List Nat) → Raw → Bool → Bool → (List (List Nat)) → (List (List Nat)) → Option Ri0
def Xi0 (a0:(List Nat)) (a1:(List S33)) (a2:Int) (a3:Int) (a4:Int) (a5:Int) (a6:(List Nat)) (a7:Raw) (a8:Bool) (a9:Bool) (a10:(List (List Nat))) (a11:(List (List Nat))):Fx Ri0:=⟨Try.prog,cx,Try.f27,fun r => .tuple [.i r.1,.i r.2.1],2,fun r=>(mkH [⟨[.i a4],1,false⟩,⟨[.i r.2.2.2.2.1,.str r.2.2.2.2.2.1,q29 r.2.2.2.2.2.2.1,.bool r.2.2.2.2.2.2.2.1,.bool r.2.2.2.2.2.2.2.2,w9 r.2.2.1,w9 r.2.2.2.1],7,false⟩]),cxTi,cxOrd,fun _=>none,true⟩
def Pi0 (f:Ti0):Prop := ∀ a0 a1 a2 a3 a4 a5 a6 a7 a8 a9 a10 a11,PNh (Xi0 a0 a1 a2 a3 a4 a5 a6 a7 a8 a9 a10 a11) 27 [.str a0,w34 a1,.i a2,.i a3,.func 28 [] [.ptr 0 1 0,.ptr 1 7 0]] (mkH [⟨[.i a4],1,false⟩,⟨[.i a5,.str a6,q29 a7,.bool a8,.bool a9,w9 a10,w9 a11],7,false⟩]) (f a0 a1 a2 a3 a4 a5 a6 a7 a8 a9 a10 a11)
def i0p1:Pt:=nav [0,0,0,0] (nav [0] (bodyAt Try.f27))
def i0p2:Pt:=nav [0,0] i0p1
def i0p6:Pt:=nav [0,0,0] (nav [2,0,0] i0p2)
def i0p7:Pt:=nav [0,0,0] i0p6
def i0 (k:Nat) (a0:(List Nat)) (a1:(List S33)) (a2:Int) (a3:Int) (a4:Int) (a5:Int) (a6:(List Nat)) (a7:Raw) (a8:Bool) (a9:Bool) (a10:(List (List Nat))) (a11:(List (List Nat))):Option Ri0 :=
 jn (fun (z1:Bool)=>if z1 then (some ((0:Int),(8:Int),a10,a11,a5,a6,a7,a8,a9)) else (cT (i3 k a4 a5 a6 a7 a8 a9 a10 a11 a0 a1 a2 a3) (some ((0:Int),(8:Int),a10,a11,a5,a6,a7,a8,a9)) fun x0_2=>some (x0_2.2.1,(0:Int),x0_2.2.2.2.2.2.2.1,x0_2.2.2.2.2.2.2.2,x0_2.1,x0_2.2.2.1,x0_2.2.2.2.1,x0_2.2.2.2.2.1,x0_2.2.2.2.2.2.1))) (fun j1=>if (decide (a2 < 0)) then (j1 true) else (if (decide ((a1.length:Int) < a3)) then (j1 true) else (j1 (decide (a3 < a2)))))
theorem i0_all (k:Nat):∀ a0 a1 a2 a3 a4 a5 a6 a7 a8 a9 a10 a11 r,i0 k a0 a1 a2 a3 a4 a5 a6 a7 a8 a9 a10 a11 = some r → CallT Try.prog 27 [.str a0,w34 a1,.i a2,.i a3,.func 28 [] [.ptr 0 1 0,.ptr 1 7 0]] (mkH [⟨[.i a4],1,false⟩,⟨[.i a5,.str a6,q29 a7,.bool a8,.bool a9,w9 a10,w9 a11],7,false⟩]) ((Xi0 a0 a1 a2 a3 a4 a5 a6 a7 a8 a9 a10 a11).thr r) ((Xi0 a0 a1 a2 a3 a4 a5 a6 a7 a8 a9 a10 a11).enc r) ((Xi0 a0 a1 a2 a3 a4 a5 a6 a7 a8 a9 a10 a11).fin r):=by
 intro a0 a1 a2 a3 a4 a5 a6 a7 a8 a9 a10 a11 r h
 refine qA2 (Xi0 a0 a1 a2 a3 a4 a5 a6 a7 a8 a9 a10 a11) Try.func27 (by kernel_rfl) (by kernel_rfl) rfl (t:=i0 k a0 a1 a2 a3 a4 a5 a6 a7 a8 a9 a10 a11) ?_ h
 unfold i0
 refine qA (eE:=[(0,.str a0),(1,w34 a1),(2,.i a2),(3,.i a3),(4,.func 28 [] [.ptr 0 1 0,.ptr 1 7 0])]) (by kernel_rfl) ?_
 let E1:Env:=[(15,.bool (decide (a2 < 0))),(14,.bool (decide (a2 < 0))),(13,.i a2),(11,.ptr 3 1 0),(10,.ptr 2 1 0),(0,.str a0),(1,w34 a1),(2,.i a2),(3,.i a3),(4,.func 28 [] [.ptr 0 1 0,.ptr 1 7 0])]
 let Q1:Blk:=⟨[.i a5,.str a6,q29 a7,.bool a8,.bool a9,w9 a10,w9 a11],7,false⟩
 let K1:List Blk:=[⟨[.i a4],1,false⟩,Q1,⟨[.i 0],0,false⟩,⟨[.i 0],0,false⟩]
 refine oH 11 (atN 3 (ctl1 i0p1)) E1 (mkH K1) ?_
 refine oJ i0p2 (fun (z1:Bool)=>[(0,.str a0),(1,w34 a1),(2,.i a2),(3,.i a3),(4,.func 28 [] [.ptr 0 1 0,.ptr 1 7 0]),(10,.ptr 2 1 0),(11,.ptr 3 1 0),(25,.bool z1)]) (fun (z1:Bool)=>(mkH K1)) (fun z1=>?_) (fun j1 hj1=>?_)
 ·refine oS 25 (fun hb=>?_) (fun hb=>?_)
  ·let E2:Env:=[(25,.bool true),(0,.str a0),(1,w34 a1),(2,.i a2),(3,.i a3),(4,.func 28 [] [.ptr 0 1 0,.ptr 1 7 0]),(10,.ptr 2 1 0),(11,.ptr 3 1 0),(25,.bool z1)]
   exact oQF 7 [⟨[.i a4],1,false⟩,Q1,⟨[.i 0],1,false⟩,⟨[.i 8],1,false⟩] 2 [] [.i 0,.i 8] (.tuple [.i 0,.i 8]) .ps trivial
  ·let E4:Env:=[(4,.func 28 [] [.ptr 0 1 0,.ptr 1 7 0]),(10,.ptr 2 1 0),(11,.ptr 3 1 0),(12,.ptr 4 4 0)]
   let K2:List Blk:=[⟨[.i a4],1,false⟩,Q1,⟨[.i 0],0,false⟩,⟨[.i 0],0,false⟩,⟨[.str a0,w34 a1,.i a2,.i a3],0,false⟩]
   refine oLH 13 i0p6 E4 (mkH K2) ?_
   refine oR 2 (atN 1 (ctl1 i0p6)) ((32,.func 46 [] [.ptr 2 1 0,.ptr 3 1 0]) :: E4) ?_
   refine qJr (f:=46) (caps:=[.ptr 2 1 0,.ptr 3 1 0]) (by kernel_rfl) ?_
   refine okD_at (p':=(atN 2 (ctl1 i0p6))) (by kernel_rfl) ?_
   refine qE9 5 (p':=(atN 2 (ctl1 i0p7))) (eE:=((34,.ptr 4 4 0) :: (33,.func 28 [] [.ptr 0 1 0,.ptr 1 7 0]) :: (32,.func 46 [] [.ptr 2 1 0,.ptr 3 1 0]) :: E4)) (H':=(mkH K2)) (by kernel_rfl) ?_
   let Q3:Blk:=⟨[.str a0,w34 a1,.i a2,.i a3],4,false⟩
   let K3:List Blk:=[⟨[.i a4],1,false⟩,Q1,⟨[.i 0],0,false⟩,⟨[.i 0],0,false⟩,Q3]
   let K4:List Blk:=[⟨[.i a4],1,false⟩,Q1,⟨[.i 0],1,false⟩,⟨[.i 8],1,false⟩,Q3]
   refine qJt (tv:=thrown) (D:=[4]) (rc:=((0:Int),(8:Int),a10,a11,a5,a6,a7,a8,a9)) (tc:=some ((0:Int),(8:Int),a10,a11,a5,a6,a7,a8,a9)) (xs:=[.i 0,.i 8]) (v := .tuple [.i 0,.i 8]) (fi:=28) (args:=[.ptr 4 4 0,.ptr 0 1 0,.ptr 1 7 0]) (fun (x0_2:Ri3) => .tuple []) (fun (x0_2:Ri3)=>(mkH [⟨[.i a4],1,false⟩,⟨[.i x0_2.1,.str x0_2.2.2.1,q29 x0_2.2.2.2.1,.bool x0_2.2.2.2.2.1,.bool x0_2.2.2.2.2.2.1,w9 x0_2.2.2.2.2.2.2.1,w9 x0_2.2.2.2.2.2.2.2],7,false⟩,⟨[.i 0],0,false⟩,⟨[.i 0],0,false⟩,⟨[.str a0,w34 a1,.i x0_2.2.1,.i a3],4,false⟩])) (atN 3 (ctl1 i0p7)) (fun x0_2=>[(35,.tuple []),(34,.ptr 4 4 0),(33,.func 28 [] [.ptr 0 1 0,.ptr 1 7 0]),(32,.func 46 [] [.ptr 2 1 0,.ptr 3 1 0]),(4,.func 28 [] [.ptr 0 1 0,.ptr 1 7 0]),(10,.ptr 2 1 0),(11,.ptr 3 1 0),(12,.ptr 4 4 0)]) K3 [⟨[.i a4],1,false⟩,Q1] [⟨[.i 0],1,false⟩,⟨[.i 8],1,false⟩,Q3] [(10,.ptr 2 1 0),(11,.ptr 3 1 0)] [10,11] 4 rfl rfl (by kernel_rfl) (fun h=>frS 0 (M:=K3) (rs:=[0,1,4]) (ms:=[]) (mv:=[]) (mm:=[]) (D:=[4]) (xs':=[.ptr 4 4 0,.ptr 0 1 0,.ptr 1 7 0]) (.refl) ((i3_ok k a4 a5 a6 a7 a8 a9 a10 a11 a0 a1 a2 a3).2 h) trivial trivial (by kernel_rfl)) (by kernel_rfl) (by kernel_rfl) (by kernel_rfl) (by kernel_rfl) (qDt (⟨Try.prog,cx,Try.f46,fun _ => .tuple [],5,fun _=>(mkH K4),cxTi,cxOrd,fun _=>none,false⟩:Fx Unit) 5 2 (x := .iface 72 (.agg [])) qEz (by kernel_rfl) (by kernel_rfl) (by kernel_rfl) rfl rfl rfl rfl ?_) rfl (by kernel_rfl) (by kernel_rfl) (by kernel_rfl) (.pures (by kernel_rfl)) ⟨(by kernel_rfl),⟨(by kernel_rfl),trivial⟩⟩ (by kernel_rfl) (by kernel_rfl) (fun x0_2 h=>frW 0 K3 (rs:=[0,1,4]) (ms:=[]) (ms':=[]) (mv:=[]) (xs':=[.ptr 4 4 0,.ptr 0 1 0,.ptr 1 7 0]) (.refl) ((i3_ok k a4 a5 a6 a7 a8 a9 a10 a11 a0 a1 a2 a3).1 x0_2 h) trivial trivial (by kernel_rfl)) (fun _=>by kernel_rfl) (fun x0_2 hx0_2=>?_)
   ·refine oE [(2,.iface 72 (.agg [])),(5,.iface 72 (.agg [])),(0,.ptr 2 1 0),(1,.ptr 3 1 0)] ?_
    let E1:Env:=[(4,.bool true),(3,.ptr 5 0 0),(12,.bool true),(11,.agg []),(8,.tuple [.agg [],.bool true]),(10,.tuple [.agg [],.bool true]),(9,.iface 72 (.agg [])),(7,.bool true),(6,.iface 72 (.agg [])),(2,.iface 72 (.agg [])),(5,.iface 72 (.agg [])),(0,.ptr 2 1 0),(1,.ptr 3 1 0)]
    let E2:Env:=[(0,.ptr 2 1 0),(1,.ptr 3 1 0),(2,.iface 72 (.agg [])),(4,.bool true)]
    refine oLH 19 (nav [0,0,0] (nav [1,0,0] (nav [0,0] (nav [0] (restAt Try.f46))))) E2 (mkH [⟨[.i a4],1,false⟩,Q1,⟨[.i 0],0,false⟩,⟨[.i 0],0,false⟩,Q3,⟨[],0,false⟩]) ?_
    refine oH 10 .fin ((14,.bool false) :: (13,.bool true) :: E2) (mkH [⟨[.i a4],1,false⟩,Q1,⟨[.i 0],1,false⟩,⟨[.i 8],1,false⟩,Q3,⟨[],0,false⟩]) ?_
    refine qAa K4 [⟨[],0,false⟩] (by kernel_rfl) rfl (by kernel_rfl) ⟨(by kernel_rfl),⟨(by kernel_rfl),⟨(by kernel_rfl),⟨(by kernel_rfl),⟨(by kernel_rfl),trivial⟩⟩⟩⟩⟩ ?_
    exact qG3 (r:=()) (xs:=[]) (by kernel_rfl) (by kernel_rfl) (by kernel_rfl) (by kernel_rfl)
   ·let Q4:Blk:=⟨[.i x0_2.1,.str x0_2.2.2.1,q29 x0_2.2.2.2.1,.bool x0_2.2.2.2.2.1,.bool x0_2.2.2.2.2.2.1,w9 x0_2.2.2.2.2.2.2.1,w9 x0_2.2.2.2.2.2.2.2],7,false⟩
    let Q5:Blk:=⟨[.i x0_2.2.1],1,false⟩
    let Q6:Blk:=⟨[.str a0,w34 a1,.i x0_2.2.1,.i a3],4,false⟩
    let K5:List Blk:=[⟨[.i a4],1,false⟩,Q4,Q5,⟨[.i 0],1,false⟩,Q6]
    refine qE9 11 (p' := .fin) (eE:=((39,.i x0_2.2.1) :: (38,.ptr 4 4 2) :: (37,.ptr 4 4 0) :: (36,.ptr 4 4 0) :: (35,.tuple []) :: (34,.ptr 4 4 0) :: (33,.func 28 [] [.ptr 0 1 0,.ptr 1 7 0]) :: (32,.func 46 [] [.ptr 2 1 0,.ptr 3 1 0]) :: E4)) (H':=(mkH K5)) (by kernel_rfl) ?_
    refine qN3 (r:=(x0_2.2.1,(0:Int),x0_2.2.2.2.2.2.2.1,x0_2.2.2.2.2.2.2.2,x0_2.1,x0_2.2.2.1,x0_2.2.2.2.1,x0_2.2.2.2.2.1,x0_2.2.2.2.2.2.1)) (xs:=[.i x0_2.2.1,.i 0]) (v := .tuple [.i x0_2.2.1,.i 0]) K5 [⟨[.i a4],1,false⟩,Q4] [Q5,⟨[.i 0],1,false⟩,Q6] rfl rfl (qDt (⟨Try.prog,cx,Try.f46,fun _ => .tuple [],5,fun _=>(mkH K5),cxTi,cxOrd,fun _=>none,false⟩:Fx Unit) 5 2 (x := .nili) qJv (by kernel_rfl) (by kernel_rfl) (by kernel_rfl) rfl rfl rfl rfl ?_) (by kernel_rfl) (by kernel_rfl) (by kernel_rfl) (by kernel_rfl) (.pures (by kernel_rfl)) ⟨(by kernel_rfl),⟨(by kernel_rfl),trivial⟩⟩ (by kernel_rfl) (by kernel_rfl)
    let E1:Env:=[(7,.bool false),(6,.nili),(2,.nili),(5,.nili),(0,.ptr 2 1 0),(1,.ptr 3 1 0)]
    refine oH 7 .fin E1 (mkH K5) ?_
    exact qG3 (r:=()) (xs:=[]) (by kernel_rfl) (by kernel_rfl) (by kernel_rfl) (by kernel_rfl)
 ·refine oS 15 (fun hb=>?_) (fun hb=>?_)
  ·refine oLH 11 i0p2 [(0,.str a0),(1,w34 a1),(2,.i a2),(3,.i a3),(4,.func 28 [] [.ptr 0 1 0,.ptr 1 7 0]),(10,.ptr 2 1 0),(11,.ptr 3 1 0),(25,.bool true)] (mkH K1) ?_
   exact hj1 true
  ·let E8:Env:=((21,.bool (decide ((a1.length:Int) < a3))) :: (20,.bool (decide ((a1.length:Int) < a3))) :: (19,.bool (decide ((a1.length:Int) < a3))) :: (18,.i (a1.length:Int)) :: (17,w34 a1) :: (16,.i a3) :: (15,.bool false) :: E1)
   refine oH 6 (atN 9 (ctl1 i0p1)) E8 (mkH K1) ?_
   refine oS 21 (fun hb=>?_) (fun hb=>?_)
   ·refine oR 5 i0p2 ((25,.bool true) :: (24,.tuple []) :: (23,.tuple []) :: (22,.tuple []) :: (21,.bool true) :: E8) ?_
    refine oK [0,1,2,3,4,10,11,25] [(0,.str a0),(1,w34 a1),(2,.i a2),(3,.i a3),(4,.func 28 [] [.ptr 0 1 0,.ptr 1 7 0]),(10,.ptr 2 1 0),(11,.ptr 3 1 0),(25,.bool true)] ?_
    exact hj1 true
   ·refine oL 5 i0p2 [(0,.str a0),(1,w34 a1),(2,.i a2),(3,.i a3),(4,.func 28 [] [.ptr 0 1 0,.ptr 1 7 0]),(10,.ptr 2 1 0),(11,.ptr 3 1 0),(25,.bool (decide (a3 < a2)))] ?_
    exact hj1 (decide (a3 < a2))
theorem i0_ok (k:Nat):Pi0 (i0 k):=fun a0 a1 a2 a3 a4 a5 a6 a7 a8 a9 a10 a11=>fun x h=>i0_all k a0 a1 a2 a3 a4 a5 a6 a7 a8 a9 a10 a11 x h
def Xg14:Fx (S28 × Int × Int):=⟨Try.prog,cx,Try.f14,fun r => .tuple [.agg [.i r.1.f0,.str r.1.f1,q29 r.1.f2,.bool r.1.f3,.bool r.1.f4,w9 r.1.f5,w9 r.1.f6],.i r.2.1,.i r.2.2],0,fun _=>H0,cxTi,cxOrd,fun _=>none,false⟩
def g14p2:Pt:=nav [0,0,0] (nav [0,0,0] (nav [0] (bodyAt Try.f14)))
def g14p3:Pt:=nav [0,0,0] g14p2
def g14 (k:Nat) (a0:(List Nat)) (a1:(List S33)) (a2:Int) (a3:Int) (a4:Int):Option (S28 × Int × Int) :=
 (i0 k a0 a1 a2 a3 a4 (0:Int) ([]:List Nat) (⟨(([]:List S28)).length,(([]:List S28)).flatMap e29⟩:Raw) false false ([]:List (List Nat)) ([]:List (List Nat))).bind fun x0_5=>(g30 k (⟨x0_5.2.2.2.2.1,x0_5.2.2.2.2.2.1,x0_5.2.2.2.2.2.2.1,x0_5.2.2.2.2.2.2.2.1,x0_5.2.2.2.2.2.2.2.2,x0_5.2.2.1,x0_5.2.2.2.1⟩:S28) x0_5.2.1).bind fun x1_2=>some (x1_2,x0_5.1,x0_5.2.1)
theorem qOu (k:Nat) (a0:(List Nat)) (a1:(List S33)) (a2:Int) (a3:Int) (a4:Int) (r:(S28 × Int × Int)) (h:g14 k a0 a1 a2 a3 a4 = some r):PureOk Try.prog 14 [.str a0,w34 a1,.i a2,.i a3,.i a4] (.tuple [.agg [.i r.1.f0,.str r.1.f1,q29 r.1.f2,.bool r.1.f3,.bool r.1.f4,w9 r.1.f5,w9 r.1.f6],.i r.2.1,.i r.2.2]):=by
 refine qA5 Xg14 (fun _=>⟨rfl,rfl⟩) Try.func14 (by decide +kernel) (by kernel_rfl) (t:=g14 k a0 a1 a2 a3 a4) ?_ h
 unfold g14
 refine qA (eE:=[(0,.str a0),(1,w34 a1),(2,.i a2),(3,.i a3),(4,.i a4)]) (by kernel_rfl) ?_
 let E1:Env:=[(13,.ptr 2 7 0),(12,.i 0),(11,.i 0),(10,.ptr 1 7 0),(9,.ptr 0 1 0),(0,.str a0),(1,w34 a1),(2,.i a2),(3,.i a3),(4,.i a4)]
 let Q1:Blk:=⟨[.i 0,.str [],.nils,.bool false,.bool false,.nils,.nils],0,false⟩
 refine oH 12 g14p2 E1 (mkH [⟨[.i a4],0,false⟩,Q1,Q1]) ?_
 refine qCz [⟨[.i a4],0,false⟩,Q1,Q1] 2 0 [.i 0,.str [],.nils,.bool false,.bool false,.nils,.nils] [.i 0,.str [],w29 ([]:List S28),.bool false,.bool false,w9 ([]:List (List Nat)),w9 ([]:List (List Nat))] (by kernel_rfl) rfl (.cons (.cons (.nil (.cons (.cons (.nil (.nil (.refl)))))))) ?_
 let E2:Env:=((21,.func 28 [] [.ptr 0 1 0,.ptr 2 7 0]) :: (20,.i a3) :: (19,.i a2) :: (18,w34 a1) :: (17,.str a0) :: E1)
 refine oH 6 (atN 5 (ctl1 g14p2)) E2 (mkH [⟨[.i a4],0,false⟩,Q1,⟨[.i 0,.str [],w29 ([]:List S28),.bool false,.bool false,w9 ([]:List (List Nat)),w9 ([]:List (List Nat))],0,false⟩]) ?_
 refine qG6 (fun (x0_5:Ri0) => .tuple [.i x0_5.1,.i x0_5.2.1]) (fun (x0_5:Ri0)=>(mkH [⟨[.i a4],1,false⟩,Q1,⟨[.i x0_5.2.2.2.2.1,.str x0_5.2.2.2.2.2.1,q29 x0_5.2.2.2.2.2.2.1,.bool x0_5.2.2.2.2.2.2.2.1,.bool x0_5.2.2.2.2.2.2.2.2,w9 x0_5.2.2.1,w9 x0_5.2.2.2.1],7,false⟩])) (atN 6 (ctl1 g14p2)) (fun x0_5=>((22,.tuple [.i x0_5.1,.i x0_5.2.1]) :: E2)) (fi:=27) (args:=[.str a0,w34 a1,.i a2,.i a3,.func 28 [] [.ptr 0 1 0,.ptr 2 7 0]]) (by kernel_rfl) (fun x0_5 h=>frW 0 [⟨[.i a4],1,false⟩,Q1,⟨[.i 0,.str [],w29 ([]:List S28),.bool false,.bool false,w9 ([]:List (List Nat)),w9 ([]:List (List Nat))],7,false⟩] (rs:=[0,2]) (ms:=[]) (ms':=[]) (mv:=[]) (xs':=[.str a0,w34 a1,.i a2,.i a3,.func 28 [] [.ptr 0 1 0,.ptr 2 7 0]]) (.refl) (i0_ok k a0 a1 a2 a3 a4 (0:Int) ([]:List Nat) (⟨(([]:List S28)).length,(([]:List S28)).flatMap e29⟩:Raw) false false ([]:List (List Nat)) ([]:List (List Nat)) x0_5 h) trivial trivial (by kernel_rfl)) (fun _=>by kernel_rfl) (fun x0_5 hx0_5=>?_)
 let E4:Env:=[(10,.ptr 1 7 0),(13,.ptr 2 7 0),(14,.i x0_5.1),(15,.i x0_5.2.1)]
 refine oLH 7 g14p3 E4 (mkH [⟨[.i a4],1,false⟩,Q1,⟨[.i x0_5.2.2.2.2.1,.str x0_5.2.2.2.2.2.1,q29 x0_5.2.2.2.2.2.2.1,.bool x0_5.2.2.2.2.2.2.2.1,.bool x0_5.2.2.2.2.2.2.2.2,w9 x0_5.2.2.1,w9 x0_5.2.2.2.1],7,false⟩]) ?_
 refine oR 3 (atN 2 (ctl1 g14p3)) ((26,.i x0_5.2.1) :: (25,.agg [.i x0_5.2.2.2.2.1,.str x0_5.2.2.2.2.2.1,q29 x0_5.2.2.2.2.2.2.1,.bool x0_5.2.2.2.2.2.2.2.1,.bool x0_5.2.2.2.2.2.2.2.2,w9 x0_5.2.2.1,w9 x0_5.2.2.2.1]) :: E4) ?_
 refine oA (fun (x1_2:S28)=>n29 x1_2) (atN 3 (ctl1 g14p3)) 27 [.agg [.i x0_5.2.2.2.2.1,.str x0_5.2.2.2.2.2.1,q29 x0_5.2.2.2.2.2.2.1,.bool x0_5.2.2.2.2.2.2.2.1,.bool x0_5.2.2.2.2.2.2.2.2,w9 x0_5.2.2.1,w9 x0_5.2.2.2.1],.i x0_5.2.1] (g30_ok k (⟨x0_5.2.2.2.2.1,x0_5.2.2.2.2.2.1,x0_5.2.2.2.2.2.2.1,x0_5.2.2.2.2.2.2.2.1,x0_5.2.2.2.2.2.2.2.2,x0_5.2.2.1,x0_5.2.2.2.1⟩:S28) x0_5.2.1) fun x1_2 hx1_2=>?_
 exact oQ 7
def Xg17:Fx (S28 × Int):=⟨Try.prog,cx,Try.f17,fun r => .tuple [.agg [.i r.1.f0,.str r.1.f1,q29 r.1.f2,.bool r.1.f3,.bool r.1.f4,w9 r.1.f5,w9 r.1.f6],.i r.2],0,fun _=>H0,cxTi,cxOrd,fun _=>none,false⟩
def g17p1:Pt:=nav [0,0,0] (nav [0] (bodyAt Try.f17))
def g17p3:Pt:=nav [0,0] (nav [0,0,0,0] g17p1)
def g17p5:Pt:=nav [2,0,0] g17p3
def g17p7:Pt:=nav [0,0,0,0] g17p5
def g17p8:Pt:=nav [0,0] g17p7
def g17 (k:Nat) (a0:(List Nat)):Option (S28 × Int) :=
 (g13 k a0).bind fun x0_1=>if (!decide (x0_1.2 = 0)) then (some ((⟨(0:Int),([]:List Nat),⟨0,[]⟩,false,false,([]:List (List Nat)),([]:List (List Nat))⟩:S28),x0_1.2)) else ((g14 k a0 x0_1.1 (0:Int) (x0_1.1.length:Int) (0:Int)).bind fun x1_4=>jn (fun (z2:Bool)=>if z2 then (some ((⟨(0:Int),([]:List Nat),⟨0,[]⟩,false,false,([]:List (List Nat)),([]:List (List Nat))⟩:S28),(8:Int))) else (some (x1_4.1,x1_4.2.2))) (fun j2=>if (decide (x1_4.2.2 = 0)) then (j2 (!decide (x1_4.2.1 = (x0_1.1.length:Int)))) else (j2 false)))
theorem g17_ok (k:Nat) (a0:(List Nat)) (r:(S28 × Int)) (h:g17 k a0 = some r):PureOk Try.prog 17 [.str a0] (.tuple [.agg [.i r.1.f0,.str r.1.f1,q29 r.1.f2,.bool r.1.f3,.bool r.1.f4,w9 r.1.f5,w9 r.1.f6],.i r.2]):=by
 refine qA5 Xg17 (fun _=>⟨rfl,rfl⟩) Try.func17 (by decide +kernel) (by kernel_rfl) (t:=g17 k a0) ?_ h
 unfold g17
 refine qA (eE:=[(0,.str a0)]) (by kernel_rfl) ?_
 let Q1:Blk:=⟨[.i 0,.str [],.nils,.bool false,.bool false,.nils,.nils],0,false⟩
 refine oH 8 (atN 1 (ctl1 g17p1)) [(10,.str a0),(3,.i 0),(2,.ptr 0 7 0),(0,.str a0)] (mkH [Q1]) ?_
 refine oA (fun (x0_1:((List S33) × Int)) => .tuple [w34 x0_1.1,.i x0_1.2]) (atN 2 (ctl1 g17p1)) 11 [.str a0] (g13_ok k a0) fun x0_1 hx0_1=>?_
 let E2:Env:=[(0,.str a0),(2,.ptr 0 7 0),(4,w34 x0_1.1),(5,.i x0_1.2),(15,.bool (!decide (x0_1.2 = 0)))]
 refine oL 12 g17p3 E2 ?_
 refine oS 15 (fun hb=>?_) (fun hb=>?_)
 ·refine oH 9 .fin ((3,.i x0_1.2) :: (17,.i x0_1.2) :: (16,.agg [.i 0,.str [],.nils,.bool false,.bool false,.nils,.nils]) :: (15,.bool true) :: E2) (mkH [⟨[.i 0,.str [],.nils,.bool false,.bool false,.nils,.nils],7,false⟩]) ?_
  exact oT [.agg [.i 0,.str [],.nils,.bool false,.bool false,.nils,.nils],.i x0_1.2] (.tuple [.agg [.i 0,.str [],.vec 0 7 [],.bool false,.bool false,.vec 0 1 [],.vec 0 1 []],.i x0_1.2]) (.tuple (.agg (.cs (.cs (.nil (.cs (.cs (.nil (.nil .ps))))))) .ps) .ps)
 ·refine oR 8 (atN 4 (ctl1 g17p5)) ((22,.i (x0_1.1.length:Int)) :: (21,w34 x0_1.1) :: (20,w34 x0_1.1) :: (19,.str a0) :: (15,.bool false) :: E2) ?_
  refine oA (fun (x1_4:(S28 × Int × Int)) => .tuple [n29 x1_4.1,.i x1_4.2.1,.i x1_4.2.2]) (atN 5 (ctl1 g17p5)) 23 [.str a0,w34 x0_1.1,.i 0,.i (x0_1.1.length:Int),.i 0] (qOu k a0 x0_1.1 (0:Int) (x0_1.1.length:Int) (0:Int)) fun x1_4 hx1_4=>?_
  let E5:Env:=[(2,.ptr 0 7 0),(4,w34 x0_1.1),(6,.ptr 1 7 0),(7,.i x1_4.2.1),(8,.i x1_4.2.2)]
  refine oLH 11 g17p7 E5 (mkH [Q1,⟨e29 x1_4.1,7,false⟩]) ?_
  refine oR 4 (atN 3 (ctl1 g17p7)) ((29,.bool (decide (x1_4.2.2 = 0))) :: (28,.bool (decide (x1_4.2.2 = 0))) :: (27,.i x1_4.2.2) :: E5) ?_
  refine oJ g17p8 (fun (z2:Bool)=>[(2,.ptr 0 7 0),(6,.ptr 1 7 0),(8,.i x1_4.2.2),(34,.bool z2)]) (fun (z2:Bool)=>(mkH [Q1,⟨e29 x1_4.1,7,false⟩])) (fun z2=>?_) (fun j2 hj2=>?_)
  ·refine oS 34 (fun hb=>?_) (fun hb=>?_)
   ·refine oH 8 .fin [(3,.i 8),(35,.agg [.i 0,.str [],.nils,.bool false,.bool false,.nils,.nils]),(34,.bool true),(2,.ptr 0 7 0),(6,.ptr 1 7 0),(8,.i x1_4.2.2),(34,.bool z2)] (mkH [⟨[.i 0,.str [],.nils,.bool false,.bool false,.nils,.nils],7,false⟩,⟨e29 x1_4.1,7,false⟩]) ?_
    exact oT [.agg [.i 0,.str [],.nils,.bool false,.bool false,.nils,.nils],.i 8] (.tuple [.agg [.i 0,.str [],.vec 0 7 [],.bool false,.bool false,.vec 0 1 [],.vec 0 1 []],.i 8]) (.tuple (.agg (.cs (.cs (.nil (.cs (.cs (.nil (.nil .ps))))))) .ps) .ps)
   ·exact oQ 10
  ·refine oS 29 (fun hb=>?_) (fun hb=>?_)
   ·refine oLH 6 g17p8 [(2,.ptr 0 7 0),(6,.ptr 1 7 0),(8,.i x1_4.2.2),(34,.bool (!decide (x1_4.2.1 = (x0_1.1.length:Int))))] (mkH [Q1,⟨e29 x1_4.1,7,false⟩]) ?_
    exact hj2 (!decide (x1_4.2.1 = (x0_1.1.length:Int)))
   ·refine oLH 6 g17p8 [(2,.ptr 0 7 0),(6,.ptr 1 7 0),(8,.i x1_4.2.2),(34,.bool false)] (mkH [Q1,⟨e29 x1_4.1,7,false⟩]) ?_
    exact hj2 false
def fg26 (k:Nat) (a0:(List Nat)) (a1:Int):Option (S33 × Int) :=
 jn (fun (z17:Bool)=>if z17 then (some ((⟨(0:Int),([]:List Nat),(0:Int)⟩:S33),(4:Int))) else ((nthS a0 a1).bind fun x0_2=>if (decide (x0_2 = 37)) then (qGg k a0 a1 k a1) else (jn (fun (z19:Bool)=>jn (fun (z20:Int × Int)=>if (decide (z20.2 = 0)) then (some ((⟨(0:Int),([]:List Nat),(0:Int)⟩:S33),(4:Int))) else ((subL a0 (some a1) (some (fW .i64 (a1 + z20.2)))).bind fun x14_6=>some ((⟨z20.1,x14_6,a1⟩:S33),(0:Int)))) (fun j20=>if z19 then (j20 (10,1)) else ((g38 k x0_2).bind fun x2_1=>if (decide (x2_1 = 3)) then ((g39 k a0 a1).bind fun x3_2=>some (x3_2.1,x3_2.2)) else ((g38 k x0_2).bind fun x4_1=>if (decide (0 < x4_1)) then ((g38 k x0_2).bind fun x5_1=>(g40 k a0 a1).bind fun x5_4=>(subL a0 (some a1) (some (fW .i64 (a1 + fW .i64 (x5_4 - a1))))).bind fun x6_5=>(g41 k x6_5).bind fun x6_6=>if x6_6 then (j20 (8,fW .i64 (x5_4 - a1))) else (j20 (x5_1,fW .i64 (x5_4 - a1)))) else (if (decide (x0_2 = 39)) then ((g42 k a0 a1).bind fun x7_2=>j20 (1,x7_2)) else (if (decide (x0_2 = 34)) then ((g42 k a0 a1).bind fun x8_2=>j20 (6,x8_2)) else (if (decide (x0_2 = 36)) then ((g43 k a0 a1).bind fun x9_2=>j20 (5,x9_2)) else (if (decide (x0_2 = 63)) then (jn (fun (z21:Bool)=>jn (fun (z22:Int)=>jn (fun (z23:Bool)=>if z23 then ((g40 k a0 z22).bind fun x13_2=>j20 (7,fW .i64 (x13_2 - a1))) else (j20 (0,0))) (fun j23=>if (decide (z22 < (a0.length:Int))) then ((nthS a0 z22).bind fun x12_7=>(g44 k x12_7).bind fun x12_8=>if x12_8 then (j23 true) else ((nthS a0 z22).bind fun x12_12=>j23 (decide (x12_12 = 95)))) else (j23 false))) (fun j22=>if z21 then (j22 (fW .i64 (fW .i64 (a1 + 1) + 1))) else (j22 (fW .i64 (a1 + 1))))) (fun j21=>if (decide (fW .i64 (a1 + 1) < (a0.length:Int))) then ((nthS a0 (fW .i64 (a1 + 1))).bind fun x10_7=>j21 (decide (x10_7 = 63))) else (j21 false))) else ((some ((lngN (a0.drop a1.toNat):Nat):Int)).bind fun x11_2=>j20 (9,x11_2)))))))))) (fun j19=>if (decide (x0_2 = 46)) then (if (decide (fW .i64 (a1 + 1) = (a0.length:Int))) then (j19 true) else ((nthS a0 (fW .i64 (a1 + 1))).bind fun x1_12=>if (decide (x1_12 = 37)) then (j19 true) else ((g25 k a0 (fW .i64 (a1 + 1))).bind fun x1_19=>j19 (decide (fW .i64 (a1 + 1) < x1_19))))) else (j19 false))))) (fun j17=>if (decide (a1 < 0)) then (j17 true) else (j17 (decide ((a0.length:Int) ≤ a1))))
theorem fast_one {k:Nat} (hk:38 ≤ k) {s:List Nat} (hl:Sz s) (a:Int):g26 k s a = fg26 k s a:=by
 by_cases h:0 ≤ a ∧ a < (s.length:Int)
 ·obtain ⟨i,rfl⟩:∃ i:Nat,a = (i:Int):=⟨a.toNat,by omega⟩
  unfold g26 fg26
  rw [qI hk hl (by omega),Int.toNat_natCast]
 ·unfold g26 fg26
  refine ((jS (v:=true) (fun j=>?_)).trans (iT rfl rfl)).trans ((jS (v:=true) (fun j=>?_)).trans (iT rfl rfl)).symm
  ·by_cases h0:a < 0
   ·exact iT (dT h0) rfl
   ·exact iF (dF h0) (by rw [dT (by omega)])
  ·by_cases h0:a < 0
   ·exact iT (dT h0) rfl
   ·exact iF (dF h0) (by rw [dT (by omega)])
theorem qM2 {k:Nat} {s:List Nat} {i b:Nat} {r:List Nat} (h:s.drop i = b :: r) (hb:b < 128):g36 k s (i:Int) = some ((b:Int),1):=by
 have hl:=qAt h
 unfold g36
 refine (jS (v:=false) (fun j=>iF (dF (by omega)) (by rw [dF (by omega)]))).trans (iF rfl (bS (nthX rfl h) ?_))
 rw [fwI (n:=(b:Int)) (by omega) (by omega)]
 exact iT (dT (by omega)) rfl
theorem ascii_l {k:Nat} {s:List Nat} (hl:Sz s) (hb:∀ b ∈ s,b < 128):∀ (n i:Nat),s.length - i < n → qFi k s n (i:Int) = some true:=by
 intro n
 unfold Sz at hl
 induction n with
 | zero=>intro i h; omega
 | succ n ih =>
  intro i h
  rw [g24_l1_s]
  by_cases hi:i < s.length
  ·obtain ⟨b,r,h1,h2,h3,h4⟩:=dcons hi
   refine iT (dT (by omega)) (bS (qM2 h1 (hb b h3)) (iF (dF (by omega)) ?_))
   rw [fw_s (by omega)]
   exact ih (i + 1) (by omega)
  ·exact iF (dF (by omega)) rfl
theorem qJe {k:Nat} {s:List Nat} (hl:Sz s) (hb:∀ b ∈ s,b < 128) (hk:s.length < k):g24 k s = some true:=ascii_l hl hb k 0 (by omega)
end
structure Pc where
 w:List Nat
 t:List Nat
 k:Int
def txt : List Pc → List Nat
 | []=>[]
 | p :: r=>p.w ++ (p.t ++ txt r)
def tkp (i : Nat) : List Pc → List S33
 | []=>[]
 | p :: r=>⟨p.k,p.t,((i + p.w.length:Nat):Int)⟩ :: tkp (i + p.w.length + p.t.length) r
def Nb (r:List Nat):Prop:=r = [] ∨ ∃ d q,r = d :: q ∧ blkN d = false
def TokAt (t:List Nat) (k:Int) (rest:List Nat):Prop := ∀ (s:List Nat) (i:Nat),s.length < 399 → (∀ b ∈ s,b < 128) → s.drop i = t ++ rest → g26 400 s (i:Int) = some (⟨k,t,(i:Int)⟩,0)
def Sc : List Pc → Prop
 | []=>True
 | p :: r=>(∀ c ∈ p.w,blkN c = true) ∧ (∃ d q,p.t = d :: q ∧ blkN d = false) ∧ TokAt p.t p.k (txt r) ∧ Sc r
theorem qPg {c:Nat} (h:blkN c = true):c = 32 ∨ c = 9 ∨ c = 10 ∨ c = 13:=by
 simp only [blkN,Bool.or_eq_true,decide_eq_true_eq] at h
 omega
theorem blk_not {c:Nat} (h:blkN c = false):¬ c = 32 ∧ ¬ c = 9 ∧ ¬ c = 10 ∧ ¬ c = 13:=by
 simp only [blkN,Bool.or_eq_false_iff,decide_eq_false_iff_not] at h
 omega
theorem qD6 {k : Nat} {s : List Nat} {rest : List Nat} (hr : Nb rest) : ∀ (w : List Nat) (i n : Nat), s.length < 1000 → (∀ c ∈ w, blkN c = true) → s.drop i = w ++ rest → i ≤ s.length → w.length < n → qEk k s n (i : Int) = some ((i + w.length : Nat) : Int)
 | [],i,n,hl,hw,h,hi,hn=>by
  obtain ⟨n,rfl⟩:∃ m,n = m + 1:=⟨n - 1,by omega⟩
  rw [qL1]
  rcases hr with rfl | ⟨d,q,rfl,hd⟩
  ·have:s.length ≤ i:=List.drop_eq_nil_iff.1 (by simpa using h)
   exact (jS (v:=(false,(i:Int))) (fun j=>iF (dF (by omega)) rfl)).trans (iF rfl rfl)
  ·have h':s.drop i = d :: q:=by simpa using h
   have hl:=qAt h'
   obtain ⟨h1,h2,h3,h4⟩:=blk_not hd
   refine (jS (v:=(false,(i:Int))) (fun j=>iT (dT (by omega)) (bS (nthX rfl h') (iF (dF (by omega)) (bS (nthX rfl h') (iF (dF (by omega)) (bS (nthX rfl h') (iF (dF (by omega)) (bS (nthX rfl h') ?_))))))))).trans (iF rfl rfl)
   rw [dF (by omega)]
 | c :: w,i,n,hl,hw,h,hi,hn=>by
  obtain ⟨n,rfl⟩:∃ m,n = m + 1:=⟨n - 1,by omega⟩
  have h':s.drop i = c :: (w ++ rest):=h
  have hlen:=qAt h'
  have hc:=qPg (hw c List.mem_cons_self)
  rw [qL1]
  refine (jS (v:=(true,(i:Int))) (fun j=>iT (dT (by omega)) (bS (nthX rfl h') ?_))).trans (iT rfl ?_)
  ·by_cases h1:c = 32
   ·exact iT (dT (by omega)) rfl
   refine iF (dF (by omega)) (bS (nthX rfl h') ?_)
   by_cases h2:c = 9
   ·exact iT (dT (by omega)) rfl
   refine iF (dF (by omega)) (bS (nthX rfl h') ?_)
   by_cases h3:c = 10
   ·exact iT (dT (by omega)) rfl
   refine iF (dF (by omega)) (bS (nthX rfl h') ?_)
   rw [dT (by omega)]
  ·show qEk k s n (fW .i64 ((i:Int) + 1)) = _
   rw [fw_s (by omega),qD6 hr w (i + 1) n hl (fun d hd=>hw d (List.mem_cons_of_mem _ hd)) (qB8 h') (by omega) (by simpa using hn)]
   simp only [List.length_cons]
   rw [show i + 1 + w.length = i + (w.length + 1) by omega]
theorem sc_nb {p:Pc} {r:List Pc} (h:Sc (p :: r)):Nb (p.t ++ txt r):=by
 obtain ⟨-,⟨d,q,hd,hb⟩,-,-⟩:=h
 exact .inr ⟨d,q ++ txt r,by rw [hd]; rfl,hb⟩
theorem app32' {l x:List S33} (h:l.length + x.length ≤ 1000000):appS 32 l x = some (l ++ x):=by
 unfold appS
 rw [if_pos ⟨by omega,by omega⟩]
theorem scan_run {s : List Nat} (hs : s.length < 399) (hb : ∀ b ∈ s, b < 128) : ∀ (r : List Pc) (p : Pc) (i n : Nat) (acc : List S33), Sc (p :: r) → s.drop i = p.t ++ txt r → r.length + 1 < n → acc.length + r.length < 1000 →
 qFj 400 s n (i:Int) acc = some (acc ++ ⟨p.k,p.t,(i:Int)⟩ :: tkp (i + p.t.length) r,0):=by
 intro r
 induction r with
 | nil =>
  intro p i n acc hsc h hn ha
  obtain ⟨n,rfl⟩:∃ m,n = m + 1:=⟨n - 1,by omega⟩
  obtain ⟨-,⟨d,q,hd,-⟩,htok,-⟩:=hsc
  have hi:i < s.length:=by
   rcases Nat.lt_or_ge i s.length with h1 | h1
   ·exact h1
   ·rw [List.drop_eq_nil_of_le h1,hd] at h; simp at h
  have hlen:i + p.t.length = s.length:=by
   have:=congrArg List.length h
   simp only [txt,List.append_nil,List.length_drop] at this
   omega
  rw [qGh]
  refine iT (dT (by omega)) (bS (htok s i hs hb h) (iF rfl (bS (app32' (by simp; omega)) ?_)))
  show ((g25 400 s (fW .i64 ((i:Int) + (p.t.length:Int)))).bind _) = _
  rw [fw_a (by omega) (by omega)]
  have hbk:g25 400 s ((i + p.t.length:Nat):Int) = some ((i + p.t.length + ([]:List Nat).length:Nat):Int):=qD6 (rest:=[]) (.inl rfl) [] _ 400 (by omega) (fun c hc=>by cases hc) (by rw [hlen]; simp) (by omega) (by simp)
  refine bS hbk ?_
  obtain ⟨n,rfl⟩:∃ m,n = m + 1:=⟨n - 1,by simp at hn; omega⟩
  rw [qGh]
  refine (iF (dF (by simp only [List.length_nil]; omega)) ?_)
  simp [tkp]
 | cons p2 r ih =>
  intro p i n acc hsc h hn ha
  obtain ⟨n,rfl⟩:∃ m,n = m + 1:=⟨n - 1,by omega⟩
  obtain ⟨-,⟨d,q,hd,-⟩,htok,hsc2⟩:=hsc
  have hi:i < s.length:=by
   rcases Nat.lt_or_ge i s.length with h1 | h1
   ·exact h1
   ·rw [List.drop_eq_nil_of_le h1,hd] at h; simp at h
  have hd2:s.drop (i + p.t.length) = p2.w ++ (p2.t ++ txt r):=by
   rw [← List.drop_drop,h,List.drop_left]; rfl
  have hle:i + p.t.length ≤ s.length:=by
   have:=congrArg List.length h
   simp only [List.length_append,List.length_drop] at this
   omega
  have hd3:s.drop (i + p.t.length + p2.w.length) = p2.t ++ txt r:=by
   rw [← List.drop_drop,hd2,List.drop_left]
  have hle2:i + p.t.length + p2.w.length ≤ s.length:=by
   have:=congrArg List.length hd2
   simp only [List.length_append,List.length_drop] at this
   omega
  rw [qGh]
  refine iT (dT (by omega)) (bS (htok s i hs hb h) (iF rfl (bS (app32' (by simp at ha ⊢; omega)) ?_)))
  show ((g25 400 s (fW .i64 ((i:Int) + (p.t.length:Int)))).bind _) = _
  rw [fw_a (by omega) (by omega)]
  have hbk:g25 400 s ((i + p.t.length:Nat):Int) = some ((i + p.t.length + p2.w.length:Nat):Int):=qD6 (sc_nb hsc2) p2.w _ 400 (by omega) hsc2.1 hd2 hle (by omega)
  refine bS hbk ?_
  refine (ih p2 (i + p.t.length + p2.w.length) n (acc ++ [⟨p.k,p.t,(i:Int)⟩]) hsc2 hd3 (by simpa using hn) (by simp at ha ⊢; omega)).trans ?_
  simp [tkp]
theorem scan_pc {p:Pc} {r:List Pc} (hsc:Sc (p :: r)) (hs:(txt (p :: r)).length < 399) (hb:∀ b ∈ txt (p :: r),b < 128) (hn:r.length < 390):g13 400 (txt (p :: r)) = some (tkp 0 (p :: r),0):=by
 unfold g13
 have hsz:Sz (txt (p :: r)):=by unfold Sz; omega
 refine iF (dF (by omega)) (bS (qJe hsz hb (by omega)) (iF rfl ?_))
 have hbk:g25 400 (txt (p :: r)) ((0:Nat):Int) = some ((0 + p.w.length:Nat):Int):=qD6 (sc_nb hsc) p.w 0 400 (by omega) hsc.1 rfl (by omega) (by simp [txt] at hs; omega)
 refine bS hbk ?_
 have:=scan_run hs hb r p (0 + p.w.length) 400 [] hsc (by rw [Nat.zero_add,txt,List.drop_left]) (by omega) (by simp; omega)
 rw [this]
 rfl
theorem one_in {s t rest:List Nat} {i d:Nat} {q:List Nat} (h:s.drop i = t ++ rest) (ht:t = d :: q):s.drop i = d :: (q ++ rest):=by rw [h,ht]; rfl
theorem qBu {t rest:List Nat} {d:Nat} {q:List Nat} (ht:t = d :: q) (hd:begN d = 0) (hd2:¬ d = 37 ∧ ¬ d = 46 ∧ ¬ d = 39 ∧ ¬ d = 34 ∧ ¬ d = 36 ∧ ¬ d = 63) (hl:lngN (t ++ rest) = t.length):TokAt t 9 rest:=by
 intro s i hs hb h
 obtain ⟨h1,h2,h3,h4,h5,h6⟩:=hd2
 have hd':=one_in h ht
 have hlen:=qAt hd'
 have hlt:i + t.length ≤ s.length:=by
  have:=congrArg List.length h
  simp only [List.length_append,List.length_drop] at this
  omega
 have hb':d < 256:=by have:=hb d (qCg hd'); omega
 have hcls:g38 400 (d:Int) = some 0:=by rw [qEs 400 hb',hd]; rfl
 have hp:0 < t.length:=by rw [ht]; simp
 rw [fast_one (by decide) (by unfold Sz; omega)]
 unfold fg26
 refine (jS (v:=false) (fun j=>iF (dF (by omega)) (by rw [dF (by omega)]))).trans (iF rfl (bS (nthX rfl hd') ?_))
 refine iF (dF (by omega)) ((jS (v:=false) (fun j=>iF (dF (by omega)) rfl)).trans ?_)
 refine (jS (v:=(9,(t.length:Int))) (fun j=>?_)).trans ?_
 ·refine iF rfl (bS hcls (iF rfl (bS hcls (iF rfl (iF (dF (by omega)) (iF (dF (by omega)) (iF (dF (by omega)) (iF (dF (by omega)) (bS rfl ?_)))))))))
  rw [Int.toNat_natCast,h,hl]
 ·refine iF (dF (by omega)) (bS (a:=t) ?_ rfl)
  rw [fw_a (by omega) (by omega),subMid (i:=i) (j:=i + t.length) rfl rfl (by omega) hlt,List.drop_take,h]
  simp
theorem qHd {k : Nat} {s rest : List Nat} (hs : s.length < 1000) (hb : ∀ b ∈ s, b < 256) (hr : rest = [] ∨ ∃ d q, rest = d :: q ∧ inrN d = false) : ∀ (t : List Nat) (i n : Nat), (∀ c ∈ t, inrN c = true) → s.drop i = t ++ rest → i ≤ s.length → t.length < n → qEj k s n (i : Int) = some ((i + t.length : Nat) : Int)
 | [],i,n,ht,h,hi,hn=>by
  obtain ⟨n,rfl⟩:∃ m,n = m + 1:=⟨n - 1,by omega⟩
  rw [qL]
  rcases hr with rfl | ⟨d,q,rfl,hd⟩
  ·have:s.length ≤ i:=List.drop_eq_nil_iff.1 (by simpa using h)
   exact (jS (v:=(false,(i:Int))) (fun j=>iF (dF (by omega)) rfl)).trans (iF rfl rfl)
  ·have h':s.drop i = d :: q:=by simpa using h
   have hl:=qAt h'
   have:=qDh k (hb d (qCg h'))
   rw [hd] at this
   exact (jS (v:=(false,(i:Int))) (fun j=>iT (dT (by omega)) (bS (nthX rfl h') (bS this rfl)))).trans (iF rfl rfl)
 | c :: t,i,n,ht,h,hi,hn=>by
  obtain ⟨n,rfl⟩:∃ m,n = m + 1:=⟨n - 1,by omega⟩
  have h':s.drop i = c :: (t ++ rest):=h
  have hl:=qAt h'
  have:=qDh k (hb c (qCg h'))
  rw [ht c List.mem_cons_self] at this
  rw [qL]
  refine (jS (v:=(true,(i:Int))) (fun j=>iT (dT (by omega)) (bS (nthX rfl h') (bS this rfl)))).trans (iT rfl ?_)
  show qEj k s n (fW .i64 ((i:Int) + 1)) = _
  rw [fw_s (by omega),qHd hs hb hr t (i + 1) n (fun d hd=>ht d (List.mem_cons_of_mem _ hd)) (qB8 h') (by omega) (by simpa using hn)]
  simp only [List.length_cons]
  rw [show i + 1 + t.length = i + (t.length + 1) by omega]
theorem name_tok {t rest:List Nat} {d:Nat} {q:List Nat} (ht:t = d :: q) (hd:begN d = 1 ∨ begN d = 2) (hin:∀ c ∈ t,inrN c = true) (hr:rest = [] ∨ ∃ d q,rest = d :: q ∧ inrN d = false):TokAt t (if rsvN t then 8 else ((begN d:Nat):Int)) rest:=by
 intro s i hs hb h
 have hd':=one_in h ht
 have hlen:=qAt hd'
 have hlt:i + t.length ≤ s.length:=by
  have:=congrArg List.length h
  simp only [List.length_append,List.length_drop] at this
  omega
 have hb':d < 256:=by have:=hb d (qCg hd'); omega
 have hcls:g38 400 (d:Int) = some ((begN d:Nat):Int):=qEs 400 hb'
 have hp:0 < t.length:=by rw [ht]; simp
 have hne:¬ d = 37 ∧ ¬ d = 46:=by
  constructor
  ·rintro rfl; rcases hd with hd | hd <;> cases hd
  ·rintro rfl; rcases hd with hd | hd <;> cases hd
 have hinn:g40 400 s (i:Int) = some ((i + t.length:Nat):Int):=qHd (by omega) (fun b h=>by have:=hb b h; omega) hr t i 400 hin h (by omega) (by omega)
 have hsub:subL s (some (i:Int)) (some (fW .i64 ((i:Int) + (t.length:Int)))) = some t:=by
  rw [fw_a (by omega) (by omega),subMid (i:=i) (j:=i + t.length) rfl rfl (by omega) hlt,List.drop_take,h]
  simp
 have hfw:fW .i64 (((i + t.length:Nat):Int) - (i:Int)) = (t.length:Int):=by rw [fw_d (by omega) (by omega)]; congr 1; omega
 unfold g26
 refine (jS (v:=false) (fun j=>iF (dF (by omega)) (by rw [dF (by omega)]))).trans (iF rfl (bS (nthX rfl hd') ?_))
 refine iF (dF (by omega)) ((jS (v:=false) (fun j=>iF (dF (by omega)) rfl)).trans ?_)
 refine (jS (v:=((if rsvN t then 8 else ((begN d:Nat):Int)),(t.length:Int))) (fun j=>?_)).trans ?_
 ·refine iF rfl (bS hcls (iF (dF (by rcases hd with hd | hd <;> rw [hd] <;> decide)) (bS hcls (iT (dT (by rcases hd with hd | hd <;> rw [hd] <;> decide)) (bS hcls (bS hinn ?_))))))
  rw [hfw]
  refine bS hsub (bS (qGx (by decide) t) ?_)
  cases rsvN t <;> rfl
 ·exact iF (dF (by omega)) (bS hsub rfl)
abbrev Tkn:Type:=S33 × Int
def pos (to:Int) (ts:List Tkn):Int:=to - (ts.length:Int)
structure Vw (k:Nat) (s:List Nat) (L:List S33) (to:Int) (W:List Tkn):Prop where
 len:(W.length:Int) = to
 get:∀ (i:Nat) t,W[i]? = some t → nthL L (i:Int) = some t.1 ∧ g72 k s L (i:Int) = some t.2
 fin:g72 k s L to = some 0
 sm:W.length < 1000000
 fu:W.length < k
def SimN {α β:Type} (tr:α → β) (ok:α → Prop) (m1:Option β) (m2:Option α):Prop := ∀ x,m2 = some x → m1 = some (tr x) ∧ ok x
def oTh {α:Type} (ok:α → Prop):Option α → Prop:=fun o => ∀ y,o = some y → ok y
section
variable {α β γ δ:Type} {tr:α → β} {ok:α → Prop} {tr1:γ → δ} {ok1:γ → Prop}
theorem sB {m1:Option δ} {m2:Option γ} {f1:δ → Option β} {f2:γ → Option α} (h:SimN tr1 ok1 m1 m2) (k:∀ x,ok1 x → SimN tr ok (f1 (tr1 x)) (f2 x)):SimN tr ok (m1.bind f1) (m2.bind f2):=by
 intro y hy
 cases m2 with
 | none=>cases hy
 | some x =>
  obtain ⟨h1,h2⟩:=h x rfl
  rw [h1]
  exact k x h2 y hy
theorem sE {m:Option γ} {f1:γ → Option β} {f2:γ → Option α} (k:∀ x,SimN tr ok (f1 x) (f2 x)):SimN tr ok (m.bind f1) (m.bind f2):=by
 intro y hy
 cases m with
 | none=>cases hy
 | some x=>exact k x y hy
theorem sT {m1:Option (Option δ)} {m2:Option (Option γ)} {f1:δ → Option (Option β)} {f2:γ → Option (Option α)} (h:SimN (Option.map tr1) (oTh ok1) m1 m2) (k:∀ x,ok1 x → SimN (Option.map tr) (oTh ok) (f1 (tr1 x)) (f2 x)):SimN (Option.map tr) (oTh ok) (bT m1 f1) (bT m2 f2):=by
 intro y hy
 cases m2 with
 | none=>cases hy
 | some o =>
  obtain ⟨h1,h2⟩:=h o rfl
  rw [h1]
  cases o with
  | none=>cases hy; exact ⟨rfl,fun z hz=>by cases hz⟩
  | some x=>exact k x (h2 x rfl) y hy
theorem sTE {m:Option (Option γ)} {f1:γ → Option (Option β)} {f2:γ → Option (Option α)} (k:∀ x,SimN (Option.map tr) (oTh ok) (f1 x) (f2 x)):SimN (Option.map tr) (oTh ok) (bT m f1) (bT m f2):=by
 intro y hy
 cases m with
 | none=>cases hy
 | some o=>cases o with
  | none=>cases hy; exact ⟨rfl,fun z hz=>by cases hz⟩
  | some x=>exact k x y hy
theorem sI {c:Prop} [Decidable c] {A1 B1:Option β} {A2 B2:Option α} (h:SimN tr ok A1 A2) (k:SimN tr ok B1 B2):SimN tr ok (if c then A1 else B1) (if c then A2 else B2):=by
 by_cases hc:c
 ·rw [if_pos hc,if_pos hc]; exact h
 ·rw [if_neg hc,if_neg hc]; exact k
theorem sR {x:α} (h:ok x):SimN (Option.map tr) (oTh ok) (some (some (tr x))) (some (some x)):=fun y hy=>by cases hy; exact ⟨rfl,fun z hz=>by cases hz; exact h⟩
theorem sRN {x:α} (h:ok x):SimN tr ok (some (tr x)) (some x):=fun y hy=>by cases hy; exact ⟨rfl,h⟩
theorem sTh:SimN (Option.map tr) (oTh ok) (some none) (some none):=fun y hy=>by cases hy; exact ⟨rfl,fun z hz=>by cases hz⟩
theorem sZ {m:Option β}:SimN tr ok m (none:Option α):=fun y hy=>by cases hy
end
theorem sJ {α β γ δ : Type} {tr : γ → δ} {ok : γ → Prop} (tz : α → β) (okz : α → Prop) {K1 : β → Option δ} {K2 : α → Option γ} {b1 : (β → Option δ) → Option δ} {b2 : (α → Option γ) → Option γ} (hK : ∀ z, okz z → SimN tr ok (K1 (tz z)) (K2 z))
 (hb:∀ (j1:β → Option δ) (j2:α → Option γ),(∀ z,okz z → SimN tr ok (j1 (tz z)) (j2 z)) → SimN tr ok (b1 j1) (b2 j2)):SimN tr ok (jn K1 b1) (jn K2 b2):=hb K1 K2 hK
section
variable {k:Nat} {s:List Nat} {L:List S33} {to:Int} {W:List Tkn}
theorem Vw.at_ (hv:Vw k s L to W) {ts:List Tkn} (h:ts <:+ W):∃ i:Nat,pos to ts = (i:Int) ∧ i + ts.length = W.length:=by
 obtain ⟨p,rfl⟩:=h
 have:=hv.len
 rw [List.length_append] at this
 exact ⟨p.length,by unfold pos; omega,by rw [List.length_append]⟩
theorem Vw.hd (hv:Vw k s L to W) {t:Tkn} {r:List Tkn} (h:t :: r <:+ W):nthL L (pos to (t :: r)) = some t.1 ∧ g72 k s L (pos to (t :: r)) = some t.2 ∧ pos to (t :: r) < to ∧ fW .i64 (pos to (t :: r) + 1) = pos to r:=by
 obtain ⟨p,rfl⟩:=h
 have hl:=hv.len
 have hs:=hv.sm
 rw [List.length_append,List.length_cons] at hl hs
 have e:pos to (t :: r) = (p.length:Int):=by unfold pos; rw [List.length_cons]; omega
 obtain ⟨h1,h2⟩:=hv.get p.length t (by simp)
 rw [e]
 refine ⟨h1,h2,by omega,?_⟩
 rw [fw_s (by omega)]
 unfold pos
 omega
theorem qMb {t:Tkn} {r:List Tkn} (h:t :: r <:+ W):r <:+ W:=List.IsSuffix.trans (List.suffix_cons t r) h
theorem qFy:pos to [] = to:=by unfold pos; simp
def cCur : List Tkn → S33
 | []=>⟨0,[],0⟩
 | t :: r=>if t.1.f0 = 11 then cCur r else t.1
noncomputable def c9 (k:Nat) (ts:List Tkn):Option S33:=some (cCur ts)
theorem cur_l (hv : Vw k s L to W) (a : Int) : ∀ (ts : List Tkn) (n : Nat), ts <:+ W → ts.length < n → qLj k s L a to n (pos to ts) = some (cCur ts)
 | [],n,h,hn=>by
  obtain ⟨n,rfl⟩:∃ m,n = m + 1:=⟨n - 1,by omega⟩
  rw [qNb,qFy]
  exact iF (dF (by omega)) rfl
 | t :: r,n,h,hn=>by
  obtain ⟨n,rfl⟩:∃ m,n = m + 1:=⟨n - 1,by omega⟩
  obtain ⟨h1,h2,h3,h4⟩:=hv.hd h
  rw [qNb]
  refine iT (dT h3) (bS h1 ?_)
  by_cases hc:t.1.f0 = 11
  ·rw [dT hc,h4]
   simp only [cCur,hc,if_true,Bool.not_true,Bool.false_eq_true,if_false]
   exact cur_l hv a r n (qMb h) (by simp at hn; omega)
  ·rw [dF hc]
   simp only [cCur,hc,if_false,Bool.not_false,if_true]
   exact bS h1 rfl
theorem Vw.fu' (hv:Vw k s L to W) {ts:List Tkn} (h:ts <:+ W):ts.length < k:=Nat.lt_of_le_of_lt h.length_le hv.fu
theorem qHw (hv:Vw k s L to W) (ts:List Tkn) (h:ts <:+ W):SimN (fun x=>x) (fun _=>True) (i9 k s L (pos to ts) to) (c9 k ts):=by
 unfold i9 c9
 rw [cur_l hv _ ts k h (hv.fu' h)]
 exact sRN (x:=cCur ts) trivial
def cNoted : List Tkn → Bool
 | []=>false
 | t :: _=>decide (t.1.f0 = 11)
theorem qDs (hv:Vw k s L to W) {ts:List Tkn} (h:ts <:+ W):i15 k s L (pos to ts) to = some (cNoted ts):=by
 unfold i15
 cases ts with
 | nil=>rw [qFy]; exact iF (dF (by omega)) rfl
 | cons t r =>
  obtain ⟨h1,h2,h3,h4⟩:=hv.hd h
  exact iT (dT h3) (bS h1 rfl)
def cNext : List Tkn → Option (List Tkn)
 | []=>none
 | t :: r=>if t.1.f0 = 11 then none else some r
noncomputable def c11 (k:Nat) (ts:List Tkn):Option (Option (List Tkn)):=some (cNext ts)
theorem must_t (k:Nat):i16 k true = some (some ()):=rfl
theorem must_f (k:Nat):i16 k false = some none:=rfl
theorem qEp (hv:Vw k s L to W) (ts:List Tkn) (h:ts <:+ W):SimN (Option.map (fun x=>pos to x)) (oTh (fun x=>x <:+ W)) (i11 k s L (pos to ts) to) (c11 k ts):=by
 unfold i11 c11
 cases ts with
 | nil =>
  rw [show (jn (fun (z1:Unit)=>some (some (fW .i64 (pos to [] + 1)))) _:Option (Option Int)) = some none from jC (fun j=>by rw [qFy]; exact iF (dF (by omega)) (by rw [must_f]; rfl))]
  exact sTh
 | cons t r =>
  obtain ⟨h1,h2,h3,h4⟩:=hv.hd h
  by_cases hc:t.1.f0 = 11
  ·rw [show (jn (fun (z1:Unit)=>some (some (fW .i64 (pos to (t :: r) + 1)))) _:Option (Option Int)) = some none from jC (fun j=>iT (dT h3) (bS (qDs hv h) (by rw [show cNoted (t :: r) = true by simp [cNoted,hc],show (!true) = false from rfl,must_f]; rfl)))]
   rw [show cNext (t :: r) = none by simp [cNext,hc]]
   exact sTh
  ·rw [show (jn (fun (z1:Unit)=>some (some (fW .i64 (pos to (t :: r) + 1)))) _:Option (Option Int)) = some (some (pos to r)) from (jS (v:=()) (fun j=>iT (dT h3) (bS (qDs hv h) (by rw [show cNoted (t :: r) = false by simp [cNoted,hc],show (!false) = true from rfl,must_t]; rfl)))).trans (by rw [h4])]
   rw [show cNext (t :: r) = some r by simp [cNext,hc]]
   exact sR (x:=r) (qMb h)
def cNotes : List Tkn → List (List Nat) × List Tkn
 | []=>([],[])
 | t :: r=>if t.1.f0 = 11 then (t.1.f1 :: (cNotes r).1,(cNotes r).2) else ([],t :: r)
noncomputable def c12 (k:Nat) (ts:List Tkn):Option (List (List Nat) × List Tkn):=some (cNotes ts)
theorem qFn : ∀ ts : List Tkn, (cNotes ts).2 <:+ ts
 | []=>List.suffix_refl _
 | t :: r=>by
  unfold cNotes
  split
  ·exact List.IsSuffix.trans (qFn r) (List.suffix_cons t r)
  ·exact List.suffix_refl _
theorem qN4 (hv : Vw k s L to W) : ∀ (ts : List Tkn) (n : Nat) (acc : List (List Nat)), ts <:+ W → ts.length < n → acc.length + ts.length < 1000000 → qF9 k s L to n (pos to ts) acc = some (acc ++ (cNotes ts).1, pos to (cNotes ts).2)
 | [],n,acc,h,hn,ha=>by
  obtain ⟨n,rfl⟩:∃ m,n = m + 1:=⟨n - 1,by omega⟩
  rw [qKv]
  refine bS (qDs hv h) (iF rfl ?_)
  simp [cNotes]
 | t :: r,n,acc,h,hn,ha=>by
  obtain ⟨n,rfl⟩:∃ m,n = m + 1:=⟨n - 1,by omega⟩
  obtain ⟨h1,h2,h3,h4⟩:=hv.hd h
  rw [qKv]
  refine bS (qDs hv h) ?_
  by_cases hc:t.1.f0 = 11
  ·rw [show cNoted (t :: r) = true by simp [cNoted,hc]]
   refine iT rfl (bS h1 (bS (a:=acc ++ [t.1.f1]) ?_ ?_))
   ·unfold appS; rw [if_pos ⟨by simp at ha ⊢; omega,by simp at ha ⊢; omega⟩]
   ·rw [h4,qN4 hv r n (acc ++ [t.1.f1]) (qMb h) (by simp at hn; omega) (by simp at ha ⊢; omega)]
    simp [cNotes,hc]
  ·rw [show cNoted (t :: r) = false by simp [cNoted,hc]]
   refine iF rfl ?_
   simp [cNotes,hc]
theorem qAr (hv:Vw k s L to W) (ts:List Tkn) (h:ts <:+ W):SimN (fun x=>(x.1,pos to x.2)) (fun x=>x.2 <:+ W) (i12 k s L (pos to ts) to) (c12 k ts):=by
 unfold i12 c12
 rw [qN4 hv ts k [] h (hv.fu' h) (by have:=h.length_le; have:=hv.sm; simp; omega)]
 exact sRN (x:=cNotes ts) ((qFn ts).trans h)
def cNl : List Tkn → Int
 | []=>0
 | t :: _=>t.2
theorem qP2 (hv:Vw k s L to W) {ts:List Tkn} (h:ts <:+ W):g72 k s L (pos to ts) = some (cNl ts):=by
 cases ts with
 | nil=>rw [qFy]; exact hv.fin
 | cons t r=>exact (hv.hd h).2.1
noncomputable def c28 (k:Nat) (ts:List Tkn):Option Bool:=some (decide (0 < cNl ts))
theorem qPe (hv:Vw k s L to W) (ts:List Tkn) (h:ts <:+ W):SimN (fun x=>x) (fun _=>True) (i28 k s L (pos to ts) to) (c28 k ts):=by
 unfold i28 c28 g103
 rw [qP2 hv h]
 exact sRN (x:=decide (0 < cNl ts)) trivial
noncomputable def cBlank (ts:List Tkn):Option Bool:=some (decide (1 < cNl ts))
theorem qPh (hv:Vw k s L to W) {ts:List Tkn} (h:ts <:+ W):SimN (fun x=>x) (fun _=>True) (g57 k s L (pos to ts)) (cBlank ts):=by
 unfold g57 cBlank
 rw [qP2 hv h]
 exact sRN (x:=decide (1 < cNl ts)) trivial
end
theorem qM7 (k:Nat) {c:Nat} (hc:c < 256) (h:inrN c = false):g92 k (c:Int) 10 = some (-1):=by
 have w:=byteAll (f:=fun c=>inrN c || decide (g92 0 (c:Int) 10 = some (-1))) (by decide +kernel) hc
 simp only [h,Bool.false_or] at w
 exact of_decide_eq_true w
theorem qM8 (k:Nat):g92 k 49 10 = some 1:=rfl
def Ne (rest:List Nat):Prop:=rest = [] ∨ ∃ d q,rest = d :: q ∧ inrN d = false ∧ ¬ d = 46 ∧ ¬ d = 35
theorem qMj {s rest:List Nat} {i:Nat} (hs:s.length < 399) (hb:∀ b ∈ s,b < 128) (h:s.drop i = 49 :: rest) (hr:Ne rest) (b:Bool):g73 400 s (i:Int) 10 b = some 1:=by
 have hl:=qAt h
 unfold g73
 rw [show (400:Nat) = 399 + 1 from rfl,qKx]
 refine (jD ?_)
 refine iT (dT (by omega)) (bS (nthX rfl h) (bS (qM8 _) ((jS (v:=(false,(i:Int))) (fun j=>iF (by decide) rfl)).trans (iF rfl ?_))))
 show qFd 400 s (i:Int) 10 b 399 (fW .i64 ((i:Int) + 1)) = _
 rw [fw_s (by omega),show (399:Nat) = 398 + 1 from rfl,qKx]
 have hfin:some (fW .i64 (((i + 1:Nat):Int) - (i:Int))) = some (1:Int):=by rw [fwI (by omega) (by omega)]; congr 1; omega
 refine (jD ?_)
 rcases hr with rfl | ⟨d,q,rfl,hd,h1,h2⟩
 ·exact iF (dF (by simp at hl; omega)) hfin
 ·have h':=qB8 h
  have hl':=qAt h'
  have hdm:=hb d (qCg h')
  have h95:¬ d = 95:=by rintro rfl; cases hd
  refine iT (dT (by omega)) (bS (nthX rfl h') (bS (qM7 _ (by omega) hd) ((jS (v:=(true,((i + 1:Nat):Int))) (fun j=>iT (by decide) ?_)).trans (iT rfl hfin))))
  cases b with
  | false=>exact iF rfl rfl
  | true=>exact iT rfl (bS (nthX rfl h') (iF (dF (by omega)) rfl))
theorem one_tok {rest:List Nat} (hr:Ne rest):TokAt [49] 3 rest:=by
 intro s i hs hb h
 have h0:s.drop i = 49 :: rest:=h
 have hl:=qAt h0
 have hr1:=qMj hs hb h0 hr true
 have hr2:=qMj hs hb h0 hr false
 have hcls:g38 400 (49:Int) = some 3:=rfl
 have hi1:fW .i64 ((i:Int) + 1) = ((i + 1:Nat):Int):=fw_s (by omega)
 have hbr:g61 400 s (i:Int) = some 0:=by
  unfold g61
  refine bS hr1 ((jS (v:=true) (fun j=>?_)).trans (iT rfl rfl))
  rw [hi1]
  refine iF (dF (by omega)) ?_
  rcases hr with rfl | ⟨d,q,rfl,hd,h1,h2⟩
  ·exact iT (dT (by simp at hl; omega)) rfl
  ·have h':=qB8 h0
   have hl':=qAt h'
   refine iF (dF (by omega)) (bS (nthX rfl h') ?_)
   rw [dF (by omega)]; rfl
 have hwh:g62 400 s (i:Int) = some 1:=by
  unfold g62
  refine bS hr1 (bS hr2 ((jS (v:=false) (fun j=>?_)).trans ?_))
  ·rw [hi1]
   refine iT (by decide) (iT (by decide) ?_)
   rcases hr with rfl | ⟨d,q,rfl,hd,h1,h2⟩
   ·exact iF (dF (by simp at hl; omega)) rfl
   ·have h':=qB8 h0
    have hl':=qAt h'
    refine iT (dT (by omega)) (bS (nthX rfl h') ?_)
    rw [dF (by omega)]
  ·exact (jD (iF rfl rfl))
 have hsub:subL s (some (i:Int)) (some ((i + 1:Nat):Int)) = some [49]:=by
  rw [subMid (i:=i) (j:=i + 1) rfl rfl (by omega) (by omega),List.drop_take,h0]
  simp
 have hnum:g39 400 s (i:Int) = some (⟨3,[49],(i:Int)⟩,0):=by
  unfold g39
  refine bS hbr ((jS (v:=(3,1)) (fun j=>iT (by decide) (bS hwh rfl))).trans ?_)
  show (jn _ _:Option (S33 × Int)) = _
  refine (jS (v:=false) (fun j=>iF (by decide) ?_)).trans (iF rfl ?_)
  ·show (if decide (fW .i64 ((i:Int) + 1) < (s.length:Int)) then _ else _) = _
   rw [hi1]
   rcases hr with rfl | ⟨d,q,rfl,hd,h1,h2⟩
   ·exact iF (dF (by simp at hl; omega)) rfl
   ·have h':=qB8 h0
    have hl':=qAt h'
    have:=qDh 400 (c:=d) (by have:=hb d (qCg h'); omega)
    rw [hd] at this
    exact iT (dT (by omega)) (bS (nthX rfl h') (bS this rfl))
  ·refine (jS (v:=false) (fun j=>iT (by decide) ?_)).trans ?_
   ·show (if decide (fW .i64 ((i:Int) + 1) < (s.length:Int)) then _ else _) = _
    rw [hi1]
    rcases hr with rfl | ⟨d,q,rfl,hd,h1,h2⟩
    ·exact iF (dF (by simp at hl; omega)) rfl
    ·have h':=qB8 h0
     have hl':=qAt h'
     refine iT (dT (by omega)) (bS (nthX rfl h') ?_)
     rw [dF (by omega)]
   ·refine jD (iF rfl ?_)
    show (subL s (some (i:Int)) (some (fW .i64 ((i:Int) + 1)))).bind _ = _
    rw [hi1]
    exact bS hsub rfl
 unfold g26
 refine (jS (v:=false) (fun j=>iF (dF (by omega)) (by rw [dF (by omega)]))).trans (iF rfl (bS (nthX rfl h0) ?_))
 refine iF (by decide) ((jS (v:=false) (fun j=>iF (by decide) rfl)).trans ?_)
 refine jD (iF rfl (bS hcls (iT (by decide) (bS hnum rfl))))
def vwp (f : Bool) (i : Nat) : List Pc → List Tkn
 | []=>[]
 | p :: r=>(⟨p.k,p.t,((i + p.w.length:Nat):Int)⟩,if f then 0 else ((p.w.count 10:Nat):Int)) :: vwp false (i + p.w.length + p.t.length) r
theorem qHz : ∀ (ps : List Pc) (f : Bool) (i : Nat), (vwp f i ps).map (·.1) = tkp i ps
 | [],_,_=>rfl
 | p :: r,f,i=>by simp [vwp,tkp,qHz r]
theorem qDx (ps:List Pc) (f:Bool) (i:Nat):(vwp f i ps).length = ps.length:=by
 induction ps generalizing f i with
 | nil=>rfl
 | cons p r ih=>simp [vwp,ih]
theorem qM5 : ∀ (ps : List Pc) (f : Bool) (i j : Nat) (t : Tkn), (vwp f i ps)[j + 1]? = some t → ∃ (p p2 : Pc) (o : Nat) (rest : List Nat), (tkp i ps)[j]? = some ⟨p.k, p.t, ((o - p.t.length : Nat) : Int)⟩ ∧ p.t.length ≤ o - i ∧ i ≤ o ∧ t = (⟨p2.k, p2.t, ((o + p2.w.length : Nat) : Int)⟩, ((p2.w.count 10 : Nat) : Int)) ∧ (tkp i ps)[j + 1]? = some t.1 ∧ (txt ps).drop (o - i) = p2.w ++ (p2.t ++ rest) ∧ o - i ≤ (txt ps).length
 | [],f,i,j,t,h=>by simp [vwp] at h
 | [p],f,i,j,t,h=>by simp [vwp] at h
 | p :: p2 :: r,f,i,0,t,h=>by
  simp only [vwp,List.getElem?_cons_succ,List.getElem?_cons_zero,Option.some.injEq,Bool.false_eq_true,if_false] at h
  subst h
  refine ⟨p,p2,i + p.w.length + p.t.length,txt r,?_,by omega,by omega,rfl,?_,?_,?_⟩
  ·simp only [tkp,List.getElem?_cons_zero]
   rw [show i + p.w.length + p.t.length - p.t.length = i + p.w.length by omega]
  ·simp [tkp]
  ·rw [show i + p.w.length + p.t.length - i = p.w.length + p.t.length by omega,← List.drop_drop]
   simp [txt]
  ·simp [txt]; omega
 | p :: p2 :: r,f,i,j + 1,t,h=>by
  simp only [vwp,List.getElem?_cons_succ] at h
  obtain ⟨q,q2,o,rest,h1,h2,h3,h4,h5,h6,h7⟩:=qM5 (p2 :: r) false (i + p.w.length + p.t.length) j t (by simp only [vwp,List.getElem?_cons_succ]; exact h)
  refine ⟨q,q2,o,rest,?_,by omega,by omega,h4,?_,?_,?_⟩
  ·simp only [tkp,List.getElem?_cons_succ]; simpa [tkp] using h1
  ·simp only [tkp,List.getElem?_cons_succ]; simpa [tkp] using h5
  ·rw [← h6]
   have:o - i = p.w.length + (p.t.length + (o - (i + p.w.length + p.t.length))):=by omega
   rw [this,← List.drop_drop,← List.drop_drop,txt,List.drop_left,List.drop_left]
  ·rw [txt]
   simp only [List.length_append]
   omega
theorem qN5 {k : Nat} {s : List Nat} {L : List S33} {a2 : Int} {t : S33} {e : Nat} {rest : List Nat} (hs : s.length < 1000) (hL : nthL L a2 = some t) (he : t.f2 = (e : Int)) : ∀ (w : List Nat) (y n c : Nat), s.drop y = w ++ rest → y + w.length = e → e ≤ s.length → w.length < n → c + w.length < 1000 → qFe k s L a2 n (y : Int) (c : Int) = some ((c + w.count 10 : Nat) : Int)
 | [],y,n,c,h,hy,hes,hn,hc=>by
  obtain ⟨n,rfl⟩:∃ m,n = m + 1:=⟨n - 1,by omega⟩
  rw [qKy]
  refine bS hL (iF (dF (by rw [he]; simp at hy; omega)) (by simp))
 | b :: w,y,n,c,h,hy,hes,hn,hc=>by
  obtain ⟨n,rfl⟩:∃ m,n = m + 1:=⟨n - 1,by omega⟩
  have h':s.drop y = b :: (w ++ rest):=h
  simp only [List.length_cons] at hy hn hc
  rw [qKy]
  refine bS hL (iT (dT (by rw [he]; omega)) (bS (nthX rfl h') ?_))
  by_cases hb:b = 10
  ·subst hb
   refine bS (a:=((c + 1:Nat):Int)) ?_ ?_
   ·unfold i2
    exact iT (by decide) (by rw [fw_s (by omega)])
   ·rw [fw_s (by omega),qN5 hs hL he w (y + 1) n (c + 1) (qB8 h') (by omega) hes (by omega) (by omega),List.count_cons_self]
    congr 2; omega
  ·refine bS (a:=(c:Int)) ?_ ?_
   ·unfold i2
    exact iF (dF (by omega)) rfl
   ·rw [fw_s (by omega),qN5 hs hL he w (y + 1) n c (qB8 h') (by omega) hes (by omega) (by omega),List.count_cons_of_ne hb]
theorem qHc {k:Nat} {s:List Nat} {t:S33} {e:Nat} (hs:s.length < 1000) (he:t.f2 = (e:Int)) (h:e + t.f1.length ≤ s.length):g89 k s t = some true:=by
 unfold g89
 refine iT (dT (by omega)) (iT (dT (by omega)) ?_)
 rw [he,fw_d (by omega) (by omega),dT (by omega)]
theorem end_at {k:Nat} {t:S33} {e:Nat} (he:t.f2 = (e:Int)) (h:e + t.f1.length < 1000):g90 k t = some ((e + t.f1.length:Nat):Int):=by
 unfold g90
 rw [he,fw_a (by omega) (by omega)]
theorem vw_pc {ps:List Pc} (hs:(txt ps).length < 290) (hn:ps.length < 290) (k:Nat) (hk:300 ≤ k):Vw k (txt ps) (tkp 0 ps) ((tkp 0 ps).length:Int) (vwp true 0 ps):=by
 have hlen:(tkp 0 ps).length = ps.length:=by rw [← qHz ps true 0,List.length_map,qDx]
 refine ⟨by rw [hlen,qDx],?_,?_,by rw [qDx]; omega,by rw [qDx]; omega⟩
 ·intro i t h
  have h1:(tkp 0 ps)[i]? = some t.1:=by rw [← qHz ps true 0,List.getElem?_map,h]; rfl
  have hi:i < ps.length:=by have:=(List.getElem?_eq_some_iff.1 h).1; rw [qDx] at this; exact this
  have hN:∀ (j:Nat) x,(tkp 0 ps)[j]? = some x → nthL (tkp 0 ps) (j:Int) = some x:=by
   intro j x hx
   unfold nthL
   rw [if_pos (by omega),Int.toNat_natCast,hx]
  refine ⟨hN i _ h1,?_⟩
  cases i with
  | zero =>
   unfold g72
   refine (jS (v:=true) (fun j=>iT (by decide) rfl)).trans (iT rfl ?_)
   cases ps with
   | nil=>simp at hi
   | cons p r=>simp only [vwp,List.getElem?_cons_zero,Option.some.injEq] at h; subst h; rfl
  | succ j =>
   obtain ⟨p,p2,o,rest,e1,e2,e3,e4,e5,e6,e7⟩:=qM5 ps true 0 j t h
   simp only [Nat.sub_zero] at e2 e6 e7
   have hN1:nthL (tkp 0 ps) (fW .i64 (((j + 1:Nat):Int) - 1)) = some ⟨p.k,p.t,((o - p.t.length:Nat):Int)⟩:=by rw [fw_p (by omega)]; exact hN j _ e1
   have hN2:=hN (j + 1) _ e5
   have hin2:o + p2.w.length + p2.t.length ≤ (txt ps).length:=by
    have:=congrArg List.length e6
    simp only [List.length_append,List.length_drop] at this
    omega
   subst e4
   have i1:g89 k (txt ps) ⟨p.k,p.t,((o - p.t.length:Nat):Int)⟩ = some true:=qHc (by omega) rfl (by show o - p.t.length + p.t.length ≤ _; omega)
   have i2:g89 k (txt ps) ⟨p2.k,p2.t,((o + p2.w.length:Nat):Int)⟩ = some true:=qHc (by omega) rfl (by show o + p2.w.length + p2.t.length ≤ _; omega)
   have n1:g90 k ⟨p.k,p.t,((o - p.t.length:Nat):Int)⟩ = some (o:Int):=by
    have:=end_at (k:=k) (t:=⟨p.k,p.t,((o - p.t.length:Nat):Int)⟩) rfl (by show o - p.t.length + p.t.length < _; omega)
    rw [this]
    show some ((o - p.t.length + p.t.length:Nat):Int) = _
    rw [show o - p.t.length + p.t.length = o by omega]
   unfold g72
   refine (jS (v:=false) (fun q=>?_)).trans (iF rfl ?_)
   ·refine iF (dF (by omega)) (iF (dF (by omega)) (bS hN1 (bS i1 (iF rfl (bS hN2 (bS i2 (iF rfl (bS hN1 (bS n1 (bS hN2 ?_))))))))))
    rw [dF (by show ¬ ((o + p2.w.length:Nat):Int) < (o:Int); omega)]
   ·refine bS hN1 (bS n1 ?_)
    have:=qN5 (k:=k) (s:=txt ps) (L:=tkp 0 ps) (rest:=p2.t ++ rest) (by omega) hN2 (e:=o + p2.w.length) rfl p2.w o k 0 e6 rfl (by omega) (by omega) (by omega)
    simpa using this
 ·unfold g72
  refine (jS (v:=true) (fun j=>?_)).trans (iT rfl rfl)
  by_cases h0:(((tkp 0 ps).length:Nat):Int) < 1
  ·exact iT (dT h0) rfl
  ·exact iF (dF h0) (iT (dT (by omega)) rfl)
end Go.Proofs.Ythpplbkobokghaa.Am
set_option maxRecDepth 100000
set_option linter.unusedVariables false
set_option linter.unusedSimpArgs false
namespace Go.Proofs.Ythpplbkobokghaa.Am
noncomputable section
open Go
def c10 (k:Nat) (a0:(List Nat)) (a3:(List Tkn)):Option Bool :=
 (c9 k a3).bind fun x0_1=>if (decide (x0_1.f0 = 9)) then (some (eqL x0_1.f1 a0)) else (if (decide (x0_1.f0 = 8)) then (some (eqL x0_1.f1 a0)) else (some false))
def c33 (k:Nat) (a0:(List Int)) (a3:(List Tkn)):Option (Option ((List Nat) × (List Tkn))) :=
 (c9 k a3).bind fun x0_1=>(g104 k a0 x0_1.f0).bind fun x1_3=>bT (i16 k x1_3) fun x1_4=>bT (c11 k a3) fun x2_1=>some (some (x0_1.f1,x2_1))
def c22 (k:Nat) (a2:(List Tkn)):Option (Option ((List Nat) × (List Tkn))) :=
 bT (c33 k i22c0 a2) fun x0_2=>some (some (x0_2.1,x0_2.2))
def c7 (k:Nat) (a0:(List Nat)) (a3:(List Tkn)):Option (Option (Bool × (List Tkn))) :=
 (c10 k a0 a3).bind fun x0_2=>if (!x0_2) then (some (some (false,a3))) else (bT (c11 k a3) fun x1_1=>some (some (true,x1_1)))
def c23 (k:Nat) (a0:(List Nat)) (a3:(List Tkn)):Option (Option (List Tkn)) :=
 bT (c7 k a0 a3) fun x0_2=>bT (i16 k x0_2.1) fun x0_3=>some (some x0_2.2)
def c39 (k:Nat) (a2:(List Tkn)):Option (Option ((List Nat) × (List Tkn))) :=
 bT (c33 k i39c0 a2) fun x0_2=>some (some (x0_2.1,x0_2.2))
def c35 (k:Nat) (a2:(List Tkn)):Option (Option (S28 × (List Tkn))) :=
 bT (c22 k a2) fun x0_1=>bT (c7 k ([58]:List Nat) x0_1.2) fun x1_1=>jn (fun (z5:(List Nat) × (List Tkn))=>bT (c23 k ([47]:List Nat) z5.2) fun x3_1=>(catS z5.1 ([47]:List Nat)).bind fun x4_1=>bT (c39 k x3_1) fun x4_3=>(catS x4_1 x4_3.1).bind fun x4_4=>some (some ((⟨(16:Int),x4_4,⟨0,[]⟩,false,false,([]:List (List Nat)),([]:List (List Nat))⟩:S28),x4_3.2))) (fun j5=>if x1_1.1 then ((catS x0_1.1 ([58]:List Nat)).bind fun x2_1=>bT (c22 k x1_1.2) fun x2_3=>(catS x2_1 x2_3.1).bind fun x2_4=>j5 (x2_4,x2_3.2)) else (j5 (x0_1.1,x1_1.2)))
theorem qEq {k:Nat} {s:List Nat} {L:List S33} {to:Int} {W:(List Tkn)} (hv:Vw k s L to W)  (a0:(List Nat)) (a3:(List Tkn)) (h:a3 <:+ W):SimN (fun x=>x) (fun _=>True) (i10 k a0 s L (pos to a3) to) (c10 k a0 a3):=by
 unfold i10 c10
 exact sB (qHw hv a3 h) fun x0_1 hx0_1=>sI (sRN (x:=(eqL x0_1.f1 a0)) trivial) (sI (sRN (x:=(eqL x0_1.f1 a0)) trivial) (sRN (x:=false) trivial))
theorem qPd {k:Nat} {s:List Nat} {L:List S33} {to:Int} {W:(List Tkn)} (hv:Vw k s L to W)  (a0:(List Int)) (a3:(List Tkn)) (h:a3 <:+ W):SimN (Option.map (fun x=>(x.1,pos to x.2))) (oTh (fun x=>x.2 <:+ W)) (i33 k a0 s L (pos to a3) to) (c33 k a0 a3):=by
 unfold i33 c33
 exact sB (qHw hv a3 h) fun x0_1 hx0_1=>sE fun x1_3=>sTE fun x1_4=>sT (qEp hv a3 h) fun x2_1 hx2_1=>sR (x:=(x0_1.f1,x2_1)) hx2_1
theorem qJa {k:Nat} {s:List Nat} {L:List S33} {to:Int} {W:(List Tkn)} (hv:Vw k s L to W)  (a2:(List Tkn)) (h:a2 <:+ W):SimN (Option.map (fun x=>(x.1,pos to x.2))) (oTh (fun x=>x.2 <:+ W)) (i22 k s L (pos to a2) to) (c22 k a2):=by
 unfold i22 c22
 exact sT (qPd hv i22c0 a2 h) fun x0_2 hx0_2=>sR (x:=(x0_2.1,x0_2.2)) hx0_2
theorem qAm {k:Nat} {s:List Nat} {L:List S33} {to:Int} {W:(List Tkn)} (hv:Vw k s L to W)  (a0:(List Nat)) (a3:(List Tkn)) (h:a3 <:+ W):SimN (Option.map (fun x=>(x.1,pos to x.2))) (oTh (fun x=>x.2 <:+ W)) (i7 k a0 s L (pos to a3) to) (c7 k a0 a3):=by
 unfold i7 c7
 exact sB (qEq hv a0 a3 h) fun x0_2 hx0_2=>sI (sR (x:=(false,a3)) h) (sT (qEp hv a3 h) fun x1_1 hx1_1=>sR (x:=(true,x1_1)) hx1_1)
theorem qB1 {k:Nat} {s:List Nat} {L:List S33} {to:Int} {W:(List Tkn)} (hv:Vw k s L to W)  (a0:(List Nat)) (a3:(List Tkn)) (h:a3 <:+ W):SimN (Option.map (fun x=>pos to x)) (oTh (fun x=>x <:+ W)) (i23 k a0 s L (pos to a3) to) (c23 k a0 a3):=by
 unfold i23 c23
 exact sT (qAm hv a0 a3 h) fun x0_2 hx0_2=>sTE fun x0_3=>sR (x:=x0_2.2) hx0_2
theorem c39_sim {k:Nat} {s:List Nat} {L:List S33} {to:Int} {W:(List Tkn)} (hv:Vw k s L to W)  (a2:(List Tkn)) (h:a2 <:+ W):SimN (Option.map (fun x=>(x.1,pos to x.2))) (oTh (fun x=>x.2 <:+ W)) (i39 k s L (pos to a2) to) (c39 k a2):=by
 unfold i39 c39
 exact sT (qPd hv i39c0 a2 h) fun x0_2 hx0_2=>sR (x:=(x0_2.1,x0_2.2)) hx0_2
theorem c35_sim {k:Nat} {s:List Nat} {L:List S33} {to:Int} {W:(List Tkn)} (hv:Vw k s L to W)  (a2:(List Tkn)) (h:a2 <:+ W):SimN (Option.map (fun x=>(x.1,pos to x.2))) (oTh (fun x=>x.2 <:+ W)) (i35 k s L (pos to a2) to) (c35 k a2):=by
 unfold i35 c35
 exact sT (qJa hv a2 h) fun x0_1 hx0_1=>sT (qAm hv ([58]:List Nat) x0_1.2 hx0_1) fun x1_1 hx1_1=>sJ (α:=((List Nat) × (List Tkn))) (fun x=>(x.1,pos to x.2)) (fun x=>x.2 <:+ W) (fun z5 hz5=>sT (qB1 hv ([47]:List Nat) z5.2 hz5) fun x3_1 hx3_1=>sE fun x4_1=>sT (c39_sim hv x3_1 hx3_1) fun x4_3 hx4_3=>sE fun x4_4=>sR (x:=((⟨(16:Int),x4_4,⟨0,[]⟩,false,false,([]:List (List Nat)),([]:List (List Nat))⟩:S28),x4_3.2)) hx4_3) (fun j5 j5' hj5=>sI (sE fun x2_1=>sT (qJa hv x1_1.2 hx1_1) fun x2_3 hx2_3=>sE fun x2_4=>hj5 (x2_4,x2_3.2) hx2_3) (hj5 (x0_1.1,x1_1.2) hx1_1))
structure Cns where
 c5:Int → (List Tkn) → Option (Option (S28 × (List Tkn)))
 c6:(List Tkn) → Option (Option (S28 × (List Tkn)))
 c8:(List Tkn) → Option (Option (S28 × Int × (List Tkn)))
 c13:(List Tkn) → Option (Option (S28 × Bool × (List Tkn)))
 c14:S28 → Bool → (List Tkn) → Option (Option (S28 × (List Tkn)))
 c17:(List Tkn) → Option (Option (S28 × (List Tkn)))
 c18:Int → (List Nat) → Bool → Bool → (List (List Nat)) → (List (List Nat)) → (List Nat) → (List Tkn) → (List S28) → Option (Option (Int × (List Nat) × Bool × Bool × (List (List Nat)) × (List (List Nat)) × (List Tkn) × (List S28)))
 c19:(List Tkn) → Option (Option (S28 × (List Tkn)))
 c20:Int → (List Nat) → Bool → Bool → (List (List Nat)) → (List (List Nat)) → (List Nat) → (List Tkn) → (List S28) → Option (Option (Int × (List Nat) × Bool × Bool × (List (List Nat)) × (List (List Nat)) × (List Tkn) × (List S28)))
 c21:Int → (List Nat) → Bool → Bool → (List (List Nat)) → (List (List Nat)) → (List Nat) → (List Tkn) → (List S28) → Option (Option (Int × (List Nat) × Bool × Bool × (List (List Nat)) × (List (List Nat)) × (List Tkn) × (List S28)))
 c24:(List Tkn) → Option (Option (S28 × (List Tkn)))
 c25:(List Tkn) → Option (Option (S28 × (List Tkn)))
 c26:S28 → (List Tkn) → Option (Option (S28 × (List Tkn)))
 c29:(List Tkn) → Option (Option (S28 × (List Tkn)))
 c30:Int → (List Nat) → Bool → Bool → (List (List Nat)) → (List (List Nat)) → (List Tkn) → (List S28) → Option (Option (Int × (List Nat) × Bool × Bool × (List (List Nat)) × (List (List Nat)) × (List Tkn) × (List S28)))
 c31:(List Tkn) → Option (Option (S28 × (List Tkn)))
 c32:(List Tkn) → Option (Option (S28 × (List Tkn)))
 c34:(List Tkn) → Option (Option (S28 × (List Tkn)))
 c36:Int → (List Nat) → Bool → Bool → (List (List Nat)) → (List (List Nat)) → (List Tkn) → (List S28) → Option (Option (Int × (List Nat) × Bool × Bool × (List (List Nat)) × (List (List Nat)) × (List Tkn) × (List S28)))
 c37:Int → (List Nat) → Bool → Bool → (List (List Nat)) → (List (List Nat)) → (List Tkn) → (List S28) → Option (Option (Int × (List Nat) × Bool × Bool × (List (List Nat)) × (List (List Nat)) × (List Tkn) × (List S28)))
 c38:(List Tkn) → Option (Option (S28 × (List Tkn)))
 c40:(List (List Nat)) → (List Tkn) → Option (Option ((List S28) × (List Tkn)))
 c41:(List (List Nat)) → (List Tkn) → Option (Option ((List S28) × (List Tkn)))
 c42:(List (List Nat)) → (List Tkn) → Option (Option ((List S28) × (List Tkn)))
 c43:(List (List Nat)) → (List Tkn) → Option (Option ((List Tkn) × (List S28)))
 c44:(List Tkn) → Option (Option (S28 × (List Tkn)))
 c45:(List Tkn) → Option (Option (S28 × (List Tkn)))
 c46:(List Tkn) → Option (Option (S28 × (List Tkn)))
 c47:(List Nat) → S28 → S28 → (List Tkn) → Option (Option (S28 × (List Tkn)))
 c48:(List Nat) → (List Tkn) → Option (Option (S28 × (List Tkn)))
 c49:(List Tkn) → Option (Option (S28 × (List Tkn)))
 c50:(List Tkn) → Option (Option (S28 × (List Tkn)))
 c51:(List Tkn) → Option (Option (S28 × (List Tkn)))
 c52:(List Tkn) → Option (Option (S28 × (List Tkn)))
structure SimC (s:List Nat) (L:List S33) (to:Int) (W:(List Tkn)) (F:Fns0) (C:Cns):Prop where
 c5:∀ (a0:Int) (a3:(List Tkn)),a3 <:+ W → SimN (Option.map (fun x=>(x.1,pos to x.2))) (oTh (fun x=>x.2 <:+ W)) (F.i5 a0 s L (pos to a3) to) (C.c5 a0 a3)
 c6:∀ (a2:(List Tkn)),a2 <:+ W → SimN (Option.map (fun x=>(x.1,pos to x.2))) (oTh (fun x=>x.2 <:+ W)) (F.i6 s L (pos to a2) to) (C.c6 a2)
 c8:∀ (a2:(List Tkn)),a2 <:+ W → SimN (Option.map (fun x=>(x.1,x.2.1,pos to x.2.2))) (oTh (fun x=>x.2.2 <:+ W)) (F.i8 s L (pos to a2) to) (C.c8 a2)
 c13:∀ (a2:(List Tkn)),a2 <:+ W → SimN (Option.map (fun x=>(x.1,x.2.1,pos to x.2.2))) (oTh (fun x=>x.2.2 <:+ W)) (F.i13 s L (pos to a2) to) (C.c13 a2)
 c14:∀ (a0:S28) (a1:Bool) (a4:(List Tkn)),a4 <:+ W → SimN (Option.map (fun x=>(x.1,pos to x.2))) (oTh (fun x=>x.2 <:+ W)) (F.i14 a0 a1 s L (pos to a4) to) (C.c14 a0 a1 a4)
 c17:∀ (a2:(List Tkn)),a2 <:+ W → SimN (Option.map (fun x=>(x.1,pos to x.2))) (oTh (fun x=>x.2 <:+ W)) (F.i17 s L (pos to a2) to) (C.c17 a2)
 c18:∀ (a0:Int) (a1:(List Nat)) (a2:Bool) (a3:Bool) (a4:(List (List Nat))) (a5:(List (List Nat))) (a6:(List Nat)) (a9:(List Tkn)) (b1:(List S28)),a9 <:+ W → SimN (Option.map (fun x=>(x.1,x.2.1,x.2.2.1,x.2.2.2.1,x.2.2.2.2.1,x.2.2.2.2.2.1,pos to x.2.2.2.2.2.2.1,x.2.2.2.2.2.2.2))) (oTh (fun x=>x.2.2.2.2.2.2.1 <:+ W)) (F.i18 a0 a1 a2 a3 a4 a5 a6 s L (pos to a9) to b1) (C.c18 a0 a1 a2 a3 a4 a5 a6 a9 b1)
 c19:∀ (a2:(List Tkn)),a2 <:+ W → SimN (Option.map (fun x=>(x.1,pos to x.2))) (oTh (fun x=>x.2 <:+ W)) (F.i19 s L (pos to a2) to) (C.c19 a2)
 c20:∀ (a0:Int) (a1:(List Nat)) (a2:Bool) (a3:Bool) (a4:(List (List Nat))) (a5:(List (List Nat))) (a6:(List Nat)) (a9:(List Tkn)) (b1:(List S28)),a9 <:+ W → SimN (Option.map (fun x=>(x.1,x.2.1,x.2.2.1,x.2.2.2.1,x.2.2.2.2.1,x.2.2.2.2.2.1,pos to x.2.2.2.2.2.2.1,x.2.2.2.2.2.2.2))) (oTh (fun x=>x.2.2.2.2.2.2.1 <:+ W)) (F.i20 a0 a1 a2 a3 a4 a5 a6 s L (pos to a9) to b1) (C.c20 a0 a1 a2 a3 a4 a5 a6 a9 b1)
 c21:∀ (a0:Int) (a1:(List Nat)) (a2:Bool) (a3:Bool) (a4:(List (List Nat))) (a5:(List (List Nat))) (a6:(List Nat)) (a9:(List Tkn)) (b1:(List S28)),a9 <:+ W → SimN (Option.map (fun x=>(x.1,x.2.1,x.2.2.1,x.2.2.2.1,x.2.2.2.2.1,x.2.2.2.2.2.1,pos to x.2.2.2.2.2.2.1,x.2.2.2.2.2.2.2))) (oTh (fun x=>x.2.2.2.2.2.2.1 <:+ W)) (F.i21 a0 a1 a2 a3 a4 a5 a6 s L (pos to a9) to b1) (C.c21 a0 a1 a2 a3 a4 a5 a6 a9 b1)
 c24:∀ (a2:(List Tkn)),a2 <:+ W → SimN (Option.map (fun x=>(x.1,pos to x.2))) (oTh (fun x=>x.2 <:+ W)) (F.i24 s L (pos to a2) to) (C.c24 a2)
 c25:∀ (a2:(List Tkn)),a2 <:+ W → SimN (Option.map (fun x=>(x.1,pos to x.2))) (oTh (fun x=>x.2 <:+ W)) (F.i25 s L (pos to a2) to) (C.c25 a2)
 c26:∀ (a0:S28) (a3:(List Tkn)),a3 <:+ W → SimN (Option.map (fun x=>(x.1,pos to x.2))) (oTh (fun x=>x.2 <:+ W)) (F.i26 a0 s L (pos to a3) to) (C.c26 a0 a3)
 c29:∀ (a2:(List Tkn)),a2 <:+ W → SimN (Option.map (fun x=>(x.1,pos to x.2))) (oTh (fun x=>x.2 <:+ W)) (F.i29 s L (pos to a2) to) (C.c29 a2)
 c30:∀ (a0:Int) (a1:(List Nat)) (a2:Bool) (a3:Bool) (a4:(List (List Nat))) (a5:(List (List Nat))) (a8:(List Tkn)) (b1:(List S28)),a8 <:+ W → SimN (Option.map (fun x=>(x.1,x.2.1,x.2.2.1,x.2.2.2.1,x.2.2.2.2.1,x.2.2.2.2.2.1,pos to x.2.2.2.2.2.2.1,x.2.2.2.2.2.2.2))) (oTh (fun x=>x.2.2.2.2.2.2.1 <:+ W)) (F.i30 a0 a1 a2 a3 a4 a5 s L (pos to a8) to b1) (C.c30 a0 a1 a2 a3 a4 a5 a8 b1)
 c31:∀ (a2:(List Tkn)),a2 <:+ W → SimN (Option.map (fun x=>(x.1,pos to x.2))) (oTh (fun x=>x.2 <:+ W)) (F.i31 s L (pos to a2) to) (C.c31 a2)
 c32:∀ (a2:(List Tkn)),a2 <:+ W → SimN (Option.map (fun x=>(x.1,pos to x.2))) (oTh (fun x=>x.2 <:+ W)) (F.i32 s L (pos to a2) to) (C.c32 a2)
 c34:∀ (a2:(List Tkn)),a2 <:+ W → SimN (Option.map (fun x=>(x.1,pos to x.2))) (oTh (fun x=>x.2 <:+ W)) (F.i34 s L (pos to a2) to) (C.c34 a2)
 c36:∀ (a0:Int) (a1:(List Nat)) (a2:Bool) (a3:Bool) (a4:(List (List Nat))) (a5:(List (List Nat))) (a8:(List Tkn)) (b1:(List S28)),a8 <:+ W → SimN (Option.map (fun x=>(x.1,x.2.1,x.2.2.1,x.2.2.2.1,x.2.2.2.2.1,x.2.2.2.2.2.1,pos to x.2.2.2.2.2.2.1,x.2.2.2.2.2.2.2))) (oTh (fun x=>x.2.2.2.2.2.2.1 <:+ W)) (F.i36 a0 a1 a2 a3 a4 a5 s L (pos to a8) to b1) (C.c36 a0 a1 a2 a3 a4 a5 a8 b1)
 c37:∀ (a0:Int) (a1:(List Nat)) (a2:Bool) (a3:Bool) (a4:(List (List Nat))) (a5:(List (List Nat))) (a8:(List Tkn)) (b1:(List S28)),a8 <:+ W → SimN (Option.map (fun x=>(x.1,x.2.1,x.2.2.1,x.2.2.2.1,x.2.2.2.2.1,x.2.2.2.2.2.1,pos to x.2.2.2.2.2.2.1,x.2.2.2.2.2.2.2))) (oTh (fun x=>x.2.2.2.2.2.2.1 <:+ W)) (F.i37 a0 a1 a2 a3 a4 a5 s L (pos to a8) to b1) (C.c37 a0 a1 a2 a3 a4 a5 a8 b1)
 c38:∀ (a2:(List Tkn)),a2 <:+ W → SimN (Option.map (fun x=>(x.1,pos to x.2))) (oTh (fun x=>x.2 <:+ W)) (F.i38 s L (pos to a2) to) (C.c38 a2)
 c40:∀ (a0:(List (List Nat))) (a3:(List Tkn)),a3 <:+ W → SimN (Option.map (fun x=>(x.1,pos to x.2))) (oTh (fun x=>x.2 <:+ W)) (F.i40 a0 s L (pos to a3) to) (C.c40 a0 a3)
 c41:∀ (a0:(List (List Nat))) (a3:(List Tkn)),a3 <:+ W → SimN (Option.map (fun x=>(x.1,pos to x.2))) (oTh (fun x=>x.2 <:+ W)) (F.i41 a0 s L (pos to a3) to) (C.c41 a0 a3)
 c42:∀ (a0:(List (List Nat))) (a3:(List Tkn)),a3 <:+ W → SimN (Option.map (fun x=>(x.1,pos to x.2))) (oTh (fun x=>x.2 <:+ W)) (F.i42 a0 s L (pos to a3) to) (C.c42 a0 a3)
 c43:∀ (a0:(List (List Nat))) (a3:(List Tkn)),a3 <:+ W → SimN (Option.map (fun x=>(pos to x.1,x.2))) (oTh (fun x=>x.1 <:+ W)) (F.i43 a0 s L (pos to a3) to) (C.c43 a0 a3)
 c44:∀ (a2:(List Tkn)),a2 <:+ W → SimN (Option.map (fun x=>(x.1,pos to x.2))) (oTh (fun x=>x.2 <:+ W)) (F.i44 s L (pos to a2) to) (C.c44 a2)
 c45:∀ (a2:(List Tkn)),a2 <:+ W → SimN (Option.map (fun x=>(x.1,pos to x.2))) (oTh (fun x=>x.2 <:+ W)) (F.i45 s L (pos to a2) to) (C.c45 a2)
 c46:∀ (a2:(List Tkn)),a2 <:+ W → SimN (Option.map (fun x=>(x.1,pos to x.2))) (oTh (fun x=>x.2 <:+ W)) (F.i46 s L (pos to a2) to) (C.c46 a2)
 c47:∀ (a0:(List Nat)) (a1:S28) (a2:S28) (a5:(List Tkn)),a5 <:+ W → SimN (Option.map (fun x=>(x.1,pos to x.2))) (oTh (fun x=>x.2 <:+ W)) (F.i47 a0 a1 a2 s L (pos to a5) to) (C.c47 a0 a1 a2 a5)
 c48:∀ (a0:(List Nat)) (a3:(List Tkn)),a3 <:+ W → SimN (Option.map (fun x=>(x.1,pos to x.2))) (oTh (fun x=>x.2 <:+ W)) (F.i48 a0 s L (pos to a3) to) (C.c48 a0 a3)
 c49:∀ (a2:(List Tkn)),a2 <:+ W → SimN (Option.map (fun x=>(x.1,pos to x.2))) (oTh (fun x=>x.2 <:+ W)) (F.i49 s L (pos to a2) to) (C.c49 a2)
 c50:∀ (a2:(List Tkn)),a2 <:+ W → SimN (Option.map (fun x=>(x.1,pos to x.2))) (oTh (fun x=>x.2 <:+ W)) (F.i50 s L (pos to a2) to) (C.c50 a2)
 c51:∀ (a2:(List Tkn)),a2 <:+ W → SimN (Option.map (fun x=>(x.1,pos to x.2))) (oTh (fun x=>x.2 <:+ W)) (F.i51 s L (pos to a2) to) (C.c51 a2)
 c52:∀ (a2:(List Tkn)),a2 <:+ W → SimN (Option.map (fun x=>(x.1,pos to x.2))) (oTh (fun x=>x.2 <:+ W)) (F.i52 s L (pos to a2) to) (C.c52 a2)
def qP9 (k:Nat) (F:Cns) (a0:Int) (a3:(List Tkn)) (ih:Int → (List Tkn) → S28 → Option (Option (S28 × (List Tkn)))):Int → (List Tkn) → S28 → Option (Option (S28 × (List Tkn))) :=
 fun (y9_0:Int) (y9_1:(List Tkn)) (y9_2:S28)=>jn (fun (z11:(List Tkn) × S28)=>some (some (z11.2,z11.1))) (fun j11=>if (decide (a0 ≤ 9)) then ((c9 k y9_1).bind fun x3_1=>(g50 k x3_1.f1).bind fun x4_2=>(c10 k x3_1.f1 y9_1).bind fun x5_3=>jn (fun (z10:Bool × (List Tkn) × S28)=>if z10.1 then (j11 (z10.2.1,z10.2.2)) else (bT (c11 k z10.2.1) fun x6_1=>(g54 k x3_1.f1).bind fun x7_6=>bT (F.c5 x7_6 x6_1) fun x7_7=>ih x4_2 x7_7.2 (⟨14,x3_1.f1,(⟨(([z10.2.2,x7_7.1]:List S28)).length,(([z10.2.2,x7_7.1]:List S28)).flatMap e29⟩:Raw),false,false,([]:List (List Nat)),([]:List (List Nat))⟩:S28))) (fun j10=>if (!x5_3) then (j10 (true,y9_1,y9_2)) else (if (decide (x4_2 < maxI a0 1)) then (j10 (true,y9_1,y9_2)) else ((g52 k x3_1.f1).bind fun x5_15=>j10 (decide (y9_0 < x5_15),y9_1,y9_2))))) else (j11 (y9_1,y9_2)))
def qPa (k:Nat) (F:Cns) (a0:Int) (a3:(List Tkn)) (n:Nat):Int → (List Tkn) → S28 → Option (Option (S28 × (List Tkn))):=lp (fun _ _ _=>none) (qP9 k F a0 a3) n
def c5B (k:Nat) (F:Cns) (a0:Int) (a3:(List Tkn)):Option (Option (S28 × (List Tkn))) :=
 jn (fun (z8:Bool × (List Tkn))=>if z8.1 then (bT (F.c5 (0:Int) z8.2) fun x1_1=>some (some ((⟨(13:Int),([99,97,116,99,104]:List Nat),⟨(([x1_1.1]:List S28)).length,(([x1_1.1]:List S28)).flatMap e29⟩,false,false,([]:List (List Nat)),([]:List (List Nat))⟩:S28),x1_1.2))) else (bT (F.c8 z8.2) fun x2_1=>qPa k F a0 a3 k x2_1.2.1 x2_1.2.2 x2_1.1)) (fun j8=>if (decide (a0 ≤ 0)) then (bT (c7 k ([99,97,116,99,104]:List Nat) a3) fun x0_4=>j8 (x0_4.1,x0_4.2)) else (j8 (false,a3)))
def qP7 (k:Nat) (F:Cns)  (ih:(List Tkn) → (List S28) → Option (Option (S28 × (List Tkn)))):(List Tkn) → (List S28) → Option (Option (S28 × (List Tkn))) :=
 fun (y5_0:(List Tkn)) (y5_1:(List S28))=>jn (fun (z6:Bool × (List Tkn) × (List S28))=>(c12 k z6.2.1).bind fun x1_1=>bT (F.c5 (0:Int) x1_1.2) fun x2_1=>(appS 104 z6.2.2 ([(⟨x2_1.1.f0,x2_1.1.f1,x2_1.1.f2,x2_1.1.f3,z6.1,x1_1.1,x2_1.1.f6⟩:S28)]:List S28)).bind fun x3_4=>bT (c7 k ([44]:List Nat) x2_1.2) fun x4_1=>if x4_1.1 then (ih x4_1.2 x3_4) else (some (some ((⟨(25:Int),([]:List Nat),⟨(x3_4).length,(x3_4).flatMap e29⟩,false,false,([]:List (List Nat)),([]:List (List Nat))⟩:S28),x4_1.2)))) (fun j6=>if (decide (0 < (y5_1.length:Int))) then ((cBlank y5_0).bind fun x0_17=>j6 (x0_17,y5_0,y5_1)) else (j6 (false,y5_0,y5_1)))
def c6_l5 (k:Nat) (F:Cns)  (n:Nat):(List Tkn) → (List S28) → Option (Option (S28 × (List Tkn))):=lp (fun _ _=>none) (qP7 k F ) n
def c6B (k:Nat) (F:Cns) (a2:(List Tkn)):Option (Option (S28 × (List Tkn))) :=
 c6_l5 k F  k a2 ([]:List S28)
def c8B (k:Nat) (F:Cns) (a2:(List Tkn)):Option (Option (S28 × Int × (List Tkn))) :=
 (c9 k a2).bind fun x0_1=>(c10 k x0_1.f1 a2).bind fun x1_3=>jn (fun (z7:Bool)=>if z7 then (bT (c11 k a2) fun x2_1=>bT (F.c8 x2_1) fun x3_1=>(g65 k x0_1.f1).bind fun x4_7=>some (some ((⟨(13:Int),x0_1.f1,⟨(([x3_1.1]:List S28)).length,(([x3_1.1]:List S28)).flatMap e29⟩,false,false,([]:List (List Nat)),([]:List (List Nat))⟩:S28),x4_7,x3_1.2.2))) else (bT (F.c13 a2) fun x5_1=>bT (F.c14 x5_1.1 x5_1.2.1 x5_1.2.2) fun x6_3=>some (some (x6_3.1,(11:Int),x6_3.2)))) (fun j7=>if x1_3 then ((g65 k x0_1.f1).bind fun x1_7=>j7 (decide (0 < x1_7))) else (j7 false))
def c13B (k:Nat) (F:Cns) (a2:(List Tkn)):Option (Option (S28 × Bool × (List Tkn))) :=
 (c9 k a2).bind fun x0_1=>(g75 k x0_1.f0).bind fun x1_2=>if x1_2 then (bT (c11 k a2) fun x2_1=>some (some ((⟨(1:Int),x0_1.f1,⟨0,[]⟩,false,false,([]:List (List Nat)),([]:List (List Nat))⟩:S28),false,x2_1))) else (bT (c7 k ([40]:List Nat) a2) fun x3_1=>if x3_1.1 then (bT (F.c17 x3_1.2) fun x4_1=>some (some (x4_1.1,true,x4_1.2))) else (bT (c7 k ([123]:List Nat) x3_1.2) fun x5_1=>if x5_1.1 then (bT (F.c18 (4:Int) ([]:List Nat) false false ([]:List (List Nat)) ([]:List (List Nat)) ([125]:List Nat) x5_1.2 ([]:List S28)) fun x6_4=>some (some ((⟨x6_4.1,x6_4.2.1,⟨(x6_4.2.2.2.2.2.2.2).length,(x6_4.2.2.2.2.2.2.2).flatMap e29⟩,x6_4.2.2.1,x6_4.2.2.2.1,x6_4.2.2.2.2.1,x6_4.2.2.2.2.2.1⟩:S28),false,x6_4.2.2.2.2.2.2.1))) else (bT (c7 k ([91]:List Nat) x5_1.2) fun x7_1=>if x7_1.1 then (bT (F.c19 x7_1.2) fun x8_1=>some (some (x8_1.1,false,x8_1.2))) else (bT (c7 k ([60,60]:List Nat) x7_1.2) fun x9_1=>if x9_1.1 then (bT (F.c20 (6:Int) ([]:List Nat) false false ([]:List (List Nat)) ([]:List (List Nat)) ([62,62]:List Nat) x9_1.2 ([]:List S28)) fun x10_4=>some (some ((⟨x10_4.1,x10_4.2.1,⟨(x10_4.2.2.2.2.2.2.2).length,(x10_4.2.2.2.2.2.2.2).flatMap e29⟩,x10_4.2.2.1,x10_4.2.2.2.1,x10_4.2.2.2.2.1,x10_4.2.2.2.2.2.1⟩:S28),false,x10_4.2.2.2.2.2.2.1))) else (bT (c7 k ([35]:List Nat) x9_1.2) fun x11_1=>if x11_1.1 then (bT (c7 k ([123]:List Nat) x11_1.2) fun x12_1=>if x12_1.1 then (bT (F.c21 (8:Int) ([]:List Nat) false false ([]:List (List Nat)) ([]:List (List Nat)) ([125]:List Nat) x12_1.2 ([]:List S28)) fun x13_4=>some (some ((⟨x13_4.1,x13_4.2.1,⟨(x13_4.2.2.2.2.2.2.2).length,(x13_4.2.2.2.2.2.2.2).flatMap e29⟩,x13_4.2.2.1,x13_4.2.2.2.1,x13_4.2.2.2.2.1,x13_4.2.2.2.2.2.1⟩:S28),false,x13_4.2.2.2.2.2.2.1))) else (bT (c22 k x12_1.2) fun x14_1=>bT (c23 k ([123]:List Nat) x14_1.2) fun x15_1=>bT (F.c18 (10:Int) x14_1.1 false false ([]:List (List Nat)) ([]:List (List Nat)) ([125]:List Nat) x15_1 ([]:List S28)) fun x16_5=>some (some ((⟨x16_5.1,x16_5.2.1,⟨(x16_5.2.2.2.2.2.2.2).length,(x16_5.2.2.2.2.2.2.2).flatMap e29⟩,x16_5.2.2.1,x16_5.2.2.2.1,x16_5.2.2.2.2.1,x16_5.2.2.2.2.2.1⟩:S28),false,x16_5.2.2.2.2.2.2.1)))) else (bT (F.c24 x11_1.2) fun x17_1=>some (some (x17_1.1,false,x17_1.2))))))))
def qJd (k:Nat) (F:Cns) (a4:(List Tkn)) (ih:Bool → (List Tkn) → S28 → Option (Option (S28 × (List Tkn)))):Bool → (List Tkn) → S28 → Option (Option (S28 × (List Tkn))) :=
 fun (y7_0:Bool) (y7_1:(List Tkn)) (y7_2:S28)=>jn (fun (z8:Bool × Bool × (List Tkn) × S28)=>if z8.1 then (some (some (z8.2.2.2,z8.2.2.1))) else (bT (c7 k ([40]:List Nat) z8.2.2.1) fun x1_1=>jn (fun (z9:(List Tkn) × S28)=>ih false z9.1 z9.2) (fun j9=>if x1_1.1 then (bT (F.c18 (2:Int) ([]:List Nat) false false ([]:List (List Nat)) ([]:List (List Nat)) ([41]:List Nat) x1_1.2 ([z8.2.2.2]:List S28)) fun x2_6=>j9 (x2_6.2.2.2.2.2.2.1,(⟨x2_6.1,x2_6.2.1,(⟨(x2_6.2.2.2.2.2.2.2).length,(x2_6.2.2.2.2.2.2.2).flatMap e29⟩:Raw),x2_6.2.2.1,x2_6.2.2.2.1,x2_6.2.2.2.2.1,x2_6.2.2.2.2.2.1⟩:S28))) else (jn (fun (z10:Bool × (List Tkn) × S28)=>if z10.1 then (bT (F.c25 z10.2.1) fun x4_2=>j9 (x4_2.2,(⟨3,([]:List Nat),(⟨(([z10.2.2,x4_2.1]:List S28)).length,(([z10.2.2,x4_2.1]:List S28)).flatMap e29⟩:Raw),false,false,([]:List (List Nat)),([]:List (List Nat))⟩:S28))) else (bT (c7 k ([35]:List Nat) z10.2.1) fun x5_1=>if x5_1.1 then (bT (F.c26 z10.2.2 x5_1.2) fun x6_2=>j9 (x6_2.2,x6_2.1)) else (some (some (z10.2.2,x5_1.2))))) (fun j10=>if (!decide (z8.2.2.2.f0 = 3)) then (if z8.2.1 then (bT (c7 k ([58]:List Nat) x1_1.2) fun x3_13=>j10 (x3_13.1,x3_13.2,z8.2.2.2)) else (if (decide (z8.2.2.2.f0 = 1)) then (bT (c7 k ([58]:List Nat) x1_1.2) fun x3_13=>j10 (x3_13.1,x3_13.2,z8.2.2.2)) else (j10 (false,x1_1.2,z8.2.2.2)))) else (j10 (false,x1_1.2,z8.2.2.2))))))) (fun j8=>if (!y7_0) then ((g85 k y7_2).bind fun x0_4=>j8 (!x0_4,y7_0,y7_1,y7_2)) else (j8 (false,y7_0,y7_1,y7_2)))
def qPf (k:Nat) (F:Cns) (a4:(List Tkn)) (n:Nat):Bool → (List Tkn) → S28 → Option (Option (S28 × (List Tkn))):=lp (fun _ _ _=>none) (qJd k F a4) n
def c14B (k:Nat) (F:Cns) (a0:S28) (a1:Bool) (a4:(List Tkn)):Option (Option (S28 × (List Tkn))) :=
 qPf k F a4 k a1 a4 a0
def c17B (k:Nat) (F:Cns) (a2:(List Tkn)):Option (Option (S28 × (List Tkn))):=none
def qGp (k:Nat) (F:Cns) (a0:Int) (a1:(List Nat)) (a3:Bool) (a4:(List (List Nat))) (a5:(List (List Nat))) (a6:(List Nat)) (x0_1:Bool) (ih:(List (List Nat)) → (List Tkn) → (List S28) → Option (Option (Int × (List Nat) × Bool × Bool × (List (List Nat)) × (List (List Nat)) × (List Tkn) × (List S28)))):(List (List Nat)) → (List Tkn) → (List S28) → Option (Option (Int × (List Nat) × Bool × Bool × (List (List Nat)) × (List (List Nat)) × (List Tkn) × (List S28))) :=
 fun (y10_0:(List (List Nat))) (y10_1:(List Tkn)) (y10_2:(List S28))=>bT (F.c29 y10_1) fun x3_1=>(appS 104 y10_2 ([(⟨x3_1.1.f0,x3_1.1.f1,x3_1.1.f2,x3_1.1.f3,x3_1.1.f4,y10_0,x3_1.1.f6⟩:S28)]:List S28)).bind fun x4_4=>(c12 k x3_1.2).bind fun x5_1=>bT (c7 k a6 x5_1.2) fun x6_2=>if x6_2.1 then (some (some (a0,a1,x0_1,a3,a4,x5_1.1,x6_2.2,x4_4))) else (bT (i16 k (decide ((x5_1.1.length:Int) = 0))) fun x7_3=>bT (c23 k ([44]:List Nat) x6_2.2) fun x8_1=>(c12 k x8_1).bind fun x9_1=>ih x9_1.1 x9_1.2 x4_4)
def qJc (k:Nat) (F:Cns) (a0:Int) (a1:(List Nat)) (a3:Bool) (a4:(List (List Nat))) (a5:(List (List Nat))) (a6:(List Nat)) (x0_1:Bool) (n:Nat):(List (List Nat)) → (List Tkn) → (List S28) → Option (Option (Int × (List Nat) × Bool × Bool × (List (List Nat)) × (List (List Nat)) × (List Tkn) × (List S28))):=lp (fun _ _ _=>none) (qGp k F a0 a1 a3 a4 a5 a6 x0_1) n
def c18B (k:Nat) (F:Cns) (a0:Int) (a1:(List Nat)) (a2:Bool) (a3:Bool) (a4:(List (List Nat))) (a5:(List (List Nat))) (a6:(List Nat)) (a9:(List Tkn)) (b1:(List S28)):Option (Option (Int × (List Nat) × Bool × Bool × (List (List Nat)) × (List (List Nat)) × (List Tkn) × (List S28))) :=
 (c28 k a9).bind fun x0_1=>(c12 k a9).bind fun x1_1=>bT (c7 k a6 x1_1.2) fun x2_2=>if x2_2.1 then (some (some (a0,a1,x0_1,a3,a4,x1_1.1,x2_2.2,b1))) else (qJc k F a0 a1 a3 a4 a5 a6  x0_1 k x1_1.1 x2_2.2 b1)
def c19B (k:Nat) (F:Cns) (a2:(List Tkn)):Option (Option (S28 × (List Tkn))):=none
def c20B (k:Nat) (F:Cns) (a0:Int) (a1:(List Nat)) (a2:Bool) (a3:Bool) (a4:(List (List Nat))) (a5:(List (List Nat))) (a6:(List Nat)) (a9:(List Tkn)) (b1:(List S28)):Option (Option (Int × (List Nat) × Bool × Bool × (List (List Nat)) × (List (List Nat)) × (List Tkn) × (List S28))):=none
def c21B (k:Nat) (F:Cns) (a0:Int) (a1:(List Nat)) (a2:Bool) (a3:Bool) (a4:(List (List Nat))) (a5:(List (List Nat))) (a6:(List Nat)) (a9:(List Tkn)) (b1:(List S28)):Option (Option (Int × (List Nat) × Bool × Bool × (List (List Nat)) × (List (List Nat)) × (List Tkn) × (List S28))):=none
def c24B (k:Nat) (F:Cns) (a2:(List Tkn)):Option (Option (S28 × (List Tkn))) :=
 bT (c7 k ([102,117,110]:List Nat) a2) fun x0_1=>if x0_1.1 then ((c10 k ([40]:List Nat) x0_1.2).bind fun x1_1=>if x1_1 then (bT (F.c34 x0_1.2) fun x2_1=>some (some (x2_1.1,x2_1.2))) else (bT (c35 k x0_1.2) fun x3_1=>some (some (x3_1.1,x3_1.2)))) else (bT (c7 k ([99,97,115,101]:List Nat) x0_1.2) fun x4_1=>if x4_1.1 then (bT (F.c5 (0:Int) x4_1.2) fun x5_1=>bT (c23 k ([111,102]:List Nat) x5_1.2) fun x6_1=>bT (F.c36 (18:Int) ([]:List Nat) false false ([]:List (List Nat)) ([]:List (List Nat)) x6_1 ([x5_1.1]:List S28)) fun x7_4=>some (some ((⟨x7_4.1,x7_4.2.1,⟨(x7_4.2.2.2.2.2.2.2).length,(x7_4.2.2.2.2.2.2.2).flatMap e29⟩,x7_4.2.2.1,x7_4.2.2.2.1,x7_4.2.2.2.2.1,x7_4.2.2.2.2.2.1⟩:S28),x7_4.2.2.2.2.2.2.1))) else (bT (c7 k ([105,102]:List Nat) x4_1.2) fun x8_1=>if x8_1.1 then (bT (F.c37 (19:Int) ([]:List Nat) false false ([]:List (List Nat)) ([]:List (List Nat)) x8_1.2 ([]:List S28)) fun x9_4=>some (some ((⟨x9_4.1,x9_4.2.1,⟨(x9_4.2.2.2.2.2.2.2).length,(x9_4.2.2.2.2.2.2.2).flatMap e29⟩,x9_4.2.2.1,x9_4.2.2.2.1,x9_4.2.2.2.2.1,x9_4.2.2.2.2.2.1⟩:S28),x9_4.2.2.2.2.2.2.1))) else (bT (c7 k i24c0 x8_1.2) fun x10_1=>if x10_1.1 then (bT (F.c38 x10_1.2) fun x11_1=>some (some (x11_1.1,x11_1.2))) else (bT (c23 k i24c1 x10_1.2) fun x12_1=>bT (F.c6 x12_1) fun x13_1=>(c12 k x13_1.2).bind fun x14_1=>bT (c23 k ([101,110,100]:List Nat) x14_1.2) fun x15_1=>some (some ((⟨(21:Int),([]:List Nat),⟨(([x13_1.1]:List S28)).length,(([x13_1.1]:List S28)).flatMap e29⟩,false,false,([]:List (List Nat)),x14_1.1⟩:S28),x15_1))))))
def c25B (k:Nat) (F:Cns) (a2:(List Tkn)):Option (Option (S28 × (List Tkn))):=none
def c26B (k:Nat) (F:Cns) (a0:S28) (a3:(List Tkn)):Option (Option (S28 × (List Tkn))):=none
def c29B (k:Nat) (F:Cns) (a2:(List Tkn)):Option (Option (S28 × (List Tkn))) :=
 bT (F.c5 (0:Int) a2) fun x0_1=>some (some (x0_1.1,x0_1.2))
def c30B (k:Nat) (F:Cns) (a0:Int) (a1:(List Nat)) (a2:Bool) (a3:Bool) (a4:(List (List Nat))) (a5:(List (List Nat))) (a8:(List Tkn)) (b1:(List S28)):Option (Option (Int × (List Nat) × Bool × Bool × (List (List Nat)) × (List (List Nat)) × (List Tkn) × (List S28))):=none
def c31B (k:Nat) (F:Cns) (a2:(List Tkn)):Option (Option (S28 × (List Tkn))):=none
def c32B (k:Nat) (F:Cns) (a2:(List Tkn)):Option (Option (S28 × (List Tkn))):=none
def c34B (k:Nat) (F:Cns) (a2:(List Tkn)):Option (Option (S28 × (List Tkn))) :=
 bT (F.c40 ([]:List (List Nat)) a2) fun x0_2=>(c12 k x0_2.2).bind fun x1_1=>bT (c23 k ([101,110,100]:List Nat) x1_1.2) fun x2_1=>some (some ((⟨(17:Int),([]:List Nat),⟨(x0_2.1).length,(x0_2.1).flatMap e29⟩,false,false,([]:List (List Nat)),x1_1.1⟩:S28),x2_1))
def c36B (k:Nat) (F:Cns) (a0:Int) (a1:(List Nat)) (a2:Bool) (a3:Bool) (a4:(List (List Nat))) (a5:(List (List Nat))) (a8:(List Tkn)) (b1:(List S28)):Option (Option (Int × (List Nat) × Bool × Bool × (List (List Nat)) × (List (List Nat)) × (List Tkn) × (List S28))) :=
 (c12 k a8).bind fun x0_4=>bT (F.c41 x0_4.1 x0_4.2) fun x0_6=>(appS 104 b1 x0_6.1).bind fun x0_7=>(c12 k x0_6.2).bind fun x1_1=>bT (c23 k ([101,110,100]:List Nat) x1_1.2) fun x2_1=>some (some (a0,a1,a2,a3,a4,x1_1.1,x2_1,x0_7))
def c37B (k:Nat) (F:Cns) (a0:Int) (a1:(List Nat)) (a2:Bool) (a3:Bool) (a4:(List (List Nat))) (a5:(List (List Nat))) (a8:(List Tkn)) (b1:(List S28)):Option (Option (Int × (List Nat) × Bool × Bool × (List (List Nat)) × (List (List Nat)) × (List Tkn) × (List S28))) :=
 (c12 k a8).bind fun x0_4=>bT (F.c42 x0_4.1 x0_4.2) fun x0_6=>(appS 104 b1 x0_6.1).bind fun x0_7=>(c12 k x0_6.2).bind fun x1_1=>bT (c23 k ([101,110,100]:List Nat) x1_1.2) fun x2_1=>some (some (a0,a1,a2,a3,a4,x1_1.1,x2_1,x0_7))
def c38B (k:Nat) (F:Cns) (a2:(List Tkn)):Option (Option (S28 × (List Tkn))) :=
 (c12 k a2).bind fun x0_1=>(c10 k i38c0 x0_1.2).bind fun x1_1=>if (!x1_1) then (bT (F.c43 x0_1.1 x0_1.2) fun x2_4=>(c12 k x2_4.1).bind fun x3_1=>bT (c7 k i38c0 x3_1.2) fun x4_1=>if x4_1.1 then (bT (F.c5 (1:Int) x4_1.2) fun x5_1=>bT (F.c47 ([]:List Nat) (⟨23,([]:List Nat),(⟨(([x5_1.1]:List S28)).length,(([x5_1.1]:List S28)).flatMap e29⟩:Raw),false,false,([]:List (List Nat)),([]:List (List Nat))⟩:S28) (⟨24,([]:List Nat),(⟨(([]:List S28)).length,(([]:List S28)).flatMap e29⟩:Raw),false,false,([]:List (List Nat)),([]:List (List Nat))⟩:S28) x5_1.2) fun x6_3=>(appS 104 x2_4.2 ([(⟨x6_3.1.f0,x6_3.1.f1,x6_3.1.f2,x6_3.1.f3,x6_3.1.f4,x3_1.1,x6_3.1.f6⟩:S28)]:List S28)).bind fun x7_4=>(c12 k x6_3.2).bind fun x8_1=>bT (c23 k ([101,110,100]:List Nat) x8_1.2) fun x9_1=>some (some ((⟨(20:Int),i38c0,⟨(x7_4).length,(x7_4).flatMap e29⟩,false,false,([]:List (List Nat)),x8_1.1⟩:S28),x9_1))) else (bT (c23 k ([101,110,100]:List Nat) x4_1.2) fun x9_1=>some (some ((⟨(20:Int),([]:List Nat),⟨(x2_4.2).length,(x2_4.2).flatMap e29⟩,false,false,([]:List (List Nat)),x3_1.1⟩:S28),x9_1)))) else (bT (c7 k i38c0 x0_1.2) fun x4_1=>if x4_1.1 then (bT (F.c5 (1:Int) x4_1.2) fun x5_1=>bT (F.c47 ([]:List Nat) (⟨23,([]:List Nat),(⟨(([x5_1.1]:List S28)).length,(([x5_1.1]:List S28)).flatMap e29⟩:Raw),false,false,([]:List (List Nat)),([]:List (List Nat))⟩:S28) (⟨24,([]:List Nat),(⟨(([]:List S28)).length,(([]:List S28)).flatMap e29⟩:Raw),false,false,([]:List (List Nat)),([]:List (List Nat))⟩:S28) x5_1.2) fun x6_3=>(appS 104 ([]:List S28) ([(⟨x6_3.1.f0,x6_3.1.f1,x6_3.1.f2,x6_3.1.f3,x6_3.1.f4,x0_1.1,x6_3.1.f6⟩:S28)]:List S28)).bind fun x7_4=>(c12 k x6_3.2).bind fun x8_1=>bT (c23 k ([101,110,100]:List Nat) x8_1.2) fun x9_1=>some (some ((⟨(20:Int),i38c0,⟨(x7_4).length,(x7_4).flatMap e29⟩,false,false,([]:List (List Nat)),x8_1.1⟩:S28),x9_1))) else (bT (c23 k ([101,110,100]:List Nat) x4_1.2) fun x9_1=>some (some ((⟨(20:Int),([]:List Nat),⟨(([]:List S28)).length,(([]:List S28)).flatMap e29⟩,false,false,([]:List (List Nat)),x0_1.1⟩:S28),x9_1))))
def qCt (k:Nat) (F:Cns)  (ih:(List (List Nat)) → (List Tkn) → (List S28) → Option (Option ((List S28) × (List Tkn)))):(List (List Nat)) → (List Tkn) → (List S28) → Option (Option ((List S28) × (List Tkn))) :=
 fun (y4_0:(List (List Nat))) (y4_1:(List Tkn)) (y4_2:(List S28))=>bT (F.c44 y4_1) fun x0_1=>(appS 104 y4_2 ([(⟨x0_1.1.f0,x0_1.1.f1,x0_1.1.f2,x0_1.1.f3,x0_1.1.f4,y4_0,x0_1.1.f6⟩:S28)]:List S28)).bind fun x1_3=>bT (c7 k ([59]:List Nat) x0_1.2) fun x2_1=>if x2_1.1 then ((c12 k x2_1.2).bind fun x3_1=>ih x3_1.1 x3_1.2 x1_3) else (some (some (x1_3,x2_1.2)))
def qFr (k:Nat) (F:Cns)  (n:Nat):(List (List Nat)) → (List Tkn) → (List S28) → Option (Option ((List S28) × (List Tkn))):=lp (fun _ _ _=>none) (qCt k F ) n
def c40B (k:Nat) (F:Cns) (a0:(List (List Nat))) (a3:(List Tkn)):Option (Option ((List S28) × (List Tkn))) :=
 qFr k F  k a0 a3 ([]:List S28)
def qCs (k:Nat) (F:Cns)  (ih:(List (List Nat)) → (List Tkn) → (List S28) → Option (Option ((List S28) × (List Tkn)))):(List (List Nat)) → (List Tkn) → (List S28) → Option (Option ((List S28) × (List Tkn))) :=
 fun (y4_0:(List (List Nat))) (y4_1:(List Tkn)) (y4_2:(List S28))=>bT (F.c45 y4_1) fun x0_1=>(appS 104 y4_2 ([(⟨x0_1.1.f0,x0_1.1.f1,x0_1.1.f2,x0_1.1.f3,x0_1.1.f4,y4_0,x0_1.1.f6⟩:S28)]:List S28)).bind fun x1_3=>bT (c7 k ([59]:List Nat) x0_1.2) fun x2_1=>if x2_1.1 then ((c12 k x2_1.2).bind fun x3_1=>ih x3_1.1 x3_1.2 x1_3) else (some (some (x1_3,x2_1.2)))
def qFq (k:Nat) (F:Cns)  (n:Nat):(List (List Nat)) → (List Tkn) → (List S28) → Option (Option ((List S28) × (List Tkn))):=lp (fun _ _ _=>none) (qCs k F ) n
def c41B (k:Nat) (F:Cns) (a0:(List (List Nat))) (a3:(List Tkn)):Option (Option ((List S28) × (List Tkn))) :=
 qFq k F  k a0 a3 ([]:List S28)
def qCr (k:Nat) (F:Cns)  (ih:(List (List Nat)) → (List Tkn) → (List S28) → Option (Option ((List S28) × (List Tkn)))):(List (List Nat)) → (List Tkn) → (List S28) → Option (Option ((List S28) × (List Tkn))) :=
 fun (y4_0:(List (List Nat))) (y4_1:(List Tkn)) (y4_2:(List S28))=>bT (F.c46 y4_1) fun x0_1=>(appS 104 y4_2 ([(⟨x0_1.1.f0,x0_1.1.f1,x0_1.1.f2,x0_1.1.f3,x0_1.1.f4,y4_0,x0_1.1.f6⟩:S28)]:List S28)).bind fun x1_3=>bT (c7 k ([59]:List Nat) x0_1.2) fun x2_1=>if x2_1.1 then ((c12 k x2_1.2).bind fun x3_1=>ih x3_1.1 x3_1.2 x1_3) else (some (some (x1_3,x2_1.2)))
def qFp (k:Nat) (F:Cns)  (n:Nat):(List (List Nat)) → (List Tkn) → (List S28) → Option (Option ((List S28) × (List Tkn))):=lp (fun _ _ _=>none) (qCr k F ) n
def c42B (k:Nat) (F:Cns) (a0:(List (List Nat))) (a3:(List Tkn)):Option (Option ((List S28) × (List Tkn))) :=
 qFp k F  k a0 a3 ([]:List S28)
def qCq (k:Nat) (F:Cns)  (ih:(List (List Nat)) → (List Tkn) → (List S28) → Option (Option ((List Tkn) × (List S28)))):(List (List Nat)) → (List Tkn) → (List S28) → Option (Option ((List Tkn) × (List S28))) :=
 fun (y4_0:(List (List Nat))) (y4_1:(List Tkn)) (y4_2:(List S28))=>bT (F.c45 y4_1) fun x0_1=>(appS 104 y4_2 ([(⟨x0_1.1.f0,x0_1.1.f1,x0_1.1.f2,x0_1.1.f3,x0_1.1.f4,y4_0,x0_1.1.f6⟩:S28)]:List S28)).bind fun x1_3=>bT (c7 k ([59]:List Nat) x0_1.2) fun x2_1=>if x2_1.1 then ((c12 k x2_1.2).bind fun x3_1=>ih x3_1.1 x3_1.2 x1_3) else (some (some (x2_1.2,x1_3)))
def qFo (k:Nat) (F:Cns)  (n:Nat):(List (List Nat)) → (List Tkn) → (List S28) → Option (Option ((List Tkn) × (List S28))):=lp (fun _ _ _=>none) (qCq k F ) n
def c43B (k:Nat) (F:Cns) (a0:(List (List Nat))) (a3:(List Tkn)):Option (Option ((List Tkn) × (List S28))) :=
 qFo k F  k a0 a3 ([]:List S28)
def c44B (k:Nat) (F:Cns) (a2:(List Tkn)):Option (Option (S28 × (List Tkn))) :=
 bT (F.c48 ([]:List Nat) a2) fun x0_1=>some (some (x0_1.1,x0_1.2))
def c45B (k:Nat) (F:Cns) (a2:(List Tkn)):Option (Option (S28 × (List Tkn))) :=
 bT (F.c5 (1:Int) a2) fun x0_1=>bT (F.c49 x0_1.2) fun x1_3=>bT (F.c47 ([]:List Nat) (⟨23,([]:List Nat),(⟨(([x0_1.1]:List S28)).length,(([x0_1.1]:List S28)).flatMap e29⟩:Raw),false,false,([]:List (List Nat)),([]:List (List Nat))⟩:S28) x1_3.1 x1_3.2) fun x1_4=>some (some (x1_4.1,x1_4.2))
def c46B (k:Nat) (F:Cns) (a2:(List Tkn)):Option (Option (S28 × (List Tkn))) :=
 bT (F.c50 a2) fun x0_3=>bT (F.c47 ([]:List Nat) (⟨23,([]:List Nat),(⟨(([]:List S28)).length,(([]:List S28)).flatMap e29⟩:Raw),false,false,([]:List (List Nat)),([]:List (List Nat))⟩:S28) x0_3.1 x0_3.2) fun x0_4=>some (some (x0_4.1,x0_4.2))
def c47B (k:Nat) (F:Cns) (a0:(List Nat)) (a1:S28) (a2:S28) (a5:(List Tkn)):Option (Option (S28 × (List Tkn))) :=
 bT (c23 k ([45,62]:List Nat) a5) fun x0_1=>(c28 k x0_1).bind fun x1_2=>bT (F.c6 x0_1) fun x2_3=>some (some ((⟨(22:Int),a0,⟨(([a1,a2,x2_3.1]:List S28)).length,(([a1,a2,x2_3.1]:List S28)).flatMap e29⟩,x1_2,false,([]:List (List Nat)),([]:List (List Nat))⟩:S28),x2_3.2))
def c48B (k:Nat) (F:Cns) (a0:(List Nat)) (a3:(List Tkn)):Option (Option (S28 × (List Tkn))) :=
 bT (F.c51 a3) fun x0_1=>bT (F.c49 x0_1.2) fun x1_4=>bT (F.c47 a0 x0_1.1 x1_4.1 x1_4.2) fun x1_5=>some (some (x1_5.1,x1_5.2))
def c49B (k:Nat) (F:Cns) (a2:(List Tkn)):Option (Option (S28 × (List Tkn))) :=
 bT (c7 k ([119,104,101,110]:List Nat) a2) fun x0_1=>if x0_1.1 then (bT (F.c50 x0_1.2) fun x1_1=>some (some (x1_1.1,x1_1.2))) else (some (some ((⟨(24:Int),([]:List Nat),⟨0,[]⟩,false,false,([]:List (List Nat)),([]:List (List Nat))⟩:S28),x0_1.2)))
def qJ9 (k:Nat) (F:Cns) (a2:(List Tkn)) (ih:(List Tkn) → (List S28) → Option (Option (S28 × (List Tkn)))):(List Tkn) → (List S28) → Option (Option (S28 × (List Tkn))) :=
 fun (y3_0:(List Tkn)) (y3_1:(List S28))=>bT (c7 k ([59]:List Nat) y3_0) fun x1_1=>if x1_1.1 then (bT (F.c52 x1_1.2) fun x2_3=>(appS 104 y3_1 ([x2_3.1]:List S28)).bind fun x2_5=>ih x2_3.2 x2_5) else (some (some ((⟨(24:Int),([]:List Nat),⟨(y3_1).length,(y3_1).flatMap e29⟩,false,false,([]:List (List Nat)),([]:List (List Nat))⟩:S28),x1_1.2)))
def qPc (k:Nat) (F:Cns) (a2:(List Tkn)) (n:Nat):(List Tkn) → (List S28) → Option (Option (S28 × (List Tkn))):=lp (fun _ _=>none) (qJ9 k F a2) n
def c50B (k:Nat) (F:Cns) (a2:(List Tkn)):Option (Option (S28 × (List Tkn))) :=
 bT (F.c52 a2) fun x0_1=>qPc k F a2 k x0_1.2 ([x0_1.1]:List S28)
def c51B (k:Nat) (F:Cns) (a2:(List Tkn)):Option (Option (S28 × (List Tkn))) :=
 bT (c23 k ([40]:List Nat) a2) fun x0_1=>bT (F.c18 (23:Int) ([]:List Nat) false false ([]:List (List Nat)) ([]:List (List Nat)) ([41]:List Nat) x0_1 ([]:List S28)) fun x1_4=>some (some ((⟨x1_4.1,x1_4.2.1,⟨(x1_4.2.2.2.2.2.2.2).length,(x1_4.2.2.2.2.2.2.2).flatMap e29⟩,x1_4.2.2.1,x1_4.2.2.2.1,x1_4.2.2.2.2.1,x1_4.2.2.2.2.2.1⟩:S28),x1_4.2.2.2.2.2.2.1))
def qJ8 (k:Nat) (F:Cns) (a2:(List Tkn)) (ih:(List Tkn) → (List S28) → Option (Option (S28 × (List Tkn)))):(List Tkn) → (List S28) → Option (Option (S28 × (List Tkn))) :=
 fun (y3_0:(List Tkn)) (y3_1:(List S28))=>bT (c7 k ([44]:List Nat) y3_0) fun x1_1=>if x1_1.1 then (bT (F.c5 (1:Int) x1_1.2) fun x2_3=>(appS 104 y3_1 ([x2_3.1]:List S28)).bind fun x2_5=>ih x2_3.2 x2_5) else (some (some ((⟨(25:Int),([]:List Nat),⟨(y3_1).length,(y3_1).flatMap e29⟩,false,false,([]:List (List Nat)),([]:List (List Nat))⟩:S28),x1_1.2)))
def qPb (k:Nat) (F:Cns) (a2:(List Tkn)) (n:Nat):(List Tkn) → (List S28) → Option (Option (S28 × (List Tkn))):=lp (fun _ _=>none) (qJ8 k F a2) n
def c52B (k:Nat) (F:Cns) (a2:(List Tkn)):Option (Option (S28 × (List Tkn))) :=
 bT (F.c5 (1:Int) a2) fun x0_1=>qPb k F a2 k x0_1.2 ([x0_1.1]:List S28)
def cpar (K n:Nat):Cns:=Nat.rec (motive:=fun _=>Cns) ⟨fun _ _=>none,fun _=>none,fun _=>none,fun _=>none,fun _ _ _=>none,fun _=>none,fun _ _ _ _ _ _ _ _ _=>none,fun _=>none,fun _ _ _ _ _ _ _ _ _=>none,fun _ _ _ _ _ _ _ _ _=>none,fun _=>none,fun _=>none,fun _ _=>none,fun _=>none,fun _ _ _ _ _ _ _ _=>none,fun _=>none,fun _=>none,fun _=>none,fun _ _ _ _ _ _ _ _=>none,fun _ _ _ _ _ _ _ _=>none,fun _=>none,fun _ _=>none,fun _ _=>none,fun _ _=>none,fun _ _=>none,fun _=>none,fun _=>none,fun _=>none,fun _ _ _ _=>none,fun _ _=>none,fun _=>none,fun _=>none,fun _=>none,fun _=>none⟩ (fun j F=>⟨c5B (K + j) F,c6B (K + j) F,c8B (K + j) F,c13B (K + j) F,c14B (K + j) F,c17B (K + j) F,c18B (K + j) F,c19B (K + j) F,c20B (K + j) F,c21B (K + j) F,c24B (K + j) F,c25B (K + j) F,c26B (K + j) F,c29B (K + j) F,c30B (K + j) F,c31B (K + j) F,c32B (K + j) F,c34B (K + j) F,c36B (K + j) F,c37B (K + j) F,c38B (K + j) F,c40B (K + j) F,c41B (K + j) F,c42B (K + j) F,c43B (K + j) F,c44B (K + j) F,c45B (K + j) F,c46B (K + j) F,c47B (K + j) F,c48B (K + j) F,c49B (K + j) F,c50B (K + j) F,c51B (K + j) F,c52B (K + j) F⟩) n
end
theorem qP8 {k:Nat} {s:List Nat} {L:List S33} {to:Int} {W:(List Tkn)} (hv:Vw k s L to W) {F:Fns0} {C:Cns} (hF:SimC s L to W F C)  (a0:Int) (a3:(List Tkn)):∀ (n:Nat) (y9_0:Int) (y9_1:(List Tkn)) (y9_2:S28),y9_1 <:+ W → SimN (Option.map (fun x=>(x.1,pos to x.2))) (oTh (fun x=>x.2 <:+ W)) (qNg k F a0 s L (pos to a3) to n y9_0 (pos to y9_1) y9_2) (qPa k C a0 a3 n y9_0 y9_1 y9_2):=by
 intro n
 induction n with
 | zero=>intro y9_0 y9_1 y9_2 _; exact sZ
 | succ n ih =>
  intro y9_0 y9_1 y9_2 hy
  show SimN (Option.map (fun x=>(x.1,pos to x.2))) (oTh (fun x=>x.2 <:+ W)) (qHf k F a0 s L (pos to a3) to (qNg k F a0 s L (pos to a3) to n) y9_0 (pos to y9_1) y9_2) (qP9 k C a0 a3 (qPa k C a0 a3 n) y9_0 y9_1 y9_2)
  unfold qHf qP9
  exact sJ (α:=((List Tkn) × S28)) (fun x=>(pos to x.1,x.2)) (fun x=>x.1 <:+ W) (fun z11 hz11=>sR (x:=(z11.2,z11.1)) hz11) (fun j11 j11' hj11=>sI (sB (qHw hv y9_1 hy) fun x3_1 hx3_1=>sE fun x4_2=>sB (qEq hv x3_1.f1 y9_1 hy) fun x5_3 hx5_3=>sJ (α:=(Bool × (List Tkn) × S28)) (fun x=>(x.1,pos to x.2.1,x.2.2)) (fun x=>x.2.1 <:+ W) (fun z10 hz10=>sI (hj11 (z10.2.1,z10.2.2) hz10) (sT (qEp hv z10.2.1 hz10) fun x6_1 hx6_1=>sE fun x7_6=>sT (hF.c5 x7_6 x6_1 hx6_1) fun x7_7 hx7_7=>ih x4_2 x7_7.2 (⟨14,x3_1.f1,(⟨(([z10.2.2,x7_7.1]:List S28)).length,(([z10.2.2,x7_7.1]:List S28)).flatMap e29⟩:Raw),false,false,([]:List (List Nat)),([]:List (List Nat))⟩:S28) hx7_7)) (fun j10 j10' hj10=>sI (hj10 (true,y9_1,y9_2) hy) (sI (hj10 (true,y9_1,y9_2) hy) (sE fun x5_15=>hj10 (decide (y9_0 < x5_15),y9_1,y9_2) hy)))) (hj11 (y9_1,y9_2) hy))
theorem c5B_sim {k:Nat} {s:List Nat} {L:List S33} {to:Int} {W:(List Tkn)} (hv:Vw k s L to W) {F:Fns0} {C:Cns} (hF:SimC s L to W F C) (a0:Int) (a3:(List Tkn)) (h:a3 <:+ W):SimN (Option.map (fun x=>(x.1,pos to x.2))) (oTh (fun x=>x.2 <:+ W)) (i5B k F a0 s L (pos to a3) to) (c5B k C a0 a3):=by
 unfold i5B c5B
 exact sJ (α:=(Bool × (List Tkn))) (fun x=>(x.1,pos to x.2)) (fun x=>x.2 <:+ W) (fun z8 hz8=>sI (sT (hF.c5 (0:Int) z8.2 hz8) fun x1_1 hx1_1=>sR (x:=((⟨(13:Int),([99,97,116,99,104]:List Nat),⟨(([x1_1.1]:List S28)).length,(([x1_1.1]:List S28)).flatMap e29⟩,false,false,([]:List (List Nat)),([]:List (List Nat))⟩:S28),x1_1.2)) hx1_1) (sT (hF.c8 z8.2 hz8) fun x2_1 hx2_1=>qP8 hv hF a0 a3 k x2_1.2.1 x2_1.2.2 x2_1.1 hx2_1)) (fun j8 j8' hj8=>sI (sT (qAm hv ([99,97,116,99,104]:List Nat) a3 h) fun x0_4 hx0_4=>hj8 (x0_4.1,x0_4.2) hx0_4) (hj8 (false,a3) h))
theorem qP6 {k:Nat} {s:List Nat} {L:List S33} {to:Int} {W:(List Tkn)} (hv:Vw k s L to W) {F:Fns0} {C:Cns} (hF:SimC s L to W F C)   : ∀ (n:Nat) (y5_0:(List Tkn)) (y5_1:(List S28)),y5_0 <:+ W → SimN (Option.map (fun x=>(x.1,pos to x.2))) (oTh (fun x=>x.2 <:+ W)) (qNe k F s L to n (pos to y5_0) y5_1) (c6_l5 k C  n y5_0 y5_1):=by
 intro n
 induction n with
 | zero=>intro y5_0 y5_1 _; exact sZ
 | succ n ih =>
  intro y5_0 y5_1 hy
  show SimN (Option.map (fun x=>(x.1,pos to x.2))) (oTh (fun x=>x.2 <:+ W)) (qHe k F s L to (qNe k F s L to n) (pos to y5_0) y5_1) (qP7 k C  (c6_l5 k C  n) y5_0 y5_1)
  unfold qHe qP7
  exact sJ (α:=(Bool × (List Tkn) × (List S28))) (fun x=>(x.1,pos to x.2.1,x.2.2)) (fun x=>x.2.1 <:+ W) (fun z6 hz6=>sB (qAr hv z6.2.1 hz6) fun x1_1 hx1_1=>sT (hF.c5 (0:Int) x1_1.2 hx1_1) fun x2_1 hx2_1=>sE fun x3_4=>sT (qAm hv ([44]:List Nat) x2_1.2 hx2_1) fun x4_1 hx4_1=>sI (ih x4_1.2 x3_4 hx4_1) (sR (x:=((⟨(25:Int),([]:List Nat),⟨(x3_4).length,(x3_4).flatMap e29⟩,false,false,([]:List (List Nat)),([]:List (List Nat))⟩:S28),x4_1.2)) hx4_1)) (fun j6 j6' hj6=>sI (sB (qPh hv hy) fun x0_17 hx0_17=>hj6 (x0_17,y5_0,y5_1) hy) (hj6 (false,y5_0,y5_1) hy))
theorem c6B_sim {k:Nat} {s:List Nat} {L:List S33} {to:Int} {W:(List Tkn)} (hv:Vw k s L to W) {F:Fns0} {C:Cns} (hF:SimC s L to W F C) (a2:(List Tkn)) (h:a2 <:+ W):SimN (Option.map (fun x=>(x.1,pos to x.2))) (oTh (fun x=>x.2 <:+ W)) (i6B k F s L (pos to a2) to) (c6B k C a2):=by
 unfold i6B c6B
 exact qP6 hv hF  k a2 ([]:List S28) h
theorem c8B_sim {k:Nat} {s:List Nat} {L:List S33} {to:Int} {W:(List Tkn)} (hv:Vw k s L to W) {F:Fns0} {C:Cns} (hF:SimC s L to W F C) (a2:(List Tkn)) (h:a2 <:+ W):SimN (Option.map (fun x=>(x.1,x.2.1,pos to x.2.2))) (oTh (fun x=>x.2.2 <:+ W)) (i8B k F s L (pos to a2) to) (c8B k C a2):=by
 unfold i8B c8B
 exact sB (qHw hv a2 h) fun x0_1 hx0_1=>sB (qEq hv x0_1.f1 a2 h) fun x1_3 hx1_3=>sJ (α:=Bool) (fun x=>x) (fun _=>True) (fun z7 hz7=>sI (sT (qEp hv a2 h) fun x2_1 hx2_1=>sT (hF.c8 x2_1 hx2_1) fun x3_1 hx3_1=>sE fun x4_7=>sR (x:=((⟨(13:Int),x0_1.f1,⟨(([x3_1.1]:List S28)).length,(([x3_1.1]:List S28)).flatMap e29⟩,false,false,([]:List (List Nat)),([]:List (List Nat))⟩:S28),x4_7,x3_1.2.2)) hx3_1) (sT (hF.c13 a2 h) fun x5_1 hx5_1=>sT (hF.c14 x5_1.1 x5_1.2.1 x5_1.2.2 hx5_1) fun x6_3 hx6_3=>sR (x:=(x6_3.1,(11:Int),x6_3.2)) hx6_3)) (fun j7 j7' hj7=>sI (sE fun x1_7=>hj7 (decide (0 < x1_7)) trivial) (hj7 false trivial))
theorem c13B_sim {k:Nat} {s:List Nat} {L:List S33} {to:Int} {W:(List Tkn)} (hv:Vw k s L to W) {F:Fns0} {C:Cns} (hF:SimC s L to W F C) (a2:(List Tkn)) (h:a2 <:+ W):SimN (Option.map (fun x=>(x.1,x.2.1,pos to x.2.2))) (oTh (fun x=>x.2.2 <:+ W)) (i13B k F s L (pos to a2) to) (c13B k C a2):=by
 unfold i13B c13B
 exact sB (qHw hv a2 h) fun x0_1 hx0_1=>sE fun x1_2=>sI (sT (qEp hv a2 h) fun x2_1 hx2_1=>sR (x:=((⟨(1:Int),x0_1.f1,⟨0,[]⟩,false,false,([]:List (List Nat)),([]:List (List Nat))⟩:S28),false,x2_1)) hx2_1) (sT (qAm hv ([40]:List Nat) a2 h) fun x3_1 hx3_1=>sI (sT (hF.c17 x3_1.2 hx3_1) fun x4_1 hx4_1=>sR (x:=(x4_1.1,true,x4_1.2)) hx4_1) (sT (qAm hv ([123]:List Nat) x3_1.2 hx3_1) fun x5_1 hx5_1=>sI (sT (hF.c18 (4:Int) ([]:List Nat) false false ([]:List (List Nat)) ([]:List (List Nat)) ([125]:List Nat) x5_1.2 ([]:List S28) hx5_1) fun x6_4 hx6_4=>sR (x:=((⟨x6_4.1,x6_4.2.1,⟨(x6_4.2.2.2.2.2.2.2).length,(x6_4.2.2.2.2.2.2.2).flatMap e29⟩,x6_4.2.2.1,x6_4.2.2.2.1,x6_4.2.2.2.2.1,x6_4.2.2.2.2.2.1⟩:S28),false,x6_4.2.2.2.2.2.2.1)) hx6_4) (sT (qAm hv ([91]:List Nat) x5_1.2 hx5_1) fun x7_1 hx7_1=>sI (sT (hF.c19 x7_1.2 hx7_1) fun x8_1 hx8_1=>sR (x:=(x8_1.1,false,x8_1.2)) hx8_1) (sT (qAm hv ([60,60]:List Nat) x7_1.2 hx7_1) fun x9_1 hx9_1=>sI (sT (hF.c20 (6:Int) ([]:List Nat) false false ([]:List (List Nat)) ([]:List (List Nat)) ([62,62]:List Nat) x9_1.2 ([]:List S28) hx9_1) fun x10_4 hx10_4=>sR (x:=((⟨x10_4.1,x10_4.2.1,⟨(x10_4.2.2.2.2.2.2.2).length,(x10_4.2.2.2.2.2.2.2).flatMap e29⟩,x10_4.2.2.1,x10_4.2.2.2.1,x10_4.2.2.2.2.1,x10_4.2.2.2.2.2.1⟩:S28),false,x10_4.2.2.2.2.2.2.1)) hx10_4) (sT (qAm hv ([35]:List Nat) x9_1.2 hx9_1) fun x11_1 hx11_1=>sI (sT (qAm hv ([123]:List Nat) x11_1.2 hx11_1) fun x12_1 hx12_1=>sI (sT (hF.c21 (8:Int) ([]:List Nat) false false ([]:List (List Nat)) ([]:List (List Nat)) ([125]:List Nat) x12_1.2 ([]:List S28) hx12_1) fun x13_4 hx13_4=>sR (x:=((⟨x13_4.1,x13_4.2.1,⟨(x13_4.2.2.2.2.2.2.2).length,(x13_4.2.2.2.2.2.2.2).flatMap e29⟩,x13_4.2.2.1,x13_4.2.2.2.1,x13_4.2.2.2.2.1,x13_4.2.2.2.2.2.1⟩:S28),false,x13_4.2.2.2.2.2.2.1)) hx13_4) (sT (qJa hv x12_1.2 hx12_1) fun x14_1 hx14_1=>sT (qB1 hv ([123]:List Nat) x14_1.2 hx14_1) fun x15_1 hx15_1=>sT (hF.c18 (10:Int) x14_1.1 false false ([]:List (List Nat)) ([]:List (List Nat)) ([125]:List Nat) x15_1 ([]:List S28) hx15_1) fun x16_5 hx16_5=>sR (x:=((⟨x16_5.1,x16_5.2.1,⟨(x16_5.2.2.2.2.2.2.2).length,(x16_5.2.2.2.2.2.2.2).flatMap e29⟩,x16_5.2.2.1,x16_5.2.2.2.1,x16_5.2.2.2.2.1,x16_5.2.2.2.2.2.1⟩:S28),false,x16_5.2.2.2.2.2.2.1)) hx16_5)) (sT (hF.c24 x11_1.2 hx11_1) fun x17_1 hx17_1=>sR (x:=(x17_1.1,false,x17_1.2)) hx17_1))))))
theorem qM1 {k:Nat} {s:List Nat} {L:List S33} {to:Int} {W:(List Tkn)} (hv:Vw k s L to W) {F:Fns0} {C:Cns} (hF:SimC s L to W F C)  (a4:(List Tkn)):∀ (n:Nat) (y7_0:Bool) (y7_1:(List Tkn)) (y7_2:S28),y7_1 <:+ W → SimN (Option.map (fun x=>(x.1,pos to x.2))) (oTh (fun x=>x.2 <:+ W)) (qHo k F s L (pos to a4) to n y7_0 (pos to y7_1) y7_2) (qPf k C a4 n y7_0 y7_1 y7_2):=by
 intro n
 induction n with
 | zero=>intro y7_0 y7_1 y7_2 _; exact sZ
 | succ n ih =>
  intro y7_0 y7_1 y7_2 hy
  show SimN (Option.map (fun x=>(x.1,pos to x.2))) (oTh (fun x=>x.2 <:+ W)) (qEi k F s L (pos to a4) to (qHo k F s L (pos to a4) to n) y7_0 (pos to y7_1) y7_2) (qJd k C a4 (qPf k C a4 n) y7_0 y7_1 y7_2)
  unfold qEi qJd
  exact sJ (α:=(Bool × Bool × (List Tkn) × S28)) (fun x=>(x.1,x.2.1,pos to x.2.2.1,x.2.2.2)) (fun x=>x.2.2.1 <:+ W) (fun z8 hz8=>sI (sR (x:=(z8.2.2.2,z8.2.2.1)) hz8) (sT (qAm hv ([40]:List Nat) z8.2.2.1 hz8) fun x1_1 hx1_1=>sJ (α:=((List Tkn) × S28)) (fun x=>(pos to x.1,x.2)) (fun x=>x.1 <:+ W) (fun z9 hz9=>ih false z9.1 z9.2 hz9) (fun j9 j9' hj9=>sI (sT (hF.c18 (2:Int) ([]:List Nat) false false ([]:List (List Nat)) ([]:List (List Nat)) ([41]:List Nat) x1_1.2 ([z8.2.2.2]:List S28) hx1_1) fun x2_6 hx2_6=>hj9 (x2_6.2.2.2.2.2.2.1,(⟨x2_6.1,x2_6.2.1,(⟨(x2_6.2.2.2.2.2.2.2).length,(x2_6.2.2.2.2.2.2.2).flatMap e29⟩:Raw),x2_6.2.2.1,x2_6.2.2.2.1,x2_6.2.2.2.2.1,x2_6.2.2.2.2.2.1⟩:S28)) hx2_6) (sJ (α:=(Bool × (List Tkn) × S28)) (fun x=>(x.1,pos to x.2.1,x.2.2)) (fun x=>x.2.1 <:+ W) (fun z10 hz10=>sI (sT (hF.c25 z10.2.1 hz10) fun x4_2 hx4_2=>hj9 (x4_2.2,(⟨3,([]:List Nat),(⟨(([z10.2.2,x4_2.1]:List S28)).length,(([z10.2.2,x4_2.1]:List S28)).flatMap e29⟩:Raw),false,false,([]:List (List Nat)),([]:List (List Nat))⟩:S28)) hx4_2) (sT (qAm hv ([35]:List Nat) z10.2.1 hz10) fun x5_1 hx5_1=>sI (sT (hF.c26 z10.2.2 x5_1.2 hx5_1) fun x6_2 hx6_2=>hj9 (x6_2.2,x6_2.1) hx6_2) (sR (x:=(z10.2.2,x5_1.2)) hx5_1))) (fun j10 j10' hj10=>sI (sI (sT (qAm hv ([58]:List Nat) x1_1.2 hx1_1) fun x3_13 hx3_13=>hj10 (x3_13.1,x3_13.2,z8.2.2.2) hx3_13) (sI (sT (qAm hv ([58]:List Nat) x1_1.2 hx1_1) fun x3_13 hx3_13=>hj10 (x3_13.1,x3_13.2,z8.2.2.2) hx3_13) (hj10 (false,x1_1.2,z8.2.2.2) hx1_1))) (hj10 (false,x1_1.2,z8.2.2.2) hx1_1)))))) (fun j8 j8' hj8=>sI (sE fun x0_4=>hj8 (!x0_4,y7_0,y7_1,y7_2) hy) (hj8 (false,y7_0,y7_1,y7_2) hy))
theorem c14B_sim {k:Nat} {s:List Nat} {L:List S33} {to:Int} {W:(List Tkn)} (hv:Vw k s L to W) {F:Fns0} {C:Cns} (hF:SimC s L to W F C) (a0:S28) (a1:Bool) (a4:(List Tkn)) (h:a4 <:+ W):SimN (Option.map (fun x=>(x.1,pos to x.2))) (oTh (fun x=>x.2 <:+ W)) (i14B k F a0 a1 s L (pos to a4) to) (c14B k C a0 a1 a4):=by
 unfold i14B c14B
 exact qM1 hv hF a4 k a1 a4 a0 h
theorem qJb {k:Nat} {s:List Nat} {L:List S33} {to:Int} {W:(List Tkn)} (hv:Vw k s L to W) {F:Fns0} {C:Cns} (hF:SimC s L to W F C)  (a0:Int) (a1:(List Nat)) (a3:Bool) (a4:(List (List Nat))) (a5:(List (List Nat))) (a6:(List Nat)) (x0_1:Bool):∀ (n:Nat) (y10_0:(List (List Nat))) (y10_1:(List Tkn)) (y10_2:(List S28)),y10_1 <:+ W → SimN (Option.map (fun x=>(x.1,x.2.1,x.2.2.1,x.2.2.2.1,x.2.2.2.2.1,x.2.2.2.2.2.1,pos to x.2.2.2.2.2.2.1,x.2.2.2.2.2.2.2))) (oTh (fun x=>x.2.2.2.2.2.2.1 <:+ W)) (qEh k F a0 a1 a3 a4 a5 a6 s L to x0_1 n y10_0 (pos to y10_1) y10_2) (qJc k C a0 a1 a3 a4 a5 a6 x0_1 n y10_0 y10_1 y10_2):=by
 intro n
 induction n with
 | zero=>intro y10_0 y10_1 y10_2 _; exact sZ
 | succ n ih =>
  intro y10_0 y10_1 y10_2 hy
  show SimN (Option.map (fun x=>(x.1,x.2.1,x.2.2.1,x.2.2.2.1,x.2.2.2.2.1,x.2.2.2.2.2.1,pos to x.2.2.2.2.2.2.1,x.2.2.2.2.2.2.2))) (oTh (fun x=>x.2.2.2.2.2.2.1 <:+ W)) (qD1 k F a0 a1 a3 a4 a5 a6 s L to x0_1 (qEh k F a0 a1 a3 a4 a5 a6 s L to x0_1 n) y10_0 (pos to y10_1) y10_2) (qGp k C a0 a1 a3 a4 a5 a6 x0_1 (qJc k C a0 a1 a3 a4 a5 a6 x0_1 n) y10_0 y10_1 y10_2)
  unfold qD1 qGp
  exact sT (hF.c29 y10_1 hy) fun x3_1 hx3_1=>sE fun x4_4=>sB (qAr hv x3_1.2 hx3_1) fun x5_1 hx5_1=>sT (qAm hv a6 x5_1.2 hx5_1) fun x6_2 hx6_2=>sI (sR (x:=(a0,a1,x0_1,a3,a4,x5_1.1,x6_2.2,x4_4)) hx6_2) (sTE fun x7_3=>sT (qB1 hv ([44]:List Nat) x6_2.2 hx6_2) fun x8_1 hx8_1=>sB (qAr hv x8_1 hx8_1) fun x9_1 hx9_1=>ih x9_1.1 x9_1.2 x4_4 hx9_1)
theorem c18B_sim {k:Nat} {s:List Nat} {L:List S33} {to:Int} {W:(List Tkn)} (hv:Vw k s L to W) {F:Fns0} {C:Cns} (hF:SimC s L to W F C) (a0:Int) (a1:(List Nat)) (a2:Bool) (a3:Bool) (a4:(List (List Nat))) (a5:(List (List Nat))) (a6:(List Nat)) (a9:(List Tkn)) (b1:(List S28)) (h:a9 <:+ W):SimN (Option.map (fun x=>(x.1,x.2.1,x.2.2.1,x.2.2.2.1,x.2.2.2.2.1,x.2.2.2.2.2.1,pos to x.2.2.2.2.2.2.1,x.2.2.2.2.2.2.2))) (oTh (fun x=>x.2.2.2.2.2.2.1 <:+ W)) (i18B k F a0 a1 a2 a3 a4 a5 a6 s L (pos to a9) to b1) (c18B k C a0 a1 a2 a3 a4 a5 a6 a9 b1):=by
 unfold i18B c18B
 exact sB (qPe hv a9 h) fun x0_1 hx0_1=>sB (qAr hv a9 h) fun x1_1 hx1_1=>sT (qAm hv a6 x1_1.2 hx1_1) fun x2_2 hx2_2=>sI (sR (x:=(a0,a1,x0_1,a3,a4,x1_1.1,x2_2.2,b1)) hx2_2) (qJb hv hF a0 a1 a3 a4 a5 a6 x0_1 k x1_1.1 x2_2.2 b1 hx2_2)
theorem c24B_sim {k:Nat} {s:List Nat} {L:List S33} {to:Int} {W:(List Tkn)} (hv:Vw k s L to W) {F:Fns0} {C:Cns} (hF:SimC s L to W F C) (a2:(List Tkn)) (h:a2 <:+ W):SimN (Option.map (fun x=>(x.1,pos to x.2))) (oTh (fun x=>x.2 <:+ W)) (i24B k F s L (pos to a2) to) (c24B k C a2):=by
 unfold i24B c24B
 exact sT (qAm hv ([102,117,110]:List Nat) a2 h) fun x0_1 hx0_1=>sI (sB (qEq hv ([40]:List Nat) x0_1.2 hx0_1) fun x1_1 hx1_1=>sI (sT (hF.c34 x0_1.2 hx0_1) fun x2_1 hx2_1=>sR (x:=(x2_1.1,x2_1.2)) hx2_1) (sT (c35_sim hv x0_1.2 hx0_1) fun x3_1 hx3_1=>sR (x:=(x3_1.1,x3_1.2)) hx3_1)) (sT (qAm hv ([99,97,115,101]:List Nat) x0_1.2 hx0_1) fun x4_1 hx4_1=>sI (sT (hF.c5 (0:Int) x4_1.2 hx4_1) fun x5_1 hx5_1=>sT (qB1 hv ([111,102]:List Nat) x5_1.2 hx5_1) fun x6_1 hx6_1=>sT (hF.c36 (18:Int) ([]:List Nat) false false ([]:List (List Nat)) ([]:List (List Nat)) x6_1 ([x5_1.1]:List S28) hx6_1) fun x7_4 hx7_4=>sR (x:=((⟨x7_4.1,x7_4.2.1,⟨(x7_4.2.2.2.2.2.2.2).length,(x7_4.2.2.2.2.2.2.2).flatMap e29⟩,x7_4.2.2.1,x7_4.2.2.2.1,x7_4.2.2.2.2.1,x7_4.2.2.2.2.2.1⟩:S28),x7_4.2.2.2.2.2.2.1)) hx7_4) (sT (qAm hv ([105,102]:List Nat) x4_1.2 hx4_1) fun x8_1 hx8_1=>sI (sT (hF.c37 (19:Int) ([]:List Nat) false false ([]:List (List Nat)) ([]:List (List Nat)) x8_1.2 ([]:List S28) hx8_1) fun x9_4 hx9_4=>sR (x:=((⟨x9_4.1,x9_4.2.1,⟨(x9_4.2.2.2.2.2.2.2).length,(x9_4.2.2.2.2.2.2.2).flatMap e29⟩,x9_4.2.2.1,x9_4.2.2.2.1,x9_4.2.2.2.2.1,x9_4.2.2.2.2.2.1⟩:S28),x9_4.2.2.2.2.2.2.1)) hx9_4) (sT (qAm hv i24c0 x8_1.2 hx8_1) fun x10_1 hx10_1=>sI (sT (hF.c38 x10_1.2 hx10_1) fun x11_1 hx11_1=>sR (x:=(x11_1.1,x11_1.2)) hx11_1) (sT (qB1 hv i24c1 x10_1.2 hx10_1) fun x12_1 hx12_1=>sT (hF.c6 x12_1 hx12_1) fun x13_1 hx13_1=>sB (qAr hv x13_1.2 hx13_1) fun x14_1 hx14_1=>sT (qB1 hv ([101,110,100]:List Nat) x14_1.2 hx14_1) fun x15_1 hx15_1=>sR (x:=((⟨(21:Int),([]:List Nat),⟨(([x13_1.1]:List S28)).length,(([x13_1.1]:List S28)).flatMap e29⟩,false,false,([]:List (List Nat)),x14_1.1⟩:S28),x15_1)) hx15_1))))
theorem c29B_sim {k:Nat} {s:List Nat} {L:List S33} {to:Int} {W:(List Tkn)} (hv:Vw k s L to W) {F:Fns0} {C:Cns} (hF:SimC s L to W F C) (a2:(List Tkn)) (h:a2 <:+ W):SimN (Option.map (fun x=>(x.1,pos to x.2))) (oTh (fun x=>x.2 <:+ W)) (i29B k F s L (pos to a2) to) (c29B k C a2):=by
 unfold i29B c29B
 exact sT (hF.c5 (0:Int) a2 h) fun x0_1 hx0_1=>sR (x:=(x0_1.1,x0_1.2)) hx0_1
theorem c34B_sim {k:Nat} {s:List Nat} {L:List S33} {to:Int} {W:(List Tkn)} (hv:Vw k s L to W) {F:Fns0} {C:Cns} (hF:SimC s L to W F C) (a2:(List Tkn)) (h:a2 <:+ W):SimN (Option.map (fun x=>(x.1,pos to x.2))) (oTh (fun x=>x.2 <:+ W)) (i34B k F s L (pos to a2) to) (c34B k C a2):=by
 unfold i34B c34B
 exact sT (hF.c40 ([]:List (List Nat)) a2 h) fun x0_2 hx0_2=>sB (qAr hv x0_2.2 hx0_2) fun x1_1 hx1_1=>sT (qB1 hv ([101,110,100]:List Nat) x1_1.2 hx1_1) fun x2_1 hx2_1=>sR (x:=((⟨(17:Int),([]:List Nat),⟨(x0_2.1).length,(x0_2.1).flatMap e29⟩,false,false,([]:List (List Nat)),x1_1.1⟩:S28),x2_1)) hx2_1
theorem c36B_sim {k:Nat} {s:List Nat} {L:List S33} {to:Int} {W:(List Tkn)} (hv:Vw k s L to W) {F:Fns0} {C:Cns} (hF:SimC s L to W F C) (a0:Int) (a1:(List Nat)) (a2:Bool) (a3:Bool) (a4:(List (List Nat))) (a5:(List (List Nat))) (a8:(List Tkn)) (b1:(List S28)) (h:a8 <:+ W):SimN (Option.map (fun x=>(x.1,x.2.1,x.2.2.1,x.2.2.2.1,x.2.2.2.2.1,x.2.2.2.2.2.1,pos to x.2.2.2.2.2.2.1,x.2.2.2.2.2.2.2))) (oTh (fun x=>x.2.2.2.2.2.2.1 <:+ W)) (i36B k F a0 a1 a2 a3 a4 a5 s L (pos to a8) to b1) (c36B k C a0 a1 a2 a3 a4 a5 a8 b1):=by
 unfold i36B c36B
 exact sB (qAr hv a8 h) fun x0_4 hx0_4=>sT (hF.c41 x0_4.1 x0_4.2 hx0_4) fun x0_6 hx0_6=>sE fun x0_7=>sB (qAr hv x0_6.2 hx0_6) fun x1_1 hx1_1=>sT (qB1 hv ([101,110,100]:List Nat) x1_1.2 hx1_1) fun x2_1 hx2_1=>sR (x:=(a0,a1,a2,a3,a4,x1_1.1,x2_1,x0_7)) hx2_1
theorem c37B_sim {k:Nat} {s:List Nat} {L:List S33} {to:Int} {W:(List Tkn)} (hv:Vw k s L to W) {F:Fns0} {C:Cns} (hF:SimC s L to W F C) (a0:Int) (a1:(List Nat)) (a2:Bool) (a3:Bool) (a4:(List (List Nat))) (a5:(List (List Nat))) (a8:(List Tkn)) (b1:(List S28)) (h:a8 <:+ W):SimN (Option.map (fun x=>(x.1,x.2.1,x.2.2.1,x.2.2.2.1,x.2.2.2.2.1,x.2.2.2.2.2.1,pos to x.2.2.2.2.2.2.1,x.2.2.2.2.2.2.2))) (oTh (fun x=>x.2.2.2.2.2.2.1 <:+ W)) (i37B k F a0 a1 a2 a3 a4 a5 s L (pos to a8) to b1) (c37B k C a0 a1 a2 a3 a4 a5 a8 b1):=by
 unfold i37B c37B
 exact sB (qAr hv a8 h) fun x0_4 hx0_4=>sT (hF.c42 x0_4.1 x0_4.2 hx0_4) fun x0_6 hx0_6=>sE fun x0_7=>sB (qAr hv x0_6.2 hx0_6) fun x1_1 hx1_1=>sT (qB1 hv ([101,110,100]:List Nat) x1_1.2 hx1_1) fun x2_1 hx2_1=>sR (x:=(a0,a1,a2,a3,a4,x1_1.1,x2_1,x0_7)) hx2_1
theorem c38B_sim {k:Nat} {s:List Nat} {L:List S33} {to:Int} {W:(List Tkn)} (hv:Vw k s L to W) {F:Fns0} {C:Cns} (hF:SimC s L to W F C) (a2:(List Tkn)) (h:a2 <:+ W):SimN (Option.map (fun x=>(x.1,pos to x.2))) (oTh (fun x=>x.2 <:+ W)) (i38B k F s L (pos to a2) to) (c38B k C a2):=by
 unfold i38B c38B
 exact sB (qAr hv a2 h) fun x0_1 hx0_1=>sB (qEq hv i38c0 x0_1.2 hx0_1) fun x1_1 hx1_1=>sI (sT (hF.c43 x0_1.1 x0_1.2 hx0_1) fun x2_4 hx2_4=>sB (qAr hv x2_4.1 hx2_4) fun x3_1 hx3_1=>sT (qAm hv i38c0 x3_1.2 hx3_1) fun x4_1 hx4_1=>sI (sT (hF.c5 (1:Int) x4_1.2 hx4_1) fun x5_1 hx5_1=>sT (hF.c47 ([]:List Nat) (⟨23,([]:List Nat),(⟨(([x5_1.1]:List S28)).length,(([x5_1.1]:List S28)).flatMap e29⟩:Raw),false,false,([]:List (List Nat)),([]:List (List Nat))⟩:S28) (⟨24,([]:List Nat),(⟨(([]:List S28)).length,(([]:List S28)).flatMap e29⟩:Raw),false,false,([]:List (List Nat)),([]:List (List Nat))⟩:S28) x5_1.2 hx5_1) fun x6_3 hx6_3=>sE fun x7_4=>sB (qAr hv x6_3.2 hx6_3) fun x8_1 hx8_1=>sT (qB1 hv ([101,110,100]:List Nat) x8_1.2 hx8_1) fun x9_1 hx9_1=>sR (x:=((⟨(20:Int),i38c0,⟨(x7_4).length,(x7_4).flatMap e29⟩,false,false,([]:List (List Nat)),x8_1.1⟩:S28),x9_1)) hx9_1) (sT (qB1 hv ([101,110,100]:List Nat) x4_1.2 hx4_1) fun x9_1 hx9_1=>sR (x:=((⟨(20:Int),([]:List Nat),⟨(x2_4.2).length,(x2_4.2).flatMap e29⟩,false,false,([]:List (List Nat)),x3_1.1⟩:S28),x9_1)) hx9_1)) (sT (qAm hv i38c0 x0_1.2 hx0_1) fun x4_1 hx4_1=>sI (sT (hF.c5 (1:Int) x4_1.2 hx4_1) fun x5_1 hx5_1=>sT (hF.c47 ([]:List Nat) (⟨23,([]:List Nat),(⟨(([x5_1.1]:List S28)).length,(([x5_1.1]:List S28)).flatMap e29⟩:Raw),false,false,([]:List (List Nat)),([]:List (List Nat))⟩:S28) (⟨24,([]:List Nat),(⟨(([]:List S28)).length,(([]:List S28)).flatMap e29⟩:Raw),false,false,([]:List (List Nat)),([]:List (List Nat))⟩:S28) x5_1.2 hx5_1) fun x6_3 hx6_3=>sE fun x7_4=>sB (qAr hv x6_3.2 hx6_3) fun x8_1 hx8_1=>sT (qB1 hv ([101,110,100]:List Nat) x8_1.2 hx8_1) fun x9_1 hx9_1=>sR (x:=((⟨(20:Int),i38c0,⟨(x7_4).length,(x7_4).flatMap e29⟩,false,false,([]:List (List Nat)),x8_1.1⟩:S28),x9_1)) hx9_1) (sT (qB1 hv ([101,110,100]:List Nat) x4_1.2 hx4_1) fun x9_1 hx9_1=>sR (x:=((⟨(20:Int),([]:List Nat),⟨(([]:List S28)).length,(([]:List S28)).flatMap e29⟩,false,false,([]:List (List Nat)),x0_1.1⟩:S28),x9_1)) hx9_1))
theorem qM0 {k:Nat} {s:List Nat} {L:List S33} {to:Int} {W:(List Tkn)} (hv:Vw k s L to W) {F:Fns0} {C:Cns} (hF:SimC s L to W F C)   : ∀ (n:Nat) (y4_0:(List (List Nat))) (y4_1:(List Tkn)) (y4_2:(List S28)),y4_1 <:+ W → SimN (Option.map (fun x=>(x.1,pos to x.2))) (oTh (fun x=>x.2 <:+ W)) (qHl k F s L to n y4_0 (pos to y4_1) y4_2) (qFr k C  n y4_0 y4_1 y4_2):=by
 intro n
 induction n with
 | zero=>intro y4_0 y4_1 y4_2 _; exact sZ
 | succ n ih =>
  intro y4_0 y4_1 y4_2 hy
  show SimN (Option.map (fun x=>(x.1,pos to x.2))) (oTh (fun x=>x.2 <:+ W)) (qEg k F s L to (qHl k F s L to n) y4_0 (pos to y4_1) y4_2) (qCt k C  (qFr k C  n) y4_0 y4_1 y4_2)
  unfold qEg qCt
  exact sT (hF.c44 y4_1 hy) fun x0_1 hx0_1=>sE fun x1_3=>sT (qAm hv ([59]:List Nat) x0_1.2 hx0_1) fun x2_1 hx2_1=>sI (sB (qAr hv x2_1.2 hx2_1) fun x3_1 hx3_1=>ih x3_1.1 x3_1.2 x1_3 hx3_1) (sR (x:=(x1_3,x2_1.2)) hx2_1)
theorem c40B_sim {k:Nat} {s:List Nat} {L:List S33} {to:Int} {W:(List Tkn)} (hv:Vw k s L to W) {F:Fns0} {C:Cns} (hF:SimC s L to W F C) (a0:(List (List Nat))) (a3:(List Tkn)) (h:a3 <:+ W):SimN (Option.map (fun x=>(x.1,pos to x.2))) (oTh (fun x=>x.2 <:+ W)) (i40B k F a0 s L (pos to a3) to) (c40B k C a0 a3):=by
 unfold i40B c40B
 exact qM0 hv hF  k a0 a3 ([]:List S28) h
theorem qM {k:Nat} {s:List Nat} {L:List S33} {to:Int} {W:(List Tkn)} (hv:Vw k s L to W) {F:Fns0} {C:Cns} (hF:SimC s L to W F C)   : ∀ (n:Nat) (y4_0:(List (List Nat))) (y4_1:(List Tkn)) (y4_2:(List S28)),y4_1 <:+ W → SimN (Option.map (fun x=>(x.1,pos to x.2))) (oTh (fun x=>x.2 <:+ W)) (qHk k F s L to n y4_0 (pos to y4_1) y4_2) (qFq k C  n y4_0 y4_1 y4_2):=by
 intro n
 induction n with
 | zero=>intro y4_0 y4_1 y4_2 _; exact sZ
 | succ n ih =>
  intro y4_0 y4_1 y4_2 hy
  show SimN (Option.map (fun x=>(x.1,pos to x.2))) (oTh (fun x=>x.2 <:+ W)) (qEf k F s L to (qHk k F s L to n) y4_0 (pos to y4_1) y4_2) (qCs k C  (qFq k C  n) y4_0 y4_1 y4_2)
  unfold qEf qCs
  exact sT (hF.c45 y4_1 hy) fun x0_1 hx0_1=>sE fun x1_3=>sT (qAm hv ([59]:List Nat) x0_1.2 hx0_1) fun x2_1 hx2_1=>sI (sB (qAr hv x2_1.2 hx2_1) fun x3_1 hx3_1=>ih x3_1.1 x3_1.2 x1_3 hx3_1) (sR (x:=(x1_3,x2_1.2)) hx2_1)
theorem c41B_sim {k:Nat} {s:List Nat} {L:List S33} {to:Int} {W:(List Tkn)} (hv:Vw k s L to W) {F:Fns0} {C:Cns} (hF:SimC s L to W F C) (a0:(List (List Nat))) (a3:(List Tkn)) (h:a3 <:+ W):SimN (Option.map (fun x=>(x.1,pos to x.2))) (oTh (fun x=>x.2 <:+ W)) (i41B k F a0 s L (pos to a3) to) (c41B k C a0 a3):=by
 unfold i41B c41B
 exact qM hv hF  k a0 a3 ([]:List S28) h
theorem qLz {k:Nat} {s:List Nat} {L:List S33} {to:Int} {W:(List Tkn)} (hv:Vw k s L to W) {F:Fns0} {C:Cns} (hF:SimC s L to W F C)   : ∀ (n:Nat) (y4_0:(List (List Nat))) (y4_1:(List Tkn)) (y4_2:(List S28)),y4_1 <:+ W → SimN (Option.map (fun x=>(x.1,pos to x.2))) (oTh (fun x=>x.2 <:+ W)) (qHj k F s L to n y4_0 (pos to y4_1) y4_2) (qFp k C  n y4_0 y4_1 y4_2):=by
 intro n
 induction n with
 | zero=>intro y4_0 y4_1 y4_2 _; exact sZ
 | succ n ih =>
  intro y4_0 y4_1 y4_2 hy
  show SimN (Option.map (fun x=>(x.1,pos to x.2))) (oTh (fun x=>x.2 <:+ W)) (qEe k F s L to (qHj k F s L to n) y4_0 (pos to y4_1) y4_2) (qCr k C  (qFp k C  n) y4_0 y4_1 y4_2)
  unfold qEe qCr
  exact sT (hF.c46 y4_1 hy) fun x0_1 hx0_1=>sE fun x1_3=>sT (qAm hv ([59]:List Nat) x0_1.2 hx0_1) fun x2_1 hx2_1=>sI (sB (qAr hv x2_1.2 hx2_1) fun x3_1 hx3_1=>ih x3_1.1 x3_1.2 x1_3 hx3_1) (sR (x:=(x1_3,x2_1.2)) hx2_1)
theorem c42B_sim {k:Nat} {s:List Nat} {L:List S33} {to:Int} {W:(List Tkn)} (hv:Vw k s L to W) {F:Fns0} {C:Cns} (hF:SimC s L to W F C) (a0:(List (List Nat))) (a3:(List Tkn)) (h:a3 <:+ W):SimN (Option.map (fun x=>(x.1,pos to x.2))) (oTh (fun x=>x.2 <:+ W)) (i42B k F a0 s L (pos to a3) to) (c42B k C a0 a3):=by
 unfold i42B c42B
 exact qLz hv hF  k a0 a3 ([]:List S28) h
theorem qLy {k:Nat} {s:List Nat} {L:List S33} {to:Int} {W:(List Tkn)} (hv:Vw k s L to W) {F:Fns0} {C:Cns} (hF:SimC s L to W F C)   : ∀ (n:Nat) (y4_0:(List (List Nat))) (y4_1:(List Tkn)) (y4_2:(List S28)),y4_1 <:+ W → SimN (Option.map (fun x=>(pos to x.1,x.2))) (oTh (fun x=>x.1 <:+ W)) (qHi k F s L to n y4_0 (pos to y4_1) y4_2) (qFo k C  n y4_0 y4_1 y4_2):=by
 intro n
 induction n with
 | zero=>intro y4_0 y4_1 y4_2 _; exact sZ
 | succ n ih =>
  intro y4_0 y4_1 y4_2 hy
  show SimN (Option.map (fun x=>(pos to x.1,x.2))) (oTh (fun x=>x.1 <:+ W)) (qEd k F s L to (qHi k F s L to n) y4_0 (pos to y4_1) y4_2) (qCq k C  (qFo k C  n) y4_0 y4_1 y4_2)
  unfold qEd qCq
  exact sT (hF.c45 y4_1 hy) fun x0_1 hx0_1=>sE fun x1_3=>sT (qAm hv ([59]:List Nat) x0_1.2 hx0_1) fun x2_1 hx2_1=>sI (sB (qAr hv x2_1.2 hx2_1) fun x3_1 hx3_1=>ih x3_1.1 x3_1.2 x1_3 hx3_1) (sR (x:=(x2_1.2,x1_3)) hx2_1)
theorem c43B_sim {k:Nat} {s:List Nat} {L:List S33} {to:Int} {W:(List Tkn)} (hv:Vw k s L to W) {F:Fns0} {C:Cns} (hF:SimC s L to W F C) (a0:(List (List Nat))) (a3:(List Tkn)) (h:a3 <:+ W):SimN (Option.map (fun x=>(pos to x.1,x.2))) (oTh (fun x=>x.1 <:+ W)) (i43B k F a0 s L (pos to a3) to) (c43B k C a0 a3):=by
 unfold i43B c43B
 exact qLy hv hF  k a0 a3 ([]:List S28) h
theorem c44B_sim {k:Nat} {s:List Nat} {L:List S33} {to:Int} {W:(List Tkn)} (hv:Vw k s L to W) {F:Fns0} {C:Cns} (hF:SimC s L to W F C) (a2:(List Tkn)) (h:a2 <:+ W):SimN (Option.map (fun x=>(x.1,pos to x.2))) (oTh (fun x=>x.2 <:+ W)) (i44B k F s L (pos to a2) to) (c44B k C a2):=by
 unfold i44B c44B
 exact sT (hF.c48 ([]:List Nat) a2 h) fun x0_1 hx0_1=>sR (x:=(x0_1.1,x0_1.2)) hx0_1
theorem c45B_sim {k:Nat} {s:List Nat} {L:List S33} {to:Int} {W:(List Tkn)} (hv:Vw k s L to W) {F:Fns0} {C:Cns} (hF:SimC s L to W F C) (a2:(List Tkn)) (h:a2 <:+ W):SimN (Option.map (fun x=>(x.1,pos to x.2))) (oTh (fun x=>x.2 <:+ W)) (i45B k F s L (pos to a2) to) (c45B k C a2):=by
 unfold i45B c45B
 exact sT (hF.c5 (1:Int) a2 h) fun x0_1 hx0_1=>sT (hF.c49 x0_1.2 hx0_1) fun x1_3 hx1_3=>sT (hF.c47 ([]:List Nat) (⟨23,([]:List Nat),(⟨(([x0_1.1]:List S28)).length,(([x0_1.1]:List S28)).flatMap e29⟩:Raw),false,false,([]:List (List Nat)),([]:List (List Nat))⟩:S28) x1_3.1 x1_3.2 hx1_3) fun x1_4 hx1_4=>sR (x:=(x1_4.1,x1_4.2)) hx1_4
theorem c46B_sim {k:Nat} {s:List Nat} {L:List S33} {to:Int} {W:(List Tkn)} (hv:Vw k s L to W) {F:Fns0} {C:Cns} (hF:SimC s L to W F C) (a2:(List Tkn)) (h:a2 <:+ W):SimN (Option.map (fun x=>(x.1,pos to x.2))) (oTh (fun x=>x.2 <:+ W)) (i46B k F s L (pos to a2) to) (c46B k C a2):=by
 unfold i46B c46B
 exact sT (hF.c50 a2 h) fun x0_3 hx0_3=>sT (hF.c47 ([]:List Nat) (⟨23,([]:List Nat),(⟨(([]:List S28)).length,(([]:List S28)).flatMap e29⟩:Raw),false,false,([]:List (List Nat)),([]:List (List Nat))⟩:S28) x0_3.1 x0_3.2 hx0_3) fun x0_4 hx0_4=>sR (x:=(x0_4.1,x0_4.2)) hx0_4
theorem c47B_sim {k:Nat} {s:List Nat} {L:List S33} {to:Int} {W:(List Tkn)} (hv:Vw k s L to W) {F:Fns0} {C:Cns} (hF:SimC s L to W F C) (a0:(List Nat)) (a1:S28) (a2:S28) (a5:(List Tkn)) (h:a5 <:+ W):SimN (Option.map (fun x=>(x.1,pos to x.2))) (oTh (fun x=>x.2 <:+ W)) (i47B k F a0 a1 a2 s L (pos to a5) to) (c47B k C a0 a1 a2 a5):=by
 unfold i47B c47B
 exact sT (qB1 hv ([45,62]:List Nat) a5 h) fun x0_1 hx0_1=>sB (qPe hv x0_1 hx0_1) fun x1_2 hx1_2=>sT (hF.c6 x0_1 hx0_1) fun x2_3 hx2_3=>sR (x:=((⟨(22:Int),a0,⟨(([a1,a2,x2_3.1]:List S28)).length,(([a1,a2,x2_3.1]:List S28)).flatMap e29⟩,x1_2,false,([]:List (List Nat)),([]:List (List Nat))⟩:S28),x2_3.2)) hx2_3
theorem c48B_sim {k:Nat} {s:List Nat} {L:List S33} {to:Int} {W:(List Tkn)} (hv:Vw k s L to W) {F:Fns0} {C:Cns} (hF:SimC s L to W F C) (a0:(List Nat)) (a3:(List Tkn)) (h:a3 <:+ W):SimN (Option.map (fun x=>(x.1,pos to x.2))) (oTh (fun x=>x.2 <:+ W)) (i48B k F a0 s L (pos to a3) to) (c48B k C a0 a3):=by
 unfold i48B c48B
 exact sT (hF.c51 a3 h) fun x0_1 hx0_1=>sT (hF.c49 x0_1.2 hx0_1) fun x1_4 hx1_4=>sT (hF.c47 a0 x0_1.1 x1_4.1 x1_4.2 hx1_4) fun x1_5 hx1_5=>sR (x:=(x1_5.1,x1_5.2)) hx1_5
theorem c49B_sim {k:Nat} {s:List Nat} {L:List S33} {to:Int} {W:(List Tkn)} (hv:Vw k s L to W) {F:Fns0} {C:Cns} (hF:SimC s L to W F C) (a2:(List Tkn)) (h:a2 <:+ W):SimN (Option.map (fun x=>(x.1,pos to x.2))) (oTh (fun x=>x.2 <:+ W)) (i49B k F s L (pos to a2) to) (c49B k C a2):=by
 unfold i49B c49B
 exact sT (qAm hv ([119,104,101,110]:List Nat) a2 h) fun x0_1 hx0_1=>sI (sT (hF.c50 x0_1.2 hx0_1) fun x1_1 hx1_1=>sR (x:=(x1_1.1,x1_1.2)) hx1_1) (sR (x:=((⟨(24:Int),([]:List Nat),⟨0,[]⟩,false,false,([]:List (List Nat)),([]:List (List Nat))⟩:S28),x0_1.2)) hx0_1)
theorem qLx {k:Nat} {s:List Nat} {L:List S33} {to:Int} {W:(List Tkn)} (hv:Vw k s L to W) {F:Fns0} {C:Cns} (hF:SimC s L to W F C)  (a2:(List Tkn)):∀ (n:Nat) (y3_0:(List Tkn)) (y3_1:(List S28)),y3_0 <:+ W → SimN (Option.map (fun x=>(x.1,pos to x.2))) (oTh (fun x=>x.2 <:+ W)) (qHh k F s L (pos to a2) to n (pos to y3_0) y3_1) (qPc k C a2 n y3_0 y3_1):=by
 intro n
 induction n with
 | zero=>intro y3_0 y3_1 _; exact sZ
 | succ n ih =>
  intro y3_0 y3_1 hy
  show SimN (Option.map (fun x=>(x.1,pos to x.2))) (oTh (fun x=>x.2 <:+ W)) (qEc k F s L (pos to a2) to (qHh k F s L (pos to a2) to n) (pos to y3_0) y3_1) (qJ9 k C a2 (qPc k C a2 n) y3_0 y3_1)
  unfold qEc qJ9
  exact sT (qAm hv ([59]:List Nat) y3_0 hy) fun x1_1 hx1_1=>sI (sT (hF.c52 x1_1.2 hx1_1) fun x2_3 hx2_3=>sE fun x2_5=>ih x2_3.2 x2_5 hx2_3) (sR (x:=((⟨(24:Int),([]:List Nat),⟨(y3_1).length,(y3_1).flatMap e29⟩,false,false,([]:List (List Nat)),([]:List (List Nat))⟩:S28),x1_1.2)) hx1_1)
theorem c50B_sim {k:Nat} {s:List Nat} {L:List S33} {to:Int} {W:(List Tkn)} (hv:Vw k s L to W) {F:Fns0} {C:Cns} (hF:SimC s L to W F C) (a2:(List Tkn)) (h:a2 <:+ W):SimN (Option.map (fun x=>(x.1,pos to x.2))) (oTh (fun x=>x.2 <:+ W)) (i50B k F s L (pos to a2) to) (c50B k C a2):=by
 unfold i50B c50B
 exact sT (hF.c52 a2 h) fun x0_1 hx0_1=>qLx hv hF a2 k x0_1.2 ([x0_1.1]:List S28) hx0_1
theorem c51B_sim {k:Nat} {s:List Nat} {L:List S33} {to:Int} {W:(List Tkn)} (hv:Vw k s L to W) {F:Fns0} {C:Cns} (hF:SimC s L to W F C) (a2:(List Tkn)) (h:a2 <:+ W):SimN (Option.map (fun x=>(x.1,pos to x.2))) (oTh (fun x=>x.2 <:+ W)) (i51B k F s L (pos to a2) to) (c51B k C a2):=by
 unfold i51B c51B
 exact sT (qB1 hv ([40]:List Nat) a2 h) fun x0_1 hx0_1=>sT (hF.c18 (23:Int) ([]:List Nat) false false ([]:List (List Nat)) ([]:List (List Nat)) ([41]:List Nat) x0_1 ([]:List S28) hx0_1) fun x1_4 hx1_4=>sR (x:=((⟨x1_4.1,x1_4.2.1,⟨(x1_4.2.2.2.2.2.2.2).length,(x1_4.2.2.2.2.2.2.2).flatMap e29⟩,x1_4.2.2.1,x1_4.2.2.2.1,x1_4.2.2.2.2.1,x1_4.2.2.2.2.2.1⟩:S28),x1_4.2.2.2.2.2.2.1)) hx1_4
theorem qLw {k:Nat} {s:List Nat} {L:List S33} {to:Int} {W:(List Tkn)} (hv:Vw k s L to W) {F:Fns0} {C:Cns} (hF:SimC s L to W F C)  (a2:(List Tkn)):∀ (n:Nat) (y3_0:(List Tkn)) (y3_1:(List S28)),y3_0 <:+ W → SimN (Option.map (fun x=>(x.1,pos to x.2))) (oTh (fun x=>x.2 <:+ W)) (qHg k F s L (pos to a2) to n (pos to y3_0) y3_1) (qPb k C a2 n y3_0 y3_1):=by
 intro n
 induction n with
 | zero=>intro y3_0 y3_1 _; exact sZ
 | succ n ih =>
  intro y3_0 y3_1 hy
  show SimN (Option.map (fun x=>(x.1,pos to x.2))) (oTh (fun x=>x.2 <:+ W)) (qEb k F s L (pos to a2) to (qHg k F s L (pos to a2) to n) (pos to y3_0) y3_1) (qJ8 k C a2 (qPb k C a2 n) y3_0 y3_1)
  unfold qEb qJ8
  exact sT (qAm hv ([44]:List Nat) y3_0 hy) fun x1_1 hx1_1=>sI (sT (hF.c5 (1:Int) x1_1.2 hx1_1) fun x2_3 hx2_3=>sE fun x2_5=>ih x2_3.2 x2_5 hx2_3) (sR (x:=((⟨(25:Int),([]:List Nat),⟨(y3_1).length,(y3_1).flatMap e29⟩,false,false,([]:List (List Nat)),([]:List (List Nat))⟩:S28),x1_1.2)) hx1_1)
theorem c52B_sim {k:Nat} {s:List Nat} {L:List S33} {to:Int} {W:(List Tkn)} (hv:Vw k s L to W) {F:Fns0} {C:Cns} (hF:SimC s L to W F C) (a2:(List Tkn)) (h:a2 <:+ W):SimN (Option.map (fun x=>(x.1,pos to x.2))) (oTh (fun x=>x.2 <:+ W)) (i52B k F s L (pos to a2) to) (c52B k C a2):=by
 unfold i52B c52B
 exact sT (hF.c5 (1:Int) a2 h) fun x0_1 hx0_1=>qLw hv hF a2 k x0_1.2 ([x0_1.1]:List S28) hx0_1
theorem qAd {k : Nat} {s : List Nat} {L : List S33} {to : Int} {W : (List Tkn)} (hv : ∀ j, Vw (k + j) s L to W) : ∀ n, SimC s L to W (par0 (k + n)) (cpar k n)
 | 0=>⟨(fun _ _ _=>sZ),(fun _ _=>sZ),(fun _ _=>sZ),(fun _ _=>sZ),(fun _ _ _ _=>sZ),(fun _ _=>sZ),(fun _ _ _ _ _ _ _ _ _ _=>sZ),(fun _ _=>sZ),(fun _ _ _ _ _ _ _ _ _ _=>sZ),(fun _ _ _ _ _ _ _ _ _ _=>sZ),(fun _ _=>sZ),(fun _ _=>sZ),(fun _ _ _=>sZ),(fun _ _=>sZ),(fun _ _ _ _ _ _ _ _ _=>sZ),(fun _ _=>sZ),(fun _ _=>sZ),(fun _ _=>sZ),(fun _ _ _ _ _ _ _ _ _=>sZ),(fun _ _ _ _ _ _ _ _ _=>sZ),(fun _ _=>sZ),(fun _ _ _=>sZ),(fun _ _ _=>sZ),(fun _ _ _=>sZ),(fun _ _ _=>sZ),(fun _ _=>sZ),(fun _ _=>sZ),(fun _ _=>sZ),(fun _ _ _ _ _=>sZ),(fun _ _ _=>sZ),(fun _ _=>sZ),(fun _ _=>sZ),(fun _ _=>sZ),(fun _ _=>sZ)⟩
 | n + 1=>⟨c5B_sim (hv n) (qAd hv n),c6B_sim (hv n) (qAd hv n),c8B_sim (hv n) (qAd hv n),c13B_sim (hv n) (qAd hv n),c14B_sim (hv n) (qAd hv n),(fun _ _=>sZ),c18B_sim (hv n) (qAd hv n),(fun _ _=>sZ),(fun _ _ _ _ _ _ _ _ _ _=>sZ),(fun _ _ _ _ _ _ _ _ _ _=>sZ),c24B_sim (hv n) (qAd hv n),(fun _ _=>sZ),(fun _ _ _=>sZ),c29B_sim (hv n) (qAd hv n),(fun _ _ _ _ _ _ _ _ _=>sZ),(fun _ _=>sZ),(fun _ _=>sZ),c34B_sim (hv n) (qAd hv n),c36B_sim (hv n) (qAd hv n),c37B_sim (hv n) (qAd hv n),c38B_sim (hv n) (qAd hv n),c40B_sim (hv n) (qAd hv n),c41B_sim (hv n) (qAd hv n),c42B_sim (hv n) (qAd hv n),c43B_sim (hv n) (qAd hv n),c44B_sim (hv n) (qAd hv n),c45B_sim (hv n) (qAd hv n),c46B_sim (hv n) (qAd hv n),c47B_sim (hv n) (qAd hv n),c48B_sim (hv n) (qAd hv n),c49B_sim (hv n) (qAd hv n),c50B_sim (hv n) (qAd hv n),c51B_sim (hv n) (qAd hv n),c52B_sim (hv n) (qAd hv n)⟩
end Go.Proofs.Ythpplbkobokghaa.Am
set_option maxRecDepth 100000
set_option linter.unusedVariables false
namespace Go.Proofs.Ythpplbkobokghaa.Am
noncomputable section
open Go
abbrev Ri4:Type:=(Int × (List Nat) × Raw × Bool × Bool × (List (List Nat)) × (List (List Nat)) × Int)
abbrev Ti4:Type:=Int → (List Nat) → Raw → Bool → Bool → (List (List Nat)) → (List (List Nat)) → (List Nat) → (List S33) → Int → Int → Option (Option Ri4)
def Xi4 (a0:Int) (a1:(List Nat)) (a2:Raw) (a3:Bool) (a4:Bool) (a5:(List (List Nat))) (a6:(List (List Nat))) (a7:(List Nat)) (a8:(List S33)) (a9:Int) (a10:Int):Fx (Option Ri4):=⟨Try.prog,cx,Try.f34,fun r=>match r with | some r => .tuple [] | none => .top,2,fun r=>match r with | some r=>(mkH [⟨[.i r.1,.str r.2.1,q29 r.2.2.1,.bool r.2.2.2.1,.bool r.2.2.2.2.1,w9 r.2.2.2.2.2.1,w9 r.2.2.2.2.2.2.1],7,false⟩,⟨[.str a7,w34 a8,.i r.2.2.2.2.2.2.2,.i a10],4,false⟩]) | none=>(mkH [⟨[.i a0,.str a1,q29 a2,.bool a3,.bool a4,w9 a5,w9 a6],7,false⟩,⟨[.str a7,w34 a8,.i a9,.i a10],4,false⟩]),cxTi,cxOrd,fun r=>match r with | some _=>none | none=>some (thrown,[1]),false⟩
def Pi4 (f:Ti4):Prop := ∀ a0 a1 a2 a3 a4 a5 a6 a7 a8 a9 a10,PQh (Xi4 a0 a1 a2 a3 a4 a5 a6 a7 a8 a9 a10) 34 [.ptr 1 4 0,.ptr 0 7 0] (f a0 a1 a2 a3 a4 a5 a6 a7 a8 a9 a10)
def i4p0:Pt:=nav [] (bodyAt Try.f34)
def i4 (k:Nat) (a0:Int) (a1:(List Nat)) (a2:Raw) (a3:Bool) (a4:Bool) (a5:(List (List Nat))) (a6:(List (List Nat))) (a7:(List Nat)) (a8:(List S33)) (a9:Int) (a10:Int):Option (Option Ri4) :=
 bT (i6 k a7 a8 a9 a10) fun x0_1=>some (some (x0_1.1.f0,x0_1.1.f1,x0_1.1.f2,x0_1.1.f3,x0_1.1.f4,x0_1.1.f5,x0_1.1.f6,x0_1.2))
theorem i4_all (k:Nat):∀ a0 a1 a2 a3 a4 a5 a6 a7 a8 a9 a10 r,i4 k a0 a1 a2 a3 a4 a5 a6 a7 a8 a9 a10 = some r → CallT Try.prog 34 [.ptr 1 4 0,.ptr 0 7 0] (mkH [⟨[.i a0,.str a1,q29 a2,.bool a3,.bool a4,w9 a5,w9 a6],7,false⟩,⟨[.str a7,w34 a8,.i a9,.i a10],4,false⟩]) ((Xi4 a0 a1 a2 a3 a4 a5 a6 a7 a8 a9 a10).thr r) ((Xi4 a0 a1 a2 a3 a4 a5 a6 a7 a8 a9 a10).enc r) ((Xi4 a0 a1 a2 a3 a4 a5 a6 a7 a8 a9 a10).fin r):=by
 intro a0 a1 a2 a3 a4 a5 a6 a7 a8 a9 a10 r h
 refine qA2 (Xi4 a0 a1 a2 a3 a4 a5 a6 a7 a8 a9 a10) Try.func34 (by kernel_rfl) (by kernel_rfl) rfl (t:=i4 k a0 a1 a2 a3 a4 a5 a6 a7 a8 a9 a10) ?_ h
 unfold i4
 refine qA (eE:=[(0,.ptr 1 4 0),(1,.ptr 0 7 0)]) (by kernel_rfl) ?_
 let Q1:Blk:=⟨[.i a0,.str a1,q29 a2,.bool a3,.bool a4,w9 a5,w9 a6],7,false⟩
 refine oH 2 (atN 1 (ctl1 i4p0)) [(3,.ptr 1 4 0),(0,.ptr 1 4 0),(1,.ptr 0 7 0)] (mkH [Q1,⟨[.str a7,w34 a8,.i a9,.i a10],4,false⟩]) ?_
 refine oX (fun (x0_1:(S28 × Int))=>n29 x0_1.1) (fun x0_1=>[Q1,⟨[.str a7,w34 a8,.i x0_1.2,.i a10],4,false⟩]) (atN 2 (ctl1 i4p0)) 4 [1] [] [] [1] [] [.ptr 1 4 0] (i6_ok k a7 a8 a9 a10) trivial (fun _=>trivial) trivial fun x0_1 hx0_1=>?_
 exact oQF 2 [⟨e29 x0_1.1,7,false⟩,⟨[.str a7,w34 a8,.i x0_1.2,.i a10],4,false⟩] 2 [] [] (.tuple []) .ps trivial
theorem i4_ok (k:Nat):Pi4 (i4 k):=fun a0 a1 a2 a3 a4 a5 a6 a7 a8 a9 a10=>⟨fun x h=>i4_all k a0 a1 a2 a3 a4 a5 a6 a7 a8 a9 a10 (some x) h,fun h=>⟨_,i4_all k a0 a1 a2 a3 a4 a5 a6 a7 a8 a9 a10 none h⟩⟩
abbrev Ri1:Type:=(Int × Int × (List (List Nat)) × Int × (List Nat) × Raw × Bool × Bool × (List (List Nat)))
abbrev Ti1:Type:=(List Nat) → (List S33) → Int → Int → Int → (List Nat) → Raw → Bool → Bool → (List (List Nat)) → (List (List Nat)) → Option Ri1
def Xi1 (a0:(List Nat)) (a1:(List S33)) (a2:Int) (a3:Int) (a4:Int) (a5:(List Nat)) (a6:Raw) (a7:Bool) (a8:Bool) (a9:(List (List Nat))) (a10:(List (List Nat))):Fx Ri1:=⟨Try.prog,cx,Try.f27,fun r => .tuple [.i r.1,.i r.2.1],1,fun r=>(mkH [⟨[.i r.2.2.2.1,.str r.2.2.2.2.1,q29 r.2.2.2.2.2.1,.bool r.2.2.2.2.2.2.1,.bool r.2.2.2.2.2.2.2.1,w9 r.2.2.2.2.2.2.2.2,w9 r.2.2.1],7,false⟩]),cxTi,cxOrd,fun _=>none,true⟩
def Pi1 (f:Ti1):Prop := ∀ a0 a1 a2 a3 a4 a5 a6 a7 a8 a9 a10,PNh (Xi1 a0 a1 a2 a3 a4 a5 a6 a7 a8 a9 a10) 27 [.str a0,w34 a1,.i a2,.i a3,.func 34 [] [.ptr 0 7 0]] (mkH [⟨[.i a4,.str a5,q29 a6,.bool a7,.bool a8,w9 a9,w9 a10],7,false⟩]) (f a0 a1 a2 a3 a4 a5 a6 a7 a8 a9 a10)
def i1p1:Pt:=nav [0,0,0,0] (nav [0] (bodyAt Try.f27))
def i1p2:Pt:=nav [0,0] i1p1
def i1p6:Pt:=nav [0,0,0] (nav [2,0,0] i1p2)
def i1p7:Pt:=nav [0,0,0] i1p6
def i1 (k:Nat) (a0:(List Nat)) (a1:(List S33)) (a2:Int) (a3:Int) (a4:Int) (a5:(List Nat)) (a6:Raw) (a7:Bool) (a8:Bool) (a9:(List (List Nat))) (a10:(List (List Nat))):Option Ri1 :=
 jn (fun (z1:Bool)=>if z1 then (some ((0:Int),(8:Int),a10,a4,a5,a6,a7,a8,a9)) else (cT (i4 k a4 a5 a6 a7 a8 a9 a10 a0 a1 a2 a3) (some ((0:Int),(8:Int),a10,a4,a5,a6,a7,a8,a9)) fun x0_2=>some (x0_2.2.2.2.2.2.2.2,(0:Int),x0_2.2.2.2.2.2.2.1,x0_2.1,x0_2.2.1,x0_2.2.2.1,x0_2.2.2.2.1,x0_2.2.2.2.2.1,x0_2.2.2.2.2.2.1))) (fun j1=>if (decide (a2 < 0)) then (j1 true) else (if (decide ((a1.length:Int) < a3)) then (j1 true) else (j1 (decide (a3 < a2)))))
theorem i1_all (k:Nat):∀ a0 a1 a2 a3 a4 a5 a6 a7 a8 a9 a10 r,i1 k a0 a1 a2 a3 a4 a5 a6 a7 a8 a9 a10 = some r → CallT Try.prog 27 [.str a0,w34 a1,.i a2,.i a3,.func 34 [] [.ptr 0 7 0]] (mkH [⟨[.i a4,.str a5,q29 a6,.bool a7,.bool a8,w9 a9,w9 a10],7,false⟩]) ((Xi1 a0 a1 a2 a3 a4 a5 a6 a7 a8 a9 a10).thr r) ((Xi1 a0 a1 a2 a3 a4 a5 a6 a7 a8 a9 a10).enc r) ((Xi1 a0 a1 a2 a3 a4 a5 a6 a7 a8 a9 a10).fin r):=by
 intro a0 a1 a2 a3 a4 a5 a6 a7 a8 a9 a10 r h
 refine qA2 (Xi1 a0 a1 a2 a3 a4 a5 a6 a7 a8 a9 a10) Try.func27 (by kernel_rfl) (by kernel_rfl) rfl (t:=i1 k a0 a1 a2 a3 a4 a5 a6 a7 a8 a9 a10) ?_ h
 unfold i1
 refine qA (eE:=[(0,.str a0),(1,w34 a1),(2,.i a2),(3,.i a3),(4,.func 34 [] [.ptr 0 7 0])]) (by kernel_rfl) ?_
 let E1:Env:=[(15,.bool (decide (a2 < 0))),(14,.bool (decide (a2 < 0))),(13,.i a2),(11,.ptr 2 1 0),(10,.ptr 1 1 0),(0,.str a0),(1,w34 a1),(2,.i a2),(3,.i a3),(4,.func 34 [] [.ptr 0 7 0])]
 let Q1:Blk:=⟨[.i a4,.str a5,q29 a6,.bool a7,.bool a8,w9 a9,w9 a10],7,false⟩
 let K1:List Blk:=[Q1,⟨[.i 0],0,false⟩,⟨[.i 0],0,false⟩]
 refine oH 11 (atN 3 (ctl1 i1p1)) E1 (mkH K1) ?_
 refine oJ i1p2 (fun (z1:Bool)=>[(0,.str a0),(1,w34 a1),(2,.i a2),(3,.i a3),(4,.func 34 [] [.ptr 0 7 0]),(10,.ptr 1 1 0),(11,.ptr 2 1 0),(25,.bool z1)]) (fun (z1:Bool)=>(mkH K1)) (fun z1=>?_) (fun j1 hj1=>?_)
 ·refine oS 25 (fun hb=>?_) (fun hb=>?_)
  ·let E2:Env:=[(25,.bool true),(0,.str a0),(1,w34 a1),(2,.i a2),(3,.i a3),(4,.func 34 [] [.ptr 0 7 0]),(10,.ptr 1 1 0),(11,.ptr 2 1 0),(25,.bool z1)]
   exact oQF 7 [Q1,⟨[.i 0],1,false⟩,⟨[.i 8],1,false⟩] 1 [] [.i 0,.i 8] (.tuple [.i 0,.i 8]) .ps trivial
  ·let E4:Env:=[(4,.func 34 [] [.ptr 0 7 0]),(10,.ptr 1 1 0),(11,.ptr 2 1 0),(12,.ptr 3 4 0)]
   let K2:List Blk:=[Q1,⟨[.i 0],0,false⟩,⟨[.i 0],0,false⟩,⟨[.str a0,w34 a1,.i a2,.i a3],0,false⟩]
   refine oLH 13 i1p6 E4 (mkH K2) ?_
   refine oR 2 (atN 1 (ctl1 i1p6)) ((32,.func 46 [] [.ptr 1 1 0,.ptr 2 1 0]) :: E4) ?_
   refine qJr (f:=46) (caps:=[.ptr 1 1 0,.ptr 2 1 0]) (by kernel_rfl) ?_
   refine okD_at (p':=(atN 2 (ctl1 i1p6))) (by kernel_rfl) ?_
   refine qE9 5 (p':=(atN 2 (ctl1 i1p7))) (eE:=((34,.ptr 3 4 0) :: (33,.func 34 [] [.ptr 0 7 0]) :: (32,.func 46 [] [.ptr 1 1 0,.ptr 2 1 0]) :: E4)) (H':=(mkH K2)) (by kernel_rfl) ?_
   let Q3:Blk:=⟨[.str a0,w34 a1,.i a2,.i a3],4,false⟩
   let K3:List Blk:=[Q1,⟨[.i 0],0,false⟩,⟨[.i 0],0,false⟩,Q3]
   let K4:List Blk:=[Q1,⟨[.i 0],1,false⟩,⟨[.i 8],1,false⟩,Q3]
   refine qJt (tv:=thrown) (D:=[3]) (rc:=((0:Int),(8:Int),a10,a4,a5,a6,a7,a8,a9)) (tc:=some ((0:Int),(8:Int),a10,a4,a5,a6,a7,a8,a9)) (xs:=[.i 0,.i 8]) (v := .tuple [.i 0,.i 8]) (fi:=34) (args:=[.ptr 3 4 0,.ptr 0 7 0]) (fun (x0_2:Ri4) => .tuple []) (fun (x0_2:Ri4)=>(mkH [⟨[.i x0_2.1,.str x0_2.2.1,q29 x0_2.2.2.1,.bool x0_2.2.2.2.1,.bool x0_2.2.2.2.2.1,w9 x0_2.2.2.2.2.2.1,w9 x0_2.2.2.2.2.2.2.1],7,false⟩,⟨[.i 0],0,false⟩,⟨[.i 0],0,false⟩,⟨[.str a0,w34 a1,.i x0_2.2.2.2.2.2.2.2,.i a3],4,false⟩])) (atN 3 (ctl1 i1p7)) (fun x0_2=>[(35,.tuple []),(34,.ptr 3 4 0),(33,.func 34 [] [.ptr 0 7 0]),(32,.func 46 [] [.ptr 1 1 0,.ptr 2 1 0]),(4,.func 34 [] [.ptr 0 7 0]),(10,.ptr 1 1 0),(11,.ptr 2 1 0),(12,.ptr 3 4 0)]) K3 [Q1] [⟨[.i 0],1,false⟩,⟨[.i 8],1,false⟩,Q3] [(10,.ptr 1 1 0),(11,.ptr 2 1 0)] [10,11] 3 rfl rfl (by kernel_rfl) (fun h=>frS 0 (M:=K3) (rs:=[0,3]) (ms:=[]) (mv:=[]) (mm:=[]) (D:=[3]) (xs':=[.ptr 3 4 0,.ptr 0 7 0]) (.refl) ((i4_ok k a4 a5 a6 a7 a8 a9 a10 a0 a1 a2 a3).2 h) trivial trivial (by kernel_rfl)) (by kernel_rfl) (by kernel_rfl) (by kernel_rfl) (by kernel_rfl) (qDt (⟨Try.prog,cx,Try.f46,fun _ => .tuple [],4,fun _=>(mkH K4),cxTi,cxOrd,fun _=>none,false⟩:Fx Unit) 5 2 (x := .iface 72 (.agg [])) qEz (by kernel_rfl) (by kernel_rfl) (by kernel_rfl) rfl rfl rfl rfl ?_) rfl (by kernel_rfl) (by kernel_rfl) (by kernel_rfl) (.pures (by kernel_rfl)) ⟨(by kernel_rfl),trivial⟩ (by kernel_rfl) (by kernel_rfl) (fun x0_2 h=>frW 0 K3 (rs:=[0,3]) (ms:=[]) (ms':=[]) (mv:=[]) (xs':=[.ptr 3 4 0,.ptr 0 7 0]) (.refl) ((i4_ok k a4 a5 a6 a7 a8 a9 a10 a0 a1 a2 a3).1 x0_2 h) trivial trivial (by kernel_rfl)) (fun _=>by kernel_rfl) (fun x0_2 hx0_2=>?_)
   ·refine oE [(2,.iface 72 (.agg [])),(5,.iface 72 (.agg [])),(0,.ptr 1 1 0),(1,.ptr 2 1 0)] ?_
    let E1:Env:=[(4,.bool true),(3,.ptr 4 0 0),(12,.bool true),(11,.agg []),(8,.tuple [.agg [],.bool true]),(10,.tuple [.agg [],.bool true]),(9,.iface 72 (.agg [])),(7,.bool true),(6,.iface 72 (.agg [])),(2,.iface 72 (.agg [])),(5,.iface 72 (.agg [])),(0,.ptr 1 1 0),(1,.ptr 2 1 0)]
    let E2:Env:=[(0,.ptr 1 1 0),(1,.ptr 2 1 0),(2,.iface 72 (.agg [])),(4,.bool true)]
    refine oLH 19 (nav [0,0,0] (nav [1,0,0] (nav [0,0] (nav [0] (restAt Try.f46))))) E2 (mkH [Q1,⟨[.i 0],0,false⟩,⟨[.i 0],0,false⟩,Q3,⟨[],0,false⟩]) ?_
    refine oH 10 .fin ((14,.bool false) :: (13,.bool true) :: E2) (mkH [Q1,⟨[.i 0],1,false⟩,⟨[.i 8],1,false⟩,Q3,⟨[],0,false⟩]) ?_
    refine qAa K4 [⟨[],0,false⟩] (by kernel_rfl) rfl (by kernel_rfl) ⟨(by kernel_rfl),⟨(by kernel_rfl),⟨(by kernel_rfl),⟨(by kernel_rfl),trivial⟩⟩⟩⟩ ?_
    exact qG3 (r:=()) (xs:=[]) (by kernel_rfl) (by kernel_rfl) (by kernel_rfl) (by kernel_rfl)
   ·let Q4:Blk:=⟨[.i x0_2.1,.str x0_2.2.1,q29 x0_2.2.2.1,.bool x0_2.2.2.2.1,.bool x0_2.2.2.2.2.1,w9 x0_2.2.2.2.2.2.1,w9 x0_2.2.2.2.2.2.2.1],7,false⟩
    let Q5:Blk:=⟨[.i x0_2.2.2.2.2.2.2.2],1,false⟩
    let Q6:Blk:=⟨[.str a0,w34 a1,.i x0_2.2.2.2.2.2.2.2,.i a3],4,false⟩
    refine qE9 11 (p' := .fin) (eE:=((39,.i x0_2.2.2.2.2.2.2.2) :: (38,.ptr 3 4 2) :: (37,.ptr 3 4 0) :: (36,.ptr 3 4 0) :: (35,.tuple []) :: (34,.ptr 3 4 0) :: (33,.func 34 [] [.ptr 0 7 0]) :: (32,.func 46 [] [.ptr 1 1 0,.ptr 2 1 0]) :: E4)) (H':=(mkH [Q4,Q5,⟨[.i 0],1,false⟩,Q6])) (by kernel_rfl) ?_
    refine qN3 (r:=(x0_2.2.2.2.2.2.2.2,(0:Int),x0_2.2.2.2.2.2.2.1,x0_2.1,x0_2.2.1,x0_2.2.2.1,x0_2.2.2.2.1,x0_2.2.2.2.2.1,x0_2.2.2.2.2.2.1)) (xs:=[.i x0_2.2.2.2.2.2.2.2,.i 0]) (v := .tuple [.i x0_2.2.2.2.2.2.2.2,.i 0]) [Q4,Q5,⟨[.i 0],1,false⟩,Q6] [Q4] [Q5,⟨[.i 0],1,false⟩,Q6] rfl rfl (qDt (⟨Try.prog,cx,Try.f46,fun _ => .tuple [],4,fun _=>(mkH [Q4,Q5,⟨[.i 0],1,false⟩,Q6]),cxTi,cxOrd,fun _=>none,false⟩:Fx Unit) 5 2 (x := .nili) qJv (by kernel_rfl) (by kernel_rfl) (by kernel_rfl) rfl rfl rfl rfl ?_) (by kernel_rfl) (by kernel_rfl) (by kernel_rfl) (by kernel_rfl) (.pures (by kernel_rfl)) ⟨(by kernel_rfl),trivial⟩ (by kernel_rfl) (by kernel_rfl)
    let E1:Env:=[(7,.bool false),(6,.nili),(2,.nili),(5,.nili),(0,.ptr 1 1 0),(1,.ptr 2 1 0)]
    refine oH 7 .fin E1 (mkH [Q4,Q5,⟨[.i 0],1,false⟩,Q6]) ?_
    exact qG3 (r:=()) (xs:=[]) (by kernel_rfl) (by kernel_rfl) (by kernel_rfl) (by kernel_rfl)
 ·refine oS 15 (fun hb=>?_) (fun hb=>?_)
  ·refine oLH 11 i1p2 [(0,.str a0),(1,w34 a1),(2,.i a2),(3,.i a3),(4,.func 34 [] [.ptr 0 7 0]),(10,.ptr 1 1 0),(11,.ptr 2 1 0),(25,.bool true)] (mkH K1) ?_
   exact hj1 true
  ·let E8:Env:=((21,.bool (decide ((a1.length:Int) < a3))) :: (20,.bool (decide ((a1.length:Int) < a3))) :: (19,.bool (decide ((a1.length:Int) < a3))) :: (18,.i (a1.length:Int)) :: (17,w34 a1) :: (16,.i a3) :: (15,.bool false) :: E1)
   refine oH 6 (atN 9 (ctl1 i1p1)) E8 (mkH K1) ?_
   refine oS 21 (fun hb=>?_) (fun hb=>?_)
   ·refine oR 5 i1p2 ((25,.bool true) :: (24,.tuple []) :: (23,.tuple []) :: (22,.tuple []) :: (21,.bool true) :: E8) ?_
    refine oK [0,1,2,3,4,10,11,25] [(0,.str a0),(1,w34 a1),(2,.i a2),(3,.i a3),(4,.func 34 [] [.ptr 0 7 0]),(10,.ptr 1 1 0),(11,.ptr 2 1 0),(25,.bool true)] ?_
    exact hj1 true
   ·refine oL 5 i1p2 [(0,.str a0),(1,w34 a1),(2,.i a2),(3,.i a3),(4,.func 34 [] [.ptr 0 7 0]),(10,.ptr 1 1 0),(11,.ptr 2 1 0),(25,.bool (decide (a3 < a2)))] ?_
    exact hj1 (decide (a3 < a2))
theorem i1_ok (k:Nat):Pi1 (i1 k):=fun a0 a1 a2 a3 a4 a5 a6 a7 a8 a9 a10=>fun x h=>i1_all k a0 a1 a2 a3 a4 a5 a6 a7 a8 a9 a10 x h
def Xg23:Fx (S28 × Int × Int):=⟨Try.prog,cx,Try.f23,fun r => .tuple [.agg [.i r.1.f0,.str r.1.f1,q29 r.1.f2,.bool r.1.f3,.bool r.1.f4,w9 r.1.f5,w9 r.1.f6],.i r.2.1,.i r.2.2],0,fun _=>H0,cxTi,cxOrd,fun _=>none,false⟩
def g23p2:Pt:=nav [0,0,0] (nav [0,0,0] (nav [0] (bodyAt Try.f23)))
def g23p3:Pt:=nav [0,0,0] g23p2
def g23 (k:Nat) (a0:(List Nat)) (a1:(List S33)) (a2:Int) (a3:Int):Option (S28 × Int × Int) :=
 (i1 k a0 a1 a2 a3 (0:Int) ([]:List Nat) (⟨(([]:List S28)).length,(([]:List S28)).flatMap e29⟩:Raw) false false ([]:List (List Nat)) ([]:List (List Nat))).bind fun x0_5=>(g30 k (⟨x0_5.2.2.2.1,x0_5.2.2.2.2.1,x0_5.2.2.2.2.2.1,x0_5.2.2.2.2.2.2.1,x0_5.2.2.2.2.2.2.2.1,x0_5.2.2.2.2.2.2.2.2,x0_5.2.2.1⟩:S28) x0_5.2.1).bind fun x1_2=>some (x1_2,x0_5.1,x0_5.2.1)
theorem g23_ok (k:Nat) (a0:(List Nat)) (a1:(List S33)) (a2:Int) (a3:Int) (r:(S28 × Int × Int)) (h:g23 k a0 a1 a2 a3 = some r):PureOk Try.prog 23 [.str a0,w34 a1,.i a2,.i a3] (.tuple [.agg [.i r.1.f0,.str r.1.f1,q29 r.1.f2,.bool r.1.f3,.bool r.1.f4,w9 r.1.f5,w9 r.1.f6],.i r.2.1,.i r.2.2]):=by
 refine qA5 Xg23 (fun _=>⟨rfl,rfl⟩) Try.func23 (by decide +kernel) (by kernel_rfl) (t:=g23 k a0 a1 a2 a3) ?_ h
 unfold g23
 refine qA (eE:=[(0,.str a0),(1,w34 a1),(2,.i a2),(3,.i a3)]) (by kernel_rfl) ?_
 let E1:Env:=[(11,.ptr 1 7 0),(10,.i 0),(9,.i 0),(8,.ptr 0 7 0),(0,.str a0),(1,w34 a1),(2,.i a2),(3,.i a3)]
 let Q1:Blk:=⟨[.i 0,.str [],.nils,.bool false,.bool false,.nils,.nils],0,false⟩
 refine oH 11 g23p2 E1 (mkH [Q1,Q1]) ?_
 refine qCz [Q1,Q1] 1 0 [.i 0,.str [],.nils,.bool false,.bool false,.nils,.nils] [.i 0,.str [],w29 ([]:List S28),.bool false,.bool false,w9 ([]:List (List Nat)),w9 ([]:List (List Nat))] (by kernel_rfl) rfl (.cons (.cons (.nil (.cons (.cons (.nil (.nil (.refl)))))))) ?_
 let E2:Env:=((19,.func 34 [] [.ptr 1 7 0]) :: (18,.i a3) :: (17,.i a2) :: (16,w34 a1) :: (15,.str a0) :: E1)
 refine oH 6 (atN 5 (ctl1 g23p2)) E2 (mkH [Q1,⟨[.i 0,.str [],w29 ([]:List S28),.bool false,.bool false,w9 ([]:List (List Nat)),w9 ([]:List (List Nat))],0,false⟩]) ?_
 refine qG6 (fun (x0_5:Ri1) => .tuple [.i x0_5.1,.i x0_5.2.1]) (fun (x0_5:Ri1)=>(mkH [Q1,⟨[.i x0_5.2.2.2.1,.str x0_5.2.2.2.2.1,q29 x0_5.2.2.2.2.2.1,.bool x0_5.2.2.2.2.2.2.1,.bool x0_5.2.2.2.2.2.2.2.1,w9 x0_5.2.2.2.2.2.2.2.2,w9 x0_5.2.2.1],7,false⟩])) (atN 6 (ctl1 g23p2)) (fun x0_5=>((20,.tuple [.i x0_5.1,.i x0_5.2.1]) :: E2)) (fi:=27) (args:=[.str a0,w34 a1,.i a2,.i a3,.func 34 [] [.ptr 1 7 0]]) (by kernel_rfl) (fun x0_5 h=>frW 0 [Q1,⟨[.i 0,.str [],w29 ([]:List S28),.bool false,.bool false,w9 ([]:List (List Nat)),w9 ([]:List (List Nat))],7,false⟩] (rs:=[1]) (ms:=[]) (ms':=[]) (mv:=[]) (xs':=[.str a0,w34 a1,.i a2,.i a3,.func 34 [] [.ptr 1 7 0]]) (.refl) (i1_ok k a0 a1 a2 a3 (0:Int) ([]:List Nat) (⟨(([]:List S28)).length,(([]:List S28)).flatMap e29⟩:Raw) false false ([]:List (List Nat)) ([]:List (List Nat)) x0_5 h) trivial trivial (by kernel_rfl)) (fun _=>by kernel_rfl) (fun x0_5 hx0_5=>?_)
 let E4:Env:=[(8,.ptr 0 7 0),(11,.ptr 1 7 0),(12,.i x0_5.1),(13,.i x0_5.2.1)]
 refine oLH 7 g23p3 E4 (mkH [Q1,⟨[.i x0_5.2.2.2.1,.str x0_5.2.2.2.2.1,q29 x0_5.2.2.2.2.2.1,.bool x0_5.2.2.2.2.2.2.1,.bool x0_5.2.2.2.2.2.2.2.1,w9 x0_5.2.2.2.2.2.2.2.2,w9 x0_5.2.2.1],7,false⟩]) ?_
 refine oR 3 (atN 2 (ctl1 g23p3)) ((24,.i x0_5.2.1) :: (23,.agg [.i x0_5.2.2.2.1,.str x0_5.2.2.2.2.1,q29 x0_5.2.2.2.2.2.1,.bool x0_5.2.2.2.2.2.2.1,.bool x0_5.2.2.2.2.2.2.2.1,w9 x0_5.2.2.2.2.2.2.2.2,w9 x0_5.2.2.1]) :: E4) ?_
 refine oA (fun (x1_2:S28)=>n29 x1_2) (atN 3 (ctl1 g23p3)) 25 [.agg [.i x0_5.2.2.2.1,.str x0_5.2.2.2.2.1,q29 x0_5.2.2.2.2.2.1,.bool x0_5.2.2.2.2.2.2.1,.bool x0_5.2.2.2.2.2.2.2.1,w9 x0_5.2.2.2.2.2.2.2.2,w9 x0_5.2.2.1],.i x0_5.2.1] (g30_ok k (⟨x0_5.2.2.2.1,x0_5.2.2.2.2.1,x0_5.2.2.2.2.2.1,x0_5.2.2.2.2.2.2.1,x0_5.2.2.2.2.2.2.2.1,x0_5.2.2.2.2.2.2.2.2,x0_5.2.2.1⟩:S28) x0_5.2.1) fun x1_2 hx1_2=>?_
 exact oQ 7
end
theorem pos_all {L:List S33} {W:List Tkn} {k:Nat} {s:List Nat} (hv:Vw k s L (L.length:Int) W):pos (L.length:Int) W = 0:=by
 have:=hv.len
 unfold pos
 omega
theorem cT_some {α R:Type} {m:Option (Option α)} {x:α} {d r:Option R} {f:α → Option R} (h:m = some (some x)) (k:f x = r):cT m d f = r:=by rw [h]; exact k
theorem expr_top {k n:Nat} {s:List Nat} {L:List S33} {W:List Tkn} {lv:Int} {nd:S28} {r:List Tkn} (hv:∀ j,Vw (k + j) s L (L.length:Int) W) (h:(cpar k n).c5 lv W = some (some (nd,r))):g14 (k + n) s L 0 (L.length:Int) lv = some (nd,pos (L.length:Int) r,0):=by
 obtain ⟨h1,-⟩:=(qAd hv n).c5 lv W (List.suffix_refl W) _ h
 rw [pos_all (hv 0)] at h1
 have h2:i3 (k + n) lv 0 [] ⟨0,[]⟩ false false [] [] s L 0 (L.length:Int) = some (some (nd.f0,pos (L.length:Int) r,nd.f1,nd.f2,nd.f3,nd.f4,nd.f5,nd.f6)):=by
  unfold i3
  refine (congrArg (fun m=>bT m _) h1).trans rfl
 unfold g14
 refine bS (a:=(pos (L.length:Int) r,0,nd.f5,nd.f6,nd.f0,nd.f1,nd.f2,nd.f3,nd.f4)) ?_ (bS rfl rfl)
 unfold i0
 exact (jS (v:=false) (fun j=>iF (by decide) (iF (dF (by omega)) (by rw [dF (by omega)])))).trans (iF rfl (cT_some h2 rfl))
theorem bT_s {α β:Type} {m:Option (Option α)} {x:α} {f:α → Option (Option β)} {r:Option (Option β)} (h:m = some (some x)) (k:f x = r):bT m f = r:=by rw [h]; exact k
def wB (b:Bool):List Nat:=if b then [10,10] else []
def callP (c:Nat):List Pc:=[⟨[],[40],9⟩,⟨[],[49],3⟩,⟨[],[41],9⟩]
def itP (b n:Bool) (c:Nat):List Pc:=if n then ⟨wB b,[37,110],11⟩ :: ⟨[10],[120,c],1⟩ :: callP c else ⟨wB b,[120,c],1⟩ :: callP c
def moreP : Nat → List (Bool × Bool) → List Pc
 | _,[]=>[]
 | j,(b,n) :: r=>⟨[],[44],9⟩ :: (itP b n (97 + j) ++ moreP (j + 1) r)
def litN (t:List Nat):S28:=⟨1,t,⟨0,[]⟩,false,false,[],[]⟩
def nt (n:Bool):List (List Nat):=if n then [[37,110]] else []
theorem app104 {l x:List S28} (h:l.length + x.length ≤ 1000000):appS 104 l x = some (l ++ x):=by
 unfold appS
 rw [if_pos ⟨by omega,by omega⟩]
theorem qGt (rest:List Nat):TokAt [44] 9 rest:=qBu rfl rfl (by decide) rfl
theorem tok_open (rest:List Nat):TokAt [40] 9 rest:=qBu rfl rfl (by decide) rfl
theorem tok_shut (rest:List Nat):TokAt [41] 9 rest:=qBu rfl rfl (by decide) rfl
theorem c8 {P:Nat → Prop} (h:P 97 ∧ P 98 ∧ P 99 ∧ P 100 ∧ P 101 ∧ P 102 ∧ P 103 ∧ P 104) {j:Nat} (hj:j < 8):P (97 + j):=by
 obtain ⟨h0,h1,h2,h3,h4,h5,h6,h7⟩:=h
 match j,hj with
 | 0,_=>exact h0
 | 1,_=>exact h1
 | 2,_=>exact h2
 | 3,_=>exact h3
 | 4,_=>exact h4
 | 5,_=>exact h5
 | 6,_=>exact h6
 | 7,_=>exact h7
theorem qD9 : ∀ (a b : List Pc), txt (a ++ b) = txt a ++ txt b
 | [],b=>rfl
 | p :: a,b=>by simp [txt,qD9 a b]
def allP (b n:Bool) (l:List (Bool × Bool)):List Pc:=itP b n 97 ++ moreP 1 l
theorem all_cons (b n:Bool) (l:List (Bool × Bool)):∃ p r,allP b n l = p :: r:=by cases n <;> exact ⟨_,_,rfl⟩
theorem e_len7 (x:S28):(e29 x).length = 7:=rfl
theorem nthR_at:∀ (l:List S28) (i:Nat) (x:S28),l[i]? = some x → d29 (e29 x) = some x → nthR d29 7 l.length (l.flatMap e29) (i:Int) = some x:=by
 intro l i x h hd
 have hi:=(List.getElem?_eq_some_iff.1 h).1
 unfold nthR
 rw [if_pos ⟨by omega,by omega⟩,Int.toNat_natCast]
 have:∀ (l:List S28) (i:Nat),l[i]? = some x → ((l.flatMap e29).drop (i * 7)).take 7 = e29 x:=by
  intro l
  induction l with
  | nil=>intro i h; simp at h
  | cons y l ih =>
   intro i h
   cases i with
   | zero =>
    simp only [List.getElem?_cons_zero,Option.some.injEq] at h
    subst h
    rfl
   | succ i =>
    rw [List.getElem?_cons_succ] at h
    rw [List.flatMap_cons,Nat.succ_mul,Nat.add_comm,← List.drop_drop]
    rw [show (7:Nat) = (e29 y).length from rfl,List.drop_left]
    exact ih i h
 rw [this l i h]
 exact hd
theorem letter_j {j:Nat} (hj:j < 8):toS ([fW .u8 (97 + fW .u8 (j:Int))]:List Int) = some [97 + j]:=by
 match j,hj with
 | 0,_=>rfl
 | 1,_=>rfl
 | 2,_=>rfl
 | 3,_=>rfl
 | 4,_=>rfl
 | 5,_=>rfl
 | 6,_=>rfl
 | 7,_=>rfl
def hdP (k j:Nat):List Pc:=match k with
 | 2=>[⟨if j = 0 then [] else [32],[40],9⟩,⟨[],[97 + j],1⟩,⟨[],[41],9⟩]
 | 3=>[⟨[32],[97 + j],1⟩,⟨[32],[62],9⟩,⟨[32],[49],3⟩]
 | _=>[⟨[32],[97 + j],1⟩]
def guP:List Pc:=[⟨[32],[119,104,101,110],8⟩,⟨[32],[103],1⟩,⟨[],[44],9⟩,⟨[32],[104],1⟩,⟨[],[59],9⟩,⟨[32],[105],1⟩]
def boP (nl:Bool):List Pc:=[⟨[32],[45,62],9⟩,⟨if nl then [10,32] else [32],[98],1⟩,⟨[],[44],9⟩,⟨[32],[99],1⟩]
def ggP (k:Nat) (g:Bool):List Pc:=match k,g with
 | 3,_=>[]
 | _,true=>guP
 | _,false=>[]
def clP (k j:Nat) (g nl:Bool):List Pc:=hdP k j ++ (ggP k g ++ boP nl)
def endP:Pc:=⟨[32],[101,110,100],8⟩
def semP:Pc:=⟨[],[59],9⟩
def tlP (k : Nat) : Nat → List (Bool × Bool) → List Pc
 | _,[]=>[endP]
 | j,(g,nl) :: r=>semP :: (clP k j g nl ++ tlP k (j + 1) r)
def opP (k:Nat):List Pc:=match k with
 | 0=>[⟨[],[99,97,115,101],8⟩,⟨[32],[101],1⟩,⟨[32],[111,102],8⟩]
 | 1=>[⟨[],[114,101,99,101,105,118,101],8⟩]
 | 2=>[⟨[],[102,117,110],8⟩]
 | _=>[⟨[],[105,102],8⟩]
def clAll (k:Nat) (g nl:Bool) (l:List (Bool × Bool)):List Pc:=opP k ++ (clP k 0 g nl ++ tlP k 1 l)
def ndK (kd:Int) (t:List Nat) (l:List S28) (br:Bool):S28:=⟨kd,t,⟨l.length,l.flatMap e29⟩,br,false,[],[]⟩
def arN (k j:Nat):S28:=ndK 23 [] (if k = 3 then [] else [litN [97 + j]]) false
def gaN (k j:Nat) (g:Bool):S28:=ndK 24 [] (match k,g with
 | 3,_=>[ndK 25 [] [ndK 14 [62] [litN [97 + j],litN [49]] false] false]
 | _,true=>[ndK 25 [] [litN [103],litN [104]] false,ndK 25 [] [litN [105]] false]
 | _,false=>[]) false
def clN (k j:Nat) (g nl:Bool):S28:=ndK 22 [] [arN k j,gaN k j g,ndK 25 [] [litN [98],litN [99]] false] nl
def tlN (k : Nat) : Nat → List (Bool × Bool) → List S28
 | _,[]=>[]
 | j,(g,nl) :: r=>clN k j g nl :: tlN k (j + 1) r
def ixP : Nat → List Pc → Nat
 | i,[]=>i
 | i,p :: r=>ixP (i + p.w.length + p.t.length) r
theorem lt6 {P:Nat → Prop} (h0:P 0) (h1:P 1) (h2:P 2) (h3:P 3) (h4:P 4) (h5:P 5):∀ j,j < 6 → P j:=by
 intro j hj
 match j,hj with
 | 0,_=>exact h0
 | 1,_=>exact h1
 | 2,_=>exact h2
 | 3,_=>exact h3
 | 4,_=>exact h4
 | 5,_=>exact h5
theorem pat_0 (i:Nat) (g nl:Bool) (e:Pc) (r:List Pc) (he:e = endP ∨ e = semP):∀ j,j < 6 → (cpar 300 94).c45 (vwp false i (clP 0 j g nl ++ e :: r)) = some (some (clN 0 j g nl,vwp false (ixP i (clP 0 j g nl)) (e :: r))):=by
 rcases he with rfl | rfl <;> cases g <;> cases nl <;> refine lt6 ?_ ?_ ?_ ?_ ?_ ?_ <;> show _ = _ <;> kernel_rfl
theorem pat_2 (i:Nat) (g nl:Bool) (e:Pc) (r:List Pc) (he:e = endP ∨ e = semP):∀ j,j < 6 → (cpar 300 94).c44 (vwp false i (clP 2 j g nl ++ e :: r)) = some (some (clN 2 j g nl,vwp false (ixP i (clP 2 j g nl)) (e :: r))):=by
 rcases he with rfl | rfl <;> cases g <;> cases nl <;> refine lt6 ?_ ?_ ?_ ?_ ?_ ?_ <;> show _ = _ <;> kernel_rfl
theorem pat_3 (i:Nat) (g nl:Bool) (e:Pc) (r:List Pc) (he:e = endP ∨ e = semP):∀ j,j < 6 → (cpar 300 94).c46 (vwp false i (clP 3 j g nl ++ e :: r)) = some (some (clN 3 j g nl,vwp false (ixP i (clP 3 j g nl)) (e :: r))):=by
 rcases he with rfl | rfl <;> cases g <;> cases nl <;> refine lt6 ?_ ?_ ?_ ?_ ?_ ?_ <;> show _ = _ <;> kernel_rfl
theorem cl01 (j:Nat) (g nl:Bool):clP 1 j g nl = clP 0 j g nl:=by cases g <;> rfl
theorem cn01 (j:Nat) (g nl:Bool):clN 1 j g nl = clN 0 j g nl:=by cases g <;> rfl
theorem pat_1 (i:Nat) (g nl:Bool) (e:Pc) (r:List Pc) (he:e = endP ∨ e = semP) (j:Nat) (hj:j < 6):(cpar 300 94).c45 (vwp false i (clP 1 j g nl ++ e :: r)) = some (some (clN 1 j g nl,vwp false (ixP i (clP 1 j g nl)) (e :: r))):=by
 rw [cl01,cn01]; exact pat_0 i g nl e r he j hj
theorem more_2 : ∀ (l : List (Bool × Bool)) (j i n : Nat) (g nl : Bool) (acc : List S28), j + l.length < 6 → l.length < n → acc.length + l.length < 1000 → ∃ i', qFr 394 (cpar 300 94) n [] (vwp false i (clP 2 j g nl ++ tlP 2 (j + 1) l)) acc = some (some (acc ++ clN 2 j g nl :: tlN 2 (j + 1) l, vwp false i' [endP]))
 | l,j,i,0,g,nl,acc,h1,h2,h3=>by omega
 | [],j,i,n + 1,g,nl,acc,h1,h2,h3=>by
  refine ⟨ixP i (clP 2 j g nl),?_⟩
  show qCt 394 (cpar 300 94) (qFr 394 (cpar 300 94) n) [] _ acc = _
  unfold qCt
  exact bT_s (pat_2 i g nl endP [] (.inl rfl) j (by simpa using h1)) (bS (app104 (by simp; omega)) (bT_s (x:=(false,vwp false (ixP i (clP 2 j g nl)) [endP])) rfl (iF rfl rfl)))
 | (g2,nl2) :: l,j,i,n + 1,g,nl,acc,h1,h2,h3=>by
  simp only [List.length_cons] at h1 h2 h3
  obtain ⟨i',ih⟩:=more_2 l (j + 1) (ixP i (clP 2 j g nl) + 0 + 1) n g2 nl2 (acc ++ [clN 2 j g nl]) (by omega) (by omega) (by simp; omega)
  refine ⟨i',?_⟩
  show qCt 394 (cpar 300 94) (qFr 394 (cpar 300 94) n) [] _ acc = _
  unfold qCt
  refine bT_s (pat_2 i g nl semP (clP 2 (j + 1) g2 nl2 ++ tlP 2 (j + 1 + 1) l) (.inr rfl) j (by omega)) (bS (app104 (by simp; omega)) (bT_s (x:=(true,vwp false (ixP i (clP 2 j g nl) + 0 + 1) (clP 2 (j + 1) g2 nl2 ++ tlP 2 (j + 1 + 1) l))) rfl (iT rfl (bS (a:=([],vwp false (ixP i (clP 2 j g nl) + 0 + 1) (clP 2 (j + 1) g2 nl2 ++ tlP 2 (j + 1 + 1) l))) rfl (ih.trans ?_)))))
  rw [List.append_assoc]
  rfl
theorem more_0 : ∀ (l : List (Bool × Bool)) (j i n : Nat) (g nl : Bool) (acc : List S28), j + l.length < 6 → l.length < n → acc.length + l.length < 1000 → ∃ i', qFq 394 (cpar 300 94) n [] (vwp false i (clP 0 j g nl ++ tlP 0 (j + 1) l)) acc = some (some (acc ++ clN 0 j g nl :: tlN 0 (j + 1) l, vwp false i' [endP]))
 | l,j,i,0,g,nl,acc,h1,h2,h3=>by omega
 | [],j,i,n + 1,g,nl,acc,h1,h2,h3=>by
  refine ⟨ixP i (clP 0 j g nl),?_⟩
  show qCs 394 (cpar 300 94) (qFq 394 (cpar 300 94) n) [] _ acc = _
  unfold qCs
  exact bT_s (pat_0 i g nl endP [] (.inl rfl) j (by simpa using h1)) (bS (app104 (by simp; omega)) (bT_s (x:=(false,vwp false (ixP i (clP 0 j g nl)) [endP])) rfl (iF rfl rfl)))
 | (g2,nl2) :: l,j,i,n + 1,g,nl,acc,h1,h2,h3=>by
  simp only [List.length_cons] at h1 h2 h3
  obtain ⟨i',ih⟩:=more_0 l (j + 1) (ixP i (clP 0 j g nl) + 0 + 1) n g2 nl2 (acc ++ [clN 0 j g nl]) (by omega) (by omega) (by simp; omega)
  refine ⟨i',?_⟩
  show qCs 394 (cpar 300 94) (qFq 394 (cpar 300 94) n) [] _ acc = _
  unfold qCs
  refine bT_s (pat_0 i g nl semP (clP 0 (j + 1) g2 nl2 ++ tlP 0 (j + 1 + 1) l) (.inr rfl) j (by omega)) (bS (app104 (by simp; omega)) (bT_s (x:=(true,vwp false (ixP i (clP 0 j g nl) + 0 + 1) (clP 0 (j + 1) g2 nl2 ++ tlP 0 (j + 1 + 1) l))) rfl (iT rfl (bS (a:=([],vwp false (ixP i (clP 0 j g nl) + 0 + 1) (clP 0 (j + 1) g2 nl2 ++ tlP 0 (j + 1 + 1) l))) rfl (ih.trans ?_)))))
  rw [List.append_assoc]
  rfl
theorem more_3 : ∀ (l : List (Bool × Bool)) (j i n : Nat) (g nl : Bool) (acc : List S28), j + l.length < 6 → l.length < n → acc.length + l.length < 1000 → ∃ i', qFp 394 (cpar 300 94) n [] (vwp false i (clP 3 j g nl ++ tlP 3 (j + 1) l)) acc = some (some (acc ++ clN 3 j g nl :: tlN 3 (j + 1) l, vwp false i' [endP]))
 | l,j,i,0,g,nl,acc,h1,h2,h3=>by omega
 | [],j,i,n + 1,g,nl,acc,h1,h2,h3=>by
  refine ⟨ixP i (clP 3 j g nl),?_⟩
  show qCr 394 (cpar 300 94) (qFp 394 (cpar 300 94) n) [] _ acc = _
  unfold qCr
  exact bT_s (pat_3 i g nl endP [] (.inl rfl) j (by simpa using h1)) (bS (app104 (by simp; omega)) (bT_s (x:=(false,vwp false (ixP i (clP 3 j g nl)) [endP])) rfl (iF rfl rfl)))
 | (g2,nl2) :: l,j,i,n + 1,g,nl,acc,h1,h2,h3=>by
  simp only [List.length_cons] at h1 h2 h3
  obtain ⟨i',ih⟩:=more_3 l (j + 1) (ixP i (clP 3 j g nl) + 0 + 1) n g2 nl2 (acc ++ [clN 3 j g nl]) (by omega) (by omega) (by simp; omega)
  refine ⟨i',?_⟩
  show qCr 394 (cpar 300 94) (qFp 394 (cpar 300 94) n) [] _ acc = _
  unfold qCr
  refine bT_s (pat_3 i g nl semP (clP 3 (j + 1) g2 nl2 ++ tlP 3 (j + 1 + 1) l) (.inr rfl) j (by omega)) (bS (app104 (by simp; omega)) (bT_s (x:=(true,vwp false (ixP i (clP 3 j g nl) + 0 + 1) (clP 3 (j + 1) g2 nl2 ++ tlP 3 (j + 1 + 1) l))) rfl (iT rfl (bS (a:=([],vwp false (ixP i (clP 3 j g nl) + 0 + 1) (clP 3 (j + 1) g2 nl2 ++ tlP 3 (j + 1 + 1) l))) rfl (ih.trans ?_)))))
  rw [List.append_assoc]
  rfl
theorem more_1 : ∀ (l : List (Bool × Bool)) (j i n : Nat) (g nl : Bool) (acc : List S28), j + l.length < 6 → l.length < n → acc.length + l.length < 1000 → ∃ i', qFo 394 (cpar 300 94) n [] (vwp false i (clP 1 j g nl ++ tlP 1 (j + 1) l)) acc = some (some (vwp false i' [endP], acc ++ clN 1 j g nl :: tlN 1 (j + 1) l))
 | l,j,i,0,g,nl,acc,h1,h2,h3=>by omega
 | [],j,i,n + 1,g,nl,acc,h1,h2,h3=>by
  refine ⟨ixP i (clP 1 j g nl),?_⟩
  show qCq 394 (cpar 300 94) (qFo 394 (cpar 300 94) n) [] _ acc = _
  unfold qCq
  exact bT_s (pat_1 i g nl endP [] (.inl rfl) j (by simpa using h1)) (bS (app104 (by simp; omega)) (bT_s (x:=(false,vwp false (ixP i (clP 1 j g nl)) [endP])) rfl (iF rfl rfl)))
 | (g2,nl2) :: l,j,i,n + 1,g,nl,acc,h1,h2,h3=>by
  simp only [List.length_cons] at h1 h2 h3
  obtain ⟨i',ih⟩:=more_1 l (j + 1) (ixP i (clP 1 j g nl) + 0 + 1) n g2 nl2 (acc ++ [clN 1 j g nl]) (by omega) (by omega) (by simp; omega)
  refine ⟨i',?_⟩
  show qCq 394 (cpar 300 94) (qFo 394 (cpar 300 94) n) [] _ acc = _
  unfold qCq
  refine bT_s (pat_1 i g nl semP (clP 1 (j + 1) g2 nl2 ++ tlP 1 (j + 1 + 1) l) (.inr rfl) j (by omega)) (bS (app104 (by simp; omega)) (bT_s (x:=(true,vwp false (ixP i (clP 1 j g nl) + 0 + 1) (clP 1 (j + 1) g2 nl2 ++ tlP 1 (j + 1 + 1) l))) rfl (iT rfl (bS (a:=([],vwp false (ixP i (clP 1 j g nl) + 0 + 1) (clP 1 (j + 1) g2 nl2 ++ tlP 1 (j + 1 + 1) l))) rfl (ih.trans ?_)))))
  rw [List.append_assoc]
  rfl
theorem cp_w (W:List Tkn):(cpar 300 97).c24 W = c24B 396 (cpar 300 96) W:=by kernel_rfl
theorem cp_r (W:List Tkn):(cpar 300 96).c38 W = c38B 395 (cpar 300 95) W:=by kernel_rfl
theorem cp_p (W:List Tkn):(cpar 300 98).c13 W = c13B 397 (cpar 300 97) W:=by kernel_rfl
theorem cp_o (W:List Tkn):(cpar 300 99).c8 W = c8B 398 (cpar 300 98) W:=by kernel_rfl
theorem cp_e (W:List Tkn):(cpar 300 100).c5 0 W = c5B 399 (cpar 300 99) 0 W:=by kernel_rfl
theorem qDy (k : Nat) : ∀ (l : List (Bool × Bool)) (j : Nat), (tlN k j l).length = l.length
 | [],j=>rfl
 | (g,nl) :: r,j=>by simp [tlN,qDy k r]
def isOp (t:List Nat):Prop:=t = [99,97,115,101] ∨ t = [114,101,99,101,105,118,101] ∨ t = [102,117,110] ∨ t = [105,102]
theorem prim_op {F:Cns} {t:List Nat} {p:Int} {r:List Tkn} (ht:isOp t):c13B 397 F ((⟨8,t,p⟩,0) :: r) = bT (F.c24 ((⟨8,t,p⟩,0) :: r)) fun x=>some (some (x.1,false,x.2)):=by
 rcases ht with rfl | rfl | rfl | rfl <;> kernel_rfl
theorem oper_op {F:Cns} {t:List Nat} {p:Int} {r:List Tkn} (ht:isOp t):c8B 398 F ((⟨8,t,p⟩,0) :: r) = bT (F.c13 ((⟨8,t,p⟩,0) :: r)) fun x5_1=>bT (F.c14 x5_1.1 x5_1.2.1 x5_1.2.2) fun x6_3=>some (some (x6_3.1,(11:Int),x6_3.2)):=by
 rcases ht with rfl | rfl | rfl | rfl <;> kernel_rfl
theorem expr_op {F:Cns} {t:List Nat} {p:Int} {r:List Tkn} (ht:isOp t):c5B 399 F 0 ((⟨8,t,p⟩,0) :: r) = bT (F.c8 ((⟨8,t,p⟩,0) :: r)) fun x=>qPa 399 F 0 ((⟨8,t,p⟩,0) :: r) 399 x.2.1 x.2.2 x.1:=by
 rcases ht with rfl | rfl | rfl | rfl <;> kernel_rfl
theorem beh_nd (kd:Int) (l:List S28) (h:kd = 18 ∨ kd = 20 ∨ kd = 17 ∨ kd = 19):(cpar 300 98).c14 (ndK kd [] l false) false [] = some (some (ndK kd [] l false,[])):=by
 rcases h with rfl | rfl | rfl | rfl <;> kernel_rfl
theorem qP (W:List Tkn) (n:S28):qPa 399 (cpar 300 99) 0 W 399 11 [] n = some (some (n,[])):=by kernel_rfl
def clsN (k:Nat) (g nl:Bool) (l:List (Bool × Bool)):List S28:=clN k 0 g nl :: tlN k 1 l
theorem ended_0 (i:Nat) (g nl:Bool) (l:List (Bool × Bool)) (b1:List S28) (hl:l.length < 6) (hb:b1.length < 10):(cpar 300 96).c36 18 [] false false [] [] (vwp false i (clP 0 0 g nl ++ tlP 0 1 l)) b1 = some (some (18,[],false,false,[],[],[],b1 ++ clsN 0 g nl l)):=by
 obtain ⟨i',hm⟩:=more_0 l 0 i 394 g nl [] (by omega) (by omega) (by simp; omega)
 have hn:(tlN 0 1 l).length = l.length:=qDy 0 l 1
 show c36B 395 (cpar 300 95) 18 [] false false [] [] (vwp false i (clP 0 0 g nl ++ tlP 0 1 l)) b1 = _
 unfold c36B
 exact bS (a:=([],vwp false i (clP 0 0 g nl ++ tlP 0 1 l))) rfl (bT_s hm (bS (app104 (by simp; omega)) (bS (a:=([],vwp false i' [endP])) rfl (bT_s (x:=[]) rfl rfl))))
theorem ended_3 (i:Nat) (g nl:Bool) (l:List (Bool × Bool)) (b1:List S28) (hl:l.length < 6) (hb:b1.length < 10):(cpar 300 96).c37 19 [] false false [] [] (vwp false i (clP 3 0 g nl ++ tlP 3 1 l)) b1 = some (some (19,[],false,false,[],[],[],b1 ++ clsN 3 g nl l)):=by
 obtain ⟨i',hm⟩:=more_3 l 0 i 394 g nl [] (by omega) (by omega) (by simp; omega)
 have hn:(tlN 3 1 l).length = l.length:=qDy 3 l 1
 show c37B 395 (cpar 300 95) 19 [] false false [] [] (vwp false i (clP 3 0 g nl ++ tlP 3 1 l)) b1 = _
 unfold c37B
 exact bS (a:=([],vwp false i (clP 3 0 g nl ++ tlP 3 1 l))) rfl (bT_s hm (bS (app104 (by simp; omega)) (bS (a:=([],vwp false i' [endP])) rfl (bT_s (x:=[]) rfl rfl))))
theorem qMn (i:Nat) (g nl:Bool) (l:List (Bool × Bool)) (hl:l.length < 6):(cpar 300 96).c38 (vwp false i (clP 1 0 g nl ++ tlP 1 1 l)) = some (some (ndK 20 [] (clsN 1 g nl l) false,[])):=by
 obtain ⟨i',hm⟩:=more_1 l 0 i 394 g nl [] (by omega) (by omega) (by simp; omega)
 rw [cp_r]
 unfold c38B
 exact bS (a:=([],vwp false i (clP 1 0 g nl ++ tlP 1 1 l))) rfl (bS (a:=false) rfl (iT rfl (bT_s hm (bS (a:=([],vwp false i' [endP])) rfl (bT_s (x:=(false,vwp false i' [endP])) rfl (iF rfl (bT_s (x:=[]) rfl rfl)))))))
theorem fun_2 (i:Nat) (g nl:Bool) (l:List (Bool × Bool)) (hl:l.length < 6):(cpar 300 96).c34 (vwp false i (clP 2 0 g nl ++ tlP 2 1 l)) = some (some (ndK 17 [] (clsN 2 g nl l) false,[])):=by
 obtain ⟨i',hm⟩:=more_2 l 0 i 394 g nl [] (by omega) (by omega) (by simp; omega)
 show c34B 395 (cpar 300 95) _ = _
 unfold c34B
 exact bT_s hm (bS (a:=([],vwp false i' [endP])) rfl (bT_s (x:=[]) rfl rfl))
def allK (k:Nat) (g nl:Bool) (l:List (Bool × Bool)):S28:=match k with
 | 0=>ndK 18 [] (litN [101] :: clsN 0 g nl l) false
 | 1=>ndK 20 [] (clsN 1 g nl l) false
 | 2=>ndK 17 [] (clsN 2 g nl l) false
 | _=>ndK 19 [] (clsN 3 g nl l) false
theorem word_0 (g nl:Bool) (l:List (Bool × Bool)) (hl:l.length < 6):(cpar 300 97).c24 (vwp true 0 (clAll 0 g nl l)) = some (some (allK 0 g nl l,[])):=by
 rw [cp_w]
 unfold c24B
 have h:=ended_0 (ixP 0 (opP 0)) g nl l [litN [101]] hl (by decide)
 exact bT_s (x:=(false,vwp true 0 (clAll 0 g nl l))) rfl (iF rfl (bT_s (x:=(true,vwp false 4 (⟨[32],[101],1⟩ :: ⟨[32],[111,102],8⟩ :: (clP 0 0 g nl ++ tlP 0 1 l)))) rfl (iT rfl (bT_s (x:=(litN [101],vwp false 6 (⟨[32],[111,102],8⟩ :: (clP 0 0 g nl ++ tlP 0 1 l)))) (by kernel_rfl) (bT_s (x:=vwp false 9 (clP 0 0 g nl ++ tlP 0 1 l)) rfl (bT_s h rfl))))))
theorem word_1 (g nl:Bool) (l:List (Bool × Bool)) (hl:l.length < 6):(cpar 300 97).c24 (vwp true 0 (clAll 1 g nl l)) = some (some (allK 1 g nl l,[])):=by
 rw [cp_w]
 unfold c24B
 have h:=qMn (ixP 0 (opP 1)) g nl l hl
 exact bT_s (x:=(false,vwp true 0 (clAll 1 g nl l))) rfl (iF rfl (bT_s (x:=(false,vwp true 0 (clAll 1 g nl l))) rfl (iF rfl (bT_s (x:=(false,vwp true 0 (clAll 1 g nl l))) rfl (iF rfl (bT_s (x:=(true,vwp false 7 (clP 1 0 g nl ++ tlP 1 1 l))) rfl (iT rfl (bT_s h rfl))))))))
theorem word_2 (g nl:Bool) (l:List (Bool × Bool)) (hl:l.length < 6):(cpar 300 97).c24 (vwp true 0 (clAll 2 g nl l)) = some (some (allK 2 g nl l,[])):=by
 rw [cp_w]
 unfold c24B
 have h:=fun_2 (ixP 0 (opP 2)) g nl l hl
 exact bT_s (x:=(true,vwp false 3 (clP 2 0 g nl ++ tlP 2 1 l))) rfl (iT rfl (bS (a:=true) rfl (iT rfl (bT_s h rfl))))
theorem word_3 (g nl:Bool) (l:List (Bool × Bool)) (hl:l.length < 6):(cpar 300 97).c24 (vwp true 0 (clAll 3 g nl l)) = some (some (allK 3 g nl l,[])):=by
 rw [cp_w]
 unfold c24B
 have h:=ended_3 (ixP 0 (opP 3)) g nl l [] hl (by decide)
 exact bT_s (x:=(false,vwp true 0 (clAll 3 g nl l))) rfl (iF rfl (bT_s (x:=(false,vwp true 0 (clAll 3 g nl l))) rfl (iF rfl (bT_s (x:=(true,vwp false 2 (clP 3 0 g nl ++ tlP 3 1 l))) rfl (iT rfl (bT_s h rfl))))))
theorem cl_first (k:Nat) (hk:k < 4) (g nl:Bool) (l:List (Bool × Bool)):∃ t r,isOp t ∧ vwp true 0 (clAll k g nl l) = (⟨8,t,0⟩,0) :: r:=by
 match k,hk with
 | 0,_=>exact ⟨_,_,.inl rfl,rfl⟩
 | 1,_=>exact ⟨_,_,.inr (.inl rfl),rfl⟩
 | 2,_=>exact ⟨_,_,.inr (.inr (.inl rfl)),rfl⟩
 | 3,_=>exact ⟨_,_,.inr (.inr (.inr rfl)),rfl⟩
theorem all_k (k:Nat) (hk:k < 4) (g nl:Bool) (l:List (Bool × Bool)):∃ kd n,allK k g nl l = ndK kd [] n false ∧ (kd = 18 ∨ kd = 20 ∨ kd = 17 ∨ kd = 19):=by
 match k,hk with
 | 0,_=>exact ⟨18,_,rfl,.inl rfl⟩
 | 1,_=>exact ⟨20,_,rfl,.inr (.inl rfl)⟩
 | 2,_=>exact ⟨17,_,rfl,.inr (.inr (.inl rfl))⟩
 | 3,_=>exact ⟨19,_,rfl,.inr (.inr (.inr rfl))⟩
theorem qOz {k:Nat} {g nl:Bool} {l:List (Bool × Bool)} (hk:k < 4) (h:(cpar 300 97).c24 (vwp true 0 (clAll k g nl l)) = some (some (allK k g nl l,[]))):(cpar 300 100).c5 0 (vwp true 0 (clAll k g nl l)) = some (some (allK k g nl l,[])):=by
 obtain ⟨t,r,ht,hW⟩:=cl_first k hk g nl l
 obtain ⟨kd,n,hN,hkd⟩:=all_k k hk g nl l
 rw [hW,hN] at h ⊢
 rw [cp_e,expr_op ht,cp_o,oper_op ht,cp_p,prim_op ht]
 exact bT_s (bT_s (bT_s h rfl) (bT_s (beh_nd kd n hkd) rfl)) (qP _ _)
def Nw (rest:List Nat):Prop:=rest = [] ∨ ∃ d q,rest = d :: q ∧ inrN d = false
theorem wt {t rest:List Nat} {d:Nat} {q:List Nat} {K:Int} (ht:t = d :: q) (hd:begN d = 1) (hin:∀ c ∈ t,inrN c = true) (hk:(if rsvN t then (8:Int) else 1) = K) (hr:Nw rest):TokAt t K rest:=by
 have h:=name_tok ht (.inl hd) hin hr
 rw [hd] at h
 rw [← hk]
 exact h
theorem nw {d:Nat} {q:List Nat} (h:inrN d = false):Nw (d :: q) := .inr ⟨d,q,rfl,h⟩
theorem qN7 {rest:List Nat} (hr:Nw rest):∀ j,j < 6 → TokAt [97 + j] 1 rest:=by
 refine lt6 ?_ ?_ ?_ ?_ ?_ ?_ <;> exact wt rfl rfl (by decide) rfl hr
theorem qN8:∀ j,j < 6 → blkN (97 + j) = false:=by refine lt6 ?_ ?_ ?_ ?_ ?_ ?_ <;> rfl
theorem bN:∀ c ∈ ([]:List Nat),blkN c = true:=fun c h=>by cases h
theorem b32:∀ c ∈ [32],blkN c = true:=by decide
theorem bnl (nl:Bool):∀ c ∈ (if nl then [10,32] else [32]),blkN c = true:=by cases nl <;> decide
theorem qJj (rest:List Nat):TokAt [59] 9 rest:=qBu rfl rfl (by decide) rfl
theorem qM9 (rest:List Nat):TokAt [45,62] 9 (32 :: rest):=qBu rfl rfl (by decide) rfl
theorem qLc (rest:List Nat):TokAt [45,62] 9 (10 :: rest):=qBu rfl rfl (by decide) rfl
theorem tok_gr (rest:List Nat):TokAt [62] 9 (32 :: rest):=qBu rfl rfl (by decide) rfl
theorem sc_bo {nl:Bool} {r:List Pc} (h:Sc r) (hr:Nw (txt r)):Sc (boP nl ++ r):=by
 refine ⟨b32,⟨45,[62],rfl,rfl⟩,?_,bnl nl,⟨98,[],rfl,rfl⟩,wt rfl rfl (by show ∀ c ∈ [98],inrN c = true; decide) rfl (nw rfl),bN,⟨44,[],rfl,rfl⟩,qGt _,b32,⟨99,[],rfl,rfl⟩,wt rfl rfl (by decide) rfl hr,h⟩
 cases nl
 ·exact qM9 _
 ·exact qLc _
theorem sc_gg {k:Nat} (hk:k < 4) {g:Bool} {r:List Pc} (h:Sc r) (hr:Nw (txt r)):Sc (ggP k g ++ r):=by
 have w:Sc (guP ++ r):=⟨b32,⟨119,_,rfl,rfl⟩,wt rfl rfl (by decide) rfl (nw rfl),b32,⟨103,_,rfl,rfl⟩,wt rfl rfl (by decide) rfl (nw rfl),bN,⟨44,_,rfl,rfl⟩,qGt _,b32,⟨104,_,rfl,rfl⟩,wt rfl rfl (by decide) rfl (nw rfl),bN,⟨59,_,rfl,rfl⟩,qJj _,b32,⟨105,_,rfl,rfl⟩,wt rfl rfl (by decide) rfl hr,h⟩
 match k,hk with
 | 0,_=>cases g; exact h; exact w
 | 1,_=>cases g; exact h; exact w
 | 2,_=>cases g; exact h; exact w
 | 3,_=>exact h
theorem sc_hd {k j:Nat} (hk:k < 4) (hj:j < 6) {r:List Pc} (h:Sc r) (hr:∃ q,txt r = 32 :: q):Sc (hdP k j ++ r):=by
 obtain ⟨q,hq⟩:=hr
 have w:Sc (⟨[32],[97 + j],1⟩ :: r):=⟨b32,⟨97 + j,[],rfl,qN8 j hj⟩,qN7 (by rw [hq]; exact nw rfl) j hj,h⟩
 match k,hk with
 | 0,_=>exact w
 | 1,_=>exact w
 | 2,_=>exact ⟨(by by_cases h0:j = 0 <;> simp [h0,blkN]),⟨40,[],rfl,rfl⟩,tok_open _,bN,⟨97 + j,[],rfl,qN8 j hj⟩,qN7 (nw rfl) j hj,bN,⟨41,[],rfl,rfl⟩,tok_shut _,h⟩
 | 3,_=>exact ⟨b32,⟨97 + j,[],rfl,qN8 j hj⟩,qN7 (nw rfl) j hj,b32,⟨62,[],rfl,rfl⟩,tok_gr _,b32,⟨49,[],rfl,rfl⟩,one_tok (by show Ne (txt r); rw [hq]; exact .inr ⟨32,q,rfl,rfl,by decide,by decide⟩),h⟩
theorem gb_head {k:Nat} (hk:k < 4) (g nl:Bool) (r:List Pc):∃ q,txt (ggP k g ++ (boP nl ++ r)) = 32 :: q:=by
 match k,hk with
 | 0,_=>cases g <;> exact ⟨_,rfl⟩
 | 1,_=>cases g <;> exact ⟨_,rfl⟩
 | 2,_=>cases g <;> exact ⟨_,rfl⟩
 | 3,_=>exact ⟨_,rfl⟩
theorem sc_cl {k j:Nat} (hk:k < 4) (hj:j < 6) {g nl:Bool} {r:List Pc} (h:Sc r) (hr:Nw (txt r)):Sc (clP k j g nl ++ r):=by
 unfold clP
 rw [List.append_assoc,List.append_assoc]
 exact sc_hd hk hj (sc_gg hk (sc_bo h hr) (nw rfl)) (gb_head hk g nl r)
theorem tl_nw (k j:Nat) (l:List (Bool × Bool)):Nw (txt (tlP k j l)):=by
 cases l with
 | nil=>exact nw rfl
 | cons x l=>obtain ⟨g,nl⟩:=x; exact nw rfl
theorem sc_tl {k : Nat} (hk : k < 4) : ∀ (l : List (Bool × Bool)) (j : Nat), j + l.length ≤ 6 → Sc (tlP k j l)
 | [],j,h=>⟨b32,⟨101,_,rfl,rfl⟩,wt rfl rfl (by decide) rfl (.inl rfl),trivial⟩
 | (g,nl) :: l,j,h=>by
  simp only [List.length_cons] at h
  exact ⟨bN,⟨59,[],rfl,rfl⟩,qJj _,sc_cl hk (by omega) (sc_tl hk l (j + 1) (by omega)) (tl_nw k (j + 1) l)⟩
theorem sc_all {k:Nat} (hk:k < 4) {g nl:Bool} {l:List (Bool × Bool)} (hl:l.length ≤ 5):Sc (clAll k g nl l):=by
 have h:Sc (clP k 0 g nl ++ tlP k 1 l):=sc_cl hk (by decide) (sc_tl hk l 1 (by omega)) (tl_nw k 1 l)
 match k,hk,h with
 | 0,_,h=>exact ⟨bN,⟨99,_,rfl,rfl⟩,wt rfl rfl (by decide) rfl (nw rfl),b32,⟨101,_,rfl,rfl⟩,wt rfl rfl (by decide) rfl (nw rfl),b32,⟨111,_,rfl,rfl⟩,wt rfl rfl (by decide) rfl (nw rfl),h⟩
 | 1,_,h=>exact ⟨bN,⟨114,_,rfl,rfl⟩,wt rfl rfl (by decide) rfl (nw rfl),h⟩
 | 2,_,h=>exact ⟨bN,⟨102,_,rfl,rfl⟩,wt rfl rfl (by decide) rfl (nw rfl),h⟩
 | 3,_,h=>exact ⟨bN,⟨105,_,rfl,rfl⟩,wt rfl rfl (by decide) rfl (nw rfl),h⟩
def okCl (k j:Nat) (g nl:Bool):Bool:=(txt (clP k j g nl)).all (fun c=>decide (c < 128)) && (decide ((txt (clP k j g nl)).length ≤ 29) && decide ((clP k j g nl).length ≤ 13))
theorem ok_all:((List.range 4).all fun k=>(List.range 6).all fun j=>[true,false].all fun g=>[true,false].all fun nl=>okCl k j g nl) = true:=by decide +kernel
theorem ok_cl {k j:Nat} (hk:k < 4) (hj:j < 6) (g nl:Bool):(∀ c ∈ txt (clP k j g nl),c < 128) ∧ (txt (clP k j g nl)).length ≤ 29 ∧ (clP k j g nl).length ≤ 13:=by
 have h:=ok_all
 simp only [List.all_eq_true,List.mem_range] at h
 have w:=h k hk j hj g (by cases g <;> simp) nl (by cases nl <;> simp)
 unfold okCl at w
 rw [Bool.and_eq_true,Bool.and_eq_true,List.all_eq_true] at w
 exact ⟨fun c hc=>of_decide_eq_true (w.1 c hc),of_decide_eq_true w.2.1,of_decide_eq_true w.2.2⟩
theorem tl_len {k : Nat} (hk : k < 4) : ∀ (l : List (Bool × Bool)) (j : Nat), j + l.length ≤ 6 → (∀ c ∈ txt (tlP k j l), c < 128) ∧ (txt (tlP k j l)).length ≤ 30 * l.length + 4 ∧ (tlP k j l).length ≤ 14 * l.length + 1
 | [],j,h=>⟨(by show ∀ c ∈ [32,101,110,100],c < 128; decide),by simp [tlP,txt,endP],by simp [tlP]⟩
 | (g,nl) :: l,j,h=>by
  simp only [List.length_cons] at h
  obtain ⟨a1,a2,a3⟩:=ok_cl hk (j:=j) (by omega) g nl
  obtain ⟨b1,b2,b3⟩:=tl_len hk l (j + 1) (by omega)
  have e:txt (tlP k j ((g,nl) :: l)) = 59 :: (txt (clP k j g nl) ++ txt (tlP k (j + 1) l)):=by show 59 :: txt (_ ++ _) = _; rw [qD9]
  have e2:(tlP k j ((g,nl) :: l)).length = (clP k j g nl).length + (tlP k (j + 1) l).length + 1:=by show (_ :: (_ ++ _)).length = _; simp
  rw [e,e2]
  simp only [List.mem_cons,List.mem_append,List.length_cons,List.length_append]
  refine ⟨?_,by omega,by omega⟩
  rintro c (rfl | hc | hc)
  ·decide
  ·exact a1 c hc
  ·exact b1 c hc
theorem op_len {k:Nat} (hk:k < 4):(∀ c ∈ txt (opP k),c < 128) ∧ (txt (opP k)).length ≤ 9 ∧ (opP k).length ≤ 3:=by
 match k,hk with
 | 0,_=>decide
 | 1,_=>decide
 | 2,_=>decide
 | 3,_=>decide
theorem qPi {k:Nat} (hk:k < 4) {g nl:Bool} {l:List (Bool × Bool)} (hl:l.length ≤ 5):(∀ c ∈ txt (clAll k g nl l),c < 128) ∧ (txt (clAll k g nl l)).length ≤ 200 ∧ (clAll k g nl l).length ≤ 90:=by
 obtain ⟨a1,a2,a3⟩:=op_len hk
 obtain ⟨b1,b2,b3⟩:=ok_cl hk (j:=0) (by decide) g nl
 obtain ⟨c1,c2,c3⟩:=tl_len hk l 1 (by omega)
 unfold clAll
 simp only [qD9,List.mem_append,List.length_append]
 refine ⟨?_,by omega,by omega⟩
 rintro c (hc | hc | hc)
 ·exact a1 c hc
 ·exact b1 c hc
 ·exact c1 c hc
theorem qPj {k:Nat} (hk:k < 4) (g nl:Bool) (l:List (Bool × Bool)):∃ p r,clAll k g nl l = p :: r:=by
 match k,hk with
 | 0,_=>exact ⟨_,_,rfl⟩
 | 1,_=>exact ⟨_,_,rfl⟩
 | 2,_=>exact ⟨_,_,rfl⟩
 | 3,_=>exact ⟨_,_,rfl⟩
theorem whole_pc {ps:List Pc} {nd:S28} (hsc:Sc ps) (hne:∃ p r,ps = p :: r) (ha:∀ c ∈ txt ps,c < 128) (hT:(txt ps).length < 290) (hP:ps.length < 290) (h:(cpar 300 100).c5 0 (vwp true 0 ps) = some (some (nd,[]))):g17 400 (txt ps) = some (nd,0):=by
 have hs:g13 400 (txt ps) = some (tkp 0 ps,0):=by
  obtain ⟨p,r,e⟩:=hne
  rw [e] at hsc hT ha hP ⊢
  exact scan_pc hsc (by omega) ha (by simp at hP; omega)
 have hp:=expr_top (k:=300) (n:=100) (fun j=>vw_pc hT hP (300 + j) (by omega)) h
 have hp0:pos ((tkp 0 ps).length:Int) [] = ((tkp 0 ps).length:Int):=by unfold pos; simp
 rw [hp0] at hp
 unfold g17
 refine bS hs (iF rfl (bS hp ((jS (v:=false) (fun q=>iT rfl ?_)).trans (iF rfl rfl))))
 simp
theorem qGn {k:Nat} (hk:k < 4) {g nl:Bool} {l:List (Bool × Bool)} (hl:l.length ≤ 5):g17 400 (txt (clAll k g nl l)) = some (allK k g nl l,0):=by
 obtain ⟨a1,a2,a3⟩:=qPi hk (g:=g) (nl:=nl) hl
 refine whole_pc (sc_all hk hl) (qPj hk g nl l) a1 (by omega) (by omega) (qOz hk ?_)
 match k,hk with
 | 0,_=>exact word_0 g nl l (by omega)
 | 1,_=>exact word_1 g nl l (by omega)
 | 2,_=>exact word_2 g nl l (by omega)
 | 3,_=>exact word_3 g nl l (by omega)
end Go.Proofs.Ythpplbkobokghaa.Am
set_option maxRecDepth 100000
set_option linter.unusedVariables false
namespace Go.Proofs.Ythpplbkobokghaa.Am
noncomputable section
open Go
def Xg16:Fx Bool:=⟨Try.prog,cx,Try.f16,fun r => .bool r,0,fun _=>H0,cxTi,cxOrd,fun _=>none,false⟩
def g16c0:List Nat:=[97,32,43,32,98,32,42,32,99]
def g16c1:List S33:=[(⟨(1:Int),([120]:List Nat),(0:Int)⟩:S33),(⟨(9:Int),([44]:List Nat),(1:Int)⟩:S33),(⟨(1:Int),([121]:List Nat),(4:Int)⟩:S33)]
def g16p2:Pt:=nav [0,0,0] (nav [0,0,0] (nav [0] (bodyAt Try.f16)))
def g16p3:Pt:=nav [0,0,0] g16p2
def g16p4:Pt:=nav [0,0,0] g16p3
def g16p5:Pt:=nav [0,0,0] g16p4
def g16p6:Pt:=nav [0,0,0] g16p5
def g16 (k:Nat)  : Option Bool :=
 (g13 k g16c0).bind fun x0_1=>(g14 k g16c0 x0_1.1 (0:Int) (x0_1.1.length:Int) (0:Int)).bind fun x1_4=>(g14 k g16c0 x0_1.1 (0:Int) (2:Int) (0:Int)).bind fun x2_2=>(g23 k ([120,44,10,10,121]:List Nat) g16c1 (0:Int) (3:Int)).bind fun x3_4=>if (decide (x0_1.2 = 0)) then (if (decide (x1_4.2.2 = 0)) then (if (decide (x1_4.2.1 = 5)) then (if (decide (x1_4.1.f0 = 14)) then (if (eqL x1_4.1.f1 [43]) then (if (decide ((x1_4.1.f2.n:Int) = 2)) then ((nthR d29 7 x1_4.1.f2.n x1_4.1.f2.cells 1).bind fun x4_29=>if (eqL x4_29.f1 [42]) then (if (decide (x2_2.2.2 = 8)) then (if (decide (x3_4.2.2 = 0)) then (if (decide ((x3_4.1.f2.n:Int) = 2)) then ((nthR d29 7 x3_4.1.f2.n x3_4.1.f2.cells 1).bind fun x4_51=>some x4_51.f4) else (some false)) else (some false)) else (some false)) else (some false)) else (some false)) else (some false)) else (some false)) else (some false)) else (some false)) else (some false)
theorem g16_ok (k:Nat)  (r:Bool) (h:g16 k  = some r):PureOk Try.prog 16 [] (.bool r):=by
 refine qA5 Xg16 (fun _=>⟨rfl,rfl⟩) Try.func16 (by decide +kernel) (by kernel_rfl) (t:=g16 k ) ?_ h
 unfold g16
 refine qA (eE:=[]) (by kernel_rfl) ?_
 refine oH 11 (atN 1 (ctl1 g16p2)) [(14,.str g16c0),(1,.str g16c0),(0,.bool false)] (mkH []) ?_
 refine oA (fun (x0_1:((List S33) × Int)) => .tuple [w34 x0_1.1,.i x0_1.2]) (atN 2 (ctl1 g16p2)) 15 [.str g16c0] (g13_ok k g16c0) fun x0_1 hx0_1=>?_
 refine oR 12 (atN 4 (ctl1 g16p3)) [(22,.i (x0_1.1.length:Int)),(21,w34 x0_1.1),(20,w34 x0_1.1),(19,.str g16c0),(3,.i x0_1.2),(2,w34 x0_1.1),(17,.i x0_1.2),(16,w34 x0_1.1),(13,.tuple [w34 x0_1.1,.i x0_1.2]),(15,.tuple [w34 x0_1.1,.i x0_1.2]),(14,.str g16c0),(1,.str g16c0),(0,.bool false)] ?_
 refine oA (fun (x1_4:(S28 × Int × Int)) => .tuple [n29 x1_4.1,.i x1_4.2.1,.i x1_4.2.2]) (atN 5 (ctl1 g16p3)) 23 [.str g16c0,w34 x0_1.1,.i 0,.i (x0_1.1.length:Int),.i 0] (qOu k g16c0 x0_1.1 (0:Int) (x0_1.1.length:Int) (0:Int)) fun x1_4 hx1_4=>?_
 let E3:Env:=[(1,.str g16c0),(2,w34 x0_1.1),(3,.i x0_1.2),(4,.ptr 0 7 0),(5,.i x1_4.2.1),(6,.i x1_4.2.2)]
 refine oLH 10 g16p4 E3 (mkH [⟨e29 x1_4.1,7,false⟩]) ?_
 refine oR 3 (atN 2 (ctl1 g16p4)) ((29,w34 x0_1.1) :: (28,.str g16c0) :: E3) ?_
 refine oA (fun (x2_2:(S28 × Int × Int)) => .tuple [n29 x2_2.1,.i x2_2.2.1,.i x2_2.2.2]) (atN 3 (ctl1 g16p4)) 30 [.str g16c0,w34 x0_1.1,.i 0,.i 2,.i 0] (qOu k g16c0 x0_1.1 (0:Int) (2:Int) (0:Int)) fun x2_2 hx2_2=>?_
 let E5:Env:=[(3,.i x0_1.2),(4,.ptr 0 7 0),(5,.i x1_4.2.1),(6,.i x1_4.2.2),(9,.i x2_2.2.2)]
 refine oLH 10 g16p5 E5 (mkH [⟨e29 x1_4.1,7,false⟩,⟨e29 x2_2.1,7,false⟩]) ?_
 refine oH 5 (atN 4 (ctl1 g16p5)) ((38,.slice 2 9 0 3 3) :: (37,.agg [.i 1,.str [121],.i 4]) :: (36,.agg [.i 9,.str [44],.i 1]) :: (35,.agg [.i 1,.str [120],.i 0]) :: E5) (mkH [⟨e29 x1_4.1,7,false⟩,⟨e29 x2_2.1,7,false⟩,⟨[.i 1,.str [120],.i 0,.i 9,.str [44],.i 1,.i 1,.str [121],.i 4],0,false⟩]) ?_
 refine oZ 38 2 3 3 [.i 1,.str [120],.i 0,.i 9,.str [44],.i 1,.i 1,.str [121],.i 4] [3,4,5,6,9,35,36,37] [] trivial ?_
 refine oE [(38,w34 g16c1),(3,.i x0_1.2),(4,.ptr 0 7 0),(5,.i x1_4.2.1),(6,.i x1_4.2.2),(9,.i x2_2.2.2),(35,.agg [.i 1,.str [120],.i 0]),(36,.agg [.i 9,.str [44],.i 1]),(37,.agg [.i 1,.str [121],.i 4])] ?_
 refine oHp (mkH [⟨e29 x1_4.1,7,false⟩,⟨e29 x2_2.1,7,false⟩,⟨[],0,false⟩]) ?_
 refine oA (fun (x3_4:(S28 × Int × Int)) => .tuple [n29 x3_4.1,.i x3_4.2.1,.i x3_4.2.2]) (atN 5 (ctl1 g16p5)) 39 [.str [120,44,10,10,121],w34 g16c1,.i 0,.i 3] (g23_ok k ([120,44,10,10,121]:List Nat) g16c1 (0:Int) (3:Int)) fun x3_4 hx3_4=>?_
 let E7:Env:=[(3,.i x0_1.2),(4,.ptr 0 7 0),(5,.i x1_4.2.1),(6,.i x1_4.2.2),(9,.i x2_2.2.2),(10,.ptr 3 7 0),(12,.i x3_4.2.2)]
 let K1:List Blk:=[⟨e29 x1_4.1,7,false⟩,⟨e29 x2_2.1,7,false⟩,⟨[],0,false⟩,⟨e29 x3_4.1,7,false⟩]
 refine oLH 10 g16p6 E7 (mkH K1) ?_
 refine oR 4 (atN 3 (ctl1 g16p6)) ((45,.bool (decide (x0_1.2 = 0))) :: (44,.bool (decide (x0_1.2 = 0))) :: (43,.i x0_1.2) :: E7) ?_
 refine oS 45 (fun hb=>?_) (fun hb=>?_)
 ·let E8:Env:=((49,.bool (decide (x1_4.2.2 = 0))) :: (48,.bool (decide (x1_4.2.2 = 0))) :: (47,.bool (decide (x1_4.2.2 = 0))) :: (46,.i x1_4.2.2) :: (45,.bool true) :: (45,.bool (decide (x0_1.2 = 0))) :: (44,.bool (decide (x0_1.2 = 0))) :: (43,.i x0_1.2) :: E7)
  refine oR 4 (atN 7 (ctl1 g16p6)) E8 ?_
  refine oS 49 (fun hb=>?_) (fun hb=>?_)
  ·let E9:Env:=((53,.bool (decide (x1_4.2.1 = 5))) :: (52,.bool (decide (x1_4.2.1 = 5))) :: (51,.bool (decide (x1_4.2.1 = 5))) :: (50,.i x1_4.2.1) :: (49,.bool true) :: E8)
   refine oR 4 (atN 11 (ctl1 g16p6)) E9 ?_
   refine oS 53 (fun hb=>?_) (fun hb=>?_)
   ·let E10:Env:=((58,.bool (decide (x1_4.1.f0 = 14))) :: (57,.bool (decide (x1_4.1.f0 = 14))) :: (56,.bool (decide (x1_4.1.f0 = 14))) :: (55,.i x1_4.1.f0) :: (54,.ptr 0 7 0) :: (53,.bool true) :: E9)
    refine oR 5 (atN 16 (ctl1 g16p6)) E10 ?_
    refine oS 58 (fun hb=>?_) (fun hb=>?_)
    ·let E11:Env:=((63,.bool (eqL x1_4.1.f1 [43])) :: (62,.bool (eqL x1_4.1.f1 [43])) :: (61,.bool (eqL x1_4.1.f1 [43])) :: (60,.str x1_4.1.f1) :: (59,.ptr 0 7 1) :: (58,.bool true) :: E10)
     refine oR 5 (atN 21 (ctl1 g16p6)) E11 ?_
     refine oS 63 (fun hb=>?_) (fun hb=>?_)
     ·let E12:Env:=((69,.bool (decide ((x1_4.1.f2.n:Int) = 2))) :: (68,.bool (decide ((x1_4.1.f2.n:Int) = 2))) :: (67,.bool (decide ((x1_4.1.f2.n:Int) = 2))) :: (66,.i (x1_4.1.f2.n:Int)) :: (65,q29 x1_4.1.f2) :: (64,.ptr 0 7 2) :: (63,.bool true) :: E11)
      refine oR 6 (atN 27 (ctl1 g16p6)) E12 ?_
      refine oS 69 (fun hb=>?_) (fun hb=>?_)
      ·refine oR 2 (atN 29 (ctl1 g16p6)) ((71,q29 x1_4.1.f2) :: (70,.ptr 0 7 2) :: (69,.bool true) :: E12) ?_
       refine qG5 (fun (x4_29:S28)=>(.vptr [.i x4_29.f0,.str x4_29.f1,q29 x4_29.f2,.bool x4_29.f3,.bool x4_29.f4,w9 x4_29.f5,w9 x4_29.f6],(mkH K1))) (atN 30 (ctl1 g16p6)) (fun x4_29=>((72,.vptr [.i x4_29.f0,.str x4_29.f1,q29 x4_29.f2,.bool x4_29.f3,.bool x4_29.f4,w9 x4_29.f5,w9 x4_29.f6]) :: (71,q29 x1_4.1.f2) :: (70,.ptr 0 7 2) :: (69,.bool true) :: E12)) (fun _ hx=>vidxR (sz:=7) qEo hx (by kernel_rfl)) (fun _=>by kernel_rfl) (fun x4_29 hx4_29=>?_)
       let E13:Env:=((77,.bool (eqL x4_29.f1 [42])) :: (76,.bool (eqL x4_29.f1 [42])) :: (75,.bool (eqL x4_29.f1 [42])) :: (74,.str x4_29.f1) :: (73,.vptr [.str x4_29.f1,q29 x4_29.f2,.bool x4_29.f3,.bool x4_29.f4,w9 x4_29.f5,w9 x4_29.f6]) :: (72,.vptr [.i x4_29.f0,.str x4_29.f1,q29 x4_29.f2,.bool x4_29.f3,.bool x4_29.f4,w9 x4_29.f5,w9 x4_29.f6]) :: (71,q29 x1_4.1.f2) :: (70,.ptr 0 7 2) :: (69,.bool true) :: E12)
       refine oH 5 (atN 35 (ctl1 g16p6)) E13 (mkH K1) ?_
       refine oS 77 (fun hb=>?_) (fun hb=>?_)
       ·let E14:Env:=((81,.bool (decide (x2_2.2.2 = 8))) :: (80,.bool (decide (x2_2.2.2 = 8))) :: (79,.bool (decide (x2_2.2.2 = 8))) :: (78,.i x2_2.2.2) :: (77,.bool true) :: E13)
        refine oR 4 (atN 39 (ctl1 g16p6)) E14 ?_
        refine oS 81 (fun hb=>?_) (fun hb=>?_)
        ·let E15:Env:=((85,.bool (decide (x3_4.2.2 = 0))) :: (84,.bool (decide (x3_4.2.2 = 0))) :: (83,.bool (decide (x3_4.2.2 = 0))) :: (82,.i x3_4.2.2) :: (81,.bool true) :: E14)
         refine oR 4 (atN 43 (ctl1 g16p6)) E15 ?_
         refine oS 85 (fun hb=>?_) (fun hb=>?_)
         ·let E16:Env:=((91,.bool (decide ((x3_4.1.f2.n:Int) = 2))) :: (90,.bool (decide ((x3_4.1.f2.n:Int) = 2))) :: (89,.bool (decide ((x3_4.1.f2.n:Int) = 2))) :: (88,.i (x3_4.1.f2.n:Int)) :: (87,q29 x3_4.1.f2) :: (86,.ptr 3 7 2) :: (85,.bool true) :: E15)
          refine oR 6 (atN 49 (ctl1 g16p6)) E16 ?_
          refine oS 91 (fun hb=>?_) (fun hb=>?_)
          ·refine oR 2 (atN 51 (ctl1 g16p6)) ((93,q29 x3_4.1.f2) :: (92,.ptr 3 7 2) :: (91,.bool true) :: E16) ?_
           refine qG5 (fun (x4_51:S28)=>(.vptr [.i x4_51.f0,.str x4_51.f1,q29 x4_51.f2,.bool x4_51.f3,.bool x4_51.f4,w9 x4_51.f5,w9 x4_51.f6],(mkH K1))) (atN 52 (ctl1 g16p6)) (fun x4_51=>((94,.vptr [.i x4_51.f0,.str x4_51.f1,q29 x4_51.f2,.bool x4_51.f3,.bool x4_51.f4,w9 x4_51.f5,w9 x4_51.f6]) :: (93,q29 x3_4.1.f2) :: (92,.ptr 3 7 2) :: (91,.bool true) :: E16)) (fun _ hx=>vidxR (sz:=7) qEo hx (by kernel_rfl)) (fun _=>by kernel_rfl) (fun x4_51 hx4_51=>?_)
           exact oQ 6
          ·exact oQ 9
         ·exact oQ 15
        ·exact oQ 19
       ·exact oQ 23
      ·exact oQ 31
     ·exact oQ 37
    ·exact oQ 42
   ·exact oQ 47
  ·exact oQ 51
 ·exact oQ 55
def Xg12:Fx Bool:=⟨Try.prog,cx,Try.f12,fun r => .bool r,0,fun _=>H0,cxTi,cxOrd,fun _=>none,false⟩
def g12c0:List Nat:=[99,97,115,101,32,101,32,111,102,32]
def g12c1:List Nat:=[114,101,99,101,105,118,101,32]
def g12c2:List (List Nat):=[g12c0,g12c1,([102,117,110]:List Nat),([105,102,32]:List Nat)]
def g12c3:List Int:=[(18:Int),(20:Int),(17:Int),(19:Int)]
def g12c4:List Nat:=[32,119,104,101,110,32,103,44,32,104,59,32,105]
def g12c5:List Int:=[(1:Int),(1:Int),(1:Int),(0:Int)]
def g12p1:Pt:=nav [0,0,0,0] (nav [0] (bodyAt Try.f12))
def g12p2:Pt:=nav [0,0] g12p1
def g12p3:Pt:=nav [1,0] g12p2
def g12p6:Pt:=nav [0,0,0] (nav [2,0,0] g12p2)
def g12p8:Pt:=nav [0,0,0,0] (nav [0,0,0,0] g12p6)
def g12p10:Pt:=nav [0,0] (nav [0,0,0] g12p8)
def g12p12:Pt:=nav [2,0,0] g12p10
def g12p13:Pt:=nav [0,0] (nav [1,0,0,0,0,0] g12p10)
def g12p14:Pt:=nav [0,0,0,0] g12p12
def g12p15:Pt:=nav [1] g12p13
def g12p16:Pt:=nav [2,0,0] g12p13
def g12p17:Pt:=nav [0] g12p14
def g12p22:Pt:=nav [0,0,0,0] (nav [2,0,0] g12p17)
def g12p23:Pt:=nav [0,0] (nav [0,0,0,0] (nav [0,0,0,0] g12p16))
def g12p24:Pt:=nav [0,0] g12p22
def g12p25:Pt:=nav [1] g12p23
def g12p27:Pt:=nav [1] g12p24
def g12p28:Pt:=nav [2,0,0,0] g12p24
def g12p29:Pt:=nav [0,0,0,0] g12p25
def g12p30:Pt:=nav [0,0] (nav [2,0] g12p23)
def g12p31:Pt:=nav [0,0] g12p28
def g12p32:Pt:=nav [0,0] g12p29
def g12p33:Pt:=nav [1] g12p30
def g12p34:Pt:=nav [2] g12p30
def g12p37:Pt:=nav [1] g12p32
def g12p38:Pt:=nav [2,0,0] g12p32
def g12p39:Pt:=nav [0,0,0,0] (nav [2,0,0,0] g12p31)
def g12p40:Pt:=nav [0,0,0,0] g12p38
def g12p42:Pt:=nav [0,0] g12p40
def g12p43:Pt:=nav [0,0] (nav [0,0,0] g12p39)
def g12p44:Pt:=nav [1] g12p42
def g12p45:Pt:=nav [2,0] g12p42
def g12p46:Pt:=nav [1,0,0,0,0] g12p43
def g12p47:Pt:=nav [2,0,0] g12p43
def g12p49:Pt:=nav [0,0,0,0] g12p46
def g12p50:Pt:=nav [0] g12p49
def g12p53:Pt:=nav [0,0,0,0] (nav [2,0,0] g12p50)
def g12p54:Pt:=nav [0,0] g12p53
def g12p56:Pt:=nav [2,0,0,0] g12p54
def g12p57:Pt:=nav [0,0] g12p56
def g12p59:Pt:=nav [2,0,0] g12p57
def g12d0:DP:=⟨[170],[(0,0,0),(1,0,0),(3,0,0),(7,0,0),(15,0,0),(31,0,0),(63,0,0),(127,0,0),(255,0,0),(511,0,0),(1023,0,0),(2047,0,0),(1023,0,0),(1023,0,0),(13311,0,0),(29695,0,0),(65535,0,0),(131071,0,0),(262143,0,0),(524287,0,0),(1048575,0,0),(2097151,0,0),(4194303,0,0),(8388607,0,0),(16777215,0,0),(33554431,0,0),(67108863,0,0),(134217727,0,0),(268435455,0,0),(536870911,0,0),(1073741823,0,0),(2147483647,0,0),(4294967295,0,0),(8589934591,0,0),(268435455,0,0),(268435455,0,0),(51808043007,0,0),(120527519743,0,0),(274877906943,0,0),(549755813887,0,0)],40,thrown,[],H0⟩
def g12d1:DP:=⟨[104],[(0,0,0),(1,0,0),(3,0,0),(7,0,0),(15,0,0),(7,0,0),(7,0,0),(103,0,0),(231,0,0),(511,0,0),(1023,0,0)],11,thrown,[],H0⟩
def qGi (k:Nat)  (a0:(List Bool)) (a1:(List Bool)) (a2:Int) (z30:Raw) (ih:Int → Option Bool):Int → Option Bool :=
 fun (y31_0:Int)=>if (decide (y31_0 < (z30.n:Int))) then ((nthR d29 7 z30.n z30.cells y31_0).bind fun x16_2=>jn (fun (z32:Bool × Int)=>if z32.1 then (some false) else ((nthL a0 z32.2).bind fun x19_2=>jn (fun (z33:Int × Int)=>jn (fun (z34:Int × Int)=>(nthR d29 7 x16_2.f2.n x16_2.f2.cells 1).bind fun x20_2=>if (!decide ((x20_2.f2.n:Int) = z34.1)) then (some false) else (ih (fW .i64 (z34.2 + 1)))) (fun j34=>if (decide (fW .i64 ((fW .u64 a2).tmod 4) = 3)) then (j34 (1,z33.2)) else (j34 (z33.1,z33.2)))) (fun j33=>if x19_2 then (j33 (2,z32.2)) else (j33 (0,z32.2))))) (fun j32=>if (!decide (x16_2.f0 = 22)) then (j32 (true,y31_0)) else (if (!decide ((x16_2.f2.n:Int) = 3)) then (j32 (true,y31_0)) else ((nthL a1 y31_0).bind fun x17_14=>if (!(x16_2.f3 == x17_14)) then (j32 (true,y31_0)) else ((nthR d29 7 x16_2.f2.n x16_2.f2.cells 2).bind fun x17_21=>if (!decide ((x17_21.f2.n:Int) = 2)) then (j32 (true,y31_0)) else ((nthR d29 7 x16_2.f2.n x16_2.f2.cells 0).bind fun x17_30=>(nthL g12c5 (fW .i64 ((fW .u64 a2).tmod 4))).bind fun x17_36=>j32 (!decide ((x17_30.f2.n:Int) = x17_36),y31_0))))))) else ((g16 k).bind fun x18_0=>some x18_0)
def qC6 (k:Nat)  (a0:(List Bool)) (a1:(List Bool)) (a2:Int) (z30:Raw) (n:Nat):Int → Option Bool:=lp (fun _=>none) (qGi k a0 a1 a2 z30) n
theorem qOw (k:Nat)  (a0:(List Bool)) (a1:(List Bool)) (a2:Int) (z30:Raw) (n:Nat) (y31_0:Int):qC6 k a0 a1 a2 z30 (n + 1) y31_0 = (if (decide (y31_0 < (z30.n:Int))) then ((nthR d29 7 z30.n z30.cells y31_0).bind fun x16_2=>jn (fun (z32:Bool × Int)=>if z32.1 then (some false) else ((nthL a0 z32.2).bind fun x19_2=>jn (fun (z33:Int × Int)=>jn (fun (z34:Int × Int)=>(nthR d29 7 x16_2.f2.n x16_2.f2.cells 1).bind fun x20_2=>if (!decide ((x20_2.f2.n:Int) = z34.1)) then (some false) else ((qC6 k a0 a1 a2 z30 n) (fW .i64 (z34.2 + 1)))) (fun j34=>if (decide (fW .i64 ((fW .u64 a2).tmod 4) = 3)) then (j34 (1,z33.2)) else (j34 (z33.1,z33.2)))) (fun j33=>if x19_2 then (j33 (2,z32.2)) else (j33 (0,z32.2))))) (fun j32=>if (!decide (x16_2.f0 = 22)) then (j32 (true,y31_0)) else (if (!decide ((x16_2.f2.n:Int) = 3)) then (j32 (true,y31_0)) else ((nthL a1 y31_0).bind fun x17_14=>if (!(x16_2.f3 == x17_14)) then (j32 (true,y31_0)) else ((nthR d29 7 x16_2.f2.n x16_2.f2.cells 2).bind fun x17_21=>if (!decide ((x17_21.f2.n:Int) = 2)) then (j32 (true,y31_0)) else ((nthR d29 7 x16_2.f2.n x16_2.f2.cells 0).bind fun x17_30=>(nthL g12c5 (fW .i64 ((fW .u64 a2).tmod 4))).bind fun x17_36=>j32 (!decide ((x17_30.f2.n:Int) = x17_36),y31_0))))))) else ((g16 k).bind fun x18_0=>some x18_0)):=rfl
theorem qLr (k:Nat)   (a0:(List Bool)) (a1:(List Bool)) (a2:Int) (z30:Raw)  : ∀ (n:Nat) (y31_0:Int),Ok Xg12 g12p39 [(0,w4 a0),(1,w4 a1),(7,.i (fW .i64 ((fW .u64 a2).tmod 4))),(13,q29 z30),(14,.i y31_0)] (mkH []) (qC6 k a0 a1 a2 z30 n y31_0):=by
 intro n
 induction n with
 | zero=>intro y31_0; exact ok_none
 | succ n ih =>
  intro y31_0
  show Ok _ _ _ _ (qGi k a0 a1 a2 z30 (qC6 k a0 a1 a2 z30 n) y31_0)
  unfold qGi
  refine qAh (p':=nav [0] g12p39) (by kernel_rfl) ?_
  let E40:Env:=[(129,.bool (decide (y31_0 < (z30.n:Int)))),(128,.i (z30.n:Int)),(127,q29 z30),(126,.i y31_0),(0,w4 a0),(1,w4 a1),(7,.i (fW .i64 ((fW .u64 a2).tmod 4))),(13,q29 z30),(14,.i y31_0)]
  refine oH 8 g12p43 E40 (mkH []) ?_
  refine oS 129 (fun hb=>?_) (fun hb=>?_)
  ·refine oR 8 (atN 2 (ctl1 g12p46)) ((133,.i y31_0) :: (132,q29 z30) :: (129,.bool true) :: E40) ?_
   refine qG5 (fun (x16_2:S28)=>(.vptr [.i x16_2.f0,.str x16_2.f1,q29 x16_2.f2,.bool x16_2.f3,.bool x16_2.f4,w9 x16_2.f5,w9 x16_2.f6],(mkH []))) (atN 3 (ctl1 g12p46)) (fun x16_2=>((134,.vptr [.i x16_2.f0,.str x16_2.f1,q29 x16_2.f2,.bool x16_2.f3,.bool x16_2.f4,w9 x16_2.f5,w9 x16_2.f6]) :: (133,.i y31_0) :: (132,q29 z30) :: (129,.bool true) :: E40)) (fun _ hx=>vidxR (sz:=7) qEo hx (by kernel_rfl)) (fun _=>by kernel_rfl) (fun x16_2 hx16_2=>?_)
   refine oLH 6 g12p49 [(0,w4 a0),(1,w4 a1),(7,.i (fW .i64 ((fW .u64 a2).tmod 4))),(13,q29 z30),(14,.i y31_0),(15,.ptr 0 7 0)] (mkH [⟨e29 x16_2,7,false⟩]) ?_
   refine oJ g12p50 (fun (z32:Bool × Int)=>[(0,w4 a0),(1,w4 a1),(7,.i (fW .i64 ((fW .u64 a2).tmod 4))),(13,q29 z30),(14,.i z32.2),(15,.ptr 0 7 0),(175,.bool z32.1)]) (fun (z32:Bool × Int)=>(mkH [⟨e29 x16_2,7,false⟩])) (fun z32=>?_) (fun j32 hj32=>?_)
   ·refine oS 175 (fun hb=>?_) (fun hb=>?_)
    ·exact oQ 6
    ·let E44:Env:=[(177,.i z32.2),(176,w4 a0),(16,.i 0),(175,.bool false),(0,w4 a0),(1,w4 a1),(7,.i (fW .i64 ((fW .u64 a2).tmod 4))),(13,q29 z30),(14,.i z32.2),(15,.ptr 0 7 0),(175,.bool z32.1)]
     refine oH 11 (atN 2 (ctl1 g12p53)) E44 (mkH [⟨e29 x16_2,7,false⟩]) ?_
     refine oC (fun (x19_2:Bool)=>(.vptr [.bool x19_2],(mkH [⟨e29 x16_2,7,false⟩]))) (atN 3 (ctl1 g12p53)) 178 (vidxH (sz:=1) e4_len (by kernel_rfl)) fun x19_2 hx19_2=>?_
     refine oH 2 g12p54 ((179,.bool x19_2) :: (178,.vptr [.bool x19_2]) :: E44) (mkH [⟨e29 x16_2,7,false⟩]) ?_
     refine oJ g12p56 (fun (z33:Int × Int)=>[(0,w4 a0),(1,w4 a1),(7,.i (fW .i64 ((fW .u64 a2).tmod 4))),(13,q29 z30),(14,.i z33.2),(15,.ptr 0 7 0),(16,.i z33.1)]) (fun (z33:Int × Int)=>(mkH [⟨e29 x16_2,7,false⟩])) (fun z33=>?_) (fun j33 hj33=>?_)
     ·let E45:Env:=[(181,.bool (decide (fW .i64 ((fW .u64 a2).tmod 4) = 3))),(180,.i (fW .i64 ((fW .u64 a2).tmod 4))),(0,w4 a0),(1,w4 a1),(7,.i (fW .i64 ((fW .u64 a2).tmod 4))),(13,q29 z30),(14,.i z33.2),(15,.ptr 0 7 0),(16,.i z33.1)]
      refine oH 4 g12p57 E45 (mkH [⟨e29 x16_2,7,false⟩]) ?_
      refine oJ g12p59 (fun (z34:Int × Int)=>[(0,w4 a0),(1,w4 a1),(7,.i (fW .i64 ((fW .u64 a2).tmod 4))),(13,q29 z30),(14,.i z34.2),(15,.ptr 0 7 0),(16,.i z34.1)]) (fun (z34:Int × Int)=>(mkH [⟨e29 x16_2,7,false⟩])) (fun z34=>?_) (fun j34 hj34=>?_)
      ·let E46:Env:=[(183,q29 x16_2.f2),(182,.ptr 0 7 2),(0,w4 a0),(1,w4 a1),(7,.i (fW .i64 ((fW .u64 a2).tmod 4))),(13,q29 z30),(14,.i z34.2),(15,.ptr 0 7 0),(16,.i z34.1)]
       refine oH 3 (atN 2 (ctl1 g12p59)) E46 (mkH [⟨e29 x16_2,7,false⟩]) ?_
       refine qG5 (fun (x20_2:S28)=>(.vptr [.i x20_2.f0,.str x20_2.f1,q29 x20_2.f2,.bool x20_2.f3,.bool x20_2.f4,w9 x20_2.f5,w9 x20_2.f6],(mkH [⟨e29 x16_2,7,false⟩]))) (atN 3 (ctl1 g12p59)) (fun x20_2=>((184,.vptr [.i x20_2.f0,.str x20_2.f1,q29 x20_2.f2,.bool x20_2.f3,.bool x20_2.f4,w9 x20_2.f5,w9 x20_2.f6]) :: E46)) (fun _ hx=>vidxR (sz:=7) qEo hx (by kernel_rfl)) (fun _=>by kernel_rfl) (fun x20_2 hx20_2=>?_)
       refine oLH 6 (nav [0,0] g12p59) [(0,w4 a0),(1,w4 a1),(7,.i (fW .i64 ((fW .u64 a2).tmod 4))),(13,q29 z30),(14,.i z34.2),(189,.bool (!decide ((x20_2.f2.n:Int) = z34.1)))] (mkH [⟨e29 x16_2,7,false⟩]) ?_
       refine oS 189 (fun hb=>?_) (fun hb=>?_)
       ·exact oQ 6
       ·refine oL 7 g12p39 [(0,w4 a0),(1,w4 a1),(7,.i (fW .i64 ((fW .u64 a2).tmod 4))),(13,q29 z30),(14,.i (fW .i64 (z34.2 + 1)))] ?_
        refine qAa [] [⟨e29 x16_2,7,false⟩] (by kernel_rfl) rfl (by kernel_rfl) trivial ?_
        exact ih (fW .i64 (z34.2 + 1))
      ·refine oS 181 (fun hb=>?_) (fun hb=>?_)
       ·refine oH 5 g12p59 ((16,.i 1) :: (181,.bool true) :: E45) (mkH [⟨e29 x16_2,7,false⟩]) ?_
        refine oK [0,1,7,13,14,15,16] [(0,w4 a0),(1,w4 a1),(7,.i (fW .i64 ((fW .u64 a2).tmod 4))),(13,q29 z30),(14,.i z33.2),(15,.ptr 0 7 0),(16,.i 1)] ?_
        exact hj34 (1,z33.2)
       ·refine oH 3 g12p59 ((181,.bool false) :: E45) (mkH [⟨e29 x16_2,7,false⟩]) ?_
        refine oK [0,1,7,13,14,15,16] [(0,w4 a0),(1,w4 a1),(7,.i (fW .i64 ((fW .u64 a2).tmod 4))),(13,q29 z30),(14,.i z33.2),(15,.ptr 0 7 0),(16,.i z33.1)] ?_
        exact hj34 (z33.1,z33.2)
     ·refine oS 179 (fun hb=>?_) (fun hb=>?_)
      ·refine oH 6 g12p56 ((16,.i 2) :: (179,.bool true) :: (179,.bool x19_2) :: (178,.vptr [.bool x19_2]) :: E44) (mkH [⟨e29 x16_2,7,false⟩]) ?_
       refine oK [0,1,7,13,14,15,16] [(0,w4 a0),(1,w4 a1),(7,.i (fW .i64 ((fW .u64 a2).tmod 4))),(13,q29 z30),(14,.i z32.2),(15,.ptr 0 7 0),(16,.i 2)] ?_
       exact hj33 (2,z32.2)
      ·refine oH 4 g12p56 ((179,.bool false) :: (179,.bool x19_2) :: (178,.vptr [.bool x19_2]) :: E44) (mkH [⟨e29 x16_2,7,false⟩]) ?_
       refine oK [0,1,7,13,14,15,16] [(0,w4 a0),(1,w4 a1),(7,.i (fW .i64 ((fW .u64 a2).tmod 4))),(13,q29 z30),(14,.i z32.2),(15,.ptr 0 7 0),(16,.i 0)] ?_
       exact hj33 (0,z32.2)
   ·refine qD (fun hb15=>?_) (fun hb15=>?_)
    ·let E54:Env:=[(139,.bool (!decide (x16_2.f0 = 22))),(138,.bool (!decide (x16_2.f0 = 22))),(137,.i x16_2.f0),(136,.ptr 0 7 0),(0,w4 a0),(1,w4 a1),(7,.i (fW .i64 ((fW .u64 a2).tmod 4))),(13,q29 z30),(14,.i y31_0),(15,.ptr 0 7 0)]
     let E55:Env:=[(175,.bool true),(174,.tuple []),(173,.tuple []),(172,.tuple []),(171,.tuple []),(170,.tuple []),(169,.tuple []),(168,.tuple []),(167,.tuple []),(166,.tuple []),(165,.tuple []),(164,.tuple []),(163,.bool true),(162,.bool true),(161,.tuple []),(160,.tuple []),(159,.tuple []),(158,.tuple []),(157,.tuple []),(156,.tuple []),(155,.tuple []),(154,.bool true),(153,.bool true),(152,.tuple []),(151,.tuple []),(150,.tuple []),(149,.tuple []),(148,.tuple []),(147,.tuple []),(146,.tuple []),(145,.bool true),(144,.bool true),(143,.tuple []),(142,.tuple []),(141,.tuple []),(140,.tuple []),(139,.bool true),(138,.bool true),(137,.i x16_2.f0),(136,.ptr 0 7 0),(0,w4 a0),(1,w4 a1),(7,.i (fW .i64 ((fW .u64 a2).tmod 4))),(13,q29 z30),(14,.i y31_0),(15,.ptr 0 7 0)]
     refine oD (H':=(mkH [⟨e29 x16_2,7,false⟩])) (nav [0] g12p49) E55 [] g12d0 (oDr 4 4 E54 (oDe (fun z=>[(139,.bool z),(138,.bool z),(137,.i x16_2.f0),(136,.ptr 0 7 0),(0,w4 a0),(1,w4 a1),(7,.i (fW .i64 ((fW .u64 a2).tmod 4))),(13,q29 z30),(14,.i y31_0),(15,.ptr 0 7 0)]) hb15 (oDr 36 40 E55 .nil))) ?_
     refine oK [0,1,7,13,14,15,175] [(0,w4 a0),(1,w4 a1),(7,.i (fW .i64 ((fW .u64 a2).tmod 4))),(13,q29 z30),(14,.i y31_0),(15,.ptr 0 7 0),(175,.bool true)] ?_
     exact hj32 (true,y31_0)
    ·refine qD (fun hb16=>?_) (fun hb16=>?_)
     ·let E54:Env:=[(139,.bool (!decide (x16_2.f0 = 22))),(138,.bool (!decide (x16_2.f0 = 22))),(137,.i x16_2.f0),(136,.ptr 0 7 0),(0,w4 a0),(1,w4 a1),(7,.i (fW .i64 ((fW .u64 a2).tmod 4))),(13,q29 z30),(14,.i y31_0),(15,.ptr 0 7 0)]
      let E57:Env:=[(145,.bool (!decide ((x16_2.f2.n:Int) = 3))),(144,.bool (!decide ((x16_2.f2.n:Int) = 3))),(143,.bool (!decide ((x16_2.f2.n:Int) = 3))),(142,.i (x16_2.f2.n:Int)),(141,q29 x16_2.f2),(140,.ptr 0 7 2),(139,.bool false),(138,.bool false),(137,.i x16_2.f0),(136,.ptr 0 7 0),(0,w4 a0),(1,w4 a1),(7,.i (fW .i64 ((fW .u64 a2).tmod 4))),(13,q29 z30),(14,.i y31_0),(15,.ptr 0 7 0)]
      let E58:Env:=[(175,.bool true),(174,.tuple []),(173,.tuple []),(172,.tuple []),(171,.tuple []),(170,.tuple []),(169,.tuple []),(168,.tuple []),(167,.tuple []),(166,.tuple []),(165,.tuple []),(164,.tuple []),(163,.bool true),(162,.bool true),(161,.tuple []),(160,.tuple []),(159,.tuple []),(158,.tuple []),(157,.tuple []),(156,.tuple []),(155,.tuple []),(154,.bool true),(153,.bool true),(152,.tuple []),(151,.tuple []),(150,.tuple []),(149,.tuple []),(148,.tuple []),(147,.tuple []),(146,.tuple []),(145,.bool true),(144,.bool true),(143,.bool true),(142,.i (x16_2.f2.n:Int)),(141,q29 x16_2.f2),(140,.ptr 0 7 2),(139,.bool false),(138,.bool false),(137,.i x16_2.f0),(136,.ptr 0 7 0),(0,w4 a0),(1,w4 a1),(7,.i (fW .i64 ((fW .u64 a2).tmod 4))),(13,q29 z30),(14,.i y31_0),(15,.ptr 0 7 0)]
      refine oD (H':=(mkH [⟨e29 x16_2,7,false⟩])) (nav [0] g12p49) E58 [] g12d0 (oDr 4 4 E54 (oDe (fun z=>[(139,.bool z),(138,.bool z),(137,.i x16_2.f0),(136,.ptr 0 7 0),(0,w4 a0),(1,w4 a1),(7,.i (fW .i64 ((fW .u64 a2).tmod 4))),(13,q29 z30),(14,.i y31_0),(15,.ptr 0 7 0)]) hb15 (oDr 6 10 E57 (oDe (fun z=>[(145,.bool z),(144,.bool z),(143,.bool z),(142,.i (x16_2.f2.n:Int)),(141,q29 x16_2.f2),(140,.ptr 0 7 2),(139,.bool false),(138,.bool false),(137,.i x16_2.f0),(136,.ptr 0 7 0),(0,w4 a0),(1,w4 a1),(7,.i (fW .i64 ((fW .u64 a2).tmod 4))),(13,q29 z30),(14,.i y31_0),(15,.ptr 0 7 0)]) hb16 (oDr 30 40 E58 .nil))))) ?_
      refine oK [0,1,7,13,14,15,175] [(0,w4 a0),(1,w4 a1),(7,.i (fW .i64 ((fW .u64 a2).tmod 4))),(13,q29 z30),(14,.i y31_0),(15,.ptr 0 7 0),(175,.bool true)] ?_
      exact hj32 (true,y31_0)
     ·refine qA7 (fun x17_14 hx17_14=>?_)
      refine qD (fun hb17=>?_) (fun hb17=>?_)
      ·let E54:Env:=[(139,.bool (!decide (x16_2.f0 = 22))),(138,.bool (!decide (x16_2.f0 = 22))),(137,.i x16_2.f0),(136,.ptr 0 7 0),(0,w4 a0),(1,w4 a1),(7,.i (fW .i64 ((fW .u64 a2).tmod 4))),(13,q29 z30),(14,.i y31_0),(15,.ptr 0 7 0)]
       let E57:Env:=[(145,.bool (!decide ((x16_2.f2.n:Int) = 3))),(144,.bool (!decide ((x16_2.f2.n:Int) = 3))),(143,.bool (!decide ((x16_2.f2.n:Int) = 3))),(142,.i (x16_2.f2.n:Int)),(141,q29 x16_2.f2),(140,.ptr 0 7 2),(139,.bool false),(138,.bool false),(137,.i x16_2.f0),(136,.ptr 0 7 0),(0,w4 a0),(1,w4 a1),(7,.i (fW .i64 ((fW .u64 a2).tmod 4))),(13,q29 z30),(14,.i y31_0),(15,.ptr 0 7 0)]
       let E60:Env:=[(149,.i y31_0),(148,w4 a1),(147,.bool x16_2.f3),(146,.ptr 0 7 3),(145,.bool false),(144,.bool false),(143,.bool false),(142,.i (x16_2.f2.n:Int)),(141,q29 x16_2.f2),(140,.ptr 0 7 2),(139,.bool false),(138,.bool false),(137,.i x16_2.f0),(136,.ptr 0 7 0),(0,w4 a0),(1,w4 a1),(7,.i (fW .i64 ((fW .u64 a2).tmod 4))),(13,q29 z30),(14,.i y31_0),(15,.ptr 0 7 0)]
       let E61:Env:=((154,.bool (!(x16_2.f3 == x17_14))) :: (153,.bool (!(x16_2.f3 == x17_14))) :: (152,.bool (!(x16_2.f3 == x17_14))) :: (151,.bool x17_14) :: (150,.vptr [.bool x17_14]) :: E60)
       let E62:Env:=[(175,.bool true),(174,.tuple []),(173,.tuple []),(172,.tuple []),(171,.tuple []),(170,.tuple []),(169,.tuple []),(168,.tuple []),(167,.tuple []),(166,.tuple []),(165,.tuple []),(164,.tuple []),(163,.bool true),(162,.bool true),(161,.tuple []),(160,.tuple []),(159,.tuple []),(158,.tuple []),(157,.tuple []),(156,.tuple []),(155,.tuple []),(154,.bool true),(153,.bool true),(152,.bool true),(151,.bool x17_14),(150,.vptr [.bool x17_14]),(149,.i y31_0),(148,w4 a1),(147,.bool x16_2.f3),(146,.ptr 0 7 3),(145,.bool false),(144,.bool false),(143,.bool false),(142,.i (x16_2.f2.n:Int)),(141,q29 x16_2.f2),(140,.ptr 0 7 2),(139,.bool false),(138,.bool false),(137,.i x16_2.f0),(136,.ptr 0 7 0),(0,w4 a0),(1,w4 a1),(7,.i (fW .i64 ((fW .u64 a2).tmod 4))),(13,q29 z30),(14,.i y31_0),(15,.ptr 0 7 0)]
       refine oD (H':=(mkH [⟨e29 x16_2,7,false⟩])) (nav [0] g12p49) E62 [] g12d0 (oDr 4 4 E54 (oDe (fun z=>[(139,.bool z),(138,.bool z),(137,.i x16_2.f0),(136,.ptr 0 7 0),(0,w4 a0),(1,w4 a1),(7,.i (fW .i64 ((fW .u64 a2).tmod 4))),(13,q29 z30),(14,.i y31_0),(15,.ptr 0 7 0)]) hb15 (oDr 6 10 E57 (oDe (fun z=>[(145,.bool z),(144,.bool z),(143,.bool z),(142,.i (x16_2.f2.n:Int)),(141,q29 x16_2.f2),(140,.ptr 0 7 2),(139,.bool false),(138,.bool false),(137,.i x16_2.f0),(136,.ptr 0 7 0),(0,w4 a0),(1,w4 a1),(7,.i (fW .i64 ((fW .u64 a2).tmod 4))),(13,q29 z30),(14,.i y31_0),(15,.ptr 0 7 0)]) hb16 (oDr 4 14 E60 (qA9 (l':=(opsAt g12p49).toList.drop 15) (eE:=((150,.vptr [.bool x17_14]) :: E60)) (hs:=[]) (x:=x17_14) (fun (x17_14:Bool)=>(.vptr [.bool x17_14],(mkH [⟨e29 x16_2,7,false⟩]))) (vidxH (sz:=1) e4_len (by kernel_rfl)) hx17_14 (by kernel_rfl) (oDr 4 19 E61 (oDe (fun z=>[(154,.bool z),(153,.bool z),(152,.bool z),(151,.bool x17_14),(150,.vptr [.bool x17_14]),(149,.i y31_0),(148,w4 a1),(147,.bool x16_2.f3),(146,.ptr 0 7 3),(145,.bool false),(144,.bool false),(143,.bool false),(142,.i (x16_2.f2.n:Int)),(141,q29 x16_2.f2),(140,.ptr 0 7 2),(139,.bool false),(138,.bool false),(137,.i x16_2.f0),(136,.ptr 0 7 0),(0,w4 a0),(1,w4 a1),(7,.i (fW .i64 ((fW .u64 a2).tmod 4))),(13,q29 z30),(14,.i y31_0),(15,.ptr 0 7 0)]) hb17 (oDr 21 40 E62 .nil))))))))) ?_
       refine oK [0,1,7,13,14,15,175] [(0,w4 a0),(1,w4 a1),(7,.i (fW .i64 ((fW .u64 a2).tmod 4))),(13,q29 z30),(14,.i y31_0),(15,.ptr 0 7 0),(175,.bool true)] ?_
       exact hj32 (true,y31_0)
      ·refine qA7 (fun x17_21 hx17_21=>?_)
       refine qD (fun hb18=>?_) (fun hb18=>?_)
       ·let E54:Env:=[(139,.bool (!decide (x16_2.f0 = 22))),(138,.bool (!decide (x16_2.f0 = 22))),(137,.i x16_2.f0),(136,.ptr 0 7 0),(0,w4 a0),(1,w4 a1),(7,.i (fW .i64 ((fW .u64 a2).tmod 4))),(13,q29 z30),(14,.i y31_0),(15,.ptr 0 7 0)]
        let E57:Env:=[(145,.bool (!decide ((x16_2.f2.n:Int) = 3))),(144,.bool (!decide ((x16_2.f2.n:Int) = 3))),(143,.bool (!decide ((x16_2.f2.n:Int) = 3))),(142,.i (x16_2.f2.n:Int)),(141,q29 x16_2.f2),(140,.ptr 0 7 2),(139,.bool false),(138,.bool false),(137,.i x16_2.f0),(136,.ptr 0 7 0),(0,w4 a0),(1,w4 a1),(7,.i (fW .i64 ((fW .u64 a2).tmod 4))),(13,q29 z30),(14,.i y31_0),(15,.ptr 0 7 0)]
        let E60:Env:=[(149,.i y31_0),(148,w4 a1),(147,.bool x16_2.f3),(146,.ptr 0 7 3),(145,.bool false),(144,.bool false),(143,.bool false),(142,.i (x16_2.f2.n:Int)),(141,q29 x16_2.f2),(140,.ptr 0 7 2),(139,.bool false),(138,.bool false),(137,.i x16_2.f0),(136,.ptr 0 7 0),(0,w4 a0),(1,w4 a1),(7,.i (fW .i64 ((fW .u64 a2).tmod 4))),(13,q29 z30),(14,.i y31_0),(15,.ptr 0 7 0)]
        let E61:Env:=((154,.bool (!(x16_2.f3 == x17_14))) :: (153,.bool (!(x16_2.f3 == x17_14))) :: (152,.bool (!(x16_2.f3 == x17_14))) :: (151,.bool x17_14) :: (150,.vptr [.bool x17_14]) :: E60)
        let E64:Env:=[(156,q29 x16_2.f2),(155,.ptr 0 7 2),(154,.bool false),(153,.bool false),(152,.bool false),(151,.bool x17_14),(150,.vptr [.bool x17_14]),(149,.i y31_0),(148,w4 a1),(147,.bool x16_2.f3),(146,.ptr 0 7 3),(145,.bool false),(144,.bool false),(143,.bool false),(142,.i (x16_2.f2.n:Int)),(141,q29 x16_2.f2),(140,.ptr 0 7 2),(139,.bool false),(138,.bool false),(137,.i x16_2.f0),(136,.ptr 0 7 0),(0,w4 a0),(1,w4 a1),(7,.i (fW .i64 ((fW .u64 a2).tmod 4))),(13,q29 z30),(14,.i y31_0),(15,.ptr 0 7 0)]
        let E65:Env:=((163,.bool (!decide ((x17_21.f2.n:Int) = 2))) :: (162,.bool (!decide ((x17_21.f2.n:Int) = 2))) :: (161,.bool (!decide ((x17_21.f2.n:Int) = 2))) :: (160,.i (x17_21.f2.n:Int)) :: (159,q29 x17_21.f2) :: (158,.vptr [q29 x17_21.f2,.bool x17_21.f3,.bool x17_21.f4,w9 x17_21.f5,w9 x17_21.f6]) :: (157,.vptr [.i x17_21.f0,.str x17_21.f1,q29 x17_21.f2,.bool x17_21.f3,.bool x17_21.f4,w9 x17_21.f5,w9 x17_21.f6]) :: E64)
        let E66:Env:=[(175,.bool true),(174,.tuple []),(173,.tuple []),(172,.tuple []),(171,.tuple []),(170,.tuple []),(169,.tuple []),(168,.tuple []),(167,.tuple []),(166,.tuple []),(165,.tuple []),(164,.tuple []),(163,.bool true),(162,.bool true),(161,.bool true),(160,.i (x17_21.f2.n:Int)),(159,q29 x17_21.f2),(158,.vptr [q29 x17_21.f2,.bool x17_21.f3,.bool x17_21.f4,w9 x17_21.f5,w9 x17_21.f6]),(157,.vptr [.i x17_21.f0,.str x17_21.f1,q29 x17_21.f2,.bool x17_21.f3,.bool x17_21.f4,w9 x17_21.f5,w9 x17_21.f6]),(156,q29 x16_2.f2),(155,.ptr 0 7 2),(154,.bool false),(153,.bool false),(152,.bool false),(151,.bool x17_14),(150,.vptr [.bool x17_14]),(149,.i y31_0),(148,w4 a1),(147,.bool x16_2.f3),(146,.ptr 0 7 3),(145,.bool false),(144,.bool false),(143,.bool false),(142,.i (x16_2.f2.n:Int)),(141,q29 x16_2.f2),(140,.ptr 0 7 2),(139,.bool false),(138,.bool false),(137,.i x16_2.f0),(136,.ptr 0 7 0),(0,w4 a0),(1,w4 a1),(7,.i (fW .i64 ((fW .u64 a2).tmod 4))),(13,q29 z30),(14,.i y31_0),(15,.ptr 0 7 0)]
        refine oD (H':=(mkH [⟨e29 x16_2,7,false⟩])) (nav [0] g12p49) E66 [] g12d0 (oDr 4 4 E54 (oDe (fun z=>[(139,.bool z),(138,.bool z),(137,.i x16_2.f0),(136,.ptr 0 7 0),(0,w4 a0),(1,w4 a1),(7,.i (fW .i64 ((fW .u64 a2).tmod 4))),(13,q29 z30),(14,.i y31_0),(15,.ptr 0 7 0)]) hb15 (oDr 6 10 E57 (oDe (fun z=>[(145,.bool z),(144,.bool z),(143,.bool z),(142,.i (x16_2.f2.n:Int)),(141,q29 x16_2.f2),(140,.ptr 0 7 2),(139,.bool false),(138,.bool false),(137,.i x16_2.f0),(136,.ptr 0 7 0),(0,w4 a0),(1,w4 a1),(7,.i (fW .i64 ((fW .u64 a2).tmod 4))),(13,q29 z30),(14,.i y31_0),(15,.ptr 0 7 0)]) hb16 (oDr 4 14 E60 (qA9 (l':=(opsAt g12p49).toList.drop 15) (eE:=((150,.vptr [.bool x17_14]) :: E60)) (hs:=[]) (x:=x17_14) (fun (x17_14:Bool)=>(.vptr [.bool x17_14],(mkH [⟨e29 x16_2,7,false⟩]))) (vidxH (sz:=1) e4_len (by kernel_rfl)) hx17_14 (by kernel_rfl) (oDr 4 19 E61 (oDe (fun z=>[(154,.bool z),(153,.bool z),(152,.bool z),(151,.bool x17_14),(150,.vptr [.bool x17_14]),(149,.i y31_0),(148,w4 a1),(147,.bool x16_2.f3),(146,.ptr 0 7 3),(145,.bool false),(144,.bool false),(143,.bool false),(142,.i (x16_2.f2.n:Int)),(141,q29 x16_2.f2),(140,.ptr 0 7 2),(139,.bool false),(138,.bool false),(137,.i x16_2.f0),(136,.ptr 0 7 0),(0,w4 a0),(1,w4 a1),(7,.i (fW .i64 ((fW .u64 a2).tmod 4))),(13,q29 z30),(14,.i y31_0),(15,.ptr 0 7 0)]) hb17 (oDr 2 21 E64 (qE5 (l':=(opsAt g12p49).toList.drop 22) (eE:=((157,.vptr [.i x17_21.f0,.str x17_21.f1,q29 x17_21.f2,.bool x17_21.f3,.bool x17_21.f4,w9 x17_21.f5,w9 x17_21.f6]) :: E64)) (hs:=[]) (x:=x17_21) (fun (x17_21:S28)=>(.vptr [.i x17_21.f0,.str x17_21.f1,q29 x17_21.f2,.bool x17_21.f3,.bool x17_21.f4,w9 x17_21.f5,w9 x17_21.f6],(mkH [⟨e29 x16_2,7,false⟩]))) (vidxR (sz:=7) qEo hx17_21 (by kernel_rfl)) (by kernel_rfl) (oDr 6 28 E65 (oDe (fun z=>[(163,.bool z),(162,.bool z),(161,.bool z),(160,.i (x17_21.f2.n:Int)),(159,q29 x17_21.f2),(158,.vptr [q29 x17_21.f2,.bool x17_21.f3,.bool x17_21.f4,w9 x17_21.f5,w9 x17_21.f6]),(157,.vptr [.i x17_21.f0,.str x17_21.f1,q29 x17_21.f2,.bool x17_21.f3,.bool x17_21.f4,w9 x17_21.f5,w9 x17_21.f6]),(156,q29 x16_2.f2),(155,.ptr 0 7 2),(154,.bool false),(153,.bool false),(152,.bool false),(151,.bool x17_14),(150,.vptr [.bool x17_14]),(149,.i y31_0),(148,w4 a1),(147,.bool x16_2.f3),(146,.ptr 0 7 3),(145,.bool false),(144,.bool false),(143,.bool false),(142,.i (x16_2.f2.n:Int)),(141,q29 x16_2.f2),(140,.ptr 0 7 2),(139,.bool false),(138,.bool false),(137,.i x16_2.f0),(136,.ptr 0 7 0),(0,w4 a0),(1,w4 a1),(7,.i (fW .i64 ((fW .u64 a2).tmod 4))),(13,q29 z30),(14,.i y31_0),(15,.ptr 0 7 0)]) hb18 (oDr 12 40 E66 .nil))))))))))))) ?_
        refine oK [0,1,7,13,14,15,175] [(0,w4 a0),(1,w4 a1),(7,.i (fW .i64 ((fW .u64 a2).tmod 4))),(13,q29 z30),(14,.i y31_0),(15,.ptr 0 7 0),(175,.bool true)] ?_
        exact hj32 (true,y31_0)
       ·refine qA7 (fun x17_30 hx17_30=>?_)
        refine qA7 (fun x17_36 hx17_36=>?_)
        let E54:Env:=[(139,.bool (!decide (x16_2.f0 = 22))),(138,.bool (!decide (x16_2.f0 = 22))),(137,.i x16_2.f0),(136,.ptr 0 7 0),(0,w4 a0),(1,w4 a1),(7,.i (fW .i64 ((fW .u64 a2).tmod 4))),(13,q29 z30),(14,.i y31_0),(15,.ptr 0 7 0)]
        let E57:Env:=[(145,.bool (!decide ((x16_2.f2.n:Int) = 3))),(144,.bool (!decide ((x16_2.f2.n:Int) = 3))),(143,.bool (!decide ((x16_2.f2.n:Int) = 3))),(142,.i (x16_2.f2.n:Int)),(141,q29 x16_2.f2),(140,.ptr 0 7 2),(139,.bool false),(138,.bool false),(137,.i x16_2.f0),(136,.ptr 0 7 0),(0,w4 a0),(1,w4 a1),(7,.i (fW .i64 ((fW .u64 a2).tmod 4))),(13,q29 z30),(14,.i y31_0),(15,.ptr 0 7 0)]
        let E60:Env:=[(149,.i y31_0),(148,w4 a1),(147,.bool x16_2.f3),(146,.ptr 0 7 3),(145,.bool false),(144,.bool false),(143,.bool false),(142,.i (x16_2.f2.n:Int)),(141,q29 x16_2.f2),(140,.ptr 0 7 2),(139,.bool false),(138,.bool false),(137,.i x16_2.f0),(136,.ptr 0 7 0),(0,w4 a0),(1,w4 a1),(7,.i (fW .i64 ((fW .u64 a2).tmod 4))),(13,q29 z30),(14,.i y31_0),(15,.ptr 0 7 0)]
        let E61:Env:=((154,.bool (!(x16_2.f3 == x17_14))) :: (153,.bool (!(x16_2.f3 == x17_14))) :: (152,.bool (!(x16_2.f3 == x17_14))) :: (151,.bool x17_14) :: (150,.vptr [.bool x17_14]) :: E60)
        let E64:Env:=[(156,q29 x16_2.f2),(155,.ptr 0 7 2),(154,.bool false),(153,.bool false),(152,.bool false),(151,.bool x17_14),(150,.vptr [.bool x17_14]),(149,.i y31_0),(148,w4 a1),(147,.bool x16_2.f3),(146,.ptr 0 7 3),(145,.bool false),(144,.bool false),(143,.bool false),(142,.i (x16_2.f2.n:Int)),(141,q29 x16_2.f2),(140,.ptr 0 7 2),(139,.bool false),(138,.bool false),(137,.i x16_2.f0),(136,.ptr 0 7 0),(0,w4 a0),(1,w4 a1),(7,.i (fW .i64 ((fW .u64 a2).tmod 4))),(13,q29 z30),(14,.i y31_0),(15,.ptr 0 7 0)]
        let E65:Env:=((163,.bool (!decide ((x17_21.f2.n:Int) = 2))) :: (162,.bool (!decide ((x17_21.f2.n:Int) = 2))) :: (161,.bool (!decide ((x17_21.f2.n:Int) = 2))) :: (160,.i (x17_21.f2.n:Int)) :: (159,q29 x17_21.f2) :: (158,.vptr [q29 x17_21.f2,.bool x17_21.f3,.bool x17_21.f4,w9 x17_21.f5,w9 x17_21.f6]) :: (157,.vptr [.i x17_21.f0,.str x17_21.f1,q29 x17_21.f2,.bool x17_21.f3,.bool x17_21.f4,w9 x17_21.f5,w9 x17_21.f6]) :: E64)
        let E68:Env:=[(165,q29 x16_2.f2),(164,.ptr 0 7 2),(163,.bool false),(162,.bool false),(161,.bool false),(160,.i (x17_21.f2.n:Int)),(159,q29 x17_21.f2),(158,.vptr [q29 x17_21.f2,.bool x17_21.f3,.bool x17_21.f4,w9 x17_21.f5,w9 x17_21.f6]),(157,.vptr [.i x17_21.f0,.str x17_21.f1,q29 x17_21.f2,.bool x17_21.f3,.bool x17_21.f4,w9 x17_21.f5,w9 x17_21.f6]),(156,q29 x16_2.f2),(155,.ptr 0 7 2),(154,.bool false),(153,.bool false),(152,.bool false),(151,.bool x17_14),(150,.vptr [.bool x17_14]),(149,.i y31_0),(148,w4 a1),(147,.bool x16_2.f3),(146,.ptr 0 7 3),(145,.bool false),(144,.bool false),(143,.bool false),(142,.i (x16_2.f2.n:Int)),(141,q29 x16_2.f2),(140,.ptr 0 7 2),(139,.bool false),(138,.bool false),(137,.i x16_2.f0),(136,.ptr 0 7 0),(0,w4 a0),(1,w4 a1),(7,.i (fW .i64 ((fW .u64 a2).tmod 4))),(13,q29 z30),(14,.i y31_0),(15,.ptr 0 7 0)]
        let E69:Env:=((171,.i (fW .i64 ((fW .u64 a2).tmod 4))) :: (170,w3 g12c5) :: (169,.i (x17_30.f2.n:Int)) :: (168,q29 x17_30.f2) :: (167,.vptr [q29 x17_30.f2,.bool x17_30.f3,.bool x17_30.f4,w9 x17_30.f5,w9 x17_30.f6]) :: (166,.vptr [.i x17_30.f0,.str x17_30.f1,q29 x17_30.f2,.bool x17_30.f3,.bool x17_30.f4,w9 x17_30.f5,w9 x17_30.f6]) :: E68)
        refine oD (H':=(mkH [⟨e29 x16_2,7,false⟩])) (nav [0] g12p49) ((175,.bool (!decide ((x17_30.f2.n:Int) = x17_36))) :: (174,.bool (!decide ((x17_30.f2.n:Int) = x17_36))) :: (173,.i x17_36) :: (172,.vptr [.i x17_36]) :: E69) [] g12d0 (oDr 4 4 E54 (oDe (fun z=>[(139,.bool z),(138,.bool z),(137,.i x16_2.f0),(136,.ptr 0 7 0),(0,w4 a0),(1,w4 a1),(7,.i (fW .i64 ((fW .u64 a2).tmod 4))),(13,q29 z30),(14,.i y31_0),(15,.ptr 0 7 0)]) hb15 (oDr 6 10 E57 (oDe (fun z=>[(145,.bool z),(144,.bool z),(143,.bool z),(142,.i (x16_2.f2.n:Int)),(141,q29 x16_2.f2),(140,.ptr 0 7 2),(139,.bool false),(138,.bool false),(137,.i x16_2.f0),(136,.ptr 0 7 0),(0,w4 a0),(1,w4 a1),(7,.i (fW .i64 ((fW .u64 a2).tmod 4))),(13,q29 z30),(14,.i y31_0),(15,.ptr 0 7 0)]) hb16 (oDr 4 14 E60 (qA9 (l':=(opsAt g12p49).toList.drop 15) (eE:=((150,.vptr [.bool x17_14]) :: E60)) (hs:=[]) (x:=x17_14) (fun (x17_14:Bool)=>(.vptr [.bool x17_14],(mkH [⟨e29 x16_2,7,false⟩]))) (vidxH (sz:=1) e4_len (by kernel_rfl)) hx17_14 (by kernel_rfl) (oDr 4 19 E61 (oDe (fun z=>[(154,.bool z),(153,.bool z),(152,.bool z),(151,.bool x17_14),(150,.vptr [.bool x17_14]),(149,.i y31_0),(148,w4 a1),(147,.bool x16_2.f3),(146,.ptr 0 7 3),(145,.bool false),(144,.bool false),(143,.bool false),(142,.i (x16_2.f2.n:Int)),(141,q29 x16_2.f2),(140,.ptr 0 7 2),(139,.bool false),(138,.bool false),(137,.i x16_2.f0),(136,.ptr 0 7 0),(0,w4 a0),(1,w4 a1),(7,.i (fW .i64 ((fW .u64 a2).tmod 4))),(13,q29 z30),(14,.i y31_0),(15,.ptr 0 7 0)]) hb17 (oDr 2 21 E64 (qE5 (l':=(opsAt g12p49).toList.drop 22) (eE:=((157,.vptr [.i x17_21.f0,.str x17_21.f1,q29 x17_21.f2,.bool x17_21.f3,.bool x17_21.f4,w9 x17_21.f5,w9 x17_21.f6]) :: E64)) (hs:=[]) (x:=x17_21) (fun (x17_21:S28)=>(.vptr [.i x17_21.f0,.str x17_21.f1,q29 x17_21.f2,.bool x17_21.f3,.bool x17_21.f4,w9 x17_21.f5,w9 x17_21.f6],(mkH [⟨e29 x16_2,7,false⟩]))) (vidxR (sz:=7) qEo hx17_21 (by kernel_rfl)) (by kernel_rfl) (oDr 6 28 E65 (oDe (fun z=>[(163,.bool z),(162,.bool z),(161,.bool z),(160,.i (x17_21.f2.n:Int)),(159,q29 x17_21.f2),(158,.vptr [q29 x17_21.f2,.bool x17_21.f3,.bool x17_21.f4,w9 x17_21.f5,w9 x17_21.f6]),(157,.vptr [.i x17_21.f0,.str x17_21.f1,q29 x17_21.f2,.bool x17_21.f3,.bool x17_21.f4,w9 x17_21.f5,w9 x17_21.f6]),(156,q29 x16_2.f2),(155,.ptr 0 7 2),(154,.bool false),(153,.bool false),(152,.bool false),(151,.bool x17_14),(150,.vptr [.bool x17_14]),(149,.i y31_0),(148,w4 a1),(147,.bool x16_2.f3),(146,.ptr 0 7 3),(145,.bool false),(144,.bool false),(143,.bool false),(142,.i (x16_2.f2.n:Int)),(141,q29 x16_2.f2),(140,.ptr 0 7 2),(139,.bool false),(138,.bool false),(137,.i x16_2.f0),(136,.ptr 0 7 0),(0,w4 a0),(1,w4 a1),(7,.i (fW .i64 ((fW .u64 a2).tmod 4))),(13,q29 z30),(14,.i y31_0),(15,.ptr 0 7 0)]) hb18 (oDr 2 30 E68 (qE5 (l':=(opsAt g12p49).toList.drop 31) (eE:=((166,.vptr [.i x17_30.f0,.str x17_30.f1,q29 x17_30.f2,.bool x17_30.f3,.bool x17_30.f4,w9 x17_30.f5,w9 x17_30.f6]) :: E68)) (hs:=[]) (x:=x17_30) (fun (x17_30:S28)=>(.vptr [.i x17_30.f0,.str x17_30.f1,q29 x17_30.f2,.bool x17_30.f3,.bool x17_30.f4,w9 x17_30.f5,w9 x17_30.f6],(mkH [⟨e29 x16_2,7,false⟩]))) (vidxR (sz:=7) qEo hx17_30 (by kernel_rfl)) (by kernel_rfl) (oDr 5 36 E69 (qA9 (l':=(opsAt g12p49).toList.drop 37) (eE:=((172,.vptr [.i x17_36]) :: E69)) (hs:=[]) (x:=x17_36) (fun (x17_36:Int)=>(.vptr [.i x17_36],(mkH [⟨e29 x16_2,7,false⟩]))) (vidxH (sz:=1) qL4 (by kernel_rfl)) hx17_36 (by kernel_rfl) (oDr 3 40 ((175,.bool (!decide ((x17_30.f2.n:Int) = x17_36))) :: (174,.bool (!decide ((x17_30.f2.n:Int) = x17_36))) :: (173,.i x17_36) :: (172,.vptr [.i x17_36]) :: E69) .nil))))))))))))))))) ?_
        refine oK [0,1,7,13,14,15,175] [(0,w4 a0),(1,w4 a1),(7,.i (fW .i64 ((fW .u64 a2).tmod 4))),(13,q29 z30),(14,.i y31_0),(15,.ptr 0 7 0),(175,.bool (!decide ((x17_30.f2.n:Int) = x17_36)))] ?_
        exact hj32 (!decide ((x17_30.f2.n:Int) = x17_36),y31_0)
  ·refine oR 4 (atN 0 (ctl1 g12p47)) ((129,.bool false) :: E40) ?_
   refine oA (fun (x18_0:Bool) => .bool x18_0) (atN 1 (ctl1 g12p47)) 190 [] (g16_ok k ) fun x18_0 hx18_0=>?_
   exact oQ 3
def qGj (k:Nat)  (a0:(List Bool)) (a1:(List Bool)) (a2:Int) (ih:(List Nat) → Int → Option Bool):(List Nat) → Int → Option Bool :=
 fun (y22_0:(List Nat)) (y22_1:Int)=>if (decide (y22_1 < (a0.length:Int))) then (jn (fun (z23:(List Nat) × Int)=>(toS ([fW .u8 (97 + fW .u8 z23.2)]:List Int)).bind fun x15_4=>jn (fun (z25:(List Nat) × Int)=>(nthL a0 z25.2).bind fun x7_2=>jn (fun (z26:Bool × Int)=>jn (fun (z27:(List Nat) × Int)=>(catS z27.1 ([32,45,62]:List Nat)).bind fun x9_1=>(nthL a1 z27.2).bind fun x10_2=>jn (fun (z28:(List Nat) × Int)=>(catS z28.1 ([32,98,44,32,99]:List Nat)).bind fun x12_1=>ih x12_1 (fW .i64 (z28.2 + 1))) (fun j28=>if x10_2 then ((catS x9_1 ([10]:List Nat)).bind fun x11_1=>j28 (x11_1,z27.2)) else (j28 (x9_1,z27.2)))) (fun j27=>if z26.1 then ((catS z25.1 g12c4).bind fun x8_1=>j27 (x8_1,z26.2)) else (j27 (z25.1,z26.2)))) (fun j26=>if x7_2 then (j26 (decide (fW .i64 ((fW .u64 a2).tmod 4) < 3),z25.2)) else (j26 (false,z25.2)))) (fun j25=>if (decide (fW .i64 ((fW .u64 a2).tmod 4) = 2)) then ((catS z23.1 ([40]:List Nat)).bind fun x4_1=>(catS x4_1 x15_4).bind fun x4_3=>(catS x4_3 ([41]:List Nat)).bind fun x4_4=>j25 (x4_4,z23.2)) else (if (decide (fW .i64 ((fW .u64 a2).tmod 4) = 3)) then ((catS z23.1 x15_4).bind fun x5_2=>(catS x5_2 ([32,62,32,49]:List Nat)).bind fun x5_3=>j25 (x5_3,z23.2)) else ((catS z23.1 x15_4).bind fun x6_2=>j25 (x6_2,z23.2))))) (fun j23=>if (decide (0 < y22_1)) then ((catS y22_0 ([59,32]:List Nat)).bind fun x14_1=>j23 (x14_1,y22_1)) else (j23 (y22_0,y22_1)))) else ((catS y22_0 ([32,101,110,100]:List Nat)).bind fun x2_1=>(g17 k x2_1).bind fun x2_2=>jn (fun (z24:Bool)=>if z24 then (some false) else (jn (fun (z29:Bool)=>jn (fun (z30:Raw)=>if (!decide ((z30.n:Int) = (a0.length:Int))) then (some false) else (qC6 k a0 a1 a2 z30 k 0)) (fun j30=>if z29 then ((subR 7 x2_2.1.f2 (some 1) none).bind fun x13_1=>j30 x13_1) else (j30 x2_2.1.f2))) (fun j29=>if (decide (fW .i64 ((fW .u64 a2).tmod 4) = 0)) then (j29 (decide (0 < (x2_2.1.f2.n:Int)))) else (j29 false)))) (fun j24=>if (!decide (x2_2.2 = 0)) then (j24 true) else ((nthL g12c3 (fW .i64 ((fW .u64 a2).tmod 4))).bind fun x3_7=>j24 (!decide (x2_2.1.f0 = x3_7)))))
def qCp (k:Nat)  (a0:(List Bool)) (a1:(List Bool)) (a2:Int) (n:Nat):(List Nat) → Int → Option Bool:=lp (fun _ _=>none) (qGj k a0 a1 a2) n
theorem qOx (k:Nat)  (a0:(List Bool)) (a1:(List Bool)) (a2:Int) (n:Nat) (y22_0:(List Nat)) (y22_1:Int):qCp k a0 a1 a2 (n + 1) y22_0 y22_1 = (if (decide (y22_1 < (a0.length:Int))) then (jn (fun (z23:(List Nat) × Int)=>(toS ([fW .u8 (97 + fW .u8 z23.2)]:List Int)).bind fun x15_4=>jn (fun (z25:(List Nat) × Int)=>(nthL a0 z25.2).bind fun x7_2=>jn (fun (z26:Bool × Int)=>jn (fun (z27:(List Nat) × Int)=>(catS z27.1 ([32,45,62]:List Nat)).bind fun x9_1=>(nthL a1 z27.2).bind fun x10_2=>jn (fun (z28:(List Nat) × Int)=>(catS z28.1 ([32,98,44,32,99]:List Nat)).bind fun x12_1=>(qCp k a0 a1 a2 n) x12_1 (fW .i64 (z28.2 + 1))) (fun j28=>if x10_2 then ((catS x9_1 ([10]:List Nat)).bind fun x11_1=>j28 (x11_1,z27.2)) else (j28 (x9_1,z27.2)))) (fun j27=>if z26.1 then ((catS z25.1 g12c4).bind fun x8_1=>j27 (x8_1,z26.2)) else (j27 (z25.1,z26.2)))) (fun j26=>if x7_2 then (j26 (decide (fW .i64 ((fW .u64 a2).tmod 4) < 3),z25.2)) else (j26 (false,z25.2)))) (fun j25=>if (decide (fW .i64 ((fW .u64 a2).tmod 4) = 2)) then ((catS z23.1 ([40]:List Nat)).bind fun x4_1=>(catS x4_1 x15_4).bind fun x4_3=>(catS x4_3 ([41]:List Nat)).bind fun x4_4=>j25 (x4_4,z23.2)) else (if (decide (fW .i64 ((fW .u64 a2).tmod 4) = 3)) then ((catS z23.1 x15_4).bind fun x5_2=>(catS x5_2 ([32,62,32,49]:List Nat)).bind fun x5_3=>j25 (x5_3,z23.2)) else ((catS z23.1 x15_4).bind fun x6_2=>j25 (x6_2,z23.2))))) (fun j23=>if (decide (0 < y22_1)) then ((catS y22_0 ([59,32]:List Nat)).bind fun x14_1=>j23 (x14_1,y22_1)) else (j23 (y22_0,y22_1)))) else ((catS y22_0 ([32,101,110,100]:List Nat)).bind fun x2_1=>(g17 k x2_1).bind fun x2_2=>jn (fun (z24:Bool)=>if z24 then (some false) else (jn (fun (z29:Bool)=>jn (fun (z30:Raw)=>if (!decide ((z30.n:Int) = (a0.length:Int))) then (some false) else (qC6 k a0 a1 a2 z30 k 0)) (fun j30=>if z29 then ((subR 7 x2_2.1.f2 (some 1) none).bind fun x13_1=>j30 x13_1) else (j30 x2_2.1.f2))) (fun j29=>if (decide (fW .i64 ((fW .u64 a2).tmod 4) = 0)) then (j29 (decide (0 < (x2_2.1.f2.n:Int)))) else (j29 false)))) (fun j24=>if (!decide (x2_2.2 = 0)) then (j24 true) else ((nthL g12c3 (fW .i64 ((fW .u64 a2).tmod 4))).bind fun x3_7=>j24 (!decide (x2_2.1.f0 = x3_7)))))):=rfl
theorem qLs (k:Nat)   (a0:(List Bool)) (a1:(List Bool)) (a2:Int)  : ∀ (n:Nat) (y22_0:(List Nat)) (y22_1:Int),Ok Xg12 g12p8 [(0,w4 a0),(1,w4 a1),(7,.i (fW .i64 ((fW .u64 a2).tmod 4))),(8,.str y22_0),(9,.i y22_1)] (mkH []) (qCp k a0 a1 a2 n y22_0 y22_1):=by
 intro n
 induction n with
 | zero=>intro y22_0 y22_1; exact ok_none
 | succ n ih =>
  intro y22_0 y22_1
  show Ok _ _ _ _ (qGj k a0 a1 a2 (qCp k a0 a1 a2 n) y22_0 y22_1)
  unfold qGj
  refine qAh (p':=nav [0] g12p8) (by kernel_rfl) ?_
  let E6:Env:=[(44,.bool (decide (y22_1 < (a0.length:Int)))),(43,.i (a0.length:Int)),(42,w4 a0),(41,.i y22_1),(0,w4 a0),(1,w4 a1),(7,.i (fW .i64 ((fW .u64 a2).tmod 4))),(8,.str y22_0),(9,.i y22_1)]
  refine oH 8 g12p10 E6 (mkH []) ?_
  refine oS 44 (fun hb=>?_) (fun hb=>?_)
  ·refine oR 10 g12p13 ((48,.bool (decide (0 < y22_1))) :: (47,.i y22_1) :: (44,.bool true) :: E6) ?_
   refine oJ g12p16 (fun (z23:(List Nat) × Int)=>[(0,w4 a0),(1,w4 a1),(7,.i (fW .i64 ((fW .u64 a2).tmod 4))),(8,.str z23.1),(9,.i z23.2)]) (fun (z23:(List Nat) × Int)=>(mkH [])) (fun z23=>?_) (fun j23 hj23=>?_)
   ·let E7:Env:=[(54,.slice 0 1 0 1 1),(53,.y (fW .u8 (97 + fW .u8 z23.2))),(52,.y (fW .u8 z23.2)),(51,.i z23.2),(0,w4 a0),(1,w4 a1),(7,.i (fW .i64 ((fW .u64 a2).tmod 4))),(8,.str z23.1),(9,.i z23.2)]
    let Q1:Blk:=⟨[.y (fW .u8 (97 + fW .u8 z23.2))],0,false⟩
    refine oH 5 (atN 4 (ctl1 g12p16)) E7 (mkH [Q1]) ?_
    refine oC (fun (x15_4:(List Nat))=>(.str x15_4,(mkH [Q1]))) (atN 5 (ctl1 g12p16)) 55 (toSE [fW .u8 (97 + fW .u8 z23.2)] (by kernel_rfl)) fun x15_4 hx15_4=>?_
    let E8:Env:=((60,.bool (decide (fW .i64 ((fW .u64 a2).tmod 4) = 2))) :: (61,.bool (decide (fW .i64 ((fW .u64 a2).tmod 4) = 2))) :: (56,.i (fW .i64 ((fW .u64 a2).tmod 4))) :: (10,.str x15_4) :: (55,.str x15_4) :: E7)
    refine oH 13 g12p23 E8 (mkH [Q1]) ?_
    refine oJ g12p29 (fun (z25:(List Nat) × Int)=>[(0,w4 a0),(1,w4 a1),(7,.i (fW .i64 ((fW .u64 a2).tmod 4))),(8,.str z25.1),(9,.i z25.2)]) (fun (z25:(List Nat) × Int)=>(mkH [])) (fun z25=>?_) (fun j25 hj25=>?_)
    ·let E9:Env:=[(74,.i z25.2),(73,w4 a0),(0,w4 a0),(1,w4 a1),(7,.i (fW .i64 ((fW .u64 a2).tmod 4))),(8,.str z25.1),(9,.i z25.2)]
     refine oH 3 (atN 2 (ctl1 g12p29)) E9 (mkH []) ?_
     refine oC (fun (x7_2:Bool)=>(.vptr [.bool x7_2],(mkH []))) (atN 3 (ctl1 g12p29)) 75 (vidxH (sz:=1) e4_len (by kernel_rfl)) fun x7_2 hx7_2=>?_
     refine oH 2 (atN 5 (ctl1 g12p29)) ((77,.bool x7_2) :: (76,.bool x7_2) :: (75,.vptr [.bool x7_2]) :: E9) (mkH []) ?_
     refine oJ g12p32 (fun (z26:Bool × Int)=>[(0,w4 a0),(1,w4 a1),(7,.i (fW .i64 ((fW .u64 a2).tmod 4))),(8,.str z25.1),(9,.i z26.2),(80,.bool z26.1)]) (fun (z26:Bool × Int)=>(mkH [])) (fun z26=>?_) (fun j26 hj26=>?_)
     ·refine oJ g12p38 (fun (z27:(List Nat) × Int)=>[(0,w4 a0),(1,w4 a1),(7,.i (fW .i64 ((fW .u64 a2).tmod 4))),(8,.str z27.1),(9,.i z27.2)]) (fun (z27:(List Nat) × Int)=>(mkH [])) (fun z27=>?_) (fun j27 hj27=>?_)
      ·let E10:Env:=[(83,.str z27.1),(0,w4 a0),(1,w4 a1),(7,.i (fW .i64 ((fW .u64 a2).tmod 4))),(8,.str z27.1),(9,.i z27.2)]
       refine oH 2 (atN 1 (ctl1 g12p38)) E10 (mkH []) ?_
       refine oC (fun (x9_1:(List Nat))=>(.str x9_1,(mkH []))) (atN 2 (ctl1 g12p38)) 84 (catH (by kernel_rfl)) fun x9_1 hx9_1=>?_
       refine oH 7 (atN 2 (ctl1 g12p40)) ((86,.i z27.2) :: (85,w4 a1) :: (8,.str x9_1) :: (84,.str x9_1) :: E10) (mkH []) ?_
       refine oC (fun (x10_2:Bool)=>(.vptr [.bool x10_2],(mkH []))) (atN 3 (ctl1 g12p40)) 87 (vidxH (sz:=1) e4_len (by kernel_rfl)) fun x10_2 hx10_2=>?_
       let E11:Env:=((88,.bool x10_2) :: (87,.vptr [.bool x10_2]) :: (86,.i z27.2) :: (85,w4 a1) :: (8,.str x9_1) :: (84,.str x9_1) :: E10)
       refine oH 2 g12p42 E11 (mkH []) ?_
       refine oJ g12p45 (fun (z28:(List Nat) × Int)=>[(0,w4 a0),(1,w4 a1),(7,.i (fW .i64 ((fW .u64 a2).tmod 4))),(8,.str z28.1),(9,.i z28.2)]) (fun (z28:(List Nat) × Int)=>(mkH [])) (fun z28=>?_) (fun j28 hj28=>?_)
       ·refine oH 2 (atN 1 (ctl1 g12p45)) [(91,.str z28.1),(0,w4 a0),(1,w4 a1),(7,.i (fW .i64 ((fW .u64 a2).tmod 4))),(8,.str z28.1),(9,.i z28.2)] (mkH []) ?_
        refine oC (fun (x12_1:(List Nat))=>(.str x12_1,(mkH []))) (atN 2 (ctl1 g12p45)) 92 (catH (by kernel_rfl)) fun x12_1 hx12_1=>?_
        refine oLH 7 g12p8 [(0,w4 a0),(1,w4 a1),(7,.i (fW .i64 ((fW .u64 a2).tmod 4))),(8,.str x12_1),(9,.i (fW .i64 (z28.2 + 1)))] (mkH []) ?_
        exact ih x12_1 (fW .i64 (z28.2 + 1))
       ·refine oS 88 (fun hb=>?_) (fun hb=>?_)
        ·refine oH 3 (atN 1 (ctl1 g12p44)) ((89,.str x9_1) :: (88,.bool true) :: E11) (mkH []) ?_
         refine oC (fun (x11_1:(List Nat))=>(.str x11_1,(mkH []))) (atN 2 (ctl1 g12p44)) 90 (catH (by kernel_rfl)) fun x11_1 hx11_1=>?_
         refine oLH 2 g12p45 [(0,w4 a0),(1,w4 a1),(7,.i (fW .i64 ((fW .u64 a2).tmod 4))),(8,.str x11_1),(9,.i z27.2)] (mkH []) ?_
         exact hj28 (x11_1,z27.2)
        ·refine oH 2 g12p45 ((88,.bool false) :: E11) (mkH []) ?_
         refine oK [0,1,7,8,9] [(0,w4 a0),(1,w4 a1),(7,.i (fW .i64 ((fW .u64 a2).tmod 4))),(8,.str x9_1),(9,.i z27.2)] ?_
         exact hj28 (x9_1,z27.2)
      ·refine oS 80 (fun hb=>?_) (fun hb=>?_)
       ·let E17:Env:=[(81,.str z25.1),(80,.bool true),(0,w4 a0),(1,w4 a1),(7,.i (fW .i64 ((fW .u64 a2).tmod 4))),(8,.str z25.1),(9,.i z26.2),(80,.bool z26.1)]
        refine oH 3 (atN 1 (ctl1 g12p37)) E17 (mkH []) ?_
        refine oC (fun (x8_1:(List Nat))=>(.str x8_1,(mkH []))) (atN 2 (ctl1 g12p37)) 82 (catH (by kernel_rfl)) fun x8_1 hx8_1=>?_
        refine oH 3 g12p38 ((8,.str x8_1) :: (82,.str x8_1) :: E17) (mkH []) ?_
        refine oK [0,1,7,8,9] [(0,w4 a0),(1,w4 a1),(7,.i (fW .i64 ((fW .u64 a2).tmod 4))),(8,.str x8_1),(9,.i z26.2)] ?_
        exact hj27 (x8_1,z26.2)
       ·refine oLH 3 g12p38 [(0,w4 a0),(1,w4 a1),(7,.i (fW .i64 ((fW .u64 a2).tmod 4))),(8,.str z25.1),(9,.i z26.2)] (mkH []) ?_
        exact hj27 (z25.1,z26.2)
     ·refine oS 77 (fun hb=>?_) (fun hb=>?_)
      ·refine oLH 4 g12p32 [(0,w4 a0),(1,w4 a1),(7,.i (fW .i64 ((fW .u64 a2).tmod 4))),(8,.str z25.1),(9,.i z25.2),(80,.bool (decide (fW .i64 ((fW .u64 a2).tmod 4) < 3)))] (mkH []) ?_
       exact hj26 (decide (fW .i64 ((fW .u64 a2).tmod 4) < 3),z25.2)
      ·refine oLH 4 g12p32 [(0,w4 a0),(1,w4 a1),(7,.i (fW .i64 ((fW .u64 a2).tmod 4))),(8,.str z25.1),(9,.i z25.2),(80,.bool false)] (mkH []) ?_
       exact hj26 (false,z25.2)
    ·refine oS 60 (fun hb=>?_) (fun hb=>?_)
     ·refine oH 3 (atN 1 (ctl1 g12p25)) ((62,.str z23.1) :: (60,.bool true) :: E8) (mkH [Q1]) ?_
      refine oC (fun (x4_1:(List Nat))=>(.str x4_1,(mkH [Q1]))) (atN 2 (ctl1 g12p25)) 63 (catH (by kernel_rfl)) fun x4_1 hx4_1=>?_
      refine oH 1 (atN 3 (ctl1 g12p25)) ((64,.str x15_4) :: (63,.str x4_1) :: (62,.str z23.1) :: (60,.bool true) :: E8) (mkH [Q1]) ?_
      refine oC (fun (x4_3:(List Nat))=>(.str x4_3,(mkH [Q1]))) (atN 4 (ctl1 g12p25)) 65 (catH (by kernel_rfl)) fun x4_3 hx4_3=>?_
      refine oC (fun (x4_4:(List Nat))=>(.str x4_4,(mkH [Q1]))) (atN 5 (ctl1 g12p25)) 66 (catH (by kernel_rfl)) fun x4_4 hx4_4=>?_
      refine oLH 4 g12p29 [(0,w4 a0),(1,w4 a1),(7,.i (fW .i64 ((fW .u64 a2).tmod 4))),(8,.str x4_4),(9,.i z23.2)] (mkH [Q1]) ?_
      refine qAa [] [Q1] (by kernel_rfl) rfl (by kernel_rfl) trivial ?_
      exact hj25 (x4_4,z23.2)
     ·refine oH 6 g12p30 ((67,.bool (decide (fW .i64 ((fW .u64 a2).tmod 4) = 3))) :: (68,.bool (decide (fW .i64 ((fW .u64 a2).tmod 4) = 3))) :: (60,.bool false) :: E8) (mkH [Q1]) ?_
      refine oK [0,1,7,8,9,10,67] [(0,w4 a0),(1,w4 a1),(7,.i (fW .i64 ((fW .u64 a2).tmod 4))),(8,.str z23.1),(9,.i z23.2),(10,.str x15_4),(67,.bool (decide (fW .i64 ((fW .u64 a2).tmod 4) = 3)))] ?_
      let E27:Env:=keepOnly ((67,.bool (decide (fW .i64 ((fW .u64 a2).tmod 4) = 3))) :: (68,.bool (decide (fW .i64 ((fW .u64 a2).tmod 4) = 3))) :: (60,.bool false) :: E8) [0,1,7,8,9,10,67]
      refine oS 67 (fun hb=>?_) (fun hb=>?_)
      ·refine oR 4 (atN 2 (ctl1 g12p33)) ((70,.str x15_4) :: (69,.str z23.1) :: (67,.bool true) :: E27) ?_
       refine oC (fun (x5_2:(List Nat))=>(.str x5_2,(mkH [Q1]))) (atN 3 (ctl1 g12p33)) 71 (catH (by kernel_rfl)) fun x5_2 hx5_2=>?_
       refine oC (fun (x5_3:(List Nat))=>(.str x5_3,(mkH [Q1]))) (atN 4 (ctl1 g12p33)) 72 (catH (by kernel_rfl)) fun x5_3 hx5_3=>?_
       refine oLH 4 g12p29 [(0,w4 a0),(1,w4 a1),(7,.i (fW .i64 ((fW .u64 a2).tmod 4))),(8,.str x5_3),(9,.i z23.2)] (mkH [Q1]) ?_
       refine qAa [] [Q1] (by kernel_rfl) rfl (by kernel_rfl) trivial ?_
       exact hj25 (x5_3,z23.2)
      ·refine oR 4 (atN 2 (ctl1 g12p34)) ((58,.str x15_4) :: (57,.str z23.1) :: (67,.bool false) :: E27) ?_
       refine oC (fun (x6_2:(List Nat))=>(.str x6_2,(mkH [Q1]))) (atN 3 (ctl1 g12p34)) 59 (catH (by kernel_rfl)) fun x6_2 hx6_2=>?_
       refine oLH 4 g12p29 [(0,w4 a0),(1,w4 a1),(7,.i (fW .i64 ((fW .u64 a2).tmod 4))),(8,.str x6_2),(9,.i z23.2)] (mkH [Q1]) ?_
       refine qAa [] [Q1] (by kernel_rfl) rfl (by kernel_rfl) trivial ?_
       exact hj25 (x6_2,z23.2)
   ·refine oS 48 (fun hb=>?_) (fun hb=>?_)
    ·let E32:Env:=((49,.str y22_0) :: (48,.bool true) :: (48,.bool (decide (0 < y22_1))) :: (47,.i y22_1) :: (44,.bool true) :: E6)
     refine oH 3 (atN 1 (ctl1 g12p15)) E32 (mkH []) ?_
     refine oC (fun (x14_1:(List Nat))=>(.str x14_1,(mkH []))) (atN 2 (ctl1 g12p15)) 50 (catH (by kernel_rfl)) fun x14_1 hx14_1=>?_
     refine oH 3 g12p16 ((8,.str x14_1) :: (50,.str x14_1) :: E32) (mkH []) ?_
     refine oK [0,1,7,8,9] [(0,w4 a0),(1,w4 a1),(7,.i (fW .i64 ((fW .u64 a2).tmod 4))),(8,.str x14_1),(9,.i y22_1)] ?_
     exact hj23 (x14_1,y22_1)
    ·refine oLH 3 g12p16 [(0,w4 a0),(1,w4 a1),(7,.i (fW .i64 ((fW .u64 a2).tmod 4))),(8,.str y22_0),(9,.i y22_1)] (mkH []) ?_
     exact hj23 (y22_0,y22_1)
  ·refine oR 5 (atN 1 (ctl1 g12p12)) ((94,.str y22_0) :: (44,.bool false) :: E6) ?_
   refine oC (fun (x2_1:(List Nat))=>(.str x2_1,(mkH []))) (atN 2 (ctl1 g12p12)) 95 (catH (by kernel_rfl)) fun x2_1 hx2_1=>?_
   refine oA (fun (x2_2:(S28 × Int)) => .tuple [n29 x2_2.1,.i x2_2.2]) (atN 3 (ctl1 g12p12)) 96 [.str x2_1] (g17_ok k x2_1) fun x2_2 hx2_2=>?_
   refine oLH 9 g12p14 [(0,w4 a0),(1,w4 a1),(7,.i (fW .i64 ((fW .u64 a2).tmod 4))),(11,.ptr 0 7 0),(12,.i x2_2.2)] (mkH [⟨e29 x2_2.1,7,false⟩]) ?_
   refine oJ g12p17 (fun (z24:Bool)=>[(0,w4 a0),(1,w4 a1),(7,.i (fW .i64 ((fW .u64 a2).tmod 4))),(11,.ptr 0 7 0),(109,.bool z24)]) (fun (z24:Bool)=>(mkH [⟨e29 x2_2.1,7,false⟩])) (fun z24=>?_) (fun j24 hj24=>?_)
   ·refine oS 109 (fun hb=>?_) (fun hb=>?_)
    ·exact oQ 6
    ·refine oH 14 (atN 3 (ctl1 g12p22)) [(114,.bool (decide (fW .i64 ((fW .u64 a2).tmod 4) = 0))),(113,.bool (decide (fW .i64 ((fW .u64 a2).tmod 4) = 0))),(112,.i (fW .i64 ((fW .u64 a2).tmod 4))),(13,q29 x2_2.1.f2),(111,q29 x2_2.1.f2),(110,.ptr 0 7 2),(109,.bool false),(0,w4 a0),(1,w4 a1),(7,.i (fW .i64 ((fW .u64 a2).tmod 4))),(11,.ptr 0 7 0),(109,.bool z24)] (mkH [⟨e29 x2_2.1,7,false⟩]) ?_
     refine oJ g12p24 (fun (z29:Bool)=>[(0,w4 a0),(1,w4 a1),(7,.i (fW .i64 ((fW .u64 a2).tmod 4))),(13,q29 x2_2.1.f2),(118,.bool z29)]) (fun (z29:Bool)=>(mkH [])) (fun z29=>?_) (fun j29 hj29=>?_)
     ·refine oJ g12p28 (fun (z30:Raw)=>[(0,w4 a0),(1,w4 a1),(7,.i (fW .i64 ((fW .u64 a2).tmod 4))),(13,q29 z30)]) (fun (z30:Raw)=>(mkH [])) (fun z30=>?_) (fun j30 hj30=>?_)
      ·let E39:Env:=[(125,.bool (!decide ((z30.n:Int) = (a0.length:Int)))),(124,.i (a0.length:Int)),(123,w4 a0),(122,.i (z30.n:Int)),(121,q29 z30),(0,w4 a0),(1,w4 a1),(7,.i (fW .i64 ((fW .u64 a2).tmod 4))),(13,q29 z30)]
       refine oH 7 g12p31 E39 (mkH []) ?_
       refine oS 125 (fun hb=>?_) (fun hb=>?_)
       ·exact oQ 6
       ·refine oR 9 g12p39 ((14,.i 0) :: (125,.bool false) :: E39) ?_
        refine oK [0,1,7,13,14] [(0,w4 a0),(1,w4 a1),(7,.i (fW .i64 ((fW .u64 a2).tmod 4))),(13,q29 z30),(14,.i 0)] ?_
        exact (qLr k a0 a1 a2 z30 k) 0
      ·refine oS 118 (fun hb=>?_) (fun hb=>?_)
       ·let E72:Env:=[(119,q29 x2_2.1.f2),(118,.bool true),(0,w4 a0),(1,w4 a1),(7,.i (fW .i64 ((fW .u64 a2).tmod 4))),(13,q29 x2_2.1.f2),(118,.bool z29)]
        refine oH 3 (atN 1 (ctl1 g12p27)) E72 (mkH []) ?_
        refine oC (fun (x13_1:Raw)=>(q29 x13_1,(mkH []))) (atN 2 (ctl1 g12p27)) 120 (subRH (sz:=7) (some 1) none (by kernel_rfl)) fun x13_1 hx13_1=>?_
        refine oH 4 g12p28 ((13,q29 x13_1) :: (120,q29 x13_1) :: E72) (mkH []) ?_
        refine oK [0,1,7,13] [(0,w4 a0),(1,w4 a1),(7,.i (fW .i64 ((fW .u64 a2).tmod 4))),(13,q29 x13_1)] ?_
        exact hj30 x13_1
       ·refine oLH 4 g12p28 [(0,w4 a0),(1,w4 a1),(7,.i (fW .i64 ((fW .u64 a2).tmod 4))),(13,q29 x2_2.1.f2)] (mkH []) ?_
        exact hj30 x2_2.1.f2
     ·refine oS 114 (fun hb=>?_) (fun hb=>?_)
      ·refine oLH 5 g12p24 [(0,w4 a0),(1,w4 a1),(7,.i (fW .i64 ((fW .u64 a2).tmod 4))),(13,q29 x2_2.1.f2),(118,.bool (decide (0 < (x2_2.1.f2.n:Int))))] (mkH [⟨e29 x2_2.1,7,false⟩]) ?_
       refine qAa [] [⟨e29 x2_2.1,7,false⟩] (by kernel_rfl) rfl (by kernel_rfl) trivial ?_
       exact hj29 (decide (0 < (x2_2.1.f2.n:Int)))
      ·refine oLH 5 g12p24 [(0,w4 a0),(1,w4 a1),(7,.i (fW .i64 ((fW .u64 a2).tmod 4))),(13,q29 x2_2.1.f2),(118,.bool false)] (mkH [⟨e29 x2_2.1,7,false⟩]) ?_
       refine qAa [] [⟨e29 x2_2.1,7,false⟩] (by kernel_rfl) rfl (by kernel_rfl) trivial ?_
       exact hj29 false
   ·refine qD (fun hb10=>?_) (fun hb10=>?_)
    ·let E80:Env:=[(101,.bool (!decide (x2_2.2 = 0))),(100,.bool (!decide (x2_2.2 = 0))),(99,.i x2_2.2),(0,w4 a0),(1,w4 a1),(7,.i (fW .i64 ((fW .u64 a2).tmod 4))),(11,.ptr 0 7 0),(12,.i x2_2.2)]
     let E81:Env:=[(109,.bool true),(108,.tuple []),(107,.tuple []),(106,.tuple []),(105,.tuple []),(104,.tuple []),(103,.tuple []),(102,.tuple []),(101,.bool true),(100,.bool true),(99,.i x2_2.2),(0,w4 a0),(1,w4 a1),(7,.i (fW .i64 ((fW .u64 a2).tmod 4))),(11,.ptr 0 7 0),(12,.i x2_2.2)]
     refine oD (H':=(mkH [⟨e29 x2_2.1,7,false⟩])) (nav [0] g12p14) E81 [] g12d1 (oDr 3 3 E80 (oDe (fun z=>[(101,.bool z),(100,.bool z),(99,.i x2_2.2),(0,w4 a0),(1,w4 a1),(7,.i (fW .i64 ((fW .u64 a2).tmod 4))),(11,.ptr 0 7 0),(12,.i x2_2.2)]) hb10 (oDr 8 11 E81 .nil))) ?_
     refine oK [0,1,7,11,109] [(0,w4 a0),(1,w4 a1),(7,.i (fW .i64 ((fW .u64 a2).tmod 4))),(11,.ptr 0 7 0),(109,.bool true)] ?_
     exact hj24 true
    ·refine qA7 (fun x3_7 hx3_7=>?_)
     let E80:Env:=[(101,.bool (!decide (x2_2.2 = 0))),(100,.bool (!decide (x2_2.2 = 0))),(99,.i x2_2.2),(0,w4 a0),(1,w4 a1),(7,.i (fW .i64 ((fW .u64 a2).tmod 4))),(11,.ptr 0 7 0),(12,.i x2_2.2)]
     let E83:Env:=[(105,.i (fW .i64 ((fW .u64 a2).tmod 4))),(104,w3 g12c3),(103,.i x2_2.1.f0),(102,.ptr 0 7 0),(101,.bool false),(100,.bool false),(99,.i x2_2.2),(0,w4 a0),(1,w4 a1),(7,.i (fW .i64 ((fW .u64 a2).tmod 4))),(11,.ptr 0 7 0),(12,.i x2_2.2)]
     refine oD (H':=(mkH [⟨e29 x2_2.1,7,false⟩])) (nav [0] g12p14) ((109,.bool (!decide (x2_2.1.f0 = x3_7))) :: (108,.bool (!decide (x2_2.1.f0 = x3_7))) :: (107,.i x3_7) :: (106,.vptr [.i x3_7]) :: E83) [] g12d1 (oDr 3 3 E80 (oDe (fun z=>[(101,.bool z),(100,.bool z),(99,.i x2_2.2),(0,w4 a0),(1,w4 a1),(7,.i (fW .i64 ((fW .u64 a2).tmod 4))),(11,.ptr 0 7 0),(12,.i x2_2.2)]) hb10 (oDr 4 7 E83 (qA9 (l':=(opsAt g12p14).toList.drop 8) (eE:=((106,.vptr [.i x3_7]) :: E83)) (hs:=[]) (x:=x3_7) (fun (x3_7:Int)=>(.vptr [.i x3_7],(mkH [⟨e29 x2_2.1,7,false⟩]))) (vidxH (sz:=1) qL4 (by kernel_rfl)) hx3_7 (by kernel_rfl) (oDr 3 11 ((109,.bool (!decide (x2_2.1.f0 = x3_7))) :: (108,.bool (!decide (x2_2.1.f0 = x3_7))) :: (107,.i x3_7) :: (106,.vptr [.i x3_7]) :: E83) .nil))))) ?_
     refine oK [0,1,7,11,109] [(0,w4 a0),(1,w4 a1),(7,.i (fW .i64 ((fW .u64 a2).tmod 4))),(11,.ptr 0 7 0),(109,.bool (!decide (x2_2.1.f0 = x3_7)))] ?_
     exact hj24 (!decide (x2_2.1.f0 = x3_7))
def g12 (k:Nat) (a0:(List Bool)) (a1:(List Bool)) (a2:Int):Option Bool :=
 jn (fun (z21:Bool)=>if z21 then ((g16 k).bind fun x0_0=>some x0_0) else ((nthL g12c2 (fW .i64 ((fW .u64 a2).tmod 4))).bind fun x1_2=>qCp k a0 a1 a2 k x1_2 0)) (fun j21=>if (decide ((a0.length:Int) < 1)) then (j21 true) else (if (decide (6 < (a0.length:Int))) then (j21 true) else (j21 (decide ((a1.length:Int) < (a0.length:Int))))))
theorem g12_ok (k:Nat) (a0:(List Bool)) (a1:(List Bool)) (a2:Int) (r:Bool) (h:g12 k a0 a1 a2 = some r):PureOk Try.prog 12 [w4 a0,w4 a1,.i a2] (.bool r):=by
 refine qA5 Xg12 (fun _=>⟨rfl,rfl⟩) Try.func12 (by decide +kernel) (by kernel_rfl) (t:=g12 k a0 a1 a2) ?_ h
 unfold g12
 refine qA (eE:=[(0,w4 a0),(1,w4 a1),(2,.i a2)]) (by kernel_rfl) ?_
 let E1:Env:=[(20,.bool (decide ((a0.length:Int) < 1))),(19,.bool (decide ((a0.length:Int) < 1))),(18,.i (a0.length:Int)),(17,w4 a0),(6,.bool false),(0,w4 a0),(1,w4 a1),(2,.i a2)]
 refine oH 11 (atN 4 (ctl1 g12p1)) E1 (mkH []) ?_
 refine oJ g12p2 (fun (z21:Bool)=>[(0,w4 a0),(1,w4 a1),(2,.i a2),(31,.bool z21)]) (fun (z21:Bool)=>(mkH [])) (fun z21=>?_) (fun j21 hj21=>?_)
 ·refine oS 31 (fun hb=>?_) (fun hb=>?_)
  ·refine oH 3 (atN 0 (ctl1 g12p3)) [(31,.bool true),(0,w4 a0),(1,w4 a1),(2,.i a2),(31,.bool z21)] (mkH []) ?_
   refine oA (fun (x0_0:Bool) => .bool x0_0) (atN 1 (ctl1 g12p3)) 32 [] (g16_ok k ) fun x0_0 hx0_0=>?_
   exact oQ 3
  ·let E4:Env:=[(0,w4 a0),(1,w4 a1),(7,.i (fW .i64 ((fW .u64 a2).tmod 4)))]
   refine oLH 11 g12p6 E4 (mkH []) ?_
   refine oH 2 (atN 1 (ctl1 g12p6)) ((37,.slice 0 4 0 4 1) :: E4) (mkH [⟨[.str g12c0,.str g12c1,.str [102,117,110],.str [105,102,32]],0,false⟩]) ?_
   refine oZ 37 0 4 1 [.str g12c0,.str g12c1,.str [102,117,110],.str [105,102,32]] [0,1,7] [] trivial ?_
   refine oH 1 (atN 2 (ctl1 g12p6)) [(38,.i (fW .i64 ((fW .u64 a2).tmod 4))),(37,w9 g12c2),(0,w4 a0),(1,w4 a1),(7,.i (fW .i64 ((fW .u64 a2).tmod 4)))] (mkH [⟨[],0,false⟩]) ?_
   refine oC (fun (x1_2:(List Nat))=>(.vptr [.str x1_2],(mkH [⟨[],0,false⟩]))) (atN 3 (ctl1 g12p6)) 39 (vidxH (sz:=1) qD4 (by kernel_rfl)) fun x1_2 hx1_2=>?_
   refine oLH 10 g12p8 [(0,w4 a0),(1,w4 a1),(7,.i (fW .i64 ((fW .u64 a2).tmod 4))),(8,.str x1_2),(9,.i 0)] (mkH [⟨[],0,false⟩]) ?_
   refine qAa [] [⟨[],0,false⟩] (by kernel_rfl) rfl (by kernel_rfl) trivial ?_
   exact (qLs k a0 a1 a2 k) x1_2 0
 ·refine oS 20 (fun hb=>?_) (fun hb=>?_)
  ·refine oLH 12 g12p2 [(0,w4 a0),(1,w4 a1),(2,.i a2),(31,.bool true)] (mkH []) ?_
   exact hj21 true
  ·refine oH 5 (atN 9 (ctl1 g12p1)) ((25,.bool (decide (6 < (a0.length:Int)))) :: (24,.bool (decide (6 < (a0.length:Int)))) :: (23,.bool (decide (6 < (a0.length:Int)))) :: (22,.i (a0.length:Int)) :: (21,w4 a0) :: (20,.bool false) :: E1) (mkH []) ?_
   refine oS 25 (fun hb=>?_) (fun hb=>?_)
   ·refine oL 7 g12p2 [(0,w4 a0),(1,w4 a1),(2,.i a2),(31,.bool true)] ?_
    exact hj21 true
   ·refine oL 7 g12p2 [(0,w4 a0),(1,w4 a1),(2,.i a2),(31,.bool (decide ((a1.length:Int) < (a0.length:Int))))] ?_
    exact hj21 (decide ((a1.length:Int) < (a0.length:Int)))
end
theorem qJi:g16 400 = some true:=by kernel_rfl
theorem nthLc {l:List Bool} {i:Nat} {b:Bool} (h:l[i]? = some b):nthL l (i:Int) = some b:=by
 unfold nthL
 rw [if_pos (by omega),Int.toNat_natCast,h]
theorem qL3 {a0 a1:List Bool} {i:Nat} {b n:Bool} (h:(a0.zip a1)[i]? = some (b,n)):a0[i]? = some b ∧ a1[i]? = some n:=by
 rw [List.getElem?_zip_eq_some] at h
 exact h
theorem catC {a b:List Nat} (h:a.length + b.length < 100000):catS a b = some (a ++ b):=by
 unfold catS
 rw [if_pos (by omega)]
def hT (k j:Nat):List Nat:=match k with
 | 2=>[40] ++ ([97 + j] ++ [41])
 | 3=>[97 + j] ++ [32,62,32,49]
 | _=>[97 + j]
def gT (k:Nat) (g:Bool):List Nat:=match k,g with
 | 3,_=>[]
 | _,true=>g12c4
 | _,false=>[]
def nT (nl:Bool):List Nat:=if nl then [10] else []
def clT (k j:Nat) (g nl:Bool):List Nat:=hT k j ++ (gT k g ++ ([32,45,62] ++ (nT nl ++ [32,98,44,32,99])))
def ldT (k j:Nat):List Nat:=match k with
 | 2=>if j = 0 then [] else [32]
 | _=>[32]
theorem txt_cl {k:Nat} (hk:k < 4) (j:Nat) (g nl:Bool):txt (clP k j g nl) = ldT k j ++ clT k j g nl:=by
 match k,hk with
 | 0,_=>cases g <;> cases nl <;> rfl
 | 1,_=>cases g <;> cases nl <;> rfl
 | 2,_=>cases g <;> cases nl <;> rfl
 | 3,_=>cases g <;> cases nl <;> rfl
theorem ld_s {k:Nat} (hk:k < 4) (j:Nat):ldT k (j + 1) = [32]:=by
 match k,hk with
 | 0,_=>rfl
 | 1,_=>rfl
 | 2,_=>rfl
 | 3,_=>rfl
def restC (k:Nat) (g nl:Bool) (l:List (Bool × Bool)) (j:Nat):List Nat:=if j = 0 then clT k 0 g nl ++ txt (tlP k 1 l) else txt (tlP k j (l.drop (j - 1)))
theorem hT_len {k:Nat} (hk:k < 4) (j:Nat):(hT k j).length ≤ 5:=by
 match k,hk with
 | 0,_=>simp [hT]
 | 1,_=>simp [hT]
 | 2,_=>simp [hT]
 | 3,_=>simp [hT]
theorem gT_len {k:Nat} (hk:k < 4) (g:Bool):(gT k g).length ≤ 13:=by
 match k,hk with
 | 0,_=>cases g <;> decide
 | 1,_=>cases g <;> decide
 | 2,_=>cases g <;> decide
 | 3,_=>simp [gT]
theorem clN_dec {k:Nat} (hk:k < 4) (j:Nat) (g nl:Bool):d29 (e29 (clN k j g nl)) = some (clN k j g nl):=by
 match k,hk with
 | 0,_=>cases g <;> cases nl <;> show _ = _ <;> kernel_rfl
 | 1,_=>cases g <;> cases nl <;> show _ = _ <;> kernel_rfl
 | 2,_=>cases g <;> cases nl <;> show _ = _ <;> kernel_rfl
 | 3,_=>cases g <;> cases nl <;> show _ = _ <;> kernel_rfl
theorem nth2 {k:Nat} (hk:k < 4) (j:Nat) (g nl:Bool):nthR d29 7 (clN k j g nl).f2.n (clN k j g nl).f2.cells 2 = some (ndK 25 [] [litN [98],litN [99]] false):=by
 match k,hk with
 | 0,_=>cases g <;> cases nl <;> show _ = _ <;> kernel_rfl
 | 1,_=>cases g <;> cases nl <;> show _ = _ <;> kernel_rfl
 | 2,_=>cases g <;> cases nl <;> show _ = _ <;> kernel_rfl
 | 3,_=>cases g <;> cases nl <;> show _ = _ <;> kernel_rfl
theorem nth1 {k:Nat} (hk:k < 4) (j:Nat) (g nl:Bool):nthR d29 7 (clN k j g nl).f2.n (clN k j g nl).f2.cells 1 = some (gaN k j g):=by
 match k,hk with
 | 0,_=>cases g <;> cases nl <;> show _ = _ <;> kernel_rfl
 | 1,_=>cases g <;> cases nl <;> show _ = _ <;> kernel_rfl
 | 2,_=>cases g <;> cases nl <;> show _ = _ <;> kernel_rfl
 | 3,_=>cases g <;> cases nl <;> show _ = _ <;> kernel_rfl
theorem nth0 {k:Nat} (hk:k < 4) (j:Nat) (g nl:Bool):nthR d29 7 (clN k j g nl).f2.n (clN k j g nl).f2.cells 0 = some (arN k j):=by
 match k,hk with
 | 0,_=>cases g <;> cases nl <;> show _ = _ <;> kernel_rfl
 | 1,_=>cases g <;> cases nl <;> show _ = _ <;> kernel_rfl
 | 2,_=>cases g <;> cases nl <;> show _ = _ <;> kernel_rfl
 | 3,_=>cases g <;> cases nl <;> show _ = _ <;> kernel_rfl
theorem tl_get (k : Nat) : ∀ (l : List (Bool × Bool)) (j i : Nat) (g nl : Bool), l[i]? = some (g, nl) → (tlN k j l)[i]? = some (clN k (j + i) g nl)
 | [],j,i,g,nl,h=>by simp at h
 | (g0,nl0) :: r,j,0,g,nl,h=>by simp only [List.getElem?_cons_zero,Option.some.injEq] at h; cases h; rfl
 | (g0,nl0) :: r,j,i + 1,g,nl,h=>by
  rw [List.getElem?_cons_succ] at h
  show (clN k j g0 nl0 :: tlN k (j + 1) r)[i + 1]? = _
  rw [List.getElem?_cons_succ,tl_get k r (j + 1) i g nl h]
  rw [show j + 1 + i = j + (i + 1) by omega]
theorem cls_get {k:Nat} {g nl:Bool} {l:List (Bool × Bool)} {i:Nat} {b m:Bool} (h:((g,nl) :: l)[i]? = some (b,m)):(clsN k g nl l)[i]? = some (clN k i b m):=by
 cases i with
 | zero=>simp only [List.getElem?_cons_zero,Option.some.injEq] at h; cases h; rfl
 | succ i =>
  rw [List.getElem?_cons_succ] at h
  unfold clsN
  rw [List.getElem?_cons_succ,tl_get k l 1 i b m h,show 1 + i = i + 1 by omega]
def wantN (k:Nat) (b:Bool):Int:=if k = 3 then 1 else if b then 2 else 0
theorem ga_n {k:Nat} (hk:k < 4) (j:Nat) (b:Bool):((gaN k j b).f2.n:Int) = wantN k b:=by
 match k,hk with
 | 0,_=>cases b <;> rfl
 | 1,_=>cases b <;> rfl
 | 2,_=>cases b <;> rfl
 | 3,_=>rfl
theorem qP5 {a0 a1:List Bool} {a2:Int} {k:Nat} (hk:k < 4) (hkk:fW .i64 ((fW .u64 a2).tmod 4) = (k:Int)) {b0 n0:Bool} {l:List (Bool × Bool)} (hl:a0.length ≤ a1.length) (hz:a0.zip a1 = (b0,n0) :: l) (h6:a0.length ≤ 6):∀ (n j:Nat),a0.length - j < n → j ≤ a0.length → qC6 400 a0 a1 a2 ⟨(clsN k b0 n0 l).length,(clsN k b0 n0 l).flatMap e29⟩ n (j:Int) = some true:=by
 intro n
 induction n with
 | zero=>intro j h; omega
 | succ n ih =>
  intro j h hj
  have hzl:(a0.zip a1).length = a0.length:=by rw [List.length_zip]; omega
  have hll:l.length + 1 = a0.length:=by rw [← hzl,hz]; rfl
  have hcl:(clsN k b0 n0 l).length = a0.length:=by show (tlN k 1 l).length + 1 = _; rw [qDy]; exact hll
  rw [qOw,hkk]
  by_cases hl':j < a0.length
  ·obtain ⟨⟨b,m⟩,hbm⟩:∃ x,(a0.zip a1)[j]? = some x:=⟨_,List.getElem?_eq_getElem (by omega)⟩
   obtain ⟨h1,h2⟩:=qL3 hbm
   have hg:(clsN k b0 n0 l)[j]? = some (clN k j b m):=cls_get (by rw [← hz]; exact hbm)
   refine iT (dT (by show (j:Int) < ((clsN k b0 n0 l).length:Int); omega)) (bS (nthR_at _ j _ hg (clN_dec hk j b m)) ((jS (v:=(false,(j:Int))) (fun q=>?_)).trans (iF rfl (bS (nthLc h1) ((jS (v:=(if b then (2:Int) else 0,(j:Int))) (fun q=>?_)).trans ((jS (v:=(wantN k b,(j:Int))) (fun q=>?_)).trans (bS (nth1 hk j b m) (iF ?_ ?_))))))))
   ·refine iF rfl (iF rfl (bS (nthLc h2) (iF ?_ (bS (nth2 hk j b m) (iF rfl (bS (nth0 hk j b m) ?_))))))
    ·show (!(m == m)) = false
     simp
    ·match k,hk with
     | 0,_=>exact bS (a:=(1:Int)) rfl rfl
     | 1,_=>exact bS (a:=(1:Int)) rfl rfl
     | 2,_=>exact bS (a:=(1:Int)) rfl rfl
     | 3,_=>exact bS (a:=(0:Int)) rfl rfl
   ·cases b with
    | true=>exact iT rfl rfl
    | false=>exact iF rfl rfl
   ·match k,hk with
    | 0,_=>exact iF rfl rfl
    | 1,_=>exact iF rfl rfl
    | 2,_=>exact iF rfl rfl
    | 3,_=>exact iT rfl rfl
   ·show (!decide (((gaN k j b).f2.n:Int) = wantN k b)) = false
    rw [ga_n hk]; simp
   ·show qC6 400 a0 a1 a2 _ n (fW .i64 ((j:Int) + 1)) = _
    rw [fw_s (by omega)]
    exact ih (j + 1) (by omega) hl'
  ·exact iF (dF (by show ¬ (j:Int) < ((clsN k b0 n0 l).length:Int); omega)) (bS qJi rfl)
theorem drop1 (x:S28) (l:List S28) (h:l.length < 1000):subR 7 ⟨(x :: l).length,(x :: l).flatMap e29⟩ (some 1) none = some ⟨l.length,l.flatMap e29⟩:=by
 have e1:bnd none (x :: l).length (x :: l).length = some (x :: l).length:=by unfold bnd; simp
 have e2:bnd (some 1) (x :: l).length 0 = some 1:=by unfold bnd; simp; omega
 unfold subR
 simp only [e1,e2]
 have hf:∀ l:List S28,(l.flatMap e29).length = l.length * 7:=by
  intro l
  induction l with
  | nil=>rfl
  | cons y l ih=>rw [List.flatMap_cons,List.length_append,ih,e_len7,List.length_cons]; omega
 have hd:((x :: l).flatMap e29).drop (1 * 7) = l.flatMap e29:=by
  rw [List.flatMap_cons,show 1 * 7 = (e29 x).length from rfl,List.drop_left]
 rw [hd,List.length_cons,Nat.add_sub_cancel,List.take_of_length_le (by rw [hf]; exact Nat.le_refl _)]
theorem qDu {a0 a1:List Bool} {a2:Int} {k:Nat} (hk:k < 4) (hkk:fW .i64 ((fW .u64 a2).tmod 4) = (k:Int)) {b0 n0:Bool} {l:List (Bool × Bool)} (hl:a0.length ≤ a1.length) (hz:a0.zip a1 = (b0,n0) :: l) (h6:a0.length ≤ 6):∀ (n j:Nat) (pre:List Nat),a0.length - j < n → j ≤ a0.length → pre ++ restC k b0 n0 l j = txt (clAll k b0 n0 l) → qCp 400 a0 a1 a2 n pre (j:Int) = some true:=by
 have hzl:(a0.zip a1).length = a0.length:=by rw [List.length_zip]; omega
 have hll:l.length + 1 = a0.length:=by rw [← hzl,hz]; rfl
 have hTl:(txt (clAll k b0 n0 l)).length ≤ 200:=(qPi hk (by omega)).2.1
 intro n
 induction n with
 | zero=>intro j pre h; omega
 | succ n ih =>
  intro j pre h hj hp
  have hpl:pre.length ≤ 200:=by rw [← hp,List.length_append] at hTl; omega
  rw [qOx,hkk]
  by_cases hl':j < a0.length
  ·obtain ⟨⟨b,m⟩,hbm⟩:∃ x,(a0.zip a1)[j]? = some x:=⟨_,List.getElem?_eq_getElem (by omega)⟩
   obtain ⟨h1,h2⟩:=qL3 hbm
   have hitem:restC k b0 n0 l j = (if 0 < j then [59,32] else []) ++ (clT k j b m ++ restC k b0 n0 l (j + 1)):=by
    cases j with
    | zero =>
     rw [hz] at hbm
     simp only [List.getElem?_cons_zero,Option.some.injEq] at hbm
     cases hbm
     rfl
    | succ j =>
     rw [hz,List.getElem?_cons_succ] at hbm
     have hd:l.drop j = (b,m) :: l.drop (j + 1):=by
      have hlt:=(List.getElem?_eq_some_iff.1 hbm).1
      rw [List.drop_eq_getElem_cons hlt]
      congr 1
      exact (List.getElem?_eq_some_iff.1 hbm).2
     have hA:restC k b0 n0 l (j + 1) = txt (tlP k (j + 1) (l.drop j)):=rfl
     have hB:restC k b0 n0 l (j + 1 + 1) = txt (tlP k (j + 2) (l.drop (j + 1))):=rfl
     rw [hA,hB,hd,if_pos (Nat.succ_pos j)]
     show [59] ++ txt (clP k (j + 1) b m ++ tlP k (j + 2) (l.drop (j + 1))) = _
     rw [qD9,txt_cl hk,ld_s hk]
     simp
   have g1:=hT_len hk j
   have g2:=gT_len hk b
   refine iT (dT (by omega)) ((jS (v:=(pre ++ (if 0 < j then [59,32] else []),(j:Int))) (fun q=>?_)).trans (bS (letter_j (by omega)) ?_))
   ·by_cases h0:0 < j
    ·rw [if_pos h0]; exact iT (dT (by omega)) (bS (catC (by simp only [List.length_cons,List.length_nil]; omega)) rfl)
    ·rw [if_neg h0,List.append_nil]; exact iF (dF (by omega)) rfl
   have hl1:(pre ++ (if 0 < j then [59,32] else [])).length ≤ 202:=by rw [List.length_append]; split <;> simp only [List.length_cons,List.length_nil] <;> omega
   generalize hp1:pre ++ (if 0 < j then [59,32] else []) = p1 at hl1 ⊢
   refine (jS (v:=(p1 ++ hT k j,(j:Int))) (fun q=>?_)).trans ?_
   ·match k,hk with
    | 0,_=>exact iF rfl (iF rfl (bS (catC (by simp only [List.length_cons,List.length_nil]; omega)) rfl))
    | 1,_=>exact iF rfl (iF rfl (bS (catC (by simp only [List.length_cons,List.length_nil]; omega)) rfl))
    | 2,_=>exact iT rfl (bS (catC (by simp only [List.length_cons,List.length_nil]; omega)) (bS (catC (by simp only [List.length_append,List.length_cons,List.length_nil]; omega)) (bS (catC (by simp only [List.length_append,List.length_cons,List.length_nil]; omega)) (congrArg (fun t=>q (t,(j:Int))) (by simp [hT])))))
    | 3,_=>exact iF rfl (iT rfl (bS (catC (by simp only [List.length_cons,List.length_nil]; omega)) (bS (catC (by simp only [List.length_append,List.length_cons,List.length_nil]; omega)) (congrArg (fun t=>q (t,(j:Int))) (by simp [hT])))))
   have hl2:(p1 ++ hT k j).length ≤ 207:=by rw [List.length_append]; omega
   generalize hp2:p1 ++ hT k j = p2 at hl2 ⊢
   refine bS (nthLc h1) ((jS (v:=(b && decide (k < 3),(j:Int))) (fun q=>?_)).trans ((jS (v:=(p2 ++ gT k b,(j:Int))) (fun q=>?_)).trans ?_))
   ·cases b with
    | true=>exact iT rfl (by match k,hk with
     | 0,_=>rfl
     | 1,_=>rfl
     | 2,_=>rfl
     | 3,_=>rfl)
    | false=>exact iF rfl rfl
   ·have hc4:g12c4.length = 13:=rfl
    match k,hk with
    | 0,_=>cases b with
     | true=>exact iT rfl (bS (catC (by show p2.length + g12c4.length < 100000; omega)) rfl)
     | false=>exact iF rfl (congrArg (fun t=>q (t,(j:Int))) (List.append_nil _).symm)
    | 1,_=>cases b with
     | true=>exact iT rfl (bS (catC (by show p2.length + g12c4.length < 100000; omega)) rfl)
     | false=>exact iF rfl (congrArg (fun t=>q (t,(j:Int))) (List.append_nil _).symm)
    | 2,_=>cases b with
     | true=>exact iT rfl (bS (catC (by show p2.length + g12c4.length < 100000; omega)) rfl)
     | false=>exact iF rfl (congrArg (fun t=>q (t,(j:Int))) (List.append_nil _).symm)
    | 3,_=>cases b with
     | true=>exact iF rfl (congrArg (fun t=>q (t,(j:Int))) (List.append_nil _).symm)
     | false=>exact iF rfl (congrArg (fun t=>q (t,(j:Int))) (List.append_nil _).symm)
   have hl3:(p2 ++ gT k b).length ≤ 220:=by rw [List.length_append]; omega
   generalize hp3:p2 ++ gT k b = p3 at hl3 ⊢
   refine bS (catC (by simp only [List.length_cons,List.length_nil]; omega)) (bS (nthLc h2) ((jS (v:=(p3 ++ [32,45,62] ++ nT m,(j:Int))) (fun q=>?_)).trans ?_))
   ·cases m with
    | true=>exact iT rfl (bS (catC (by simp only [List.length_append,List.length_cons,List.length_nil]; omega)) rfl)
    | false=>exact iF rfl (congrArg (fun t=>q (t,(j:Int))) (List.append_nil _).symm)
   have hl4:(p3 ++ [32,45,62] ++ nT m).length ≤ 224:=by rw [List.length_append,List.length_append]; cases m <;> simp only [nT,List.length_cons,List.length_nil,if_true,if_false,Bool.false_eq_true] <;> omega
   refine bS (catC (by simp only [List.length_cons,List.length_nil] at hl4 ⊢; omega)) ?_
   show qCp 400 a0 a1 a2 n _ (fW .i64 ((j:Int) + 1)) = _
   rw [fw_s (by omega)]
   refine ih (j + 1) _ (by omega) hl' ?_
   rw [← hp,hitem,← hp3,← hp2,← hp1]
   simp [clT]
  ·obtain rfl:j = a0.length:=by omega
   have hr0:restC k b0 n0 l a0.length = [32,101,110,100]:=by
    unfold restC
    rw [if_neg (by omega),List.drop_eq_nil_of_le (by omega)]
    rfl
   rw [hr0] at hp
   have hcl:(clsN k b0 n0 l).length = a0.length:=by show (tlN k 1 l).length + 1 = _; rw [qDy]; exact hll
   refine iF (dF (by omega)) (bS (catC (by simp only [List.length_cons,List.length_nil]; omega)) ?_)
   rw [hp]
   refine bS (qGn hk (by omega)) ((jS (v:=false) (fun q=>?_)).trans (iF rfl ((jS (v:=decide (k = 0)) (fun q=>?_)).trans ((jS (v:=⟨(clsN k b0 n0 l).length,(clsN k b0 n0 l).flatMap e29⟩) (fun q=>?_)).trans (iF ?_ (qP5 hk hkk hl hz h6 400 0 (by omega) (by omega)))))))
   ·refine iF rfl ?_
    match k,hk with
    | 0,_=>exact bS (a:=(18:Int)) rfl rfl
    | 1,_=>exact bS (a:=(20:Int)) rfl rfl
    | 2,_=>exact bS (a:=(17:Int)) rfl rfl
    | 3,_=>exact bS (a:=(19:Int)) rfl rfl
   ·match k,hk with
    | 0,_=>exact iT rfl (congrArg q (dT (by show (0:Int) < (((clsN 0 b0 n0 l).length + 1:Nat):Int); omega)))
    | 1,_=>exact iF rfl rfl
    | 2,_=>exact iF rfl rfl
    | 3,_=>exact iF rfl rfl
   ·match k,hk with
    | 0,_=>exact iT rfl (bS (drop1 _ _ (by omega)) rfl)
    | 1,_=>exact iF rfl rfl
    | 2,_=>exact iF rfl rfl
    | 3,_=>exact iF rfl rfl
   ·show (!decide (((clsN k b0 n0 l).length:Int) = (a0.length:Int))) = false
    rw [hcl]; simp
theorem qD5 {k:Nat} (hk:k < 4) {s:List Nat} (hs:s = txt (opP k) ++ ldT k 0) (b0 n0:Bool) (l:List (Bool × Bool)):s ++ restC k b0 n0 l 0 = txt (clAll k b0 n0 l):=by
 have e:restC k b0 n0 l 0 = clT k 0 b0 n0 ++ txt (tlP k 1 l):=rfl
 rw [e,hs]
 unfold clAll
 rw [qD9,qD9,txt_cl hk]
 simp
theorem qDf (a0 a1:List Bool) (a2:Int) (w0:∀ x ∈ a0,True) (l0:a0.length ≤ 9223372036854775807) (w1:∀ x ∈ a1,True) (l1:a1.length ≤ 9223372036854775807):∃ k,g12 k a0 a1 a2 = some true:=by
 refine ⟨400,?_⟩
 obtain ⟨k,hk,e,-⟩:=tmod_at a2 4 (by decide) (by decide)
 have hkk:fW .i64 ((fW .u64 a2).tmod 4) = (k:Int):=by
  have e:(fW .u64 a2).tmod 4 = (k:Int):=e
  rw [e,fwI (by omega) (by omega)]
 unfold g12
 by_cases h1:(a0.length:Int) < 1
 ·exact (jS (v:=true) (fun q=>iT (dT h1) rfl)).trans (iT rfl (bS qJi rfl))
 by_cases h2:6 < (a0.length:Int)
 ·exact (jS (v:=true) (fun q=>iF (dF h1) (iT (dT h2) rfl))).trans (iT rfl (bS qJi rfl))
 by_cases h3:(a1.length:Int) < (a0.length:Int)
 ·exact (jS (v:=true) (fun q=>iF (dF h1) (iF (dF h2) (by rw [dT h3])))).trans (iT rfl (bS qJi rfl))
 refine (jS (v:=false) (fun q=>iF (dF h1) (iF (dF h2) (by rw [dF h3])))).trans (iF rfl ?_)
 obtain ⟨⟨b0,n0⟩,l,hz⟩:∃ x l,a0.zip a1 = x :: l:=by
  cases e:a0.zip a1 with
  | nil =>
   have:=congrArg List.length e
   rw [List.length_zip,List.length_nil] at this
   omega
  | cons x l=>exact ⟨x,l,rfl⟩
 rw [hkk]
 match k,hk,hkk with
 | 0,hk,hkk=>exact bS (a:=g12c0) rfl (qDu hk hkk (by omega) hz (by omega) 400 0 _ (by omega) (by omega) (qD5 hk rfl b0 n0 l))
 | 1,hk,hkk=>exact bS (a:=g12c1) rfl (qDu hk hkk (by omega) hz (by omega) 400 0 _ (by omega) (by omega) (qD5 hk rfl b0 n0 l))
 | 2,hk,hkk=>exact bS (a:=[102,117,110]) rfl (qDu hk hkk (by omega) hz (by omega) 400 0 _ (by omega) (by omega) (qD5 hk rfl b0 n0 l))
 | 3,hk,hkk=>exact bS (a:=[105,102,32]) rfl (qDu hk hkk (by omega) hz (by omega) 400 0 _ (by omega) (by omega) (qD5 hk rfl b0 n0 l))
end Go.Proofs.Ythpplbkobokghaa.Am
set_option linter.unusedVariables false
namespace Go.Proofs.Ythpplbkobokghaa.Am
open Go Go.ChangeShapes Go.WideShapes
def mpOf (fz:List (Nat × List AV)):Mp:=⟨fun _ _=>none,fun i=>fz[i]?⟩
theorem qIa {P : Program} {n : Nat} {xs : List AV} {args : Array Value} (h : PureOk P n xs (.bool true)) (w : World) (fz : List (Nat × List AV)) (hargs : VRs (mpOf fz) xs args.toList)
 (hfz:∀ p ∈ fz,∃ cs ty fr,w.heap[p.1]? = some (.cells cs ty fr) ∧ p.2.length ≤ cs.size ∧ VRs (mpOf fz) p.2 (cs.toList.take p.2.length)) :
 Calls P n args w fun e W'=>e = .returned (.bool true) ∧ RowKit.Below w.heap.size w W':=by
 refine Calls.mono (h.1 (mpOf fz) w args (fun _ _=>rfl) hargs ?_) ?_
 ·refine ⟨?_,?_,?_,fun _ _=>rfl,?_,?_,?_,⟨fz.length,fun i hi=>List.getElem?_eq_none hi⟩,Nat.le_refl _,by show 0 ≤ roots; unfold roots; omega⟩
  ·intro r b v B N hb hm; cases hm
  ·intro r v B N hm; cases hm
  ·intro r v B N r' v' N' hm; cases hm
  ·intro r v B N hm; cases hm
  ·intro i B cells hi
   exact hfz (B,cells) (List.mem_of_getElem? hi)
  ·intro i B cells r v N b _ hm; cases hm
 ·rintro e w' ⟨m',c,rfl,q1,q2,q3⟩
  simp only [VR] at q3
  exact ⟨by rw [q3],q2.below (Nat.le_refl _)⟩
theorem qPl {m : Mp} : ∀ {xs : List AV} {cs : List Value}, xs.length = cs.length → (∀ (i : Nat) x c, xs[i]? = some x → cs[i]? = some c → VR m x c) → VRs m xs cs
 | [],[],_,_=>by simp only [VRs]
 | [],_ :: _,h,_=>by cases h
 | _ :: _,[],h,_=>by cases h
 | x :: xs,c :: cs,h,k=>by
  simp only [VRs]
  exact ⟨c,cs,rfl,k 0 x c rfl rfl,qPl (by simpa using h) (fun i x' c' hx hc=>k (i + 1) x' c' (by simpa using hx) (by simpa using hc))⟩
theorem qGo {w:World} {x:Addr} {i:Nat} {v:Value} (h:w.cell? (x.add i) = some v):∃ cs ty fr,w.heap[x.block]? = some (.cells cs ty fr) ∧ cs[x.off + i]? = some v ∧ (i = 0 → x.spot = none):=by
 have hb:(x.add i).block = x.block:=by unfold Addr.add; split <;> rfl
 have ho:(x.add i).off = x.off + i:=by unfold Addr.add; split <;> simp_all
 have hs:i = 0 → (x.add i).spot = x.spot:=by intro e; subst e; rfl
 unfold World.cell? at h
 rw [hb,ho] at h
 cases hw:w.heap[x.block]? with
 | none=>rw [hw] at h; cases h
 | some o =>
  rw [hw] at h
  cases o with
  | cells cs ty fr =>
   simp only [] at h
   cases hsp:(x.add i).spot with
   | none=>rw [hsp] at h; exact ⟨cs,ty,fr,rfl,by simpa using h,fun e=>by rw [← hs e,hsp]⟩
   | some q=>rw [hsp] at h; simp at h
  | _=>simp at h
section
variable {H:Type} {enc:TypeId × Value → H} {P:Program} {w:World} {base:Nat} {held:Bool}
end
end Go.Proofs.Ythpplbkobokghaa.Am
set_option linter.unusedVariables false
namespace Go.Proofs.Ythpplbkobokghaa.Am
open Go Go.ChangeShapes Go.WideShapes
def IsRowG (n:Nat) (w:World) (a:Option Addr) (len cap:Nat) (av:List AV):Prop :=
 (a = none ∧ len = 0 ∧ cap = 0 ∧ av = []) ∨
 ∃ x,a = some x ∧ len ≤ cap ∧ av.length = len * n ∧ ∀ i v,av[i]? = some v → ∃ c,w.cell? (x.add i) = some c ∧ ∀ m,VR m v c
def frozOfG (a:Option Addr) (av:List AV):Nat × List AV:=match a with
 | none=>(0,[])
 | some x=>(x.block,List.replicate x.off .top ++ av)
theorem qGy {n : Nat} {w : World} {a : Option Addr} {len cap : Nat} {av : List AV} (h : IsRowG n w a len cap av) (hne : av ≠ []) (fz : List (Nat × List AV)) :
 ∃ cs ty fr,w.heap[(frozOfG a av).1]? = some (.cells cs ty fr) ∧ (frozOfG a av).2.length ≤ cs.size ∧ VRs (mpOf fz) (frozOfG a av).2 (cs.toList.take (frozOfG a av).2.length):=by
 rcases h with ⟨_,_,_,rfl⟩ | ⟨x,rfl,hl,hz,hc⟩
 ·exact absurd rfl hne
 ·have hpos:0 < av.length:=List.length_pos_iff.2 hne
  obtain ⟨c0,h1,-⟩:=hc (av.length - 1) _ (List.getElem?_eq_getElem (by omega))
  obtain ⟨cs,ty,fr,hb,h0,-⟩:=qGo h1
  have hsz:x.off + (av.length - 1) < cs.size:=by
   rcases Nat.lt_or_ge (x.off + (av.length - 1)) cs.size with h | h
   ·exact h
   ·rw [Array.getElem?_eq_none h] at h0; cases h0
  refine ⟨cs,ty,fr,hb,by simp only [frozOfG,List.length_append,List.length_replicate]; omega,?_⟩
  refine qPl (by simp only [frozOfG,List.length_append,List.length_replicate,List.length_take,Array.length_toList]; omega) ?_
  intro i v c hv hcv
  simp only [frozOfG] at hv hcv
  by_cases hi:i < x.off
  ·rw [List.getElem?_append_left (by simpa using hi)] at hv
   rw [List.getElem?_replicate,if_pos hi] at hv
   cases hv
   simp only [VR]
  ·rw [List.getElem?_append_right (by simpa using Nat.le_of_not_lt hi),List.length_replicate] at hv
   have hlt:i - x.off < av.length:=(List.getElem?_eq_some_iff.1 hv).1
   obtain ⟨c',h2,h3⟩:=hc (i - x.off) v hv
   obtain ⟨cs',ty',fr',hb',h4,-⟩:=qGo h2
   rw [hb] at hb'
   cases hb'
   rw [show x.off + (i - x.off) = i from by omega] at h4
   rw [List.getElem?_take_of_lt (by simp only [List.length_append,List.length_replicate]; omega),Array.getElem?_toList,h4] at hcv
   cases hcv
   exact h3 _
theorem qJl {n:Nat} {w:World} {a:Option Addr} {len cap:Nat} {av:List AV} (h:IsRowG n w a len cap av):av.length = len * n:=by
 rcases h with ⟨_,rfl,_,rfl⟩ | ⟨x,_,_,hz,_⟩
 ·simp
 ·exact hz
theorem qMk {n:Nat} {w:World} {a:Option Addr} {len cap:Nat} {av:List AV} (h:IsRowG n w a len cap av) (hn:0 < n) (fz:List (Nat × List AV)) (id:Nat) (hid:av ≠ [] → fz[id]? = some (frozOfG a av)):VR (mpOf fz) (.vec len n av) (.slice a len cap):=by
 simp only [VR]
 refine ⟨qJl h,a,cap,rfl,?_,?_,?_⟩
 ·rcases h with ⟨_,rfl,rfl,rfl⟩ | ⟨x,_,hl,hz,_⟩
  ·exact Nat.le_refl _
  ·exact hl
 ·intro ha
  rcases h with ⟨_,rfl,rfl,rfl⟩ | ⟨x,hx,_,_,_⟩
  ·exact ⟨rfl,rfl⟩
  ·rw [hx] at ha; cases ha
 ·intro hpos
  have hp2:0 < av.length:=by rw [qJl h]; exact Nat.mul_pos hpos hn
  have hne:av ≠ []:=List.length_pos_iff.1 hp2
  have hf:=hid hne
  rcases h with ⟨_,_,_,rfl⟩ | ⟨x,rfl,hl,hz,hc⟩
  ·exact absurd rfl hne
  ·obtain ⟨c,h1,-⟩:=hc 0 _ (List.getElem?_eq_getElem hp2)
   obtain ⟨cs,ty,fr,hb,h0,hsp⟩:=qGo h1
   have hspot:=hsp rfl
   refine ⟨id,x.block,x.off,_,hf,?_,?_,?_⟩
   ·cases x; simp only at hspot; rw [hspot]
   ·rw [List.drop_append_of_le_length (by simp),List.drop_of_length_le (by simp),List.nil_append]
    exact List.take_of_length_le (by omega)
   ·simp; omega
def fzOfG (a:Option Addr) (av:List AV):List (Nat × List AV):=if av = [] then [] else [frozOfG a av]
theorem qHr {a:Option Addr} {av:List AV} {p:Nat × List AV} (h:p ∈ fzOfG a av):av ≠ [] ∧ p = frozOfG a av:=by
 unfold fzOfG at h
 split at h
 ·cases h
 ·exact ⟨by assumption,List.mem_singleton.1 h⟩
theorem qHs {a:Option Addr} {av:List AV} (A B:List (Nat × List AV)) (h:av ≠ []):(A ++ (fzOfG a av ++ B))[A.length]? = some (frozOfG a av):=by
 unfold fzOfG
 rw [if_neg h]
 simp
theorem add_add' (x:Addr) (i j:Nat):(x.add i).add j = x.add (i + j):=by
 unfold Addr.add
 by_cases hi:i = 0
 ·subst hi; simp
 ·by_cases hj:j = 0
  ·subst hj; simp
  ·simp [hi,hj,Nat.add_assoc]
theorem qJg {m : Mp} : ∀ {xs : List AV} {cs : List Value}, VRs m xs cs → xs.length = cs.length ∧ ∀ (i : Nat) x, xs[i]? = some x → ∃ c, cs[i]? = some c ∧ VR m x c
 | [],cs,h=>by
  simp only [VRs] at h; subst h
  exact ⟨rfl,fun i x hx=>by simp at hx⟩
 | x :: xs,cs,h=>by
  simp only [VRs] at h
  obtain ⟨y,ys,rfl,h1,h2⟩:=h
  obtain ⟨q1,q2⟩:=qJg h2
  refine ⟨by simp [q1],fun i z hz=>?_⟩
  cases i with
  | zero=>simp at hz; subst hz; exact ⟨y,rfl,h1⟩
  | succ i=>simpa using q2 i z (by simpa using hz)
section
variable {H:Type} {enc:TypeId × Value → H} {P:Program} {w:World} {base:Nat} {held:Bool}
theorem rowG_open {α : Type} {Q : α → Prop} {en : α → List AV} {n : Nat} {t e : TypeId} {a : Option Addr} {len cap : Nat} {d : DataW H} {ps : List MemPlace} (ht : P.underlying t = some (.slice e)) (hc : P.cellsOf e = n) (hlen : ∀ x, (en x).length = n)
 (hel:∀ fuel cs y,DataW.trod enc P w base (fun _=>true) held fuel e cs = some y → ∃ x,Q x ∧ ∀ m,VRs m (en x) cs)
 (h:DataW.Trod enc P w base (fun _=>true) held t (.slice a len cap) d ps):∃ L:List α,IsRowG n w a len cap (L.flatMap en) ∧ L.length = len ∧ (∀ x ∈ L,Q x) ∧ len ≤ maxLen:=by
 obtain ⟨fuel,hf⟩:=h
 rcases DataW.trod_slice ht hf with ⟨hcs,_⟩ | ⟨x,l,c,elems,rest,q,_,hcs,_,hb,hl,hm,hlq,hel',_,_⟩
 ·simp [Value.cells] at hcs
  obtain ⟨rfl,rfl,rfl⟩:=hcs
  exact ⟨[],.inl ⟨rfl,rfl,rfl,rfl⟩,rfl,(fun x hx=>by cases hx),Nat.zero_le _⟩
 ·simp [Value.cells] at hcs
  obtain ⟨rfl,rfl,rfl⟩:=hcs
  have each:∀ i,i < len → ∃ y,Q y ∧ ∃ cs,w.cells? base (x.add (i * n)) n = some cs ∧ ∀ m,VRs m (en y) cs:=by
   intro i hi
   have h1:=hel' i hi
   rw [List.getElem?_eq_getElem (by omega),hc,Option.bind_eq_some_iff] at h1
   obtain ⟨cs,h2,h3⟩:=h1
   obtain ⟨y,h4,h5⟩:=hel _ _ _ h3
   exact ⟨y,h4,cs,h2,h5⟩
  have build:∀ k,k ≤ len → ∃ L:List α,L.length = k ∧ (∀ y ∈ L,Q y) ∧ ∀ i v,(L.flatMap en)[i]? = some v → ∃ c,w.cell? (x.add i) = some c ∧ ∀ m,VR m v c:=by
   intro k
   induction k with
   | zero=>intro _; exact ⟨[],rfl,(fun y hy=>by cases hy),(fun i v hv=>by simp at hv)⟩
   | succ k ih =>
    intro hk
    obtain ⟨L,h1,h2,h3⟩:=ih (by omega)
    obtain ⟨y,h4,cs,h5,h6⟩:=each k (by omega)
    refine ⟨L ++ [y],by simp [h1],?_,?_⟩
    ·intro z hz
     rcases List.mem_append.1 hz with hz | hz
     ·exact h2 z hz
     ·rw [List.mem_singleton.1 hz]; exact h4
    ·intro i v hv
     have fl:(L.flatMap en).length = k * n:=by rw [qAo hlen,h1]
     rw [List.flatMap_append] at hv
     by_cases hi:i < k * n
     ·rw [List.getElem?_append_left (by omega)] at hv
      exact h3 i v hv
     ·rw [List.getElem?_append_right (by omega),fl] at hv
      simp only [List.flatMap_cons,List.flatMap_nil,List.append_nil] at hv
      obtain ⟨g1,g2⟩:=qJg (h6 ⟨fun _ _=>none,fun _=>none⟩)
      obtain ⟨c,g3,-⟩:=g2 _ _ hv
      refine ⟨c,?_,fun m=>?_⟩
      ·have g4:=World.cells?_some h5
       have hlt:i - k * n < n:=by
        have:=(List.getElem?_eq_some_iff.1 hv).1
        rw [hlen] at this; exact this
       have g5:=g4.2.2 (i - k * n) hlt
       rw [g3] at g5
       rw [← g5]
       rw [add_add',show k * n + (i - k * n) = i by omega]
      ·obtain ⟨c',g6,g7⟩:=(qJg (h6 m)).2 _ _ hv
       rw [g3] at g6
       cases g6
       exact g7
  obtain ⟨L,h1,h2,h3⟩:=build len (Nat.le_refl _)
  exact ⟨L,.inr ⟨_,rfl,hl,by rw [qAo hlen,h1],h3⟩,h1,h2,by omega⟩
end
theorem qPk (m:Mp):VRs m [] []:=by simp only [VRs]
theorem qDw {m:Mp} {x:AV} {y:Value} {xs:List AV} {ys:List Value} (h:VR m x y) (k:VRs m xs ys):VRs m (x :: xs) (y :: ys):=by simp only [VRs]; exact ⟨y,ys,rfl,h,k⟩
theorem VR_int (m:Mp) (k:IntKind) (n:Int):VR m (.int k n) (.int k n):=by simp only [VR]
theorem VR_bool (m:Mp) (b:Bool):VR m (.bool b) (.bool b):=by simp only [VR]
end Go.Proofs.Ythpplbkobokghaa.Am
set_option linter.unusedVariables false
set_option linter.unusedSimpArgs false
namespace Go.Proofs.Ythpplbkobokghaa.Am
open Go Go.ChangeShapes Go.WideShapes
theorem opn4 {H:Type} {enc:TypeId × Value → H} {w:World} {base:Nat} {sp:Nat → Bool} {held:Bool} {fuel:Nat} {cs:List Value} {y:DataW H × List MemPlace} (h:DataW.trod enc Try.prog w base sp held fuel 4 cs = some y):∃ x:Bool,(True) ∧ ∀ m,VRs m (e4 x) cs:=by
 obtain ⟨n0,rfl,-⟩:=DataW.trod_bool Try.underlying4 h
 exact ⟨n0,trivial,fun m=>qDw (VR_bool m n0) (qPk m)⟩
theorem parseClauses_walk (v0:Option Addr) (len0 cap0:Nat) (z0:List Bool) (v1:Option Addr) (len1 cap1:Nat) (z1:List Bool) (a2:Int) (W:World) (w0:IsRowG 1 W v0 len0 cap0 (z0.flatMap e4)) (l0:z0.length = len0) (q0:∀ x ∈ z0,True) (y0:len0 ≤ maxLen) (w1:IsRowG 1 W v1 len1 cap1 (z1.flatMap e4)) (l1:z1.length = len1) (q1:∀ x ∈ z1,True) (y1:len1 ≤ maxLen) (w2:(Lit.int .i64 a2).wf = true):Calls Try.prog 12 #[.slice v0 len0 cap0,.slice v1 len1 cap1,.int .i64 a2] W fun e W'=>e = .returned (.bool true) ∧ RowKit.Below W.heap.size W W':=by
 obtain ⟨k,h⟩:=qDf z0 z1 a2 q0 (by rw [l0]; simpa [maxLen] using y0) q1 (by rw [l1]; simpa [maxLen] using y1)
 refine qIa (g12_ok k z0 z1 a2 true h) W (fzOfG v0 (z0.flatMap e4) ++ (fzOfG v1 (z1.flatMap e4) ++ [])) ?_ ?_
 ·exact qDw ((by cases l0; exact qMk w0 (by decide) _ (([]:List (Nat × List AV))).length (fun h=>qHs (([]:List (Nat × List AV))) _ h))) (qDw ((by cases l1; exact qMk w1 (by decide) _ ((fzOfG v0 (z0.flatMap e4))).length (fun h=>qHs ((fzOfG v0 (z0.flatMap e4))) _ h))) (qDw (VR_int _ .i64 a2) (qPk _)))
 intro p hp
 rcases List.mem_append.1 hp with hp | hp
 ·obtain ⟨hne,rfl⟩:=qHr hp
  exact qGy w0 hne _
 rcases List.mem_append.1 hp with hp | hp
 ·obtain ⟨hne,rfl⟩:=qHr hp
  exact qGy w1 hne _
 cases hp
end Go.Proofs.Ythpplbkobokghaa.Am
namespace Go.Proofs.Ythpplbkobokghaa.parseClauses
open Go.ChangeShapes Go.WideShapes Go.ChangeAt Go.RowKit
open Go.ChangeMaps (open_string shut_string)
set_option linter.unusedVariables false
theorem laidOut:laidOutB Try.prog = true:=by kernel_rfl
theorem own:ownKnob Try.prog.godebug = none:=by kernel_rfl
set_option maxRecDepth 100000 in
theorem lifted (os : Os) (started : os.Started) (H : Type) (enc : TypeId × Value → H) :
 ReturnsInHanded {} Try.checked os 12 .any (Rows.parseClausesSpec.pre6 enc Try.prog Try.f12 Rows.parseClausesRow.domain false) (Rows.parseClausesSpec.post enc Try.prog Try.f12 false true false false):=by
 refine returnsInHanded_of_change_sized (C := Try.checked) own started (by kernel_rfl) Try.func12
  (ChangeSpec.witness6 (enc:=enc) (C:=Try.checked) false ⟨#[],#[.slice none 0 0,.slice none 0 0,.int .i64 0],[]⟩ 8 (by kernel_rfl) (by kernel_rfl) (by kernel_rfl) (by kernel_rfl)) ?_
 intro W base args ds gs before hval0 hW hcnd hsz0 _
 have hsz:(DataW.weightsEach Try.prog (Try.f12.params.toList ++ Rows.parseClausesSpec.plain.varTypes Try.prog) (ds ++ gs)).all (· ≤ reachBytes) = true:=hsz0
 have hval:∀ (j:Nat) t v,Try.f12.params[j]? = some t → args[j]? = some v → Value.okWide Try.prog W .any base t v:=hval0
 have hW':=hW
 obtain ⟨p,q,hA0,hV,rfl,hfz,hnd⟩:=hW
 have hA:DataW.TrodAll enc Try.prog W 0 (fun _=>true) true Try.f12.params.toList args.toList ds p:=hA0
 rw [Try.params12] at hA hval hsz
 obtain ⟨v0,vs0,d0,ds0,p0,q0,hargs,rfl,rfl,h0,r0⟩:=trodAll_cons hA
 obtain ⟨v1,vs1,d1,ds1,p1,q1,rfl,rfl,rfl,h1,r1⟩:=trodAll_cons r0
 obtain ⟨v2,vs2,d2,ds2,p2,q2,rfl,rfl,rfl,h2,r2⟩:=trodAll_cons r1
 obtain ⟨rfl,rfl,rfl⟩:=trodAll_nil r2
 obtain rfl:args = #[v0,v1,v2]:=by cases args; simp_all
 obtain ⟨rfl,rfl⟩:=trodVars_none hV
 obtain ⟨v0a,len0,cap0,rfl⟩:=okWide_slice Try.underlying46 (hval 0 46 v0 rfl rfl)
 have k0:=h0
 have lt0:∀ x ∈ p0,x.block < W.heap.size:=by obtain ⟨m,hm⟩:=k0; exact DataW.trod_lt m _ _ _ hm
 obtain ⟨z0,w0,l0,z0q,y0⟩:=Am.rowG_open (en:=Am.e4) (n:=1) Try.underlying46 (by kernel_rfl) Am.e4_len (fun _ _ _ h=>Am.opn4 h) h0
 obtain ⟨v1a,len1,cap1,rfl⟩:=okWide_slice Try.underlying46 (hval 1 46 v1 rfl rfl)
 have k1:=h1
 have lt1:∀ x ∈ p1,x.block < W.heap.size:=by obtain ⟨m,hm⟩:=k1; exact DataW.trod_lt m _ _ _ hm
 obtain ⟨z1,w1,l1,z1q,y1⟩:=Am.rowG_open (en:=Am.e4) (n:=1) Try.underlying46 (by kernel_rfl) Am.e4_len (fun _ _ _ h=>Am.opn4 h) h1
 obtain ⟨a2,rfl,rfl,rfl,w2⟩:=open_int Try.underlying3 (hval 2 3 v2 rfl rfl) h2
 clear hA0 hval0 hsz0 hsz
 refine (Am.parseClauses_walk v0a len0 cap0 z0 v1a len1 cap1 z1 a2 W w0 l0 z0q y0 w1 l1 z1q y1 w2).mono fun e W' ⟨he,bel⟩=>?_
 subst he
 exact ⟨_,rfl,_,_,_,[],_,[],hW',trodAll_mk1 (shut_bool Try.underlying4 _),(trodAll_cons_mk (Below.trod laidOut (by kernel_rfl) (of_decide_eq_true (by kernel_rfl)) k0 bel lt0) (trodAll_cons_mk (Below.trod laidOut (by kernel_rfl) (of_decide_eq_true (by kernel_rfl)) k1 bel lt1) (trodAll_cons_mk (shut_int Try.underlying3 w2) trodAll_mk0))),rfl,bel.frame _,fun h=>by cases h⟩
theorem over:Rows.parseClausesRow.holds Try.pinned (OpenSpec.ofChange Rows.parseClausesSpec) :=
 OpenClaim.holds_of_wide 12 Try.f12 rfl rfl rfl rfl rfl rfl rfl ⟨rfl, rfl, rfl, rfl, rfl⟩ rfl rfl rfl rfl rfl (by kernel_rfl) Try.func12 (by kernel_rfl)
  (of_decide_eq_true (by kernel_rfl)) (by unfold Func.isWrapper; first | (rw [if_pos (by decide +kernel)]; kernel_rfl) | (rw [if_neg (by decide +kernel)]; exact ⟨rfl,rfl⟩))
  (fun os started H enc _=>lifted os started H enc)
theorem proved:Rows.ParseClausesSaid:=over
#print axioms proved
end Go.Proofs.Ythpplbkobokghaa.parseClauses
namespace Go.Proofs.Ythpplbkobokghaa
theorem parseClauses_holds:Rows.ParseClausesSaid:=parseClauses.proved
end Go.Proofs.Ythpplbkobokghaa
