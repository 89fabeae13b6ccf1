/- LawParseBoxes, part 5: whatever the input, the law comes out true: our texts, joined by a tool, without what the claim does not name. -/
import Derived.Test.YthpplbkobokghaaPkParseBoxes4
import Derived.SizedLaws
import Derived.ChangeSlices
import Derived.Below
import Derived.Test.YthpplbkobokghaaRows
import Derived.WalkKit
import Derived.ProofKit
import Derived.OpenShut
import Derived.ShutString
import Derived.ChangeOld
set_option maxRecDepth 100000
set_option linter.unusedVariables false
set_option linter.unusedSimpArgs false
set_option maxRecDepth 100000
set_option linter.unusedVariables false
namespace Go.Proofs.Ythpplbkobokghaa.Am
noncomputable section
open Go
theorem qA0 : ∀ k, FnsOk0 (par0 k)
 | 0=>⟨(fun _ _ _ _ _=>⟨fun _ h=>(nomatch h),fun h=>(nomatch h)⟩),(fun _ _ _ _=>⟨fun _ h=>(nomatch h),fun h=>(nomatch h)⟩),(fun _ _ _ _=>⟨fun _ h=>(nomatch h),fun h=>(nomatch h)⟩),(fun _ _ _ _=>⟨fun _ h=>(nomatch h),fun h=>(nomatch h)⟩),(fun _ _ _ _ _ _=>⟨fun _ h=>(nomatch h),fun h=>(nomatch h)⟩),(fun _ _ _ _=>⟨fun _ h=>(nomatch h),fun h=>(nomatch h)⟩),(fun _ _ _ _ _ _ _ _ _ _ _ _=>⟨fun _ h=>(nomatch h),fun h=>(nomatch h)⟩),(fun _ _ _ _=>⟨fun _ h=>(nomatch h),fun h=>(nomatch h)⟩),(fun _ _ _ _ _ _ _ _ _ _ _ _=>⟨fun _ h=>(nomatch h),fun h=>(nomatch h)⟩),(fun _ _ _ _ _ _ _ _ _ _ _ _=>⟨fun _ h=>(nomatch h),fun h=>(nomatch h)⟩),(fun _ _ _ _=>⟨fun _ h=>(nomatch h),fun h=>(nomatch h)⟩),(fun _ _ _ _=>⟨fun _ h=>(nomatch h),fun h=>(nomatch h)⟩),(fun _ _ _ _ _=>⟨fun _ h=>(nomatch h),fun h=>(nomatch h)⟩),(fun _ _ _ _=>⟨fun _ h=>(nomatch h),fun h=>(nomatch h)⟩),(fun _ _ _ _ _ _ _ _ _ _ _=>⟨fun _ h=>(nomatch h),fun h=>(nomatch h)⟩),(fun _ _ _ _=>⟨fun _ h=>(nomatch h),fun h=>(nomatch h)⟩),(fun _ _ _ _=>⟨fun _ h=>(nomatch h),fun h=>(nomatch h)⟩),(fun _ _ _ _=>⟨fun _ h=>(nomatch h),fun h=>(nomatch h)⟩),(fun _ _ _ _ _ _ _ _ _ _ _=>⟨fun _ h=>(nomatch h),fun h=>(nomatch h)⟩),(fun _ _ _ _ _ _ _ _ _ _ _=>⟨fun _ h=>(nomatch h),fun h=>(nomatch h)⟩),(fun _ _ _ _=>⟨fun _ h=>(nomatch h),fun h=>(nomatch h)⟩),(fun _ _ _ _ _=>⟨fun _ h=>(nomatch h),fun h=>(nomatch h)⟩),(fun _ _ _ _ _=>⟨fun _ h=>(nomatch h),fun h=>(nomatch h)⟩),(fun _ _ _ _ _=>⟨fun _ h=>(nomatch h),fun h=>(nomatch h)⟩),(fun _ _ _ _ _=>⟨fun _ h=>(nomatch h),fun h=>(nomatch h)⟩),(fun _ _ _ _=>⟨fun _ h=>(nomatch h),fun h=>(nomatch h)⟩),(fun _ _ _ _=>⟨fun _ h=>(nomatch h),fun h=>(nomatch h)⟩),(fun _ _ _ _=>⟨fun _ h=>(nomatch h),fun h=>(nomatch h)⟩),(fun _ _ _ _ _ _ _=>⟨fun _ h=>(nomatch h),fun h=>(nomatch h)⟩),(fun _ _ _ _ _=>⟨fun _ h=>(nomatch h),fun h=>(nomatch h)⟩),(fun _ _ _ _=>⟨fun _ h=>(nomatch h),fun h=>(nomatch h)⟩),(fun _ _ _ _=>⟨fun _ h=>(nomatch h),fun h=>(nomatch h)⟩),(fun _ _ _ _=>⟨fun _ h=>(nomatch h),fun h=>(nomatch h)⟩),(fun _ _ _ _=>⟨fun _ h=>(nomatch h),fun h=>(nomatch h)⟩)⟩
 | k + 1=>⟨i5B_ok k (par0 k) (qA0 k),i6B_ok k (par0 k) (qA0 k),i8B_ok k (par0 k) (qA0 k),i13B_ok k (par0 k) (qA0 k),i14B_ok k (par0 k) (qA0 k),i17B_ok k (par0 k) (qA0 k),i18B_ok k (par0 k) (qA0 k),i19B_ok k (par0 k) (qA0 k),i20B_ok k (par0 k) (qA0 k),i21B_ok k (par0 k) (qA0 k),i24B_ok k (par0 k) (qA0 k),i25B_ok k (par0 k) (qA0 k),i26B_ok k (par0 k) (qA0 k),i29B_ok k (par0 k) (qA0 k),i30B_ok k (par0 k) (qA0 k),i31B_ok k (par0 k) (qA0 k),i32B_ok k (par0 k) (qA0 k),i34B_ok k (par0 k) (qA0 k),i36B_ok k (par0 k) (qA0 k),i37B_ok k (par0 k) (qA0 k),i38B_ok k (par0 k) (qA0 k),i40B_ok k (par0 k) (qA0 k),i41B_ok k (par0 k) (qA0 k),i42B_ok k (par0 k) (qA0 k),i43B_ok k (par0 k) (qA0 k),i44B_ok k (par0 k) (qA0 k),i45B_ok k (par0 k) (qA0 k),i46B_ok k (par0 k) (qA0 k),i47B_ok k (par0 k) (qA0 k),i48B_ok k (par0 k) (qA0 k),i49B_ok k (par0 k) (qA0 k),i50B_ok k (par0 k) (qA0 k),i51B_ok k (par0 k) (qA0 k),i52B_ok k (par0 k) (qA0 k)⟩
def i5 (k:Nat):Ti5:=(par0 k).i5
theorem i5_ok (k:Nat):Pi5 (i5 k):=(qA0 k).i5_ok
def i6 (k:Nat):Ti6:=(par0 k).i6
theorem i6_ok (k:Nat):Pi6 (i6 k):=(qA0 k).i6_ok
def i8 (k:Nat):Ti8:=(par0 k).i8
theorem i8_ok (k:Nat):Pi8 (i8 k):=(qA0 k).i8_ok
def i13 (k:Nat):Ti13:=(par0 k).i13
theorem i13_ok (k:Nat):Pi13 (i13 k):=(qA0 k).i13_ok
def i14 (k:Nat):Ti14:=(par0 k).i14
theorem i14_ok (k:Nat):Pi14 (i14 k):=(qA0 k).i14_ok
def i17 (k:Nat):Ti17:=(par0 k).i17
theorem i17_ok (k:Nat):Pi17 (i17 k):=(qA0 k).i17_ok
def i18 (k:Nat):Ti18:=(par0 k).i18
theorem i18_ok (k:Nat):Pi18 (i18 k):=(qA0 k).i18_ok
def i19 (k:Nat):Ti19:=(par0 k).i19
theorem i19_ok (k:Nat):Pi19 (i19 k):=(qA0 k).i19_ok
def i20 (k:Nat):Ti20:=(par0 k).i20
theorem i20_ok (k:Nat):Pi20 (i20 k):=(qA0 k).i20_ok
def i21 (k:Nat):Ti21:=(par0 k).i21
theorem i21_ok (k:Nat):Pi21 (i21 k):=(qA0 k).i21_ok
def i24 (k:Nat):Ti24:=(par0 k).i24
theorem i24_ok (k:Nat):Pi24 (i24 k):=(qA0 k).i24_ok
def i25 (k:Nat):Ti25:=(par0 k).i25
theorem i25_ok (k:Nat):Pi25 (i25 k):=(qA0 k).i25_ok
def i26 (k:Nat):Ti26:=(par0 k).i26
theorem i26_ok (k:Nat):Pi26 (i26 k):=(qA0 k).i26_ok
def i29 (k:Nat):Ti29:=(par0 k).i29
theorem i29_ok (k:Nat):Pi29 (i29 k):=(qA0 k).i29_ok
def i30 (k:Nat):Ti30:=(par0 k).i30
theorem i30_ok (k:Nat):Pi30 (i30 k):=(qA0 k).i30_ok
def i31 (k:Nat):Ti31:=(par0 k).i31
theorem i31_ok (k:Nat):Pi31 (i31 k):=(qA0 k).i31_ok
def i32 (k:Nat):Ti32:=(par0 k).i32
theorem i32_ok (k:Nat):Pi32 (i32 k):=(qA0 k).i32_ok
def i34 (k:Nat):Ti34:=(par0 k).i34
theorem i34_ok (k:Nat):Pi34 (i34 k):=(qA0 k).i34_ok
def i36 (k:Nat):Ti36:=(par0 k).i36
theorem i36_ok (k:Nat):Pi36 (i36 k):=(qA0 k).i36_ok
def i37 (k:Nat):Ti37:=(par0 k).i37
theorem i37_ok (k:Nat):Pi37 (i37 k):=(qA0 k).i37_ok
def i38 (k:Nat):Ti38:=(par0 k).i38
theorem i38_ok (k:Nat):Pi38 (i38 k):=(qA0 k).i38_ok
def i40 (k:Nat):Ti40:=(par0 k).i40
theorem i40_ok (k:Nat):Pi40 (i40 k):=(qA0 k).i40_ok
def i41 (k:Nat):Ti41:=(par0 k).i41
theorem i41_ok (k:Nat):Pi41 (i41 k):=(qA0 k).i41_ok
def i42 (k:Nat):Ti42:=(par0 k).i42
theorem i42_ok (k:Nat):Pi42 (i42 k):=(qA0 k).i42_ok
def i43 (k:Nat):Ti43:=(par0 k).i43
theorem i43_ok (k:Nat):Pi43 (i43 k):=(qA0 k).i43_ok
def i44 (k:Nat):Ti44:=(par0 k).i44
theorem i44_ok (k:Nat):Pi44 (i44 k):=(qA0 k).i44_ok
def i45 (k:Nat):Ti45:=(par0 k).i45
theorem i45_ok (k:Nat):Pi45 (i45 k):=(qA0 k).i45_ok
def i46 (k:Nat):Ti46:=(par0 k).i46
theorem i46_ok (k:Nat):Pi46 (i46 k):=(qA0 k).i46_ok
def i47 (k:Nat):Ti47:=(par0 k).i47
theorem i47_ok (k:Nat):Pi47 (i47 k):=(qA0 k).i47_ok
def i48 (k:Nat):Ti48:=(par0 k).i48
theorem i48_ok (k:Nat):Pi48 (i48 k):=(qA0 k).i48_ok
def i49 (k:Nat):Ti49:=(par0 k).i49
theorem i49_ok (k:Nat):Pi49 (i49 k):=(qA0 k).i49_ok
def i50 (k:Nat):Ti50:=(par0 k).i50
theorem i50_ok (k:Nat):Pi50 (i50 k):=(qA0 k).i50_ok
def i51 (k:Nat):Ti51:=(par0 k).i51
theorem i51_ok (k:Nat):Pi51 (i51 k):=(qA0 k).i51_ok
def i52 (k:Nat):Ti52:=(par0 k).i52
theorem i52_ok (k:Nat):Pi52 (i52 k):=(qA0 k).i52_ok
abbrev Ri3:Type:=(Int × Int × (List Nat) × Raw × Bool × Bool × (List (List Nat)) × (List (List Nat)))
abbrev Ti3:Type:=Int → Int → (List Nat) → Raw → Bool → Bool → (List (List Nat)) → (List (List Nat)) → (List Nat) → (List S33) → Int → Int → Option (Option Ri3)
def Xi3 (a0:Int) (a1:Int) (a2:(List Nat)) (a3:Raw) (a4:Bool) (a5:Bool) (a6:(List (List Nat))) (a7:(List (List Nat))) (a8:(List Nat)) (a9:(List S33)) (a10:Int) (a11:Int):Fx (Option Ri3):=⟨Try.prog,cx,Try.f28,fun r=>match r with | some r => .tuple [] | none => .top,3,fun r=>match r with | some r=>(mkH [⟨[.i a0],1,false⟩,⟨[.i r.1,.str r.2.2.1,q29 r.2.2.2.1,.bool r.2.2.2.2.1,.bool r.2.2.2.2.2.1,w9 r.2.2.2.2.2.2.1,w9 r.2.2.2.2.2.2.2],7,false⟩,⟨[.str a8,w34 a9,.i r.2.1,.i a11],4,false⟩]) | none=>(mkH [⟨[.i a0],1,false⟩,⟨[.i a1,.str a2,q29 a3,.bool a4,.bool a5,w9 a6,w9 a7],7,false⟩,⟨[.str a8,w34 a9,.i a10,.i a11],4,false⟩]),cxTi,cxOrd,fun r=>match r with | some _=>none | none=>some (thrown,[2]),false⟩
def Pi3 (f:Ti3):Prop := ∀ a0 a1 a2 a3 a4 a5 a6 a7 a8 a9 a10 a11,PQh (Xi3 a0 a1 a2 a3 a4 a5 a6 a7 a8 a9 a10 a11) 28 [.ptr 2 4 0,.ptr 0 1 0,.ptr 1 7 0] (f a0 a1 a2 a3 a4 a5 a6 a7 a8 a9 a10 a11)
def i3p0:Pt:=nav [] (bodyAt Try.f28)
def i3 (k:Nat) (a0:Int) (a1:Int) (a2:(List Nat)) (a3:Raw) (a4:Bool) (a5:Bool) (a6:(List (List Nat))) (a7:(List (List Nat))) (a8:(List Nat)) (a9:(List S33)) (a10:Int) (a11:Int):Option (Option Ri3) :=
 bT (i5 k a0 a8 a9 a10 a11) fun x0_2=>some (some (x0_2.1.f0,x0_2.2,x0_2.1.f1,x0_2.1.f2,x0_2.1.f3,x0_2.1.f4,x0_2.1.f5,x0_2.1.f6))
theorem i3_all (k:Nat):∀ a0 a1 a2 a3 a4 a5 a6 a7 a8 a9 a10 a11 r,i3 k a0 a1 a2 a3 a4 a5 a6 a7 a8 a9 a10 a11 = some r → CallT Try.prog 28 [.ptr 2 4 0,.ptr 0 1 0,.ptr 1 7 0] (mkH [⟨[.i a0],1,false⟩,⟨[.i a1,.str a2,q29 a3,.bool a4,.bool a5,w9 a6,w9 a7],7,false⟩,⟨[.str a8,w34 a9,.i a10,.i a11],4,false⟩]) ((Xi3 a0 a1 a2 a3 a4 a5 a6 a7 a8 a9 a10 a11).thr r) ((Xi3 a0 a1 a2 a3 a4 a5 a6 a7 a8 a9 a10 a11).enc r) ((Xi3 a0 a1 a2 a3 a4 a5 a6 a7 a8 a9 a10 a11).fin r):=by
 intro a0 a1 a2 a3 a4 a5 a6 a7 a8 a9 a10 a11 r h
 refine qA2 (Xi3 a0 a1 a2 a3 a4 a5 a6 a7 a8 a9 a10 a11) Try.func28 (by kernel_rfl) (by kernel_rfl) rfl (t:=i3 k a0 a1 a2 a3 a4 a5 a6 a7 a8 a9 a10 a11) ?_ h
 unfold i3
 refine qA (eE:=[(0,.ptr 2 4 0),(1,.ptr 0 1 0),(2,.ptr 1 7 0)]) (by kernel_rfl) ?_
 let Q1:Blk:=⟨[.i a1,.str a2,q29 a3,.bool a4,.bool a5,w9 a6,w9 a7],7,false⟩
 refine oH 3 (atN 2 (ctl1 i3p0)) [(5,.i a0),(4,.ptr 2 4 0),(0,.ptr 2 4 0),(1,.ptr 0 1 0),(2,.ptr 1 7 0)] (mkH [⟨[.i a0],1,false⟩,Q1,⟨[.str a8,w34 a9,.i a10,.i a11],4,false⟩]) ?_
 refine oX (fun (x0_2:(S28 × Int))=>n29 x0_2.1) (fun x0_2=>[⟨[.i a0],1,false⟩,Q1,⟨[.str a8,w34 a9,.i x0_2.2,.i a11],4,false⟩]) (atN 3 (ctl1 i3p0)) 6 [2] [] [] [2] [] [.ptr 2 4 0,.i a0] (i5_ok k a0 a8 a9 a10 a11) trivial (fun _=>trivial) trivial fun x0_2 hx0_2=>?_
 exact oQF 2 [⟨[.i a0],1,false⟩,⟨e29 x0_2.1,7,false⟩,⟨[.str a8,w34 a9,.i x0_2.2,.i a11],4,false⟩] 3 [] [] (.tuple []) .ps trivial
theorem i3_ok (k:Nat):Pi3 (i3 k):=fun a0 a1 a2 a3 a4 a5 a6 a7 a8 a9 a10 a11=>⟨fun x h=>i3_all k a0 a1 a2 a3 a4 a5 a6 a7 a8 a9 a10 a11 (some x) h,fun h=>⟨_,i3_all k a0 a1 a2 a3 a4 a5 a6 a7 a8 a9 a10 a11 none h⟩⟩
abbrev Ri0:Type:=(Int × Int × (List (List Nat)) × (List (List Nat)) × Int × (List Nat) × Raw × Bool × Bool)
abbrev Ti0:Type:=(List Nat) → (List S33) → Int → Int → Int → Int → (List Nat) → Raw → Bool → Bool → (List (List Nat)) → (List (List Nat)) → Option Ri0
def Xi0 (a0:(List Nat)) (a1:(List S33)) (a2:Int) (a3:Int) (a4:Int) (a5:Int) (a6:(List Nat)) (a7:Raw) (a8:Bool) (a9:Bool) (a10:(List (List Nat))) (a11:(List (List Nat))):Fx Ri0:=⟨Try.prog,cx,Try.f27,fun r => .tuple [.i r.1,.i r.2.1],2,fun r=>(mkH [⟨[.i a4],1,false⟩,⟨[.i r.2.2.2.2.1,.str r.2.2.2.2.2.1,q29 r.2.2.2.2.2.2.1,.bool r.2.2.2.2.2.2.2.1,.bool r.2.2.2.2.2.2.2.2,w9 r.2.2.1,w9 r.2.2.2.1],7,false⟩]),cxTi,cxOrd,fun _=>none,true⟩
def Pi0 (f:Ti0):Prop := ∀ a0 a1 a2 a3 a4 a5 a6 a7 a8 a9 a10 a11,PNh (Xi0 a0 a1 a2 a3 a4 a5 a6 a7 a8 a9 a10 a11) 27 [.str a0,w34 a1,.i a2,.i a3,.func 28 [] [.ptr 0 1 0,.ptr 1 7 0]] (mkH [⟨[.i a4],1,false⟩,⟨[.i a5,.str a6,q29 a7,.bool a8,.bool a9,w9 a10,w9 a11],7,false⟩]) (f a0 a1 a2 a3 a4 a5 a6 a7 a8 a9 a10 a11)
def i0p1:Pt:=nav [0,0,0,0] (nav [0] (bodyAt Try.f27))
def i0p2:Pt:=nav [0,0] i0p1
def i0p6:Pt:=nav [0,0,0] (nav [2,0,0] i0p2)
def i0p7:Pt:=nav [0,0,0] i0p6
def i0 (k:Nat) (a0:(List Nat)) (a1:(List S33)) (a2:Int) (a3:Int) (a4:Int) (a5:Int) (a6:(List Nat)) (a7:Raw) (a8:Bool) (a9:Bool) (a10:(List (List Nat))) (a11:(List (List Nat))):Option Ri0 :=
 jn (fun (z1:Bool)=>if z1 then (some ((0:Int),(8:Int),a10,a11,a5,a6,a7,a8,a9)) else (cT (i3 k a4 a5 a6 a7 a8 a9 a10 a11 a0 a1 a2 a3) (some ((0:Int),(8:Int),a10,a11,a5,a6,a7,a8,a9)) fun x0_2=>some (x0_2.2.1,(0:Int),x0_2.2.2.2.2.2.2.1,x0_2.2.2.2.2.2.2.2,x0_2.1,x0_2.2.2.1,x0_2.2.2.2.1,x0_2.2.2.2.2.1,x0_2.2.2.2.2.2.1))) (fun j1=>if (decide (a2 < 0)) then (j1 true) else (if (decide ((a1.length:Int) < a3)) then (j1 true) else (j1 (decide (a3 < a2)))))
theorem i0_all (k:Nat):∀ a0 a1 a2 a3 a4 a5 a6 a7 a8 a9 a10 a11 r,i0 k a0 a1 a2 a3 a4 a5 a6 a7 a8 a9 a10 a11 = some r → CallT Try.prog 27 [.str a0,w34 a1,.i a2,.i a3,.func 28 [] [.ptr 0 1 0,.ptr 1 7 0]] (mkH [⟨[.i a4],1,false⟩,⟨[.i a5,.str a6,q29 a7,.bool a8,.bool a9,w9 a10,w9 a11],7,false⟩]) ((Xi0 a0 a1 a2 a3 a4 a5 a6 a7 a8 a9 a10 a11).thr r) ((Xi0 a0 a1 a2 a3 a4 a5 a6 a7 a8 a9 a10 a11).enc r) ((Xi0 a0 a1 a2 a3 a4 a5 a6 a7 a8 a9 a10 a11).fin r):=by
 intro a0 a1 a2 a3 a4 a5 a6 a7 a8 a9 a10 a11 r h
 refine qA2 (Xi0 a0 a1 a2 a3 a4 a5 a6 a7 a8 a9 a10 a11) Try.func27 (by kernel_rfl) (by kernel_rfl) rfl (t:=i0 k a0 a1 a2 a3 a4 a5 a6 a7 a8 a9 a10 a11) ?_ h
 unfold i0
 refine qA (eE:=[(0,.str a0),(1,w34 a1),(2,.i a2),(3,.i a3),(4,.func 28 [] [.ptr 0 1 0,.ptr 1 7 0])]) (by kernel_rfl) ?_
 let E1:Env:=[(15,.bool (decide (a2 < 0))),(14,.bool (decide (a2 < 0))),(13,.i a2),(11,.ptr 3 1 0),(10,.ptr 2 1 0),(0,.str a0),(1,w34 a1),(2,.i a2),(3,.i a3),(4,.func 28 [] [.ptr 0 1 0,.ptr 1 7 0])]
 let Q1:Blk:=⟨[.i a5,.str a6,q29 a7,.bool a8,.bool a9,w9 a10,w9 a11],7,false⟩
 let K1:List Blk:=[⟨[.i a4],1,false⟩,Q1,⟨[.i 0],0,false⟩,⟨[.i 0],0,false⟩]
 refine oH 11 (atN 3 (ctl1 i0p1)) E1 (mkH K1) ?_
 refine oJ i0p2 (fun (z1:Bool)=>[(0,.str a0),(1,w34 a1),(2,.i a2),(3,.i a3),(4,.func 28 [] [.ptr 0 1 0,.ptr 1 7 0]),(10,.ptr 2 1 0),(11,.ptr 3 1 0),(25,.bool z1)]) (fun (z1:Bool)=>(mkH K1)) (fun z1=>?_) (fun j1 hj1=>?_)
 ·refine oS 25 (fun hb=>?_) (fun hb=>?_)
  ·let E2:Env:=[(25,.bool true),(0,.str a0),(1,w34 a1),(2,.i a2),(3,.i a3),(4,.func 28 [] [.ptr 0 1 0,.ptr 1 7 0]),(10,.ptr 2 1 0),(11,.ptr 3 1 0),(25,.bool z1)]
   exact oQF 7 [⟨[.i a4],1,false⟩,Q1,⟨[.i 0],1,false⟩,⟨[.i 8],1,false⟩] 2 [] [.i 0,.i 8] (.tuple [.i 0,.i 8]) .ps trivial
  ·let E4:Env:=[(4,.func 28 [] [.ptr 0 1 0,.ptr 1 7 0]),(10,.ptr 2 1 0),(11,.ptr 3 1 0),(12,.ptr 4 4 0)]
   let K2:List Blk:=[⟨[.i a4],1,false⟩,Q1,⟨[.i 0],0,false⟩,⟨[.i 0],0,false⟩,⟨[.str a0,w34 a1,.i a2,.i a3],0,false⟩]
   refine oLH 13 i0p6 E4 (mkH K2) ?_
   refine oR 2 (atN 1 (ctl1 i0p6)) ((32,.func 46 [] [.ptr 2 1 0,.ptr 3 1 0]) :: E4) ?_
   refine qJn (f:=46) (caps:=[.ptr 2 1 0,.ptr 3 1 0]) (by kernel_rfl) ?_
   refine okD_at (p':=(atN 2 (ctl1 i0p6))) (by kernel_rfl) ?_
   refine qE7 5 (p':=(atN 2 (ctl1 i0p7))) (eE:=((34,.ptr 4 4 0) :: (33,.func 28 [] [.ptr 0 1 0,.ptr 1 7 0]) :: (32,.func 46 [] [.ptr 2 1 0,.ptr 3 1 0]) :: E4)) (H':=(mkH K2)) (by kernel_rfl) ?_
   let Q3:Blk:=⟨[.str a0,w34 a1,.i a2,.i a3],4,false⟩
   let K3:List Blk:=[⟨[.i a4],1,false⟩,Q1,⟨[.i 0],0,false⟩,⟨[.i 0],0,false⟩,Q3]
   let K4:List Blk:=[⟨[.i a4],1,false⟩,Q1,⟨[.i 0],1,false⟩,⟨[.i 8],1,false⟩,Q3]
   refine qJp (tv:=thrown) (D:=[4]) (rc:=((0:Int),(8:Int),a10,a11,a5,a6,a7,a8,a9)) (tc:=some ((0:Int),(8:Int),a10,a11,a5,a6,a7,a8,a9)) (xs:=[.i 0,.i 8]) (v := .tuple [.i 0,.i 8]) (fi:=28) (args:=[.ptr 4 4 0,.ptr 0 1 0,.ptr 1 7 0]) (fun (x0_2:Ri3) => .tuple []) (fun (x0_2:Ri3)=>(mkH [⟨[.i a4],1,false⟩,⟨[.i x0_2.1,.str x0_2.2.2.1,q29 x0_2.2.2.2.1,.bool x0_2.2.2.2.2.1,.bool x0_2.2.2.2.2.2.1,w9 x0_2.2.2.2.2.2.2.1,w9 x0_2.2.2.2.2.2.2.2],7,false⟩,⟨[.i 0],0,false⟩,⟨[.i 0],0,false⟩,⟨[.str a0,w34 a1,.i x0_2.2.1,.i a3],4,false⟩])) (atN 3 (ctl1 i0p7)) (fun x0_2=>[(35,.tuple []),(34,.ptr 4 4 0),(33,.func 28 [] [.ptr 0 1 0,.ptr 1 7 0]),(32,.func 46 [] [.ptr 2 1 0,.ptr 3 1 0]),(4,.func 28 [] [.ptr 0 1 0,.ptr 1 7 0]),(10,.ptr 2 1 0),(11,.ptr 3 1 0),(12,.ptr 4 4 0)]) K3 [⟨[.i a4],1,false⟩,Q1] [⟨[.i 0],1,false⟩,⟨[.i 8],1,false⟩,Q3] [(10,.ptr 2 1 0),(11,.ptr 3 1 0)] [10,11] 4 rfl rfl (by kernel_rfl) (fun h=>frS 0 (M:=K3) (rs:=[0,1,4]) (ms:=[]) (mv:=[]) (mm:=[]) (D:=[4]) (xs':=[.ptr 4 4 0,.ptr 0 1 0,.ptr 1 7 0]) (.refl) ((i3_ok k a4 a5 a6 a7 a8 a9 a10 a11 a0 a1 a2 a3).2 h) trivial trivial (by kernel_rfl)) (by kernel_rfl) (by kernel_rfl) (by kernel_rfl) (by kernel_rfl) (qDs (⟨Try.prog,cx,Try.f46,fun _ => .tuple [],5,fun _=>(mkH K4),cxTi,cxOrd,fun _=>none,false⟩:Fx Unit) 5 2 (x := .iface 72 (.agg [])) qEt (by kernel_rfl) (by kernel_rfl) (by kernel_rfl) rfl rfl rfl rfl ?_) rfl (by kernel_rfl) (by kernel_rfl) (by kernel_rfl) (.pures (by kernel_rfl)) ⟨(by kernel_rfl),⟨(by kernel_rfl),trivial⟩⟩ (by kernel_rfl) (by kernel_rfl) (fun x0_2 h=>frW 0 K3 (rs:=[0,1,4]) (ms:=[]) (ms':=[]) (mv:=[]) (xs':=[.ptr 4 4 0,.ptr 0 1 0,.ptr 1 7 0]) (.refl) ((i3_ok k a4 a5 a6 a7 a8 a9 a10 a11 a0 a1 a2 a3).1 x0_2 h) trivial trivial (by kernel_rfl)) (fun _=>by kernel_rfl) (fun x0_2 hx0_2=>?_)
   ·refine oE [(2,.iface 72 (.agg [])),(5,.iface 72 (.agg [])),(0,.ptr 2 1 0),(1,.ptr 3 1 0)] ?_
    let E1:Env:=[(4,.bool true),(3,.ptr 5 0 0),(12,.bool true),(11,.agg []),(8,.tuple [.agg [],.bool true]),(10,.tuple [.agg [],.bool true]),(9,.iface 72 (.agg [])),(7,.bool true),(6,.iface 72 (.agg [])),(2,.iface 72 (.agg [])),(5,.iface 72 (.agg [])),(0,.ptr 2 1 0),(1,.ptr 3 1 0)]
    let E2:Env:=[(0,.ptr 2 1 0),(1,.ptr 3 1 0),(2,.iface 72 (.agg [])),(4,.bool true)]
    refine oLH 19 (nav [0,0,0] (nav [1,0,0] (nav [0,0] (nav [0] (restAt Try.f46))))) E2 (mkH [⟨[.i a4],1,false⟩,Q1,⟨[.i 0],0,false⟩,⟨[.i 0],0,false⟩,Q3,⟨[],0,false⟩]) ?_
    refine oH 10 .fin ((14,.bool false) :: (13,.bool true) :: E2) (mkH [⟨[.i a4],1,false⟩,Q1,⟨[.i 0],1,false⟩,⟨[.i 8],1,false⟩,Q3,⟨[],0,false⟩]) ?_
    refine qAa K4 [⟨[],0,false⟩] (by kernel_rfl) rfl (by kernel_rfl) ⟨(by kernel_rfl),⟨(by kernel_rfl),⟨(by kernel_rfl),⟨(by kernel_rfl),⟨(by kernel_rfl),trivial⟩⟩⟩⟩⟩ ?_
    exact qG (r:=()) (xs:=[]) (by kernel_rfl) (by kernel_rfl) (by kernel_rfl) (by kernel_rfl)
   ·let Q4:Blk:=⟨[.i x0_2.1,.str x0_2.2.2.1,q29 x0_2.2.2.2.1,.bool x0_2.2.2.2.2.1,.bool x0_2.2.2.2.2.2.1,w9 x0_2.2.2.2.2.2.2.1,w9 x0_2.2.2.2.2.2.2.2],7,false⟩
    let Q5:Blk:=⟨[.i x0_2.2.1],1,false⟩
    let Q6:Blk:=⟨[.str a0,w34 a1,.i x0_2.2.1,.i a3],4,false⟩
    let K5:List Blk:=[⟨[.i a4],1,false⟩,Q4,Q5,⟨[.i 0],1,false⟩,Q6]
    refine qE7 11 (p' := .fin) (eE:=((39,.i x0_2.2.1) :: (38,.ptr 4 4 2) :: (37,.ptr 4 4 0) :: (36,.ptr 4 4 0) :: (35,.tuple []) :: (34,.ptr 4 4 0) :: (33,.func 28 [] [.ptr 0 1 0,.ptr 1 7 0]) :: (32,.func 46 [] [.ptr 2 1 0,.ptr 3 1 0]) :: E4)) (H':=(mkH K5)) (by kernel_rfl) ?_
    refine qN1 (r:=(x0_2.2.1,(0:Int),x0_2.2.2.2.2.2.2.1,x0_2.2.2.2.2.2.2.2,x0_2.1,x0_2.2.2.1,x0_2.2.2.2.1,x0_2.2.2.2.2.1,x0_2.2.2.2.2.2.1)) (xs:=[.i x0_2.2.1,.i 0]) (v := .tuple [.i x0_2.2.1,.i 0]) K5 [⟨[.i a4],1,false⟩,Q4] [Q5,⟨[.i 0],1,false⟩,Q6] rfl rfl (qDs (⟨Try.prog,cx,Try.f46,fun _ => .tuple [],5,fun _=>(mkH K5),cxTi,cxOrd,fun _=>none,false⟩:Fx Unit) 5 2 (x := .nili) qJr (by kernel_rfl) (by kernel_rfl) (by kernel_rfl) rfl rfl rfl rfl ?_) (by kernel_rfl) (by kernel_rfl) (by kernel_rfl) (by kernel_rfl) (.pures (by kernel_rfl)) ⟨(by kernel_rfl),⟨(by kernel_rfl),trivial⟩⟩ (by kernel_rfl) (by kernel_rfl)
    let E1:Env:=[(7,.bool false),(6,.nili),(2,.nili),(5,.nili),(0,.ptr 2 1 0),(1,.ptr 3 1 0)]
    refine oH 7 .fin E1 (mkH K5) ?_
    exact qG (r:=()) (xs:=[]) (by kernel_rfl) (by kernel_rfl) (by kernel_rfl) (by kernel_rfl)
 ·refine oS 15 (fun hb=>?_) (fun hb=>?_)
  ·refine oLH 11 i0p2 [(0,.str a0),(1,w34 a1),(2,.i a2),(3,.i a3),(4,.func 28 [] [.ptr 0 1 0,.ptr 1 7 0]),(10,.ptr 2 1 0),(11,.ptr 3 1 0),(25,.bool true)] (mkH K1) ?_
   exact hj1 true
  ·let E8:Env:=((21,.bool (decide ((a1.length:Int) < a3))) :: (20,.bool (decide ((a1.length:Int) < a3))) :: (19,.bool (decide ((a1.length:Int) < a3))) :: (18,.i (a1.length:Int)) :: (17,w34 a1) :: (16,.i a3) :: (15,.bool false) :: E1)
   refine oH 6 (atN 9 (ctl1 i0p1)) E8 (mkH K1) ?_
   refine oS 21 (fun hb=>?_) (fun hb=>?_)
   ·refine oR 5 i0p2 ((25,.bool true) :: (24,.tuple []) :: (23,.tuple []) :: (22,.tuple []) :: (21,.bool true) :: E8) ?_
    refine oK [0,1,2,3,4,10,11,25] [(0,.str a0),(1,w34 a1),(2,.i a2),(3,.i a3),(4,.func 28 [] [.ptr 0 1 0,.ptr 1 7 0]),(10,.ptr 2 1 0),(11,.ptr 3 1 0),(25,.bool true)] ?_
    exact hj1 true
   ·refine oL 5 i0p2 [(0,.str a0),(1,w34 a1),(2,.i a2),(3,.i a3),(4,.func 28 [] [.ptr 0 1 0,.ptr 1 7 0]),(10,.ptr 2 1 0),(11,.ptr 3 1 0),(25,.bool (decide (a3 < a2)))] ?_
    exact hj1 (decide (a3 < a2))
theorem i0_ok (k:Nat):Pi0 (i0 k):=fun a0 a1 a2 a3 a4 a5 a6 a7 a8 a9 a10 a11=>fun x h=>i0_all k a0 a1 a2 a3 a4 a5 a6 a7 a8 a9 a10 a11 x h
def Xg14:Fx (S28 × Int × Int):=⟨Try.prog,cx,Try.f14,fun r => .tuple [.agg [.i r.1.f0,.str r.1.f1,q29 r.1.f2,.bool r.1.f3,.bool r.1.f4,w9 r.1.f5,w9 r.1.f6],.i r.2.1,.i r.2.2],0,fun _=>H0,cxTi,cxOrd,fun _=>none,false⟩
def g14p2:Pt:=nav [0,0,0] (nav [0,0,0] (nav [0] (bodyAt Try.f14)))
def g14p3:Pt:=nav [0,0,0] g14p2
def g14 (k:Nat) (a0:(List Nat)) (a1:(List S33)) (a2:Int) (a3:Int) (a4:Int):Option (S28 × Int × Int) :=
 (i0 k a0 a1 a2 a3 a4 (0:Int) ([]:List Nat) (⟨(([]:List S28)).length,(([]:List S28)).flatMap e29⟩:Raw) false false ([]:List (List Nat)) ([]:List (List Nat))).bind fun x0_5=>(g30 k (⟨x0_5.2.2.2.2.1,x0_5.2.2.2.2.2.1,x0_5.2.2.2.2.2.2.1,x0_5.2.2.2.2.2.2.2.1,x0_5.2.2.2.2.2.2.2.2,x0_5.2.2.1,x0_5.2.2.2.1⟩:S28) x0_5.2.1).bind fun x1_2=>some (x1_2,x0_5.1,x0_5.2.1)
theorem qP2 (k:Nat) (a0:(List Nat)) (a1:(List S33)) (a2:Int) (a3:Int) (a4:Int) (r:(S28 × Int × Int)) (h:g14 k a0 a1 a2 a3 a4 = some r):PureOk Try.prog 14 [.str a0,w34 a1,.i a2,.i a3,.i a4] (.tuple [.agg [.i r.1.f0,.str r.1.f1,q29 r.1.f2,.bool r.1.f3,.bool r.1.f4,w9 r.1.f5,w9 r.1.f6],.i r.2.1,.i r.2.2]):=by
 refine qA4 Xg14 (fun _=>⟨rfl,rfl⟩) Try.func14 (by decide +kernel) (by kernel_rfl) (t:=g14 k a0 a1 a2 a3 a4) ?_ h
 unfold g14
 refine qA (eE:=[(0,.str a0),(1,w34 a1),(2,.i a2),(3,.i a3),(4,.i a4)]) (by kernel_rfl) ?_
 let E1:Env:=[(13,.ptr 2 7 0),(12,.i 0),(11,.i 0),(10,.ptr 1 7 0),(9,.ptr 0 1 0),(0,.str a0),(1,w34 a1),(2,.i a2),(3,.i a3),(4,.i a4)]
 let Q1:Blk:=⟨[.i 0,.str [],.nils,.bool false,.bool false,.nils,.nils],0,false⟩
 refine oH 12 g14p2 E1 (mkH [⟨[.i a4],0,false⟩,Q1,Q1]) ?_
 refine qCw [⟨[.i a4],0,false⟩,Q1,Q1] 2 0 [.i 0,.str [],.nils,.bool false,.bool false,.nils,.nils] [.i 0,.str [],w29 ([]:List S28),.bool false,.bool false,w9 ([]:List (List Nat)),w9 ([]:List (List Nat))] (by kernel_rfl) rfl (.cons (.cons (.nil (.cons (.cons (.nil (.nil (.refl)))))))) ?_
 let E2:Env:=((21,.func 28 [] [.ptr 0 1 0,.ptr 2 7 0]) :: (20,.i a3) :: (19,.i a2) :: (18,w34 a1) :: (17,.str a0) :: E1)
 refine oH 6 (atN 5 (ctl1 g14p2)) E2 (mkH [⟨[.i a4],0,false⟩,Q1,⟨[.i 0,.str [],w29 ([]:List S28),.bool false,.bool false,w9 ([]:List (List Nat)),w9 ([]:List (List Nat))],0,false⟩]) ?_
 refine qG1 (fun (x0_5:Ri0) => .tuple [.i x0_5.1,.i x0_5.2.1]) (fun (x0_5:Ri0)=>(mkH [⟨[.i a4],1,false⟩,Q1,⟨[.i x0_5.2.2.2.2.1,.str x0_5.2.2.2.2.2.1,q29 x0_5.2.2.2.2.2.2.1,.bool x0_5.2.2.2.2.2.2.2.1,.bool x0_5.2.2.2.2.2.2.2.2,w9 x0_5.2.2.1,w9 x0_5.2.2.2.1],7,false⟩])) (atN 6 (ctl1 g14p2)) (fun x0_5=>((22,.tuple [.i x0_5.1,.i x0_5.2.1]) :: E2)) (fi:=27) (args:=[.str a0,w34 a1,.i a2,.i a3,.func 28 [] [.ptr 0 1 0,.ptr 2 7 0]]) (by kernel_rfl) (fun x0_5 h=>frW 0 [⟨[.i a4],1,false⟩,Q1,⟨[.i 0,.str [],w29 ([]:List S28),.bool false,.bool false,w9 ([]:List (List Nat)),w9 ([]:List (List Nat))],7,false⟩] (rs:=[0,2]) (ms:=[]) (ms':=[]) (mv:=[]) (xs':=[.str a0,w34 a1,.i a2,.i a3,.func 28 [] [.ptr 0 1 0,.ptr 2 7 0]]) (.refl) (i0_ok k a0 a1 a2 a3 a4 (0:Int) ([]:List Nat) (⟨(([]:List S28)).length,(([]:List S28)).flatMap e29⟩:Raw) false false ([]:List (List Nat)) ([]:List (List Nat)) x0_5 h) trivial trivial (by kernel_rfl)) (fun _=>by kernel_rfl) (fun x0_5 hx0_5=>?_)
 let E4:Env:=[(10,.ptr 1 7 0),(13,.ptr 2 7 0),(14,.i x0_5.1),(15,.i x0_5.2.1)]
 refine oLH 7 g14p3 E4 (mkH [⟨[.i a4],1,false⟩,Q1,⟨[.i x0_5.2.2.2.2.1,.str x0_5.2.2.2.2.2.1,q29 x0_5.2.2.2.2.2.2.1,.bool x0_5.2.2.2.2.2.2.2.1,.bool x0_5.2.2.2.2.2.2.2.2,w9 x0_5.2.2.1,w9 x0_5.2.2.2.1],7,false⟩]) ?_
 refine oR 3 (atN 2 (ctl1 g14p3)) ((26,.i x0_5.2.1) :: (25,.agg [.i x0_5.2.2.2.2.1,.str x0_5.2.2.2.2.2.1,q29 x0_5.2.2.2.2.2.2.1,.bool x0_5.2.2.2.2.2.2.2.1,.bool x0_5.2.2.2.2.2.2.2.2,w9 x0_5.2.2.1,w9 x0_5.2.2.2.1]) :: E4) ?_
 refine oA (fun (x1_2:S28)=>n29 x1_2) (atN 3 (ctl1 g14p3)) 27 [.agg [.i x0_5.2.2.2.2.1,.str x0_5.2.2.2.2.2.1,q29 x0_5.2.2.2.2.2.2.1,.bool x0_5.2.2.2.2.2.2.2.1,.bool x0_5.2.2.2.2.2.2.2.2,w9 x0_5.2.2.1,w9 x0_5.2.2.2.1],.i x0_5.2.1] (g30_ok k (⟨x0_5.2.2.2.2.1,x0_5.2.2.2.2.2.1,x0_5.2.2.2.2.2.2.1,x0_5.2.2.2.2.2.2.2.1,x0_5.2.2.2.2.2.2.2.2,x0_5.2.2.1,x0_5.2.2.2.1⟩:S28) x0_5.2.1) fun x1_2 hx1_2=>?_
 exact oQ 7
def Xg17:Fx (S28 × Int):=⟨Try.prog,cx,Try.f17,fun r => .tuple [.agg [.i r.1.f0,.str r.1.f1,q29 r.1.f2,.bool r.1.f3,.bool r.1.f4,w9 r.1.f5,w9 r.1.f6],.i r.2],0,fun _=>H0,cxTi,cxOrd,fun _=>none,false⟩
def g17p1:Pt:=nav [0,0,0] (nav [0] (bodyAt Try.f17))
def g17p3:Pt:=nav [0,0] (nav [0,0,0,0] g17p1)
def g17p5:Pt:=nav [2,0,0] g17p3
def g17p7:Pt:=nav [0,0,0,0] g17p5
def g17p8:Pt:=nav [0,0] g17p7
def g17 (k:Nat) (a0:(List Nat)):Option (S28 × Int) :=
 (g13 k a0).bind fun x0_1=>if (!decide (x0_1.2 = 0)) then (some ((⟨(0:Int),([]:List Nat),⟨0,[]⟩,false,false,([]:List (List Nat)),([]:List (List Nat))⟩:S28),x0_1.2)) else ((g14 k a0 x0_1.1 (0:Int) (x0_1.1.length:Int) (0:Int)).bind fun x1_4=>jn (fun (z2:Bool)=>if z2 then (some ((⟨(0:Int),([]:List Nat),⟨0,[]⟩,false,false,([]:List (List Nat)),([]:List (List Nat))⟩:S28),(8:Int))) else (some (x1_4.1,x1_4.2.2))) (fun j2=>if (decide (x1_4.2.2 = 0)) then (j2 (!decide (x1_4.2.1 = (x0_1.1.length:Int)))) else (j2 false)))
theorem g17_ok (k:Nat) (a0:(List Nat)) (r:(S28 × Int)) (h:g17 k a0 = some r):PureOk Try.prog 17 [.str a0] (.tuple [.agg [.i r.1.f0,.str r.1.f1,q29 r.1.f2,.bool r.1.f3,.bool r.1.f4,w9 r.1.f5,w9 r.1.f6],.i r.2]):=by
 refine qA4 Xg17 (fun _=>⟨rfl,rfl⟩) Try.func17 (by decide +kernel) (by kernel_rfl) (t:=g17 k a0) ?_ h
 unfold g17
 refine qA (eE:=[(0,.str a0)]) (by kernel_rfl) ?_
 let Q1:Blk:=⟨[.i 0,.str [],.nils,.bool false,.bool false,.nils,.nils],0,false⟩
 refine oH 8 (atN 1 (ctl1 g17p1)) [(10,.str a0),(3,.i 0),(2,.ptr 0 7 0),(0,.str a0)] (mkH [Q1]) ?_
 refine oA (fun (x0_1:((List S33) × Int)) => .tuple [w34 x0_1.1,.i x0_1.2]) (atN 2 (ctl1 g17p1)) 11 [.str a0] (g13_ok k a0) fun x0_1 hx0_1=>?_
 let E2:Env:=[(0,.str a0),(2,.ptr 0 7 0),(4,w34 x0_1.1),(5,.i x0_1.2),(15,.bool (!decide (x0_1.2 = 0)))]
 refine oL 12 g17p3 E2 ?_
 refine oS 15 (fun hb=>?_) (fun hb=>?_)
 ·refine oH 9 .fin ((3,.i x0_1.2) :: (17,.i x0_1.2) :: (16,.agg [.i 0,.str [],.nils,.bool false,.bool false,.nils,.nils]) :: (15,.bool true) :: E2) (mkH [⟨[.i 0,.str [],.nils,.bool false,.bool false,.nils,.nils],7,false⟩]) ?_
  exact oT [.agg [.i 0,.str [],.nils,.bool false,.bool false,.nils,.nils],.i x0_1.2] (.tuple [.agg [.i 0,.str [],.vec 0 7 [],.bool false,.bool false,.vec 0 1 [],.vec 0 1 []],.i x0_1.2]) (.tuple (.agg (.cs (.cs (.nil (.cs (.cs (.nil (.nil .ps))))))) .ps) .ps)
 ·refine oR 8 (atN 4 (ctl1 g17p5)) ((22,.i (x0_1.1.length:Int)) :: (21,w34 x0_1.1) :: (20,w34 x0_1.1) :: (19,.str a0) :: (15,.bool false) :: E2) ?_
  refine oA (fun (x1_4:(S28 × Int × Int)) => .tuple [n29 x1_4.1,.i x1_4.2.1,.i x1_4.2.2]) (atN 5 (ctl1 g17p5)) 23 [.str a0,w34 x0_1.1,.i 0,.i (x0_1.1.length:Int),.i 0] (qP2 k a0 x0_1.1 (0:Int) (x0_1.1.length:Int) (0:Int)) fun x1_4 hx1_4=>?_
  let E5:Env:=[(2,.ptr 0 7 0),(4,w34 x0_1.1),(6,.ptr 1 7 0),(7,.i x1_4.2.1),(8,.i x1_4.2.2)]
  refine oLH 11 g17p7 E5 (mkH [Q1,⟨e29 x1_4.1,7,false⟩]) ?_
  refine oR 4 (atN 3 (ctl1 g17p7)) ((29,.bool (decide (x1_4.2.2 = 0))) :: (28,.bool (decide (x1_4.2.2 = 0))) :: (27,.i x1_4.2.2) :: E5) ?_
  refine oJ g17p8 (fun (z2:Bool)=>[(2,.ptr 0 7 0),(6,.ptr 1 7 0),(8,.i x1_4.2.2),(34,.bool z2)]) (fun (z2:Bool)=>(mkH [Q1,⟨e29 x1_4.1,7,false⟩])) (fun z2=>?_) (fun j2 hj2=>?_)
  ·refine oS 34 (fun hb=>?_) (fun hb=>?_)
   ·refine oH 8 .fin [(3,.i 8),(35,.agg [.i 0,.str [],.nils,.bool false,.bool false,.nils,.nils]),(34,.bool true),(2,.ptr 0 7 0),(6,.ptr 1 7 0),(8,.i x1_4.2.2),(34,.bool z2)] (mkH [⟨[.i 0,.str [],.nils,.bool false,.bool false,.nils,.nils],7,false⟩,⟨e29 x1_4.1,7,false⟩]) ?_
    exact oT [.agg [.i 0,.str [],.nils,.bool false,.bool false,.nils,.nils],.i 8] (.tuple [.agg [.i 0,.str [],.vec 0 7 [],.bool false,.bool false,.vec 0 1 [],.vec 0 1 []],.i 8]) (.tuple (.agg (.cs (.cs (.nil (.cs (.cs (.nil (.nil .ps))))))) .ps) .ps)
   ·exact oQ 10
  ·refine oS 29 (fun hb=>?_) (fun hb=>?_)
   ·refine oLH 6 g17p8 [(2,.ptr 0 7 0),(6,.ptr 1 7 0),(8,.i x1_4.2.2),(34,.bool (!decide (x1_4.2.1 = (x0_1.1.length:Int))))] (mkH [Q1,⟨e29 x1_4.1,7,false⟩]) ?_
    exact hj2 (!decide (x1_4.2.1 = (x0_1.1.length:Int)))
   ·refine oLH 6 g17p8 [(2,.ptr 0 7 0),(6,.ptr 1 7 0),(8,.i x1_4.2.2),(34,.bool false)] (mkH [Q1,⟨e29 x1_4.1,7,false⟩]) ?_
    exact hj2 false
def fg26 (k:Nat) (a0:(List Nat)) (a1:Int):Option (S33 × Int) :=
 jn (fun (z17:Bool)=>if z17 then (some ((⟨(0:Int),([]:List Nat),(0:Int)⟩:S33),(4:Int))) else ((nthS a0 a1).bind fun x0_2=>if (decide (x0_2 = 37)) then (qG9 k a0 a1 k a1) else (jn (fun (z19:Bool)=>jn (fun (z20:Int × Int)=>if (decide (z20.2 = 0)) then (some ((⟨(0:Int),([]:List Nat),(0:Int)⟩:S33),(4:Int))) else ((subL a0 (some a1) (some (fW .i64 (a1 + z20.2)))).bind fun x14_6=>some ((⟨z20.1,x14_6,a1⟩:S33),(0:Int)))) (fun j20=>if z19 then (j20 (10,1)) else ((g38 k x0_2).bind fun x2_1=>if (decide (x2_1 = 3)) then ((g39 k a0 a1).bind fun x3_2=>some (x3_2.1,x3_2.2)) else ((g38 k x0_2).bind fun x4_1=>if (decide (0 < x4_1)) then ((g38 k x0_2).bind fun x5_1=>(g40 k a0 a1).bind fun x5_4=>(subL a0 (some a1) (some (fW .i64 (a1 + fW .i64 (x5_4 - a1))))).bind fun x6_5=>(g41 k x6_5).bind fun x6_6=>if x6_6 then (j20 (8,fW .i64 (x5_4 - a1))) else (j20 (x5_1,fW .i64 (x5_4 - a1)))) else (if (decide (x0_2 = 39)) then ((g42 k a0 a1).bind fun x7_2=>j20 (1,x7_2)) else (if (decide (x0_2 = 34)) then ((g42 k a0 a1).bind fun x8_2=>j20 (6,x8_2)) else (if (decide (x0_2 = 36)) then ((g43 k a0 a1).bind fun x9_2=>j20 (5,x9_2)) else (if (decide (x0_2 = 63)) then (jn (fun (z21:Bool)=>jn (fun (z22:Int)=>jn (fun (z23:Bool)=>if z23 then ((g40 k a0 z22).bind fun x13_2=>j20 (7,fW .i64 (x13_2 - a1))) else (j20 (0,0))) (fun j23=>if (decide (z22 < (a0.length:Int))) then ((nthS a0 z22).bind fun x12_7=>(g44 k x12_7).bind fun x12_8=>if x12_8 then (j23 true) else ((nthS a0 z22).bind fun x12_12=>j23 (decide (x12_12 = 95)))) else (j23 false))) (fun j22=>if z21 then (j22 (fW .i64 (fW .i64 (a1 + 1) + 1))) else (j22 (fW .i64 (a1 + 1))))) (fun j21=>if (decide (fW .i64 (a1 + 1) < (a0.length:Int))) then ((nthS a0 (fW .i64 (a1 + 1))).bind fun x10_7=>j21 (decide (x10_7 = 63))) else (j21 false))) else ((some ((lngN (a0.drop a1.toNat):Nat):Int)).bind fun x11_2=>j20 (9,x11_2)))))))))) (fun j19=>if (decide (x0_2 = 46)) then (if (decide (fW .i64 (a1 + 1) = (a0.length:Int))) then (j19 true) else ((nthS a0 (fW .i64 (a1 + 1))).bind fun x1_12=>if (decide (x1_12 = 37)) then (j19 true) else ((g25 k a0 (fW .i64 (a1 + 1))).bind fun x1_19=>j19 (decide (fW .i64 (a1 + 1) < x1_19))))) else (j19 false))))) (fun j17=>if (decide (a1 < 0)) then (j17 true) else (j17 (decide ((a0.length:Int) ≤ a1))))
theorem fast_one {k:Nat} (hk:38 ≤ k) {s:List Nat} (hl:Sz s) (a:Int):g26 k s a = fg26 k s a:=by
 by_cases h:0 ≤ a ∧ a < (s.length:Int)
 ·obtain ⟨i,rfl⟩:∃ i:Nat,a = (i:Int):=⟨a.toNat,by omega⟩
  unfold g26 fg26
  rw [qHk hk hl (by omega),Int.toNat_natCast]
 ·unfold g26 fg26
  refine ((jS (v:=true) (fun j=>?_)).trans (iT rfl rfl)).trans ((jS (v:=true) (fun j=>?_)).trans (iT rfl rfl)).symm
  ·by_cases h0:a < 0
   ·exact iT (dT h0) rfl
   ·exact iF (dF h0) (by rw [dT (by omega)])
  ·by_cases h0:a < 0
   ·exact iT (dT h0) rfl
   ·exact iF (dF h0) (by rw [dT (by omega)])
theorem qFn {k:Nat} {s:List Nat} {i b:Nat} {r:List Nat} (h:s.drop i = b :: r) (hb:b < 128):g36 k s (i:Int) = some ((b:Int),1):=by
 have hl:=qAl h
 unfold g36
 refine (jS (v:=false) (fun j=>iF (dF (by omega)) (by rw [dF (by omega)]))).trans (iF rfl (bS (nthX rfl h) ?_))
 rw [fwI (n:=(b:Int)) (by omega) (by omega)]
 exact iT (dT (by omega)) rfl
theorem ascii_l {k:Nat} {s:List Nat} (hl:Sz s) (hb:∀ b ∈ s,b < 128):∀ (n i:Nat),s.length - i < n → qFe k s n (i:Int) = some true:=by
 intro n
 unfold Sz at hl
 induction n with
 | zero=>intro i h; omega
 | succ n ih =>
  intro i h
  rw [g24_l1_s]
  by_cases hi:i < s.length
  ·obtain ⟨b,r,h1,h2,h3,h4⟩:=dcons hi
   refine iT (dT (by omega)) (bS (qFn h1 (hb b h3)) (iF (dF (by omega)) ?_))
   rw [fw_s (by omega)]
   exact ih (i + 1) (by omega)
  ·exact iF (dF (by omega)) rfl
theorem qJa {k:Nat} {s:List Nat} (hl:Sz s) (hb:∀ b ∈ s,b < 128) (hk:s.length < k):g24 k s = some true:=ascii_l hl hb k 0 (by omega)
end
structure Pc where
 w:List Nat
 t:List Nat
 k:Int
def txt : List Pc → List Nat
 | []=>[]
 | p :: r=>p.w ++ (p.t ++ txt r)
def tkp (i : Nat) : List Pc → List S33
 | []=>[]
 | p :: r=>⟨p.k,p.t,((i + p.w.length:Nat):Int)⟩ :: tkp (i + p.w.length + p.t.length) r
def Nb (r:List Nat):Prop:=r = [] ∨ ∃ d q,r = d :: q ∧ blkN d = false
def TokAt (t:List Nat) (k:Int) (rest:List Nat):Prop := ∀ (s:List Nat) (i:Nat),s.length < 399 → (∀ b ∈ s,b < 128) → s.drop i = t ++ rest → g26 400 s (i:Int) = some (⟨k,t,(i:Int)⟩,0)
def Sc : List Pc → Prop
 | []=>True
 | p :: r=>(∀ c ∈ p.w,blkN c = true) ∧ (∃ d q,p.t = d :: q ∧ blkN d = false) ∧ TokAt p.t p.k (txt r) ∧ Sc r
theorem qPk {c:Nat} (h:blkN c = true):c = 32 ∨ c = 9 ∨ c = 10 ∨ c = 13:=by
 simp only [blkN,Bool.or_eq_true,decide_eq_true_eq] at h
 omega
theorem blk_not {c:Nat} (h:blkN c = false):¬ c = 32 ∧ ¬ c = 9 ∧ ¬ c = 10 ∧ ¬ c = 13:=by
 simp only [blkN,Bool.or_eq_false_iff,decide_eq_false_iff_not] at h
 omega
theorem qD2 {k : Nat} {s : List Nat} {rest : List Nat} (hr : Nb rest) : ∀ (w : List Nat) (i n : Nat), s.length < 1000 → (∀ c ∈ w, blkN c = true) → s.drop i = w ++ rest → i ≤ s.length → w.length < n → qEg k s n (i : Int) = some ((i + w.length : Nat) : Int)
 | [],i,n,hl,hw,h,hi,hn=>by
  obtain ⟨n,rfl⟩:∃ m,n = m + 1:=⟨n - 1,by omega⟩
  rw [qL1]
  rcases hr with rfl | ⟨d,q,rfl,hd⟩
  ·have:s.length ≤ i:=List.drop_eq_nil_iff.1 (by simpa using h)
   exact (jS (v:=(false,(i:Int))) (fun j=>iF (dF (by omega)) rfl)).trans (iF rfl rfl)
  ·have h':s.drop i = d :: q:=by simpa using h
   have hl:=qAl h'
   obtain ⟨h1,h2,h3,h4⟩:=blk_not hd
   refine (jS (v:=(false,(i:Int))) (fun j=>iT (dT (by omega)) (bS (nthX rfl h') (iF (dF (by omega)) (bS (nthX rfl h') (iF (dF (by omega)) (bS (nthX rfl h') (iF (dF (by omega)) (bS (nthX rfl h') ?_))))))))).trans (iF rfl rfl)
   rw [dF (by omega)]
 | c :: w,i,n,hl,hw,h,hi,hn=>by
  obtain ⟨n,rfl⟩:∃ m,n = m + 1:=⟨n - 1,by omega⟩
  have h':s.drop i = c :: (w ++ rest):=h
  have hlen:=qAl h'
  have hc:=qPk (hw c List.mem_cons_self)
  rw [qL1]
  refine (jS (v:=(true,(i:Int))) (fun j=>iT (dT (by omega)) (bS (nthX rfl h') ?_))).trans (iT rfl ?_)
  ·by_cases h1:c = 32
   ·exact iT (dT (by omega)) rfl
   refine iF (dF (by omega)) (bS (nthX rfl h') ?_)
   by_cases h2:c = 9
   ·exact iT (dT (by omega)) rfl
   refine iF (dF (by omega)) (bS (nthX rfl h') ?_)
   by_cases h3:c = 10
   ·exact iT (dT (by omega)) rfl
   refine iF (dF (by omega)) (bS (nthX rfl h') ?_)
   rw [dT (by omega)]
  ·show qEg k s n (fW .i64 ((i:Int) + 1)) = _
   rw [fw_s (by omega),qD2 hr w (i + 1) n hl (fun d hd=>hw d (List.mem_cons_of_mem _ hd)) (qAv h') (by omega) (by simpa using hn)]
   simp only [List.length_cons]
   rw [show i + 1 + w.length = i + (w.length + 1) by omega]
theorem sc_nb {p:Pc} {r:List Pc} (h:Sc (p :: r)):Nb (p.t ++ txt r):=by
 obtain ⟨-,⟨d,q,hd,hb⟩,-,-⟩:=h
 exact .inr ⟨d,q ++ txt r,by rw [hd]; rfl,hb⟩
theorem app32' {l x:List S33} (h:l.length + x.length ≤ 1000000):appS 32 l x = some (l ++ x):=by
 unfold appS
 rw [if_pos ⟨by omega,by omega⟩]
theorem scan_run {s : List Nat} (hs : s.length < 399) (hb : ∀ b ∈ s, b < 128) : ∀ (r : List Pc) (p : Pc) (i n : Nat) (acc : List S33), Sc (p :: r) → s.drop i = p.t ++ txt r → r.length + 1 < n → acc.length + r.length < 1000 →
 qFf 400 s n (i:Int) acc = some (acc ++ ⟨p.k,p.t,(i:Int)⟩ :: tkp (i + p.t.length) r,0):=by
 intro r
 induction r with
 | nil =>
  intro p i n acc hsc h hn ha
  obtain ⟨n,rfl⟩:∃ m,n = m + 1:=⟨n - 1,by omega⟩
  obtain ⟨-,⟨d,q,hd,-⟩,htok,-⟩:=hsc
  have hi:i < s.length:=by
   rcases Nat.lt_or_ge i s.length with h1 | h1
   ·exact h1
   ·rw [List.drop_eq_nil_of_le h1,hd] at h; simp at h
  have hlen:i + p.t.length = s.length:=by
   have:=congrArg List.length h
   simp only [txt,List.append_nil,List.length_drop] at this
   omega
  rw [qGa]
  refine iT (dT (by omega)) (bS (htok s i hs hb h) (iF rfl (bS (app32' (by simp; omega)) ?_)))
  show ((g25 400 s (fW .i64 ((i:Int) + (p.t.length:Int)))).bind _) = _
  rw [fw_a (by omega) (by omega)]
  have hbk:g25 400 s ((i + p.t.length:Nat):Int) = some ((i + p.t.length + ([]:List Nat).length:Nat):Int):=qD2 (rest:=[]) (.inl rfl) [] _ 400 (by omega) (fun c hc=>by cases hc) (by rw [hlen]; simp) (by omega) (by simp)
  refine bS hbk ?_
  obtain ⟨n,rfl⟩:∃ m,n = m + 1:=⟨n - 1,by simp at hn; omega⟩
  rw [qGa]
  refine (iF (dF (by simp only [List.length_nil]; omega)) ?_)
  simp [tkp]
 | cons p2 r ih =>
  intro p i n acc hsc h hn ha
  obtain ⟨n,rfl⟩:∃ m,n = m + 1:=⟨n - 1,by omega⟩
  obtain ⟨-,⟨d,q,hd,-⟩,htok,hsc2⟩:=hsc
  have hi:i < s.length:=by
   rcases Nat.lt_or_ge i s.length with h1 | h1
   ·exact h1
   ·rw [List.drop_eq_nil_of_le h1,hd] at h; simp at h
  have hd2:s.drop (i + p.t.length) = p2.w ++ (p2.t ++ txt r):=by
   rw [← List.drop_drop,h,List.drop_left]; rfl
  have hle:i + p.t.length ≤ s.length:=by
   have:=congrArg List.length h
   simp only [List.length_append,List.length_drop] at this
   omega
  have hd3:s.drop (i + p.t.length + p2.w.length) = p2.t ++ txt r:=by
   rw [← List.drop_drop,hd2,List.drop_left]
  have hle2:i + p.t.length + p2.w.length ≤ s.length:=by
   have:=congrArg List.length hd2
   simp only [List.length_append,List.length_drop] at this
   omega
  rw [qGa]
  refine iT (dT (by omega)) (bS (htok s i hs hb h) (iF rfl (bS (app32' (by simp at ha ⊢; omega)) ?_)))
  show ((g25 400 s (fW .i64 ((i:Int) + (p.t.length:Int)))).bind _) = _
  rw [fw_a (by omega) (by omega)]
  have hbk:g25 400 s ((i + p.t.length:Nat):Int) = some ((i + p.t.length + p2.w.length:Nat):Int):=qD2 (sc_nb hsc2) p2.w _ 400 (by omega) hsc2.1 hd2 hle (by omega)
  refine bS hbk ?_
  refine (ih p2 (i + p.t.length + p2.w.length) n (acc ++ [⟨p.k,p.t,(i:Int)⟩]) hsc2 hd3 (by simpa using hn) (by simp at ha ⊢; omega)).trans ?_
  simp [tkp]
theorem scan_pc {p:Pc} {r:List Pc} (hsc:Sc (p :: r)) (hs:(txt (p :: r)).length < 399) (hb:∀ b ∈ txt (p :: r),b < 128) (hn:r.length < 390):g13 400 (txt (p :: r)) = some (tkp 0 (p :: r),0):=by
 unfold g13
 have hsz:Sz (txt (p :: r)):=by unfold Sz; omega
 refine iF (dF (by omega)) (bS (qJa hsz hb (by omega)) (iF rfl ?_))
 have hbk:g25 400 (txt (p :: r)) ((0:Nat):Int) = some ((0 + p.w.length:Nat):Int):=qD2 (sc_nb hsc) p.w 0 400 (by omega) hsc.1 rfl (by omega) (by simp [txt] at hs; omega)
 refine bS hbk ?_
 have:=scan_run hs hb r p (0 + p.w.length) 400 [] hsc (by rw [Nat.zero_add,txt,List.drop_left]) (by omega) (by simp; omega)
 rw [this]
 rfl
theorem one_in {s t rest:List Nat} {i d:Nat} {q:List Nat} (h:s.drop i = t ++ rest) (ht:t = d :: q):s.drop i = d :: (q ++ rest):=by rw [h,ht]; rfl
theorem qDp {t rest:List Nat} {d:Nat} {q:List Nat} (ht:t = d :: q) (hd:begN d = 0) (hd2:¬ d = 37 ∧ ¬ d = 46 ∧ ¬ d = 39 ∧ ¬ d = 34 ∧ ¬ d = 36 ∧ ¬ d = 63) (hl:lngN (t ++ rest) = t.length):TokAt t 9 rest:=by
 intro s i hs hb h
 obtain ⟨h1,h2,h3,h4,h5,h6⟩:=hd2
 have hd':=one_in h ht
 have hlen:=qAl hd'
 have hlt:i + t.length ≤ s.length:=by
  have:=congrArg List.length h
  simp only [List.length_append,List.length_drop] at this
  omega
 have hb':d < 256:=by have:=hb d (qCj hd'); omega
 have hcls:g38 400 (d:Int) = some 0:=by rw [qEl 400 hb',hd]; rfl
 have hp:0 < t.length:=by rw [ht]; simp
 rw [fast_one (by decide) (by unfold Sz; omega)]
 unfold fg26
 refine (jS (v:=false) (fun j=>iF (dF (by omega)) (by rw [dF (by omega)]))).trans (iF rfl (bS (nthX rfl hd') ?_))
 refine iF (dF (by omega)) ((jS (v:=false) (fun j=>iF (dF (by omega)) rfl)).trans ?_)
 refine (jS (v:=(9,(t.length:Int))) (fun j=>?_)).trans ?_
 ·refine iF rfl (bS hcls (iF rfl (bS hcls (iF rfl (iF (dF (by omega)) (iF (dF (by omega)) (iF (dF (by omega)) (iF (dF (by omega)) (bS rfl ?_)))))))))
  rw [Int.toNat_natCast,h,hl]
 ·refine iF (dF (by omega)) (bS (a:=t) ?_ rfl)
  rw [fw_a (by omega) (by omega),subMid (i:=i) (j:=i + t.length) rfl rfl (by omega) hlt,List.drop_take,h]
  simp
theorem qH3 {k : Nat} {s rest : List Nat} (hs : s.length < 1000) (hb : ∀ b ∈ s, b < 256) (hr : rest = [] ∨ ∃ d q, rest = d :: q ∧ inrN d = false) : ∀ (t : List Nat) (i n : Nat), (∀ c ∈ t, inrN c = true) → s.drop i = t ++ rest → i ≤ s.length → t.length < n → qEf k s n (i : Int) = some ((i + t.length : Nat) : Int)
 | [],i,n,ht,h,hi,hn=>by
  obtain ⟨n,rfl⟩:∃ m,n = m + 1:=⟨n - 1,by omega⟩
  rw [qL]
  rcases hr with rfl | ⟨d,q,rfl,hd⟩
  ·have:s.length ≤ i:=List.drop_eq_nil_iff.1 (by simpa using h)
   exact (jS (v:=(false,(i:Int))) (fun j=>iF (dF (by omega)) rfl)).trans (iF rfl rfl)
  ·have h':s.drop i = d :: q:=by simpa using h
   have hl:=qAl h'
   have:=qDb k (hb d (qCj h'))
   rw [hd] at this
   exact (jS (v:=(false,(i:Int))) (fun j=>iT (dT (by omega)) (bS (nthX rfl h') (bS this rfl)))).trans (iF rfl rfl)
 | c :: t,i,n,ht,h,hi,hn=>by
  obtain ⟨n,rfl⟩:∃ m,n = m + 1:=⟨n - 1,by omega⟩
  have h':s.drop i = c :: (t ++ rest):=h
  have hl:=qAl h'
  have:=qDb k (hb c (qCj h'))
  rw [ht c List.mem_cons_self] at this
  rw [qL]
  refine (jS (v:=(true,(i:Int))) (fun j=>iT (dT (by omega)) (bS (nthX rfl h') (bS this rfl)))).trans (iT rfl ?_)
  show qEf k s n (fW .i64 ((i:Int) + 1)) = _
  rw [fw_s (by omega),qH3 hs hb hr t (i + 1) n (fun d hd=>ht d (List.mem_cons_of_mem _ hd)) (qAv h') (by omega) (by simpa using hn)]
  simp only [List.length_cons]
  rw [show i + 1 + t.length = i + (t.length + 1) by omega]
theorem qJs {t rest:List Nat} {d:Nat} {q:List Nat} (ht:t = d :: q) (hd:begN d = 1 ∨ begN d = 2) (hin:∀ c ∈ t,inrN c = true) (hr:rest = [] ∨ ∃ d q,rest = d :: q ∧ inrN d = false):TokAt t (if rsvN t then 8 else ((begN d:Nat):Int)) rest:=by
 intro s i hs hb h
 have hd':=one_in h ht
 have hlen:=qAl hd'
 have hlt:i + t.length ≤ s.length:=by
  have:=congrArg List.length h
  simp only [List.length_append,List.length_drop] at this
  omega
 have hb':d < 256:=by have:=hb d (qCj hd'); omega
 have hcls:g38 400 (d:Int) = some ((begN d:Nat):Int):=qEl 400 hb'
 have hp:0 < t.length:=by rw [ht]; simp
 have hne:¬ d = 37 ∧ ¬ d = 46:=by
  constructor
  ·rintro rfl; rcases hd with hd | hd <;> cases hd
  ·rintro rfl; rcases hd with hd | hd <;> cases hd
 have hinn:g40 400 s (i:Int) = some ((i + t.length:Nat):Int):=qH3 (by omega) (fun b h=>by have:=hb b h; omega) hr t i 400 hin h (by omega) (by omega)
 have hsub:subL s (some (i:Int)) (some (fW .i64 ((i:Int) + (t.length:Int)))) = some t:=by
  rw [fw_a (by omega) (by omega),subMid (i:=i) (j:=i + t.length) rfl rfl (by omega) hlt,List.drop_take,h]
  simp
 have hfw:fW .i64 (((i + t.length:Nat):Int) - (i:Int)) = (t.length:Int):=by rw [fw_d (by omega) (by omega)]; congr 1; omega
 unfold g26
 refine (jS (v:=false) (fun j=>iF (dF (by omega)) (by rw [dF (by omega)]))).trans (iF rfl (bS (nthX rfl hd') ?_))
 refine iF (dF (by omega)) ((jS (v:=false) (fun j=>iF (dF (by omega)) rfl)).trans ?_)
 refine (jS (v:=((if rsvN t then 8 else ((begN d:Nat):Int)),(t.length:Int))) (fun j=>?_)).trans ?_
 ·refine iF rfl (bS hcls (iF (dF (by rcases hd with hd | hd <;> rw [hd] <;> decide)) (bS hcls (iT (dT (by rcases hd with hd | hd <;> rw [hd] <;> decide)) (bS hcls (bS hinn ?_))))))
  rw [hfw]
  refine bS hsub (bS (qGn (by decide) t) ?_)
  cases rsvN t <;> rfl
 ·exact iF (dF (by omega)) (bS hsub rfl)
abbrev Tkn:Type:=S33 × Int
def pos (to:Int) (ts:List Tkn):Int:=to - (ts.length:Int)
structure Vw (k:Nat) (s:List Nat) (L:List S33) (to:Int) (W:List Tkn):Prop where
 len:(W.length:Int) = to
 get:∀ (i:Nat) t,W[i]? = some t → nthL L (i:Int) = some t.1 ∧ g72 k s L (i:Int) = some t.2
 fin:g72 k s L to = some 0
 sm:W.length < 1000000
 fu:W.length < k
def SimN {α β:Type} (tr:α → β) (ok:α → Prop) (m1:Option β) (m2:Option α):Prop := ∀ x,m2 = some x → m1 = some (tr x) ∧ ok x
def oTh {α:Type} (ok:α → Prop):Option α → Prop:=fun o => ∀ y,o = some y → ok y
section
variable {α β γ δ:Type} {tr:α → β} {ok:α → Prop} {tr1:γ → δ} {ok1:γ → Prop}
theorem sB {m1:Option δ} {m2:Option γ} {f1:δ → Option β} {f2:γ → Option α} (h:SimN tr1 ok1 m1 m2) (k:∀ x,ok1 x → SimN tr ok (f1 (tr1 x)) (f2 x)):SimN tr ok (m1.bind f1) (m2.bind f2):=by
 intro y hy
 cases m2 with
 | none=>cases hy
 | some x =>
  obtain ⟨h1,h2⟩:=h x rfl
  rw [h1]
  exact k x h2 y hy
theorem sE {m:Option γ} {f1:γ → Option β} {f2:γ → Option α} (k:∀ x,SimN tr ok (f1 x) (f2 x)):SimN tr ok (m.bind f1) (m.bind f2):=by
 intro y hy
 cases m with
 | none=>cases hy
 | some x=>exact k x y hy
theorem sT {m1:Option (Option δ)} {m2:Option (Option γ)} {f1:δ → Option (Option β)} {f2:γ → Option (Option α)} (h:SimN (Option.map tr1) (oTh ok1) m1 m2) (k:∀ x,ok1 x → SimN (Option.map tr) (oTh ok) (f1 (tr1 x)) (f2 x)):SimN (Option.map tr) (oTh ok) (bT m1 f1) (bT m2 f2):=by
 intro y hy
 cases m2 with
 | none=>cases hy
 | some o =>
  obtain ⟨h1,h2⟩:=h o rfl
  rw [h1]
  cases o with
  | none=>cases hy; exact ⟨rfl,fun z hz=>by cases hz⟩
  | some x=>exact k x (h2 x rfl) y hy
theorem sTE {m:Option (Option γ)} {f1:γ → Option (Option β)} {f2:γ → Option (Option α)} (k:∀ x,SimN (Option.map tr) (oTh ok) (f1 x) (f2 x)):SimN (Option.map tr) (oTh ok) (bT m f1) (bT m f2):=by
 intro y hy
 cases m with
 | none=>cases hy
 | some o=>cases o with
  | none=>cases hy; exact ⟨rfl,fun z hz=>by cases hz⟩
  | some x=>exact k x y hy
theorem sI {c:Prop} [Decidable c] {A1 B1:Option β} {A2 B2:Option α} (h:SimN tr ok A1 A2) (k:SimN tr ok B1 B2):SimN tr ok (if c then A1 else B1) (if c then A2 else B2):=by
 by_cases hc:c
 ·rw [if_pos hc,if_pos hc]; exact h
 ·rw [if_neg hc,if_neg hc]; exact k
theorem sR {x:α} (h:ok x):SimN (Option.map tr) (oTh ok) (some (some (tr x))) (some (some x)):=fun y hy=>by cases hy; exact ⟨rfl,fun z hz=>by cases hz; exact h⟩
theorem sRN {x:α} (h:ok x):SimN tr ok (some (tr x)) (some x):=fun y hy=>by cases hy; exact ⟨rfl,h⟩
theorem sTh:SimN (Option.map tr) (oTh ok) (some none) (some none):=fun y hy=>by cases hy; exact ⟨rfl,fun z hz=>by cases hz⟩
theorem sZ {m:Option β}:SimN tr ok m (none:Option α):=fun y hy=>by cases hy
end
theorem sJ {α β γ δ : Type} {tr : γ → δ} {ok : γ → Prop} (tz : α → β) (okz : α → Prop) {K1 : β → Option δ} {K2 : α → Option γ} {b1 : (β → Option δ) → Option δ} {b2 : (α → Option γ) → Option γ} (hK : ∀ z, okz z → SimN tr ok (K1 (tz z)) (K2 z))
 (hb:∀ (j1:β → Option δ) (j2:α → Option γ),(∀ z,okz z → SimN tr ok (j1 (tz z)) (j2 z)) → SimN tr ok (b1 j1) (b2 j2)):SimN tr ok (jn K1 b1) (jn K2 b2):=hb K1 K2 hK
section
variable {k:Nat} {s:List Nat} {L:List S33} {to:Int} {W:List Tkn}
theorem Vw.at_ (hv:Vw k s L to W) {ts:List Tkn} (h:ts <:+ W):∃ i:Nat,pos to ts = (i:Int) ∧ i + ts.length = W.length:=by
 obtain ⟨p,rfl⟩:=h
 have:=hv.len
 rw [List.length_append] at this
 exact ⟨p.length,by unfold pos; omega,by rw [List.length_append]⟩
theorem Vw.hd (hv:Vw k s L to W) {t:Tkn} {r:List Tkn} (h:t :: r <:+ W):nthL L (pos to (t :: r)) = some t.1 ∧ g72 k s L (pos to (t :: r)) = some t.2 ∧ pos to (t :: r) < to ∧ fW .i64 (pos to (t :: r) + 1) = pos to r:=by
 obtain ⟨p,rfl⟩:=h
 have hl:=hv.len
 have hs:=hv.sm
 rw [List.length_append,List.length_cons] at hl hs
 have e:pos to (t :: r) = (p.length:Int):=by unfold pos; rw [List.length_cons]; omega
 obtain ⟨h1,h2⟩:=hv.get p.length t (by simp)
 rw [e]
 refine ⟨h1,h2,by omega,?_⟩
 rw [fw_s (by omega)]
 unfold pos
 omega
theorem qM5 {t:Tkn} {r:List Tkn} (h:t :: r <:+ W):r <:+ W:=List.IsSuffix.trans (List.suffix_cons t r) h
theorem qFu:pos to [] = to:=by unfold pos; simp
def cCur : List Tkn → S33
 | []=>⟨0,[],0⟩
 | t :: r=>if t.1.f0 = 11 then cCur r else t.1
noncomputable def c9 (k:Nat) (ts:List Tkn):Option S33:=some (cCur ts)
theorem cur_l (hv : Vw k s L to W) (a : Int) : ∀ (ts : List Tkn) (n : Nat), ts <:+ W → ts.length < n → qLh k s L a to n (pos to ts) = some (cCur ts)
 | [],n,h,hn=>by
  obtain ⟨n,rfl⟩:∃ m,n = m + 1:=⟨n - 1,by omega⟩
  rw [qNa,qFu]
  exact iF (dF (by omega)) rfl
 | t :: r,n,h,hn=>by
  obtain ⟨n,rfl⟩:∃ m,n = m + 1:=⟨n - 1,by omega⟩
  obtain ⟨h1,h2,h3,h4⟩:=hv.hd h
  rw [qNa]
  refine iT (dT h3) (bS h1 ?_)
  by_cases hc:t.1.f0 = 11
  ·rw [dT hc,h4]
   simp only [cCur,hc,if_true,Bool.not_true,Bool.false_eq_true,if_false]
   exact cur_l hv a r n (qM5 h) (by simp at hn; omega)
  ·rw [dF hc]
   simp only [cCur,hc,if_false,Bool.not_false,if_true]
   exact bS h1 rfl
theorem Vw.fu' (hv:Vw k s L to W) {ts:List Tkn} (h:ts <:+ W):ts.length < k:=Nat.lt_of_le_of_lt h.length_le hv.fu
theorem qHg (hv:Vw k s L to W) (ts:List Tkn) (h:ts <:+ W):SimN (fun x=>x) (fun _=>True) (i9 k s L (pos to ts) to) (c9 k ts):=by
 unfold i9 c9
 rw [cur_l hv _ ts k h (hv.fu' h)]
 exact sRN (x:=cCur ts) trivial
def cNoted : List Tkn → Bool
 | []=>false
 | t :: _=>decide (t.1.f0 = 11)
theorem qDr (hv:Vw k s L to W) {ts:List Tkn} (h:ts <:+ W):i15 k s L (pos to ts) to = some (cNoted ts):=by
 unfold i15
 cases ts with
 | nil=>rw [qFu]; exact iF (dF (by omega)) rfl
 | cons t r =>
  obtain ⟨h1,h2,h3,h4⟩:=hv.hd h
  exact iT (dT h3) (bS h1 rfl)
def cNext : List Tkn → Option (List Tkn)
 | []=>none
 | t :: r=>if t.1.f0 = 11 then none else some r
noncomputable def c11 (k:Nat) (ts:List Tkn):Option (Option (List Tkn)):=some (cNext ts)
theorem must_t (k:Nat):i16 k true = some (some ()):=rfl
theorem must_f (k:Nat):i16 k false = some none:=rfl
theorem qEk (hv:Vw k s L to W) (ts:List Tkn) (h:ts <:+ W):SimN (Option.map (fun x=>pos to x)) (oTh (fun x=>x <:+ W)) (i11 k s L (pos to ts) to) (c11 k ts):=by
 unfold i11 c11
 cases ts with
 | nil =>
  rw [show (jn (fun (z1:Unit)=>some (some (fW .i64 (pos to [] + 1)))) _:Option (Option Int)) = some none from jC (fun j=>by rw [qFu]; exact iF (dF (by omega)) (by rw [must_f]; rfl))]
  exact sTh
 | cons t r =>
  obtain ⟨h1,h2,h3,h4⟩:=hv.hd h
  by_cases hc:t.1.f0 = 11
  ·rw [show (jn (fun (z1:Unit)=>some (some (fW .i64 (pos to (t :: r) + 1)))) _:Option (Option Int)) = some none from jC (fun j=>iT (dT h3) (bS (qDr hv h) (by rw [show cNoted (t :: r) = true by simp [cNoted,hc],show (!true) = false from rfl,must_f]; rfl)))]
   rw [show cNext (t :: r) = none by simp [cNext,hc]]
   exact sTh
  ·rw [show (jn (fun (z1:Unit)=>some (some (fW .i64 (pos to (t :: r) + 1)))) _:Option (Option Int)) = some (some (pos to r)) from (jS (v:=()) (fun j=>iT (dT h3) (bS (qDr hv h) (by rw [show cNoted (t :: r) = false by simp [cNoted,hc],show (!false) = true from rfl,must_t]; rfl)))).trans (by rw [h4])]
   rw [show cNext (t :: r) = some r by simp [cNext,hc]]
   exact sR (x:=r) (qM5 h)
def cNotes : List Tkn → List (List Nat) × List Tkn
 | []=>([],[])
 | t :: r=>if t.1.f0 = 11 then (t.1.f1 :: (cNotes r).1,(cNotes r).2) else ([],t :: r)
noncomputable def c12 (k:Nat) (ts:List Tkn):Option (List (List Nat) × List Tkn):=some (cNotes ts)
theorem qFk : ∀ ts : List Tkn, (cNotes ts).2 <:+ ts
 | []=>List.suffix_refl _
 | t :: r=>by
  unfold cNotes
  split
  ·exact List.IsSuffix.trans (qFk r) (List.suffix_cons t r)
  ·exact List.suffix_refl _
theorem qN2 (hv : Vw k s L to W) : ∀ (ts : List Tkn) (n : Nat) (acc : List (List Nat)), ts <:+ W → ts.length < n → acc.length + ts.length < 1000000 → qF4 k s L to n (pos to ts) acc = some (acc ++ (cNotes ts).1, pos to (cNotes ts).2)
 | [],n,acc,h,hn,ha=>by
  obtain ⟨n,rfl⟩:∃ m,n = m + 1:=⟨n - 1,by omega⟩
  rw [qKt]
  refine bS (qDr hv h) (iF rfl ?_)
  simp [cNotes]
 | t :: r,n,acc,h,hn,ha=>by
  obtain ⟨n,rfl⟩:∃ m,n = m + 1:=⟨n - 1,by omega⟩
  obtain ⟨h1,h2,h3,h4⟩:=hv.hd h
  rw [qKt]
  refine bS (qDr hv h) ?_
  by_cases hc:t.1.f0 = 11
  ·rw [show cNoted (t :: r) = true by simp [cNoted,hc]]
   refine iT rfl (bS h1 (bS (a:=acc ++ [t.1.f1]) ?_ ?_))
   ·unfold appS; rw [if_pos ⟨by simp at ha ⊢; omega,by simp at ha ⊢; omega⟩]
   ·rw [h4,qN2 hv r n (acc ++ [t.1.f1]) (qM5 h) (by simp at hn; omega) (by simp at ha ⊢; omega)]
    simp [cNotes,hc]
  ·rw [show cNoted (t :: r) = false by simp [cNoted,hc]]
   refine iF rfl ?_
   simp [cNotes,hc]
theorem qBd (hv:Vw k s L to W) (ts:List Tkn) (h:ts <:+ W):SimN (fun x=>(x.1,pos to x.2)) (fun x=>x.2 <:+ W) (i12 k s L (pos to ts) to) (c12 k ts):=by
 unfold i12 c12
 rw [qN2 hv ts k [] h (hv.fu' h) (by have:=h.length_le; have:=hv.sm; simp; omega)]
 exact sRN (x:=cNotes ts) ((qFk ts).trans h)
def cNl : List Tkn → Int
 | []=>0
 | t :: _=>t.2
theorem qP7 (hv:Vw k s L to W) {ts:List Tkn} (h:ts <:+ W):g72 k s L (pos to ts) = some (cNl ts):=by
 cases ts with
 | nil=>rw [qFu]; exact hv.fin
 | cons t r=>exact (hv.hd h).2.1
noncomputable def c28 (k:Nat) (ts:List Tkn):Option Bool:=some (decide (0 < cNl ts))
theorem qJ4 (hv:Vw k s L to W) (ts:List Tkn) (h:ts <:+ W):SimN (fun x=>x) (fun _=>True) (i28 k s L (pos to ts) to) (c28 k ts):=by
 unfold i28 c28 g103
 rw [qP7 hv h]
 exact sRN (x:=decide (0 < cNl ts)) trivial
noncomputable def cBlank (ts:List Tkn):Option Bool:=some (decide (1 < cNl ts))
theorem qPl (hv:Vw k s L to W) {ts:List Tkn} (h:ts <:+ W):SimN (fun x=>x) (fun _=>True) (g57 k s L (pos to ts)) (cBlank ts):=by
 unfold g57 cBlank
 rw [qP7 hv h]
 exact sRN (x:=decide (1 < cNl ts)) trivial
end
theorem qLy (k:Nat) {c:Nat} (hc:c < 256) (h:inrN c = false):g92 k (c:Int) 10 = some (-1):=by
 have w:=byteAll (f:=fun c=>inrN c || decide (g92 0 (c:Int) 10 = some (-1))) (by decide +kernel) hc
 simp only [h,Bool.false_or] at w
 exact of_decide_eq_true w
theorem qLz (k:Nat):g92 k 49 10 = some 1:=rfl
def Ne (rest:List Nat):Prop:=rest = [] ∨ ∃ d q,rest = d :: q ∧ inrN d = false ∧ ¬ d = 46 ∧ ¬ d = 35
theorem qMf {s rest:List Nat} {i:Nat} (hs:s.length < 399) (hb:∀ b ∈ s,b < 128) (h:s.drop i = 49 :: rest) (hr:Ne rest) (b:Bool):g73 400 s (i:Int) 10 b = some 1:=by
 have hl:=qAl h
 unfold g73
 rw [show (400:Nat) = 399 + 1 from rfl,qKv]
 refine (jD ?_)
 refine iT (dT (by omega)) (bS (nthX rfl h) (bS (qLz _) ((jS (v:=(false,(i:Int))) (fun j=>iF (by decide) rfl)).trans (iF rfl ?_))))
 show qF8 400 s (i:Int) 10 b 399 (fW .i64 ((i:Int) + 1)) = _
 rw [fw_s (by omega),show (399:Nat) = 398 + 1 from rfl,qKv]
 have hfin:some (fW .i64 (((i + 1:Nat):Int) - (i:Int))) = some (1:Int):=by rw [fwI (by omega) (by omega)]; congr 1; omega
 refine (jD ?_)
 rcases hr with rfl | ⟨d,q,rfl,hd,h1,h2⟩
 ·exact iF (dF (by simp at hl; omega)) hfin
 ·have h':=qAv h
  have hl':=qAl h'
  have hdm:=hb d (qCj h')
  have h95:¬ d = 95:=by rintro rfl; cases hd
  refine iT (dT (by omega)) (bS (nthX rfl h') (bS (qLy _ (by omega) hd) ((jS (v:=(true,((i + 1:Nat):Int))) (fun j=>iT (by decide) ?_)).trans (iT rfl hfin))))
  cases b with
  | false=>exact iF rfl rfl
  | true=>exact iT rfl (bS (nthX rfl h') (iF (dF (by omega)) rfl))
theorem qHr {rest:List Nat} (hr:Ne rest):TokAt [49] 3 rest:=by
 intro s i hs hb h
 have h0:s.drop i = 49 :: rest:=h
 have hl:=qAl h0
 have hr1:=qMf hs hb h0 hr true
 have hr2:=qMf hs hb h0 hr false
 have hcls:g38 400 (49:Int) = some 3:=rfl
 have hi1:fW .i64 ((i:Int) + 1) = ((i + 1:Nat):Int):=fw_s (by omega)
 have hbr:g61 400 s (i:Int) = some 0:=by
  unfold g61
  refine bS hr1 ((jS (v:=true) (fun j=>?_)).trans (iT rfl rfl))
  rw [hi1]
  refine iF (dF (by omega)) ?_
  rcases hr with rfl | ⟨d,q,rfl,hd,h1,h2⟩
  ·exact iT (dT (by simp at hl; omega)) rfl
  ·have h':=qAv h0
   have hl':=qAl h'
   refine iF (dF (by omega)) (bS (nthX rfl h') ?_)
   rw [dF (by omega)]; rfl
 have hwh:g62 400 s (i:Int) = some 1:=by
  unfold g62
  refine bS hr1 (bS hr2 ((jS (v:=false) (fun j=>?_)).trans ?_))
  ·rw [hi1]
   refine iT (by decide) (iT (by decide) ?_)
   rcases hr with rfl | ⟨d,q,rfl,hd,h1,h2⟩
   ·exact iF (dF (by simp at hl; omega)) rfl
   ·have h':=qAv h0
    have hl':=qAl h'
    refine iT (dT (by omega)) (bS (nthX rfl h') ?_)
    rw [dF (by omega)]
  ·exact (jD (iF rfl rfl))
 have hsub:subL s (some (i:Int)) (some ((i + 1:Nat):Int)) = some [49]:=by
  rw [subMid (i:=i) (j:=i + 1) rfl rfl (by omega) (by omega),List.drop_take,h0]
  simp
 have hnum:g39 400 s (i:Int) = some (⟨3,[49],(i:Int)⟩,0):=by
  unfold g39
  refine bS hbr ((jS (v:=(3,1)) (fun j=>iT (by decide) (bS hwh rfl))).trans ?_)
  show (jn _ _:Option (S33 × Int)) = _
  refine (jS (v:=false) (fun j=>iF (by decide) ?_)).trans (iF rfl ?_)
  ·show (if decide (fW .i64 ((i:Int) + 1) < (s.length:Int)) then _ else _) = _
   rw [hi1]
   rcases hr with rfl | ⟨d,q,rfl,hd,h1,h2⟩
   ·exact iF (dF (by simp at hl; omega)) rfl
   ·have h':=qAv h0
    have hl':=qAl h'
    have:=qDb 400 (c:=d) (by have:=hb d (qCj h'); omega)
    rw [hd] at this
    exact iT (dT (by omega)) (bS (nthX rfl h') (bS this rfl))
  ·refine (jS (v:=false) (fun j=>iT (by decide) ?_)).trans ?_
   ·show (if decide (fW .i64 ((i:Int) + 1) < (s.length:Int)) then _ else _) = _
    rw [hi1]
    rcases hr with rfl | ⟨d,q,rfl,hd,h1,h2⟩
    ·exact iF (dF (by simp at hl; omega)) rfl
    ·have h':=qAv h0
     have hl':=qAl h'
     refine iT (dT (by omega)) (bS (nthX rfl h') ?_)
     rw [dF (by omega)]
   ·refine jD (iF rfl ?_)
    show (subL s (some (i:Int)) (some (fW .i64 ((i:Int) + 1)))).bind _ = _
    rw [hi1]
    exact bS hsub rfl
 unfold g26
 refine (jS (v:=false) (fun j=>iF (dF (by omega)) (by rw [dF (by omega)]))).trans (iF rfl (bS (nthX rfl h0) ?_))
 refine iF (by decide) ((jS (v:=false) (fun j=>iF (by decide) rfl)).trans ?_)
 refine jD (iF rfl (bS hcls (iT (by decide) (bS hnum rfl))))
def vwp (f : Bool) (i : Nat) : List Pc → List Tkn
 | []=>[]
 | p :: r=>(⟨p.k,p.t,((i + p.w.length:Nat):Int)⟩,if f then 0 else ((p.w.count 10:Nat):Int)) :: vwp false (i + p.w.length + p.t.length) r
theorem qHj : ∀ (ps : List Pc) (f : Bool) (i : Nat), (vwp f i ps).map (·.1) = tkp i ps
 | [],_,_=>rfl
 | p :: r,f,i=>by simp [vwp,tkp,qHj r]
theorem qDu (ps:List Pc) (f:Bool) (i:Nat):(vwp f i ps).length = ps.length:=by
 induction ps generalizing f i with
 | nil=>rfl
 | cons p r ih=>simp [vwp,ih]
theorem qLw : ∀ (ps : List Pc) (f : Bool) (i j : Nat) (t : Tkn), (vwp f i ps)[j + 1]? = some t → ∃ (p p2 : Pc) (o : Nat) (rest : List Nat), (tkp i ps)[j]? = some ⟨p.k, p.t, ((o - p.t.length : Nat) : Int)⟩ ∧ p.t.length ≤ o - i ∧ i ≤ o ∧ t = (⟨p2.k, p2.t, ((o + p2.w.length : Nat) : Int)⟩, ((p2.w.count 10 : Nat) : Int)) ∧ (tkp i ps)[j + 1]? = some t.1 ∧ (txt ps).drop (o - i) = p2.w ++ (p2.t ++ rest) ∧ o - i ≤ (txt ps).length
 | [],f,i,j,t,h=>by simp [vwp] at h
 | [p],f,i,j,t,h=>by simp [vwp] at h
 | p :: p2 :: r,f,i,0,t,h=>by
  simp only [vwp,List.getElem?_cons_succ,List.getElem?_cons_zero,Option.some.injEq,Bool.false_eq_true,if_false] at h
  subst h
  refine ⟨p,p2,i + p.w.length + p.t.length,txt r,?_,by omega,by omega,rfl,?_,?_,?_⟩
  ·simp only [tkp,List.getElem?_cons_zero]
   rw [show i + p.w.length + p.t.length - p.t.length = i + p.w.length by omega]
  ·simp [tkp]
  ·rw [show i + p.w.length + p.t.length - i = p.w.length + p.t.length by omega,← List.drop_drop]
   simp [txt]
  ·simp [txt]; omega
 | p :: p2 :: r,f,i,j + 1,t,h=>by
  simp only [vwp,List.getElem?_cons_succ] at h
  obtain ⟨q,q2,o,rest,h1,h2,h3,h4,h5,h6,h7⟩:=qLw (p2 :: r) false (i + p.w.length + p.t.length) j t (by simp only [vwp,List.getElem?_cons_succ]; exact h)
  refine ⟨q,q2,o,rest,?_,by omega,by omega,h4,?_,?_,?_⟩
  ·simp only [tkp,List.getElem?_cons_succ]; simpa [tkp] using h1
  ·simp only [tkp,List.getElem?_cons_succ]; simpa [tkp] using h5
  ·rw [← h6]
   have:o - i = p.w.length + (p.t.length + (o - (i + p.w.length + p.t.length))):=by omega
   rw [this,← List.drop_drop,← List.drop_drop,txt,List.drop_left,List.drop_left]
  ·rw [txt]
   simp only [List.length_append]
   omega
theorem qN3 {k : Nat} {s : List Nat} {L : List S33} {a2 : Int} {t : S33} {e : Nat} {rest : List Nat} (hs : s.length < 1000) (hL : nthL L a2 = some t) (he : t.f2 = (e : Int)) : ∀ (w : List Nat) (y n c : Nat), s.drop y = w ++ rest → y + w.length = e → e ≤ s.length → w.length < n → c + w.length < 1000 → qF9 k s L a2 n (y : Int) (c : Int) = some ((c + w.count 10 : Nat) : Int)
 | [],y,n,c,h,hy,hes,hn,hc=>by
  obtain ⟨n,rfl⟩:∃ m,n = m + 1:=⟨n - 1,by omega⟩
  rw [qKw]
  refine bS hL (iF (dF (by rw [he]; simp at hy; omega)) (by simp))
 | b :: w,y,n,c,h,hy,hes,hn,hc=>by
  obtain ⟨n,rfl⟩:∃ m,n = m + 1:=⟨n - 1,by omega⟩
  have h':s.drop y = b :: (w ++ rest):=h
  simp only [List.length_cons] at hy hn hc
  rw [qKw]
  refine bS hL (iT (dT (by rw [he]; omega)) (bS (nthX rfl h') ?_))
  by_cases hb:b = 10
  ·subst hb
   refine bS (a:=((c + 1:Nat):Int)) ?_ ?_
   ·unfold i2
    exact iT (by decide) (by rw [fw_s (by omega)])
   ·rw [fw_s (by omega),qN3 hs hL he w (y + 1) n (c + 1) (qAv h') (by omega) hes (by omega) (by omega),List.count_cons_self]
    congr 2; omega
  ·refine bS (a:=(c:Int)) ?_ ?_
   ·unfold i2
    exact iF (dF (by omega)) rfl
   ·rw [fw_s (by omega),qN3 hs hL he w (y + 1) n c (qAv h') (by omega) hes (by omega) (by omega),List.count_cons_of_ne hb]
theorem qH2 {k:Nat} {s:List Nat} {t:S33} {e:Nat} (hs:s.length < 1000) (he:t.f2 = (e:Int)) (h:e + t.f1.length ≤ s.length):g89 k s t = some true:=by
 unfold g89
 refine iT (dT (by omega)) (iT (dT (by omega)) ?_)
 rw [he,fw_d (by omega) (by omega),dT (by omega)]
theorem end_at {k:Nat} {t:S33} {e:Nat} (he:t.f2 = (e:Int)) (h:e + t.f1.length < 1000):g90 k t = some ((e + t.f1.length:Nat):Int):=by
 unfold g90
 rw [he,fw_a (by omega) (by omega)]
theorem vw_pc {ps:List Pc} (hs:(txt ps).length < 290) (hn:ps.length < 290) (k:Nat) (hk:300 ≤ k):Vw k (txt ps) (tkp 0 ps) ((tkp 0 ps).length:Int) (vwp true 0 ps):=by
 have hlen:(tkp 0 ps).length = ps.length:=by rw [← qHj ps true 0,List.length_map,qDu]
 refine ⟨by rw [hlen,qDu],?_,?_,by rw [qDu]; omega,by rw [qDu]; omega⟩
 ·intro i t h
  have h1:(tkp 0 ps)[i]? = some t.1:=by rw [← qHj ps true 0,List.getElem?_map,h]; rfl
  have hi:i < ps.length:=by have:=(List.getElem?_eq_some_iff.1 h).1; rw [qDu] at this; exact this
  have hN:∀ (j:Nat) x,(tkp 0 ps)[j]? = some x → nthL (tkp 0 ps) (j:Int) = some x:=by
   intro j x hx
   unfold nthL
   rw [if_pos (by omega),Int.toNat_natCast,hx]
  refine ⟨hN i _ h1,?_⟩
  cases i with
  | zero =>
   unfold g72
   refine (jS (v:=true) (fun j=>iT (by decide) rfl)).trans (iT rfl ?_)
   cases ps with
   | nil=>simp at hi
   | cons p r=>simp only [vwp,List.getElem?_cons_zero,Option.some.injEq] at h; subst h; rfl
  | succ j =>
   obtain ⟨p,p2,o,rest,e1,e2,e3,e4,e5,e6,e7⟩:=qLw ps true 0 j t h
   simp only [Nat.sub_zero] at e2 e6 e7
   have hN1:nthL (tkp 0 ps) (fW .i64 (((j + 1:Nat):Int) - 1)) = some ⟨p.k,p.t,((o - p.t.length:Nat):Int)⟩:=by rw [fw_p (by omega)]; exact hN j _ e1
   have hN2:=hN (j + 1) _ e5
   have hin2:o + p2.w.length + p2.t.length ≤ (txt ps).length:=by
    have:=congrArg List.length e6
    simp only [List.length_append,List.length_drop] at this
    omega
   subst e4
   have i1:g89 k (txt ps) ⟨p.k,p.t,((o - p.t.length:Nat):Int)⟩ = some true:=qH2 (by omega) rfl (by show o - p.t.length + p.t.length ≤ _; omega)
   have i2:g89 k (txt ps) ⟨p2.k,p2.t,((o + p2.w.length:Nat):Int)⟩ = some true:=qH2 (by omega) rfl (by show o + p2.w.length + p2.t.length ≤ _; omega)
   have n1:g90 k ⟨p.k,p.t,((o - p.t.length:Nat):Int)⟩ = some (o:Int):=by
    have:=end_at (k:=k) (t:=⟨p.k,p.t,((o - p.t.length:Nat):Int)⟩) rfl (by show o - p.t.length + p.t.length < _; omega)
    rw [this]
    show some ((o - p.t.length + p.t.length:Nat):Int) = _
    rw [show o - p.t.length + p.t.length = o by omega]
   unfold g72
   refine (jS (v:=false) (fun q=>?_)).trans (iF rfl ?_)
   ·refine iF (dF (by omega)) (iF (dF (by omega)) (bS hN1 (bS i1 (iF rfl (bS hN2 (bS i2 (iF rfl (bS hN1 (bS n1 (bS hN2 ?_))))))))))
    rw [dF (by show ¬ ((o + p2.w.length:Nat):Int) < (o:Int); omega)]
   ·refine bS hN1 (bS n1 ?_)
    have:=qN3 (k:=k) (s:=txt ps) (L:=tkp 0 ps) (rest:=p2.t ++ rest) (by omega) hN2 (e:=o + p2.w.length) rfl p2.w o k 0 e6 rfl (by omega) (by omega) (by omega)
    simpa using this
 ·unfold g72
  refine (jS (v:=true) (fun j=>?_)).trans (iT rfl rfl)
  by_cases h0:(((tkp 0 ps).length:Nat):Int) < 1
  ·exact iT (dT h0) rfl
  ·exact iF (dF h0) (iT (dT (by omega)) rfl)
end Go.Proofs.Ythpplbkobokghaa.Am
set_option maxRecDepth 100000
set_option linter.unusedVariables false
set_option linter.unusedSimpArgs false
namespace Go.Proofs.Ythpplbkobokghaa.Am
noncomputable section
open Go
def c10 (k:Nat) (a0:(List Nat)) (a3:(List Tkn)):Option Bool :=
 (c9 k a3).bind fun x0_1=>if (decide (x0_1.f0 = 9)) then (some (eqL x0_1.f1 a0)) else (if (decide (x0_1.f0 = 8)) then (some (eqL x0_1.f1 a0)) else (some false))
def c33 (k:Nat) (a0:(List Int)) (a3:(List Tkn)):Option (Option ((List Nat) × (List Tkn))) :=
 (c9 k a3).bind fun x0_1=>(g104 k a0 x0_1.f0).bind fun x1_3=>bT (i16 k x1_3) fun x1_4=>bT (c11 k a3) fun x2_1=>some (some (x0_1.f1,x2_1))
def c22 (k:Nat) (a2:(List Tkn)):Option (Option ((List Nat) × (List Tkn))) :=
 bT (c33 k i22c0 a2) fun x0_2=>some (some (x0_2.1,x0_2.2))
def c7 (k:Nat) (a0:(List Nat)) (a3:(List Tkn)):Option (Option (Bool × (List Tkn))) :=
 (c10 k a0 a3).bind fun x0_2=>if (!x0_2) then (some (some (false,a3))) else (bT (c11 k a3) fun x1_1=>some (some (true,x1_1)))
def c23 (k:Nat) (a0:(List Nat)) (a3:(List Tkn)):Option (Option (List Tkn)) :=
 bT (c7 k a0 a3) fun x0_2=>bT (i16 k x0_2.1) fun x0_3=>some (some x0_2.2)
def c39 (k:Nat) (a2:(List Tkn)):Option (Option ((List Nat) × (List Tkn))) :=
 bT (c33 k i39c0 a2) fun x0_2=>some (some (x0_2.1,x0_2.2))
def c35 (k:Nat) (a2:(List Tkn)):Option (Option (S28 × (List Tkn))) :=
 bT (c22 k a2) fun x0_1=>bT (c7 k ([58]:List Nat) x0_1.2) fun x1_1=>jn (fun (z5:(List Nat) × (List Tkn))=>bT (c23 k ([47]:List Nat) z5.2) fun x3_1=>(catS z5.1 ([47]:List Nat)).bind fun x4_1=>bT (c39 k x3_1) fun x4_3=>(catS x4_1 x4_3.1).bind fun x4_4=>some (some ((⟨(16:Int),x4_4,⟨0,[]⟩,false,false,([]:List (List Nat)),([]:List (List Nat))⟩:S28),x4_3.2))) (fun j5=>if x1_1.1 then ((catS x0_1.1 ([58]:List Nat)).bind fun x2_1=>bT (c22 k x1_1.2) fun x2_3=>(catS x2_1 x2_3.1).bind fun x2_4=>j5 (x2_4,x2_3.2)) else (j5 (x0_1.1,x1_1.2)))
theorem qGg {k:Nat} {s:List Nat} {L:List S33} {to:Int} {W:(List Tkn)} (hv:Vw k s L to W)  (a0:(List Nat)) (a3:(List Tkn)) (h:a3 <:+ W):SimN (fun x=>x) (fun _=>True) (i10 k a0 s L (pos to a3) to) (c10 k a0 a3):=by
 unfold i10 c10
 exact sB (qHg hv a3 h) fun x0_1 hx0_1=>sI (sRN (x:=(eqL x0_1.f1 a0)) trivial) (sI (sRN (x:=(eqL x0_1.f1 a0)) trivial) (sRN (x:=false) trivial))
theorem qJ2 {k:Nat} {s:List Nat} {L:List S33} {to:Int} {W:(List Tkn)} (hv:Vw k s L to W)  (a0:(List Int)) (a3:(List Tkn)) (h:a3 <:+ W):SimN (Option.map (fun x=>(x.1,pos to x.2))) (oTh (fun x=>x.2 <:+ W)) (i33 k a0 s L (pos to a3) to) (c33 k a0 a3):=by
 unfold i33 c33
 exact sB (qHg hv a3 h) fun x0_1 hx0_1=>sE fun x1_3=>sTE fun x1_4=>sT (qEk hv a3 h) fun x2_1 hx2_1=>sR (x:=(x0_1.f1,x2_1)) hx2_1
theorem qGf {k:Nat} {s:List Nat} {L:List S33} {to:Int} {W:(List Tkn)} (hv:Vw k s L to W)  (a2:(List Tkn)) (h:a2 <:+ W):SimN (Option.map (fun x=>(x.1,pos to x.2))) (oTh (fun x=>x.2 <:+ W)) (i22 k s L (pos to a2) to) (c22 k a2):=by
 unfold i22 c22
 exact sT (qJ2 hv i22c0 a2 h) fun x0_2 hx0_2=>sR (x:=(x0_2.1,x0_2.2)) hx0_2
theorem qAm {k:Nat} {s:List Nat} {L:List S33} {to:Int} {W:(List Tkn)} (hv:Vw k s L to W)  (a0:(List Nat)) (a3:(List Tkn)) (h:a3 <:+ W):SimN (Option.map (fun x=>(x.1,pos to x.2))) (oTh (fun x=>x.2 <:+ W)) (i7 k a0 s L (pos to a3) to) (c7 k a0 a3):=by
 unfold i7 c7
 exact sB (qGg hv a0 a3 h) fun x0_2 hx0_2=>sI (sR (x:=(false,a3)) h) (sT (qEk hv a3 h) fun x1_1 hx1_1=>sR (x:=(true,x1_1)) hx1_1)
theorem qBr {k:Nat} {s:List Nat} {L:List S33} {to:Int} {W:(List Tkn)} (hv:Vw k s L to W)  (a0:(List Nat)) (a3:(List Tkn)) (h:a3 <:+ W):SimN (Option.map (fun x=>pos to x)) (oTh (fun x=>x <:+ W)) (i23 k a0 s L (pos to a3) to) (c23 k a0 a3):=by
 unfold i23 c23
 exact sT (qAm hv a0 a3 h) fun x0_2 hx0_2=>sTE fun x0_3=>sR (x:=x0_2.2) hx0_2
theorem c39_sim {k:Nat} {s:List Nat} {L:List S33} {to:Int} {W:(List Tkn)} (hv:Vw k s L to W)  (a2:(List Tkn)) (h:a2 <:+ W):SimN (Option.map (fun x=>(x.1,pos to x.2))) (oTh (fun x=>x.2 <:+ W)) (i39 k s L (pos to a2) to) (c39 k a2):=by
 unfold i39 c39
 exact sT (qJ2 hv i39c0 a2 h) fun x0_2 hx0_2=>sR (x:=(x0_2.1,x0_2.2)) hx0_2
theorem c35_sim {k:Nat} {s:List Nat} {L:List S33} {to:Int} {W:(List Tkn)} (hv:Vw k s L to W)  (a2:(List Tkn)) (h:a2 <:+ W):SimN (Option.map (fun x=>(x.1,pos to x.2))) (oTh (fun x=>x.2 <:+ W)) (i35 k s L (pos to a2) to) (c35 k a2):=by
 unfold i35 c35
 exact sT (qGf hv a2 h) fun x0_1 hx0_1=>sT (qAm hv ([58]:List Nat) x0_1.2 hx0_1) fun x1_1 hx1_1=>sJ (α:=((List Nat) × (List Tkn))) (fun x=>(x.1,pos to x.2)) (fun x=>x.2 <:+ W) (fun z5 hz5=>sT (qBr hv ([47]:List Nat) z5.2 hz5) fun x3_1 hx3_1=>sE fun x4_1=>sT (c39_sim hv x3_1 hx3_1) fun x4_3 hx4_3=>sE fun x4_4=>sR (x:=((⟨(16:Int),x4_4,⟨0,[]⟩,false,false,([]:List (List Nat)),([]:List (List Nat))⟩:S28),x4_3.2)) hx4_3) (fun j5 j5' hj5=>sI (sE fun x2_1=>sT (qGf hv x1_1.2 hx1_1) fun x2_3 hx2_3=>sE fun x2_4=>hj5 (x2_4,x2_3.2) hx2_3) (hj5 (x0_1.1,x1_1.2) hx1_1))
structure Cns where
 c5:Int → (List Tkn) → Option (Option (S28 × (List Tkn)))
 c6:(List Tkn) → Option (Option (S28 × (List Tkn)))
 c8:(List Tkn) → Option (Option (S28 × Int × (List Tkn)))
 c13:(List Tkn) → Option (Option (S28 × Bool × (List Tkn)))
 c14:S28 → Bool → (List Tkn) → Option (Option (S28 × (List Tkn)))
 c17:(List Tkn) → Option (Option (S28 × (List Tkn)))
 c18:Int → (List Nat) → Bool → Bool → (List (List Nat)) → (List (List Nat)) → (List Nat) → (List Tkn) → (List S28) → Option (Option (Int × (List Nat) × Bool × Bool × (List (List Nat)) × (List (List Nat)) × (List Tkn) × (List S28)))
 c19:(List Tkn) → Option (Option (S28 × (List Tkn)))
 c20:Int → (List Nat) → Bool → Bool → (List (List Nat)) → (List (List Nat)) → (List Nat) → (List Tkn) → (List S28) → Option (Option (Int × (List Nat) × Bool × Bool × (List (List Nat)) × (List (List Nat)) × (List Tkn) × (List S28)))
 c21:Int → (List Nat) → Bool → Bool → (List (List Nat)) → (List (List Nat)) → (List Nat) → (List Tkn) → (List S28) → Option (Option (Int × (List Nat) × Bool × Bool × (List (List Nat)) × (List (List Nat)) × (List Tkn) × (List S28)))
 c24:(List Tkn) → Option (Option (S28 × (List Tkn)))
 c25:(List Tkn) → Option (Option (S28 × (List Tkn)))
 c26:S28 → (List Tkn) → Option (Option (S28 × (List Tkn)))
 c29:(List Tkn) → Option (Option (S28 × (List Tkn)))
 c30:Int → (List Nat) → Bool → Bool → (List (List Nat)) → (List (List Nat)) → (List Tkn) → (List S28) → Option (Option (Int × (List Nat) × Bool × Bool × (List (List Nat)) × (List (List Nat)) × (List Tkn) × (List S28)))
 c31:(List Tkn) → Option (Option (S28 × (List Tkn)))
 c32:(List Tkn) → Option (Option (S28 × (List Tkn)))
 c34:(List Tkn) → Option (Option (S28 × (List Tkn)))
 c36:Int → (List Nat) → Bool → Bool → (List (List Nat)) → (List (List Nat)) → (List Tkn) → (List S28) → Option (Option (Int × (List Nat) × Bool × Bool × (List (List Nat)) × (List (List Nat)) × (List Tkn) × (List S28)))
 c37:Int → (List Nat) → Bool → Bool → (List (List Nat)) → (List (List Nat)) → (List Tkn) → (List S28) → Option (Option (Int × (List Nat) × Bool × Bool × (List (List Nat)) × (List (List Nat)) × (List Tkn) × (List S28)))
 c38:(List Tkn) → Option (Option (S28 × (List Tkn)))
 c40:(List (List Nat)) → (List Tkn) → Option (Option ((List S28) × (List Tkn)))
 c41:(List (List Nat)) → (List Tkn) → Option (Option ((List S28) × (List Tkn)))
 c42:(List (List Nat)) → (List Tkn) → Option (Option ((List S28) × (List Tkn)))
 c43:(List (List Nat)) → (List Tkn) → Option (Option ((List Tkn) × (List S28)))
 c44:(List Tkn) → Option (Option (S28 × (List Tkn)))
 c45:(List Tkn) → Option (Option (S28 × (List Tkn)))
 c46:(List Tkn) → Option (Option (S28 × (List Tkn)))
 c47:(List Nat) → S28 → S28 → (List Tkn) → Option (Option (S28 × (List Tkn)))
 c48:(List Nat) → (List Tkn) → Option (Option (S28 × (List Tkn)))
 c49:(List Tkn) → Option (Option (S28 × (List Tkn)))
 c50:(List Tkn) → Option (Option (S28 × (List Tkn)))
 c51:(List Tkn) → Option (Option (S28 × (List Tkn)))
 c52:(List Tkn) → Option (Option (S28 × (List Tkn)))
structure SimC (s:List Nat) (L:List S33) (to:Int) (W:(List Tkn)) (F:Fns0) (C:Cns):Prop where
 c5:∀ (a0:Int) (a3:(List Tkn)),a3 <:+ W → SimN (Option.map (fun x=>(x.1,pos to x.2))) (oTh (fun x=>x.2 <:+ W)) (F.i5 a0 s L (pos to a3) to) (C.c5 a0 a3)
 c6:∀ (a2:(List Tkn)),a2 <:+ W → SimN (Option.map (fun x=>(x.1,pos to x.2))) (oTh (fun x=>x.2 <:+ W)) (F.i6 s L (pos to a2) to) (C.c6 a2)
 c8:∀ (a2:(List Tkn)),a2 <:+ W → SimN (Option.map (fun x=>(x.1,x.2.1,pos to x.2.2))) (oTh (fun x=>x.2.2 <:+ W)) (F.i8 s L (pos to a2) to) (C.c8 a2)
 c13:∀ (a2:(List Tkn)),a2 <:+ W → SimN (Option.map (fun x=>(x.1,x.2.1,pos to x.2.2))) (oTh (fun x=>x.2.2 <:+ W)) (F.i13 s L (pos to a2) to) (C.c13 a2)
 c14:∀ (a0:S28) (a1:Bool) (a4:(List Tkn)),a4 <:+ W → SimN (Option.map (fun x=>(x.1,pos to x.2))) (oTh (fun x=>x.2 <:+ W)) (F.i14 a0 a1 s L (pos to a4) to) (C.c14 a0 a1 a4)
 c17:∀ (a2:(List Tkn)),a2 <:+ W → SimN (Option.map (fun x=>(x.1,pos to x.2))) (oTh (fun x=>x.2 <:+ W)) (F.i17 s L (pos to a2) to) (C.c17 a2)
 c18:∀ (a0:Int) (a1:(List Nat)) (a2:Bool) (a3:Bool) (a4:(List (List Nat))) (a5:(List (List Nat))) (a6:(List Nat)) (a9:(List Tkn)) (b1:(List S28)),a9 <:+ W → SimN (Option.map (fun x=>(x.1,x.2.1,x.2.2.1,x.2.2.2.1,x.2.2.2.2.1,x.2.2.2.2.2.1,pos to x.2.2.2.2.2.2.1,x.2.2.2.2.2.2.2))) (oTh (fun x=>x.2.2.2.2.2.2.1 <:+ W)) (F.i18 a0 a1 a2 a3 a4 a5 a6 s L (pos to a9) to b1) (C.c18 a0 a1 a2 a3 a4 a5 a6 a9 b1)
 c19:∀ (a2:(List Tkn)),a2 <:+ W → SimN (Option.map (fun x=>(x.1,pos to x.2))) (oTh (fun x=>x.2 <:+ W)) (F.i19 s L (pos to a2) to) (C.c19 a2)
 c20:∀ (a0:Int) (a1:(List Nat)) (a2:Bool) (a3:Bool) (a4:(List (List Nat))) (a5:(List (List Nat))) (a6:(List Nat)) (a9:(List Tkn)) (b1:(List S28)),a9 <:+ W → SimN (Option.map (fun x=>(x.1,x.2.1,x.2.2.1,x.2.2.2.1,x.2.2.2.2.1,x.2.2.2.2.2.1,pos to x.2.2.2.2.2.2.1,x.2.2.2.2.2.2.2))) (oTh (fun x=>x.2.2.2.2.2.2.1 <:+ W)) (F.i20 a0 a1 a2 a3 a4 a5 a6 s L (pos to a9) to b1) (C.c20 a0 a1 a2 a3 a4 a5 a6 a9 b1)
 c21:∀ (a0:Int) (a1:(List Nat)) (a2:Bool) (a3:Bool) (a4:(List (List Nat))) (a5:(List (List Nat))) (a6:(List Nat)) (a9:(List Tkn)) (b1:(List S28)),a9 <:+ W → SimN (Option.map (fun x=>(x.1,x.2.1,x.2.2.1,x.2.2.2.1,x.2.2.2.2.1,x.2.2.2.2.2.1,pos to x.2.2.2.2.2.2.1,x.2.2.2.2.2.2.2))) (oTh (fun x=>x.2.2.2.2.2.2.1 <:+ W)) (F.i21 a0 a1 a2 a3 a4 a5 a6 s L (pos to a9) to b1) (C.c21 a0 a1 a2 a3 a4 a5 a6 a9 b1)
 c24:∀ (a2:(List Tkn)),a2 <:+ W → SimN (Option.map (fun x=>(x.1,pos to x.2))) (oTh (fun x=>x.2 <:+ W)) (F.i24 s L (pos to a2) to) (C.c24 a2)
 c25:∀ (a2:(List Tkn)),a2 <:+ W → SimN (Option.map (fun x=>(x.1,pos to x.2))) (oTh (fun x=>x.2 <:+ W)) (F.i25 s L (pos to a2) to) (C.c25 a2)
 c26:∀ (a0:S28) (a3:(List Tkn)),a3 <:+ W → SimN (Option.map (fun x=>(x.1,pos to x.2))) (oTh (fun x=>x.2 <:+ W)) (F.i26 a0 s L (pos to a3) to) (C.c26 a0 a3)
 c29:∀ (a2:(List Tkn)),a2 <:+ W → SimN (Option.map (fun x=>(x.1,pos to x.2))) (oTh (fun x=>x.2 <:+ W)) (F.i29 s L (pos to a2) to) (C.c29 a2)
 c30:∀ (a0:Int) (a1:(List Nat)) (a2:Bool) (a3:Bool) (a4:(List (List Nat))) (a5:(List (List Nat))) (a8:(List Tkn)) (b1:(List S28)),a8 <:+ W → SimN (Option.map (fun x=>(x.1,x.2.1,x.2.2.1,x.2.2.2.1,x.2.2.2.2.1,x.2.2.2.2.2.1,pos to x.2.2.2.2.2.2.1,x.2.2.2.2.2.2.2))) (oTh (fun x=>x.2.2.2.2.2.2.1 <:+ W)) (F.i30 a0 a1 a2 a3 a4 a5 s L (pos to a8) to b1) (C.c30 a0 a1 a2 a3 a4 a5 a8 b1)
 c31:∀ (a2:(List Tkn)),a2 <:+ W → SimN (Option.map (fun x=>(x.1,pos to x.2))) (oTh (fun x=>x.2 <:+ W)) (F.i31 s L (pos to a2) to) (C.c31 a2)
 c32:∀ (a2:(List Tkn)),a2 <:+ W → SimN (Option.map (fun x=>(x.1,pos to x.2))) (oTh (fun x=>x.2 <:+ W)) (F.i32 s L (pos to a2) to) (C.c32 a2)
 c34:∀ (a2:(List Tkn)),a2 <:+ W → SimN (Option.map (fun x=>(x.1,pos to x.2))) (oTh (fun x=>x.2 <:+ W)) (F.i34 s L (pos to a2) to) (C.c34 a2)
 c36:∀ (a0:Int) (a1:(List Nat)) (a2:Bool) (a3:Bool) (a4:(List (List Nat))) (a5:(List (List Nat))) (a8:(List Tkn)) (b1:(List S28)),a8 <:+ W → SimN (Option.map (fun x=>(x.1,x.2.1,x.2.2.1,x.2.2.2.1,x.2.2.2.2.1,x.2.2.2.2.2.1,pos to x.2.2.2.2.2.2.1,x.2.2.2.2.2.2.2))) (oTh (fun x=>x.2.2.2.2.2.2.1 <:+ W)) (F.i36 a0 a1 a2 a3 a4 a5 s L (pos to a8) to b1) (C.c36 a0 a1 a2 a3 a4 a5 a8 b1)
 c37:∀ (a0:Int) (a1:(List Nat)) (a2:Bool) (a3:Bool) (a4:(List (List Nat))) (a5:(List (List Nat))) (a8:(List Tkn)) (b1:(List S28)),a8 <:+ W → SimN (Option.map (fun x=>(x.1,x.2.1,x.2.2.1,x.2.2.2.1,x.2.2.2.2.1,x.2.2.2.2.2.1,pos to x.2.2.2.2.2.2.1,x.2.2.2.2.2.2.2))) (oTh (fun x=>x.2.2.2.2.2.2.1 <:+ W)) (F.i37 a0 a1 a2 a3 a4 a5 s L (pos to a8) to b1) (C.c37 a0 a1 a2 a3 a4 a5 a8 b1)
 c38:∀ (a2:(List Tkn)),a2 <:+ W → SimN (Option.map (fun x=>(x.1,pos to x.2))) (oTh (fun x=>x.2 <:+ W)) (F.i38 s L (pos to a2) to) (C.c38 a2)
 c40:∀ (a0:(List (List Nat))) (a3:(List Tkn)),a3 <:+ W → SimN (Option.map (fun x=>(x.1,pos to x.2))) (oTh (fun x=>x.2 <:+ W)) (F.i40 a0 s L (pos to a3) to) (C.c40 a0 a3)
 c41:∀ (a0:(List (List Nat))) (a3:(List Tkn)),a3 <:+ W → SimN (Option.map (fun x=>(x.1,pos to x.2))) (oTh (fun x=>x.2 <:+ W)) (F.i41 a0 s L (pos to a3) to) (C.c41 a0 a3)
 c42:∀ (a0:(List (List Nat))) (a3:(List Tkn)),a3 <:+ W → SimN (Option.map (fun x=>(x.1,pos to x.2))) (oTh (fun x=>x.2 <:+ W)) (F.i42 a0 s L (pos to a3) to) (C.c42 a0 a3)
 c43:∀ (a0:(List (List Nat))) (a3:(List Tkn)),a3 <:+ W → SimN (Option.map (fun x=>(pos to x.1,x.2))) (oTh (fun x=>x.1 <:+ W)) (F.i43 a0 s L (pos to a3) to) (C.c43 a0 a3)
 c44:∀ (a2:(List Tkn)),a2 <:+ W → SimN (Option.map (fun x=>(x.1,pos to x.2))) (oTh (fun x=>x.2 <:+ W)) (F.i44 s L (pos to a2) to) (C.c44 a2)
 c45:∀ (a2:(List Tkn)),a2 <:+ W → SimN (Option.map (fun x=>(x.1,pos to x.2))) (oTh (fun x=>x.2 <:+ W)) (F.i45 s L (pos to a2) to) (C.c45 a2)
 c46:∀ (a2:(List Tkn)),a2 <:+ W → SimN (Option.map (fun x=>(x.1,pos to x.2))) (oTh (fun x=>x.2 <:+ W)) (F.i46 s L (pos to a2) to) (C.c46 a2)
 c47:∀ (a0:(List Nat)) (a1:S28) (a2:S28) (a5:(List Tkn)),a5 <:+ W → SimN (Option.map (fun x=>(x.1,pos to x.2))) (oTh (fun x=>x.2 <:+ W)) (F.i47 a0 a1 a2 s L (pos to a5) to) (C.c47 a0 a1 a2 a5)
 c48:∀ (a0:(List Nat)) (a3:(List Tkn)),a3 <:+ W → SimN (Option.map (fun x=>(x.1,pos to x.2))) (oTh (fun x=>x.2 <:+ W)) (F.i48 a0 s L (pos to a3) to) (C.c48 a0 a3)
 c49:∀ (a2:(List Tkn)),a2 <:+ W → SimN (Option.map (fun x=>(x.1,pos to x.2))) (oTh (fun x=>x.2 <:+ W)) (F.i49 s L (pos to a2) to) (C.c49 a2)
 c50:∀ (a2:(List Tkn)),a2 <:+ W → SimN (Option.map (fun x=>(x.1,pos to x.2))) (oTh (fun x=>x.2 <:+ W)) (F.i50 s L (pos to a2) to) (C.c50 a2)
 c51:∀ (a2:(List Tkn)),a2 <:+ W → SimN (Option.map (fun x=>(x.1,pos to x.2))) (oTh (fun x=>x.2 <:+ W)) (F.i51 s L (pos to a2) to) (C.c51 a2)
 c52:∀ (a2:(List Tkn)),a2 <:+ W → SimN (Option.map (fun x=>(x.1,pos to x.2))) (oTh (fun x=>x.2 <:+ W)) (F.i52 s L (pos to a2) to) (C.c52 a2)
def qPd (k:Nat) (F:Cns) (a0:Int) (a3:(List Tkn)) (ih:Int → (List Tkn) → S28 → Option (Option (S28 × (List Tkn)))):Int → (List Tkn) → S28 → Option (Option (S28 × (List Tkn))) :=
 fun (y9_0:Int) (y9_1:(List Tkn)) (y9_2:S28)=>jn (fun (z11:(List Tkn) × S28)=>some (some (z11.2,z11.1))) (fun j11=>if (decide (a0 ≤ 9)) then ((c9 k y9_1).bind fun x3_1=>(g50 k x3_1.f1).bind fun x4_2=>(c10 k x3_1.f1 y9_1).bind fun x5_3=>jn (fun (z10:Bool × (List Tkn) × S28)=>if z10.1 then (j11 (z10.2.1,z10.2.2)) else (bT (c11 k z10.2.1) fun x6_1=>(g54 k x3_1.f1).bind fun x7_6=>bT (F.c5 x7_6 x6_1) fun x7_7=>ih x4_2 x7_7.2 (⟨14,x3_1.f1,(⟨(([z10.2.2,x7_7.1]:List S28)).length,(([z10.2.2,x7_7.1]:List S28)).flatMap e29⟩:Raw),false,false,([]:List (List Nat)),([]:List (List Nat))⟩:S28))) (fun j10=>if (!x5_3) then (j10 (true,y9_1,y9_2)) else (if (decide (x4_2 < maxI a0 1)) then (j10 (true,y9_1,y9_2)) else ((g52 k x3_1.f1).bind fun x5_15=>j10 (decide (y9_0 < x5_15),y9_1,y9_2))))) else (j11 (y9_1,y9_2)))
def qPe (k:Nat) (F:Cns) (a0:Int) (a3:(List Tkn)) (n:Nat):Int → (List Tkn) → S28 → Option (Option (S28 × (List Tkn))):=lp (fun _ _ _=>none) (qPd k F a0 a3) n
def c5B (k:Nat) (F:Cns) (a0:Int) (a3:(List Tkn)):Option (Option (S28 × (List Tkn))) :=
 jn (fun (z8:Bool × (List Tkn))=>if z8.1 then (bT (F.c5 (0:Int) z8.2) fun x1_1=>some (some ((⟨(13:Int),([99,97,116,99,104]:List Nat),⟨(([x1_1.1]:List S28)).length,(([x1_1.1]:List S28)).flatMap e29⟩,false,false,([]:List (List Nat)),([]:List (List Nat))⟩:S28),x1_1.2))) else (bT (F.c8 z8.2) fun x2_1=>qPe k F a0 a3 k x2_1.2.1 x2_1.2.2 x2_1.1)) (fun j8=>if (decide (a0 ≤ 0)) then (bT (c7 k ([99,97,116,99,104]:List Nat) a3) fun x0_4=>j8 (x0_4.1,x0_4.2)) else (j8 (false,a3)))
def qPb (k:Nat) (F:Cns)  (ih:(List Tkn) → (List S28) → Option (Option (S28 × (List Tkn)))):(List Tkn) → (List S28) → Option (Option (S28 × (List Tkn))) :=
 fun (y5_0:(List Tkn)) (y5_1:(List S28))=>jn (fun (z6:Bool × (List Tkn) × (List S28))=>(c12 k z6.2.1).bind fun x1_1=>bT (F.c5 (0:Int) x1_1.2) fun x2_1=>(appS 104 z6.2.2 ([(⟨x2_1.1.f0,x2_1.1.f1,x2_1.1.f2,x2_1.1.f3,z6.1,x1_1.1,x2_1.1.f6⟩:S28)]:List S28)).bind fun x3_4=>bT (c7 k ([44]:List Nat) x2_1.2) fun x4_1=>if x4_1.1 then (ih x4_1.2 x3_4) else (some (some ((⟨(25:Int),([]:List Nat),⟨(x3_4).length,(x3_4).flatMap e29⟩,false,false,([]:List (List Nat)),([]:List (List Nat))⟩:S28),x4_1.2)))) (fun j6=>if (decide (0 < (y5_1.length:Int))) then ((cBlank y5_0).bind fun x0_17=>j6 (x0_17,y5_0,y5_1)) else (j6 (false,y5_0,y5_1)))
def c6_l5 (k:Nat) (F:Cns)  (n:Nat):(List Tkn) → (List S28) → Option (Option (S28 × (List Tkn))):=lp (fun _ _=>none) (qPb k F ) n
def c6B (k:Nat) (F:Cns) (a2:(List Tkn)):Option (Option (S28 × (List Tkn))) :=
 c6_l5 k F  k a2 ([]:List S28)
def c8B (k:Nat) (F:Cns) (a2:(List Tkn)):Option (Option (S28 × Int × (List Tkn))) :=
 (c9 k a2).bind fun x0_1=>(c10 k x0_1.f1 a2).bind fun x1_3=>jn (fun (z7:Bool)=>if z7 then (bT (c11 k a2) fun x2_1=>bT (F.c8 x2_1) fun x3_1=>(g65 k x0_1.f1).bind fun x4_7=>some (some ((⟨(13:Int),x0_1.f1,⟨(([x3_1.1]:List S28)).length,(([x3_1.1]:List S28)).flatMap e29⟩,false,false,([]:List (List Nat)),([]:List (List Nat))⟩:S28),x4_7,x3_1.2.2))) else (bT (F.c13 a2) fun x5_1=>bT (F.c14 x5_1.1 x5_1.2.1 x5_1.2.2) fun x6_3=>some (some (x6_3.1,(11:Int),x6_3.2)))) (fun j7=>if x1_3 then ((g65 k x0_1.f1).bind fun x1_7=>j7 (decide (0 < x1_7))) else (j7 false))
def c13B (k:Nat) (F:Cns) (a2:(List Tkn)):Option (Option (S28 × Bool × (List Tkn))) :=
 (c9 k a2).bind fun x0_1=>(g75 k x0_1.f0).bind fun x1_2=>if x1_2 then (bT (c11 k a2) fun x2_1=>some (some ((⟨(1:Int),x0_1.f1,⟨0,[]⟩,false,false,([]:List (List Nat)),([]:List (List Nat))⟩:S28),false,x2_1))) else (bT (c7 k ([40]:List Nat) a2) fun x3_1=>if x3_1.1 then (bT (F.c17 x3_1.2) fun x4_1=>some (some (x4_1.1,true,x4_1.2))) else (bT (c7 k ([123]:List Nat) x3_1.2) fun x5_1=>if x5_1.1 then (bT (F.c18 (4:Int) ([]:List Nat) false false ([]:List (List Nat)) ([]:List (List Nat)) ([125]:List Nat) x5_1.2 ([]:List S28)) fun x6_4=>some (some ((⟨x6_4.1,x6_4.2.1,⟨(x6_4.2.2.2.2.2.2.2).length,(x6_4.2.2.2.2.2.2.2).flatMap e29⟩,x6_4.2.2.1,x6_4.2.2.2.1,x6_4.2.2.2.2.1,x6_4.2.2.2.2.2.1⟩:S28),false,x6_4.2.2.2.2.2.2.1))) else (bT (c7 k ([91]:List Nat) x5_1.2) fun x7_1=>if x7_1.1 then (bT (F.c19 x7_1.2) fun x8_1=>some (some (x8_1.1,false,x8_1.2))) else (bT (c7 k ([60,60]:List Nat) x7_1.2) fun x9_1=>if x9_1.1 then (bT (F.c20 (6:Int) ([]:List Nat) false false ([]:List (List Nat)) ([]:List (List Nat)) ([62,62]:List Nat) x9_1.2 ([]:List S28)) fun x10_4=>some (some ((⟨x10_4.1,x10_4.2.1,⟨(x10_4.2.2.2.2.2.2.2).length,(x10_4.2.2.2.2.2.2.2).flatMap e29⟩,x10_4.2.2.1,x10_4.2.2.2.1,x10_4.2.2.2.2.1,x10_4.2.2.2.2.2.1⟩:S28),false,x10_4.2.2.2.2.2.2.1))) else (bT (c7 k ([35]:List Nat) x9_1.2) fun x11_1=>if x11_1.1 then (bT (c7 k ([123]:List Nat) x11_1.2) fun x12_1=>if x12_1.1 then (bT (F.c21 (8:Int) ([]:List Nat) false false ([]:List (List Nat)) ([]:List (List Nat)) ([125]:List Nat) x12_1.2 ([]:List S28)) fun x13_4=>some (some ((⟨x13_4.1,x13_4.2.1,⟨(x13_4.2.2.2.2.2.2.2).length,(x13_4.2.2.2.2.2.2.2).flatMap e29⟩,x13_4.2.2.1,x13_4.2.2.2.1,x13_4.2.2.2.2.1,x13_4.2.2.2.2.2.1⟩:S28),false,x13_4.2.2.2.2.2.2.1))) else (bT (c22 k x12_1.2) fun x14_1=>bT (c23 k ([123]:List Nat) x14_1.2) fun x15_1=>bT (F.c18 (10:Int) x14_1.1 false false ([]:List (List Nat)) ([]:List (List Nat)) ([125]:List Nat) x15_1 ([]:List S28)) fun x16_5=>some (some ((⟨x16_5.1,x16_5.2.1,⟨(x16_5.2.2.2.2.2.2.2).length,(x16_5.2.2.2.2.2.2.2).flatMap e29⟩,x16_5.2.2.1,x16_5.2.2.2.1,x16_5.2.2.2.2.1,x16_5.2.2.2.2.2.1⟩:S28),false,x16_5.2.2.2.2.2.2.1)))) else (bT (F.c24 x11_1.2) fun x17_1=>some (some (x17_1.1,false,x17_1.2))))))))
def qJ8 (k:Nat) (F:Cns) (a4:(List Tkn)) (ih:Bool → (List Tkn) → S28 → Option (Option (S28 × (List Tkn)))):Bool → (List Tkn) → S28 → Option (Option (S28 × (List Tkn))) :=
 fun (y7_0:Bool) (y7_1:(List Tkn)) (y7_2:S28)=>jn (fun (z8:Bool × Bool × (List Tkn) × S28)=>if z8.1 then (some (some (z8.2.2.2,z8.2.2.1))) else (bT (c7 k ([40]:List Nat) z8.2.2.1) fun x1_1=>jn (fun (z9:(List Tkn) × S28)=>ih false z9.1 z9.2) (fun j9=>if x1_1.1 then (bT (F.c18 (2:Int) ([]:List Nat) false false ([]:List (List Nat)) ([]:List (List Nat)) ([41]:List Nat) x1_1.2 ([z8.2.2.2]:List S28)) fun x2_6=>j9 (x2_6.2.2.2.2.2.2.1,(⟨x2_6.1,x2_6.2.1,(⟨(x2_6.2.2.2.2.2.2.2).length,(x2_6.2.2.2.2.2.2.2).flatMap e29⟩:Raw),x2_6.2.2.1,x2_6.2.2.2.1,x2_6.2.2.2.2.1,x2_6.2.2.2.2.2.1⟩:S28))) else (jn (fun (z10:Bool × (List Tkn) × S28)=>if z10.1 then (bT (F.c25 z10.2.1) fun x4_2=>j9 (x4_2.2,(⟨3,([]:List Nat),(⟨(([z10.2.2,x4_2.1]:List S28)).length,(([z10.2.2,x4_2.1]:List S28)).flatMap e29⟩:Raw),false,false,([]:List (List Nat)),([]:List (List Nat))⟩:S28))) else (bT (c7 k ([35]:List Nat) z10.2.1) fun x5_1=>if x5_1.1 then (bT (F.c26 z10.2.2 x5_1.2) fun x6_2=>j9 (x6_2.2,x6_2.1)) else (some (some (z10.2.2,x5_1.2))))) (fun j10=>if (!decide (z8.2.2.2.f0 = 3)) then (if z8.2.1 then (bT (c7 k ([58]:List Nat) x1_1.2) fun x3_13=>j10 (x3_13.1,x3_13.2,z8.2.2.2)) else (if (decide (z8.2.2.2.f0 = 1)) then (bT (c7 k ([58]:List Nat) x1_1.2) fun x3_13=>j10 (x3_13.1,x3_13.2,z8.2.2.2)) else (j10 (false,x1_1.2,z8.2.2.2)))) else (j10 (false,x1_1.2,z8.2.2.2))))))) (fun j8=>if (!y7_0) then ((g85 k y7_2).bind fun x0_4=>j8 (!x0_4,y7_0,y7_1,y7_2)) else (j8 (false,y7_0,y7_1,y7_2)))
def qFl (k:Nat) (F:Cns) (a4:(List Tkn)) (n:Nat):Bool → (List Tkn) → S28 → Option (Option (S28 × (List Tkn))):=lp (fun _ _ _=>none) (qJ8 k F a4) n
def c14B (k:Nat) (F:Cns) (a0:S28) (a1:Bool) (a4:(List Tkn)):Option (Option (S28 × (List Tkn))) :=
 qFl k F a4 k a1 a4 a0
def c17B (k:Nat) (F:Cns) (a2:(List Tkn)):Option (Option (S28 × (List Tkn))):=none
def qC3 (k:Nat) (F:Cns) (a0:Int) (a1:(List Nat)) (a3:Bool) (a4:(List (List Nat))) (a5:(List (List Nat))) (a6:(List Nat)) (x0_1:Bool) (ih:(List (List Nat)) → (List Tkn) → (List S28) → Option (Option (Int × (List Nat) × Bool × Bool × (List (List Nat)) × (List (List Nat)) × (List Tkn) × (List S28)))):(List (List Nat)) → (List Tkn) → (List S28) → Option (Option (Int × (List Nat) × Bool × Bool × (List (List Nat)) × (List (List Nat)) × (List Tkn) × (List S28))) :=
 fun (y10_0:(List (List Nat))) (y10_1:(List Tkn)) (y10_2:(List S28))=>bT (F.c29 y10_1) fun x3_1=>(appS 104 y10_2 ([(⟨x3_1.1.f0,x3_1.1.f1,x3_1.1.f2,x3_1.1.f3,x3_1.1.f4,y10_0,x3_1.1.f6⟩:S28)]:List S28)).bind fun x4_4=>(c12 k x3_1.2).bind fun x5_1=>bT (c7 k a6 x5_1.2) fun x6_2=>if x6_2.1 then (some (some (a0,a1,x0_1,a3,a4,x5_1.1,x6_2.2,x4_4))) else (bT (i16 k (decide ((x5_1.1.length:Int) = 0))) fun x7_3=>bT (c23 k ([44]:List Nat) x6_2.2) fun x8_1=>(c12 k x8_1).bind fun x9_1=>ih x9_1.1 x9_1.2 x4_4)
def qDg (k:Nat) (F:Cns) (a0:Int) (a1:(List Nat)) (a3:Bool) (a4:(List (List Nat))) (a5:(List (List Nat))) (a6:(List Nat)) (x0_1:Bool) (n:Nat):(List (List Nat)) → (List Tkn) → (List S28) → Option (Option (Int × (List Nat) × Bool × Bool × (List (List Nat)) × (List (List Nat)) × (List Tkn) × (List S28))):=lp (fun _ _ _=>none) (qC3 k F a0 a1 a3 a4 a5 a6 x0_1) n
def c18B (k:Nat) (F:Cns) (a0:Int) (a1:(List Nat)) (a2:Bool) (a3:Bool) (a4:(List (List Nat))) (a5:(List (List Nat))) (a6:(List Nat)) (a9:(List Tkn)) (b1:(List S28)):Option (Option (Int × (List Nat) × Bool × Bool × (List (List Nat)) × (List (List Nat)) × (List Tkn) × (List S28))) :=
 (c28 k a9).bind fun x0_1=>(c12 k a9).bind fun x1_1=>bT (c7 k a6 x1_1.2) fun x2_2=>if x2_2.1 then (some (some (a0,a1,x0_1,a3,a4,x1_1.1,x2_2.2,b1))) else (qDg k F a0 a1 a3 a4 a5 a6  x0_1 k x1_1.1 x2_2.2 b1)
def qC2 (k:Nat) (F:Cns) (a2:(List Tkn)) (x0_1:Bool) (ih:(List (List Nat)) → (List Tkn) → (List S28) → S28 → Option (Option (S28 × (List Tkn)))):(List (List Nat)) → (List Tkn) → (List S28) → S28 → Option (Option (S28 × (List Tkn))) :=
 fun (y18_0:(List (List Nat))) (y18_1:(List Tkn)) (y18_2:(List S28)) (y18_3:S28)=>(appS 104 y18_2 ([(⟨y18_3.f0,y18_3.f1,y18_3.f2,y18_3.f3,y18_3.f4,y18_0,y18_3.f6⟩:S28)]:List S28)).bind fun x6_4=>bT (c7 k ([124]:List Nat) y18_1) fun x7_1=>if x7_1.1 then (bT (F.c5 (3:Int) x7_1.2) fun x8_3=>(appS 104 x6_4 ([x8_3.1]:List S28)).bind fun x8_5=>(c12 k x8_3.2).bind fun x9_1=>bT (c23 k ([93]:List Nat) x9_1.2) fun x10_1=>some (some ((⟨(5:Int),([124]:List Nat),⟨(x8_5).length,(x8_5).flatMap e29⟩,x0_1,false,([]:List (List Nat)),x9_1.1⟩:S28),x10_1))) else ((c12 k x7_1.2).bind fun x11_1=>bT (c7 k ([93]:List Nat) x11_1.2) fun x12_1=>if x12_1.1 then (some (some ((⟨(5:Int),([]:List Nat),⟨(x6_4).length,(x6_4).flatMap e29⟩,x0_1,false,([]:List (List Nat)),x11_1.1⟩:S28),x12_1.2))) else (bT (i16 k (decide ((x11_1.1.length:Int) = 0))) fun x13_3=>bT (c23 k ([44]:List Nat) x12_1.2) fun x14_1=>(c12 k x14_1).bind fun x15_1=>bT (F.c5 (3:Int) x15_1.2) fun x16_1=>ih x15_1.1 x16_1.2 x6_4 x16_1.1))
def qDf (k:Nat) (F:Cns) (a2:(List Tkn)) (x0_1:Bool) (n:Nat):(List (List Nat)) → (List Tkn) → (List S28) → S28 → Option (Option (S28 × (List Tkn))):=lp (fun _ _ _ _=>none) (qC2 k F a2 x0_1) n
def c19B (k:Nat) (F:Cns) (a2:(List Tkn)):Option (Option (S28 × (List Tkn))) :=
 (c28 k a2).bind fun x0_1=>(c12 k a2).bind fun x1_1=>bT (c7 k ([93]:List Nat) x1_1.2) fun x2_1=>if x2_1.1 then (some (some ((⟨(5:Int),([]:List Nat),⟨(([]:List S28)).length,(([]:List S28)).flatMap e29⟩,x0_1,false,([]:List (List Nat)),x1_1.1⟩:S28),x2_1.2))) else (bT (F.c5 (3:Int) x2_1.2) fun x3_1=>jn (fun (z17:Bool × (List Tkn))=>if z17.1 then (bT (F.c30 (15:Int) ([]:List Nat) x0_1 false ([]:List (List Nat)) ([]:List (List Nat)) z17.2 ([x3_1.1]:List S28)) fun x5_6=>some (some ((⟨x5_6.1,x5_6.2.1,⟨(x5_6.2.2.2.2.2.2.2).length,(x5_6.2.2.2.2.2.2.2).flatMap e29⟩,x5_6.2.2.1,x5_6.2.2.2.1,x5_6.2.2.2.2.1,x5_6.2.2.2.2.2.1⟩:S28),x5_6.2.2.2.2.2.2.1))) else (qDf k F a2 x0_1 k x1_1.1 z17.2 ([]:List S28) x3_1.1)) (fun j17=>if (decide ((x1_1.1.length:Int) = 0)) then (bT (c7 k ([124,124]:List Nat) x3_1.2) fun x4_5=>j17 (x4_5.1,x4_5.2)) else (j17 (false,x3_1.2))))
def c20B (k:Nat) (F:Cns) (a0:Int) (a1:(List Nat)) (a2:Bool) (a3:Bool) (a4:(List (List Nat))) (a5:(List (List Nat))) (a6:(List Nat)) (a9:(List Tkn)) (b1:(List S28)):Option (Option (Int × (List Nat) × Bool × Bool × (List (List Nat)) × (List (List Nat)) × (List Tkn) × (List S28))):=none
def qC1 (k:Nat) (F:Cns) (a0:Int) (a1:(List Nat)) (a3:Bool) (a4:(List (List Nat))) (a5:(List (List Nat))) (a6:(List Nat)) (x0_1:Bool) (ih:(List (List Nat)) → (List Tkn) → (List S28) → Option (Option (Int × (List Nat) × Bool × Bool × (List (List Nat)) × (List (List Nat)) × (List Tkn) × (List S28)))):(List (List Nat)) → (List Tkn) → (List S28) → Option (Option (Int × (List Nat) × Bool × Bool × (List (List Nat)) × (List (List Nat)) × (List Tkn) × (List S28))) :=
 fun (y10_0:(List (List Nat))) (y10_1:(List Tkn)) (y10_2:(List S28))=>bT (F.c32 y10_1) fun x3_1=>(appS 104 y10_2 ([(⟨x3_1.1.f0,x3_1.1.f1,x3_1.1.f2,x3_1.1.f3,x3_1.1.f4,y10_0,x3_1.1.f6⟩:S28)]:List S28)).bind fun x4_4=>(c12 k x3_1.2).bind fun x5_1=>bT (c7 k a6 x5_1.2) fun x6_2=>if x6_2.1 then (some (some (a0,a1,x0_1,a3,a4,x5_1.1,x6_2.2,x4_4))) else (bT (i16 k (decide ((x5_1.1.length:Int) = 0))) fun x7_3=>bT (c23 k ([44]:List Nat) x6_2.2) fun x8_1=>(c12 k x8_1).bind fun x9_1=>ih x9_1.1 x9_1.2 x4_4)
def qDe (k:Nat) (F:Cns) (a0:Int) (a1:(List Nat)) (a3:Bool) (a4:(List (List Nat))) (a5:(List (List Nat))) (a6:(List Nat)) (x0_1:Bool) (n:Nat):(List (List Nat)) → (List Tkn) → (List S28) → Option (Option (Int × (List Nat) × Bool × Bool × (List (List Nat)) × (List (List Nat)) × (List Tkn) × (List S28))):=lp (fun _ _ _=>none) (qC1 k F a0 a1 a3 a4 a5 a6 x0_1) n
def c21B (k:Nat) (F:Cns) (a0:Int) (a1:(List Nat)) (a2:Bool) (a3:Bool) (a4:(List (List Nat))) (a5:(List (List Nat))) (a6:(List Nat)) (a9:(List Tkn)) (b1:(List S28)):Option (Option (Int × (List Nat) × Bool × Bool × (List (List Nat)) × (List (List Nat)) × (List Tkn) × (List S28))) :=
 (c28 k a9).bind fun x0_1=>(c12 k a9).bind fun x1_1=>bT (c7 k a6 x1_1.2) fun x2_2=>if x2_2.1 then (some (some (a0,a1,x0_1,a3,a4,x1_1.1,x2_2.2,b1))) else (qDe k F a0 a1 a3 a4 a5 a6  x0_1 k x1_1.1 x2_2.2 b1)
def c24B (k:Nat) (F:Cns) (a2:(List Tkn)):Option (Option (S28 × (List Tkn))) :=
 bT (c7 k ([102,117,110]:List Nat) a2) fun x0_1=>if x0_1.1 then ((c10 k ([40]:List Nat) x0_1.2).bind fun x1_1=>if x1_1 then (bT (F.c34 x0_1.2) fun x2_1=>some (some (x2_1.1,x2_1.2))) else (bT (c35 k x0_1.2) fun x3_1=>some (some (x3_1.1,x3_1.2)))) else (bT (c7 k ([99,97,115,101]:List Nat) x0_1.2) fun x4_1=>if x4_1.1 then (bT (F.c5 (0:Int) x4_1.2) fun x5_1=>bT (c23 k ([111,102]:List Nat) x5_1.2) fun x6_1=>bT (F.c36 (18:Int) ([]:List Nat) false false ([]:List (List Nat)) ([]:List (List Nat)) x6_1 ([x5_1.1]:List S28)) fun x7_4=>some (some ((⟨x7_4.1,x7_4.2.1,⟨(x7_4.2.2.2.2.2.2.2).length,(x7_4.2.2.2.2.2.2.2).flatMap e29⟩,x7_4.2.2.1,x7_4.2.2.2.1,x7_4.2.2.2.2.1,x7_4.2.2.2.2.2.1⟩:S28),x7_4.2.2.2.2.2.2.1))) else (bT (c7 k ([105,102]:List Nat) x4_1.2) fun x8_1=>if x8_1.1 then (bT (F.c37 (19:Int) ([]:List Nat) false false ([]:List (List Nat)) ([]:List (List Nat)) x8_1.2 ([]:List S28)) fun x9_4=>some (some ((⟨x9_4.1,x9_4.2.1,⟨(x9_4.2.2.2.2.2.2.2).length,(x9_4.2.2.2.2.2.2.2).flatMap e29⟩,x9_4.2.2.1,x9_4.2.2.2.1,x9_4.2.2.2.2.1,x9_4.2.2.2.2.2.1⟩:S28),x9_4.2.2.2.2.2.2.1))) else (bT (c7 k i24c0 x8_1.2) fun x10_1=>if x10_1.1 then (bT (F.c38 x10_1.2) fun x11_1=>some (some (x11_1.1,x11_1.2))) else (bT (c23 k i24c1 x10_1.2) fun x12_1=>bT (F.c6 x12_1) fun x13_1=>(c12 k x13_1.2).bind fun x14_1=>bT (c23 k ([101,110,100]:List Nat) x14_1.2) fun x15_1=>some (some ((⟨(21:Int),([]:List Nat),⟨(([x13_1.1]:List S28)).length,(([x13_1.1]:List S28)).flatMap e29⟩,false,false,([]:List (List Nat)),x14_1.1⟩:S28),x15_1))))))
def c25B (k:Nat) (F:Cns) (a2:(List Tkn)):Option (Option (S28 × (List Tkn))):=none
def c26B (k:Nat) (F:Cns) (a0:S28) (a3:(List Tkn)):Option (Option (S28 × (List Tkn))) :=
 bT (c7 k ([123]:List Nat) a3) fun x0_1=>if x0_1.1 then (bT (F.c21 (9:Int) ([]:List Nat) false false ([]:List (List Nat)) ([]:List (List Nat)) ([125]:List Nat) x0_1.2 ([a0]:List S28)) fun x1_6=>some (some ((⟨x1_6.1,x1_6.2.1,⟨(x1_6.2.2.2.2.2.2.2).length,(x1_6.2.2.2.2.2.2.2).flatMap e29⟩,x1_6.2.2.1,x1_6.2.2.2.1,x1_6.2.2.2.2.1,x1_6.2.2.2.2.2.1⟩:S28),x1_6.2.2.2.2.2.2.1))) else (bT (c22 k x0_1.2) fun x2_1=>bT (c7 k ([46]:List Nat) x2_1.2) fun x3_1=>if x3_1.1 then ((catS x2_1.1 ([46]:List Nat)).bind fun x4_1=>bT (c33 k ([(1:Int)]:List Int) x3_1.2) fun x4_4=>(catS x4_1 x4_4.1).bind fun x4_5=>some (some ((⟨(12:Int),x4_5,⟨(([a0]:List S28)).length,(([a0]:List S28)).flatMap e29⟩,false,false,([]:List (List Nat)),([]:List (List Nat))⟩:S28),x4_4.2))) else (bT (c23 k ([123]:List Nat) x3_1.2) fun x5_1=>bT (F.c18 (11:Int) x2_1.1 false false ([]:List (List Nat)) ([]:List (List Nat)) ([125]:List Nat) x5_1 ([a0]:List S28)) fun x6_7=>some (some ((⟨x6_7.1,x6_7.2.1,⟨(x6_7.2.2.2.2.2.2.2).length,(x6_7.2.2.2.2.2.2.2).flatMap e29⟩,x6_7.2.2.1,x6_7.2.2.2.1,x6_7.2.2.2.2.1,x6_7.2.2.2.2.2.1⟩:S28),x6_7.2.2.2.2.2.2.1))))
def c29B (k:Nat) (F:Cns) (a2:(List Tkn)):Option (Option (S28 × (List Tkn))) :=
 bT (F.c5 (0:Int) a2) fun x0_1=>some (some (x0_1.1,x0_1.2))
def c30B (k:Nat) (F:Cns) (a0:Int) (a1:(List Nat)) (a2:Bool) (a3:Bool) (a4:(List (List Nat))) (a5:(List (List Nat))) (a8:(List Tkn)) (b1:(List S28)):Option (Option (Int × (List Nat) × Bool × Bool × (List (List Nat)) × (List (List Nat)) × (List Tkn) × (List S28))):=none
def c31B (k:Nat) (F:Cns) (a2:(List Tkn)):Option (Option (S28 × (List Tkn))):=none
def qJ3 (k:Nat) (F:Cns) (a2:(List Tkn)) (x0_1:(S28 × (List Tkn))) (ih:Int → (List Tkn) → Option (Option (S28 × (List Tkn)))):Int → (List Tkn) → Option (Option (S28 × (List Tkn))) :=
 fun (y4_0:Int) (y4_1:(List Tkn))=>if (decide (y4_0 < (i32c0.length:Int))) then ((nthL i32c0 y4_0).bind fun x1_0=>bT (c7 k x1_0 y4_1) fun x2_2=>if x2_2.1 then (bT (F.c5 (1:Int) x2_2.2) fun x3_3=>some (some ((⟨(14:Int),x1_0,⟨(([x0_1.1,x3_3.1]:List S28)).length,(([x0_1.1,x3_3.1]:List S28)).flatMap e29⟩,false,false,([]:List (List Nat)),([]:List (List Nat))⟩:S28),x3_3.2))) else (ih (fW .i64 (y4_0 + 1)) x2_2.2)) else (some (some (x0_1.1,y4_1)))
def qPf (k:Nat) (F:Cns) (a2:(List Tkn)) (x0_1:(S28 × (List Tkn))) (n:Nat):Int → (List Tkn) → Option (Option (S28 × (List Tkn))):=lp (fun _ _=>none) (qJ3 k F a2 x0_1) n
def c32B (k:Nat) (F:Cns) (a2:(List Tkn)):Option (Option (S28 × (List Tkn))) :=
 bT (F.c5 (1:Int) a2) fun x0_1=>qPf k F a2 x0_1 k 0 x0_1.2
def c34B (k:Nat) (F:Cns) (a2:(List Tkn)):Option (Option (S28 × (List Tkn))):=none
def c36B (k:Nat) (F:Cns) (a0:Int) (a1:(List Nat)) (a2:Bool) (a3:Bool) (a4:(List (List Nat))) (a5:(List (List Nat))) (a8:(List Tkn)) (b1:(List S28)):Option (Option (Int × (List Nat) × Bool × Bool × (List (List Nat)) × (List (List Nat)) × (List Tkn) × (List S28))):=none
def c37B (k:Nat) (F:Cns) (a0:Int) (a1:(List Nat)) (a2:Bool) (a3:Bool) (a4:(List (List Nat))) (a5:(List (List Nat))) (a8:(List Tkn)) (b1:(List S28)):Option (Option (Int × (List Nat) × Bool × Bool × (List (List Nat)) × (List (List Nat)) × (List Tkn) × (List S28))):=none
def c38B (k:Nat) (F:Cns) (a2:(List Tkn)):Option (Option (S28 × (List Tkn))):=none
def c40B (k:Nat) (F:Cns) (a0:(List (List Nat))) (a3:(List Tkn)):Option (Option ((List S28) × (List Tkn))):=none
def c41B (k:Nat) (F:Cns) (a0:(List (List Nat))) (a3:(List Tkn)):Option (Option ((List S28) × (List Tkn))):=none
def c42B (k:Nat) (F:Cns) (a0:(List (List Nat))) (a3:(List Tkn)):Option (Option ((List S28) × (List Tkn))):=none
def c43B (k:Nat) (F:Cns) (a0:(List (List Nat))) (a3:(List Tkn)):Option (Option ((List Tkn) × (List S28))):=none
def c44B (k:Nat) (F:Cns) (a2:(List Tkn)):Option (Option (S28 × (List Tkn))):=none
def c45B (k:Nat) (F:Cns) (a2:(List Tkn)):Option (Option (S28 × (List Tkn))):=none
def c46B (k:Nat) (F:Cns) (a2:(List Tkn)):Option (Option (S28 × (List Tkn))):=none
def c47B (k:Nat) (F:Cns) (a0:(List Nat)) (a1:S28) (a2:S28) (a5:(List Tkn)):Option (Option (S28 × (List Tkn))):=none
def c48B (k:Nat) (F:Cns) (a0:(List Nat)) (a3:(List Tkn)):Option (Option (S28 × (List Tkn))):=none
def c49B (k:Nat) (F:Cns) (a2:(List Tkn)):Option (Option (S28 × (List Tkn))):=none
def c50B (k:Nat) (F:Cns) (a2:(List Tkn)):Option (Option (S28 × (List Tkn))):=none
def c51B (k:Nat) (F:Cns) (a2:(List Tkn)):Option (Option (S28 × (List Tkn))):=none
def c52B (k:Nat) (F:Cns) (a2:(List Tkn)):Option (Option (S28 × (List Tkn))):=none
def cpar (K n:Nat):Cns:=Nat.rec (motive:=fun _=>Cns) ⟨fun _ _=>none,fun _=>none,fun _=>none,fun _=>none,fun _ _ _=>none,fun _=>none,fun _ _ _ _ _ _ _ _ _=>none,fun _=>none,fun _ _ _ _ _ _ _ _ _=>none,fun _ _ _ _ _ _ _ _ _=>none,fun _=>none,fun _=>none,fun _ _=>none,fun _=>none,fun _ _ _ _ _ _ _ _=>none,fun _=>none,fun _=>none,fun _=>none,fun _ _ _ _ _ _ _ _=>none,fun _ _ _ _ _ _ _ _=>none,fun _=>none,fun _ _=>none,fun _ _=>none,fun _ _=>none,fun _ _=>none,fun _=>none,fun _=>none,fun _=>none,fun _ _ _ _=>none,fun _ _=>none,fun _=>none,fun _=>none,fun _=>none,fun _=>none⟩ (fun j F=>⟨c5B (K + j) F,c6B (K + j) F,c8B (K + j) F,c13B (K + j) F,c14B (K + j) F,c17B (K + j) F,c18B (K + j) F,c19B (K + j) F,c20B (K + j) F,c21B (K + j) F,c24B (K + j) F,c25B (K + j) F,c26B (K + j) F,c29B (K + j) F,c30B (K + j) F,c31B (K + j) F,c32B (K + j) F,c34B (K + j) F,c36B (K + j) F,c37B (K + j) F,c38B (K + j) F,c40B (K + j) F,c41B (K + j) F,c42B (K + j) F,c43B (K + j) F,c44B (K + j) F,c45B (K + j) F,c46B (K + j) F,c47B (K + j) F,c48B (K + j) F,c49B (K + j) F,c50B (K + j) F,c51B (K + j) F,c52B (K + j) F⟩) n
end
theorem qPc {k:Nat} {s:List Nat} {L:List S33} {to:Int} {W:(List Tkn)} (hv:Vw k s L to W) {F:Fns0} {C:Cns} (hF:SimC s L to W F C)  (a0:Int) (a3:(List Tkn)):∀ (n:Nat) (y9_0:Int) (y9_1:(List Tkn)) (y9_2:S28),y9_1 <:+ W → SimN (Option.map (fun x=>(x.1,pos to x.2))) (oTh (fun x=>x.2 <:+ W)) (qNf k F a0 s L (pos to a3) to n y9_0 (pos to y9_1) y9_2) (qPe k C a0 a3 n y9_0 y9_1 y9_2):=by
 intro n
 induction n with
 | zero=>intro y9_0 y9_1 y9_2 _; exact sZ
 | succ n ih =>
  intro y9_0 y9_1 y9_2 hy
  show SimN (Option.map (fun x=>(x.1,pos to x.2))) (oTh (fun x=>x.2 <:+ W)) (qH5 k F a0 s L (pos to a3) to (qNf k F a0 s L (pos to a3) to n) y9_0 (pos to y9_1) y9_2) (qPd k C a0 a3 (qPe k C a0 a3 n) y9_0 y9_1 y9_2)
  unfold qH5 qPd
  exact sJ (α:=((List Tkn) × S28)) (fun x=>(pos to x.1,x.2)) (fun x=>x.1 <:+ W) (fun z11 hz11=>sR (x:=(z11.2,z11.1)) hz11) (fun j11 j11' hj11=>sI (sB (qHg hv y9_1 hy) fun x3_1 hx3_1=>sE fun x4_2=>sB (qGg hv x3_1.f1 y9_1 hy) fun x5_3 hx5_3=>sJ (α:=(Bool × (List Tkn) × S28)) (fun x=>(x.1,pos to x.2.1,x.2.2)) (fun x=>x.2.1 <:+ W) (fun z10 hz10=>sI (hj11 (z10.2.1,z10.2.2) hz10) (sT (qEk hv z10.2.1 hz10) fun x6_1 hx6_1=>sE fun x7_6=>sT (hF.c5 x7_6 x6_1 hx6_1) fun x7_7 hx7_7=>ih x4_2 x7_7.2 (⟨14,x3_1.f1,(⟨(([z10.2.2,x7_7.1]:List S28)).length,(([z10.2.2,x7_7.1]:List S28)).flatMap e29⟩:Raw),false,false,([]:List (List Nat)),([]:List (List Nat))⟩:S28) hx7_7)) (fun j10 j10' hj10=>sI (hj10 (true,y9_1,y9_2) hy) (sI (hj10 (true,y9_1,y9_2) hy) (sE fun x5_15=>hj10 (decide (y9_0 < x5_15),y9_1,y9_2) hy)))) (hj11 (y9_1,y9_2) hy))
theorem c5B_sim {k:Nat} {s:List Nat} {L:List S33} {to:Int} {W:(List Tkn)} (hv:Vw k s L to W) {F:Fns0} {C:Cns} (hF:SimC s L to W F C) (a0:Int) (a3:(List Tkn)) (h:a3 <:+ W):SimN (Option.map (fun x=>(x.1,pos to x.2))) (oTh (fun x=>x.2 <:+ W)) (i5B k F a0 s L (pos to a3) to) (c5B k C a0 a3):=by
 unfold i5B c5B
 exact sJ (α:=(Bool × (List Tkn))) (fun x=>(x.1,pos to x.2)) (fun x=>x.2 <:+ W) (fun z8 hz8=>sI (sT (hF.c5 (0:Int) z8.2 hz8) fun x1_1 hx1_1=>sR (x:=((⟨(13:Int),([99,97,116,99,104]:List Nat),⟨(([x1_1.1]:List S28)).length,(([x1_1.1]:List S28)).flatMap e29⟩,false,false,([]:List (List Nat)),([]:List (List Nat))⟩:S28),x1_1.2)) hx1_1) (sT (hF.c8 z8.2 hz8) fun x2_1 hx2_1=>qPc hv hF a0 a3 k x2_1.2.1 x2_1.2.2 x2_1.1 hx2_1)) (fun j8 j8' hj8=>sI (sT (qAm hv ([99,97,116,99,104]:List Nat) a3 h) fun x0_4 hx0_4=>hj8 (x0_4.1,x0_4.2) hx0_4) (hj8 (false,a3) h))
theorem qPa {k:Nat} {s:List Nat} {L:List S33} {to:Int} {W:(List Tkn)} (hv:Vw k s L to W) {F:Fns0} {C:Cns} (hF:SimC s L to W F C)   : ∀ (n:Nat) (y5_0:(List Tkn)) (y5_1:(List S28)),y5_0 <:+ W → SimN (Option.map (fun x=>(x.1,pos to x.2))) (oTh (fun x=>x.2 <:+ W)) (qNd k F s L to n (pos to y5_0) y5_1) (c6_l5 k C  n y5_0 y5_1):=by
 intro n
 induction n with
 | zero=>intro y5_0 y5_1 _; exact sZ
 | succ n ih =>
  intro y5_0 y5_1 hy
  show SimN (Option.map (fun x=>(x.1,pos to x.2))) (oTh (fun x=>x.2 <:+ W)) (qH4 k F s L to (qNd k F s L to n) (pos to y5_0) y5_1) (qPb k C  (c6_l5 k C  n) y5_0 y5_1)
  unfold qH4 qPb
  exact sJ (α:=(Bool × (List Tkn) × (List S28))) (fun x=>(x.1,pos to x.2.1,x.2.2)) (fun x=>x.2.1 <:+ W) (fun z6 hz6=>sB (qBd hv z6.2.1 hz6) fun x1_1 hx1_1=>sT (hF.c5 (0:Int) x1_1.2 hx1_1) fun x2_1 hx2_1=>sE fun x3_4=>sT (qAm hv ([44]:List Nat) x2_1.2 hx2_1) fun x4_1 hx4_1=>sI (ih x4_1.2 x3_4 hx4_1) (sR (x:=((⟨(25:Int),([]:List Nat),⟨(x3_4).length,(x3_4).flatMap e29⟩,false,false,([]:List (List Nat)),([]:List (List Nat))⟩:S28),x4_1.2)) hx4_1)) (fun j6 j6' hj6=>sI (sB (qPl hv hy) fun x0_17 hx0_17=>hj6 (x0_17,y5_0,y5_1) hy) (hj6 (false,y5_0,y5_1) hy))
theorem c6B_sim {k:Nat} {s:List Nat} {L:List S33} {to:Int} {W:(List Tkn)} (hv:Vw k s L to W) {F:Fns0} {C:Cns} (hF:SimC s L to W F C) (a2:(List Tkn)) (h:a2 <:+ W):SimN (Option.map (fun x=>(x.1,pos to x.2))) (oTh (fun x=>x.2 <:+ W)) (i6B k F s L (pos to a2) to) (c6B k C a2):=by
 unfold i6B c6B
 exact qPa hv hF  k a2 ([]:List S28) h
theorem c8B_sim {k:Nat} {s:List Nat} {L:List S33} {to:Int} {W:(List Tkn)} (hv:Vw k s L to W) {F:Fns0} {C:Cns} (hF:SimC s L to W F C) (a2:(List Tkn)) (h:a2 <:+ W):SimN (Option.map (fun x=>(x.1,x.2.1,pos to x.2.2))) (oTh (fun x=>x.2.2 <:+ W)) (i8B k F s L (pos to a2) to) (c8B k C a2):=by
 unfold i8B c8B
 exact sB (qHg hv a2 h) fun x0_1 hx0_1=>sB (qGg hv x0_1.f1 a2 h) fun x1_3 hx1_3=>sJ (α:=Bool) (fun x=>x) (fun _=>True) (fun z7 hz7=>sI (sT (qEk hv a2 h) fun x2_1 hx2_1=>sT (hF.c8 x2_1 hx2_1) fun x3_1 hx3_1=>sE fun x4_7=>sR (x:=((⟨(13:Int),x0_1.f1,⟨(([x3_1.1]:List S28)).length,(([x3_1.1]:List S28)).flatMap e29⟩,false,false,([]:List (List Nat)),([]:List (List Nat))⟩:S28),x4_7,x3_1.2.2)) hx3_1) (sT (hF.c13 a2 h) fun x5_1 hx5_1=>sT (hF.c14 x5_1.1 x5_1.2.1 x5_1.2.2 hx5_1) fun x6_3 hx6_3=>sR (x:=(x6_3.1,(11:Int),x6_3.2)) hx6_3)) (fun j7 j7' hj7=>sI (sE fun x1_7=>hj7 (decide (0 < x1_7)) trivial) (hj7 false trivial))
theorem c13B_sim {k:Nat} {s:List Nat} {L:List S33} {to:Int} {W:(List Tkn)} (hv:Vw k s L to W) {F:Fns0} {C:Cns} (hF:SimC s L to W F C) (a2:(List Tkn)) (h:a2 <:+ W):SimN (Option.map (fun x=>(x.1,x.2.1,pos to x.2.2))) (oTh (fun x=>x.2.2 <:+ W)) (i13B k F s L (pos to a2) to) (c13B k C a2):=by
 unfold i13B c13B
 exact sB (qHg hv a2 h) fun x0_1 hx0_1=>sE fun x1_2=>sI (sT (qEk hv a2 h) fun x2_1 hx2_1=>sR (x:=((⟨(1:Int),x0_1.f1,⟨0,[]⟩,false,false,([]:List (List Nat)),([]:List (List Nat))⟩:S28),false,x2_1)) hx2_1) (sT (qAm hv ([40]:List Nat) a2 h) fun x3_1 hx3_1=>sI (sT (hF.c17 x3_1.2 hx3_1) fun x4_1 hx4_1=>sR (x:=(x4_1.1,true,x4_1.2)) hx4_1) (sT (qAm hv ([123]:List Nat) x3_1.2 hx3_1) fun x5_1 hx5_1=>sI (sT (hF.c18 (4:Int) ([]:List Nat) false false ([]:List (List Nat)) ([]:List (List Nat)) ([125]:List Nat) x5_1.2 ([]:List S28) hx5_1) fun x6_4 hx6_4=>sR (x:=((⟨x6_4.1,x6_4.2.1,⟨(x6_4.2.2.2.2.2.2.2).length,(x6_4.2.2.2.2.2.2.2).flatMap e29⟩,x6_4.2.2.1,x6_4.2.2.2.1,x6_4.2.2.2.2.1,x6_4.2.2.2.2.2.1⟩:S28),false,x6_4.2.2.2.2.2.2.1)) hx6_4) (sT (qAm hv ([91]:List Nat) x5_1.2 hx5_1) fun x7_1 hx7_1=>sI (sT (hF.c19 x7_1.2 hx7_1) fun x8_1 hx8_1=>sR (x:=(x8_1.1,false,x8_1.2)) hx8_1) (sT (qAm hv ([60,60]:List Nat) x7_1.2 hx7_1) fun x9_1 hx9_1=>sI (sT (hF.c20 (6:Int) ([]:List Nat) false false ([]:List (List Nat)) ([]:List (List Nat)) ([62,62]:List Nat) x9_1.2 ([]:List S28) hx9_1) fun x10_4 hx10_4=>sR (x:=((⟨x10_4.1,x10_4.2.1,⟨(x10_4.2.2.2.2.2.2.2).length,(x10_4.2.2.2.2.2.2.2).flatMap e29⟩,x10_4.2.2.1,x10_4.2.2.2.1,x10_4.2.2.2.2.1,x10_4.2.2.2.2.2.1⟩:S28),false,x10_4.2.2.2.2.2.2.1)) hx10_4) (sT (qAm hv ([35]:List Nat) x9_1.2 hx9_1) fun x11_1 hx11_1=>sI (sT (qAm hv ([123]:List Nat) x11_1.2 hx11_1) fun x12_1 hx12_1=>sI (sT (hF.c21 (8:Int) ([]:List Nat) false false ([]:List (List Nat)) ([]:List (List Nat)) ([125]:List Nat) x12_1.2 ([]:List S28) hx12_1) fun x13_4 hx13_4=>sR (x:=((⟨x13_4.1,x13_4.2.1,⟨(x13_4.2.2.2.2.2.2.2).length,(x13_4.2.2.2.2.2.2.2).flatMap e29⟩,x13_4.2.2.1,x13_4.2.2.2.1,x13_4.2.2.2.2.1,x13_4.2.2.2.2.2.1⟩:S28),false,x13_4.2.2.2.2.2.2.1)) hx13_4) (sT (qGf hv x12_1.2 hx12_1) fun x14_1 hx14_1=>sT (qBr hv ([123]:List Nat) x14_1.2 hx14_1) fun x15_1 hx15_1=>sT (hF.c18 (10:Int) x14_1.1 false false ([]:List (List Nat)) ([]:List (List Nat)) ([125]:List Nat) x15_1 ([]:List S28) hx15_1) fun x16_5 hx16_5=>sR (x:=((⟨x16_5.1,x16_5.2.1,⟨(x16_5.2.2.2.2.2.2.2).length,(x16_5.2.2.2.2.2.2.2).flatMap e29⟩,x16_5.2.2.1,x16_5.2.2.2.1,x16_5.2.2.2.2.1,x16_5.2.2.2.2.2.1⟩:S28),false,x16_5.2.2.2.2.2.2.1)) hx16_5)) (sT (hF.c24 x11_1.2 hx11_1) fun x17_1 hx17_1=>sR (x:=(x17_1.1,false,x17_1.2)) hx17_1))))))
theorem qLt {k:Nat} {s:List Nat} {L:List S33} {to:Int} {W:(List Tkn)} (hv:Vw k s L to W) {F:Fns0} {C:Cns} (hF:SimC s L to W F C)  (a4:(List Tkn)):∀ (n:Nat) (y7_0:Bool) (y7_1:(List Tkn)) (y7_2:S28),y7_1 <:+ W → SimN (Option.map (fun x=>(x.1,pos to x.2))) (oTh (fun x=>x.2 <:+ W)) (qH9 k F s L (pos to a4) to n y7_0 (pos to y7_1) y7_2) (qFl k C a4 n y7_0 y7_1 y7_2):=by
 intro n
 induction n with
 | zero=>intro y7_0 y7_1 y7_2 _; exact sZ
 | succ n ih =>
  intro y7_0 y7_1 y7_2 hy
  show SimN (Option.map (fun x=>(x.1,pos to x.2))) (oTh (fun x=>x.2 <:+ W)) (qEd k F s L (pos to a4) to (qH9 k F s L (pos to a4) to n) y7_0 (pos to y7_1) y7_2) (qJ8 k C a4 (qFl k C a4 n) y7_0 y7_1 y7_2)
  unfold qEd qJ8
  exact sJ (α:=(Bool × Bool × (List Tkn) × S28)) (fun x=>(x.1,x.2.1,pos to x.2.2.1,x.2.2.2)) (fun x=>x.2.2.1 <:+ W) (fun z8 hz8=>sI (sR (x:=(z8.2.2.2,z8.2.2.1)) hz8) (sT (qAm hv ([40]:List Nat) z8.2.2.1 hz8) fun x1_1 hx1_1=>sJ (α:=((List Tkn) × S28)) (fun x=>(pos to x.1,x.2)) (fun x=>x.1 <:+ W) (fun z9 hz9=>ih false z9.1 z9.2 hz9) (fun j9 j9' hj9=>sI (sT (hF.c18 (2:Int) ([]:List Nat) false false ([]:List (List Nat)) ([]:List (List Nat)) ([41]:List Nat) x1_1.2 ([z8.2.2.2]:List S28) hx1_1) fun x2_6 hx2_6=>hj9 (x2_6.2.2.2.2.2.2.1,(⟨x2_6.1,x2_6.2.1,(⟨(x2_6.2.2.2.2.2.2.2).length,(x2_6.2.2.2.2.2.2.2).flatMap e29⟩:Raw),x2_6.2.2.1,x2_6.2.2.2.1,x2_6.2.2.2.2.1,x2_6.2.2.2.2.2.1⟩:S28)) hx2_6) (sJ (α:=(Bool × (List Tkn) × S28)) (fun x=>(x.1,pos to x.2.1,x.2.2)) (fun x=>x.2.1 <:+ W) (fun z10 hz10=>sI (sT (hF.c25 z10.2.1 hz10) fun x4_2 hx4_2=>hj9 (x4_2.2,(⟨3,([]:List Nat),(⟨(([z10.2.2,x4_2.1]:List S28)).length,(([z10.2.2,x4_2.1]:List S28)).flatMap e29⟩:Raw),false,false,([]:List (List Nat)),([]:List (List Nat))⟩:S28)) hx4_2) (sT (qAm hv ([35]:List Nat) z10.2.1 hz10) fun x5_1 hx5_1=>sI (sT (hF.c26 z10.2.2 x5_1.2 hx5_1) fun x6_2 hx6_2=>hj9 (x6_2.2,x6_2.1) hx6_2) (sR (x:=(z10.2.2,x5_1.2)) hx5_1))) (fun j10 j10' hj10=>sI (sI (sT (qAm hv ([58]:List Nat) x1_1.2 hx1_1) fun x3_13 hx3_13=>hj10 (x3_13.1,x3_13.2,z8.2.2.2) hx3_13) (sI (sT (qAm hv ([58]:List Nat) x1_1.2 hx1_1) fun x3_13 hx3_13=>hj10 (x3_13.1,x3_13.2,z8.2.2.2) hx3_13) (hj10 (false,x1_1.2,z8.2.2.2) hx1_1))) (hj10 (false,x1_1.2,z8.2.2.2) hx1_1)))))) (fun j8 j8' hj8=>sI (sE fun x0_4=>hj8 (!x0_4,y7_0,y7_1,y7_2) hy) (hj8 (false,y7_0,y7_1,y7_2) hy))
theorem c14B_sim {k:Nat} {s:List Nat} {L:List S33} {to:Int} {W:(List Tkn)} (hv:Vw k s L to W) {F:Fns0} {C:Cns} (hF:SimC s L to W F C) (a0:S28) (a1:Bool) (a4:(List Tkn)) (h:a4 <:+ W):SimN (Option.map (fun x=>(x.1,pos to x.2))) (oTh (fun x=>x.2 <:+ W)) (i14B k F a0 a1 s L (pos to a4) to) (c14B k C a0 a1 a4):=by
 unfold i14B c14B
 exact qLt hv hF a4 k a1 a4 a0 h
theorem qJ7 {k:Nat} {s:List Nat} {L:List S33} {to:Int} {W:(List Tkn)} (hv:Vw k s L to W) {F:Fns0} {C:Cns} (hF:SimC s L to W F C)  (a0:Int) (a1:(List Nat)) (a3:Bool) (a4:(List (List Nat))) (a5:(List (List Nat))) (a6:(List Nat)) (x0_1:Bool):∀ (n:Nat) (y10_0:(List (List Nat))) (y10_1:(List Tkn)) (y10_2:(List S28)),y10_1 <:+ W → SimN (Option.map (fun x=>(x.1,x.2.1,x.2.2.1,x.2.2.2.1,x.2.2.2.2.1,x.2.2.2.2.2.1,pos to x.2.2.2.2.2.2.1,x.2.2.2.2.2.2.2))) (oTh (fun x=>x.2.2.2.2.2.2.1 <:+ W)) (qEc k F a0 a1 a3 a4 a5 a6 s L to x0_1 n y10_0 (pos to y10_1) y10_2) (qDg k C a0 a1 a3 a4 a5 a6 x0_1 n y10_0 y10_1 y10_2):=by
 intro n
 induction n with
 | zero=>intro y10_0 y10_1 y10_2 _; exact sZ
 | succ n ih =>
  intro y10_0 y10_1 y10_2 hy
  show SimN (Option.map (fun x=>(x.1,x.2.1,x.2.2.1,x.2.2.2.1,x.2.2.2.2.1,x.2.2.2.2.2.1,pos to x.2.2.2.2.2.2.1,x.2.2.2.2.2.2.2))) (oTh (fun x=>x.2.2.2.2.2.2.1 <:+ W)) (qD k F a0 a1 a3 a4 a5 a6 s L to x0_1 (qEc k F a0 a1 a3 a4 a5 a6 s L to x0_1 n) y10_0 (pos to y10_1) y10_2) (qC3 k C a0 a1 a3 a4 a5 a6 x0_1 (qDg k C a0 a1 a3 a4 a5 a6 x0_1 n) y10_0 y10_1 y10_2)
  unfold qD qC3
  exact sT (hF.c29 y10_1 hy) fun x3_1 hx3_1=>sE fun x4_4=>sB (qBd hv x3_1.2 hx3_1) fun x5_1 hx5_1=>sT (qAm hv a6 x5_1.2 hx5_1) fun x6_2 hx6_2=>sI (sR (x:=(a0,a1,x0_1,a3,a4,x5_1.1,x6_2.2,x4_4)) hx6_2) (sTE fun x7_3=>sT (qBr hv ([44]:List Nat) x6_2.2 hx6_2) fun x8_1 hx8_1=>sB (qBd hv x8_1 hx8_1) fun x9_1 hx9_1=>ih x9_1.1 x9_1.2 x4_4 hx9_1)
theorem c18B_sim {k:Nat} {s:List Nat} {L:List S33} {to:Int} {W:(List Tkn)} (hv:Vw k s L to W) {F:Fns0} {C:Cns} (hF:SimC s L to W F C) (a0:Int) (a1:(List Nat)) (a2:Bool) (a3:Bool) (a4:(List (List Nat))) (a5:(List (List Nat))) (a6:(List Nat)) (a9:(List Tkn)) (b1:(List S28)) (h:a9 <:+ W):SimN (Option.map (fun x=>(x.1,x.2.1,x.2.2.1,x.2.2.2.1,x.2.2.2.2.1,x.2.2.2.2.2.1,pos to x.2.2.2.2.2.2.1,x.2.2.2.2.2.2.2))) (oTh (fun x=>x.2.2.2.2.2.2.1 <:+ W)) (i18B k F a0 a1 a2 a3 a4 a5 a6 s L (pos to a9) to b1) (c18B k C a0 a1 a2 a3 a4 a5 a6 a9 b1):=by
 unfold i18B c18B
 exact sB (qJ4 hv a9 h) fun x0_1 hx0_1=>sB (qBd hv a9 h) fun x1_1 hx1_1=>sT (qAm hv a6 x1_1.2 hx1_1) fun x2_2 hx2_2=>sI (sR (x:=(a0,a1,x0_1,a3,a4,x1_1.1,x2_2.2,b1)) hx2_2) (qJ7 hv hF a0 a1 a3 a4 a5 a6 x0_1 k x1_1.1 x2_2.2 b1 hx2_2)
theorem qJ6 {k:Nat} {s:List Nat} {L:List S33} {to:Int} {W:(List Tkn)} (hv:Vw k s L to W) {F:Fns0} {C:Cns} (hF:SimC s L to W F C)  (a2:(List Tkn)) (x0_1:Bool):∀ (n:Nat) (y18_0:(List (List Nat))) (y18_1:(List Tkn)) (y18_2:(List S28)) (y18_3:S28),y18_1 <:+ W → SimN (Option.map (fun x=>(x.1,pos to x.2))) (oTh (fun x=>x.2 <:+ W)) (qEb k F s L (pos to a2) to x0_1 n y18_0 (pos to y18_1) y18_2 y18_3) (qDf k C a2 x0_1 n y18_0 y18_1 y18_2 y18_3):=by
 intro n
 induction n with
 | zero=>intro y18_0 y18_1 y18_2 y18_3 _; exact sZ
 | succ n ih =>
  intro y18_0 y18_1 y18_2 y18_3 hy
  show SimN (Option.map (fun x=>(x.1,pos to x.2))) (oTh (fun x=>x.2 <:+ W)) (qCz k F s L (pos to a2) to x0_1 (qEb k F s L (pos to a2) to x0_1 n) y18_0 (pos to y18_1) y18_2 y18_3) (qC2 k C a2 x0_1 (qDf k C a2 x0_1 n) y18_0 y18_1 y18_2 y18_3)
  unfold qCz qC2
  exact sE fun x6_4=>sT (qAm hv ([124]:List Nat) y18_1 hy) fun x7_1 hx7_1=>sI (sT (hF.c5 (3:Int) x7_1.2 hx7_1) fun x8_3 hx8_3=>sE fun x8_5=>sB (qBd hv x8_3.2 hx8_3) fun x9_1 hx9_1=>sT (qBr hv ([93]:List Nat) x9_1.2 hx9_1) fun x10_1 hx10_1=>sR (x:=((⟨(5:Int),([124]:List Nat),⟨(x8_5).length,(x8_5).flatMap e29⟩,x0_1,false,([]:List (List Nat)),x9_1.1⟩:S28),x10_1)) hx10_1) (sB (qBd hv x7_1.2 hx7_1) fun x11_1 hx11_1=>sT (qAm hv ([93]:List Nat) x11_1.2 hx11_1) fun x12_1 hx12_1=>sI (sR (x:=((⟨(5:Int),([]:List Nat),⟨(x6_4).length,(x6_4).flatMap e29⟩,x0_1,false,([]:List (List Nat)),x11_1.1⟩:S28),x12_1.2)) hx12_1) (sTE fun x13_3=>sT (qBr hv ([44]:List Nat) x12_1.2 hx12_1) fun x14_1 hx14_1=>sB (qBd hv x14_1 hx14_1) fun x15_1 hx15_1=>sT (hF.c5 (3:Int) x15_1.2 hx15_1) fun x16_1 hx16_1=>ih x15_1.1 x16_1.2 x6_4 x16_1.1 hx16_1))
theorem c19B_sim {k:Nat} {s:List Nat} {L:List S33} {to:Int} {W:(List Tkn)} (hv:Vw k s L to W) {F:Fns0} {C:Cns} (hF:SimC s L to W F C) (a2:(List Tkn)) (h:a2 <:+ W):SimN (Option.map (fun x=>(x.1,pos to x.2))) (oTh (fun x=>x.2 <:+ W)) (i19B k F s L (pos to a2) to) (c19B k C a2):=by
 unfold i19B c19B
 exact sB (qJ4 hv a2 h) fun x0_1 hx0_1=>sB (qBd hv a2 h) fun x1_1 hx1_1=>sT (qAm hv ([93]:List Nat) x1_1.2 hx1_1) fun x2_1 hx2_1=>sI (sR (x:=((⟨(5:Int),([]:List Nat),⟨(([]:List S28)).length,(([]:List S28)).flatMap e29⟩,x0_1,false,([]:List (List Nat)),x1_1.1⟩:S28),x2_1.2)) hx2_1) (sT (hF.c5 (3:Int) x2_1.2 hx2_1) fun x3_1 hx3_1=>sJ (α:=(Bool × (List Tkn))) (fun x=>(x.1,pos to x.2)) (fun x=>x.2 <:+ W) (fun z17 hz17=>sI (sT (hF.c30 (15:Int) ([]:List Nat) x0_1 false ([]:List (List Nat)) ([]:List (List Nat)) z17.2 ([x3_1.1]:List S28) hz17) fun x5_6 hx5_6=>sR (x:=((⟨x5_6.1,x5_6.2.1,⟨(x5_6.2.2.2.2.2.2.2).length,(x5_6.2.2.2.2.2.2.2).flatMap e29⟩,x5_6.2.2.1,x5_6.2.2.2.1,x5_6.2.2.2.2.1,x5_6.2.2.2.2.2.1⟩:S28),x5_6.2.2.2.2.2.2.1)) hx5_6) (qJ6 hv hF a2 x0_1 k x1_1.1 z17.2 ([]:List S28) x3_1.1 hz17)) (fun j17 j17' hj17=>sI (sT (qAm hv ([124,124]:List Nat) x3_1.2 hx3_1) fun x4_5 hx4_5=>hj17 (x4_5.1,x4_5.2) hx4_5) (hj17 (false,x3_1.2) hx3_1)))
theorem qJ5 {k:Nat} {s:List Nat} {L:List S33} {to:Int} {W:(List Tkn)} (hv:Vw k s L to W) {F:Fns0} {C:Cns} (hF:SimC s L to W F C)  (a0:Int) (a1:(List Nat)) (a3:Bool) (a4:(List (List Nat))) (a5:(List (List Nat))) (a6:(List Nat)) (x0_1:Bool):∀ (n:Nat) (y10_0:(List (List Nat))) (y10_1:(List Tkn)) (y10_2:(List S28)),y10_1 <:+ W → SimN (Option.map (fun x=>(x.1,x.2.1,x.2.2.1,x.2.2.2.1,x.2.2.2.2.1,x.2.2.2.2.2.1,pos to x.2.2.2.2.2.2.1,x.2.2.2.2.2.2.2))) (oTh (fun x=>x.2.2.2.2.2.2.1 <:+ W)) (qEa k F a0 a1 a3 a4 a5 a6 s L to x0_1 n y10_0 (pos to y10_1) y10_2) (qDe k C a0 a1 a3 a4 a5 a6 x0_1 n y10_0 y10_1 y10_2):=by
 intro n
 induction n with
 | zero=>intro y10_0 y10_1 y10_2 _; exact sZ
 | succ n ih =>
  intro y10_0 y10_1 y10_2 hy
  show SimN (Option.map (fun x=>(x.1,x.2.1,x.2.2.1,x.2.2.2.1,x.2.2.2.2.1,x.2.2.2.2.2.1,pos to x.2.2.2.2.2.2.1,x.2.2.2.2.2.2.2))) (oTh (fun x=>x.2.2.2.2.2.2.1 <:+ W)) (qCy k F a0 a1 a3 a4 a5 a6 s L to x0_1 (qEa k F a0 a1 a3 a4 a5 a6 s L to x0_1 n) y10_0 (pos to y10_1) y10_2) (qC1 k C a0 a1 a3 a4 a5 a6 x0_1 (qDe k C a0 a1 a3 a4 a5 a6 x0_1 n) y10_0 y10_1 y10_2)
  unfold qCy qC1
  exact sT (hF.c32 y10_1 hy) fun x3_1 hx3_1=>sE fun x4_4=>sB (qBd hv x3_1.2 hx3_1) fun x5_1 hx5_1=>sT (qAm hv a6 x5_1.2 hx5_1) fun x6_2 hx6_2=>sI (sR (x:=(a0,a1,x0_1,a3,a4,x5_1.1,x6_2.2,x4_4)) hx6_2) (sTE fun x7_3=>sT (qBr hv ([44]:List Nat) x6_2.2 hx6_2) fun x8_1 hx8_1=>sB (qBd hv x8_1 hx8_1) fun x9_1 hx9_1=>ih x9_1.1 x9_1.2 x4_4 hx9_1)
theorem c21B_sim {k:Nat} {s:List Nat} {L:List S33} {to:Int} {W:(List Tkn)} (hv:Vw k s L to W) {F:Fns0} {C:Cns} (hF:SimC s L to W F C) (a0:Int) (a1:(List Nat)) (a2:Bool) (a3:Bool) (a4:(List (List Nat))) (a5:(List (List Nat))) (a6:(List Nat)) (a9:(List Tkn)) (b1:(List S28)) (h:a9 <:+ W):SimN (Option.map (fun x=>(x.1,x.2.1,x.2.2.1,x.2.2.2.1,x.2.2.2.2.1,x.2.2.2.2.2.1,pos to x.2.2.2.2.2.2.1,x.2.2.2.2.2.2.2))) (oTh (fun x=>x.2.2.2.2.2.2.1 <:+ W)) (i21B k F a0 a1 a2 a3 a4 a5 a6 s L (pos to a9) to b1) (c21B k C a0 a1 a2 a3 a4 a5 a6 a9 b1):=by
 unfold i21B c21B
 exact sB (qJ4 hv a9 h) fun x0_1 hx0_1=>sB (qBd hv a9 h) fun x1_1 hx1_1=>sT (qAm hv a6 x1_1.2 hx1_1) fun x2_2 hx2_2=>sI (sR (x:=(a0,a1,x0_1,a3,a4,x1_1.1,x2_2.2,b1)) hx2_2) (qJ5 hv hF a0 a1 a3 a4 a5 a6 x0_1 k x1_1.1 x2_2.2 b1 hx2_2)
theorem c24B_sim {k:Nat} {s:List Nat} {L:List S33} {to:Int} {W:(List Tkn)} (hv:Vw k s L to W) {F:Fns0} {C:Cns} (hF:SimC s L to W F C) (a2:(List Tkn)) (h:a2 <:+ W):SimN (Option.map (fun x=>(x.1,pos to x.2))) (oTh (fun x=>x.2 <:+ W)) (i24B k F s L (pos to a2) to) (c24B k C a2):=by
 unfold i24B c24B
 exact sT (qAm hv ([102,117,110]:List Nat) a2 h) fun x0_1 hx0_1=>sI (sB (qGg hv ([40]:List Nat) x0_1.2 hx0_1) fun x1_1 hx1_1=>sI (sT (hF.c34 x0_1.2 hx0_1) fun x2_1 hx2_1=>sR (x:=(x2_1.1,x2_1.2)) hx2_1) (sT (c35_sim hv x0_1.2 hx0_1) fun x3_1 hx3_1=>sR (x:=(x3_1.1,x3_1.2)) hx3_1)) (sT (qAm hv ([99,97,115,101]:List Nat) x0_1.2 hx0_1) fun x4_1 hx4_1=>sI (sT (hF.c5 (0:Int) x4_1.2 hx4_1) fun x5_1 hx5_1=>sT (qBr hv ([111,102]:List Nat) x5_1.2 hx5_1) fun x6_1 hx6_1=>sT (hF.c36 (18:Int) ([]:List Nat) false false ([]:List (List Nat)) ([]:List (List Nat)) x6_1 ([x5_1.1]:List S28) hx6_1) fun x7_4 hx7_4=>sR (x:=((⟨x7_4.1,x7_4.2.1,⟨(x7_4.2.2.2.2.2.2.2).length,(x7_4.2.2.2.2.2.2.2).flatMap e29⟩,x7_4.2.2.1,x7_4.2.2.2.1,x7_4.2.2.2.2.1,x7_4.2.2.2.2.2.1⟩:S28),x7_4.2.2.2.2.2.2.1)) hx7_4) (sT (qAm hv ([105,102]:List Nat) x4_1.2 hx4_1) fun x8_1 hx8_1=>sI (sT (hF.c37 (19:Int) ([]:List Nat) false false ([]:List (List Nat)) ([]:List (List Nat)) x8_1.2 ([]:List S28) hx8_1) fun x9_4 hx9_4=>sR (x:=((⟨x9_4.1,x9_4.2.1,⟨(x9_4.2.2.2.2.2.2.2).length,(x9_4.2.2.2.2.2.2.2).flatMap e29⟩,x9_4.2.2.1,x9_4.2.2.2.1,x9_4.2.2.2.2.1,x9_4.2.2.2.2.2.1⟩:S28),x9_4.2.2.2.2.2.2.1)) hx9_4) (sT (qAm hv i24c0 x8_1.2 hx8_1) fun x10_1 hx10_1=>sI (sT (hF.c38 x10_1.2 hx10_1) fun x11_1 hx11_1=>sR (x:=(x11_1.1,x11_1.2)) hx11_1) (sT (qBr hv i24c1 x10_1.2 hx10_1) fun x12_1 hx12_1=>sT (hF.c6 x12_1 hx12_1) fun x13_1 hx13_1=>sB (qBd hv x13_1.2 hx13_1) fun x14_1 hx14_1=>sT (qBr hv ([101,110,100]:List Nat) x14_1.2 hx14_1) fun x15_1 hx15_1=>sR (x:=((⟨(21:Int),([]:List Nat),⟨(([x13_1.1]:List S28)).length,(([x13_1.1]:List S28)).flatMap e29⟩,false,false,([]:List (List Nat)),x14_1.1⟩:S28),x15_1)) hx15_1))))
theorem c26B_sim {k:Nat} {s:List Nat} {L:List S33} {to:Int} {W:(List Tkn)} (hv:Vw k s L to W) {F:Fns0} {C:Cns} (hF:SimC s L to W F C) (a0:S28) (a3:(List Tkn)) (h:a3 <:+ W):SimN (Option.map (fun x=>(x.1,pos to x.2))) (oTh (fun x=>x.2 <:+ W)) (i26B k F a0 s L (pos to a3) to) (c26B k C a0 a3):=by
 unfold i26B c26B
 exact sT (qAm hv ([123]:List Nat) a3 h) fun x0_1 hx0_1=>sI (sT (hF.c21 (9:Int) ([]:List Nat) false false ([]:List (List Nat)) ([]:List (List Nat)) ([125]:List Nat) x0_1.2 ([a0]:List S28) hx0_1) fun x1_6 hx1_6=>sR (x:=((⟨x1_6.1,x1_6.2.1,⟨(x1_6.2.2.2.2.2.2.2).length,(x1_6.2.2.2.2.2.2.2).flatMap e29⟩,x1_6.2.2.1,x1_6.2.2.2.1,x1_6.2.2.2.2.1,x1_6.2.2.2.2.2.1⟩:S28),x1_6.2.2.2.2.2.2.1)) hx1_6) (sT (qGf hv x0_1.2 hx0_1) fun x2_1 hx2_1=>sT (qAm hv ([46]:List Nat) x2_1.2 hx2_1) fun x3_1 hx3_1=>sI (sE fun x4_1=>sT (qJ2 hv ([(1:Int)]:List Int) x3_1.2 hx3_1) fun x4_4 hx4_4=>sE fun x4_5=>sR (x:=((⟨(12:Int),x4_5,⟨(([a0]:List S28)).length,(([a0]:List S28)).flatMap e29⟩,false,false,([]:List (List Nat)),([]:List (List Nat))⟩:S28),x4_4.2)) hx4_4) (sT (qBr hv ([123]:List Nat) x3_1.2 hx3_1) fun x5_1 hx5_1=>sT (hF.c18 (11:Int) x2_1.1 false false ([]:List (List Nat)) ([]:List (List Nat)) ([125]:List Nat) x5_1 ([a0]:List S28) hx5_1) fun x6_7 hx6_7=>sR (x:=((⟨x6_7.1,x6_7.2.1,⟨(x6_7.2.2.2.2.2.2.2).length,(x6_7.2.2.2.2.2.2.2).flatMap e29⟩,x6_7.2.2.1,x6_7.2.2.2.1,x6_7.2.2.2.2.1,x6_7.2.2.2.2.2.1⟩:S28),x6_7.2.2.2.2.2.2.1)) hx6_7))
theorem c29B_sim {k:Nat} {s:List Nat} {L:List S33} {to:Int} {W:(List Tkn)} (hv:Vw k s L to W) {F:Fns0} {C:Cns} (hF:SimC s L to W F C) (a2:(List Tkn)) (h:a2 <:+ W):SimN (Option.map (fun x=>(x.1,pos to x.2))) (oTh (fun x=>x.2 <:+ W)) (i29B k F s L (pos to a2) to) (c29B k C a2):=by
 unfold i29B c29B
 exact sT (hF.c5 (0:Int) a2 h) fun x0_1 hx0_1=>sR (x:=(x0_1.1,x0_1.2)) hx0_1
theorem qLs {k:Nat} {s:List Nat} {L:List S33} {to:Int} {W:(List Tkn)} (hv:Vw k s L to W) {F:Fns0} {C:Cns} (hF:SimC s L to W F C)  (a2:(List Tkn)) (x0_1:(S28 × (List Tkn))):∀ (n:Nat) (y4_0:Int) (y4_1:(List Tkn)),y4_1 <:+ W → SimN (Option.map (fun x=>(x.1,pos to x.2))) (oTh (fun x=>x.2 <:+ W)) (qH6 k F s L (pos to a2) to ((fun x=>(x.1,pos to x.2)) x0_1) n y4_0 (pos to y4_1)) (qPf k C a2 x0_1 n y4_0 y4_1):=by
 intro n
 induction n with
 | zero=>intro y4_0 y4_1 _; exact sZ
 | succ n ih =>
  intro y4_0 y4_1 hy
  show SimN (Option.map (fun x=>(x.1,pos to x.2))) (oTh (fun x=>x.2 <:+ W)) (qE9 k F s L (pos to a2) to ((fun x=>(x.1,pos to x.2)) x0_1) (qH6 k F s L (pos to a2) to ((fun x=>(x.1,pos to x.2)) x0_1) n) y4_0 (pos to y4_1)) (qJ3 k C a2 x0_1 (qPf k C a2 x0_1 n) y4_0 y4_1)
  unfold qE9 qJ3
  exact sI (sE fun x1_0=>sT (qAm hv x1_0 y4_1 hy) fun x2_2 hx2_2=>sI (sT (hF.c5 (1:Int) x2_2.2 hx2_2) fun x3_3 hx3_3=>sR (x:=((⟨(14:Int),x1_0,⟨(([x0_1.1,x3_3.1]:List S28)).length,(([x0_1.1,x3_3.1]:List S28)).flatMap e29⟩,false,false,([]:List (List Nat)),([]:List (List Nat))⟩:S28),x3_3.2)) hx3_3) (ih (fW .i64 (y4_0 + 1)) x2_2.2 hx2_2)) (sR (x:=(x0_1.1,y4_1)) hy)
theorem c32B_sim {k:Nat} {s:List Nat} {L:List S33} {to:Int} {W:(List Tkn)} (hv:Vw k s L to W) {F:Fns0} {C:Cns} (hF:SimC s L to W F C) (a2:(List Tkn)) (h:a2 <:+ W):SimN (Option.map (fun x=>(x.1,pos to x.2))) (oTh (fun x=>x.2 <:+ W)) (i32B k F s L (pos to a2) to) (c32B k C a2):=by
 unfold i32B c32B
 exact sT (hF.c5 (1:Int) a2 h) fun x0_1 hx0_1=>qLs hv hF a2 x0_1 k 0 x0_1.2 hx0_1
theorem qB8 {k : Nat} {s : List Nat} {L : List S33} {to : Int} {W : (List Tkn)} (hv : ∀ j, Vw (k + j) s L to W) : ∀ n, SimC s L to W (par0 (k + n)) (cpar k n)
 | 0=>⟨(fun _ _ _=>sZ),(fun _ _=>sZ),(fun _ _=>sZ),(fun _ _=>sZ),(fun _ _ _ _=>sZ),(fun _ _=>sZ),(fun _ _ _ _ _ _ _ _ _ _=>sZ),(fun _ _=>sZ),(fun _ _ _ _ _ _ _ _ _ _=>sZ),(fun _ _ _ _ _ _ _ _ _ _=>sZ),(fun _ _=>sZ),(fun _ _=>sZ),(fun _ _ _=>sZ),(fun _ _=>sZ),(fun _ _ _ _ _ _ _ _ _=>sZ),(fun _ _=>sZ),(fun _ _=>sZ),(fun _ _=>sZ),(fun _ _ _ _ _ _ _ _ _=>sZ),(fun _ _ _ _ _ _ _ _ _=>sZ),(fun _ _=>sZ),(fun _ _ _=>sZ),(fun _ _ _=>sZ),(fun _ _ _=>sZ),(fun _ _ _=>sZ),(fun _ _=>sZ),(fun _ _=>sZ),(fun _ _=>sZ),(fun _ _ _ _ _=>sZ),(fun _ _ _=>sZ),(fun _ _=>sZ),(fun _ _=>sZ),(fun _ _=>sZ),(fun _ _=>sZ)⟩
 | n + 1=>⟨c5B_sim (hv n) (qB8 hv n),c6B_sim (hv n) (qB8 hv n),c8B_sim (hv n) (qB8 hv n),c13B_sim (hv n) (qB8 hv n),c14B_sim (hv n) (qB8 hv n),(fun _ _=>sZ),c18B_sim (hv n) (qB8 hv n),c19B_sim (hv n) (qB8 hv n),(fun _ _ _ _ _ _ _ _ _ _=>sZ),c21B_sim (hv n) (qB8 hv n),c24B_sim (hv n) (qB8 hv n),(fun _ _=>sZ),c26B_sim (hv n) (qB8 hv n),c29B_sim (hv n) (qB8 hv n),(fun _ _ _ _ _ _ _ _ _=>sZ),(fun _ _=>sZ),c32B_sim (hv n) (qB8 hv n),(fun _ _=>sZ),(fun _ _ _ _ _ _ _ _ _=>sZ),(fun _ _ _ _ _ _ _ _ _=>sZ),(fun _ _=>sZ),(fun _ _ _=>sZ),(fun _ _ _=>sZ),(fun _ _ _=>sZ),(fun _ _ _=>sZ),(fun _ _=>sZ),(fun _ _=>sZ),(fun _ _=>sZ),(fun _ _ _ _ _=>sZ),(fun _ _ _=>sZ),(fun _ _=>sZ),(fun _ _=>sZ),(fun _ _=>sZ),(fun _ _=>sZ)⟩
end Go.Proofs.Ythpplbkobokghaa.Am
set_option maxRecDepth 100000
set_option linter.unusedVariables false
namespace Go.Proofs.Ythpplbkobokghaa.Am
noncomputable section
open Go
abbrev Ri4:Type:=(Int × (List Nat) × Raw × Bool × Bool × (List (List Nat)) × (List (List Nat)) × Int)
abbrev Ti4:Type:=Int → (List Nat) → Raw → Bool → Bool → (List (List Nat)) → (List (List Nat)) → (List Nat) → (List S33) → Int → Int → Option (Option Ri4)
def Xi4 (a0:Int) (a1:(List Nat)) (a2:Raw) (a3:Bool) (a4:Bool) (a5:(List (List Nat))) (a6:(List (List Nat))) (a7:(List Nat)) (a8:(List S33)) (a9:Int) (a10:Int):Fx (Option Ri4):=⟨Try.prog,cx,Try.f34,fun r=>match r with | some r => .tuple [] | none => .top,2,fun r=>match r with | some r=>(mkH [⟨[.i r.1,.str r.2.1,q29 r.2.2.1,.bool r.2.2.2.1,.bool r.2.2.2.2.1,w9 r.2.2.2.2.2.1,w9 r.2.2.2.2.2.2.1],7,false⟩,⟨[.str a7,w34 a8,.i r.2.2.2.2.2.2.2,.i a10],4,false⟩]) | none=>(mkH [⟨[.i a0,.str a1,q29 a2,.bool a3,.bool a4,w9 a5,w9 a6],7,false⟩,⟨[.str a7,w34 a8,.i a9,.i a10],4,false⟩]),cxTi,cxOrd,fun r=>match r with | some _=>none | none=>some (thrown,[1]),false⟩
def Pi4 (f:Ti4):Prop := ∀ a0 a1 a2 a3 a4 a5 a6 a7 a8 a9 a10,PQh (Xi4 a0 a1 a2 a3 a4 a5 a6 a7 a8 a9 a10) 34 [.ptr 1 4 0,.ptr 0 7 0] (f a0 a1 a2 a3 a4 a5 a6 a7 a8 a9 a10)
def i4p0:Pt:=nav [] (bodyAt Try.f34)
def i4 (k:Nat) (a0:Int) (a1:(List Nat)) (a2:Raw) (a3:Bool) (a4:Bool) (a5:(List (List Nat))) (a6:(List (List Nat))) (a7:(List Nat)) (a8:(List S33)) (a9:Int) (a10:Int):Option (Option Ri4) :=
 bT (i6 k a7 a8 a9 a10) fun x0_1=>some (some (x0_1.1.f0,x0_1.1.f1,x0_1.1.f2,x0_1.1.f3,x0_1.1.f4,x0_1.1.f5,x0_1.1.f6,x0_1.2))
theorem i4_all (k:Nat):∀ a0 a1 a2 a3 a4 a5 a6 a7 a8 a9 a10 r,i4 k a0 a1 a2 a3 a4 a5 a6 a7 a8 a9 a10 = some r → CallT Try.prog 34 [.ptr 1 4 0,.ptr 0 7 0] (mkH [⟨[.i a0,.str a1,q29 a2,.bool a3,.bool a4,w9 a5,w9 a6],7,false⟩,⟨[.str a7,w34 a8,.i a9,.i a10],4,false⟩]) ((Xi4 a0 a1 a2 a3 a4 a5 a6 a7 a8 a9 a10).thr r) ((Xi4 a0 a1 a2 a3 a4 a5 a6 a7 a8 a9 a10).enc r) ((Xi4 a0 a1 a2 a3 a4 a5 a6 a7 a8 a9 a10).fin r):=by
 intro a0 a1 a2 a3 a4 a5 a6 a7 a8 a9 a10 r h
 refine qA2 (Xi4 a0 a1 a2 a3 a4 a5 a6 a7 a8 a9 a10) Try.func34 (by kernel_rfl) (by kernel_rfl) rfl (t:=i4 k a0 a1 a2 a3 a4 a5 a6 a7 a8 a9 a10) ?_ h
 unfold i4
 refine qA (eE:=[(0,.ptr 1 4 0),(1,.ptr 0 7 0)]) (by kernel_rfl) ?_
 let Q1:Blk:=⟨[.i a0,.str a1,q29 a2,.bool a3,.bool a4,w9 a5,w9 a6],7,false⟩
 refine oH 2 (atN 1 (ctl1 i4p0)) [(3,.ptr 1 4 0),(0,.ptr 1 4 0),(1,.ptr 0 7 0)] (mkH [Q1,⟨[.str a7,w34 a8,.i a9,.i a10],4,false⟩]) ?_
 refine oX (fun (x0_1:(S28 × Int))=>n29 x0_1.1) (fun x0_1=>[Q1,⟨[.str a7,w34 a8,.i x0_1.2,.i a10],4,false⟩]) (atN 2 (ctl1 i4p0)) 4 [1] [] [] [1] [] [.ptr 1 4 0] (i6_ok k a7 a8 a9 a10) trivial (fun _=>trivial) trivial fun x0_1 hx0_1=>?_
 exact oQF 2 [⟨e29 x0_1.1,7,false⟩,⟨[.str a7,w34 a8,.i x0_1.2,.i a10],4,false⟩] 2 [] [] (.tuple []) .ps trivial
theorem i4_ok (k:Nat):Pi4 (i4 k):=fun a0 a1 a2 a3 a4 a5 a6 a7 a8 a9 a10=>⟨fun x h=>i4_all k a0 a1 a2 a3 a4 a5 a6 a7 a8 a9 a10 (some x) h,fun h=>⟨_,i4_all k a0 a1 a2 a3 a4 a5 a6 a7 a8 a9 a10 none h⟩⟩
abbrev Ri1:Type:=(Int × Int × (List (List Nat)) × Int × (List Nat) × Raw × Bool × Bool × (List (List Nat)))
abbrev Ti1:Type:=(List Nat) → (List S33) → Int → Int → Int → (List Nat) → Raw → Bool → Bool → (List (List Nat)) → (List (List Nat)) → Option Ri1
def Xi1 (a0:(List Nat)) (a1:(List S33)) (a2:Int) (a3:Int) (a4:Int) (a5:(List Nat)) (a6:Raw) (a7:Bool) (a8:Bool) (a9:(List (List Nat))) (a10:(List (List Nat))):Fx Ri1:=⟨Try.prog,cx,Try.f27,fun r => .tuple [.i r.1,.i r.2.1],1,fun r=>(mkH [⟨[.i r.2.2.2.1,.str r.2.2.2.2.1,q29 r.2.2.2.2.2.1,.bool r.2.2.2.2.2.2.1,.bool r.2.2.2.2.2.2.2.1,w9 r.2.2.2.2.2.2.2.2,w9 r.2.2.1],7,false⟩]),cxTi,cxOrd,fun _=>none,true⟩
def Pi1 (f:Ti1):Prop := ∀ a0 a1 a2 a3 a4 a5 a6 a7 a8 a9 a10,PNh (Xi1 a0 a1 a2 a3 a4 a5 a6 a7 a8 a9 a10) 27 [.str a0,w34 a1,.i a2,.i a3,.func 34 [] [.ptr 0 7 0]] (mkH [⟨[.i a4,.str a5,q29 a6,.bool a7,.bool a8,w9 a9,w9 a10],7,false⟩]) (f a0 a1 a2 a3 a4 a5 a6 a7 a8 a9 a10)
def i1p1:Pt:=nav [0,0,0,0] (nav [0] (bodyAt Try.f27))
def i1p2:Pt:=nav [0,0] i1p1
def i1p6:Pt:=nav [0,0,0] (nav [2,0,0] i1p2)
def i1p7:Pt:=nav [0,0,0] i1p6
def i1 (k:Nat) (a0:(List Nat)) (a1:(List S33)) (a2:Int) (a3:Int) (a4:Int) (a5:(List Nat)) (a6:Raw) (a7:Bool) (a8:Bool) (a9:(List (List Nat))) (a10:(List (List Nat))):Option Ri1 :=
 jn (fun (z1:Bool)=>if z1 then (some ((0:Int),(8:Int),a10,a4,a5,a6,a7,a8,a9)) else (cT (i4 k a4 a5 a6 a7 a8 a9 a10 a0 a1 a2 a3) (some ((0:Int),(8:Int),a10,a4,a5,a6,a7,a8,a9)) fun x0_2=>some (x0_2.2.2.2.2.2.2.2,(0:Int),x0_2.2.2.2.2.2.2.1,x0_2.1,x0_2.2.1,x0_2.2.2.1,x0_2.2.2.2.1,x0_2.2.2.2.2.1,x0_2.2.2.2.2.2.1))) (fun j1=>if (decide (a2 < 0)) then (j1 true) else (if (decide ((a1.length:Int) < a3)) then (j1 true) else (j1 (decide (a3 < a2)))))
theorem i1_all (k:Nat):∀ a0 a1 a2 a3 a4 a5 a6 a7 a8 a9 a10 r,i1 k a0 a1 a2 a3 a4 a5 a6 a7 a8 a9 a10 = some r → CallT Try.prog 27 [.str a0,w34 a1,.i a2,.i a3,.func 34 [] [.ptr 0 7 0]] (mkH [⟨[.i a4,.str a5,q29 a6,.bool a7,.bool a8,w9 a9,w9 a10],7,false⟩]) ((Xi1 a0 a1 a2 a3 a4 a5 a6 a7 a8 a9 a10).thr r) ((Xi1 a0 a1 a2 a3 a4 a5 a6 a7 a8 a9 a10).enc r) ((Xi1 a0 a1 a2 a3 a4 a5 a6 a7 a8 a9 a10).fin r):=by
 intro a0 a1 a2 a3 a4 a5 a6 a7 a8 a9 a10 r h
 refine qA2 (Xi1 a0 a1 a2 a3 a4 a5 a6 a7 a8 a9 a10) Try.func27 (by kernel_rfl) (by kernel_rfl) rfl (t:=i1 k a0 a1 a2 a3 a4 a5 a6 a7 a8 a9 a10) ?_ h
 unfold i1
 refine qA (eE:=[(0,.str a0),(1,w34 a1),(2,.i a2),(3,.i a3),(4,.func 34 [] [.ptr 0 7 0])]) (by kernel_rfl) ?_
 let E1:Env:=[(15,.bool (decide (a2 < 0))),(14,.bool (decide (a2 < 0))),(13,.i a2),(11,.ptr 2 1 0),(10,.ptr 1 1 0),(0,.str a0),(1,w34 a1),(2,.i a2),(3,.i a3),(4,.func 34 [] [.ptr 0 7 0])]
 let Q1:Blk:=⟨[.i a4,.str a5,q29 a6,.bool a7,.bool a8,w9 a9,w9 a10],7,false⟩
 let K1:List Blk:=[Q1,⟨[.i 0],0,false⟩,⟨[.i 0],0,false⟩]
 refine oH 11 (atN 3 (ctl1 i1p1)) E1 (mkH K1) ?_
 refine oJ i1p2 (fun (z1:Bool)=>[(0,.str a0),(1,w34 a1),(2,.i a2),(3,.i a3),(4,.func 34 [] [.ptr 0 7 0]),(10,.ptr 1 1 0),(11,.ptr 2 1 0),(25,.bool z1)]) (fun (z1:Bool)=>(mkH K1)) (fun z1=>?_) (fun j1 hj1=>?_)
 ·refine oS 25 (fun hb=>?_) (fun hb=>?_)
  ·let E2:Env:=[(25,.bool true),(0,.str a0),(1,w34 a1),(2,.i a2),(3,.i a3),(4,.func 34 [] [.ptr 0 7 0]),(10,.ptr 1 1 0),(11,.ptr 2 1 0),(25,.bool z1)]
   exact oQF 7 [Q1,⟨[.i 0],1,false⟩,⟨[.i 8],1,false⟩] 1 [] [.i 0,.i 8] (.tuple [.i 0,.i 8]) .ps trivial
  ·let E4:Env:=[(4,.func 34 [] [.ptr 0 7 0]),(10,.ptr 1 1 0),(11,.ptr 2 1 0),(12,.ptr 3 4 0)]
   let K2:List Blk:=[Q1,⟨[.i 0],0,false⟩,⟨[.i 0],0,false⟩,⟨[.str a0,w34 a1,.i a2,.i a3],0,false⟩]
   refine oLH 13 i1p6 E4 (mkH K2) ?_
   refine oR 2 (atN 1 (ctl1 i1p6)) ((32,.func 46 [] [.ptr 1 1 0,.ptr 2 1 0]) :: E4) ?_
   refine qJn (f:=46) (caps:=[.ptr 1 1 0,.ptr 2 1 0]) (by kernel_rfl) ?_
   refine okD_at (p':=(atN 2 (ctl1 i1p6))) (by kernel_rfl) ?_
   refine qE7 5 (p':=(atN 2 (ctl1 i1p7))) (eE:=((34,.ptr 3 4 0) :: (33,.func 34 [] [.ptr 0 7 0]) :: (32,.func 46 [] [.ptr 1 1 0,.ptr 2 1 0]) :: E4)) (H':=(mkH K2)) (by kernel_rfl) ?_
   let Q3:Blk:=⟨[.str a0,w34 a1,.i a2,.i a3],4,false⟩
   let K3:List Blk:=[Q1,⟨[.i 0],0,false⟩,⟨[.i 0],0,false⟩,Q3]
   let K4:List Blk:=[Q1,⟨[.i 0],1,false⟩,⟨[.i 8],1,false⟩,Q3]
   refine qJp (tv:=thrown) (D:=[3]) (rc:=((0:Int),(8:Int),a10,a4,a5,a6,a7,a8,a9)) (tc:=some ((0:Int),(8:Int),a10,a4,a5,a6,a7,a8,a9)) (xs:=[.i 0,.i 8]) (v := .tuple [.i 0,.i 8]) (fi:=34) (args:=[.ptr 3 4 0,.ptr 0 7 0]) (fun (x0_2:Ri4) => .tuple []) (fun (x0_2:Ri4)=>(mkH [⟨[.i x0_2.1,.str x0_2.2.1,q29 x0_2.2.2.1,.bool x0_2.2.2.2.1,.bool x0_2.2.2.2.2.1,w9 x0_2.2.2.2.2.2.1,w9 x0_2.2.2.2.2.2.2.1],7,false⟩,⟨[.i 0],0,false⟩,⟨[.i 0],0,false⟩,⟨[.str a0,w34 a1,.i x0_2.2.2.2.2.2.2.2,.i a3],4,false⟩])) (atN 3 (ctl1 i1p7)) (fun x0_2=>[(35,.tuple []),(34,.ptr 3 4 0),(33,.func 34 [] [.ptr 0 7 0]),(32,.func 46 [] [.ptr 1 1 0,.ptr 2 1 0]),(4,.func 34 [] [.ptr 0 7 0]),(10,.ptr 1 1 0),(11,.ptr 2 1 0),(12,.ptr 3 4 0)]) K3 [Q1] [⟨[.i 0],1,false⟩,⟨[.i 8],1,false⟩,Q3] [(10,.ptr 1 1 0),(11,.ptr 2 1 0)] [10,11] 3 rfl rfl (by kernel_rfl) (fun h=>frS 0 (M:=K3) (rs:=[0,3]) (ms:=[]) (mv:=[]) (mm:=[]) (D:=[3]) (xs':=[.ptr 3 4 0,.ptr 0 7 0]) (.refl) ((i4_ok k a4 a5 a6 a7 a8 a9 a10 a0 a1 a2 a3).2 h) trivial trivial (by kernel_rfl)) (by kernel_rfl) (by kernel_rfl) (by kernel_rfl) (by kernel_rfl) (qDs (⟨Try.prog,cx,Try.f46,fun _ => .tuple [],4,fun _=>(mkH K4),cxTi,cxOrd,fun _=>none,false⟩:Fx Unit) 5 2 (x := .iface 72 (.agg [])) qEt (by kernel_rfl) (by kernel_rfl) (by kernel_rfl) rfl rfl rfl rfl ?_) rfl (by kernel_rfl) (by kernel_rfl) (by kernel_rfl) (.pures (by kernel_rfl)) ⟨(by kernel_rfl),trivial⟩ (by kernel_rfl) (by kernel_rfl) (fun x0_2 h=>frW 0 K3 (rs:=[0,3]) (ms:=[]) (ms':=[]) (mv:=[]) (xs':=[.ptr 3 4 0,.ptr 0 7 0]) (.refl) ((i4_ok k a4 a5 a6 a7 a8 a9 a10 a0 a1 a2 a3).1 x0_2 h) trivial trivial (by kernel_rfl)) (fun _=>by kernel_rfl) (fun x0_2 hx0_2=>?_)
   ·refine oE [(2,.iface 72 (.agg [])),(5,.iface 72 (.agg [])),(0,.ptr 1 1 0),(1,.ptr 2 1 0)] ?_
    let E1:Env:=[(4,.bool true),(3,.ptr 4 0 0),(12,.bool true),(11,.agg []),(8,.tuple [.agg [],.bool true]),(10,.tuple [.agg [],.bool true]),(9,.iface 72 (.agg [])),(7,.bool true),(6,.iface 72 (.agg [])),(2,.iface 72 (.agg [])),(5,.iface 72 (.agg [])),(0,.ptr 1 1 0),(1,.ptr 2 1 0)]
    let E2:Env:=[(0,.ptr 1 1 0),(1,.ptr 2 1 0),(2,.iface 72 (.agg [])),(4,.bool true)]
    refine oLH 19 (nav [0,0,0] (nav [1,0,0] (nav [0,0] (nav [0] (restAt Try.f46))))) E2 (mkH [Q1,⟨[.i 0],0,false⟩,⟨[.i 0],0,false⟩,Q3,⟨[],0,false⟩]) ?_
    refine oH 10 .fin ((14,.bool false) :: (13,.bool true) :: E2) (mkH [Q1,⟨[.i 0],1,false⟩,⟨[.i 8],1,false⟩,Q3,⟨[],0,false⟩]) ?_
    refine qAa K4 [⟨[],0,false⟩] (by kernel_rfl) rfl (by kernel_rfl) ⟨(by kernel_rfl),⟨(by kernel_rfl),⟨(by kernel_rfl),⟨(by kernel_rfl),trivial⟩⟩⟩⟩ ?_
    exact qG (r:=()) (xs:=[]) (by kernel_rfl) (by kernel_rfl) (by kernel_rfl) (by kernel_rfl)
   ·let Q4:Blk:=⟨[.i x0_2.1,.str x0_2.2.1,q29 x0_2.2.2.1,.bool x0_2.2.2.2.1,.bool x0_2.2.2.2.2.1,w9 x0_2.2.2.2.2.2.1,w9 x0_2.2.2.2.2.2.2.1],7,false⟩
    let Q5:Blk:=⟨[.i x0_2.2.2.2.2.2.2.2],1,false⟩
    let Q6:Blk:=⟨[.str a0,w34 a1,.i x0_2.2.2.2.2.2.2.2,.i a3],4,false⟩
    refine qE7 11 (p' := .fin) (eE:=((39,.i x0_2.2.2.2.2.2.2.2) :: (38,.ptr 3 4 2) :: (37,.ptr 3 4 0) :: (36,.ptr 3 4 0) :: (35,.tuple []) :: (34,.ptr 3 4 0) :: (33,.func 34 [] [.ptr 0 7 0]) :: (32,.func 46 [] [.ptr 1 1 0,.ptr 2 1 0]) :: E4)) (H':=(mkH [Q4,Q5,⟨[.i 0],1,false⟩,Q6])) (by kernel_rfl) ?_
    refine qN1 (r:=(x0_2.2.2.2.2.2.2.2,(0:Int),x0_2.2.2.2.2.2.2.1,x0_2.1,x0_2.2.1,x0_2.2.2.1,x0_2.2.2.2.1,x0_2.2.2.2.2.1,x0_2.2.2.2.2.2.1)) (xs:=[.i x0_2.2.2.2.2.2.2.2,.i 0]) (v := .tuple [.i x0_2.2.2.2.2.2.2.2,.i 0]) [Q4,Q5,⟨[.i 0],1,false⟩,Q6] [Q4] [Q5,⟨[.i 0],1,false⟩,Q6] rfl rfl (qDs (⟨Try.prog,cx,Try.f46,fun _ => .tuple [],4,fun _=>(mkH [Q4,Q5,⟨[.i 0],1,false⟩,Q6]),cxTi,cxOrd,fun _=>none,false⟩:Fx Unit) 5 2 (x := .nili) qJr (by kernel_rfl) (by kernel_rfl) (by kernel_rfl) rfl rfl rfl rfl ?_) (by kernel_rfl) (by kernel_rfl) (by kernel_rfl) (by kernel_rfl) (.pures (by kernel_rfl)) ⟨(by kernel_rfl),trivial⟩ (by kernel_rfl) (by kernel_rfl)
    let E1:Env:=[(7,.bool false),(6,.nili),(2,.nili),(5,.nili),(0,.ptr 1 1 0),(1,.ptr 2 1 0)]
    refine oH 7 .fin E1 (mkH [Q4,Q5,⟨[.i 0],1,false⟩,Q6]) ?_
    exact qG (r:=()) (xs:=[]) (by kernel_rfl) (by kernel_rfl) (by kernel_rfl) (by kernel_rfl)
 ·refine oS 15 (fun hb=>?_) (fun hb=>?_)
  ·refine oLH 11 i1p2 [(0,.str a0),(1,w34 a1),(2,.i a2),(3,.i a3),(4,.func 34 [] [.ptr 0 7 0]),(10,.ptr 1 1 0),(11,.ptr 2 1 0),(25,.bool true)] (mkH K1) ?_
   exact hj1 true
  ·let E8:Env:=((21,.bool (decide ((a1.length:Int) < a3))) :: (20,.bool (decide ((a1.length:Int) < a3))) :: (19,.bool (decide ((a1.length:Int) < a3))) :: (18,.i (a1.length:Int)) :: (17,w34 a1) :: (16,.i a3) :: (15,.bool false) :: E1)
   refine oH 6 (atN 9 (ctl1 i1p1)) E8 (mkH K1) ?_
   refine oS 21 (fun hb=>?_) (fun hb=>?_)
   ·refine oR 5 i1p2 ((25,.bool true) :: (24,.tuple []) :: (23,.tuple []) :: (22,.tuple []) :: (21,.bool true) :: E8) ?_
    refine oK [0,1,2,3,4,10,11,25] [(0,.str a0),(1,w34 a1),(2,.i a2),(3,.i a3),(4,.func 34 [] [.ptr 0 7 0]),(10,.ptr 1 1 0),(11,.ptr 2 1 0),(25,.bool true)] ?_
    exact hj1 true
   ·refine oL 5 i1p2 [(0,.str a0),(1,w34 a1),(2,.i a2),(3,.i a3),(4,.func 34 [] [.ptr 0 7 0]),(10,.ptr 1 1 0),(11,.ptr 2 1 0),(25,.bool (decide (a3 < a2)))] ?_
    exact hj1 (decide (a3 < a2))
theorem i1_ok (k:Nat):Pi1 (i1 k):=fun a0 a1 a2 a3 a4 a5 a6 a7 a8 a9 a10=>fun x h=>i1_all k a0 a1 a2 a3 a4 a5 a6 a7 a8 a9 a10 x h
def Xg23:Fx (S28 × Int × Int):=⟨Try.prog,cx,Try.f23,fun r => .tuple [.agg [.i r.1.f0,.str r.1.f1,q29 r.1.f2,.bool r.1.f3,.bool r.1.f4,w9 r.1.f5,w9 r.1.f6],.i r.2.1,.i r.2.2],0,fun _=>H0,cxTi,cxOrd,fun _=>none,false⟩
def g23p2:Pt:=nav [0,0,0] (nav [0,0,0] (nav [0] (bodyAt Try.f23)))
def g23p3:Pt:=nav [0,0,0] g23p2
def g23 (k:Nat) (a0:(List Nat)) (a1:(List S33)) (a2:Int) (a3:Int):Option (S28 × Int × Int) :=
 (i1 k a0 a1 a2 a3 (0:Int) ([]:List Nat) (⟨(([]:List S28)).length,(([]:List S28)).flatMap e29⟩:Raw) false false ([]:List (List Nat)) ([]:List (List Nat))).bind fun x0_5=>(g30 k (⟨x0_5.2.2.2.1,x0_5.2.2.2.2.1,x0_5.2.2.2.2.2.1,x0_5.2.2.2.2.2.2.1,x0_5.2.2.2.2.2.2.2.1,x0_5.2.2.2.2.2.2.2.2,x0_5.2.2.1⟩:S28) x0_5.2.1).bind fun x1_2=>some (x1_2,x0_5.1,x0_5.2.1)
theorem g23_ok (k:Nat) (a0:(List Nat)) (a1:(List S33)) (a2:Int) (a3:Int) (r:(S28 × Int × Int)) (h:g23 k a0 a1 a2 a3 = some r):PureOk Try.prog 23 [.str a0,w34 a1,.i a2,.i a3] (.tuple [.agg [.i r.1.f0,.str r.1.f1,q29 r.1.f2,.bool r.1.f3,.bool r.1.f4,w9 r.1.f5,w9 r.1.f6],.i r.2.1,.i r.2.2]):=by
 refine qA4 Xg23 (fun _=>⟨rfl,rfl⟩) Try.func23 (by decide +kernel) (by kernel_rfl) (t:=g23 k a0 a1 a2 a3) ?_ h
 unfold g23
 refine qA (eE:=[(0,.str a0),(1,w34 a1),(2,.i a2),(3,.i a3)]) (by kernel_rfl) ?_
 let E1:Env:=[(11,.ptr 1 7 0),(10,.i 0),(9,.i 0),(8,.ptr 0 7 0),(0,.str a0),(1,w34 a1),(2,.i a2),(3,.i a3)]
 let Q1:Blk:=⟨[.i 0,.str [],.nils,.bool false,.bool false,.nils,.nils],0,false⟩
 refine oH 11 g23p2 E1 (mkH [Q1,Q1]) ?_
 refine qCw [Q1,Q1] 1 0 [.i 0,.str [],.nils,.bool false,.bool false,.nils,.nils] [.i 0,.str [],w29 ([]:List S28),.bool false,.bool false,w9 ([]:List (List Nat)),w9 ([]:List (List Nat))] (by kernel_rfl) rfl (.cons (.cons (.nil (.cons (.cons (.nil (.nil (.refl)))))))) ?_
 let E2:Env:=((19,.func 34 [] [.ptr 1 7 0]) :: (18,.i a3) :: (17,.i a2) :: (16,w34 a1) :: (15,.str a0) :: E1)
 refine oH 6 (atN 5 (ctl1 g23p2)) E2 (mkH [Q1,⟨[.i 0,.str [],w29 ([]:List S28),.bool false,.bool false,w9 ([]:List (List Nat)),w9 ([]:List (List Nat))],0,false⟩]) ?_
 refine qG1 (fun (x0_5:Ri1) => .tuple [.i x0_5.1,.i x0_5.2.1]) (fun (x0_5:Ri1)=>(mkH [Q1,⟨[.i x0_5.2.2.2.1,.str x0_5.2.2.2.2.1,q29 x0_5.2.2.2.2.2.1,.bool x0_5.2.2.2.2.2.2.1,.bool x0_5.2.2.2.2.2.2.2.1,w9 x0_5.2.2.2.2.2.2.2.2,w9 x0_5.2.2.1],7,false⟩])) (atN 6 (ctl1 g23p2)) (fun x0_5=>((20,.tuple [.i x0_5.1,.i x0_5.2.1]) :: E2)) (fi:=27) (args:=[.str a0,w34 a1,.i a2,.i a3,.func 34 [] [.ptr 1 7 0]]) (by kernel_rfl) (fun x0_5 h=>frW 0 [Q1,⟨[.i 0,.str [],w29 ([]:List S28),.bool false,.bool false,w9 ([]:List (List Nat)),w9 ([]:List (List Nat))],7,false⟩] (rs:=[1]) (ms:=[]) (ms':=[]) (mv:=[]) (xs':=[.str a0,w34 a1,.i a2,.i a3,.func 34 [] [.ptr 1 7 0]]) (.refl) (i1_ok k a0 a1 a2 a3 (0:Int) ([]:List Nat) (⟨(([]:List S28)).length,(([]:List S28)).flatMap e29⟩:Raw) false false ([]:List (List Nat)) ([]:List (List Nat)) x0_5 h) trivial trivial (by kernel_rfl)) (fun _=>by kernel_rfl) (fun x0_5 hx0_5=>?_)
 let E4:Env:=[(8,.ptr 0 7 0),(11,.ptr 1 7 0),(12,.i x0_5.1),(13,.i x0_5.2.1)]
 refine oLH 7 g23p3 E4 (mkH [Q1,⟨[.i x0_5.2.2.2.1,.str x0_5.2.2.2.2.1,q29 x0_5.2.2.2.2.2.1,.bool x0_5.2.2.2.2.2.2.1,.bool x0_5.2.2.2.2.2.2.2.1,w9 x0_5.2.2.2.2.2.2.2.2,w9 x0_5.2.2.1],7,false⟩]) ?_
 refine oR 3 (atN 2 (ctl1 g23p3)) ((24,.i x0_5.2.1) :: (23,.agg [.i x0_5.2.2.2.1,.str x0_5.2.2.2.2.1,q29 x0_5.2.2.2.2.2.1,.bool x0_5.2.2.2.2.2.2.1,.bool x0_5.2.2.2.2.2.2.2.1,w9 x0_5.2.2.2.2.2.2.2.2,w9 x0_5.2.2.1]) :: E4) ?_
 refine oA (fun (x1_2:S28)=>n29 x1_2) (atN 3 (ctl1 g23p3)) 25 [.agg [.i x0_5.2.2.2.1,.str x0_5.2.2.2.2.1,q29 x0_5.2.2.2.2.2.1,.bool x0_5.2.2.2.2.2.2.1,.bool x0_5.2.2.2.2.2.2.2.1,w9 x0_5.2.2.2.2.2.2.2.2,w9 x0_5.2.2.1],.i x0_5.2.1] (g30_ok k (⟨x0_5.2.2.2.1,x0_5.2.2.2.2.1,x0_5.2.2.2.2.2.1,x0_5.2.2.2.2.2.2.1,x0_5.2.2.2.2.2.2.2.1,x0_5.2.2.2.2.2.2.2.2,x0_5.2.2.1⟩:S28) x0_5.2.1) fun x1_2 hx1_2=>?_
 exact oQ 7
end
theorem pos_all {L:List S33} {W:List Tkn} {k:Nat} {s:List Nat} (hv:Vw k s L (L.length:Int) W):pos (L.length:Int) W = 0:=by
 have:=hv.len
 unfold pos
 omega
theorem cT_some {α R:Type} {m:Option (Option α)} {x:α} {d r:Option R} {f:α → Option R} (h:m = some (some x)) (k:f x = r):cT m d f = r:=by rw [h]; exact k
theorem expr_top {k n:Nat} {s:List Nat} {L:List S33} {W:List Tkn} {lv:Int} {nd:S28} {r:List Tkn} (hv:∀ j,Vw (k + j) s L (L.length:Int) W) (h:(cpar k n).c5 lv W = some (some (nd,r))):g14 (k + n) s L 0 (L.length:Int) lv = some (nd,pos (L.length:Int) r,0):=by
 obtain ⟨h1,-⟩:=(qB8 hv n).c5 lv W (List.suffix_refl W) _ h
 rw [pos_all (hv 0)] at h1
 have h2:i3 (k + n) lv 0 [] ⟨0,[]⟩ false false [] [] s L 0 (L.length:Int) = some (some (nd.f0,pos (L.length:Int) r,nd.f1,nd.f2,nd.f3,nd.f4,nd.f5,nd.f6)):=by
  unfold i3
  refine (congrArg (fun m=>bT m _) h1).trans rfl
 unfold g14
 refine bS (a:=(pos (L.length:Int) r,0,nd.f5,nd.f6,nd.f0,nd.f1,nd.f2,nd.f3,nd.f4)) ?_ (bS rfl rfl)
 unfold i0
 exact (jS (v:=false) (fun j=>iF (by decide) (iF (dF (by omega)) (by rw [dF (by omega)])))).trans (iF rfl (cT_some h2 rfl))
theorem bT_s {α β:Type} {m:Option (Option α)} {x:α} {f:α → Option (Option β)} {r:Option (Option β)} (h:m = some (some x)) (k:f x = r):bT m f = r:=by rw [h]; exact k
def wB (b:Bool):List Nat:=if b then [10,10] else []
def callP (c:Nat):List Pc:=[⟨[],[40],9⟩,⟨[],[49],3⟩,⟨[],[41],9⟩]
def itP (b n:Bool) (c:Nat):List Pc:=if n then ⟨wB b,[37,110],11⟩ :: ⟨[10],[120,c],1⟩ :: callP c else ⟨wB b,[120,c],1⟩ :: callP c
def moreP : Nat → List (Bool × Bool) → List Pc
 | _,[]=>[]
 | j,(b,n) :: r=>⟨[],[44],9⟩ :: (itP b n (97 + j) ++ moreP (j + 1) r)
def litN (t:List Nat):S28:=⟨1,t,⟨0,[]⟩,false,false,[],[]⟩
def nt (n:Bool):List (List Nat):=if n then [[37,110]] else []
theorem app104 {l x:List S28} (h:l.length + x.length ≤ 1000000):appS 104 l x = some (l ++ x):=by
 unfold appS
 rw [if_pos ⟨by omega,by omega⟩]
theorem qM0 (rest:List Nat):TokAt [44] 9 rest:=qDp rfl rfl (by decide) rfl
theorem qJe (rest:List Nat):TokAt [40] 9 rest:=qDp rfl rfl (by decide) rfl
theorem qJd (rest:List Nat):TokAt [41] 9 rest:=qDp rfl rfl (by decide) rfl
theorem c8 {P:Nat → Prop} (h:P 97 ∧ P 98 ∧ P 99 ∧ P 100 ∧ P 101 ∧ P 102 ∧ P 103 ∧ P 104) {j:Nat} (hj:j < 8):P (97 + j):=by
 obtain ⟨h0,h1,h2,h3,h4,h5,h6,h7⟩:=h
 match j,hj with
 | 0,_=>exact h0
 | 1,_=>exact h1
 | 2,_=>exact h2
 | 3,_=>exact h3
 | 4,_=>exact h4
 | 5,_=>exact h5
 | 6,_=>exact h6
 | 7,_=>exact h7
theorem qDv : ∀ (a b : List Pc), txt (a ++ b) = txt a ++ txt b
 | [],b=>rfl
 | p :: a,b=>by simp [txt,qDv a b]
def allP (b n:Bool) (l:List (Bool × Bool)):List Pc:=itP b n 97 ++ moreP 1 l
theorem all_cons (b n:Bool) (l:List (Bool × Bool)):∃ p r,allP b n l = p :: r:=by cases n <;> exact ⟨_,_,rfl⟩
theorem nthR_at:∀ (l:List S28) (i:Nat) (x:S28),l[i]? = some x → d29 (e29 x) = some x → nthR d29 7 l.length (l.flatMap e29) (i:Int) = some x:=by
 intro l i x h hd
 have hi:=(List.getElem?_eq_some_iff.1 h).1
 unfold nthR
 rw [if_pos ⟨by omega,by omega⟩,Int.toNat_natCast]
 have:∀ (l:List S28) (i:Nat),l[i]? = some x → ((l.flatMap e29).drop (i * 7)).take 7 = e29 x:=by
  intro l
  induction l with
  | nil=>intro i h; simp at h
  | cons y l ih =>
   intro i h
   cases i with
   | zero =>
    simp only [List.getElem?_cons_zero,Option.some.injEq] at h
    subst h
    rfl
   | succ i =>
    rw [List.getElem?_cons_succ] at h
    rw [List.flatMap_cons,Nat.succ_mul,Nat.add_comm,← List.drop_drop]
    rw [show (7:Nat) = (e29 y).length from rfl,List.drop_left]
    exact ih i h
 rw [this l i h]
 exact hd
def ndB (kd:Int) (t:List Nat) (l:List S28) (br:Bool):S28:=⟨kd,t,⟨l.length,l.flatMap e29⟩,br,false,[],[]⟩
def ixB : Nat → List Pc → Nat
 | i,[]=>i
 | i,p :: r=>ixB (i + p.w.length + p.t.length) r
theorem lt10 {P:Nat → Prop} (h0:P 0) (h1:P 1) (h2:P 2) (h3:P 3) (h4:P 4) (h5:P 5) (h6:P 6) (h7:P 7) (h8:P 8) (h9:P 9):∀ j,j < 10 → P j:=by
 intro j hj
 match j,hj with
 | 0,_=>exact h0
 | 1,_=>exact h1
 | 2,_=>exact h2
 | 3,_=>exact h3
 | 4,_=>exact h4
 | 5,_=>exact h5
 | 6,_=>exact h6
 | 7,_=>exact h7
 | 8,_=>exact h8
 | 9,_=>exact h9
def itB (t:Nat) (w:List Nat):List Pc:=match t with
 | 0=>[⟨w,[97],1⟩]
 | 1=>[⟨w,[88],2⟩,⟨[32],[43],9⟩,⟨[32],[49],3⟩]
 | 2=>[⟨w,[102],1⟩,⟨[],[40],9⟩,⟨[],[120],1⟩,⟨[],[41],9⟩]
 | 3=>[⟨w,[123],9⟩,⟨[],[125],9⟩]
 | 4=>[⟨w,[91],9⟩,⟨[],[93],9⟩]
 | 5=>[⟨w,[34,115,34],6⟩]
 | 6=>[⟨w,[110,111,116],8⟩,⟨[32],[98],1⟩]
 | 7=>[⟨w,[35],9⟩,⟨[],[123],9⟩,⟨[],[125],9⟩]
 | 8=>[⟨w,[102,117,110],8⟩,⟨[32],[102],1⟩,⟨[],[47],9⟩,⟨[],[49],3⟩]
 | _=>[⟨w,[45],9⟩,⟨[32],[49],3⟩]
def itNb (t:Nat):S28:=match t with
 | 0=>litN [97]
 | 1=>ndB 14 [43] [litN [88],litN [49]] false
 | 2=>ndB 2 [] [litN [102],litN [120]] false
 | 3=>ndB 4 [] [] false
 | 4=>ndB 5 [] [] false
 | 5=>litN [34,115,34]
 | 6=>ndB 13 [110,111,116] [litN [98]] false
 | 7=>ndB 8 [] [] false
 | 8=>ndB 16 [102,47,49] [] false
 | _=>ndB 13 [45] [litN [49]] false
def cmP:Pc:=⟨[],[44],9⟩
def shP (s:List Nat):Pc:=⟨[],s,9⟩
def tlB (sh : List Nat) : List Nat → List Pc
 | []=>[shP sh]
 | t :: r=>cmP :: (itB t [32] ++ tlB sh r)
theorem qN8 (i:Nat) (w s:List Nat) (r:List Pc) (hs:s = [44] ∨ s = [125] ∨ s = [41]):∀ t,t < 10 → (cpar 300 96).c29 (vwp false i (itB t w ++ shP s :: r)) = some (some (itNb t,vwp false (ixB i (itB t w)) (shP s :: r))):=by
 rcases hs with rfl | rfl | rfl <;> refine lt10 ?_ ?_ ?_ ?_ ?_ ?_ ?_ ?_ ?_ ?_ <;> show _ = _ <;> kernel_rfl
theorem it29_95 (i:Nat) (w s:List Nat) (r:List Pc) (hs:s = [44] ∨ s = [125] ∨ s = [41]):∀ t,t < 10 → (cpar 300 95).c29 (vwp false i (itB t w ++ shP s :: r)) = some (some (itNb t,vwp false (ixB i (itB t w)) (shP s :: r))):=by
 rcases hs with rfl | rfl | rfl <;> refine lt10 ?_ ?_ ?_ ?_ ?_ ?_ ?_ ?_ ?_ ?_ <;> show _ = _ <;> kernel_rfl
theorem it32_96 (i:Nat) (w s:List Nat) (r:List Pc) (hs:s = [44] ∨ s = [125]):∀ t,t < 10 → (cpar 300 96).c32 (vwp false i (itB t w ++ shP s :: r)) = some (some (itNb t,vwp false (ixB i (itB t w)) (shP s :: r))):=by
 rcases hs with rfl | rfl <;> refine lt10 ?_ ?_ ?_ ?_ ?_ ?_ ?_ ?_ ?_ ?_ <;> show _ = _ <;> kernel_rfl
theorem it32_95 (i:Nat) (w s:List Nat) (r:List Pc) (hs:s = [44] ∨ s = [125]):∀ t,t < 10 → (cpar 300 95).c32 (vwp false i (itB t w ++ shP s :: r)) = some (some (itNb t,vwp false (ixB i (itB t w)) (shP s :: r))):=by
 rcases hs with rfl | rfl <;> refine lt10 ?_ ?_ ?_ ?_ ?_ ?_ ?_ ?_ ?_ ?_ <;> show _ = _ <;> kernel_rfl
theorem it5_96 (i:Nat) (w s:List Nat) (r:List Pc) (hs:s = [44] ∨ s = [93]):∀ t,t < 10 → (cpar 300 96).c5 3 (vwp false i (itB t w ++ shP s :: r)) = some (some (itNb t,vwp false (ixB i (itB t w)) (shP s :: r))):=by
 rcases hs with rfl | rfl <;> refine lt10 ?_ ?_ ?_ ?_ ?_ ?_ ?_ ?_ ?_ ?_ <;> show _ = _ <;> kernel_rfl
theorem it_eta:∀ t,t < 10 → (⟨(itNb t).f0,(itNb t).f1,(itNb t).f2,(itNb t).f3,(itNb t).f4,[],(itNb t).f6⟩:S28) = itNb t:=by
 refine lt10 ?_ ?_ ?_ ?_ ?_ ?_ ?_ ?_ ?_ ?_ <;> rfl
theorem qF2 {acc:List S28} {t:Nat} (ht:t < 10) (h:acc.length < 1000):appS 104 acc [(⟨(itNb t).f0,(itNb t).f1,(itNb t).f2,(itNb t).f3,(itNb t).f4,[],(itNb t).f6⟩:S28)] = some (acc ++ [itNb t]):=by
 rw [it_eta t ht]; exact app104 (by simp; omega)
theorem qCh (kk i:Nat) (f:Bool) (w:List Nat) (X:List Pc):∀ t,t < 10 → c12 (kk + 1) (vwp f i (itB t w ++ X)) = some ([],vwp f i (itB t w ++ X)):=by
 refine lt10 ?_ ?_ ?_ ?_ ?_ ?_ ?_ ?_ ?_ ?_ <;> rfl
theorem qN6 (kk i:Nat) (f:Bool) (w s:List Nat) (X:List Pc) (hs:s = [125] ∨ s = [41] ∨ s = [93]):∀ t,t < 10 → c7 (kk + 1) s (vwp f i (itB t w ++ X)) = some (some (false,vwp f i (itB t w ++ X))):=by
 rcases hs with rfl | rfl | rfl <;> refine lt10 ?_ ?_ ?_ ?_ ?_ ?_ ?_ ?_ ?_ ?_ <;> rfl
theorem loop18 {kk : Nat} {F : Cns} {a0 : Int} {a1 sh : List Nat} {brk : Bool} (hsh : sh = [125] ∨ sh = [41]) (hit : ∀ (t i : Nat) (w s : List Nat) (r : List Pc), t < 10 → (s = [44] ∨ s = sh) → F.c29 (vwp false i (itB t w ++ shP s :: r)) = some (some (itNb t, vwp false (ixB i (itB t w)) (shP s :: r)))) : ∀ (l : List Nat) (t i n : Nat) (w : List Nat) (acc : List S28), (∀ x ∈ t :: l, x < 10) → l.length < n → acc.length + l.length < 900 → qDg (kk + 1) F a0 a1 false [] [] sh brk n [] (vwp false i (itB t w ++ tlB sh l)) acc = some (some (a0, a1, brk, false, [], [], [], acc ++ itNb t :: l.map itNb))
 | l,t,i,0,w,acc,h1,h2,h3=>by omega
 | [],t,i,n + 1,w,acc,h1,h2,h3=>by
  have ht:t < 10:=h1 t List.mem_cons_self
  show qC3 (kk + 1) F a0 a1 false [] [] sh brk (qDg (kk + 1) F a0 a1 false [] [] sh brk n) [] _ acc = _
  unfold qC3
  refine bT_s (hit t i w sh [] ht (.inr rfl)) (bS (qF2 ht (by omega)) (bS (a:=([],vwp false (ixB i (itB t w)) [shP sh])) rfl (bT_s (x:=(true,[])) ?_ (iT rfl rfl))))
  rcases hsh with rfl | rfl <;> rfl
 | t2 :: l,t,i,n + 1,w,acc,h1,h2,h3=>by
  have ht:t < 10:=h1 t List.mem_cons_self
  have ht2:t2 < 10:=h1 t2 (List.mem_cons_of_mem _ List.mem_cons_self)
  simp only [List.length_cons] at h2 h3
  show qC3 (kk + 1) F a0 a1 false [] [] sh brk (qDg (kk + 1) F a0 a1 false [] [] sh brk n) [] _ acc = _
  unfold qC3
  refine bT_s (hit t i w [44] (itB t2 [32] ++ tlB sh l) ht (.inl rfl)) (bS (qF2 ht (by omega)) (bS (a:=([],vwp false (ixB i (itB t w)) (cmP :: (itB t2 [32] ++ tlB sh l)))) rfl (bT_s (x:=(false,vwp false (ixB i (itB t w)) (cmP :: (itB t2 [32] ++ tlB sh l)))) ?_ (iF rfl (bT_s (x:=()) rfl (bT_s (x:=vwp false (ixB i (itB t w) + 0 + 1) (itB t2 [32] ++ tlB sh l)) rfl (bS (qCh _ _ _ _ _ t2 ht2) ((loop18 hsh hit l t2 _ n [32] _ (fun x hx=>h1 x (List.mem_cons_of_mem _ hx)) (by omega) (by simp; omega)).trans ?_))))))))
  ·rcases hsh with rfl | rfl <;> rfl
  ·simp
theorem loop21 {kk : Nat} {F : Cns} {a0 : Int} {a1 sh : List Nat} {brk : Bool} (hsh : sh = [125]) (hit : ∀ (t i : Nat) (w s : List Nat) (r : List Pc), t < 10 → (s = [44] ∨ s = sh) → F.c32 (vwp false i (itB t w ++ shP s :: r)) = some (some (itNb t, vwp false (ixB i (itB t w)) (shP s :: r)))) : ∀ (l : List Nat) (t i n : Nat) (w : List Nat) (acc : List S28), (∀ x ∈ t :: l, x < 10) → l.length < n → acc.length + l.length < 900 → qDe (kk + 1) F a0 a1 false [] [] sh brk n [] (vwp false i (itB t w ++ tlB sh l)) acc = some (some (a0, a1, brk, false, [], [], [], acc ++ itNb t :: l.map itNb))
 | l,t,i,0,w,acc,h1,h2,h3=>by omega
 | [],t,i,n + 1,w,acc,h1,h2,h3=>by
  have ht:t < 10:=h1 t List.mem_cons_self
  show qC1 (kk + 1) F a0 a1 false [] [] sh brk (qDe (kk + 1) F a0 a1 false [] [] sh brk n) [] _ acc = _
  unfold qC1
  refine bT_s (hit t i w sh [] ht (.inr rfl)) (bS (qF2 ht (by omega)) (bS (a:=([],vwp false (ixB i (itB t w)) [shP sh])) rfl (bT_s (x:=(true,[])) ?_ (iT rfl rfl))))
  rcases hsh with rfl <;> rfl
 | t2 :: l,t,i,n + 1,w,acc,h1,h2,h3=>by
  have ht:t < 10:=h1 t List.mem_cons_self
  have ht2:t2 < 10:=h1 t2 (List.mem_cons_of_mem _ List.mem_cons_self)
  simp only [List.length_cons] at h2 h3
  show qC1 (kk + 1) F a0 a1 false [] [] sh brk (qDe (kk + 1) F a0 a1 false [] [] sh brk n) [] _ acc = _
  unfold qC1
  refine bT_s (hit t i w [44] (itB t2 [32] ++ tlB sh l) ht (.inl rfl)) (bS (qF2 ht (by omega)) (bS (a:=([],vwp false (ixB i (itB t w)) (cmP :: (itB t2 [32] ++ tlB sh l)))) rfl (bT_s (x:=(false,vwp false (ixB i (itB t w)) (cmP :: (itB t2 [32] ++ tlB sh l)))) ?_ (iF rfl (bT_s (x:=()) rfl (bT_s (x:=vwp false (ixB i (itB t w) + 0 + 1) (itB t2 [32] ++ tlB sh l)) rfl (bS (qCh _ _ _ _ _ t2 ht2) ((loop21 hsh hit l t2 _ n [32] _ (fun x hx=>h1 x (List.mem_cons_of_mem _ hx)) (by omega) (by simp; omega)).trans ?_))))))))
  ·rcases hsh with rfl <;> rfl
  ·simp
theorem loop19 {a2 : List Tkn} {brk : Bool} : ∀ (l : List Nat) (t i n : Nat) (acc : List S28), (∀ x ∈ t :: l, x < 10) → l.length < n → acc.length + l.length < 900 → qDf 396 (cpar 300 96) a2 brk n [] (vwp false i (tlB [93] l)) acc (itNb t) = some (some (ndB 5 [] (acc ++ itNb t :: l.map itNb) brk, []))
 | l,t,i,0,acc,h1,h2,h3=>by omega
 | [],t,i,n + 1,acc,h1,h2,h3=>by
  have ht:t < 10:=h1 t List.mem_cons_self
  show qC2 396 (cpar 300 96) a2 brk (qDf 396 (cpar 300 96) a2 brk n) [] _ acc _ = _
  unfold qC2
  exact bS (qF2 ht (by omega)) (bT_s (x:=(false,vwp false i [shP [93]])) rfl (iF rfl (bS (a:=([],vwp false i [shP [93]])) rfl (bT_s (x:=(true,[])) rfl (iT rfl rfl)))))
 | t2 :: l,t,i,n + 1,acc,h1,h2,h3=>by
  have ht:t < 10:=h1 t List.mem_cons_self
  have ht2:t2 < 10:=h1 t2 (List.mem_cons_of_mem _ List.mem_cons_self)
  simp only [List.length_cons] at h2 h3
  obtain ⟨s,r,e,hs⟩:∃ s r,tlB [93] l = shP s :: r ∧ (s = [44] ∨ s = [93]):=by cases l <;> exact ⟨_,_,rfl,by simp [cmP,shP]⟩
  have h5:=it5_96 (i + 0 + 1) [32] s r hs t2 ht2
  rw [← e] at h5
  show qC2 396 (cpar 300 96) a2 brk (qDf 396 (cpar 300 96) a2 brk n) [] _ acc _ = _
  unfold qC2
  refine bS (qF2 ht (by omega)) (bT_s (x:=(false,vwp false i (cmP :: (itB t2 [32] ++ tlB [93] l)))) rfl (iF rfl (bS (a:=([],vwp false i (cmP :: (itB t2 [32] ++ tlB [93] l)))) rfl (bT_s (x:=(false,vwp false i (cmP :: (itB t2 [32] ++ tlB [93] l)))) rfl (iF rfl (bT_s (x:=()) rfl (bT_s (x:=vwp false (i + 0 + 1) (itB t2 [32] ++ tlB [93] l)) rfl (bS (qCh _ _ _ _ _ t2 ht2) (bT_s h5 ((loop19 l t2 _ n _ (fun x hx=>h1 x (List.mem_cons_of_mem _ hx)) (by omega) (by simp; omega)).trans ?_))))))))))
  simp
def opB (c:Nat):List Pc:=match c with
 | 0=>[⟨[],[123],9⟩]
 | 1=>[⟨[],[91],9⟩]
 | 2=>[⟨[],[102],1⟩,⟨[],[40],9⟩]
 | 3=>[⟨[],[35],9⟩,⟨[],[123],9⟩]
 | 4=>[⟨[],[35],9⟩,⟨[],[114],1⟩,⟨[],[123],9⟩]
 | 5=>[⟨[],[88],2⟩,⟨[],[35],9⟩,⟨[],[123],9⟩]
 | _=>[⟨[],[88],2⟩,⟨[],[35],9⟩,⟨[],[114],1⟩,⟨[],[123],9⟩]
def shB (c:Nat):List Nat:=match c with
 | 1=>[93]
 | 2=>[41]
 | _=>[125]
def nlw (nl:Bool):List Nat:=if nl then [10] else []
def boxP (c : Nat) (nl : Bool) : List Nat → List Pc
 | []=>opB c ++ [⟨nlw nl,shB c,9⟩]
 | t :: l=>opB c ++ (itB t (nlw nl) ++ tlB (shB c) l)
def boxN (c:Nat) (nl:Bool) (L:List S28):S28:=match c with
 | 0=>ndB 4 [] L nl
 | 1=>ndB 5 [] L nl
 | 2=>ndB 2 [] (litN [102] :: L) nl
 | 3=>ndB 8 [] L nl
 | 4=>ndB 10 [114] L nl
 | 5=>ndB 9 [] (litN [88] :: L) nl
 | _=>ndB 11 [114] (litN [88] :: L) nl
theorem bp_p (W:List Tkn):(cpar 300 98).c13 W = c13B 397 (cpar 300 97) W:=by kernel_rfl
theorem bp_o (W:List Tkn):(cpar 300 99).c8 W = c8B 398 (cpar 300 98) W:=by kernel_rfl
theorem bp_e (W:List Tkn):(cpar 300 100).c5 0 W = c5B 399 (cpar 300 99) 0 W:=by kernel_rfl
theorem bp_b (n:S28) (b:Bool) (W:List Tkn):(cpar 300 98).c14 n b W = c14B 397 (cpar 300 97) n b W:=by kernel_rfl
theorem bp_r (n:S28) (W:List Tkn):(cpar 300 97).c26 n W = c26B 396 (cpar 300 96) n W:=by kernel_rfl
theorem bp_l (W:List Tkn):(cpar 300 97).c19 W = c19B 396 (cpar 300 96) W:=by kernel_rfl
theorem bp_18 (a0:Int) (a1 a6:List Nat) (W:List Tkn) (b:List S28):(cpar 300 97).c18 a0 a1 false false [] [] a6 W b = c18B 396 (cpar 300 96) a0 a1 false false [] [] a6 W b:=by kernel_rfl
theorem bp_18' (a0:Int) (a1 a6:List Nat) (W:List Tkn) (b:List S28):(cpar 300 96).c18 a0 a1 false false [] [] a6 W b = c18B 395 (cpar 300 95) a0 a1 false false [] [] a6 W b:=by kernel_rfl
theorem bp_21 (a0:Int) (a1 a6:List Nat) (W:List Tkn) (b:List S28):(cpar 300 97).c21 a0 a1 false false [] [] a6 W b = c21B 396 (cpar 300 96) a0 a1 false false [] [] a6 W b:=by kernel_rfl
theorem bp_21' (a0:Int) (a1 a6:List Nat) (W:List Tkn) (b:List S28):(cpar 300 96).c21 a0 a1 false false [] [] a6 W b = c21B 395 (cpar 300 95) a0 a1 false false [] [] a6 W b:=by kernel_rfl
theorem qN7 (kk i:Nat) (nl:Bool) (X:List Pc):∀ t,t < 10 → c28 (kk + 1) (vwp false i (itB t (nlw nl) ++ X)) = some nl:=by
 cases nl <;> refine lt10 ?_ ?_ ?_ ?_ ?_ ?_ ?_ ?_ ?_ ?_ <;> rfl
theorem items18 {kk:Nat} {F:Cns} {a0:Int} {a1 sh:List Nat} {nl:Bool} (hsh:sh = [125] ∨ sh = [41]) (hit:∀ (t i:Nat) (w s:List Nat) (r:List Pc),t < 10 → (s = [44] ∨ s = sh) → F.c29 (vwp false i (itB t w ++ shP s :: r)) = some (some (itNb t,vwp false (ixB i (itB t w)) (shP s :: r)))) (l:List Nat) (t i:Nat) (acc:List S28) (h1:∀ x ∈ t :: l,x < 10) (h2:l.length < kk) (h3:acc.length + l.length < 900):c18B (kk + 1) F a0 a1 false false [] [] sh (vwp false i (itB t (nlw nl) ++ tlB sh l)) acc = some (some (a0,a1,nl,false,[],[],[],acc ++ itNb t :: l.map itNb)):=by
 have ht:t < 10:=h1 t List.mem_cons_self
 unfold c18B
 exact bS (qN7 _ _ _ _ t ht) (bS (qCh _ _ _ _ _ t ht) (bT_s (qN6 _ _ _ _ _ _ (by rcases hsh with h | h <;> simp [h]) t ht) (iF rfl (loop18 hsh hit l t i (kk + 1) (nlw nl) acc h1 (by omega) h3))))
theorem items21 {kk:Nat} {F:Cns} {a0:Int} {a1 sh:List Nat} {nl:Bool} (hsh:sh = [125]) (hit:∀ (t i:Nat) (w s:List Nat) (r:List Pc),t < 10 → (s = [44] ∨ s = sh) → F.c32 (vwp false i (itB t w ++ shP s :: r)) = some (some (itNb t,vwp false (ixB i (itB t w)) (shP s :: r)))) (l:List Nat) (t i:Nat) (acc:List S28) (h1:∀ x ∈ t :: l,x < 10) (h2:l.length < kk) (h3:acc.length + l.length < 900):c21B (kk + 1) F a0 a1 false false [] [] sh (vwp false i (itB t (nlw nl) ++ tlB sh l)) acc = some (some (a0,a1,nl,false,[],[],[],acc ++ itNb t :: l.map itNb)):=by
 have ht:t < 10:=h1 t List.mem_cons_self
 unfold c21B
 exact bS (qN7 _ _ _ _ t ht) (bS (qCh _ _ _ _ _ t ht) (bT_s (qN6 _ _ _ _ _ _ (.inl hsh) t ht) (iF rfl (loop21 hsh hit l t i (kk + 1) (nlw nl) acc h1 (by omega) h3))))
theorem list_w {nl:Bool} (l:List Nat) (t i:Nat) (h1:∀ x ∈ t :: l,x < 10) (h2:l.length < 100):(cpar 300 97).c19 (vwp false i (itB t (nlw nl) ++ tlB [93] l)) = some (some (ndB 5 [] (itNb t :: l.map itNb) nl,[])):=by
 have ht:t < 10:=h1 t List.mem_cons_self
 obtain ⟨s,r,e,hs⟩:∃ s r,tlB [93] l = shP s :: r ∧ (s = [44] ∨ s = [93]):=by cases l <;> exact ⟨_,_,rfl,by simp [cmP,shP]⟩
 have h5:=it5_96 i (nlw nl) s r hs t ht
 rw [← e] at h5
 rw [bp_l]
 unfold c19B
 refine bS (qN7 395 _ _ _ t ht) (bS (qCh 395 _ _ _ _ t ht) (bT_s (qN6 395 _ _ _ _ _ (.inr (.inr rfl)) t ht) (iF rfl (bT_s h5 ((jS (v:=(false,vwp false (ixB i (itB t (nlw nl))) (tlB [93] l))) (fun q=>iT rfl (bT_s (x:=(false,vwp false (ixB i (itB t (nlw nl))) (tlB [93] l))) ?_ rfl))).trans (iF rfl (loop19 l t _ 396 [] h1 (by omega) (by simp; omega))))))))
 rw [e]
 rcases hs with rfl | rfl <;> rfl
def ndT (x:Int × List Nat × Bool × Bool × List (List Nat) × List (List Nat) × List Tkn × List S28):S28:=⟨x.1,x.2.1,⟨x.2.2.2.2.2.2.2.length,x.2.2.2.2.2.2.2.flatMap e29⟩,x.2.2.1,x.2.2.2.1,x.2.2.2.2.1,x.2.2.2.2.2.1⟩
def isHd (k:Int) (t:List Nat):Prop:=(k = 9 ∧ t = [123]) ∨ (k = 9 ∧ t = [91]) ∨ (k = 9 ∧ t = [35]) ∨ (k = 1 ∧ t = [102]) ∨ (k = 2 ∧ t = [88])
theorem expr_b {F:Cns} {k:Int} {t:List Nat} {p:Int} {r:List Tkn} (ht:isHd k t):c5B 399 F 0 ((⟨k,t,p⟩,0) :: r) = bT (F.c8 ((⟨k,t,p⟩,0) :: r)) fun x=>qPe 399 F 0 ((⟨k,t,p⟩,0) :: r) 399 x.2.1 x.2.2 x.1:=by
 rcases ht with ⟨rfl,rfl⟩ | ⟨rfl,rfl⟩ | ⟨rfl,rfl⟩ | ⟨rfl,rfl⟩ | ⟨rfl,rfl⟩ <;> kernel_rfl
theorem oper_b {F:Cns} {k:Int} {t:List Nat} {p:Int} {r:List Tkn} (ht:isHd k t):c8B 398 F ((⟨k,t,p⟩,0) :: r) = bT (F.c13 ((⟨k,t,p⟩,0) :: r)) fun x5_1=>bT (F.c14 x5_1.1 x5_1.2.1 x5_1.2.2) fun x6_3=>some (some (x6_3.1,(11:Int),x6_3.2)):=by
 rcases ht with ⟨rfl,rfl⟩ | ⟨rfl,rfl⟩ | ⟨rfl,rfl⟩ | ⟨rfl,rfl⟩ | ⟨rfl,rfl⟩ <;> kernel_rfl
theorem stop_b (W:List Tkn) (n:S28):qPe 399 (cpar 300 99) 0 W 399 11 [] n = some (some (n,[])):=by kernel_rfl
theorem qIv {k:Int} {t:List Nat} {p:Int} {r R:List Tkn} {x nd:S28} (ht:isHd k t) (h13:(cpar 300 98).c13 ((⟨k,t,p⟩,0) :: r) = some (some (x,false,R))) (h14:(cpar 300 98).c14 x false R = some (some (nd,[]))):(cpar 300 100).c5 0 ((⟨k,t,p⟩,0) :: r) = some (some (nd,[])):=by
 rw [bp_e,expr_b ht,bp_o,oper_b ht]
 exact bT_s (bT_s h13 (bT_s h14 rfl)) (stop_b _ _)
theorem beh_b (kd:Int) (t:List Nat) (L:List S28) (nl:Bool) (h:kd = 4 ∨ kd = 5 ∨ kd = 8 ∨ kd = 10):(cpar 300 98).c14 (ndB kd t L nl) false [] = some (some (ndB kd t L nl,[])):=by
 rcases h with rfl | rfl | rfl | rfl <;> kernel_rfl
theorem beh_l (W:List Tkn) (kd:Int) (t:List Nat) (L:List S28) (nl:Bool) (h:kd = 2 ∨ kd = 9 ∨ kd = 11):qFl 397 (cpar 300 97) W 396 false [] (ndB kd t L nl) = some (some (ndB kd t L nl,[])):=by
 rcases h with rfl | rfl | rfl <;> kernel_rfl
theorem prim_0 {F:Cns} {p:Int} {r:List Tkn}:c13B 397 F ((⟨9,[123],p⟩,0) :: r) = bT (F.c18 4 [] false false [] [] [125] r []) fun x=>some (some (ndT x,false,x.2.2.2.2.2.2.1)):=by kernel_rfl
theorem prim_1 {F:Cns} {p:Int} {r:List Tkn}:c13B 397 F ((⟨9,[91],p⟩,0) :: r) = bT (F.c19 r) fun x=>some (some (x.1,false,x.2)):=by kernel_rfl
theorem prim_3 {F:Cns} {p q:Int} {r:List Tkn}:c13B 397 F ((⟨9,[35],p⟩,0) :: (⟨9,[123],q⟩,0) :: r) = bT (F.c21 8 [] false false [] [] [125] r []) fun x=>some (some (ndT x,false,x.2.2.2.2.2.2.1)):=by kernel_rfl
theorem prim_4 {F:Cns} {p q s:Int} {r:List Tkn}:c13B 397 F ((⟨9,[35],p⟩,0) :: (⟨1,[114],q⟩,0) :: (⟨9,[123],s⟩,0) :: r) = bT (F.c18 10 [114] false false [] [] [125] r []) fun x=>some (some (ndT x,false,x.2.2.2.2.2.2.1)):=by kernel_rfl
theorem qMk {p q:Int} {t:List Nat} {k:Int} {r:List Tkn} (h:isHd k t) (h2:k = 1 ∨ k = 2):(cpar 300 98).c13 ((⟨k,t,p⟩,0) :: r) = some (some (litN t,false,r)):=by
 rcases h with ⟨rfl,rfl⟩ | ⟨rfl,rfl⟩ | ⟨rfl,rfl⟩ | ⟨rfl,rfl⟩ | ⟨rfl,rfl⟩ <;> first | (rcases h2 with h2 | h2 <;> cases h2; done) | kernel_rfl
theorem beh_2 {F:Cns} {p:Int} {r:List Tkn}:c14B 397 F (litN [102]) false ((⟨9,[40],p⟩,0) :: r) = bT (F.c18 2 [] false false [] [] [41] r [litN [102]]) fun x=>qFl 397 F ((⟨9,[40],p⟩,0) :: r) 396 false x.2.2.2.2.2.2.1 (ndT x):=by kernel_rfl
theorem beh_5 {F:Cns} {p:Int} {r:List Tkn}:c14B 397 F (litN [88]) false ((⟨9,[35],p⟩,0) :: r) = bT (F.c26 (litN [88]) r) fun x=>qFl 397 F ((⟨9,[35],p⟩,0) :: r) 396 false x.2 x.1:=by kernel_rfl
theorem rec_5 {F:Cns} {p:Int} {r:List Tkn}:c26B 396 F (litN [88]) ((⟨9,[123],p⟩,0) :: r) = bT (F.c21 9 [] false false [] [] [125] r [litN [88]]) fun x=>some (some (ndT x,x.2.2.2.2.2.2.1)):=by kernel_rfl
theorem rec_6 {F:Cns} {p q:Int} {r:List Tkn}:c26B 396 F (litN [88]) ((⟨1,[114],q⟩,0) :: (⟨9,[123],p⟩,0) :: r) = bT (F.c18 11 [114] false false [] [] [125] r [litN [88]]) fun x=>some (some (ndT x,x.2.2.2.2.2.2.1)):=by kernel_rfl
theorem box_e (nl:Bool):∀ c,c < 7 → (cpar 300 100).c5 0 (vwp true 0 (boxP c nl [])) = some (some (boxN c nl [],[])):=by
 intro c hc
 match c,hc with
 | 0,_=>cases nl <;> show _ = _ <;> kernel_rfl
 | 1,_=>cases nl <;> show _ = _ <;> kernel_rfl
 | 2,_=>cases nl <;> show _ = _ <;> kernel_rfl
 | 3,_=>cases nl <;> show _ = _ <;> kernel_rfl
 | 4,_=>cases nl <;> show _ = _ <;> kernel_rfl
 | 5,_=>cases nl <;> show _ = _ <;> kernel_rfl
 | 6,_=>cases nl <;> show _ = _ <;> kernel_rfl
theorem box_w {nl:Bool} {t:Nat} {l:List Nat} (h1:∀ x ∈ t :: l,x < 10) (h2:l.length < 100):∀ c,c < 7 → (cpar 300 100).c5 0 (vwp true 0 (boxP c nl (t :: l))) = some (some (boxN c nl ((t :: l).map itNb),[])):=by
 have hA:∀ (t i:Nat) (w s:List Nat) (r:List Pc),t < 10 → (s = [44] ∨ s = [125]) → (cpar 300 96).c29 (vwp false i (itB t w ++ shP s :: r)) = some (some (itNb t,vwp false (ixB i (itB t w)) (shP s :: r))):=fun t i w s r ht hs=>qN8 i w s r (by rcases hs with h | h <;> simp [h]) t ht
 have hA':∀ (t i:Nat) (w s:List Nat) (r:List Pc),t < 10 → (s = [44] ∨ s = [41]) → (cpar 300 96).c29 (vwp false i (itB t w ++ shP s :: r)) = some (some (itNb t,vwp false (ixB i (itB t w)) (shP s :: r))):=fun t i w s r ht hs=>qN8 i w s r (by rcases hs with h | h <;> simp [h]) t ht
 have hB:∀ (t i:Nat) (w s:List Nat) (r:List Pc),t < 10 → (s = [44] ∨ s = [125]) → (cpar 300 95).c29 (vwp false i (itB t w ++ shP s :: r)) = some (some (itNb t,vwp false (ixB i (itB t w)) (shP s :: r))):=fun t i w s r ht hs=>it29_95 i w s r (by rcases hs with h | h <;> simp [h]) t ht
 intro c hc
 match c,hc with
 | 0,_=>exact qIv (.inl ⟨rfl,rfl⟩) (by rw [bp_p,prim_0,bp_18]; exact bT_s (items18 (kk:=395) (nl:=nl) (.inl rfl) hA l t 1 [] h1 (by omega) (by simp; omega)) rfl) (beh_b 4 [] _ nl (.inl rfl))
 | 1,_=>exact qIv (.inr (.inl ⟨rfl,rfl⟩)) (by rw [bp_p,prim_1]; exact bT_s (list_w (nl:=nl) l t 1 h1 h2) rfl) (beh_b 5 [] _ nl (.inr (.inl rfl)))
 | 2,_=>exact qIv (.inr (.inr (.inr (.inl ⟨rfl,rfl⟩)))) (qMk (q:=0) (.inr (.inr (.inr (.inl ⟨rfl,rfl⟩)))) (.inl rfl)) (by show (cpar 300 98).c14 (litN [102]) false ((⟨9,[40],_⟩,0) :: _) = _; rw [bp_b,beh_2,bp_18]; exact bT_s (items18 (kk:=395) (nl:=nl) (.inr rfl) hA' l t 2 [litN [102]] h1 (by omega) (by simp; omega)) (beh_l _ 2 [] _ nl (.inl rfl)))
 | 3,_=>exact qIv (.inr (.inr (.inl ⟨rfl,rfl⟩))) (by rw [bp_p]; refine prim_3.trans ?_; rw [bp_21]; exact bT_s (items21 (kk:=395) (nl:=nl) rfl (fun t i w s r ht hs=>it32_96 i w s r hs t ht) l t 2 [] h1 (by omega) (by simp; omega)) rfl) (beh_b 8 [] _ nl (.inr (.inr (.inl rfl))))
 | 4,_=>exact qIv (.inr (.inr (.inl ⟨rfl,rfl⟩))) (by rw [bp_p]; refine prim_4.trans ?_; rw [bp_18]; exact bT_s (items18 (kk:=395) (nl:=nl) (.inl rfl) hA l t 3 [] h1 (by omega) (by simp; omega)) rfl) (beh_b 10 [114] _ nl (.inr (.inr (.inr rfl))))
 | 5,_=>exact qIv (.inr (.inr (.inr (.inr ⟨rfl,rfl⟩)))) (qMk (q:=0) (.inr (.inr (.inr (.inr ⟨rfl,rfl⟩)))) (.inr rfl)) (by show (cpar 300 98).c14 (litN [88]) false ((⟨9,[35],_⟩,0) :: (⟨9,[123],_⟩,0) :: _) = _; rw [bp_b,beh_5,bp_r,rec_5,bp_21']; exact bT_s (bT_s (items21 (kk:=394) (nl:=nl) rfl (fun t i w s r ht hs=>it32_95 i w s r hs t ht) l t 3 [litN [88]] h1 (by omega) (by simp; omega)) rfl) (beh_l _ 9 [] _ nl (.inr (.inl rfl))))
 | 6,_=>exact qIv (.inr (.inr (.inr (.inr ⟨rfl,rfl⟩)))) (qMk (q:=0) (.inr (.inr (.inr (.inr ⟨rfl,rfl⟩)))) (.inr rfl)) (by show (cpar 300 98).c14 (litN [88]) false ((⟨9,[35],_⟩,0) :: (⟨1,[114],_⟩,0) :: (⟨9,[123],_⟩,0) :: _) = _; rw [bp_b,beh_5,bp_r,rec_6,bp_18']; exact bT_s (bT_s (items18 (kk:=394) (nl:=nl) (.inl rfl) hB l t 4 [litN [88]] h1 (by omega) (by simp; omega)) rfl) (beh_l _ 11 [114] _ nl (.inr (.inr rfl))))
def NwB (rest:List Nat):Prop:=rest = [] ∨ ∃ d q,rest = d :: q ∧ inrN d = false
theorem wtB {t rest:List Nat} {d:Nat} {q:List Nat} {K:Int} (ht:t = d :: q) (hd:begN d = 1) (hin:∀ c ∈ t,inrN c = true) (hk:(if rsvN t then (8:Int) else 1) = K) (hr:NwB rest):TokAt t K rest:=by
 have h:=qJs ht (.inl hd) hin hr
 rw [hd] at h
 rw [← hk]
 exact h
theorem vtB {t rest:List Nat} {d:Nat} {q:List Nat} (ht:t = d :: q) (hd:begN d = 2) (hin:∀ c ∈ t,inrN c = true) (hk:rsvN t = false) (hr:NwB rest):TokAt t 2 rest:=by
 have h:=qJs ht (.inr hd) hin hr
 rw [hd,hk] at h
 exact h
theorem nwB {d:Nat} {q:List Nat} (h:inrN d = false):NwB (d :: q) := .inr ⟨d,q,rfl,h⟩
theorem bNB:∀ c ∈ ([]:List Nat),blkN c = true:=fun c h=>by cases h
theorem b32B:∀ c ∈ [32],blkN c = true:=by decide
theorem nlwB (nl:Bool):∀ c ∈ nlw nl,blkN c = true:=by cases nl <;> decide
theorem str_tok (rest:List Nat):TokAt [34,115,34] 6 rest:=by
 intro s i hs hb h
 have h0:s.drop i = 34 :: 115 :: 34 :: rest:=h
 have h1:s.drop (i + 1) = 115 :: 34 :: rest:=qAv h0
 have h2:s.drop (i + 2) = 34 :: rest:=qAv h1
 have l0:=qAl h0
 have l1:=qAl h1
 have l2:=qAl h2
 have hq:g42 400 s (i:Int) = some 3:=by
  unfold g42
  rw [fw_s (by omega),show (400:Nat) = 399 + 1 from rfl,qKz]
  refine (jS (v:=(true,((i + 1:Nat):Int))) (fun j=>iT (dT (by omega)) (bS (nthX rfl h1) (bS (nthX rfl h0) rfl)))).trans (iT rfl (bS (nthX rfl h1) ((jS (v:=((i + 1:Nat):Int)) (fun j=>iF rfl rfl)).trans (bS (qFn h1 (by decide)) ((jS (v:=false) (fun j=>iF rfl rfl)).trans (iF rfl ?_))))))
  show qFc 400 s (i:Int) 399 (fW .i64 (((i + 1:Nat):Int) + 1)) = _
  rw [fw_s (by omega),show (399:Nat) = 398 + 1 from rfl,qKz]
  refine (jS (v:=(false,((i + 2:Nat):Int))) (fun j=>iT (dT (by omega)) (bS (nthX rfl h2) (bS (nthX rfl h0) rfl)))).trans (iF rfl (iF (dF (by omega)) ?_))
  show some (fW .i64 (fW .i64 (((i + 2:Nat):Int) + 1) - (i:Int))) = _
  rw [fw_s (by omega),fwI (by omega) (by omega)]
  congr 1; omega
 have hcls:g38 400 (34:Int) = some 0:=rfl
 unfold g26
 refine (jS (v:=false) (fun j=>iF (dF (by omega)) (by rw [dF (by omega)]))).trans (iF rfl (bS (nthX rfl h0) ?_))
 refine iF (by decide) ((jS (v:=false) (fun j=>iF (by decide) rfl)).trans ?_)
 refine (jS (v:=(6,3)) (fun j=>?_)).trans ?_
 ·exact iF rfl (bS hcls (iF rfl (bS hcls (iF rfl (iF rfl (iT rfl (bS hq rfl)))))))
 ·refine iF rfl (bS (a:=[34,115,34]) ?_ rfl)
  show subL s (some (i:Int)) (some (fW .i64 ((i:Int) + 3))) = _
  rw [fwI (by omega) (by omega),show (i:Int) + 3 = ((i + 3:Nat):Int) by omega,subMid (i:=i) (j:=i + 3) rfl rfl (by omega) (by omega),List.drop_take,h0]
  rw [show i + 3 - i = 3 by omega]
  rfl
theorem sg {d:Nat} {rest:List Nat} (hd:begN d = 0) (hd2:¬ d = 37 ∧ ¬ d = 46 ∧ ¬ d = 39 ∧ ¬ d = 34 ∧ ¬ d = 36 ∧ ¬ d = 63) (hl:lngN (d :: rest) = 1):TokAt [d] 9 rest:=qDp rfl hd hd2 hl
theorem s_lb (rest:List Nat):TokAt [123] 9 rest:=sg rfl (by decide) rfl
theorem s_rb (rest:List Nat):TokAt [125] 9 rest:=sg rfl (by decide) rfl
theorem s_ls (rest:List Nat):TokAt [91] 9 rest:=sg rfl (by decide) rfl
theorem s_rs (rest:List Nat):TokAt [93] 9 rest:=sg rfl (by decide) rfl
theorem s_hs (rest:List Nat):TokAt [35] 9 rest:=sg rfl (by decide) rfl
theorem s_pl (rest:List Nat):TokAt [43] 9 (32 :: rest):=sg rfl (by decide) rfl
theorem s_mi (rest:List Nat):TokAt [45] 9 (32 :: rest):=sg rfl (by decide) rfl
theorem s_sl (rest:List Nat):TokAt [47] 9 (49 :: rest):=sg rfl (by decide) rfl
theorem qMe {w:List Nat} (hw:∀ c ∈ w,blkN c = true) {r:List Pc} (h:Sc r) (hN:NwB (txt r)) (hE:Ne (txt r)):∀ t,t < 10 → Sc (itB t w ++ r):=by
 refine lt10 ?_ ?_ ?_ ?_ ?_ ?_ ?_ ?_ ?_ ?_
 ·exact ⟨hw,⟨97,_,rfl,rfl⟩,wtB rfl rfl (by show ∀ c ∈ [97],inrN c = true; decide) rfl hN,h⟩
 ·exact ⟨hw,⟨88,_,rfl,rfl⟩,vtB rfl rfl (by show ∀ c ∈ [88],inrN c = true; decide) rfl (nwB rfl),b32B,⟨43,_,rfl,rfl⟩,s_pl _,b32B,⟨49,_,rfl,rfl⟩,qHr hE,h⟩
 ·exact ⟨hw,⟨102,_,rfl,rfl⟩,wtB rfl rfl (by show ∀ c ∈ [102],inrN c = true; decide) rfl (nwB rfl),bNB,⟨40,_,rfl,rfl⟩,qJe _,bNB,⟨120,_,rfl,rfl⟩,wtB rfl rfl (by decide) rfl (nwB rfl),bNB,⟨41,_,rfl,rfl⟩,qJd _,h⟩
 ·exact ⟨hw,⟨123,_,rfl,rfl⟩,s_lb _,bNB,⟨125,_,rfl,rfl⟩,s_rb _,h⟩
 ·exact ⟨hw,⟨91,_,rfl,rfl⟩,s_ls _,bNB,⟨93,_,rfl,rfl⟩,s_rs _,h⟩
 ·exact ⟨hw,⟨34,_,rfl,rfl⟩,str_tok _,h⟩
 ·exact ⟨hw,⟨110,_,rfl,rfl⟩,wtB rfl rfl (by show ∀ c ∈ [110,111,116],inrN c = true; decide) rfl (nwB rfl),b32B,⟨98,_,rfl,rfl⟩,wtB rfl rfl (by decide) rfl hN,h⟩
 ·exact ⟨hw,⟨35,_,rfl,rfl⟩,s_hs _,bNB,⟨123,_,rfl,rfl⟩,s_lb _,bNB,⟨125,_,rfl,rfl⟩,s_rb _,h⟩
 ·exact ⟨hw,⟨102,_,rfl,rfl⟩,wtB rfl rfl (by show ∀ c ∈ [102,117,110],inrN c = true; decide) rfl (nwB rfl),b32B,⟨102,_,rfl,rfl⟩,wtB rfl rfl (by decide) rfl (nwB rfl),bNB,⟨47,_,rfl,rfl⟩,s_sl _,bNB,⟨49,_,rfl,rfl⟩,qHr hE,h⟩
 ·exact ⟨hw,⟨45,_,rfl,rfl⟩,s_mi _,b32B,⟨49,_,rfl,rfl⟩,qHr hE,h⟩
theorem qJf {sh:List Nat} (hsh:sh = [125] ∨ sh = [93] ∨ sh = [41]) (l:List Nat):NwB (txt (tlB sh l)) ∧ Ne (txt (tlB sh l)):=by
 cases l with
 | nil=>rcases hsh with rfl | rfl | rfl <;> exact ⟨nwB rfl,.inr ⟨_,_,rfl,by decide,by decide,by decide⟩⟩
 | cons x l=>exact ⟨nwB rfl,.inr ⟨_,_,rfl,by decide,by decide,by decide⟩⟩
theorem qJh {sh:List Nat} (hsh:sh = [125] ∨ sh = [93] ∨ sh = [41]) (rest:List Nat):TokAt sh 9 rest ∧ ∃ d q,sh = d :: q ∧ blkN d = false:=by
 rcases hsh with rfl | rfl | rfl
 ·exact ⟨s_rb _,_,_,rfl,rfl⟩
 ·exact ⟨s_rs _,_,_,rfl,rfl⟩
 ·exact ⟨qJd _,_,_,rfl,rfl⟩
theorem sc_tlB {sh : List Nat} (hsh : sh = [125] ∨ sh = [93] ∨ sh = [41]) : ∀ (l : List Nat), (∀ x ∈ l, x < 10) → Sc (tlB sh l)
 | [],h=>⟨bNB,(qJh hsh []).2,(qJh hsh _).1,trivial⟩
 | t :: l,h=>⟨bNB,⟨44,[],rfl,rfl⟩,qM0 _,qMe b32B (sc_tlB hsh l (fun x hx=>h x (List.mem_cons_of_mem _ hx))) (qJf hsh l).1 (qJf hsh l).2 t (h t List.mem_cons_self)⟩
theorem sh_c:∀ c,c < 7 → shB c = [125] ∨ shB c = [93] ∨ shB c = [41]:=by
 intro c hc
 match c,hc with
 | 0,_=>exact .inl rfl
 | 1,_=>exact .inr (.inl rfl)
 | 2,_=>exact .inr (.inr rfl)
 | 3,_=>exact .inl rfl
 | 4,_=>exact .inl rfl
 | 5,_=>exact .inl rfl
 | 6,_=>exact .inl rfl
theorem sc_op {r:List Pc} (h:Sc r):∀ c,c < 7 → Sc (opB c ++ r):=by
 intro c hc
 match c,hc with
 | 0,_=>exact ⟨bNB,⟨123,_,rfl,rfl⟩,s_lb _,h⟩
 | 1,_=>exact ⟨bNB,⟨91,_,rfl,rfl⟩,s_ls _,h⟩
 | 2,_=>exact ⟨bNB,⟨102,_,rfl,rfl⟩,wtB rfl rfl (by decide) rfl (nwB rfl),bNB,⟨40,_,rfl,rfl⟩,qJe _,h⟩
 | 3,_=>exact ⟨bNB,⟨35,_,rfl,rfl⟩,s_hs _,bNB,⟨123,_,rfl,rfl⟩,s_lb _,h⟩
 | 4,_=>exact ⟨bNB,⟨35,_,rfl,rfl⟩,s_hs _,bNB,⟨114,_,rfl,rfl⟩,wtB rfl rfl (by decide) rfl (nwB rfl),bNB,⟨123,_,rfl,rfl⟩,s_lb _,h⟩
 | 5,_=>exact ⟨bNB,⟨88,_,rfl,rfl⟩,vtB rfl rfl (by decide) rfl (nwB rfl),bNB,⟨35,_,rfl,rfl⟩,s_hs _,bNB,⟨123,_,rfl,rfl⟩,s_lb _,h⟩
 | 6,_=>exact ⟨bNB,⟨88,_,rfl,rfl⟩,vtB rfl rfl (by decide) rfl (nwB rfl),bNB,⟨35,_,rfl,rfl⟩,s_hs _,bNB,⟨114,_,rfl,rfl⟩,wtB rfl rfl (by decide) rfl (nwB rfl),bNB,⟨123,_,rfl,rfl⟩,s_lb _,h⟩
theorem sc_box {nl:Bool} {L:List Nat} (hL:∀ x ∈ L,x < 10) (c:Nat) (hc:c < 7):Sc (boxP c nl L):=by
 cases L with
 | nil=>exact sc_op (r:=[⟨nlw nl,shB c,9⟩]) ⟨nlwB nl,(qJh (sh_c c hc) []).2,(qJh (sh_c c hc) _).1,trivial⟩ c hc
 | cons t l=>exact sc_op (qMe (nlwB nl) (sc_tlB (sh_c c hc) l (fun x hx=>hL x (List.mem_cons_of_mem _ hx))) (qJf (sh_c c hc) l).1 (qJf (sh_c c hc) l).2 t (hL t List.mem_cons_self)) c hc
def atT (t:Nat):List Nat:=txt (itB t [])
theorem qM (w:List Nat):∀ t,t < 10 → txt (itB t w) = w ++ atT t:=by refine lt10 ?_ ?_ ?_ ?_ ?_ ?_ ?_ ?_ ?_ ?_ <;> rfl
theorem at_len:∀ t,t < 10 → (∀ c ∈ atT t,c < 128) ∧ (atT t).length ≤ 7:=by refine lt10 ?_ ?_ ?_ ?_ ?_ ?_ ?_ ?_ ?_ ?_ <;> decide
theorem qHx (w:List Nat):∀ t,t < 10 → (itB t w).length ≤ 4:=by refine lt10 ?_ ?_ ?_ ?_ ?_ ?_ ?_ ?_ ?_ ?_ <;> simp [itB]
theorem qM2 {sh:List Nat} {t:Nat} (ht:t < 10) (l:List Nat):txt (tlB sh (t :: l)) = [44,32] ++ (atT t ++ txt (tlB sh l)):=by
 show [44] ++ txt (itB t [32] ++ tlB sh l) = _
 rw [qDv,qM _ t ht]
 simp
theorem qMc {sh:List Nat} (hsh:sh = [125] ∨ sh = [93] ∨ sh = [41]):(∀ c ∈ sh,c < 128) ∧ sh.length = 1:=by rcases hsh with rfl | rfl | rfl <;> decide
theorem qM3 {sh : List Nat} (hsh : sh = [125] ∨ sh = [93] ∨ sh = [41]) : ∀ (l : List Nat), (∀ x ∈ l, x < 10) → (∀ c ∈ txt (tlB sh l), c < 128) ∧ (txt (tlB sh l)).length ≤ 9 * l.length + 1 ∧ (tlB sh l).length ≤ 5 * l.length + 1
 | [],h=>by
  obtain ⟨a1,a2⟩:=qMc hsh
  have e:txt (tlB sh []) = sh:=by show [] ++ (sh ++ []) = sh; simp
  rw [e]
  exact ⟨a1,by simp [a2],by simp [tlB]⟩
 | t :: l,h=>by
  have ht:=h t List.mem_cons_self
  obtain ⟨a1,a2⟩:=at_len t ht
  obtain ⟨b1,b2,b3⟩:=qM3 hsh l (fun x hx=>h x (List.mem_cons_of_mem _ hx))
  have e2:(tlB sh (t :: l)).length = (itB t [32]).length + (tlB sh l).length + 1:=by show (_ :: (_ ++ _)).length = _; simp
  have:=qHx [32] t ht
  rw [qM2 ht,e2]
  simp only [List.mem_append,List.length_append,List.length_cons,List.length_nil]
  refine ⟨?_,by omega,by omega⟩
  rintro c (hc | hc | hc)
  ·revert c; decide
  ·exact a1 c hc
  ·exact b1 c hc
theorem qMw:∀ c,c < 7 → (∀ x ∈ txt (opB c),x < 128) ∧ (txt (opB c)).length ≤ 4 ∧ (opB c).length ≤ 4:=by
 intro c hc
 match c,hc with
 | 0,_=>decide
 | 1,_=>decide
 | 2,_=>decide
 | 3,_=>decide
 | 4,_=>decide
 | 5,_=>decide
 | 6,_=>decide
def rest0 (sh : List Nat) : List Nat → List Nat
 | []=>sh
 | t :: l=>atT t ++ txt (tlB sh l)
theorem qJ9 {nl:Bool} {L:List Nat} (hL:∀ x ∈ L,x < 10) (c:Nat):txt (boxP c nl L) = txt (opB c) ++ (nlw nl ++ rest0 (shB c) L):=by
 cases L with
 | nil=>show txt (opB c ++ [_]) = _; rw [qDv]; simp [txt,rest0]
 | cons t l=>show txt (opB c ++ (itB t (nlw nl) ++ tlB (shB c) l)) = _; rw [qDv,qDv,qM _ t (hL t List.mem_cons_self)]; simp [rest0]
theorem nlw_len (nl:Bool):(∀ c ∈ nlw nl,c < 128) ∧ (nlw nl).length ≤ 1:=by cases nl <;> decide
theorem qPh {nl:Bool} {L:List Nat} (hL:∀ x ∈ L,x < 10) (h8:L.length ≤ 8) (c:Nat) (hc:c < 7):(∀ x ∈ txt (boxP c nl L),x < 128) ∧ (txt (boxP c nl L)).length ≤ 100 ∧ (boxP c nl L).length ≤ 60:=by
 obtain ⟨a1,a2,a3⟩:=qMw c hc
 obtain ⟨n1,n2⟩:=nlw_len nl
 rw [qJ9 hL]
 cases L with
 | nil =>
  obtain ⟨s1,s2⟩:=qMc (sh_c c hc)
  have e2:(boxP c nl []).length = (opB c).length + 1:=by show (opB c ++ [_]).length = _; simp
  rw [e2]
  simp only [rest0,List.mem_append,List.length_append]
  refine ⟨?_,by omega,by omega⟩
  rintro x (hx | hx | hx)
  ·exact a1 x hx
  ·exact n1 x hx
  ·exact s1 x hx
 | cons t l =>
  have ht:=hL t List.mem_cons_self
  obtain ⟨t1,t2⟩:=at_len t ht
  obtain ⟨b1,b2,b3⟩:=qM3 (sh_c c hc) l (fun x hx=>hL x (List.mem_cons_of_mem _ hx))
  have e2:(boxP c nl (t :: l)).length = (opB c).length + ((itB t (nlw nl)).length + (tlB (shB c) l).length):=by show (opB c ++ (_ ++ _)).length = _; simp
  have:=qHx (nlw nl) t ht
  simp only [List.length_cons] at h8
  rw [e2]
  simp only [rest0,List.mem_append,List.length_append]
  refine ⟨?_,by omega,by omega⟩
  rintro x (hx | hx | hx | hx)
  ·exact a1 x hx
  ·exact n1 x hx
  ·exact t1 x hx
  ·exact b1 x hx
theorem wholeB {ps:List Pc} {nd:S28} (hsc:Sc ps) (hne:∃ p r,ps = p :: r) (ha:∀ c ∈ txt ps,c < 128) (hT:(txt ps).length < 290) (hP:ps.length < 290) (h:(cpar 300 100).c5 0 (vwp true 0 ps) = some (some (nd,[]))):g17 400 (txt ps) = some (nd,0):=by
 have hs:g13 400 (txt ps) = some (tkp 0 ps,0):=by
  obtain ⟨p,r,e⟩:=hne
  rw [e] at hsc hT ha hP ⊢
  exact scan_pc hsc (by omega) ha (by simp at hP; omega)
 have hp:=expr_top (k:=300) (n:=100) (fun j=>vw_pc hT hP (300 + j) (by omega)) h
 have hp0:pos ((tkp 0 ps).length:Int) [] = ((tkp 0 ps).length:Int):=by unfold pos; simp
 rw [hp0] at hp
 unfold g17
 refine bS hs (iF rfl (bS hp ((jS (v:=false) (fun q=>iT rfl ?_)).trans (iF rfl rfl))))
 simp
theorem qPg {nl:Bool} {L:List Nat} (hL:∀ x ∈ L,x < 10) (h8:L.length ≤ 8) (c:Nat) (hc:c < 7):g17 400 (txt (boxP c nl L)) = some (boxN c nl (L.map itNb),0):=by
 obtain ⟨a1,a2,a3⟩:=qPh (nl:=nl) hL h8 c hc
 refine wholeB (sc_box hL c hc) ?_ a1 (by omega) (by omega) ?_
 ·have:boxP c nl L ≠ []:=by
   intro e
   have w:=congrArg txt e
   rw [qJ9 hL] at w
   match c,hc with
   | 0,_=>cases w
   | 1,_=>cases w
   | 2,_=>cases w
   | 3,_=>cases w
   | 4,_=>cases w
   | 5,_=>cases w
   | 6,_=>cases w
  match h:boxP c nl L,this with
  | p :: r,_=>exact ⟨p,r,rfl⟩
 ·cases L with
  | nil=>exact box_e nl c hc
  | cons t l=>exact box_w hL (by simp only [List.length_cons] at h8; omega) c hc
theorem item_run:∀ t,t < 10 → (cpar 300 100).c5 0 (vwp true 0 (itB t [])) = some (some (itNb t,[])):=by
 refine lt10 ?_ ?_ ?_ ?_ ?_ ?_ ?_ ?_ ?_ ?_ <;> show _ = _ <;> kernel_rfl
theorem it_ne:∀ t,t < 10 → ∃ p r,itB t [] = p :: r:=by
 refine lt10 ?_ ?_ ?_ ?_ ?_ ?_ ?_ ?_ ?_ ?_ <;> exact ⟨_,_,rfl⟩
theorem qLf {t:Nat} (ht:t < 10):g17 400 (atT t) = some (itNb t,0):=by
 have hsc:=qMe bNB (r:=[]) trivial (.inl rfl) (.inl rfl) t ht
 rw [List.append_nil] at hsc
 obtain ⟨a1,a2⟩:=at_len t ht
 have a3:=qHx [] t ht
 exact wholeB hsc (it_ne t ht) a1 (by show (atT t).length < 290; omega) (by omega) (item_run t ht)
end Go.Proofs.Ythpplbkobokghaa.Am
set_option maxRecDepth 100000
set_option linter.unusedVariables false
namespace Go.Proofs.Ythpplbkobokghaa.Am
noncomputable section
open Go
def Xg16:Fx Bool:=⟨Try.prog,cx,Try.f16,fun r => .bool r,0,fun _=>H0,cxTi,cxOrd,fun _=>none,false⟩
def g16c0:List Nat:=[97,32,43,32,98,32,42,32,99]
def g16c1:List S33:=[(⟨(1:Int),([120]:List Nat),(0:Int)⟩:S33),(⟨(9:Int),([44]:List Nat),(1:Int)⟩:S33),(⟨(1:Int),([121]:List Nat),(4:Int)⟩:S33)]
def g16p2:Pt:=nav [0,0,0] (nav [0,0,0] (nav [0] (bodyAt Try.f16)))
def g16p3:Pt:=nav [0,0,0] g16p2
def g16p4:Pt:=nav [0,0,0] g16p3
def g16p5:Pt:=nav [0,0,0] g16p4
def g16p6:Pt:=nav [0,0,0] g16p5
def g16 (k:Nat)  : Option Bool :=
 (g13 k g16c0).bind fun x0_1=>(g14 k g16c0 x0_1.1 (0:Int) (x0_1.1.length:Int) (0:Int)).bind fun x1_4=>(g14 k g16c0 x0_1.1 (0:Int) (2:Int) (0:Int)).bind fun x2_2=>(g23 k ([120,44,10,10,121]:List Nat) g16c1 (0:Int) (3:Int)).bind fun x3_4=>if (decide (x0_1.2 = 0)) then (if (decide (x1_4.2.2 = 0)) then (if (decide (x1_4.2.1 = 5)) then (if (decide (x1_4.1.f0 = 14)) then (if (eqL x1_4.1.f1 [43]) then (if (decide ((x1_4.1.f2.n:Int) = 2)) then ((nthR d29 7 x1_4.1.f2.n x1_4.1.f2.cells 1).bind fun x4_29=>if (eqL x4_29.f1 [42]) then (if (decide (x2_2.2.2 = 8)) then (if (decide (x3_4.2.2 = 0)) then (if (decide ((x3_4.1.f2.n:Int) = 2)) then ((nthR d29 7 x3_4.1.f2.n x3_4.1.f2.cells 1).bind fun x4_51=>some x4_51.f4) else (some false)) else (some false)) else (some false)) else (some false)) else (some false)) else (some false)) else (some false)) else (some false)) else (some false)) else (some false)
theorem g16_ok (k:Nat)  (r:Bool) (h:g16 k  = some r):PureOk Try.prog 16 [] (.bool r):=by
 refine qA4 Xg16 (fun _=>⟨rfl,rfl⟩) Try.func16 (by decide +kernel) (by kernel_rfl) (t:=g16 k ) ?_ h
 unfold g16
 refine qA (eE:=[]) (by kernel_rfl) ?_
 refine oH 11 (atN 1 (ctl1 g16p2)) [(14,.str g16c0),(1,.str g16c0),(0,.bool false)] (mkH []) ?_
 refine oA (fun (x0_1:((List S33) × Int)) => .tuple [w34 x0_1.1,.i x0_1.2]) (atN 2 (ctl1 g16p2)) 15 [.str g16c0] (g13_ok k g16c0) fun x0_1 hx0_1=>?_
 refine oR 12 (atN 4 (ctl1 g16p3)) [(22,.i (x0_1.1.length:Int)),(21,w34 x0_1.1),(20,w34 x0_1.1),(19,.str g16c0),(3,.i x0_1.2),(2,w34 x0_1.1),(17,.i x0_1.2),(16,w34 x0_1.1),(13,.tuple [w34 x0_1.1,.i x0_1.2]),(15,.tuple [w34 x0_1.1,.i x0_1.2]),(14,.str g16c0),(1,.str g16c0),(0,.bool false)] ?_
 refine oA (fun (x1_4:(S28 × Int × Int)) => .tuple [n29 x1_4.1,.i x1_4.2.1,.i x1_4.2.2]) (atN 5 (ctl1 g16p3)) 23 [.str g16c0,w34 x0_1.1,.i 0,.i (x0_1.1.length:Int),.i 0] (qP2 k g16c0 x0_1.1 (0:Int) (x0_1.1.length:Int) (0:Int)) fun x1_4 hx1_4=>?_
 let E3:Env:=[(1,.str g16c0),(2,w34 x0_1.1),(3,.i x0_1.2),(4,.ptr 0 7 0),(5,.i x1_4.2.1),(6,.i x1_4.2.2)]
 refine oLH 10 g16p4 E3 (mkH [⟨e29 x1_4.1,7,false⟩]) ?_
 refine oR 3 (atN 2 (ctl1 g16p4)) ((29,w34 x0_1.1) :: (28,.str g16c0) :: E3) ?_
 refine oA (fun (x2_2:(S28 × Int × Int)) => .tuple [n29 x2_2.1,.i x2_2.2.1,.i x2_2.2.2]) (atN 3 (ctl1 g16p4)) 30 [.str g16c0,w34 x0_1.1,.i 0,.i 2,.i 0] (qP2 k g16c0 x0_1.1 (0:Int) (2:Int) (0:Int)) fun x2_2 hx2_2=>?_
 let E5:Env:=[(3,.i x0_1.2),(4,.ptr 0 7 0),(5,.i x1_4.2.1),(6,.i x1_4.2.2),(9,.i x2_2.2.2)]
 refine oLH 10 g16p5 E5 (mkH [⟨e29 x1_4.1,7,false⟩,⟨e29 x2_2.1,7,false⟩]) ?_
 refine oH 5 (atN 4 (ctl1 g16p5)) ((38,.slice 2 9 0 3 3) :: (37,.agg [.i 1,.str [121],.i 4]) :: (36,.agg [.i 9,.str [44],.i 1]) :: (35,.agg [.i 1,.str [120],.i 0]) :: E5) (mkH [⟨e29 x1_4.1,7,false⟩,⟨e29 x2_2.1,7,false⟩,⟨[.i 1,.str [120],.i 0,.i 9,.str [44],.i 1,.i 1,.str [121],.i 4],0,false⟩]) ?_
 refine oZ 38 2 3 3 [.i 1,.str [120],.i 0,.i 9,.str [44],.i 1,.i 1,.str [121],.i 4] [3,4,5,6,9,35,36,37] [] trivial ?_
 refine oE [(38,w34 g16c1),(3,.i x0_1.2),(4,.ptr 0 7 0),(5,.i x1_4.2.1),(6,.i x1_4.2.2),(9,.i x2_2.2.2),(35,.agg [.i 1,.str [120],.i 0]),(36,.agg [.i 9,.str [44],.i 1]),(37,.agg [.i 1,.str [121],.i 4])] ?_
 refine oHp (mkH [⟨e29 x1_4.1,7,false⟩,⟨e29 x2_2.1,7,false⟩,⟨[],0,false⟩]) ?_
 refine oA (fun (x3_4:(S28 × Int × Int)) => .tuple [n29 x3_4.1,.i x3_4.2.1,.i x3_4.2.2]) (atN 5 (ctl1 g16p5)) 39 [.str [120,44,10,10,121],w34 g16c1,.i 0,.i 3] (g23_ok k ([120,44,10,10,121]:List Nat) g16c1 (0:Int) (3:Int)) fun x3_4 hx3_4=>?_
 let E7:Env:=[(3,.i x0_1.2),(4,.ptr 0 7 0),(5,.i x1_4.2.1),(6,.i x1_4.2.2),(9,.i x2_2.2.2),(10,.ptr 3 7 0),(12,.i x3_4.2.2)]
 let K1:List Blk:=[⟨e29 x1_4.1,7,false⟩,⟨e29 x2_2.1,7,false⟩,⟨[],0,false⟩,⟨e29 x3_4.1,7,false⟩]
 refine oLH 10 g16p6 E7 (mkH K1) ?_
 refine oR 4 (atN 3 (ctl1 g16p6)) ((45,.bool (decide (x0_1.2 = 0))) :: (44,.bool (decide (x0_1.2 = 0))) :: (43,.i x0_1.2) :: E7) ?_
 refine oS 45 (fun hb=>?_) (fun hb=>?_)
 ·let E8:Env:=((49,.bool (decide (x1_4.2.2 = 0))) :: (48,.bool (decide (x1_4.2.2 = 0))) :: (47,.bool (decide (x1_4.2.2 = 0))) :: (46,.i x1_4.2.2) :: (45,.bool true) :: (45,.bool (decide (x0_1.2 = 0))) :: (44,.bool (decide (x0_1.2 = 0))) :: (43,.i x0_1.2) :: E7)
  refine oR 4 (atN 7 (ctl1 g16p6)) E8 ?_
  refine oS 49 (fun hb=>?_) (fun hb=>?_)
  ·let E9:Env:=((53,.bool (decide (x1_4.2.1 = 5))) :: (52,.bool (decide (x1_4.2.1 = 5))) :: (51,.bool (decide (x1_4.2.1 = 5))) :: (50,.i x1_4.2.1) :: (49,.bool true) :: E8)
   refine oR 4 (atN 11 (ctl1 g16p6)) E9 ?_
   refine oS 53 (fun hb=>?_) (fun hb=>?_)
   ·let E10:Env:=((58,.bool (decide (x1_4.1.f0 = 14))) :: (57,.bool (decide (x1_4.1.f0 = 14))) :: (56,.bool (decide (x1_4.1.f0 = 14))) :: (55,.i x1_4.1.f0) :: (54,.ptr 0 7 0) :: (53,.bool true) :: E9)
    refine oR 5 (atN 16 (ctl1 g16p6)) E10 ?_
    refine oS 58 (fun hb=>?_) (fun hb=>?_)
    ·let E11:Env:=((63,.bool (eqL x1_4.1.f1 [43])) :: (62,.bool (eqL x1_4.1.f1 [43])) :: (61,.bool (eqL x1_4.1.f1 [43])) :: (60,.str x1_4.1.f1) :: (59,.ptr 0 7 1) :: (58,.bool true) :: E10)
     refine oR 5 (atN 21 (ctl1 g16p6)) E11 ?_
     refine oS 63 (fun hb=>?_) (fun hb=>?_)
     ·let E12:Env:=((69,.bool (decide ((x1_4.1.f2.n:Int) = 2))) :: (68,.bool (decide ((x1_4.1.f2.n:Int) = 2))) :: (67,.bool (decide ((x1_4.1.f2.n:Int) = 2))) :: (66,.i (x1_4.1.f2.n:Int)) :: (65,q29 x1_4.1.f2) :: (64,.ptr 0 7 2) :: (63,.bool true) :: E11)
      refine oR 6 (atN 27 (ctl1 g16p6)) E12 ?_
      refine oS 69 (fun hb=>?_) (fun hb=>?_)
      ·refine oR 2 (atN 29 (ctl1 g16p6)) ((71,q29 x1_4.1.f2) :: (70,.ptr 0 7 2) :: (69,.bool true) :: E12) ?_
       refine qMz (fun (x4_29:S28)=>(.vptr [.i x4_29.f0,.str x4_29.f1,q29 x4_29.f2,.bool x4_29.f3,.bool x4_29.f4,w9 x4_29.f5,w9 x4_29.f6],(mkH K1))) (atN 30 (ctl1 g16p6)) (fun x4_29=>((72,.vptr [.i x4_29.f0,.str x4_29.f1,q29 x4_29.f2,.bool x4_29.f3,.bool x4_29.f4,w9 x4_29.f5,w9 x4_29.f6]) :: (71,q29 x1_4.1.f2) :: (70,.ptr 0 7 2) :: (69,.bool true) :: E12)) (fun _ hx=>vidxR (sz:=7) qHf hx (by kernel_rfl)) (fun _=>by kernel_rfl) (fun x4_29 hx4_29=>?_)
       let E13:Env:=((77,.bool (eqL x4_29.f1 [42])) :: (76,.bool (eqL x4_29.f1 [42])) :: (75,.bool (eqL x4_29.f1 [42])) :: (74,.str x4_29.f1) :: (73,.vptr [.str x4_29.f1,q29 x4_29.f2,.bool x4_29.f3,.bool x4_29.f4,w9 x4_29.f5,w9 x4_29.f6]) :: (72,.vptr [.i x4_29.f0,.str x4_29.f1,q29 x4_29.f2,.bool x4_29.f3,.bool x4_29.f4,w9 x4_29.f5,w9 x4_29.f6]) :: (71,q29 x1_4.1.f2) :: (70,.ptr 0 7 2) :: (69,.bool true) :: E12)
       refine oH 5 (atN 35 (ctl1 g16p6)) E13 (mkH K1) ?_
       refine oS 77 (fun hb=>?_) (fun hb=>?_)
       ·let E14:Env:=((81,.bool (decide (x2_2.2.2 = 8))) :: (80,.bool (decide (x2_2.2.2 = 8))) :: (79,.bool (decide (x2_2.2.2 = 8))) :: (78,.i x2_2.2.2) :: (77,.bool true) :: E13)
        refine oR 4 (atN 39 (ctl1 g16p6)) E14 ?_
        refine oS 81 (fun hb=>?_) (fun hb=>?_)
        ·let E15:Env:=((85,.bool (decide (x3_4.2.2 = 0))) :: (84,.bool (decide (x3_4.2.2 = 0))) :: (83,.bool (decide (x3_4.2.2 = 0))) :: (82,.i x3_4.2.2) :: (81,.bool true) :: E14)
         refine oR 4 (atN 43 (ctl1 g16p6)) E15 ?_
         refine oS 85 (fun hb=>?_) (fun hb=>?_)
         ·let E16:Env:=((91,.bool (decide ((x3_4.1.f2.n:Int) = 2))) :: (90,.bool (decide ((x3_4.1.f2.n:Int) = 2))) :: (89,.bool (decide ((x3_4.1.f2.n:Int) = 2))) :: (88,.i (x3_4.1.f2.n:Int)) :: (87,q29 x3_4.1.f2) :: (86,.ptr 3 7 2) :: (85,.bool true) :: E15)
          refine oR 6 (atN 49 (ctl1 g16p6)) E16 ?_
          refine oS 91 (fun hb=>?_) (fun hb=>?_)
          ·refine oR 2 (atN 51 (ctl1 g16p6)) ((93,q29 x3_4.1.f2) :: (92,.ptr 3 7 2) :: (91,.bool true) :: E16) ?_
           refine qMz (fun (x4_51:S28)=>(.vptr [.i x4_51.f0,.str x4_51.f1,q29 x4_51.f2,.bool x4_51.f3,.bool x4_51.f4,w9 x4_51.f5,w9 x4_51.f6],(mkH K1))) (atN 52 (ctl1 g16p6)) (fun x4_51=>((94,.vptr [.i x4_51.f0,.str x4_51.f1,q29 x4_51.f2,.bool x4_51.f3,.bool x4_51.f4,w9 x4_51.f5,w9 x4_51.f6]) :: (93,q29 x3_4.1.f2) :: (92,.ptr 3 7 2) :: (91,.bool true) :: E16)) (fun _ hx=>vidxR (sz:=7) qHf hx (by kernel_rfl)) (fun _=>by kernel_rfl) (fun x4_51 hx4_51=>?_)
           exact oQ 6
          ·exact oQ 9
         ·exact oQ 15
        ·exact oQ 19
       ·exact oQ 23
      ·exact oQ 31
     ·exact oQ 37
    ·exact oQ 42
   ·exact oQ 47
  ·exact oQ 51
 ·exact oQ 55
def Xg55:Fx Bool:=⟨Try.prog,cx,Try.f55,fun r => .bool r,0,fun _=>H0,cxTi,cxOrd,fun _=>none,false⟩
def g55p2:Pt:=nav [0,0] (nav [0,0,0,0] (nav [0] (bodyAt Try.f55)))
def g55p6:Pt:=nav [0,0,0,0] (nav [2,0,0,0] g55p2)
def g55p8:Pt:=nav [0,0] (nav [0,0,0] g55p6)
def g55p9:Pt:=nav [1,0,0,0,0] g55p8
def g55d0:DP:=⟨[],[(0,0,0),(0,0,0),(3,0,0),(7,0,0),(0,0,0),(0,0,0),(48,0,0),(112,0,0),(255,0,0)],9,thrown,[],H0⟩
def qIf (k:Nat)  (a0:(List (List Nat))) (a1:(List (List Nat))) (ih:Int → Option Bool):Int → Option Bool :=
 fun (y1_0:Int)=>if (decide (y1_0 < (a0.length:Int))) then ((nthL a0 y1_0).bind fun x0_2=>(nthL a1 y1_0).bind fun x0_6=>if (!(eqL x0_2 x0_6)) then (some false) else (ih (fW .i64 (y1_0 + 1)))) else (some true)
def qOi (k:Nat)  (a0:(List (List Nat))) (a1:(List (List Nat))) (n:Nat):Int → Option Bool:=lp (fun _=>none) (qIf k a0 a1) n
theorem qOh (k:Nat)   (a0:(List (List Nat))) (a1:(List (List Nat)))  : ∀ (n:Nat) (y1_0:Int),Ok Xg55 g55p6 [(0,w9 a0),(1,w9 a1),(5,.i y1_0)] (mkH []) (qOi k a0 a1 n y1_0):=by
 intro n
 induction n with
 | zero=>intro y1_0; exact ok_none
 | succ n ih =>
  intro y1_0
  show Ok _ _ _ _ (qIf k a0 a1 (qOi k a0 a1 n) y1_0)
  unfold qIf
  refine qAf (p':=nav [0] g55p6) (by kernel_rfl) ?_
  let E2:Env:=[(14,.bool (decide (y1_0 < (a0.length:Int)))),(13,.i (a0.length:Int)),(12,w9 a0),(11,.i y1_0),(0,w9 a0),(1,w9 a1),(5,.i y1_0)]
  refine oH 8 g55p8 E2 (mkH []) ?_
  refine oS 14 (fun hb=>?_) (fun hb=>?_)
  ·refine oR 5 g55p9 ((14,.bool true) :: E2) ?_
   refine qA7 (fun x0_2 hx0_2=>?_)
   refine qA7 (fun x0_6 hx0_6=>?_)
   let E3:Env:=[(18,.i y1_0),(17,w9 a0),(14,.bool true),(14,.bool (decide (y1_0 < (a0.length:Int)))),(13,.i (a0.length:Int)),(12,w9 a0),(11,.i y1_0),(0,w9 a0),(1,w9 a1),(5,.i y1_0)]
   let E4:Env:=((23,.vptr [.str x0_6]) :: (22,.i y1_0) :: (21,w9 a1) :: (20,.str x0_2) :: (19,.vptr [.str x0_2]) :: E3)
   refine oD (H':=(mkH [])) (nav [0] g55p9) ((25,.bool (!(eqL x0_2 x0_6))) :: (24,.str x0_6) :: E4) [] g55d0 (oDr 2 2 E3 (qA9 (l':=(opsAt g55p9).toList.drop 3) (eE:=((19,.vptr [.str x0_2]) :: E3)) (hs:=[]) (x:=x0_2) (fun (x0_2:(List Nat))=>(.vptr [.str x0_2],(mkH []))) (vidxH (sz:=1) qBp (by kernel_rfl)) hx0_2 (by kernel_rfl) (oDr 3 6 ((22,.i y1_0) :: (21,w9 a1) :: (20,.str x0_2) :: (19,.vptr [.str x0_2]) :: E3) (qA9 (l':=(opsAt g55p9).toList.drop 7) (eE:=E4) (hs:=[]) (x:=x0_6) (fun (x0_6:(List Nat))=>(.vptr [.str x0_6],(mkH []))) (vidxH (sz:=1) qBp (by kernel_rfl)) hx0_6 (by kernel_rfl) (oDr 2 9 ((25,.bool (!(eqL x0_2 x0_6))) :: (24,.str x0_6) :: E4) .nil))))) ?_
   refine oS 25 (fun hb=>?_) (fun hb=>?_)
   ·exact oQ 6
   ·refine oL 7 g55p6 [(0,w9 a0),(1,w9 a1),(5,.i (fW .i64 (y1_0 + 1)))] ?_
    exact ih (fW .i64 (y1_0 + 1))
  ·exact oQ 7
def g55 (k:Nat) (a0:(List (List Nat))) (a1:(List (List Nat))):Option Bool :=
 if (!decide ((a0.length:Int) = (a1.length:Int))) then (some false) else (qOi k a0 a1 k 0)
theorem qKx (k:Nat) (a0:(List (List Nat))) (a1:(List (List Nat))) (r:Bool) (h:g55 k a0 a1 = some r):PureOk Try.prog 55 [w9 a0,w9 a1] (.bool r):=by
 refine qA4 Xg55 (fun _=>⟨rfl,rfl⟩) Try.func55 (by decide +kernel) (by kernel_rfl) (t:=g55 k a0 a1) ?_ h
 unfold g55
 refine qA (eE:=[(0,w9 a0),(1,w9 a1)]) (by kernel_rfl) ?_
 refine oH 13 g55p2 [(10,.bool (!decide ((a0.length:Int) = (a1.length:Int)))),(9,.i (a1.length:Int)),(8,w9 a1),(7,.i (a0.length:Int)),(6,w9 a0),(4,.bool false),(0,w9 a0),(1,w9 a1)] (mkH []) ?_
 refine oS 10 (fun hb=>?_) (fun hb=>?_)
 ·exact oQ 6
 ·refine oL 9 g55p6 [(0,w9 a0),(1,w9 a1),(5,.i 0)] ?_
  exact (qOh k a0 a1 k) 0
end
structure Fns1 where
 g31:S28 → S28 → Bool → Option Bool
structure FnsOk1 (F:Fns1):Prop where
 g31_ok:∀ (a0:S28) (a1:S28) (a2:Bool),∀ (r:Bool),F.g31 a0 a1 a2 = some r → PureOk Try.prog 31 [.agg [.i a0.f0,.str a0.f1,q29 a0.f2,.bool a0.f3,.bool a0.f4,w9 a0.f5,w9 a0.f6],.agg [.i a1.f0,.str a1.f1,q29 a1.f2,.bool a1.f3,.bool a1.f4,w9 a1.f5,w9 a1.f6],.bool a2] (.bool r)
end Go.Proofs.Ythpplbkobokghaa.Am
set_option maxRecDepth 100000
set_option linter.unusedVariables false
namespace Go.Proofs.Ythpplbkobokghaa.Am
noncomputable section
open Go
def Xg31:Fx Bool:=⟨Try.prog,cx,Try.f31,fun r => .bool r,0,fun _=>H0,cxTi,cxOrd,fun _=>none,false⟩
def g31p1:Pt:=nav [0,0,0,0] (nav [0] (bodyAt Try.f31))
def g31p2:Pt:=nav [0,0] g31p1
def g31p6:Pt:=nav [0,0,0,0] (nav [2,0,0,0] g31p2)
def g31p8:Pt:=nav [0,0] (nav [0,0,0] g31p6)
def g31p9:Pt:=nav [1,0,0,0,0] g31p8
def g31d0:DP:=⟨[],[(0,0,0),(1,0,0),(0,0,0),(7,0,0),(15,0,0),(0,0,0),(32,0,0),(0,0,0),(224,0,0),(480,0,0),(0,0,0),(2047,0,0),(4095,0,0)],13,thrown,[],H0⟩
def qIp (k:Nat) (F:Fns1)  (a0:S28) (a1:S28) (a2:Bool) (ih:Int → Option Bool):Int → Option Bool :=
 fun (y3_0:Int)=>if (decide (y3_0 < (a0.f2.n:Int))) then ((nthR d29 7 a0.f2.n a0.f2.cells y3_0).bind fun x1_3=>(nthR d29 7 a1.f2.n a1.f2.cells y3_0).bind fun x1_8=>(F.g31 x1_3 x1_8 a2).bind fun x1_11=>if (!x1_11) then (some false) else (ih (fW .i64 (y3_0 + 1)))) else (some true)
def qOz (k:Nat) (F:Fns1)  (a0:S28) (a1:S28) (a2:Bool) (n:Nat):Int → Option Bool:=lp (fun _=>none) (qIp k F a0 a1 a2) n
theorem qOy (k:Nat) (F:Fns1) (hF:FnsOk1 F)   (a0:S28) (a1:S28) (a2:Bool)  : ∀ (n:Nat) (y3_0:Int),Ok Xg31 g31p6 [(2,.bool a2),(3,.ptr 0 7 0),(4,.ptr 1 7 0),(7,.i y3_0)] (mkH [⟨[.i a0.f0,.str a0.f1,q29 a0.f2,.bool a0.f3,.bool a0.f4,w9 a0.f5,w9 a0.f6],0,false⟩,⟨[.i a1.f0,.str a1.f1,q29 a1.f2,.bool a1.f3,.bool a1.f4,w9 a1.f5,w9 a1.f6],0,false⟩]) (qOz k F a0 a1 a2 n y3_0):=by
 intro n
 induction n with
 | zero=>intro y3_0; exact ok_none
 | succ n ih =>
  intro y3_0
  show Ok _ _ _ _ (qIp k F a0 a1 a2 (qOz k F a0 a1 a2 n) y3_0)
  unfold qIp
  refine qAf (p':=nav [0] g31p6) (by kernel_rfl) ?_
  let E4:Env:=[(66,.bool (decide (y3_0 < (a0.f2.n:Int)))),(65,.i (a0.f2.n:Int)),(64,q29 a0.f2),(63,.ptr 0 7 2),(62,.i y3_0),(2,.bool a2),(3,.ptr 0 7 0),(4,.ptr 1 7 0),(7,.i y3_0)]
  refine oH 9 g31p8 E4 (mkH [⟨e29 a0,0,false⟩,⟨e29 a1,0,false⟩]) ?_
  refine oS 66 (fun hb=>?_) (fun hb=>?_)
  ·refine oR 5 g31p9 ((66,.bool true) :: E4) ?_
   refine qA7 (fun x1_3 hx1_3=>?_)
   refine qA7 (fun x1_8 hx1_8=>?_)
   refine qA7 (fun x1_11 hx1_11=>?_)
   let E5:Env:=[(71,.i y3_0),(70,q29 a0.f2),(69,.ptr 0 7 2),(66,.bool true),(66,.bool (decide (y3_0 < (a0.f2.n:Int)))),(65,.i (a0.f2.n:Int)),(64,q29 a0.f2),(63,.ptr 0 7 2),(62,.i y3_0),(2,.bool a2),(3,.ptr 0 7 0),(4,.ptr 1 7 0),(7,.i y3_0)]
   let E6:Env:=((76,.i y3_0) :: (75,q29 a1.f2) :: (74,.ptr 1 7 2) :: (73,n29 x1_3) :: (72,.vptr [.i x1_3.f0,.str x1_3.f1,q29 x1_3.f2,.bool x1_3.f3,.bool x1_3.f4,w9 x1_3.f5,w9 x1_3.f6]) :: E5)
   let E7:Env:=((81,.bool (!x1_11)) :: (80,.bool x1_11) :: (79,.bool a2) :: (78,n29 x1_8) :: (77,.vptr [.i x1_8.f0,.str x1_8.f1,q29 x1_8.f2,.bool x1_8.f3,.bool x1_8.f4,w9 x1_8.f5,w9 x1_8.f6]) :: E6)
   refine oD (H':=(mkH [⟨e29 a0,0,false⟩,⟨e29 a1,0,false⟩])) (nav [0] g31p9) E7 [(mkH [⟨e29 a0,0,false⟩,⟨e29 a1,0,false⟩])] g31d0 (oDr 3 3 E5 (qE3 (l':=(opsAt g31p9).toList.drop 4) (eE:=((72,.vptr [.i x1_3.f0,.str x1_3.f1,q29 x1_3.f2,.bool x1_3.f3,.bool x1_3.f4,w9 x1_3.f5,w9 x1_3.f6]) :: E5)) (hs:=[]) (x:=x1_3) (fun (x1_3:S28)=>(.vptr [.i x1_3.f0,.str x1_3.f1,q29 x1_3.f2,.bool x1_3.f3,.bool x1_3.f4,w9 x1_3.f5,w9 x1_3.f6],(mkH [⟨e29 a0,0,false⟩,⟨e29 a1,0,false⟩]))) (vidxR (sz:=7) qHf hx1_3 (by kernel_rfl)) (by kernel_rfl) (oDr 4 8 E6 (qE3 (l':=(opsAt g31p9).toList.drop 9) (eE:=((77,.vptr [.i x1_8.f0,.str x1_8.f1,q29 x1_8.f2,.bool x1_8.f3,.bool x1_8.f4,w9 x1_8.f5,w9 x1_8.f6]) :: E6)) (hs:=[]) (x:=x1_8) (fun (x1_8:S28)=>(.vptr [.i x1_8.f0,.str x1_8.f1,q29 x1_8.f2,.bool x1_8.f3,.bool x1_8.f4,w9 x1_8.f5,w9 x1_8.f6],(mkH [⟨e29 a0,0,false⟩,⟨e29 a1,0,false⟩]))) (vidxR (sz:=7) qHf hx1_8 (by kernel_rfl)) (by kernel_rfl) (oDr 2 11 ((79,.bool a2) :: (78,n29 x1_8) :: (77,.vptr [.i x1_8.f0,.str x1_8.f1,q29 x1_8.f2,.bool x1_8.f3,.bool x1_8.f4,w9 x1_8.f5,w9 x1_8.f6]) :: E6) (qAn (l':=(opsAt g31p9).toList.drop 12) (eE:=((80,.bool x1_11) :: (79,.bool a2) :: (78,n29 x1_8) :: (77,.vptr [.i x1_8.f0,.str x1_8.f1,q29 x1_8.f2,.bool x1_8.f3,.bool x1_8.f4,w9 x1_8.f5,w9 x1_8.f6]) :: E6)) (hs:=[(mkH [⟨e29 a0,0,false⟩,⟨e29 a1,0,false⟩])]) (fi:=31) (args:=[n29 x1_3,n29 x1_8,.bool a2]) (v := .bool x1_11) (by kernel_rfl) (by kernel_rfl) (by kernel_rfl) (hF.g31_ok x1_3 x1_8 a2 x1_11 hx1_11) (by kernel_rfl) (oDr 1 13 E7 .nil))))))) ?_
   refine oS 81 (fun hb=>?_) (fun hb=>?_)
   ·exact oQ 6
   ·refine oL 7 g31p6 [(2,.bool a2),(3,.ptr 0 7 0),(4,.ptr 1 7 0),(7,.i (fW .i64 (y3_0 + 1)))] ?_
    exact ih (fW .i64 (y3_0 + 1))
  ·exact oQ 7
def g31B (k:Nat) (F:Fns1) (a0:S28) (a1:S28) (a2:Bool):Option Bool :=
 jn (fun (z2:Bool)=>if z2 then (some false) else (qOz k F a0 a1 a2 k 0)) (fun j2=>if (!decide (a0.f0 = a1.f0)) then (j2 true) else (if (!(eqL a0.f1 a1.f1)) then (j2 true) else (if (!(a0.f4 == a1.f4)) then (j2 true) else (if a2 then (if (!(a0.f3 == a1.f3)) then (j2 true) else ((g55 k a0.f5 a1.f5).bind fun x0_34=>if (!x0_34) then (j2 true) else ((g55 k a0.f6 a1.f6).bind fun x0_42=>if (!x0_42) then (j2 true) else (j2 (!decide ((a0.f2.n:Int) = (a1.f2.n:Int))))))) else ((g55 k a0.f5 a1.f5).bind fun x0_34=>if (!x0_34) then (j2 true) else ((g55 k a0.f6 a1.f6).bind fun x0_42=>if (!x0_42) then (j2 true) else (j2 (!decide ((a0.f2.n:Int) = (a1.f2.n:Int))))))))))
theorem g31B_ok (k:Nat) (F:Fns1) (hF:FnsOk1 F) (a0:S28) (a1:S28) (a2:Bool) (r:Bool) (h:g31B k F a0 a1 a2 = some r):PureOk Try.prog 31 [.agg [.i a0.f0,.str a0.f1,q29 a0.f2,.bool a0.f3,.bool a0.f4,w9 a0.f5,w9 a0.f6],.agg [.i a1.f0,.str a1.f1,q29 a1.f2,.bool a1.f3,.bool a1.f4,w9 a1.f5,w9 a1.f6],.bool a2] (.bool r):=by
 refine qA4 Xg31 (fun _=>⟨rfl,rfl⟩) Try.func31 (by decide +kernel) (by kernel_rfl) (t:=g31B k F a0 a1 a2) ?_ h
 unfold g31B
 refine qA (eE:=[(0,.agg [.i a0.f0,.str a0.f1,q29 a0.f2,.bool a0.f3,.bool a0.f4,w9 a0.f5,w9 a0.f6]),(1,.agg [.i a1.f0,.str a1.f1,q29 a1.f2,.bool a1.f3,.bool a1.f4,w9 a1.f5,w9 a1.f6]),(2,.bool a2)]) (by kernel_rfl) ?_
 let E1:Env:=[(13,.bool (!decide (a0.f0 = a1.f0))),(12,.bool (!decide (a0.f0 = a1.f0))),(11,.i a1.f0),(10,.ptr 1 7 0),(9,.i a0.f0),(8,.ptr 0 7 0),(6,.bool false),(4,.ptr 1 7 0),(3,.ptr 0 7 0),(0,n29 a0),(1,n29 a1),(2,.bool a2)]
 refine oH 15 (atN 6 (ctl1 g31p1)) E1 (mkH [⟨e29 a0,0,false⟩,⟨e29 a1,0,false⟩]) ?_
 refine oJ g31p2 (fun (z2:Bool)=>[(2,.bool a2),(3,.ptr 0 7 0),(4,.ptr 1 7 0),(61,.bool z2)]) (fun (z2:Bool)=>(mkH [⟨e29 a0,0,false⟩,⟨e29 a1,0,false⟩])) (fun z2=>?_) (fun j2 hj2=>?_)
 ·refine oS 61 (fun hb=>?_) (fun hb=>?_)
  ·exact oQ 6
  ·refine oLH 9 g31p6 [(2,.bool a2),(3,.ptr 0 7 0),(4,.ptr 1 7 0),(7,.i 0)] (mkH [⟨e29 a0,0,false⟩,⟨e29 a1,0,false⟩]) ?_
   exact (qOy k F hF a0 a1 a2 k) 0
 ·refine oS 13 (fun hb=>?_) (fun hb=>?_)
  ·refine oLH 49 g31p2 [(2,.bool a2),(3,.ptr 0 7 0),(4,.ptr 1 7 0),(61,.bool true)] (mkH [⟨e29 a0,0,false⟩,⟨e29 a1,0,false⟩]) ?_
   exact hj2 true
  ·let E12:Env:=((20,.bool (!(eqL a0.f1 a1.f1))) :: (19,.bool (!(eqL a0.f1 a1.f1))) :: (18,.bool (!(eqL a0.f1 a1.f1))) :: (17,.str a1.f1) :: (16,.ptr 1 7 1) :: (15,.str a0.f1) :: (14,.ptr 0 7 1) :: (13,.bool false) :: E1)
   refine oH 7 (atN 13 (ctl1 g31p1)) E12 (mkH [⟨e29 a0,0,false⟩,⟨e29 a1,0,false⟩]) ?_
   refine oS 20 (fun hb=>?_) (fun hb=>?_)
   ·refine oL 42 g31p2 [(2,.bool a2),(3,.ptr 0 7 0),(4,.ptr 1 7 0),(61,.bool true)] ?_
    exact hj2 true
   ·let E15:Env:=((27,.bool (!(a0.f4 == a1.f4))) :: (26,.bool (!(a0.f4 == a1.f4))) :: (25,.bool (!(a0.f4 == a1.f4))) :: (24,.bool a1.f4) :: (23,.ptr 1 7 4) :: (22,.bool a0.f4) :: (21,.ptr 0 7 4) :: (20,.bool false) :: E12)
    refine oR 7 (atN 20 (ctl1 g31p1)) E15 ?_
    refine oS 27 (fun hb=>?_) (fun hb=>?_)
    ·refine oL 35 g31p2 [(2,.bool a2),(3,.ptr 0 7 0),(4,.ptr 1 7 0),(61,.bool true)] ?_
     exact hj2 true
    ·refine oR 2 (atN 22 (ctl1 g31p1)) ((29,.bool a2) :: (28,.bool a2) :: (27,.bool false) :: E15) ?_
     refine oS 29 (fun hb=>?_) (fun hb=>?_)
     ·let E18:Env:=((37,.bool (!(a0.f3 == a1.f3))) :: (36,.bool (!(a0.f3 == a1.f3))) :: (35,.bool (!(a0.f3 == a1.f3))) :: (34,.bool (!(a0.f3 == a1.f3))) :: (33,.bool a1.f3) :: (32,.ptr 1 7 3) :: (31,.bool a0.f3) :: (30,.ptr 0 7 3) :: (29,.bool true) :: (29,.bool a2) :: (28,.bool a2) :: (27,.bool false) :: E15)
      refine oR 8 (atN 30 (ctl1 g31p1)) E18 ?_
      refine oS 37 (fun hb=>?_) (fun hb=>?_)
      ·refine oL 25 g31p2 [(2,.bool a2),(3,.ptr 0 7 0),(4,.ptr 1 7 0),(61,.bool true)] ?_
       exact hj2 true
      ·let E21:Env:=((41,w9 a1.f5) :: (40,.ptr 1 7 5) :: (39,w9 a0.f5) :: (38,.ptr 0 7 5) :: (37,.bool false) :: E18)
       refine oR 4 (atN 34 (ctl1 g31p1)) E21 ?_
       refine oA (fun (x0_34:Bool) => .bool x0_34) (atN 35 (ctl1 g31p1)) 42 [w9 a0.f5,w9 a1.f5] (qKx k a0.f5 a1.f5) fun x0_34 hx0_34=>?_
       refine oR 3 (atN 38 (ctl1 g31p1)) ((45,.bool (!x0_34)) :: (44,.bool (!x0_34)) :: (43,.bool (!x0_34)) :: (42,.bool x0_34) :: E21) ?_
       refine oS 45 (fun hb=>?_) (fun hb=>?_)
       ·refine oL 17 g31p2 [(2,.bool a2),(3,.ptr 0 7 0),(4,.ptr 1 7 0),(61,.bool true)] ?_
        exact hj2 true
       ·let E24:Env:=((49,w9 a1.f6) :: (48,.ptr 1 7 6) :: (47,w9 a0.f6) :: (46,.ptr 0 7 6) :: (45,.bool false) :: (45,.bool (!x0_34)) :: (44,.bool (!x0_34)) :: (43,.bool (!x0_34)) :: (42,.bool x0_34) :: E21)
        refine oR 4 (atN 42 (ctl1 g31p1)) E24 ?_
        refine oA (fun (x0_42:Bool) => .bool x0_42) (atN 43 (ctl1 g31p1)) 50 [w9 a0.f6,w9 a1.f6] (qKx k a0.f6 a1.f6) fun x0_42 hx0_42=>?_
        refine oR 3 (atN 46 (ctl1 g31p1)) ((53,.bool (!x0_42)) :: (52,.bool (!x0_42)) :: (51,.bool (!x0_42)) :: (50,.bool x0_42) :: E24) ?_
        refine oS 53 (fun hb=>?_) (fun hb=>?_)
        ·refine oL 9 g31p2 [(2,.bool a2),(3,.ptr 0 7 0),(4,.ptr 1 7 0),(61,.bool true)] ?_
         exact hj2 true
        ·refine oL 9 g31p2 [(2,.bool a2),(3,.ptr 0 7 0),(4,.ptr 1 7 0),(61,.bool (!decide ((a0.f2.n:Int) = (a1.f2.n:Int))))] ?_
         exact hj2 (!decide ((a0.f2.n:Int) = (a1.f2.n:Int)))
     ·let E29:Env:=((41,w9 a1.f5) :: (40,.ptr 1 7 5) :: (39,w9 a0.f5) :: (38,.ptr 0 7 5) :: (37,.bool false) :: (36,.bool false) :: (35,.bool false) :: (34,.tuple []) :: (33,.tuple []) :: (32,.tuple []) :: (31,.tuple []) :: (30,.tuple []) :: (29,.bool false) :: (29,.bool a2) :: (28,.bool a2) :: (27,.bool false) :: E15)
      refine oR 12 (atN 34 (ctl1 g31p1)) E29 ?_
      refine oA (fun (x0_34:Bool) => .bool x0_34) (atN 35 (ctl1 g31p1)) 42 [w9 a0.f5,w9 a1.f5] (qKx k a0.f5 a1.f5) fun x0_34 hx0_34=>?_
      refine oR 3 (atN 38 (ctl1 g31p1)) ((45,.bool (!x0_34)) :: (44,.bool (!x0_34)) :: (43,.bool (!x0_34)) :: (42,.bool x0_34) :: E29) ?_
      refine oS 45 (fun hb=>?_) (fun hb=>?_)
      ·refine oL 17 g31p2 [(2,.bool a2),(3,.ptr 0 7 0),(4,.ptr 1 7 0),(61,.bool true)] ?_
       exact hj2 true
      ·let E32:Env:=((49,w9 a1.f6) :: (48,.ptr 1 7 6) :: (47,w9 a0.f6) :: (46,.ptr 0 7 6) :: (45,.bool false) :: (45,.bool (!x0_34)) :: (44,.bool (!x0_34)) :: (43,.bool (!x0_34)) :: (42,.bool x0_34) :: E29)
       refine oR 4 (atN 42 (ctl1 g31p1)) E32 ?_
       refine oA (fun (x0_42:Bool) => .bool x0_42) (atN 43 (ctl1 g31p1)) 50 [w9 a0.f6,w9 a1.f6] (qKx k a0.f6 a1.f6) fun x0_42 hx0_42=>?_
       refine oR 3 (atN 46 (ctl1 g31p1)) ((53,.bool (!x0_42)) :: (52,.bool (!x0_42)) :: (51,.bool (!x0_42)) :: (50,.bool x0_42) :: E32) ?_
       refine oS 53 (fun hb=>?_) (fun hb=>?_)
       ·refine oL 9 g31p2 [(2,.bool a2),(3,.ptr 0 7 0),(4,.ptr 1 7 0),(61,.bool true)] ?_
        exact hj2 true
       ·refine oL 9 g31p2 [(2,.bool a2),(3,.ptr 0 7 0),(4,.ptr 1 7 0),(61,.bool (!decide ((a0.f2.n:Int) = (a1.f2.n:Int))))] ?_
        exact hj2 (!decide ((a0.f2.n:Int) = (a1.f2.n:Int)))
def par1 (n:Nat):Fns1:=Nat.rec (motive:=fun _=>Fns1) ⟨fun _ _ _=>none⟩ (fun k F=>⟨g31B k F⟩) n
theorem qMm : ∀ k, FnsOk1 (par1 k)
 | 0=>⟨(fun _ _ _ _ h=>nomatch h)⟩
 | k + 1=>⟨g31B_ok k (par1 k) (qMm k)⟩
def g31 (k:Nat) (a0:S28) (a1:S28) (a2:Bool):Option Bool:=(par1 k).g31 a0 a1 a2
theorem g31_ok (k:Nat):∀ (a0:S28) (a1:S28) (a2:Bool),∀ (r:Bool),g31 k a0 a1 a2 = some r → PureOk Try.prog 31 [.agg [.i a0.f0,.str a0.f1,q29 a0.f2,.bool a0.f3,.bool a0.f4,w9 a0.f5,w9 a0.f6],.agg [.i a1.f0,.str a1.f1,q29 a1.f2,.bool a1.f3,.bool a1.f4,w9 a1.f5,w9 a1.f6],.bool a2] (.bool r):=(qMm k).g31_ok
def Xg19:Fx Bool:=⟨Try.prog,cx,Try.f19,fun r => .bool r,0,fun _=>H0,cxTi,cxOrd,fun _=>none,false⟩
def g19p1:Pt:=nav [0,0,0] (nav [0] (bodyAt Try.f19))
def g19 (k:Nat) (a0:S28) (a1:S28):Option Bool :=
 (g31 k a0 a1 true).bind fun x0_2=>some x0_2
theorem g19_ok (k:Nat) (a0:S28) (a1:S28) (r:Bool) (h:g19 k a0 a1 = some r):PureOk Try.prog 19 [.agg [.i a0.f0,.str a0.f1,q29 a0.f2,.bool a0.f3,.bool a0.f4,w9 a0.f5,w9 a0.f6],.agg [.i a1.f0,.str a1.f1,q29 a1.f2,.bool a1.f3,.bool a1.f4,w9 a1.f5,w9 a1.f6]] (.bool r):=by
 refine qA4 Xg19 (fun _=>⟨rfl,rfl⟩) Try.func19 (by decide +kernel) (by kernel_rfl) (t:=g19 k a0 a1) ?_ h
 unfold g19
 refine qA (eE:=[(0,.agg [.i a0.f0,.str a0.f1,q29 a0.f2,.bool a0.f3,.bool a0.f4,w9 a0.f5,w9 a0.f6]),(1,.agg [.i a1.f0,.str a1.f1,q29 a1.f2,.bool a1.f3,.bool a1.f4,w9 a1.f5,w9 a1.f6])]) (by kernel_rfl) ?_
 refine oH 10 (atN 2 (ctl1 g19p1)) [(6,n29 a1),(5,n29 a0),(4,.bool false),(3,.ptr 1 7 0),(2,.ptr 0 7 0),(0,n29 a0),(1,n29 a1)] (mkH [⟨e29 a0,0,false⟩,⟨e29 a1,0,false⟩]) ?_
 refine oA (fun (x0_2:Bool) => .bool x0_2) (atN 3 (ctl1 g19p1)) 7 [n29 a0,n29 a1,.bool true] (g31_ok k a0 a1 true) fun x0_2 hx0_2=>?_
 exact oQ 3
def Xg9:Fx Bool:=⟨Try.prog,cx,Try.f9,fun r => .bool r,0,fun _=>H0,cxTi,cxOrd,fun _=>none,false⟩
def g9c0:List Nat:=[102,117,110,32,102,47,49]
def g9c1:List (List Nat):=[([97]:List Nat),([88,32,43,32,49]:List Nat),([102,40,120,41]:List Nat),([123,125]:List Nat),([91,93]:List Nat),([34,115,34]:List Nat),([110,111,116,32,98]:List Nat),([35,123,125]:List Nat),g9c0,([45,32,49]:List Nat)]
def g9c2:List (List Nat):=[([123]:List Nat),([91]:List Nat),([102,40]:List Nat),([35,123]:List Nat),([35,114,123]:List Nat),([88,35,123]:List Nat),([88,35,114,123]:List Nat)]
def g9c3:List (List Nat):=[([125]:List Nat),([93]:List Nat),([41]:List Nat),([125]:List Nat),([125]:List Nat),([125]:List Nat),([125]:List Nat)]
def g9c4:List Int:=[(4:Int),(5:Int),(2:Int),(8:Int),(10:Int),(9:Int),(11:Int)]
def g9c5:List Int:=[(0:Int),(0:Int),(1:Int),(0:Int),(0:Int),(1:Int),(1:Int)]
def g9p2:Pt:=nav [0,0] (nav [0,0,0,0] (nav [0] (bodyAt Try.f9)))
def g9p3:Pt:=nav [1,0] g9p2
def g9p4:Pt:=nav [2,0,0] g9p2
def g9p6:Pt:=nav [0,0,0] g9p4
def g9p7:Pt:=nav [0,0,0] g9p6
def g9p8:Pt:=nav [0,0,0] g9p7
def g9p9:Pt:=nav [0,0,0] g9p8
def g9p10:Pt:=nav [0,0,0] g9p9
def g9p12:Pt:=nav [0,0] (nav [0,0,0,0] g9p10)
def g9p13:Pt:=nav [1] g9p12
def g9p14:Pt:=nav [2,0,0,0] g9p12
def g9p15:Pt:=nav [0,0,0,0] g9p14
def g9p17:Pt:=nav [0,0] (nav [0,0,0] g9p15)
def g9p19:Pt:=nav [2,0,0] g9p17
def g9p20:Pt:=nav [0,0] (nav [1,0,0,0,0,0] g9p17)
def g9p21:Pt:=nav [0,0,0,0] g9p19
def g9p22:Pt:=nav [1] g9p20
def g9p23:Pt:=nav [2,0] g9p20
def g9p24:Pt:=nav [0,0] g9p21
def g9p28:Pt:=nav [0,0,0,0] (nav [2,0,0,0] g9p24)
def g9p30:Pt:=nav [0,0] (nav [0,0,0] g9p28)
def g9p31:Pt:=nav [1,0,0,0,0] g9p30
def g9p32:Pt:=nav [2,0,0] g9p30
def g9p33:Pt:=nav [0,0,0] g9p31
def g9d0:DP:=⟨[],[(0,0,0),(1,0,0),(3,0,0),(7,0,0),(7,0,0),(23,0,0),(7,0,0),(7,0,0),(199,0,0),(503,0,0),(1015,0,0),(2047,0,0),(4095,0,0),(8191,0,0)],14,thrown,[],H0⟩
def qI8 (k:Nat)  (a0:(List Int)) (x4_5:Int) (x6_3:(S28 × Int)) (ih:Int → Option Bool):Int → Option Bool :=
 fun (y16_0:Int)=>if (decide (y16_0 < (a0.length:Int))) then ((nthL a0 y16_0).bind fun x9_3=>(nthL g9c1 (fW .i64 ((fW .u64 x9_3).tmod 10))).bind fun x9_8=>(g17 k x9_8).bind fun x9_10=>jn (fun (z17:Bool × Int)=>if z17.1 then (some false) else (ih (fW .i64 (z17.2 + 1)))) (fun j17=>if (!decide (x9_10.2 = 0)) then (j17 (true,y16_0)) else ((nthR d29 7 x6_3.1.f2.n x6_3.1.f2.cells (fW .i64 (x4_5 + y16_0))).bind fun x10_9=>(g19 k x9_10.1 x10_9).bind fun x10_11=>j17 (!x10_11,y16_0)))) else ((g16 k).bind fun x11_0=>some x11_0)
def qDi (k:Nat)  (a0:(List Int)) (x4_5:Int) (x6_3:(S28 × Int)) (n:Nat):Int → Option Bool:=lp (fun _=>none) (qI8 k a0 x4_5 x6_3) n
theorem g9_l16_s (k:Nat)  (a0:(List Int)) (x4_5:Int) (x6_3:(S28 × Int)) (n:Nat) (y16_0:Int):qDi k a0 x4_5 x6_3 (n + 1) y16_0 = (if (decide (y16_0 < (a0.length:Int))) then ((nthL a0 y16_0).bind fun x9_3=>(nthL g9c1 (fW .i64 ((fW .u64 x9_3).tmod 10))).bind fun x9_8=>(g17 k x9_8).bind fun x9_10=>jn (fun (z17:Bool × Int)=>if z17.1 then (some false) else ((qDi k a0 x4_5 x6_3 n) (fW .i64 (z17.2 + 1)))) (fun j17=>if (!decide (x9_10.2 = 0)) then (j17 (true,y16_0)) else ((nthR d29 7 x6_3.1.f2.n x6_3.1.f2.cells (fW .i64 (x4_5 + y16_0))).bind fun x10_9=>(g19 k x9_10.1 x10_9).bind fun x10_11=>j17 (!x10_11,y16_0)))) else ((g16 k).bind fun x11_0=>some x11_0)):=rfl
theorem qO7 (k:Nat)   (a0:(List Int)) (x4_5:Int) (x6_3:(S28 × Int))  : ∀ (n:Nat) (y16_0:Int),Ok Xg9 g9p28 [(0,w3 a0),(7,w9 g9c1),(11,.i x4_5),(14,.ptr 0 7 0),(16,.i y16_0)] (mkH [⟨[.i x6_3.1.f0,.str x6_3.1.f1,q29 x6_3.1.f2,.bool x6_3.1.f3,.bool x6_3.1.f4,w9 x6_3.1.f5,w9 x6_3.1.f6],7,false⟩]) (qDi k a0 x4_5 x6_3 n y16_0):=by
 intro n
 induction n with
 | zero=>intro y16_0; exact ok_none
 | succ n ih =>
  intro y16_0
  show Ok _ _ _ _ (qI8 k a0 x4_5 x6_3 (qDi k a0 x4_5 x6_3 n) y16_0)
  unfold qI8
  refine qAf (p':=nav [0] g9p28) (by kernel_rfl) ?_
  let E24:Env:=[(118,.bool (decide (y16_0 < (a0.length:Int)))),(117,.i (a0.length:Int)),(116,w3 a0),(115,.i y16_0),(0,w3 a0),(7,w9 g9c1),(11,.i x4_5),(14,.ptr 0 7 0),(16,.i y16_0)]
  refine oH 8 g9p30 E24 (mkH [⟨e29 x6_3.1,7,false⟩]) ?_
  refine oS 118 (fun hb=>?_) (fun hb=>?_)
  ·refine oR 9 (atN 3 (ctl1 g9p31)) ((124,.i y16_0) :: (123,w3 a0) :: (122,w9 g9c1) :: (118,.bool true) :: E24) ?_
   refine oC (fun (x9_3:Int)=>(.vptr [.i x9_3],(mkH [⟨e29 x6_3.1,7,false⟩]))) (atN 4 (ctl1 g9p31)) 125 (vidxH (sz:=1) qFj (by kernel_rfl)) fun x9_3 hx9_3=>?_
   let E25:Env:=((129,.i (fW .i64 ((fW .u64 x9_3).tmod 10))) :: (128,.int .u64 ((fW .u64 x9_3).tmod 10)) :: (127,.int .u64 (fW .u64 x9_3)) :: (126,.i x9_3) :: (125,.vptr [.i x9_3]) :: (124,.i y16_0) :: (123,w3 a0) :: (122,w9 g9c1) :: (118,.bool true) :: E24)
   refine oH 4 (atN 8 (ctl1 g9p31)) E25 (mkH [⟨e29 x6_3.1,7,false⟩]) ?_
   refine oC (fun (x9_8:(List Nat))=>(.vptr [.str x9_8],(mkH [⟨e29 x6_3.1,7,false⟩]))) (atN 9 (ctl1 g9p31)) 130 (vidxH (sz:=1) qBp (by kernel_rfl)) fun x9_8 hx9_8=>?_
   refine oH 1 (atN 10 (ctl1 g9p31)) ((131,.str x9_8) :: (130,.vptr [.str x9_8]) :: E25) (mkH [⟨e29 x6_3.1,7,false⟩]) ?_
   refine oA (fun (x9_10:(S28 × Int)) => .tuple [n29 x9_10.1,.i x9_10.2]) (atN 11 (ctl1 g9p31)) 132 [.str x9_8] (g17_ok k x9_8) fun x9_10 hx9_10=>?_
   let K1:List Blk:=[⟨e29 x6_3.1,7,false⟩,⟨e29 x9_10.1,7,false⟩]
   refine oLH 8 g9p33 [(0,w3 a0),(7,w9 g9c1),(11,.i x4_5),(14,.ptr 0 7 0),(16,.i y16_0),(17,.ptr 1 7 0),(18,.i x9_10.2)] (mkH K1) ?_
   refine oJ (nav [0] g9p33) (fun (z17:Bool × Int)=>[(0,w3 a0),(7,w9 g9c1),(11,.i x4_5),(14,.ptr 0 7 0),(16,.i z17.2),(148,.bool z17.1)]) (fun (z17:Bool × Int)=>(mkH [⟨e29 x6_3.1,7,false⟩])) (fun z17=>?_) (fun j17 hj17=>?_)
   ·refine oS 148 (fun hb=>?_) (fun hb=>?_)
    ·exact oQ 6
    ·refine oLH 7 g9p28 [(0,w3 a0),(7,w9 g9c1),(11,.i x4_5),(14,.ptr 0 7 0),(16,.i (fW .i64 (z17.2 + 1)))] (mkH [⟨e29 x6_3.1,7,false⟩]) ?_
     exact ih (fW .i64 (z17.2 + 1))
   ·refine qEr (fun hb18=>?_) (fun hb18=>?_)
    ·let E31:Env:=[(137,.bool (!decide (x9_10.2 = 0))),(136,.bool (!decide (x9_10.2 = 0))),(135,.i x9_10.2),(0,w3 a0),(7,w9 g9c1),(11,.i x4_5),(14,.ptr 0 7 0),(16,.i y16_0),(17,.ptr 1 7 0),(18,.i x9_10.2)]
     let E32:Env:=[(148,.bool true),(147,.tuple []),(146,.tuple []),(145,.tuple []),(144,.tuple []),(143,.tuple []),(142,.tuple []),(141,.tuple []),(140,.tuple []),(139,.tuple []),(138,.tuple []),(137,.bool true),(136,.bool true),(135,.i x9_10.2),(0,w3 a0),(7,w9 g9c1),(11,.i x4_5),(14,.ptr 0 7 0),(16,.i y16_0),(17,.ptr 1 7 0),(18,.i x9_10.2)]
     refine oD (H':=(mkH K1)) (nav [0] g9p33) E32 [(mkH K1)] g9d0 (oDr 3 3 E31 (oDe (fun z=>[(137,.bool z),(136,.bool z),(135,.i x9_10.2),(0,w3 a0),(7,w9 g9c1),(11,.i x4_5),(14,.ptr 0 7 0),(16,.i y16_0),(17,.ptr 1 7 0),(18,.i x9_10.2)]) hb18 (oDh 11 14 E32 (mkH K1) [(mkH K1)] .nil))) ?_
     refine oK [0,7,11,14,16,148] [(0,w3 a0),(7,w9 g9c1),(11,.i x4_5),(14,.ptr 0 7 0),(16,.i y16_0),(148,.bool true)] ?_
     refine qAa [⟨e29 x6_3.1,7,false⟩] [⟨e29 x9_10.1,7,false⟩] (by kernel_rfl) rfl (by kernel_rfl) ⟨(by kernel_rfl),trivial⟩ ?_
     exact hj17 (true,y16_0)
    ·refine qA7 (fun x10_9 hx10_9=>?_)
     refine qA7 (fun x10_11 hx10_11=>?_)
     let E31:Env:=[(137,.bool (!decide (x9_10.2 = 0))),(136,.bool (!decide (x9_10.2 = 0))),(135,.i x9_10.2),(0,w3 a0),(7,w9 g9c1),(11,.i x4_5),(14,.ptr 0 7 0),(16,.i y16_0),(17,.ptr 1 7 0),(18,.i x9_10.2)]
     let E34:Env:=[(143,.i (fW .i64 (x4_5 + y16_0))),(142,.i y16_0),(141,.i x4_5),(140,q29 x6_3.1.f2),(139,.ptr 0 7 2),(138,n29 x9_10.1),(137,.bool false),(136,.bool false),(135,.i x9_10.2),(0,w3 a0),(7,w9 g9c1),(11,.i x4_5),(14,.ptr 0 7 0),(16,.i y16_0),(17,.ptr 1 7 0),(18,.i x9_10.2)]
     let E35:Env:=((148,.bool (!x10_11)) :: (147,.bool (!x10_11)) :: (146,.bool x10_11) :: (145,n29 x10_9) :: (144,.vptr [.i x10_9.f0,.str x10_9.f1,q29 x10_9.f2,.bool x10_9.f3,.bool x10_9.f4,w9 x10_9.f5,w9 x10_9.f6]) :: E34)
     refine oD (H':=(mkH K1)) (nav [0] g9p33) E35 [(mkH K1)] g9d0 (oDr 3 3 E31 (oDe (fun z=>[(137,.bool z),(136,.bool z),(135,.i x9_10.2),(0,w3 a0),(7,w9 g9c1),(11,.i x4_5),(14,.ptr 0 7 0),(16,.i y16_0),(17,.ptr 1 7 0),(18,.i x9_10.2)]) hb18 (oDr 6 9 E34 (qE3 (l':=(opsAt g9p33).toList.drop 10) (eE:=((144,.vptr [.i x10_9.f0,.str x10_9.f1,q29 x10_9.f2,.bool x10_9.f3,.bool x10_9.f4,w9 x10_9.f5,w9 x10_9.f6]) :: E34)) (hs:=[]) (x:=x10_9) (fun (x10_9:S28)=>(.vptr [.i x10_9.f0,.str x10_9.f1,q29 x10_9.f2,.bool x10_9.f3,.bool x10_9.f4,w9 x10_9.f5,w9 x10_9.f6],(mkH K1))) (vidxR (sz:=7) qHf hx10_9 (by kernel_rfl)) (by kernel_rfl) (oDr 1 11 ((145,n29 x10_9) :: (144,.vptr [.i x10_9.f0,.str x10_9.f1,q29 x10_9.f2,.bool x10_9.f3,.bool x10_9.f4,w9 x10_9.f5,w9 x10_9.f6]) :: E34) (qAn (l':=(opsAt g9p33).toList.drop 12) (eE:=((146,.bool x10_11) :: (145,n29 x10_9) :: (144,.vptr [.i x10_9.f0,.str x10_9.f1,q29 x10_9.f2,.bool x10_9.f3,.bool x10_9.f4,w9 x10_9.f5,w9 x10_9.f6]) :: E34)) (hs:=[(mkH K1)]) (fi:=19) (args:=[n29 x9_10.1,n29 x10_9]) (v := .bool x10_11) (by kernel_rfl) (by kernel_rfl) (by kernel_rfl) (g19_ok k x9_10.1 x10_9 x10_11 hx10_11) (by kernel_rfl) (oDr 2 14 E35 .nil))))))) ?_
     refine oK [0,7,11,14,16,148] [(0,w3 a0),(7,w9 g9c1),(11,.i x4_5),(14,.ptr 0 7 0),(16,.i y16_0),(148,.bool (!x10_11))] ?_
     refine qAa [⟨e29 x6_3.1,7,false⟩] [⟨e29 x9_10.1,7,false⟩] (by kernel_rfl) rfl (by kernel_rfl) ⟨(by kernel_rfl),trivial⟩ ?_
     exact hj17 (!x10_11,y16_0)
  ·refine oR 4 (atN 0 (ctl1 g9p32)) ((118,.bool false) :: E24) ?_
   refine oA (fun (x11_0:Bool) => .bool x11_0) (atN 1 (ctl1 g9p32)) 149 [] (g16_ok k ) fun x11_0 hx11_0=>?_
   exact oQ 3
def qI9 (k:Nat)  (a0:(List Int)) (a2:Bool) (x2_5:(List Nat)) (x3_5:Int) (x4_5:Int) (ih:(List Nat) → Int → Option Bool):(List Nat) → Int → Option Bool :=
 fun (y13_0:(List Nat)) (y13_1:Int)=>if (decide (y13_1 < (a0.length:Int))) then (jn (fun (z14:(List Nat) × Int)=>(nthL a0 z14.2).bind fun x7_4=>(nthL g9c1 (fW .i64 ((fW .u64 x7_4).tmod 10))).bind fun x7_9=>(catS z14.1 x7_9).bind fun x7_11=>ih x7_11 (fW .i64 (z14.2 + 1))) (fun j14=>if (decide (0 < y13_1)) then ((catS y13_0 ([44,32]:List Nat)).bind fun x8_1=>j14 (x8_1,y13_1)) else (j14 (y13_0,y13_1)))) else ((catS y13_0 x2_5).bind fun x6_2=>(g17 k x6_2).bind fun x6_3=>jn (fun (z15:Bool)=>if z15 then (some false) else (qDi k a0 x4_5 x6_3 k 0)) (fun j15=>if (!decide (x6_3.2 = 0)) then (j15 true) else (if (!decide (x6_3.1.f0 = x3_5)) then (j15 true) else (if (!decide ((x6_3.1.f2.n:Int) = fW .i64 ((a0.length:Int) + x4_5))) then (j15 true) else (if (!(x6_3.1.f3 == a2)) then (j15 true) else (j15 (!decide ((x6_3.1.f6.length:Int) = 0))))))))
def qEe (k:Nat)  (a0:(List Int)) (a2:Bool) (x2_5:(List Nat)) (x3_5:Int) (x4_5:Int) (n:Nat):(List Nat) → Int → Option Bool:=lp (fun _ _=>none) (qI9 k a0 a2 x2_5 x3_5 x4_5) n
theorem g9_l13_s (k:Nat)  (a0:(List Int)) (a2:Bool) (x2_5:(List Nat)) (x3_5:Int) (x4_5:Int) (n:Nat) (y13_0:(List Nat)) (y13_1:Int):qEe k a0 a2 x2_5 x3_5 x4_5 (n + 1) y13_0 y13_1 = (if (decide (y13_1 < (a0.length:Int))) then (jn (fun (z14:(List Nat) × Int)=>(nthL a0 z14.2).bind fun x7_4=>(nthL g9c1 (fW .i64 ((fW .u64 x7_4).tmod 10))).bind fun x7_9=>(catS z14.1 x7_9).bind fun x7_11=>(qEe k a0 a2 x2_5 x3_5 x4_5 n) x7_11 (fW .i64 (z14.2 + 1))) (fun j14=>if (decide (0 < y13_1)) then ((catS y13_0 ([44,32]:List Nat)).bind fun x8_1=>j14 (x8_1,y13_1)) else (j14 (y13_0,y13_1)))) else ((catS y13_0 x2_5).bind fun x6_2=>(g17 k x6_2).bind fun x6_3=>jn (fun (z15:Bool)=>if z15 then (some false) else (qDi k a0 x4_5 x6_3 k 0)) (fun j15=>if (!decide (x6_3.2 = 0)) then (j15 true) else (if (!decide (x6_3.1.f0 = x3_5)) then (j15 true) else (if (!decide ((x6_3.1.f2.n:Int) = fW .i64 ((a0.length:Int) + x4_5))) then (j15 true) else (if (!(x6_3.1.f3 == a2)) then (j15 true) else (j15 (!decide ((x6_3.1.f6.length:Int) = 0))))))))):=rfl
theorem qO8 (k:Nat)   (a0:(List Int)) (a2:Bool) (x2_5:(List Nat)) (x3_5:Int) (x4_5:Int)  : ∀ (n:Nat) (y13_0:(List Nat)) (y13_1:Int),Ok Xg9 g9p15 [(0,w3 a0),(2,.bool a2),(7,w9 g9c1),(9,.str x2_5),(10,.i x3_5),(11,.i x4_5),(12,.str y13_0),(13,.i y13_1)] (mkH []) (qEe k a0 a2 x2_5 x3_5 x4_5 n y13_0 y13_1):=by
 intro n
 induction n with
 | zero=>intro y13_0 y13_1; exact ok_none
 | succ n ih =>
  intro y13_0 y13_1
  show Ok _ _ _ _ (qI9 k a0 a2 x2_5 x3_5 x4_5 (qEe k a0 a2 x2_5 x3_5 x4_5 n) y13_0 y13_1)
  unfold qI9
  refine qAf (p':=nav [0] g9p15) (by kernel_rfl) ?_
  let E12:Env:=[(59,.bool (decide (y13_1 < (a0.length:Int)))),(58,.i (a0.length:Int)),(57,w3 a0),(56,.i y13_1),(0,w3 a0),(2,.bool a2),(7,w9 g9c1),(9,.str x2_5),(10,.i x3_5),(11,.i x4_5),(12,.str y13_0),(13,.i y13_1)]
  refine oH 8 g9p17 E12 (mkH []) ?_
  refine oS 59 (fun hb=>?_) (fun hb=>?_)
  ·refine oR 10 g9p20 ((63,.bool (decide (0 < y13_1))) :: (62,.i y13_1) :: (59,.bool true) :: E12) ?_
   refine oJ g9p23 (fun (z14:(List Nat) × Int)=>[(0,w3 a0),(2,.bool a2),(7,w9 g9c1),(9,.str x2_5),(10,.i x3_5),(11,.i x4_5),(12,.str z14.1),(13,.i z14.2)]) (fun (z14:(List Nat) × Int)=>(mkH [])) (fun z14=>?_) (fun j14 hj14=>?_)
   ·let E13:Env:=[(69,.i z14.2),(68,w3 a0),(67,w9 g9c1),(66,.str z14.1),(0,w3 a0),(2,.bool a2),(7,w9 g9c1),(9,.str x2_5),(10,.i x3_5),(11,.i x4_5),(12,.str z14.1),(13,.i z14.2)]
    refine oH 5 (atN 4 (ctl1 g9p23)) E13 (mkH []) ?_
    refine oC (fun (x7_4:Int)=>(.vptr [.i x7_4],(mkH []))) (atN 5 (ctl1 g9p23)) 70 (vidxH (sz:=1) qFj (by kernel_rfl)) fun x7_4 hx7_4=>?_
    let E14:Env:=((74,.i (fW .i64 ((fW .u64 x7_4).tmod 10))) :: (73,.int .u64 ((fW .u64 x7_4).tmod 10)) :: (72,.int .u64 (fW .u64 x7_4)) :: (71,.i x7_4) :: (70,.vptr [.i x7_4]) :: E13)
    refine oH 4 (atN 9 (ctl1 g9p23)) E14 (mkH []) ?_
    refine oC (fun (x7_9:(List Nat))=>(.vptr [.str x7_9],(mkH []))) (atN 10 (ctl1 g9p23)) 75 (vidxH (sz:=1) qBp (by kernel_rfl)) fun x7_9 hx7_9=>?_
    refine oH 1 (atN 11 (ctl1 g9p23)) ((76,.str x7_9) :: (75,.vptr [.str x7_9]) :: E14) (mkH []) ?_
    refine oC (fun (x7_11:(List Nat))=>(.str x7_11,(mkH []))) (atN 12 (ctl1 g9p23)) 77 (catH (by kernel_rfl)) fun x7_11 hx7_11=>?_
    refine oH 2 (nav [0,0] g9p23) ((12,.str x7_11) :: (77,.str x7_11) :: (76,.str x7_9) :: (75,.vptr [.str x7_9]) :: E14) (mkH []) ?_
    refine oK0 [0,2,7,9,10,11,12,13] ?_
    refine oR 5 g9p15 ((13,.i (fW .i64 (z14.2 + 1))) :: (61,.i (fW .i64 (z14.2 + 1))) :: (60,.i z14.2) :: (keepOnly ((12,.str x7_11) :: (77,.str x7_11) :: (76,.str x7_9) :: (75,.vptr [.str x7_9]) :: E14) [0,2,7,9,10,11,12,13])) ?_
    refine oK [0,2,7,9,10,11,12,13] [(0,w3 a0),(2,.bool a2),(7,w9 g9c1),(9,.str x2_5),(10,.i x3_5),(11,.i x4_5),(12,.str x7_11),(13,.i (fW .i64 (z14.2 + 1)))] ?_
    exact ih x7_11 (fW .i64 (z14.2 + 1))
   ·refine oS 63 (fun hb=>?_) (fun hb=>?_)
    ·let E17:Env:=((64,.str y13_0) :: (63,.bool true) :: (63,.bool (decide (0 < y13_1))) :: (62,.i y13_1) :: (59,.bool true) :: E12)
     refine oH 3 (atN 1 (ctl1 g9p22)) E17 (mkH []) ?_
     refine oC (fun (x8_1:(List Nat))=>(.str x8_1,(mkH []))) (atN 2 (ctl1 g9p22)) 65 (catH (by kernel_rfl)) fun x8_1 hx8_1=>?_
     refine oH 2 g9p23 ((12,.str x8_1) :: (65,.str x8_1) :: E17) (mkH []) ?_
     refine oK [0,2,7,9,10,11,12,13] [(0,w3 a0),(2,.bool a2),(7,w9 g9c1),(9,.str x2_5),(10,.i x3_5),(11,.i x4_5),(12,.str x8_1),(13,.i y13_1)] ?_
     exact hj14 (x8_1,y13_1)
    ·refine oLH 2 g9p23 [(0,w3 a0),(2,.bool a2),(7,w9 g9c1),(9,.str x2_5),(10,.i x3_5),(11,.i x4_5),(12,.str y13_0),(13,.i y13_1)] (mkH []) ?_
     exact hj14 (y13_0,y13_1)
  ·refine oR 6 (atN 2 (ctl1 g9p19)) ((80,.str x2_5) :: (79,.str y13_0) :: (59,.bool false) :: E12) ?_
   refine oC (fun (x6_2:(List Nat))=>(.str x6_2,(mkH []))) (atN 3 (ctl1 g9p19)) 81 (catH (by kernel_rfl)) fun x6_2 hx6_2=>?_
   refine oA (fun (x6_3:(S28 × Int)) => .tuple [n29 x6_3.1,.i x6_3.2]) (atN 4 (ctl1 g9p19)) 82 [.str x6_2] (g17_ok k x6_2) fun x6_3 hx6_3=>?_
   let E21:Env:=[(0,w3 a0),(2,.bool a2),(7,w9 g9c1),(10,.i x3_5),(11,.i x4_5),(14,.ptr 0 7 0),(15,.i x6_3.2)]
   refine oLH 9 g9p21 E21 (mkH [⟨e29 x6_3.1,7,false⟩]) ?_
   refine oR 4 (atN 3 (ctl1 g9p21)) ((87,.bool (!decide (x6_3.2 = 0))) :: (86,.bool (!decide (x6_3.2 = 0))) :: (85,.i x6_3.2) :: E21) ?_
   refine oJ g9p24 (fun (z15:Bool)=>[(0,w3 a0),(7,w9 g9c1),(11,.i x4_5),(14,.ptr 0 7 0),(114,.bool z15)]) (fun (z15:Bool)=>(mkH [⟨e29 x6_3.1,7,false⟩])) (fun z15=>?_) (fun j15 hj15=>?_)
   ·refine oS 114 (fun hb=>?_) (fun hb=>?_)
    ·exact oQ 6
    ·refine oLH 9 g9p28 [(0,w3 a0),(7,w9 g9c1),(11,.i x4_5),(14,.ptr 0 7 0),(16,.i 0)] (mkH [⟨e29 x6_3.1,7,false⟩]) ?_
     exact (qO7 k a0 x4_5 x6_3 k) 0
   ·refine oS 87 (fun hb=>?_) (fun hb=>?_)
    ·refine oLH 28 g9p24 [(0,w3 a0),(7,w9 g9c1),(11,.i x4_5),(14,.ptr 0 7 0),(114,.bool true)] (mkH [⟨e29 x6_3.1,7,false⟩]) ?_
     exact hj15 true
    ·let E40:Env:=((93,.bool (!decide (x6_3.1.f0 = x3_5))) :: (92,.bool (!decide (x6_3.1.f0 = x3_5))) :: (91,.bool (!decide (x6_3.1.f0 = x3_5))) :: (90,.i x3_5) :: (89,.i x6_3.1.f0) :: (88,.ptr 0 7 0) :: (87,.bool false) :: (87,.bool (!decide (x6_3.2 = 0))) :: (86,.bool (!decide (x6_3.2 = 0))) :: (85,.i x6_3.2) :: E21)
     refine oH 6 (atN 9 (ctl1 g9p21)) E40 (mkH [⟨e29 x6_3.1,7,false⟩]) ?_
     refine oS 93 (fun hb=>?_) (fun hb=>?_)
     ·refine oL 22 g9p24 [(0,w3 a0),(7,w9 g9c1),(11,.i x4_5),(14,.ptr 0 7 0),(114,.bool true)] ?_
      exact hj15 true
     ·let E43:Env:=((103,.bool (!decide ((x6_3.1.f2.n:Int) = fW .i64 ((a0.length:Int) + x4_5)))) :: (102,.bool (!decide ((x6_3.1.f2.n:Int) = fW .i64 ((a0.length:Int) + x4_5)))) :: (101,.bool (!decide ((x6_3.1.f2.n:Int) = fW .i64 ((a0.length:Int) + x4_5)))) :: (100,.i (fW .i64 ((a0.length:Int) + x4_5))) :: (99,.i x4_5) :: (98,.i (a0.length:Int)) :: (97,w3 a0) :: (96,.i (x6_3.1.f2.n:Int)) :: (95,q29 x6_3.1.f2) :: (94,.ptr 0 7 2) :: (93,.bool false) :: E40)
      refine oR 10 (atN 19 (ctl1 g9p21)) E43 ?_
      refine oS 103 (fun hb=>?_) (fun hb=>?_)
      ·refine oL 12 g9p24 [(0,w3 a0),(7,w9 g9c1),(11,.i x4_5),(14,.ptr 0 7 0),(114,.bool true)] ?_
       exact hj15 true
      ·refine oR 6 (atN 25 (ctl1 g9p21)) ((109,.bool (!(x6_3.1.f3 == a2))) :: (108,.bool (!(x6_3.1.f3 == a2))) :: (107,.bool (!(x6_3.1.f3 == a2))) :: (106,.bool a2) :: (105,.bool x6_3.1.f3) :: (104,.ptr 0 7 3) :: (103,.bool false) :: E43) ?_
       refine oS 109 (fun hb=>?_) (fun hb=>?_)
       ·refine oL 6 g9p24 [(0,w3 a0),(7,w9 g9c1),(11,.i x4_5),(14,.ptr 0 7 0),(114,.bool true)] ?_
        exact hj15 true
       ·refine oL 6 g9p24 [(0,w3 a0),(7,w9 g9c1),(11,.i x4_5),(14,.ptr 0 7 0),(114,.bool (!decide ((x6_3.1.f6.length:Int) = 0)))] ?_
        exact hj15 (!decide ((x6_3.1.f6.length:Int) = 0))
def g9 (k:Nat) (a0:(List Int)) (a1:Int) (a2:Bool):Option Bool :=
 if (decide (8 < (a0.length:Int))) then ((g16 k).bind fun x0_0=>some x0_0) else ((nthL g9c2 (fW .i64 ((fW .u64 a1).tmod 7))).bind fun x1_5=>(nthL g9c3 (fW .i64 ((fW .u64 a1).tmod 7))).bind fun x2_5=>(nthL g9c4 (fW .i64 ((fW .u64 a1).tmod 7))).bind fun x3_5=>(nthL g9c5 (fW .i64 ((fW .u64 a1).tmod 7))).bind fun x4_5=>jn (fun (z12:(List Nat))=>qEe k a0 a2 x2_5 x3_5 x4_5 k z12 0) (fun j12=>if a2 then ((catS x1_5 ([10]:List Nat)).bind fun x5_1=>j12 x5_1) else (j12 x1_5)))
theorem g9_ok (k:Nat) (a0:(List Int)) (a1:Int) (a2:Bool) (r:Bool) (h:g9 k a0 a1 a2 = some r):PureOk Try.prog 9 [w3 a0,.i a1,.bool a2] (.bool r):=by
 refine qA4 Xg9 (fun _=>⟨rfl,rfl⟩) Try.func9 (by decide +kernel) (by kernel_rfl) (t:=g9 k a0 a1 a2) ?_ h
 unfold g9
 refine qA (eE:=[(0,w3 a0),(1,.i a1),(2,.bool a2)]) (by kernel_rfl) ?_
 let E1:Env:=[(21,.bool (decide (8 < (a0.length:Int)))),(20,.i (a0.length:Int)),(19,w3 a0),(6,.bool false),(0,w3 a0),(1,.i a1),(2,.bool a2)]
 refine oH 11 g9p2 E1 (mkH []) ?_
 refine oS 21 (fun hb=>?_) (fun hb=>?_)
 ·refine oR 3 (atN 0 (ctl1 g9p3)) ((21,.bool true) :: E1) ?_
  refine oA (fun (x0_0:Bool) => .bool x0_0) (atN 1 (ctl1 g9p3)) 22 [] (g16_ok k ) fun x0_0 hx0_0=>?_
  exact oQ 3
 ·refine oH 5 (atN 1 (ctl1 g9p4)) ((23,.slice 0 10 0 10 1) :: (21,.bool false) :: E1) (mkH [⟨[.str [97],.str [88,32,43,32,49],.str [102,40,120,41],.str [123,125],.str [91,93],.str [34,115,34],.str [110,111,116,32,98],.str [35,123,125],.str g9c0,.str [45,32,49]],0,false⟩]) ?_
  refine oZ 23 0 10 1 [.str [97],.str [88,32,43,32,49],.str [102,40,120,41],.str [123,125],.str [91,93],.str [34,115,34],.str [110,111,116,32,98],.str [35,123,125],.str g9c0,.str [45,32,49]] [0,1,2,6,19,20,21] [] trivial ?_
  refine oH 5 (atN 1 (ctl1 g9p6)) [(24,.slice 1 7 0 7 1),(7,w9 g9c1),(23,w9 g9c1),(0,w3 a0),(1,.i a1),(2,.bool a2),(6,.bool false),(19,w3 a0),(20,.i (a0.length:Int)),(21,.bool false)] (mkH [⟨[],0,false⟩,⟨[.str [123],.str [91],.str [102,40],.str [35,123],.str [35,114,123],.str [88,35,123],.str [88,35,114,123]],0,false⟩]) ?_
  refine oZ 24 1 7 1 [.str [123],.str [91],.str [102,40],.str [35,123],.str [35,114,123],.str [88,35,123],.str [88,35,114,123]] [0,1,2,6,7,19,20,21,23] [] trivial ?_
  refine oH 4 (atN 5 (ctl1 g9p6)) [(28,.i (fW .i64 ((fW .u64 a1).tmod 7))),(27,.int .u64 ((fW .u64 a1).tmod 7)),(26,.int .u64 (fW .u64 a1)),(25,.i a1),(24,w9 g9c2),(0,w3 a0),(1,.i a1),(2,.bool a2),(6,.bool false),(7,w9 g9c1),(19,w3 a0),(20,.i (a0.length:Int)),(21,.bool false),(23,w9 g9c1)] (mkH [⟨[],0,false⟩,⟨[],0,false⟩]) ?_
  refine oC (fun (x1_5:(List Nat))=>(.vptr [.str x1_5],(mkH [⟨[],0,false⟩,⟨[],0,false⟩]))) (atN 6 (ctl1 g9p6)) 29 (vidxH (sz:=1) qBp (by kernel_rfl)) fun x1_5 hx1_5=>?_
  refine oLH 4 g9p7 [(0,w3 a0),(1,.i a1),(2,.bool a2),(7,w9 g9c1),(8,.str x1_5)] (mkH [⟨[],0,false⟩,⟨[],0,false⟩]) ?_
  refine oH 2 (atN 1 (ctl1 g9p7)) ((31,.slice 2 7 0 7 1) :: [(0,w3 a0),(1,.i a1),(2,.bool a2),(7,w9 g9c1),(8,.str x1_5)]) (mkH [⟨[],0,false⟩,⟨[],0,false⟩,⟨[.str [125],.str [93],.str [41],.str [125],.str [125],.str [125],.str [125]],0,false⟩]) ?_
  refine oZ 31 2 7 1 [.str [125],.str [93],.str [41],.str [125],.str [125],.str [125],.str [125]] [0,1,2,7,8] [] trivial ?_
  refine oH 4 (atN 5 (ctl1 g9p7)) [(35,.i (fW .i64 ((fW .u64 a1).tmod 7))),(34,.int .u64 ((fW .u64 a1).tmod 7)),(33,.int .u64 (fW .u64 a1)),(32,.i a1),(31,w9 g9c3),(0,w3 a0),(1,.i a1),(2,.bool a2),(7,w9 g9c1),(8,.str x1_5)] (mkH [⟨[],0,false⟩,⟨[],0,false⟩,⟨[],0,false⟩]) ?_
  refine oC (fun (x2_5:(List Nat))=>(.vptr [.str x2_5],(mkH [⟨[],0,false⟩,⟨[],0,false⟩,⟨[],0,false⟩]))) (atN 6 (ctl1 g9p7)) 36 (vidxH (sz:=1) qBp (by kernel_rfl)) fun x2_5 hx2_5=>?_
  refine oLH 4 g9p8 [(0,w3 a0),(1,.i a1),(2,.bool a2),(7,w9 g9c1),(8,.str x1_5),(9,.str x2_5)] (mkH [⟨[],0,false⟩,⟨[],0,false⟩,⟨[],0,false⟩]) ?_
  refine oH 2 (atN 1 (ctl1 g9p8)) ((38,.slice 3 7 0 7 1) :: [(0,w3 a0),(1,.i a1),(2,.bool a2),(7,w9 g9c1),(8,.str x1_5),(9,.str x2_5)]) (mkH [⟨[],0,false⟩,⟨[],0,false⟩,⟨[],0,false⟩,⟨[.i 4,.i 5,.i 2,.i 8,.i 10,.i 9,.i 11],0,false⟩]) ?_
  refine oZ 38 3 7 1 [.i 4,.i 5,.i 2,.i 8,.i 10,.i 9,.i 11] [0,1,2,7,8,9] [] trivial ?_
  let K1:List Blk:=[⟨[],0,false⟩,⟨[],0,false⟩,⟨[],0,false⟩,⟨[],0,false⟩]
  refine oH 4 (atN 5 (ctl1 g9p8)) [(42,.i (fW .i64 ((fW .u64 a1).tmod 7))),(41,.int .u64 ((fW .u64 a1).tmod 7)),(40,.int .u64 (fW .u64 a1)),(39,.i a1),(38,w3 g9c4),(0,w3 a0),(1,.i a1),(2,.bool a2),(7,w9 g9c1),(8,.str x1_5),(9,.str x2_5)] (mkH K1) ?_
  refine oC (fun (x3_5:Int)=>(.vptr [.i x3_5],(mkH K1))) (atN 6 (ctl1 g9p8)) 43 (vidxH (sz:=1) qFj (by kernel_rfl)) fun x3_5 hx3_5=>?_
  refine oLH 4 g9p9 [(0,w3 a0),(1,.i a1),(2,.bool a2),(7,w9 g9c1),(8,.str x1_5),(9,.str x2_5),(10,.i x3_5)] (mkH K1) ?_
  refine oH 2 (atN 1 (ctl1 g9p9)) ((45,.slice 4 7 0 7 1) :: [(0,w3 a0),(1,.i a1),(2,.bool a2),(7,w9 g9c1),(8,.str x1_5),(9,.str x2_5),(10,.i x3_5)]) (mkH [⟨[],0,false⟩,⟨[],0,false⟩,⟨[],0,false⟩,⟨[],0,false⟩,⟨[.i 0,.i 0,.i 1,.i 0,.i 0,.i 1,.i 1],0,false⟩]) ?_
  refine oZ 45 4 7 1 [.i 0,.i 0,.i 1,.i 0,.i 0,.i 1,.i 1] [0,1,2,7,8,9,10] [] trivial ?_
  let K2:List Blk:=[⟨[],0,false⟩,⟨[],0,false⟩,⟨[],0,false⟩,⟨[],0,false⟩,⟨[],0,false⟩]
  refine oH 4 (atN 5 (ctl1 g9p9)) [(49,.i (fW .i64 ((fW .u64 a1).tmod 7))),(48,.int .u64 ((fW .u64 a1).tmod 7)),(47,.int .u64 (fW .u64 a1)),(46,.i a1),(45,w3 g9c5),(0,w3 a0),(1,.i a1),(2,.bool a2),(7,w9 g9c1),(8,.str x1_5),(9,.str x2_5),(10,.i x3_5)] (mkH K2) ?_
  refine oC (fun (x4_5:Int)=>(.vptr [.i x4_5],(mkH K2))) (atN 6 (ctl1 g9p9)) 50 (vidxH (sz:=1) qFj (by kernel_rfl)) fun x4_5 hx4_5=>?_
  refine oLH 4 g9p10 [(0,w3 a0),(2,.bool a2),(7,w9 g9c1),(8,.str x1_5),(9,.str x2_5),(10,.i x3_5),(11,.i x4_5)] (mkH K2) ?_
  let E10:Env:=[(0,w3 a0),(2,.bool a2),(7,w9 g9c1),(8,.str x1_5),(9,.str x2_5),(10,.i x3_5),(11,.i x4_5)]
  refine oR 9 g9p12 ((53,.bool a2) :: (12,.str x1_5) :: (52,.str x1_5) :: E10) ?_
  refine oJ g9p14 (fun (z12:(List Nat))=>[(0,w3 a0),(2,.bool a2),(7,w9 g9c1),(9,.str x2_5),(10,.i x3_5),(11,.i x4_5),(12,.str z12)]) (fun (z12:(List Nat))=>(mkH [])) (fun z12=>?_) (fun j12 hj12=>?_)
  ·refine oLH 5 g9p15 [(0,w3 a0),(2,.bool a2),(7,w9 g9c1),(9,.str x2_5),(10,.i x3_5),(11,.i x4_5),(12,.str z12),(13,.i 0)] (mkH []) ?_
   exact (qO8 k a0 a2 x2_5 x3_5 x4_5 k) z12 0
  ·refine oS 53 (fun hb=>?_) (fun hb=>?_)
   ·let E52:Env:=((54,.str x1_5) :: (53,.bool true) :: (53,.bool a2) :: (12,.str x1_5) :: (52,.str x1_5) :: E10)
    refine oH 3 (atN 1 (ctl1 g9p13)) E52 (mkH K2) ?_
    refine oC (fun (x5_1:(List Nat))=>(.str x5_1,(mkH K2))) (atN 2 (ctl1 g9p13)) 55 (catH (by kernel_rfl)) fun x5_1 hx5_1=>?_
    refine oH 4 g9p14 ((12,.str x5_1) :: (55,.str x5_1) :: E52) (mkH K2) ?_
    refine oK [0,2,7,9,10,11,12] [(0,w3 a0),(2,.bool a2),(7,w9 g9c1),(9,.str x2_5),(10,.i x3_5),(11,.i x4_5),(12,.str x5_1)] ?_
    refine qAa [] K2 (by kernel_rfl) rfl (by kernel_rfl) trivial ?_
    exact hj12 x5_1
   ·refine oLH 4 g9p14 [(0,w3 a0),(2,.bool a2),(7,w9 g9c1),(9,.str x2_5),(10,.i x3_5),(11,.i x4_5),(12,.str x1_5)] (mkH K2) ?_
    refine qAa [] K2 (by kernel_rfl) rfl (by kernel_rfl) trivial ?_
    exact hj12 x1_5
end
theorem told_x:g16 400 = some true:=by kernel_rfl
theorem nthLi {l:List Int} {i:Nat} {b:Int} (h:l[i]? = some b):nthL l (i:Int) = some b:=by
 unfold nthL
 rw [if_pos (by omega),Int.toNat_natCast,h]
theorem catX {a b:List Nat} (h:a.length + b.length < 100000):catS a b = some (a ++ b):=by
 unfold catS
 rw [if_pos (by omega)]
def ixI (x:Int):Nat:=(fW .i64 ((fW .u64 x).tmod 10)).toNat
theorem qJx (x:Int):ixI x < 10 ∧ fW .i64 ((fW .u64 x).tmod 10) = (ixI x:Int):=by
 obtain ⟨k,hk,e,-⟩:=qM1 x 10 (by decide) (by decide)
 have e:(fW .u64 x).tmod 10 = (k:Int):=e
 have h:fW .i64 ((fW .u64 x).tmod 10) = (k:Int):=by rw [e,fwI (by omega) (by omega)]
 unfold ixI
 rw [h]
 exact ⟨by omega,by omega⟩
theorem qH1:∀ t:Nat,t < 10 → nthL g9c1 (t:Int) = some (atT t):=by
 refine lt10 ?_ ?_ ?_ ?_ ?_ ?_ ?_ ?_ ?_ ?_ <;> rfl
def moL (c:Nat):List S28:=match c with
 | 2=>[litN [102]]
 | 5=>[litN [88]]
 | 6=>[litN [88]]
 | _=>[]
theorem qPi (nl:Bool) (L:List S28):∀ c,c < 7 → (boxN c nl L).f2 = ⟨(moL c ++ L).length,(moL c ++ L).flatMap e29⟩ ∧ (boxN c nl L).f3 = nl ∧ (boxN c nl L).f6 = [] ∧ (moL c).length ≤ 1 ∧ nthL g9c5 (c:Int) = some ((moL c).length:Int) ∧ nthL g9c4 (c:Int) = some (boxN c nl L).f0 ∧ nthL g9c3 (c:Int) = some (shB c) ∧ nthL g9c2 (c:Int) = some (txt (opB c)):=by
 intro c hc
 match c,hc with
 | 0,_=>exact ⟨rfl,rfl,rfl,by decide,rfl,rfl,rfl,rfl⟩
 | 1,_=>exact ⟨rfl,rfl,rfl,by decide,rfl,rfl,rfl,rfl⟩
 | 2,_=>exact ⟨rfl,rfl,rfl,by decide,rfl,rfl,rfl,rfl⟩
 | 3,_=>exact ⟨rfl,rfl,rfl,by decide,rfl,rfl,rfl,rfl⟩
 | 4,_=>exact ⟨rfl,rfl,rfl,by decide,rfl,rfl,rfl,rfl⟩
 | 5,_=>exact ⟨rfl,rfl,rfl,by decide,rfl,rfl,rfl,rfl⟩
 | 6,_=>exact ⟨rfl,rfl,rfl,by decide,rfl,rfl,rfl,rfl⟩
theorem it_dec:∀ t,t < 10 → d29 (e29 (itNb t)) = some (itNb t):=by
 refine lt10 ?_ ?_ ?_ ?_ ?_ ?_ ?_ ?_ ?_ ?_ <;> show _ = _ <;> kernel_rfl
theorem it_same:∀ t,t < 10 → g19 400 (itNb t) (itNb t) = some true:=by
 refine lt10 ?_ ?_ ?_ ?_ ?_ ?_ ?_ ?_ ?_ ?_ <;> show _ = _ <;> kernel_rfl
theorem qPj {a0:List Int} {c:Nat} (hc:c < 7) {nl:Bool} (h8:a0.length ≤ 8):∀ (n j:Nat),a0.length - j < n → j ≤ a0.length → qDi 400 a0 ((moL c).length:Int) (boxN c nl ((a0.map ixI).map itNb),0) n (j:Int) = some true:=by
 obtain ⟨f2,-,-,fm,-⟩:=qPi nl ((a0.map ixI).map itNb) c hc
 intro n
 induction n with
 | zero=>intro j h; omega
 | succ n ih =>
  intro j h hj
  rw [g9_l16_s]
  by_cases hl':j < a0.length
  ·obtain ⟨x,hx⟩:∃ x,a0[j]? = some x:=⟨_,List.getElem?_eq_getElem hl'⟩
   obtain ⟨i1,i2⟩:=qJx x
   have hg:(moL c ++ (a0.map ixI).map itNb)[(moL c).length + j]? = some (itNb (ixI x)):=by
    rw [List.getElem?_append_right (by omega),show (moL c).length + j - (moL c).length = j by omega,List.getElem?_map,List.getElem?_map,hx]
    rfl
   have hn:nthR d29 7 (boxN c nl ((a0.map ixI).map itNb)).f2.n (boxN c nl ((a0.map ixI).map itNb)).f2.cells (fW .i64 (((moL c).length:Int) + (j:Int))) = some (itNb (ixI x)):=by
    rw [fw_a (by omega) (by omega),f2]
    exact nthR_at _ _ _ hg (it_dec _ i1)
   refine iT (dT (by omega)) (bS (nthLi hx) (bS (a:=atT (ixI x)) (by rw [i2]; exact qH1 _ i1) (bS (qLf i1) ((jS (v:=(false,(j:Int))) (fun q=>iF rfl (bS hn (bS (it_same _ i1) rfl)))).trans (iF rfl ?_)))))
   show qDi 400 a0 _ _ n (fW .i64 ((j:Int) + 1)) = _
   rw [fw_s (by omega)]
   exact ih (j + 1) (by omega) hl'
  ·exact iF (dF (by omega)) (bS told_x rfl)
def restX (sh:List Nat) (L:List Nat) (j:Nat):List Nat:=if j = 0 then rest0 sh L else txt (tlB sh (L.drop j))
theorem tlB_nil (sh:List Nat):txt (tlB sh []) = sh:=by show [] ++ (sh ++ []) = sh; simp
theorem box_loop {a0:List Int} {c:Nat} (hc:c < 7) {nl:Bool} (h8:a0.length ≤ 8) {f0:Int} (hf:(boxN c nl ((a0.map ixI).map itNb)).f0 = f0):∀ (n j:Nat) (pre:List Nat),a0.length - j < n → j ≤ a0.length → pre ++ restX (shB c) (a0.map ixI) j = txt (boxP c nl (a0.map ixI)) → qEe 400 a0 nl (shB c) f0 ((moL c).length:Int) n pre (j:Int) = some true:=by
 have hL:∀ x ∈ a0.map ixI,x < 10:=by
  intro x hx
  obtain ⟨y,-,rfl⟩:=List.mem_map.1 hx
  exact (qJx y).1
 have hT:(txt (boxP c nl (a0.map ixI))).length ≤ 100:=(qPh hL (by simpa using h8) c hc).2.1
 obtain ⟨f2,f3,f6,fm,-⟩:=qPi nl ((a0.map ixI).map itNb) c hc
 obtain ⟨-,s2⟩:=qMc (sh_c c hc)
 intro n
 induction n with
 | zero=>intro j pre h; omega
 | succ n ih =>
  intro j pre h hj hp
  have hpl:pre.length ≤ 100:=by rw [← hp,List.length_append] at hT; omega
  rw [g9_l13_s]
  by_cases hl':j < a0.length
  ·obtain ⟨x,hx⟩:∃ x,a0[j]? = some x:=⟨_,List.getElem?_eq_getElem hl'⟩
   obtain ⟨i1,i2⟩:=qJx x
   obtain ⟨-,t2⟩:=at_len _ i1
   have hdr:(a0.map ixI).drop j = ixI x :: (a0.map ixI).drop (j + 1):=by
    have hlt:j < (a0.map ixI).length:=by simpa using hl'
    rw [List.drop_eq_getElem_cons hlt]
    congr 1
    rw [List.getElem_map]
    congr 1
    exact (List.getElem?_eq_some_iff.1 hx).2
   have hitem:restX (shB c) (a0.map ixI) j = (if 0 < j then [44,32] else []) ++ (atT (ixI x) ++ restX (shB c) (a0.map ixI) (j + 1)):=by
    have hB:restX (shB c) (a0.map ixI) (j + 1) = txt (tlB (shB c) ((a0.map ixI).drop (j + 1))):=rfl
    rw [hB]
    cases j with
    | zero =>
     rw [List.drop_zero] at hdr
     show rest0 (shB c) (a0.map ixI) = _
     generalize (a0.map ixI).drop (0 + 1) = r at hdr ⊢
     rw [hdr]
     rfl
    | succ j =>
     have hA:restX (shB c) (a0.map ixI) (j + 1) = txt (tlB (shB c) ((a0.map ixI).drop (j + 1))):=rfl
     rw [hA,hdr,qM2 i1,if_pos (Nat.succ_pos j)]
   refine iT (dT (by omega)) ((jS (v:=(pre ++ (if 0 < j then [44,32] else []),(j:Int))) (fun q=>?_)).trans (bS (nthLi hx) (bS (a:=atT (ixI x)) (by rw [i2]; exact qH1 _ i1) (bS (catX ?_) ?_))))
   ·by_cases h0:0 < j
    ·rw [if_pos h0]; exact iT (dT (by omega)) (bS (catX (by simp only [List.length_cons,List.length_nil]; omega)) rfl)
    ·rw [if_neg h0,List.append_nil]; exact iF (dF (by omega)) rfl
   ·show (pre ++ (if 0 < j then [44,32] else [])).length + _ < _
    rw [List.length_append]; split <;> simp only [List.length_cons,List.length_nil] <;> omega
   ·show qEe 400 a0 nl (shB c) f0 _ n _ (fW .i64 ((j:Int) + 1)) = _
    rw [fw_s (by omega)]
    refine ih (j + 1) _ (by omega) hl' ?_
    rw [← hp,hitem]
    simp
  ·obtain rfl:j = a0.length:=by omega
   have hr0:restX (shB c) (a0.map ixI) a0.length = shB c:=by
    unfold restX
    by_cases h0:a0.length = 0
    ·rw [if_pos h0,List.length_eq_zero_iff.1 h0]; rfl
    ·rw [if_neg h0,List.drop_eq_nil_of_le (by simp)]
     exact tlB_nil _
   rw [hr0] at hp
   refine iF (dF (by omega)) (bS (catX (by omega)) ?_)
   rw [hp]
   refine bS (qPg hL (by simpa using h8) c hc) ((jS (v:=false) (fun q=>?_)).trans (iF rfl (qPj hc h8 400 0 (by omega) (by omega))))
   refine iF rfl (iF ?_ (iF ?_ (iF ?_ ?_)))
   ·show (!decide ((boxN c nl ((a0.map ixI).map itNb)).f0 = f0)) = false
    rw [hf]; simp
   ·show (!decide (((boxN c nl ((a0.map ixI).map itNb)).f2.n:Int) = fW .i64 ((a0.length:Int) + ((moL c).length:Int)))) = false
    rw [f2,fw_a (by omega) (by omega)]
    simp [Nat.add_comm]
   ·show (!((boxN c nl ((a0.map ixI).map itNb)).f3 == nl)) = false
    rw [f3]; simp
   ·show q (!decide (((boxN c nl ((a0.map ixI).map itNb)).f6.length:Int) = 0)) = _
    rw [f6]; rfl
theorem qE1 (a0:List Int) (a1:Int) (a2:Bool) (_:∀ n ∈ a0,-9223372036854775808 ≤ n ∧ n ≤ 9223372036854775807) (_:a0.length ≤ 140737488351232):∃ k,g9 k a0 a1 a2 = some true:=by
 refine ⟨400,?_⟩
 obtain ⟨c,hc,e,-⟩:=qM1 a1 7 (by decide) (by decide)
 have hcc:fW .i64 ((fW .u64 a1).tmod 7) = (c:Int):=by
  have e:(fW .u64 a1).tmod 7 = (c:Int):=e
  rw [e,fwI (by omega) (by omega)]
 unfold g9
 by_cases h2:8 < (a0.length:Int)
 ·exact iT (dT h2) (bS told_x rfl)
 have h8:a0.length ≤ 8:=by omega
 have hL:∀ x ∈ a0.map ixI,x < 10:=by
  intro x hx
  obtain ⟨y,-,rfl⟩:=List.mem_map.1 hx
  exact (qJx y).1
 obtain ⟨-,-,-,-,c5,c4,c3,c2⟩:=qPi a2 ((a0.map ixI).map itNb) c hc
 obtain ⟨-,o2,-⟩:=qMw c hc
 rw [hcc]
 refine iF (dF h2) (bS c2 (bS c3 (bS c4 (bS c5 ((jS (v:=txt (opB c) ++ nlw a2) (fun q=>?_)).trans (box_loop hc h8 rfl 400 0 _ (by omega) (by omega) ?_))))))
 ·cases a2 with
  | true=>exact iT rfl (bS (catX (by simp only [List.length_cons,List.length_nil]; omega)) rfl)
  | false=>exact iF rfl (congrArg q (List.append_nil _).symm)
 ·rw [qJ9 hL,List.append_assoc]
  rfl
end Go.Proofs.Ythpplbkobokghaa.Am
set_option linter.unusedVariables false
namespace Go.Proofs.Ythpplbkobokghaa.Am
open Go Go.ChangeShapes Go.WideShapes
def mpOf (fz:List (Nat × List AV)):Mp:=⟨fun _ _=>none,fun i=>fz[i]?⟩
theorem qHw {P : Program} {n : Nat} {xs : List AV} {args : Array Value} (h : PureOk P n xs (.bool true)) (w : World) (fz : List (Nat × List AV)) (hargs : VRs (mpOf fz) xs args.toList)
 (hfz:∀ p ∈ fz,∃ cs ty fr,w.heap[p.1]? = some (.cells cs ty fr) ∧ p.2.length ≤ cs.size ∧ VRs (mpOf fz) p.2 (cs.toList.take p.2.length)) :
 Calls P n args w fun e W'=>e = .returned (.bool true) ∧ RowKit.Below w.heap.size w W':=by
 refine Calls.mono (h.1 (mpOf fz) w args (fun _ _=>rfl) hargs ?_) ?_
 ·refine ⟨?_,?_,?_,fun _ _=>rfl,?_,?_,?_,⟨fz.length,fun i hi=>List.getElem?_eq_none hi⟩,Nat.le_refl _,by show 0 ≤ roots; unfold roots; omega⟩
  ·intro r b v B N hb hm; cases hm
  ·intro r v B N hm; cases hm
  ·intro r v B N r' v' N' hm; cases hm
  ·intro r v B N hm; cases hm
  ·intro i B cells hi
   exact hfz (B,cells) (List.mem_of_getElem? hi)
  ·intro i B cells r v N b _ hm; cases hm
 ·rintro e w' ⟨m',c,rfl,q1,q2,q3⟩
  simp only [VR] at q3
  exact ⟨by rw [q3],q2.below (Nat.le_refl _)⟩
theorem qPm {m : Mp} : ∀ {xs : List AV} {cs : List Value}, xs.length = cs.length → (∀ (i : Nat) x c, xs[i]? = some x → cs[i]? = some c → VR m x c) → VRs m xs cs
 | [],[],_,_=>by simp only [VRs]
 | [],_ :: _,h,_=>by cases h
 | _ :: _,[],h,_=>by cases h
 | x :: xs,c :: cs,h,k=>by
  simp only [VRs]
  exact ⟨c,cs,rfl,k 0 x c rfl rfl,qPm (by simpa using h) (fun i x' c' hx hc=>k (i + 1) x' c' (by simpa using hx) (by simpa using hc))⟩
def IsRow (k:IntKind) (w:World) (a:Option Addr) (len cap:Nat) (zs:List Int):Prop :=
 (a = none ∧ len = 0 ∧ cap = 0 ∧ zs = []) ∨
 ∃ x,a = some x ∧ len ≤ cap ∧ zs.length = len ∧ (∀ i,i < zs.length → w.cell? (x.add i) = some (.int k (zs.getD i 0))) ∧ ∀ n ∈ zs,(Lit.int k n).wf = true
theorem qGe {w:World} {x:Addr} {i:Nat} {v:Value} (h:w.cell? (x.add i) = some v):∃ cs ty fr,w.heap[x.block]? = some (.cells cs ty fr) ∧ cs[x.off + i]? = some v ∧ (i = 0 → x.spot = none):=by
 have hb:(x.add i).block = x.block:=by unfold Addr.add; split <;> rfl
 have ho:(x.add i).off = x.off + i:=by unfold Addr.add; split <;> simp_all
 have hs:i = 0 → (x.add i).spot = x.spot:=by intro e; subst e; rfl
 unfold World.cell? at h
 rw [hb,ho] at h
 cases hw:w.heap[x.block]? with
 | none=>rw [hw] at h; cases h
 | some o =>
  rw [hw] at h
  cases o with
  | cells cs ty fr =>
   simp only [] at h
   cases hsp:(x.add i).spot with
   | none=>rw [hsp] at h; exact ⟨cs,ty,fr,rfl,by simpa using h,fun e=>by rw [← hs e,hsp]⟩
   | some q=>rw [hsp] at h; simp at h
  | _=>simp at h
def frozOf (k:IntKind) (a:Option Addr) (zs:List Int):Nat × List AV:=match a with
 | none=>(0,[])
 | some x=>(x.block,List.replicate x.off .top ++ zs.map (AV.int k))
theorem row_froz {k : IntKind} {w : World} {a : Option Addr} {len cap : Nat} {zs : List Int} (h : IsRow k w a len cap zs) (hne : zs ≠ []) (fz : List (Nat × List AV)) :
 ∃ cs ty fr,w.heap[(frozOf k a zs).1]? = some (.cells cs ty fr) ∧ (frozOf k a zs).2.length ≤ cs.size ∧ VRs (mpOf fz) (frozOf k a zs).2 (cs.toList.take (frozOf k a zs).2.length):=by
 rcases h with ⟨_,_,_,rfl⟩ | ⟨x,rfl,hl,hz,hc,hw⟩
 ·exact absurd rfl hne
 ·have hpos:0 < zs.length:=List.length_pos_iff.2 hne
  obtain ⟨cs,ty,fr,hb,h0,-⟩:=qGe (hc (zs.length - 1) (by omega))
  have hsz:x.off + (zs.length - 1) < cs.size:=by
   rcases Nat.lt_or_ge (x.off + (zs.length - 1)) cs.size with h | h
   ·exact h
   ·rw [Array.getElem?_eq_none h] at h0; cases h0
  refine ⟨cs,ty,fr,hb,by simp only [frozOf,List.length_append,List.length_replicate,List.length_map]; omega,?_⟩
  refine qPm (by simp only [frozOf,List.length_append,List.length_replicate,List.length_map,List.length_take,Array.length_toList]; omega) ?_
  intro i v c hv hcv
  simp only [frozOf] at hv hcv
  by_cases hi:i < x.off
  ·rw [List.getElem?_append_left (by simpa using hi)] at hv
   rw [List.getElem?_replicate,if_pos hi] at hv
   cases hv
   simp only [VR]
  ·rw [List.getElem?_append_right (by simpa using Nat.le_of_not_lt hi),List.length_replicate,List.getElem?_map] at hv
   cases hz':zs[i - x.off]? with
   | none=>rw [hz'] at hv; cases hv
   | some n =>
    rw [hz'] at hv
    cases hv
    have hlt:i - x.off < zs.length:=(List.getElem?_eq_some_iff.1 hz').1
    obtain ⟨cs',ty',fr',hb',h1,-⟩:=qGe (hc (i - x.off) hlt)
    rw [hb] at hb'
    cases hb'
    rw [show x.off + (i - x.off) = i from by omega] at h1
    rw [List.getElem?_take_of_lt (by simp only [List.length_append,List.length_replicate,List.length_map]; omega),Array.getElem?_toList,h1] at hcv
    cases hcv
    simp only [VR]
    rw [List.getD_eq_getElem?_getD,hz']
    rfl
theorem row_VR {k:IntKind} {w:World} {a:Option Addr} {len cap:Nat} {zs:List Int} (h:IsRow k w a len cap zs) (fz:List (Nat × List AV)) (id:Nat) (hid:zs ≠ [] → fz[id]? = some (frozOf k a zs)):VR (mpOf fz) (.vec zs.length 1 (zs.map (AV.int k))) (.slice a len cap):=by
 simp only [VR]
 refine ⟨by simp,a,cap,?_,?_,?_,?_⟩
 ·rcases h with ⟨_,rfl,_,rfl⟩ | ⟨x,_,_,hz,_,_⟩
  ·rfl
  ·rw [hz]
 ·rcases h with ⟨_,rfl,rfl,rfl⟩ | ⟨x,_,hl,hz,_,_⟩
  ·exact Nat.le_refl _
  ·omega
 ·intro ha
  rcases h with ⟨_,rfl,rfl,rfl⟩ | ⟨x,hx,_,_,_,_⟩
  ·exact ⟨rfl,rfl⟩
  ·rw [hx] at ha; cases ha
 ·intro hpos
  have hne:zs ≠ []:=List.length_pos_iff.1 hpos
  have hf:=hid hne
  rcases h with ⟨_,_,_,rfl⟩ | ⟨x,rfl,hl,hz,hc,hw⟩
  ·exact absurd rfl hne
  ·obtain ⟨cs,ty,fr,hb,h0,hsp⟩:=qGe (hc 0 hpos)
   have hspot:=hsp rfl
   refine ⟨id,x.block,x.off,_,hf,?_,?_,?_⟩
   ·cases x; simp only at hspot; rw [hspot]
   ·simp only [Nat.mul_one]
    rw [List.drop_append_of_le_length (by simp),List.drop_of_length_le (by simp),List.nil_append]
    exact List.take_of_length_le (by simp)
   ·simp
def fzOf (k:IntKind) (a:Option Addr) (zs:List Int):List (Nat × List AV):=if zs = [] then [] else [frozOf k a zs]
theorem fzOf_mem {k:IntKind} {a:Option Addr} {zs:List Int} {p:Nat × List AV} (h:p ∈ fzOf k a zs):zs ≠ [] ∧ p = frozOf k a zs:=by
 unfold fzOf at h
 split at h
 ·cases h
 ·exact ⟨by assumption,List.mem_singleton.1 h⟩
theorem fzOf_get {k:IntKind} {a:Option Addr} {zs:List Int} (A B:List (Nat × List AV)) (h:zs ≠ []):(A ++ (fzOf k a zs ++ B))[A.length]? = some (frozOf k a zs):=by
 unfold fzOf
 rw [if_neg h]
 simp
theorem flat1 (f : Int → AV) : ∀ l : List Int, l.flatMap (fun x => [f x]) = l.map f
 | []=>rfl
 | x :: l=>by rw [List.flatMap_cons,flat1 f l]; rfl
theorem row_len {k:IntKind} {w:World} {a:Option Addr} {len cap:Nat} {zs:List Int} (h:IsRow k w a len cap zs):zs.length = len:=by
 rcases h with ⟨_,rfl,_,rfl⟩ | ⟨x,_,_,hz,_,_⟩
 ·rfl
 ·exact hz
theorem row_wf {k:IntKind} {w:World} {a:Option Addr} {len cap:Nat} {zs:List Int} (h:IsRow k w a len cap zs):∀ n ∈ zs,(Lit.int k n).wf = true:=by
 rcases h with ⟨_,_,_,rfl⟩ | ⟨x,_,_,_,_,hw⟩
 ·intro n hn; cases hn
 ·exact hw
section
variable {H:Type} {enc:TypeId × Value → H} {P:Program} {w:World} {base:Nat} {held:Bool}
theorem row_open {t e : TypeId} {k : IntKind} {a : Option Addr} {len cap : Nat} {d : DataW H} {ps : List MemPlace} (ht : P.underlying t = some (.slice e)) (he : P.underlying e = some (.int k)) (hc : P.cellsOf e = 1)
 (h:DataW.Trod enc P w base (fun _=>true) held t (.slice a len cap) d ps):∃ zs,IsRow k w a len cap zs:=by
 obtain ⟨fuel,hf⟩:=h
 rcases open_ints ht he hc hf with ⟨hcs,_⟩ | ⟨x,l,c,zs,hcs,_,hl,hm,hz,_,hcell,hwz⟩
 ·simp [Value.cells] at hcs
  obtain ⟨rfl,rfl,rfl⟩:=hcs
  exact ⟨[],.inl ⟨rfl,rfl,rfl,rfl⟩⟩
 ·simp [Value.cells] at hcs
  obtain ⟨rfl,rfl,rfl⟩:=hcs
  have hz':zs.length = cap:=by simpa using hz
  refine ⟨zs.take len,.inr ⟨_,rfl,hl,by rw [List.length_take]; omega,?_,fun n hn=>hwz n (List.mem_of_mem_take hn)⟩⟩
  intro i hi
  rw [List.length_take] at hi
  rw [hcell i (by omega),List.getD_eq_getElem?_getD,List.getD_eq_getElem?_getD,List.getElem?_take_of_lt (by omega)]
theorem row_sized {t e : TypeId} {k : IntKind} {a : Option Addr} {len cap : Nat} {d : DataW H} {ps : List MemPlace} {ts : List TypeId} {ds : List (DataW H)} {j : Nat}
 (hsz:(DataW.weightsEach P ts ds).all (· ≤ reachBytes) = true) (ht:ts[j]? = some t) (hd:ds[j]? = some d) (hu:P.underlying t = some (.slice e)) (he:P.underlying e = some (.int k)) (hc:P.cellsOf e = 1) {B:Nat} (hB:P.bytesOf e = B)
 (h:DataW.Trod enc P w base (fun _=>true) held t (.slice a len cap) d ps):len * B ≤ 140737488351232:=by
 obtain ⟨fuel,hf⟩:=h
 rcases open_ints hu he hc hf with ⟨hcs,_⟩ | ⟨x,l,c,zs,hcs,_,hl,_,hz,hx,_,_⟩
 ·simp [Value.cells] at hcs
  obtain ⟨rfl,rfl,rfl⟩:=hcs
  omega
 ·simp [Value.cells] at hcs
  obtain ⟨rfl,rfl,rfl⟩:=hcs
  obtain ⟨hx,_⟩:=Prod.mk.inj hx
  subst hx
  have z:=sized_slice hsz ht hd hu
  rw [hB] at z
  have hz':zs.length = cap:=by simpa using hz
  have e1:(lits (H:=H) k (zs.take len)).length + (lits (H:=H) k (zs.drop len)).length = zs.length:=by
   simp only [lits,List.length_map,List.length_take,List.length_drop]; omega
  rw [e1] at z
  exact Nat.le_trans (Nat.mul_le_mul_right _ (by omega)) z
end
theorem parseBoxes_walk (v0:Option Addr) (len0 cap0:Nat) (z0:List Int) (a1:Int) (a2:Bool) (W:World) (w0:IsRow .i64 W v0 len0 cap0 z0) (y0:len0 * 8 ≤ 140737488351232) (w1:(Lit.int .i64 a1).wf = true):Calls Try.prog 9 #[.slice v0 len0 cap0,.int .i64 a1,.bool a2] W fun e W'=>e = .returned (.bool true) ∧ RowKit.Below W.heap.size W W':=by
 obtain ⟨k,h⟩:=qE1 z0 a1 a2 (by intro n hn; have:=row_wf w0 n hn; simpa [Lit.wf,IntKind.min,IntKind.max,IntKind.signed,IntKind.bits] using this) (by rw [row_len w0]; omega)
 refine qHw (g9_ok k z0 a1 a2 true h) W (fzOf .i64 v0 z0 ++ []) (by simp only [VRs]; exact ⟨_,_,rfl,(by have e:=row_VR w0 (fzOf .i64 v0 z0 ++ []) (([]:List (Nat × List AV))).length (fun h=>fzOf_get ([]:List (Nat × List AV)) _ h); rw [← flat1 (AV.int .i64)] at e; exact e),⟨_,_,rfl,(by simp only [VR,AV.i,AV.y]),⟨_,_,rfl,(by simp only [VR,AV.i,AV.y]),rfl⟩⟩⟩) ?_
 intro p hp
 rcases List.mem_append.1 hp with hp | hp
 ·obtain ⟨hne,rfl⟩:=fzOf_mem hp
  exact row_froz w0 hne _
 ·cases hp
end Go.Proofs.Ythpplbkobokghaa.Am
namespace Go.Proofs.Ythpplbkobokghaa.parseBoxes
open Go.ChangeShapes Go.WideShapes Go.ChangeAt Go.RowKit
open Go.ChangeMaps (open_string shut_string)
set_option linter.unusedVariables false
theorem laidOut:laidOutB Try.prog = true:=by kernel_rfl
theorem own:ownKnob Try.prog.godebug = none:=by kernel_rfl
set_option maxRecDepth 100000 in
theorem lifted (os : Os) (started : os.Started) (H : Type) (enc : TypeId × Value → H) :
 ReturnsInHanded {} Try.checked os 9 .any (Rows.parseBoxesSpec.pre6 enc Try.prog Try.f9 Rows.parseBoxesRow.domain false) (Rows.parseBoxesSpec.post enc Try.prog Try.f9 false true false false):=by
 refine returnsInHanded_of_change_sized (C := Try.checked) own started (by kernel_rfl) Try.func9
  (ChangeSpec.witness6 (enc:=enc) (C:=Try.checked) false ⟨#[],#[.slice none 0 0,.int .i64 0,.bool false],[]⟩ 8 (by kernel_rfl) (by kernel_rfl) (by kernel_rfl) (by kernel_rfl)) ?_
 intro W base args ds gs before hval0 hW hcnd hsz0 _
 have hsz:(DataW.weightsEach Try.prog (Try.f9.params.toList ++ Rows.parseBoxesSpec.plain.varTypes Try.prog) (ds ++ gs)).all (· ≤ reachBytes) = true:=hsz0
 have hval:∀ (j:Nat) t v,Try.f9.params[j]? = some t → args[j]? = some v → Value.okWide Try.prog W .any base t v:=hval0
 have hW':=hW
 obtain ⟨p,q,hA0,hV,rfl,hfz,hnd⟩:=hW
 have hA:DataW.TrodAll enc Try.prog W 0 (fun _=>true) true Try.f9.params.toList args.toList ds p:=hA0
 rw [Try.params9] at hA hval hsz
 obtain ⟨v0,vs0,d0,ds0,p0,q0,hargs,rfl,rfl,h0,r0⟩:=trodAll_cons hA
 obtain ⟨v1,vs1,d1,ds1,p1,q1,rfl,rfl,rfl,h1,r1⟩:=trodAll_cons r0
 obtain ⟨v2,vs2,d2,ds2,p2,q2,rfl,rfl,rfl,h2,r2⟩:=trodAll_cons r1
 obtain ⟨rfl,rfl,rfl⟩:=trodAll_nil r2
 obtain rfl:args = #[v0,v1,v2]:=by cases args; simp_all
 obtain ⟨rfl,rfl⟩:=trodVars_none hV
 obtain ⟨v0a,len0,cap0,rfl⟩:=okWide_slice Try.underlying44 (hval 0 44 v0 rfl rfl)
 have k0:=h0
 have lt0:∀ x ∈ p0,x.block < W.heap.size:=by obtain ⟨m,hm⟩:=k0; exact DataW.trod_lt m _ _ _ hm
 obtain ⟨z0,w0⟩:=Am.row_open Try.underlying44 Try.underlying3 (by kernel_rfl) h0
 have y0:len0 * 8 ≤ 140737488351232:=Am.row_sized hsz (j:=0) (t:=44) rfl rfl Try.underlying44 Try.underlying3 (by kernel_rfl) (by kernel_rfl) h0
 obtain ⟨a1,rfl,rfl,rfl,w1⟩:=open_int Try.underlying3 (hval 1 3 v1 rfl rfl) h1
 obtain ⟨a2,rfl,rfl,rfl⟩:=open_bool Try.underlying4 (hval 2 4 v2 rfl rfl) h2
 clear hA0 hval0 hsz0 hsz
 refine (Am.parseBoxes_walk v0a len0 cap0 z0 a1 a2 W w0 y0 w1).mono fun e W' ⟨he,bel⟩=>?_
 subst he
 exact ⟨_,rfl,_,_,_,[],_,[],hW',trodAll_mk1 (shut_bool Try.underlying4 _),(trodAll_cons_mk (Below.trod laidOut (by kernel_rfl) (of_decide_eq_true (by kernel_rfl)) k0 bel lt0) (trodAll_cons_mk (shut_int Try.underlying3 w1) (trodAll_cons_mk (shut_bool Try.underlying4 _) trodAll_mk0))),rfl,bel.frame _,fun h=>by cases h⟩
theorem over:Rows.parseBoxesRow.holds Try.pinned (OpenSpec.ofChange Rows.parseBoxesSpec) :=
 OpenClaim.holds_of_wide 9 Try.f9 rfl rfl rfl rfl rfl rfl rfl ⟨rfl, rfl, rfl, rfl, rfl⟩ rfl rfl rfl rfl rfl (by kernel_rfl) Try.func9 (by kernel_rfl)
  (of_decide_eq_true (by kernel_rfl)) (by unfold Func.isWrapper; first | (rw [if_pos (by decide +kernel)]; kernel_rfl) | (rw [if_neg (by decide +kernel)]; exact ⟨rfl,rfl⟩))
  (fun os started H enc _=>lifted os started H enc)
theorem proved:Rows.ParseBoxesSaid:=over
#print axioms proved
end Go.Proofs.Ythpplbkobokghaa.parseBoxes
namespace Go.Proofs.Ythpplbkobokghaa
theorem parseBoxes_holds:Rows.ParseBoxesSaid:=parseBoxes.proved
end Go.Proofs.Ythpplbkobokghaa
