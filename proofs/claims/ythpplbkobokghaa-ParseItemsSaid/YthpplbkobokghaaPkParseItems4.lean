/- LawParseItems, part 4: whatever the input, the law comes out true: our texts, joined by a tool, without what the claim does not name. -/
import Derived.Test.YthpplbkobokghaaPkParseItems3
set_option maxRecDepth 100000
set_option linter.unusedVariables false
set_option linter.unusedSimpArgs false
set_option maxRecDepth 100000
set_option linter.unusedVariables false
namespace Go.Proofs.Ythpplbkobokghaa.Am
open Go
def Pi47 (f : Ti47) : Prop := ∀ (a0 : (List Nat)) (a1 : Int) (a2 : (List Nat)) (a3 : Raw) (a4 : Bool) (a5 : Bool) (a6 : (List (List Nat))) (a7 : (List (List Nat))) (a8 : Int) (a9 : (List Nat)) (a10 : Raw) (a11 : Bool) (a12 : Bool) (a13 : (List (List Nat))) (a14 : (List (List Nat))) (a15 : (List Nat)) (a16 : (List S33)) (a17 : Int) (a18 : Int), ∀ (x : (S28 × Int)), f a0 a1 a2 a3 a4 a5 a6 a7 a8 a9 a10 a11 a12 a13 a14 a15 a16 a17 a18 = some (some x) → CallT Try.prog 108 [.ptr 0 4 0, .str a0, .agg [.i a1, .str a2, q29 a3, .bool a4, .bool a5, w9 a6, w9 a7], .agg [.i a8, .str a9, q29 a10, .bool a11, .bool a12, w9 a13, w9 a14]] (mkH [⟨[.str a15, w34 a16, .i a17, .i a18], 4, false⟩]) none (n29 x.1) (mkH [⟨[.str a15, w34 a16, .i x.2, .i a18], 4, false⟩])
def Qi47 (f : Ti47) : Prop := ∀ (a0 : (List Nat)) (a1 : Int) (a2 : (List Nat)) (a3 : Raw) (a4 : Bool) (a5 : Bool) (a6 : (List (List Nat))) (a7 : (List (List Nat))) (a8 : Int) (a9 : (List Nat)) (a10 : Raw) (a11 : Bool) (a12 : Bool) (a13 : (List (List Nat))) (a14 : (List (List Nat))) (a15 : (List Nat)) (a16 : (List S33)) (a17 : Int) (a18 : Int) (_h : f a0 a1 a2 a3 a4 a5 a6 a7 a8 a9 a10 a11 a12 a13 a14 a15 a16 a17 a18 = some none), ∃ v, CallT Try.prog 108 [.ptr 0 4 0, .str a0, .agg [.i a1, .str a2, q29 a3, .bool a4, .bool a5, w9 a6, w9 a7], .agg [.i a8, .str a9, q29 a10, .bool a11, .bool a12, w9 a13, w9 a14]] (mkH [⟨[.str a15, w34 a16, .i a17, .i a18], 4, false⟩]) (some (thrown, [0])) v (mkH [⟨[.str a15, w34 a16, .i a17, .i a18], 4, false⟩])
abbrev Ti48 : Type := (List Nat) → (List Nat) → (List S33) → Int → Int → Option (Option (S28 × Int))
def Pi48 (f : Ti48) : Prop := ∀ (a0 : (List Nat)) (a1 : (List Nat)) (a2 : (List S33)) (a3 : Int) (a4 : Int), ∀ (x : (S28 × Int)), f a0 a1 a2 a3 a4 = some (some x) → CallT Try.prog 107 [.ptr 0 4 0, .str a0] (mkH [⟨[.str a1, w34 a2, .i a3, .i a4], 4, false⟩]) none (n29 x.1) (mkH [⟨[.str a1, w34 a2, .i x.2, .i a4], 4, false⟩])
def Qi48 (f : Ti48) : Prop := ∀ (a0 : (List Nat)) (a1 : (List Nat)) (a2 : (List S33)) (a3 : Int) (a4 : Int) (_h : f a0 a1 a2 a3 a4 = some none), ∃ v, CallT Try.prog 107 [.ptr 0 4 0, .str a0] (mkH [⟨[.str a1, w34 a2, .i a3, .i a4], 4, false⟩]) (some (thrown, [0])) v (mkH [⟨[.str a1, w34 a2, .i a3, .i a4], 4, false⟩])
abbrev Ti49 : Type := (List Nat) → (List S33) → Int → Int → Option (Option (S28 × Int))
def Pi49 (f : Ti49) : Prop := ∀ (a0 : (List Nat)) (a1 : (List S33)) (a2 : Int) (a3 : Int), ∀ (x : (S28 × Int)), f a0 a1 a2 a3 = some (some x) → CallT Try.prog 109 [.ptr 0 4 0] (mkH [⟨[.str a0, w34 a1, .i a2, .i a3], 4, false⟩]) none (n29 x.1) (mkH [⟨[.str a0, w34 a1, .i x.2, .i a3], 4, false⟩])
def Qi49 (f : Ti49) : Prop := ∀ (a0 : (List Nat)) (a1 : (List S33)) (a2 : Int) (a3 : Int) (_h : f a0 a1 a2 a3 = some none), ∃ v, CallT Try.prog 109 [.ptr 0 4 0] (mkH [⟨[.str a0, w34 a1, .i a2, .i a3], 4, false⟩]) (some (thrown, [0])) v (mkH [⟨[.str a0, w34 a1, .i a2, .i a3], 4, false⟩])
abbrev Ti50 : Type := (List Nat) → (List S33) → Int → Int → Option (Option (S28 × Int))
def Pi50 (f : Ti50) : Prop := ∀ (a0 : (List Nat)) (a1 : (List S33)) (a2 : Int) (a3 : Int), ∀ (x : (S28 × Int)), f a0 a1 a2 a3 = some (some x) → CallT Try.prog 110 [.ptr 0 4 0] (mkH [⟨[.str a0, w34 a1, .i a2, .i a3], 4, false⟩]) none (n29 x.1) (mkH [⟨[.str a0, w34 a1, .i x.2, .i a3], 4, false⟩])
def Qi50 (f : Ti50) : Prop := ∀ (a0 : (List Nat)) (a1 : (List S33)) (a2 : Int) (a3 : Int) (_h : f a0 a1 a2 a3 = some none), ∃ v, CallT Try.prog 110 [.ptr 0 4 0] (mkH [⟨[.str a0, w34 a1, .i a2, .i a3], 4, false⟩]) (some (thrown, [0])) v (mkH [⟨[.str a0, w34 a1, .i a2, .i a3], 4, false⟩])
abbrev Ti51 : Type := (List Nat) → (List S33) → Int → Int → Option (Option (S28 × Int))
def Pi51 (f : Ti51) : Prop := ∀ (a0 : (List Nat)) (a1 : (List S33)) (a2 : Int) (a3 : Int), ∀ (x : (S28 × Int)), f a0 a1 a2 a3 = some (some x) → CallT Try.prog 112 [.ptr 0 4 0] (mkH [⟨[.str a0, w34 a1, .i a2, .i a3], 4, false⟩]) none (n29 x.1) (mkH [⟨[.str a0, w34 a1, .i x.2, .i a3], 4, false⟩])
def Qi51 (f : Ti51) : Prop := ∀ (a0 : (List Nat)) (a1 : (List S33)) (a2 : Int) (a3 : Int) (_h : f a0 a1 a2 a3 = some none), ∃ v, CallT Try.prog 112 [.ptr 0 4 0] (mkH [⟨[.str a0, w34 a1, .i a2, .i a3], 4, false⟩]) (some (thrown, [0])) v (mkH [⟨[.str a0, w34 a1, .i a2, .i a3], 4, false⟩])
abbrev Ti52 : Type := (List Nat) → (List S33) → Int → Int → Option (Option (S28 × Int))
def Pi52 (f : Ti52) : Prop := ∀ (a0 : (List Nat)) (a1 : (List S33)) (a2 : Int) (a3 : Int), ∀ (x : (S28 × Int)), f a0 a1 a2 a3 = some (some x) → CallT Try.prog 113 [.ptr 0 4 0] (mkH [⟨[.str a0, w34 a1, .i a2, .i a3], 4, false⟩]) none (n29 x.1) (mkH [⟨[.str a0, w34 a1, .i x.2, .i a3], 4, false⟩])
def Qi52 (f : Ti52) : Prop := ∀ (a0 : (List Nat)) (a1 : (List S33)) (a2 : Int) (a3 : Int) (_h : f a0 a1 a2 a3 = some none), ∃ v, CallT Try.prog 113 [.ptr 0 4 0] (mkH [⟨[.str a0, w34 a1, .i a2, .i a3], 4, false⟩]) (some (thrown, [0])) v (mkH [⟨[.str a0, w34 a1, .i a2, .i a3], 4, false⟩])
structure Fns0 where
 i5 : Ti5
 i6 : Ti6
 i8 : Ti8
 i13 : Ti13
 i14 : Ti14
 i17 : Ti17
 i18 : Ti18
 i19 : Ti19
 i20 : Ti20
 i21 : Ti21
 i24 : Ti24
 i25 : Ti25
 i26 : Ti26
 i29 : Ti29
 i30 : Ti30
 i31 : Ti31
 i32 : Ti32
 i34 : Ti34
 i36 : Ti36
 i37 : Ti37
 i38 : Ti38
 i40 : Ti40
 i41 : Ti41
 i42 : Ti42
 i43 : Ti43
 i44 : Ti44
 i45 : Ti45
 i46 : Ti46
 i47 : Ti47
 i48 : Ti48
 i49 : Ti49
 i50 : Ti50
 i51 : Ti51
 i52 : Ti52
structure FnsOk0 (F : Fns0) : Prop where
 i5_ok : Pi5 (F.i5)
 i5_thr : Qi5 (F.i5)
 i6_ok : Pi6 (F.i6)
 i6_thr : Qi6 (F.i6)
 i8_ok : Pi8 (F.i8)
 i8_thr : Qi8 (F.i8)
 i13_ok : Pi13 (F.i13)
 i13_thr : Qi13 (F.i13)
 i14_ok : Pi14 (F.i14)
 i14_thr : Qi14 (F.i14)
 i17_ok : Pi17 (F.i17)
 i17_thr : Qi17 (F.i17)
 i18_ok : Pi18 (F.i18)
 i18_thr : Qi18 (F.i18)
 i19_ok : Pi19 (F.i19)
 i19_thr : Qi19 (F.i19)
 i20_ok : Pi20 (F.i20)
 i20_thr : Qi20 (F.i20)
 i21_ok : Pi21 (F.i21)
 i21_thr : Qi21 (F.i21)
 i24_ok : Pi24 (F.i24)
 i24_thr : Qi24 (F.i24)
 i25_ok : Pi25 (F.i25)
 i25_thr : Qi25 (F.i25)
 i26_ok : Pi26 (F.i26)
 i26_thr : Qi26 (F.i26)
 i29_ok : Pi29 (F.i29)
 i29_thr : Qi29 (F.i29)
 i30_ok : Pi30 (F.i30)
 i30_thr : Qi30 (F.i30)
 i31_ok : Pi31 (F.i31)
 i31_thr : Qi31 (F.i31)
 i32_ok : Pi32 (F.i32)
 i32_thr : Qi32 (F.i32)
 i34_ok : Pi34 (F.i34)
 i34_thr : Qi34 (F.i34)
 i36_ok : Pi36 (F.i36)
 i36_thr : Qi36 (F.i36)
 i37_ok : Pi37 (F.i37)
 i37_thr : Qi37 (F.i37)
 i38_ok : Pi38 (F.i38)
 i38_thr : Qi38 (F.i38)
 i40_ok : Pi40 (F.i40)
 i40_thr : Qi40 (F.i40)
 i41_ok : Pi41 (F.i41)
 i41_thr : Qi41 (F.i41)
 i42_ok : Pi42 (F.i42)
 i42_thr : Qi42 (F.i42)
 i43_ok : Pi43 (F.i43)
 i43_thr : Qi43 (F.i43)
 i44_ok : Pi44 (F.i44)
 i44_thr : Qi44 (F.i44)
 i45_ok : Pi45 (F.i45)
 i45_thr : Qi45 (F.i45)
 i46_ok : Pi46 (F.i46)
 i46_thr : Qi46 (F.i46)
 i47_ok : Pi47 (F.i47)
 i47_thr : Qi47 (F.i47)
 i48_ok : Pi48 (F.i48)
 i48_thr : Qi48 (F.i48)
 i49_ok : Pi49 (F.i49)
 i49_thr : Qi49 (F.i49)
 i50_ok : Pi50 (F.i50)
 i50_thr : Qi50 (F.i50)
 i51_ok : Pi51 (F.i51)
 i51_thr : Qi51 (F.i51)
 i52_ok : Pi52 (F.i52)
 i52_thr : Qi52 (F.i52)
end Go.Proofs.Ythpplbkobokghaa.Am
set_option maxRecDepth 100000
set_option linter.unusedVariables false
namespace Go.Proofs.Ythpplbkobokghaa.Am
noncomputable section
open Go
def Xi13 (a0 : (List Nat)) (a1 : (List S33)) (a2 : Int) (a3 : Int) : Fx (Option Ri13) := ⟨Try.prog, cx, Try.f66, fun r => match r with | some r => .tuple [.agg [.i r.1.f0, .str r.1.f1, q29 r.1.f2, .bool r.1.f3, .bool r.1.f4, w9 r.1.f5, w9 r.1.f6], .bool r.2.1] | none => .top, 1, fun r => match r with | some r => (mkH [⟨[.str a0, w34 a1, .i r.2.2, .i a3], 4, false⟩]) | none => (mkH [⟨[.str a0, w34 a1, .i a2, .i a3], 4, false⟩]), cxTi, cxOrd, fun r => match r with | some _ => none | none => some (thrown, [0]), false⟩
def i13p0 : Pt := nav [0] (bodyAt Try.f66)
def i13p1 : Pt := nav [0, 0, 0, 0] i13p0
def i13p2 : Pt := nav [0, 0, 0] i13p1
def i13p3 : Pt := nav [0, 0] i13p2
def i13p4 : Pt := nav [1, 0] i13p3
def i13p5 : Pt := nav [2, 0, 0, 0, 0] i13p3
def i13p6 : Pt := nav [0, 0, 0] i13p4
def i13p7 : Pt := nav [0, 0] i13p5
def i13p9 : Pt := nav [1, 0] i13p7
def i13p10 : Pt := nav [2, 0] i13p7
def i13p11 : Pt := nav [0, 0] i13p10
def i13p12 : Pt := nav [1, 0] i13p11
def i13p13 : Pt := nav [2, 0] i13p11
def i13p14 : Pt := nav [0, 0] i13p13
def i13p15 : Pt := nav [1, 0] i13p14
def i13p16 : Pt := nav [2, 0] i13p14
def i13p17 : Pt := nav [0, 0] i13p16
def i13p18 : Pt := nav [1, 0] i13p17
def i13p19 : Pt := nav [2, 0] i13p17
def i13p20 : Pt := nav [0, 0] i13p19
def i13p21 : Pt := nav [1, 0, 0] i13p20
def i13p22 : Pt := nav [2, 0, 0] i13p20
def i13p23 : Pt := nav [0, 0] i13p21
def i13p24 : Pt := nav [1, 0] i13p23
def i13p25 : Pt := nav [2, 0, 0] i13p23
def i13p26 : Pt := nav [0, 0, 0] i13p25
def i13p27 : Pt := nav [0, 0, 0] i13p26
def i13B (k : Nat) (F : Fns0) (a0 : (List Nat)) (a1 : (List S33)) (a2 : Int) (a3 : Int) : Option (Option Ri13) :=
 (i9 k a0 a1 a2 a3).bind fun x0_1 => (g75 k x0_1.f0).bind fun x1_2 => if x1_2 then (bT (i11 k a0 a1 a2 a3) fun x2_1 => some (some ((⟨(1 : Int), x0_1.f1, ⟨0, []⟩, false, false, ([] : List (List Nat)), ([] : List (List Nat))⟩ : S28), false, x2_1))) else (bT (i7 k ([40] : List Nat) a0 a1 a2 a3) fun x3_1 => if x3_1.1 then (bT (F.i17 a0 a1 x3_1.2 a3) fun x4_1 => some (some ((⟨x4_1.1.f0, x4_1.1.f1, x4_1.1.f2, x4_1.1.f3, x4_1.1.f4, x4_1.1.f5, x4_1.1.f6⟩ : S28), true, x4_1.2))) else (bT (i7 k ([123] : List Nat) a0 a1 x3_1.2 a3) fun x5_1 => if x5_1.1 then (bT (F.i18 (4 : Int) ([] : List Nat) false false ([] : List (List Nat)) ([] : List (List Nat)) ([125] : List Nat) a0 a1 x5_1.2 a3 ([] : List S28)) fun x6_4 => some (some ((⟨x6_4.1, x6_4.2.1, ⟨(x6_4.2.2.2.2.2.2.2).length, (x6_4.2.2.2.2.2.2.2).flatMap e29⟩, x6_4.2.2.1, x6_4.2.2.2.1, x6_4.2.2.2.2.1, x6_4.2.2.2.2.2.1⟩ : S28), false, x6_4.2.2.2.2.2.2.1))) else (bT (i7 k ([91] : List Nat) a0 a1 x5_1.2 a3) fun x7_1 => if x7_1.1 then (bT (F.i19 a0 a1 x7_1.2 a3) fun x8_1 => some (some ((⟨x8_1.1.f0, x8_1.1.f1, x8_1.1.f2, x8_1.1.f3, x8_1.1.f4, x8_1.1.f5, x8_1.1.f6⟩ : S28), false, x8_1.2))) else (bT (i7 k ([60, 60] : List Nat) a0 a1 x7_1.2 a3) fun x9_1 => if x9_1.1 then (bT (F.i20 (6 : Int) ([] : List Nat) false false ([] : List (List Nat)) ([] : List (List Nat)) ([62, 62] : List Nat) a0 a1 x9_1.2 a3 ([] : List S28)) fun x10_4 => some (some ((⟨x10_4.1, x10_4.2.1, ⟨(x10_4.2.2.2.2.2.2.2).length, (x10_4.2.2.2.2.2.2.2).flatMap e29⟩, x10_4.2.2.1, x10_4.2.2.2.1, x10_4.2.2.2.2.1, x10_4.2.2.2.2.2.1⟩ : S28), false, x10_4.2.2.2.2.2.2.1))) else (bT (i7 k ([35] : List Nat) a0 a1 x9_1.2 a3) fun x11_1 => if x11_1.1 then (bT (i7 k ([123] : List Nat) a0 a1 x11_1.2 a3) fun x12_1 => if x12_1.1 then (bT (F.i21 (8 : Int) ([] : List Nat) false false ([] : List (List Nat)) ([] : List (List Nat)) ([125] : List Nat) a0 a1 x12_1.2 a3 ([] : List S28)) fun x13_4 => some (some ((⟨x13_4.1, x13_4.2.1, ⟨(x13_4.2.2.2.2.2.2.2).length, (x13_4.2.2.2.2.2.2.2).flatMap e29⟩, x13_4.2.2.1, x13_4.2.2.2.1, x13_4.2.2.2.2.1, x13_4.2.2.2.2.2.1⟩ : S28), false, x13_4.2.2.2.2.2.2.1))) else (bT (i22 k a0 a1 x12_1.2 a3) fun x14_1 => bT (i23 k ([123] : List Nat) a0 a1 x14_1.2 a3) fun x15_1 => bT (F.i18 (10 : Int) x14_1.1 false false ([] : List (List Nat)) ([] : List (List Nat)) ([125] : List Nat) a0 a1 x15_1 a3 ([] : List S28)) fun x16_5 => some (some ((⟨x16_5.1, x16_5.2.1, ⟨(x16_5.2.2.2.2.2.2.2).length, (x16_5.2.2.2.2.2.2.2).flatMap e29⟩, x16_5.2.2.1, x16_5.2.2.2.1, x16_5.2.2.2.2.1, x16_5.2.2.2.2.2.1⟩ : S28), false, x16_5.2.2.2.2.2.2.1)))) else (bT (F.i24 a0 a1 x11_1.2 a3) fun x17_1 => some (some ((⟨x17_1.1.f0, x17_1.1.f1, x17_1.1.f2, x17_1.1.f3, x17_1.1.f4, x17_1.1.f5, x17_1.1.f6⟩ : S28), false, x17_1.2))))))))
theorem qJl (k : Nat) (F : Fns0) (hF : FnsOk0 F) (a0 : (List Nat)) (a1 : (List S33)) (a2 : Int) (a3 : Int) (r : (Option Ri13)) (h : i13B k F a0 a1 a2 a3 = some r) : CallT Try.prog 66 [.ptr 0 4 0] (mkH [⟨[.str a0, w34 a1, .i a2, .i a3], 4, false⟩]) ((Xi13 a0 a1 a2 a3).thr r) ((Xi13 a0 a1 a2 a3).enc r) ((Xi13 a0 a1 a2 a3).fin r) := by
 refine qA2 (Xi13 a0 a1 a2 a3) Try.func66 (by kernel_rfl) (by kernel_rfl) rfl (t := i13B k F a0 a1 a2 a3) ?_ h
 unfold i13B
 refine qA0 (eE := [(0, .ptr 0 4 0)]) (by kernel_rfl) ?_
 let Q1 : Blk := ⟨[.str a0, w34 a1, .i a2, .i a3], 4, false⟩
 let Q2 : Blk := ⟨[.i 0, .str [], .nils, .bool false, .bool false, .nils, .nils], 0, false⟩
 refine oH 9 (atN 1 (ctl1 i13p1)) [(6, .ptr 0 4 0), (3, .bool false), (2, .ptr 1 7 0), (0, .ptr 0 4 0)] (mkH [Q1, Q2]) ?_
 refine oN (fun (x0_1 : S33) => n34 x0_1) (fun x0_1 => [Q1, Q2]) (atN 2 (ctl1 i13p1)) 7 [0] [] [] [.ptr 0 4 0] (qKh k a0 a1 a2 a3) trivial (fun _ => trivial) fun x0_1 hx0_1 => ?_
 let E1 : Env := [(9, .i x0_1.f0), (8, .ptr 2 3 0), (4, .ptr 2 3 0), (7, n34 x0_1), (6, .ptr 0 4 0), (3, .bool false), (2, .ptr 1 7 0), (0, .ptr 0 4 0)]
 refine oH 7 (atN 2 (ctl1 i13p2)) E1 (mkH [Q1, Q2, ⟨e34 x0_1, 3, false⟩]) ?_
 refine oA (fun (x1_2 : Bool) => .bool x1_2) (atN 3 (ctl1 i13p2)) 10 [.i x0_1.f0] (g75_ok k x0_1.f0) fun x1_2 hx1_2 => ?_
 refine oR 1 i13p3 ((10, .bool x1_2) :: E1) ?_
 refine oS 10 (fun hb => ?_) (fun hb => ?_)
 ·refine oR 4 (atN 1 (ctl1 i13p4)) ((11, .ptr 0 4 0) :: (10, .bool true) :: (10, .bool x1_2) :: E1) ?_
  refine oX (fun (x2_1 : Int) => .tuple []) (fun x2_1 => [⟨[.str a0, w34 a1, .i x2_1, .i a3], 4, false⟩, Q2, ⟨e34 x0_1, 3, false⟩]) (atN 2 (ctl1 i13p4)) 12 [0] [] [] [] [] [.ptr 0 4 0] (qD6 k a0 a1 a2 a3) (qEo k a0 a1 a2 a3) trivial (fun _ => trivial) trivial fun x2_1 hx2_1 => ?_
  refine oL 2 i13p6 [(2, .ptr 1 7 0), (4, .ptr 2 3 0)] ?_
  exact oQF 8 [⟨[.str a0, w34 a1, .i x2_1, .i a3], 4, false⟩, ⟨[.i 1, .str x0_1.f1, .nils, .bool false, .bool false, .nils, .nils], 7, false⟩, ⟨e34 x0_1, 3, false⟩] 1 [] [.agg [.i 1, .str x0_1.f1, .nils, .bool false, .bool false, .nils, .nils], .bool false] (.tuple [.agg [.i 1, .str x0_1.f1, .vec 0 7 [], .bool false, .bool false, .vec 0 1 [], .vec 0 1 []], .bool false]) (.tuple (.agg (.cs (.cs (.nil (.cs (.cs (.nil (.nil .ps))))))) .ps) .ps) trivial
 ·refine oR 7 (atN 1 (ctl1 i13p5)) ((17, .ptr 0 4 0) :: (10, .bool false) :: (10, .bool x1_2) :: E1) ?_
  refine oX (fun (x3_1 : (Bool × Int)) => .bool x3_1.1) (fun x3_1 => [⟨[.str a0, w34 a1, .i x3_1.2, .i a3], 4, false⟩, Q2, ⟨e34 x0_1, 3, false⟩]) (atN 2 (ctl1 i13p5)) 18 [0] [] [] [] [] [.ptr 0 4 0, .str [40]] (qAb k ([40] : List Nat) a0 a1 a2 a3) (qAi k ([40] : List Nat) a0 a1 a2 a3) trivial (fun _ => trivial) trivial fun x3_1 hx3_1 => ?_
  let E4 : Env := [(0, .ptr 0 4 0), (2, .ptr 1 7 0), (16, .bool x3_1.1)]
  refine oL 2 i13p7 E4 ?_
  refine oS 16 (fun hb => ?_) (fun hb => ?_)
  ·refine oR 4 (atN 1 (ctl1 i13p9)) ((19, .ptr 0 4 0) :: (16, .bool true) :: E4) ?_
   refine oX (fun (x4_1 : (S28 × Int)) => n29 x4_1.1) (fun x4_1 => [⟨[.str a0, w34 a1, .i x4_1.2, .i a3], 4, false⟩, Q2, ⟨e34 x0_1, 3, false⟩]) (atN 2 (ctl1 i13p9)) 20 [0] [] [] [0] [] [.ptr 0 4 0] (hF.i17_thr a0 a1 x3_1.2 a3) (hF.i17_ok a0 a1 x3_1.2 a3) trivial (fun _ => trivial) trivial fun x4_1 hx4_1 => ?_
   exact oQF 4 [⟨[.str a0, w34 a1, .i x4_1.2, .i a3], 4, false⟩, ⟨e29 x4_1.1, 7, false⟩, ⟨e34 x0_1, 3, false⟩] 1 [] [n29 x4_1.1, .bool true] (.tuple [n29 x4_1.1, .bool true]) .ps trivial
  ·refine oR 4 (atN 1 (ctl1 i13p10)) ((22, .ptr 0 4 0) :: (16, .bool false) :: E4) ?_
   refine oX (fun (x5_1 : (Bool × Int)) => .bool x5_1.1) (fun x5_1 => [⟨[.str a0, w34 a1, .i x5_1.2, .i a3], 4, false⟩, Q2, ⟨e34 x0_1, 3, false⟩]) (atN 2 (ctl1 i13p10)) 23 [0] [] [] [] [] [.ptr 0 4 0, .str [123]] (qAb k ([123] : List Nat) a0 a1 x3_1.2 a3) (qAi k ([123] : List Nat) a0 a1 x3_1.2 a3) trivial (fun _ => trivial) trivial fun x5_1 hx5_1 => ?_
   refine oR 2 i13p11 ((21, .bool x5_1.1) :: (23, .bool x5_1.1) :: (22, .ptr 0 4 0) :: (16, .bool false) :: E4) ?_
   refine oS 21 (fun hb => ?_) (fun hb => ?_)
   ·refine oR 7 (atN 4 (ctl1 i13p12)) ((27, .func 78 [.ptr 0 4 0] []) :: (26, .ptr 0 4 0) :: (25, .agg [.i 4, .str [], .nils, .bool false, .bool false, .nils, .nils]) :: (24, .ptr 0 4 0) :: (21, .bool true) :: (21, .bool x5_1.1) :: (23, .bool x5_1.1) :: (22, .ptr 0 4 0) :: (16, .bool false) :: E4) ?_
    refine oXW 1 [⟨[.str a0, w34 a1, .i x5_1.2, .i a3], 4, false⟩, Q2, ⟨e34 x0_1, 3, false⟩, ⟨(([] : List S28)).flatMap e29, 0, false⟩] (fun (x6_4 : Ri18) => .agg [.i x6_4.1, .str x6_4.2.1, .own 3 (x6_4.2.2.2.2.2.2.2).length 7, .bool x6_4.2.2.1, .bool x6_4.2.2.2.1, w9 x6_4.2.2.2.2.1, w9 x6_4.2.2.2.2.2.1]) (fun x6_4 => [⟨[.str a0, w34 a1, .i x6_4.2.2.2.2.2.2.1, .i a3], 4, false⟩, Q2, ⟨e34 x0_1, 3, false⟩, ⟨(x6_4.2.2.2.2.2.2.2).flatMap e29, 0, false⟩]) (atN 5 (ctl1 i13p12)) 28 [0, 3] [0, 1] [0, 1] [0, 3] [] [0, 0, 0, 1] [.ptr 0 4 0, .agg [.i 4, .str [], .nils, .bool false, .bool false, .nils, .nils], .str [125], .func 78 [.ptr 0 4 0] []] [.ptr 0 4 0, .agg [.i 4, .str [], .own 3 (([] : List S28)).length 7, .bool false, .bool false, w9 ([] : List (List Nat)), w9 ([] : List (List Nat))], .str [125], .func 78 [.ptr 0 4 0] []] (.cons (.agg (.cons (.cons (.none (.cons (.cons (.nil (.nil (.refl)))))))) (.refl))) (hF.i18_thr (4 : Int) ([] : List Nat) false false ([] : List (List Nat)) ([] : List (List Nat)) ([125] : List Nat) a0 a1 x5_1.2 a3 ([] : List S28)) (hF.i18_ok (4 : Int) ([] : List Nat) false false ([] : List (List Nat)) ([] : List (List Nat)) ([125] : List Nat) a0 a1 x5_1.2 a3 ([] : List S28)) ⟨u29 _, trivial⟩ (fun _ => ⟨u29 _, trivial⟩) trivial fun x6_4 hx6_4 => ?_
    exact oQF 4 [⟨[.str a0, w34 a1, .i x6_4.2.2.2.2.2.2.1, .i a3], 4, false⟩, ⟨[.i x6_4.1, .str x6_4.2.1, .own 3 (x6_4.2.2.2.2.2.2.2).length 7, .bool x6_4.2.2.1, .bool x6_4.2.2.2.1, w9 x6_4.2.2.2.2.1, w9 x6_4.2.2.2.2.2.1], 7, false⟩, ⟨e34 x0_1, 3, false⟩, ⟨(x6_4.2.2.2.2.2.2.2).flatMap e29, 0, false⟩] 1 [] [.agg [.i x6_4.1, .str x6_4.2.1, .own 3 (x6_4.2.2.2.2.2.2.2).length 7, .bool x6_4.2.2.1, .bool x6_4.2.2.2.1, w9 x6_4.2.2.2.2.1, w9 x6_4.2.2.2.2.2.1], .bool false] (.tuple [.agg [.i x6_4.1, .str x6_4.2.1, w29 x6_4.2.2.2.2.2.2.2, .bool x6_4.2.2.1, .bool x6_4.2.2.2.1, w9 x6_4.2.2.2.2.1, w9 x6_4.2.2.2.2.2.1], .bool false]) (.tuple (.agg (.cs (.cs (qAs qA7 qAg rfl rfl rfl .ps))) .ps) .ps) trivial
   ·refine oR 4 (atN 1 (ctl1 i13p13)) ((30, .ptr 0 4 0) :: (21, .bool false) :: (21, .bool x5_1.1) :: (23, .bool x5_1.1) :: (22, .ptr 0 4 0) :: (16, .bool false) :: E4) ?_
    refine oX (fun (x7_1 : (Bool × Int)) => .bool x7_1.1) (fun x7_1 => [⟨[.str a0, w34 a1, .i x7_1.2, .i a3], 4, false⟩, Q2, ⟨e34 x0_1, 3, false⟩]) (atN 2 (ctl1 i13p13)) 31 [0] [] [] [] [] [.ptr 0 4 0, .str [91]] (qAb k ([91] : List Nat) a0 a1 x5_1.2 a3) (qAi k ([91] : List Nat) a0 a1 x5_1.2 a3) trivial (fun _ => trivial) trivial fun x7_1 hx7_1 => ?_
    refine oL 2 i13p14 [(0, .ptr 0 4 0), (2, .ptr 1 7 0), (29, .bool x7_1.1)] ?_
    let E7 : Env := [(0, .ptr 0 4 0), (2, .ptr 1 7 0), (29, .bool x7_1.1)]
    refine oS 29 (fun hb => ?_) (fun hb => ?_)
    ·refine oR 4 (atN 1 (ctl1 i13p15)) ((32, .ptr 0 4 0) :: (29, .bool true) :: E7) ?_
     refine oX (fun (x8_1 : (S28 × Int)) => n29 x8_1.1) (fun x8_1 => [⟨[.str a0, w34 a1, .i x8_1.2, .i a3], 4, false⟩, Q2, ⟨e34 x0_1, 3, false⟩]) (atN 2 (ctl1 i13p15)) 33 [0] [] [] [0] [] [.ptr 0 4 0] (hF.i19_thr a0 a1 x7_1.2 a3) (hF.i19_ok a0 a1 x7_1.2 a3) trivial (fun _ => trivial) trivial fun x8_1 hx8_1 => ?_
     exact oQF 4 [⟨[.str a0, w34 a1, .i x8_1.2, .i a3], 4, false⟩, ⟨e29 x8_1.1, 7, false⟩, ⟨e34 x0_1, 3, false⟩] 1 [] [n29 x8_1.1, .bool false] (.tuple [n29 x8_1.1, .bool false]) .ps trivial
    ·refine oR 4 (atN 1 (ctl1 i13p16)) ((35, .ptr 0 4 0) :: (29, .bool false) :: E7) ?_
     refine oX (fun (x9_1 : (Bool × Int)) => .bool x9_1.1) (fun x9_1 => [⟨[.str a0, w34 a1, .i x9_1.2, .i a3], 4, false⟩, Q2, ⟨e34 x0_1, 3, false⟩]) (atN 2 (ctl1 i13p16)) 36 [0] [] [] [] [] [.ptr 0 4 0, .str [60, 60]] (qAb k ([60, 60] : List Nat) a0 a1 x7_1.2 a3) (qAi k ([60, 60] : List Nat) a0 a1 x7_1.2 a3) trivial (fun _ => trivial) trivial fun x9_1 hx9_1 => ?_
     refine oR 2 i13p17 ((34, .bool x9_1.1) :: (36, .bool x9_1.1) :: (35, .ptr 0 4 0) :: (29, .bool false) :: E7) ?_
     refine oS 34 (fun hb => ?_) (fun hb => ?_)
     ·refine oR 7 (atN 4 (ctl1 i13p18)) ((40, .func 80 [.ptr 0 4 0] []) :: (39, .ptr 0 4 0) :: (38, .agg [.i 6, .str [], .nils, .bool false, .bool false, .nils, .nils]) :: (37, .ptr 0 4 0) :: (34, .bool true) :: (34, .bool x9_1.1) :: (36, .bool x9_1.1) :: (35, .ptr 0 4 0) :: (29, .bool false) :: E7) ?_
      refine oXW 1 [⟨[.str a0, w34 a1, .i x9_1.2, .i a3], 4, false⟩, Q2, ⟨e34 x0_1, 3, false⟩, ⟨(([] : List S28)).flatMap e29, 0, false⟩] (fun (x10_4 : Ri20) => .agg [.i x10_4.1, .str x10_4.2.1, .own 3 (x10_4.2.2.2.2.2.2.2).length 7, .bool x10_4.2.2.1, .bool x10_4.2.2.2.1, w9 x10_4.2.2.2.2.1, w9 x10_4.2.2.2.2.2.1]) (fun x10_4 => [⟨[.str a0, w34 a1, .i x10_4.2.2.2.2.2.2.1, .i a3], 4, false⟩, Q2, ⟨e34 x0_1, 3, false⟩, ⟨(x10_4.2.2.2.2.2.2.2).flatMap e29, 0, false⟩]) (atN 5 (ctl1 i13p18)) 41 [0, 3] [0, 1] [0, 1] [0, 3] [] [0, 0, 0, 1] [.ptr 0 4 0, .agg [.i 6, .str [], .nils, .bool false, .bool false, .nils, .nils], .str [62, 62], .func 80 [.ptr 0 4 0] []] [.ptr 0 4 0, .agg [.i 6, .str [], .own 3 (([] : List S28)).length 7, .bool false, .bool false, w9 ([] : List (List Nat)), w9 ([] : List (List Nat))], .str [62, 62], .func 80 [.ptr 0 4 0] []] (.cons (.agg (.cons (.cons (.none (.cons (.cons (.nil (.nil (.refl)))))))) (.refl))) (hF.i20_thr (6 : Int) ([] : List Nat) false false ([] : List (List Nat)) ([] : List (List Nat)) ([62, 62] : List Nat) a0 a1 x9_1.2 a3 ([] : List S28)) (hF.i20_ok (6 : Int) ([] : List Nat) false false ([] : List (List Nat)) ([] : List (List Nat)) ([62, 62] : List Nat) a0 a1 x9_1.2 a3 ([] : List S28)) ⟨u29 _, trivial⟩ (fun _ => ⟨u29 _, trivial⟩) trivial fun x10_4 hx10_4 => ?_
      exact oQF 4 [⟨[.str a0, w34 a1, .i x10_4.2.2.2.2.2.2.1, .i a3], 4, false⟩, ⟨[.i x10_4.1, .str x10_4.2.1, .own 3 (x10_4.2.2.2.2.2.2.2).length 7, .bool x10_4.2.2.1, .bool x10_4.2.2.2.1, w9 x10_4.2.2.2.2.1, w9 x10_4.2.2.2.2.2.1], 7, false⟩, ⟨e34 x0_1, 3, false⟩, ⟨(x10_4.2.2.2.2.2.2.2).flatMap e29, 0, false⟩] 1 [] [.agg [.i x10_4.1, .str x10_4.2.1, .own 3 (x10_4.2.2.2.2.2.2.2).length 7, .bool x10_4.2.2.1, .bool x10_4.2.2.2.1, w9 x10_4.2.2.2.2.1, w9 x10_4.2.2.2.2.2.1], .bool false] (.tuple [.agg [.i x10_4.1, .str x10_4.2.1, w29 x10_4.2.2.2.2.2.2.2, .bool x10_4.2.2.1, .bool x10_4.2.2.2.1, w9 x10_4.2.2.2.2.1, w9 x10_4.2.2.2.2.2.1], .bool false]) (.tuple (.agg (.cs (.cs (qAs qA7 qAg rfl rfl rfl .ps))) .ps) .ps) trivial
     ·refine oR 4 (atN 1 (ctl1 i13p19)) ((43, .ptr 0 4 0) :: (34, .bool false) :: (34, .bool x9_1.1) :: (36, .bool x9_1.1) :: (35, .ptr 0 4 0) :: (29, .bool false) :: E7) ?_
      refine oX (fun (x11_1 : (Bool × Int)) => .bool x11_1.1) (fun x11_1 => [⟨[.str a0, w34 a1, .i x11_1.2, .i a3], 4, false⟩, Q2, ⟨e34 x0_1, 3, false⟩]) (atN 2 (ctl1 i13p19)) 44 [0] [] [] [] [] [.ptr 0 4 0, .str [35]] (qAb k ([35] : List Nat) a0 a1 x9_1.2 a3) (qAi k ([35] : List Nat) a0 a1 x9_1.2 a3) trivial (fun _ => trivial) trivial fun x11_1 hx11_1 => ?_
      refine oL 2 i13p20 [(0, .ptr 0 4 0), (2, .ptr 1 7 0), (42, .bool x11_1.1)] ?_
      let E10 : Env := [(0, .ptr 0 4 0), (2, .ptr 1 7 0), (42, .bool x11_1.1)]
      refine oS 42 (fun hb => ?_) (fun hb => ?_)
      ·refine oR 5 (atN 1 (ctl1 i13p21)) ((45, .ptr 0 4 0) :: (42, .bool true) :: E10) ?_
       refine oX (fun (x12_1 : (Bool × Int)) => .bool x12_1.1) (fun x12_1 => [⟨[.str a0, w34 a1, .i x12_1.2, .i a3], 4, false⟩, Q2, ⟨e34 x0_1, 3, false⟩]) (atN 2 (ctl1 i13p21)) 46 [0] [] [] [] [] [.ptr 0 4 0, .str [123]] (qAb k ([123] : List Nat) a0 a1 x11_1.2 a3) (qAi k ([123] : List Nat) a0 a1 x11_1.2 a3) trivial (fun _ => trivial) trivial fun x12_1 hx12_1 => ?_
       refine oR 1 i13p23 ((46, .bool x12_1.1) :: (45, .ptr 0 4 0) :: (42, .bool true) :: E10) ?_
       refine oS 46 (fun hb => ?_) (fun hb => ?_)
       ·refine oR 7 (atN 4 (ctl1 i13p24)) ((50, .func 81 [.ptr 0 4 0] []) :: (49, .ptr 0 4 0) :: (48, .agg [.i 8, .str [], .nils, .bool false, .bool false, .nils, .nils]) :: (47, .ptr 0 4 0) :: (46, .bool true) :: (46, .bool x12_1.1) :: (45, .ptr 0 4 0) :: (42, .bool true) :: E10) ?_
        refine oXW 1 [⟨[.str a0, w34 a1, .i x12_1.2, .i a3], 4, false⟩, Q2, ⟨e34 x0_1, 3, false⟩, ⟨(([] : List S28)).flatMap e29, 0, false⟩] (fun (x13_4 : Ri21) => .agg [.i x13_4.1, .str x13_4.2.1, .own 3 (x13_4.2.2.2.2.2.2.2).length 7, .bool x13_4.2.2.1, .bool x13_4.2.2.2.1, w9 x13_4.2.2.2.2.1, w9 x13_4.2.2.2.2.2.1]) (fun x13_4 => [⟨[.str a0, w34 a1, .i x13_4.2.2.2.2.2.2.1, .i a3], 4, false⟩, Q2, ⟨e34 x0_1, 3, false⟩, ⟨(x13_4.2.2.2.2.2.2.2).flatMap e29, 0, false⟩]) (atN 5 (ctl1 i13p24)) 51 [0, 3] [0, 1] [0, 1] [0, 3] [] [0, 0, 0, 1] [.ptr 0 4 0, .agg [.i 8, .str [], .nils, .bool false, .bool false, .nils, .nils], .str [125], .func 81 [.ptr 0 4 0] []] [.ptr 0 4 0, .agg [.i 8, .str [], .own 3 (([] : List S28)).length 7, .bool false, .bool false, w9 ([] : List (List Nat)), w9 ([] : List (List Nat))], .str [125], .func 81 [.ptr 0 4 0] []] (.cons (.agg (.cons (.cons (.none (.cons (.cons (.nil (.nil (.refl)))))))) (.refl))) (hF.i21_thr (8 : Int) ([] : List Nat) false false ([] : List (List Nat)) ([] : List (List Nat)) ([125] : List Nat) a0 a1 x12_1.2 a3 ([] : List S28)) (hF.i21_ok (8 : Int) ([] : List Nat) false false ([] : List (List Nat)) ([] : List (List Nat)) ([125] : List Nat) a0 a1 x12_1.2 a3 ([] : List S28)) ⟨u29 _, trivial⟩ (fun _ => ⟨u29 _, trivial⟩) trivial fun x13_4 hx13_4 => ?_
        exact oQF 4 [⟨[.str a0, w34 a1, .i x13_4.2.2.2.2.2.2.1, .i a3], 4, false⟩, ⟨[.i x13_4.1, .str x13_4.2.1, .own 3 (x13_4.2.2.2.2.2.2.2).length 7, .bool x13_4.2.2.1, .bool x13_4.2.2.2.1, w9 x13_4.2.2.2.2.1, w9 x13_4.2.2.2.2.2.1], 7, false⟩, ⟨e34 x0_1, 3, false⟩, ⟨(x13_4.2.2.2.2.2.2.2).flatMap e29, 0, false⟩] 1 [] [.agg [.i x13_4.1, .str x13_4.2.1, .own 3 (x13_4.2.2.2.2.2.2.2).length 7, .bool x13_4.2.2.1, .bool x13_4.2.2.2.1, w9 x13_4.2.2.2.2.1, w9 x13_4.2.2.2.2.2.1], .bool false] (.tuple [.agg [.i x13_4.1, .str x13_4.2.1, w29 x13_4.2.2.2.2.2.2.2, .bool x13_4.2.2.1, .bool x13_4.2.2.2.1, w9 x13_4.2.2.2.2.1, w9 x13_4.2.2.2.2.2.1], .bool false]) (.tuple (.agg (.cs (.cs (qAs qA7 qAg rfl rfl rfl .ps))) .ps) .ps) trivial
       ·refine oR 5 (atN 1 (ctl1 i13p25)) ((52, .ptr 0 4 0) :: (46, .bool false) :: (46, .bool x12_1.1) :: (45, .ptr 0 4 0) :: (42, .bool true) :: E10) ?_
        refine oX (fun (x14_1 : Ri22) => .str x14_1.1) (fun x14_1 => [⟨[.str a0, w34 a1, .i x14_1.2, .i a3], 4, false⟩, Q2, ⟨e34 x0_1, 3, false⟩]) (atN 2 (ctl1 i13p25)) 53 [0] [] [] [] [] [.ptr 0 4 0] (qE0 k a0 a1 x12_1.2 a3) (qGf k a0 a1 x12_1.2 a3) trivial (fun _ => trivial) trivial fun x14_1 hx14_1 => ?_
        refine oL 3 i13p26 [(0, .ptr 0 4 0), (2, .ptr 1 7 0), (5, .str x14_1.1)] ?_
        let E13 : Env := [(0, .ptr 0 4 0), (2, .ptr 1 7 0), (5, .str x14_1.1)]
        refine oR 2 (atN 1 (ctl1 i13p26)) ((54, .ptr 0 4 0) :: E13) ?_
        refine oX (fun (x15_1 : Int) => .tuple []) (fun x15_1 => [⟨[.str a0, w34 a1, .i x15_1, .i a3], 4, false⟩, Q2, ⟨e34 x0_1, 3, false⟩]) (atN 2 (ctl1 i13p26)) 55 [0] [] [] [0] [] [.ptr 0 4 0, .str [123]] (qAj k ([123] : List Nat) a0 a1 x14_1.2 a3) (qAw k ([123] : List Nat) a0 a1 x14_1.2 a3) trivial (fun _ => trivial) trivial fun x15_1 hx15_1 => ?_
        refine oR 8 (atN 5 (ctl1 i13p27)) ((60, .func 78 [.ptr 0 4 0] []) :: (59, .ptr 0 4 0) :: (58, .agg [.i 10, .str x14_1.1, .nils, .bool false, .bool false, .nils, .nils]) :: (57, .str x14_1.1) :: (56, .ptr 0 4 0) :: (55, .tuple []) :: (54, .ptr 0 4 0) :: E13) ?_
        refine oXW 1 [⟨[.str a0, w34 a1, .i x15_1, .i a3], 4, false⟩, Q2, ⟨e34 x0_1, 3, false⟩, ⟨(([] : List S28)).flatMap e29, 0, false⟩] (fun (x16_5 : Ri18) => .agg [.i x16_5.1, .str x16_5.2.1, .own 3 (x16_5.2.2.2.2.2.2.2).length 7, .bool x16_5.2.2.1, .bool x16_5.2.2.2.1, w9 x16_5.2.2.2.2.1, w9 x16_5.2.2.2.2.2.1]) (fun x16_5 => [⟨[.str a0, w34 a1, .i x16_5.2.2.2.2.2.2.1, .i a3], 4, false⟩, Q2, ⟨e34 x0_1, 3, false⟩, ⟨(x16_5.2.2.2.2.2.2.2).flatMap e29, 0, false⟩]) (atN 6 (ctl1 i13p27)) 61 [0, 3] [0, 1] [0, 1] [0, 3] [] [0, 0, 0, 1] [.ptr 0 4 0, .agg [.i 10, .str x14_1.1, .nils, .bool false, .bool false, .nils, .nils], .str [125], .func 78 [.ptr 0 4 0] []] [.ptr 0 4 0, .agg [.i 10, .str x14_1.1, .own 3 (([] : List S28)).length 7, .bool false, .bool false, w9 ([] : List (List Nat)), w9 ([] : List (List Nat))], .str [125], .func 78 [.ptr 0 4 0] []] (.cons (.agg (.cons (.cons (.none (.cons (.cons (.nil (.nil (.refl)))))))) (.refl))) (hF.i18_thr (10 : Int) x14_1.1 false false ([] : List (List Nat)) ([] : List (List Nat)) ([125] : List Nat) a0 a1 x15_1 a3 ([] : List S28)) (hF.i18_ok (10 : Int) x14_1.1 false false ([] : List (List Nat)) ([] : List (List Nat)) ([125] : List Nat) a0 a1 x15_1 a3 ([] : List S28)) ⟨u29 _, trivial⟩ (fun _ => ⟨u29 _, trivial⟩) trivial fun x16_5 hx16_5 => ?_
        exact oQF 4 [⟨[.str a0, w34 a1, .i x16_5.2.2.2.2.2.2.1, .i a3], 4, false⟩, ⟨[.i x16_5.1, .str x16_5.2.1, .own 3 (x16_5.2.2.2.2.2.2.2).length 7, .bool x16_5.2.2.1, .bool x16_5.2.2.2.1, w9 x16_5.2.2.2.2.1, w9 x16_5.2.2.2.2.2.1], 7, false⟩, ⟨e34 x0_1, 3, false⟩, ⟨(x16_5.2.2.2.2.2.2.2).flatMap e29, 0, false⟩] 1 [] [.agg [.i x16_5.1, .str x16_5.2.1, .own 3 (x16_5.2.2.2.2.2.2.2).length 7, .bool x16_5.2.2.1, .bool x16_5.2.2.2.1, w9 x16_5.2.2.2.2.1, w9 x16_5.2.2.2.2.2.1], .bool false] (.tuple [.agg [.i x16_5.1, .str x16_5.2.1, w29 x16_5.2.2.2.2.2.2.2, .bool x16_5.2.2.1, .bool x16_5.2.2.2.1, w9 x16_5.2.2.2.2.1, w9 x16_5.2.2.2.2.2.1], .bool false]) (.tuple (.agg (.cs (.cs (qAs qA7 qAg rfl rfl rfl .ps))) .ps) .ps) trivial
      ·refine oR 5 (atN 1 (ctl1 i13p22)) ((62, .ptr 0 4 0) :: (42, .bool false) :: E10) ?_
       refine oX (fun (x17_1 : (S28 × Int)) => n29 x17_1.1) (fun x17_1 => [⟨[.str a0, w34 a1, .i x17_1.2, .i a3], 4, false⟩, Q2, ⟨e34 x0_1, 3, false⟩]) (atN 2 (ctl1 i13p22)) 63 [0] [] [] [0] [] [.ptr 0 4 0] (hF.i24_thr a0 a1 x11_1.2 a3) (hF.i24_ok a0 a1 x11_1.2 a3) trivial (fun _ => trivial) trivial fun x17_1 hx17_1 => ?_
       exact oQF 4 [⟨[.str a0, w34 a1, .i x17_1.2, .i a3], 4, false⟩, ⟨e29 x17_1.1, 7, false⟩, ⟨e34 x0_1, 3, false⟩] 1 [] [n29 x17_1.1, .bool false] (.tuple [n29 x17_1.1, .bool false]) .ps trivial
theorem i13B_ok (k : Nat) (F : Fns0) (hF : FnsOk0 F) : Pi13 (i13B k F) := fun a0 a1 a2 a3 x h => qJl k F hF a0 a1 a2 a3 (some x) h
theorem i13B_thr (k : Nat) (F : Fns0) (hF : FnsOk0 F) : Qi13 (i13B k F) := fun a0 a1 a2 a3 h => ⟨_, qJl k F hF a0 a1 a2 a3 none h⟩
def Xi14 (a0 : Int) (a1 : (List Nat)) (a2 : Raw) (a3 : Bool) (a4 : Bool) (a5 : (List (List Nat))) (a6 : (List (List Nat))) (a7 : Bool) (a8 : (List Nat)) (a9 : (List S33)) (a10 : Int) (a11 : Int) : Fx (Option (S28 × Int)) := ⟨Try.prog, cx, Try.f67, fun r => match r with | some r => .agg [.i r.1.f0, .str r.1.f1, q29 r.1.f2, .bool r.1.f3, .bool r.1.f4, w9 r.1.f5, w9 r.1.f6] | none => .top, 1, fun r => match r with | some r => (mkH [⟨[.str a8, w34 a9, .i r.2, .i a11], 4, false⟩]) | none => (mkH [⟨[.str a8, w34 a9, .i a10, .i a11], 4, false⟩]), cxTi, cxOrd, fun r => match r with | some _ => none | none => some (thrown, [0]), false⟩
def i14p0 : Pt := nav [0] (bodyAt Try.f67)
def i14p1 : Pt := nav [0, 0, 0, 0, 0, 0, 0] i14p0
def i14p2 : Pt := nav [0, 0] i14p1
def i14p4 : Pt := nav [2, 0, 0, 0, 0] i14p2
def i14p6 : Pt := nav [0, 0] i14p4
def i14p7 : Pt := nav [1] i14p6
def i14p8 : Pt := nav [2, 0] i14p6
def i14p9 : Pt := nav [0, 0, 0] i14p7
def i14p10 : Pt := nav [0, 0] i14p8
def i14p11 : Pt := nav [1] i14p10
def i14p12 : Pt := nav [2, 0] i14p10
def i14p13 : Pt := nav [0, 0] i14p12
def i14p14 : Pt := nav [1] i14p13
def qHe (k : Nat) (F : Fns0)  (a8 : (List Nat)) (a9 : (List S33)) (a10 : Int) (a11 : Int) (ih : Bool → Int → Int → (List Nat) → Raw → Bool → Bool → (List (List Nat)) → (List (List Nat)) → Option (Option (S28 × Int))) : Bool → Int → Int → (List Nat) → Raw → Bool → Bool → (List (List Nat)) → (List (List Nat)) → Option (Option (S28 × Int)) :=
 fun (y7_0 : Bool) (y7_1 : Int) (y7_2 : Int) (y7_3 : (List Nat)) (y7_4 : Raw) (y7_5 : Bool) (y7_6 : Bool) (y7_7 : (List (List Nat))) (y7_8 : (List (List Nat))) => jn (fun (z8 : Bool × Bool × Int × Int × (List Nat) × Raw × Bool × Bool × (List (List Nat)) × (List (List Nat))) => if z8.1 then (some (some ((⟨z8.2.2.2.1, z8.2.2.2.2.1, z8.2.2.2.2.2.1, z8.2.2.2.2.2.2.1, z8.2.2.2.2.2.2.2.1, z8.2.2.2.2.2.2.2.2.1, z8.2.2.2.2.2.2.2.2.2⟩ : S28), z8.2.2.1))) else (bT (i7 k ([40] : List Nat) a8 a9 z8.2.2.1 a11) fun x1_1 => jn (fun (z9 : Int × Int × (List Nat) × Bool × Bool × (List (List Nat)) × (List (List Nat)) × Raw) => ih false z9.1 z9.2.1 z9.2.2.1 z9.2.2.2.2.2.2.2 z9.2.2.2.1 z9.2.2.2.2.1 z9.2.2.2.2.2.1 z9.2.2.2.2.2.2.1) (fun j9 => if x1_1.1 then (bT (F.i18 (2 : Int) ([] : List Nat) false false ([] : List (List Nat)) ([] : List (List Nat)) ([41] : List Nat) a8 a9 x1_1.2 a11 ([(⟨z8.2.2.2.1, z8.2.2.2.2.1, z8.2.2.2.2.2.1, z8.2.2.2.2.2.2.1, z8.2.2.2.2.2.2.2.1, z8.2.2.2.2.2.2.2.2.1, z8.2.2.2.2.2.2.2.2.2⟩ : S28)] : List S28)) fun x2_6 => j9 (x2_6.2.2.2.2.2.2.1, x2_6.1, x2_6.2.1, x2_6.2.2.1, x2_6.2.2.2.1, x2_6.2.2.2.2.1, x2_6.2.2.2.2.2.1, (⟨(x2_6.2.2.2.2.2.2.2).length, (x2_6.2.2.2.2.2.2.2).flatMap e29⟩ : Raw))) else (jn (fun (z10 : Bool × Int × Int × (List Nat) × Raw × Bool × Bool × (List (List Nat)) × (List (List Nat))) => if z10.1 then (bT (F.i25 a8 a9 z10.2.1 a11) fun x4_2 => j9 (x4_2.2, 3, ([] : List Nat), false, false, ([] : List (List Nat)), ([] : List (List Nat)), (⟨(([(⟨z10.2.2.1, z10.2.2.2.1, z10.2.2.2.2.1, z10.2.2.2.2.2.1, z10.2.2.2.2.2.2.1, z10.2.2.2.2.2.2.2.1, z10.2.2.2.2.2.2.2.2⟩ : S28), x4_2.1] : List S28)).length, (([(⟨z10.2.2.1, z10.2.2.2.1, z10.2.2.2.2.1, z10.2.2.2.2.2.1, z10.2.2.2.2.2.2.1, z10.2.2.2.2.2.2.2.1, z10.2.2.2.2.2.2.2.2⟩ : S28), x4_2.1] : List S28)).flatMap e29⟩ : Raw))) else (bT (i7 k ([35] : List Nat) a8 a9 z10.2.1 a11) fun x5_1 => if x5_1.1 then (bT (F.i26 z10.2.2.1 z10.2.2.2.1 z10.2.2.2.2.1 z10.2.2.2.2.2.1 z10.2.2.2.2.2.2.1 z10.2.2.2.2.2.2.2.1 z10.2.2.2.2.2.2.2.2 a8 a9 x5_1.2 a11) fun x6_2 => j9 (x6_2.2, x6_2.1.f0, x6_2.1.f1, x6_2.1.f3, x6_2.1.f4, x6_2.1.f5, x6_2.1.f6, x6_2.1.f2)) else (some (some ((⟨z10.2.2.1, z10.2.2.2.1, z10.2.2.2.2.1, z10.2.2.2.2.2.1, z10.2.2.2.2.2.2.1, z10.2.2.2.2.2.2.2.1, z10.2.2.2.2.2.2.2.2⟩ : S28), x5_1.2))))) (fun j10 => if (!decide (z8.2.2.2.1 = 3)) then (if z8.2.1 then (bT (i7 k ([58] : List Nat) a8 a9 x1_1.2 a11) fun x3_13 => j10 (x3_13.1, x3_13.2, z8.2.2.2.1, z8.2.2.2.2.1, z8.2.2.2.2.2.1, z8.2.2.2.2.2.2.1, z8.2.2.2.2.2.2.2.1, z8.2.2.2.2.2.2.2.2.1, z8.2.2.2.2.2.2.2.2.2)) else (if (decide (z8.2.2.2.1 = 1)) then (bT (i7 k ([58] : List Nat) a8 a9 x1_1.2 a11) fun x3_13 => j10 (x3_13.1, x3_13.2, z8.2.2.2.1, z8.2.2.2.2.1, z8.2.2.2.2.2.1, z8.2.2.2.2.2.2.1, z8.2.2.2.2.2.2.2.1, z8.2.2.2.2.2.2.2.2.1, z8.2.2.2.2.2.2.2.2.2)) else (j10 (false, x1_1.2, z8.2.2.2.1, z8.2.2.2.2.1, z8.2.2.2.2.2.1, z8.2.2.2.2.2.2.1, z8.2.2.2.2.2.2.2.1, z8.2.2.2.2.2.2.2.2.1, z8.2.2.2.2.2.2.2.2.2)))) else (j10 (false, x1_1.2, z8.2.2.2.1, z8.2.2.2.2.1, z8.2.2.2.2.2.1, z8.2.2.2.2.2.2.1, z8.2.2.2.2.2.2.2.1, z8.2.2.2.2.2.2.2.2.1, z8.2.2.2.2.2.2.2.2.2))))))) (fun j8 => if (!y7_0) then ((g85 k (⟨y7_2, y7_3, y7_4, y7_5, y7_6, y7_7, y7_8⟩ : S28)).bind fun x0_4 => j8 (!x0_4, y7_0, y7_1, y7_2, y7_3, y7_4, y7_5, y7_6, y7_7, y7_8)) else (j8 (false, y7_0, y7_1, y7_2, y7_3, y7_4, y7_5, y7_6, y7_7, y7_8)))
def qN (k : Nat) (F : Fns0)  (a8 : (List Nat)) (a9 : (List S33)) (a10 : Int) (a11 : Int) (n : Nat) : Bool → Int → Int → (List Nat) → Raw → Bool → Bool → (List (List Nat)) → (List (List Nat)) → Option (Option (S28 × Int)) := lp (fun _ _ _ _ _ _ _ _ _ => none) (qHe k F a8 a9 a10 a11) n
theorem qMz (k : Nat) (F : Fns0) (hF : FnsOk0 F) (a0 : Int) (a1 : (List Nat)) (a2 : Raw) (a3 : Bool) (a4 : Bool) (a5 : (List (List Nat))) (a6 : (List (List Nat))) (a7 : Bool) (a8 : (List Nat)) (a9 : (List S33)) (a10 : Int) (a11 : Int)    : ∀ (n : Nat) (y7_0 : Bool) (y7_1 : Int) (y7_2 : Int) (y7_3 : (List Nat)) (y7_4 : Raw) (y7_5 : Bool) (y7_6 : Bool) (y7_7 : (List (List Nat))) (y7_8 : (List (List Nat))), Ok (Xi14 a0 a1 a2 a3 a4 a5 a6 a7 a8 a9 a10 a11) i14p1 [(0, .ptr 0 4 0), (2, .bool y7_0), (4, .ptr 1 7 0), (6, .ptr 2 7 0)] (mkH [⟨[.str a8, w34 a9, .i y7_1, .i a11], 4, false⟩, ⟨[.i y7_2, .str y7_3, q29 y7_4, .bool y7_5, .bool y7_6, w9 y7_7, w9 y7_8], 7, false⟩, ⟨[.i 0, .str [], .nils, .bool false, .bool false, .nils, .nils], 0, false⟩]) (qN k F a8 a9 a10 a11 n y7_0 y7_1 y7_2 y7_3 y7_4 y7_5 y7_6 y7_7 y7_8) := by
 intro n
 induction n with
 | zero => intro y7_0 y7_1 y7_2 y7_3 y7_4 y7_5 y7_6 y7_7 y7_8; exact ok_none
 | succ n ih =>
  intro y7_0 y7_1 y7_2 y7_3 y7_4 y7_5 y7_6 y7_7 y7_8
  show Ok _ _ _ _ (qHe k F a8 a9 a10 a11 (qN k F a8 a9 a10 a11 n) y7_0 y7_1 y7_2 y7_3 y7_4 y7_5 y7_6 y7_7 y7_8)
  unfold qHe
  let E2 : Env := [(9, .bool (!y7_0)), (8, .bool (!y7_0)), (7, .bool y7_0), (0, .ptr 0 4 0), (2, .bool y7_0), (4, .ptr 1 7 0), (6, .ptr 2 7 0)]
  let Q1 : Blk := ⟨[.str a8, w34 a9, .i y7_1, .i a11], 4, false⟩
  let Q2 : Blk := ⟨[.i y7_2, .str y7_3, q29 y7_4, .bool y7_5, .bool y7_6, w9 y7_7, w9 y7_8], 7, false⟩
  let Q3 : Blk := ⟨[.i 0, .str [], .nils, .bool false, .bool false, .nils, .nils], 0, false⟩
  refine oH 4 (atN 3 (ctl1 i14p1)) E2 (mkH [Q1, Q2, Q3]) ?_
  refine oJ i14p2 (fun (z8 : Bool × Bool × Int × Int × (List Nat) × Raw × Bool × Bool × (List (List Nat)) × (List (List Nat))) => [(0, .ptr 0 4 0), (2, .bool z8.2.1), (4, .ptr 1 7 0), (6, .ptr 2 7 0), (13, .bool z8.1)]) (fun (z8 : Bool × Bool × Int × Int × (List Nat) × Raw × Bool × Bool × (List (List Nat)) × (List (List Nat))) => (mkH [⟨[.str a8, w34 a9, .i z8.2.2.1, .i a11], 4, false⟩, ⟨[.i z8.2.2.2.1, .str z8.2.2.2.2.1, q29 z8.2.2.2.2.2.1, .bool z8.2.2.2.2.2.2.1, .bool z8.2.2.2.2.2.2.2.1, w9 z8.2.2.2.2.2.2.2.2.1, w9 z8.2.2.2.2.2.2.2.2.2], 7, false⟩, Q3])) (fun z8 => ?_) (fun j8 hj8 => ?_)
  ·refine oS 13 (fun hb => ?_) (fun hb => ?_)
   ·let Q4 : Blk := ⟨[.i z8.2.2.2.1, .str z8.2.2.2.2.1, q29 z8.2.2.2.2.2.1, .bool z8.2.2.2.2.2.2.1, .bool z8.2.2.2.2.2.2.2.1, w9 z8.2.2.2.2.2.2.2.2.1, w9 z8.2.2.2.2.2.2.2.2.2], 7, false⟩
    exact oQF 7 [⟨[.str a8, w34 a9, .i z8.2.2.1, .i a11], 4, false⟩, Q4, Q4] 1 [] [.agg [.i z8.2.2.2.1, .str z8.2.2.2.2.1, q29 z8.2.2.2.2.2.1, .bool z8.2.2.2.2.2.2.1, .bool z8.2.2.2.2.2.2.2.1, w9 z8.2.2.2.2.2.2.2.2.1, w9 z8.2.2.2.2.2.2.2.2.2]] (.agg [.i z8.2.2.2.1, .str z8.2.2.2.2.1, q29 z8.2.2.2.2.2.1, .bool z8.2.2.2.2.2.2.1, .bool z8.2.2.2.2.2.2.2.1, w9 z8.2.2.2.2.2.2.2.2.1, w9 z8.2.2.2.2.2.2.2.2.2]) .ps trivial
   ·let E4 : Env := [(17, .ptr 0 4 0), (13, .bool false), (0, .ptr 0 4 0), (2, .bool z8.2.1), (4, .ptr 1 7 0), (6, .ptr 2 7 0), (13, .bool z8.1)]
    let Q5 : Blk := ⟨[.i z8.2.2.2.1, .str z8.2.2.2.2.1, q29 z8.2.2.2.2.2.1, .bool z8.2.2.2.2.2.2.1, .bool z8.2.2.2.2.2.2.2.1, w9 z8.2.2.2.2.2.2.2.2.1, w9 z8.2.2.2.2.2.2.2.2.2], 7, false⟩
    refine oH 7 (atN 1 (ctl1 i14p4)) E4 (mkH [⟨[.str a8, w34 a9, .i z8.2.2.1, .i a11], 4, false⟩, Q5, Q3]) ?_
    refine oX (fun (x1_1 : (Bool × Int)) => .bool x1_1.1) (fun x1_1 => [⟨[.str a8, w34 a9, .i x1_1.2, .i a11], 4, false⟩, Q5, Q3]) (atN 2 (ctl1 i14p4)) 18 [0] [] [] [] [] [.ptr 0 4 0, .str [40]] (qAb k ([40] : List Nat) a8 a9 z8.2.2.1 a11) (qAi k ([40] : List Nat) a8 a9 z8.2.2.1 a11) trivial (fun _ => trivial) trivial fun x1_1 hx1_1 => ?_
    refine oR 2 i14p6 ((16, .bool x1_1.1) :: (18, .bool x1_1.1) :: E4) ?_
    refine oJ i14p9 (fun (z9 : Int × Int × (List Nat) × Bool × Bool × (List (List Nat)) × (List (List Nat)) × Raw) => [(0, .ptr 0 4 0), (4, .ptr 1 7 0), (6, .ptr 2 7 0)]) (fun (z9 : Int × Int × (List Nat) × Bool × Bool × (List (List Nat)) × (List (List Nat)) × Raw) => (mkH [⟨[.str a8, w34 a9, .i z9.1, .i a11], 4, false⟩, ⟨[.i z9.2.1, .str z9.2.2.1, q29 z9.2.2.2.2.2.2.2, .bool z9.2.2.2.1, .bool z9.2.2.2.2.1, w9 z9.2.2.2.2.2.1, w9 z9.2.2.2.2.2.2.1], 7, false⟩, Q3])) (fun z9 => ?_) (fun j9 hj9 => ?_)
    ·refine oLH 8 i14p1 [(0, .ptr 0 4 0), (2, .bool false), (4, .ptr 1 7 0), (6, .ptr 2 7 0)] (mkH [⟨[.str a8, w34 a9, .i z9.1, .i a11], 4, false⟩, ⟨[.i z9.2.1, .str z9.2.2.1, q29 z9.2.2.2.2.2.2.2, .bool z9.2.2.2.1, .bool z9.2.2.2.2.1, w9 z9.2.2.2.2.2.1, w9 z9.2.2.2.2.2.2.1], 7, false⟩, Q3]) ?_
     exact ih false z9.1 z9.2.1 z9.2.2.1 z9.2.2.2.2.2.2.2 z9.2.2.2.1 z9.2.2.2.2.1 z9.2.2.2.2.2.1 z9.2.2.2.2.2.2.1
    ·refine oS 16 (fun hb => ?_) (fun hb => ?_)
     ·let E6 : Env := ((21, .slice 3 7 0 1 7) :: (20, .agg [.i z8.2.2.2.1, .str z8.2.2.2.2.1, q29 z8.2.2.2.2.2.1, .bool z8.2.2.2.2.2.2.1, .bool z8.2.2.2.2.2.2.2.1, w9 z8.2.2.2.2.2.2.2.2.1, w9 z8.2.2.2.2.2.2.2.2.2]) :: (19, .ptr 0 4 0) :: (16, .bool true) :: (16, .bool x1_1.1) :: (18, .bool x1_1.1) :: E4)
      let Q6 : Blk := ⟨[.str a8, w34 a9, .i x1_1.2, .i a11], 4, false⟩
      refine oH 5 (atN 3 (ctl1 i14p7)) E6 (mkH [Q6, Q5, Q3, ⟨[.i z8.2.2.2.1, .str z8.2.2.2.2.1, q29 z8.2.2.2.2.2.1, .bool z8.2.2.2.2.2.2.1, .bool z8.2.2.2.2.2.2.2.1, w9 z8.2.2.2.2.2.2.2.2.1, w9 z8.2.2.2.2.2.2.2.2.2], 0, false⟩]) ?_
      refine qCl 21 3 7 1 7 (by kernel_rfl) rfl ?_
      let Q7 : Blk := ⟨(([(⟨z8.2.2.2.1, z8.2.2.2.2.1, z8.2.2.2.2.2.1, z8.2.2.2.2.2.2.1, z8.2.2.2.2.2.2.2.1, z8.2.2.2.2.2.2.2.2.1, z8.2.2.2.2.2.2.2.2.2⟩ : S28)] : List S28)).flatMap e29, 0, false⟩
      refine oH 3 (atN 6 (ctl1 i14p7)) ((24, .func 78 [.ptr 0 4 0] []) :: (23, .ptr 0 4 0) :: (22, .agg [.i 2, .str [], .own 3 (([(⟨z8.2.2.2.1, z8.2.2.2.2.1, z8.2.2.2.2.2.1, z8.2.2.2.2.2.2.1, z8.2.2.2.2.2.2.2.1, z8.2.2.2.2.2.2.2.2.1, z8.2.2.2.2.2.2.2.2.2⟩ : S28)] : List S28)).length 7, .bool false, .bool false, .nils, .nils]) :: (21, .own 3 (([(⟨z8.2.2.2.1, z8.2.2.2.2.1, z8.2.2.2.2.2.1, z8.2.2.2.2.2.2.1, z8.2.2.2.2.2.2.2.1, z8.2.2.2.2.2.2.2.2.1, z8.2.2.2.2.2.2.2.2.2⟩ : S28)] : List S28)).length 7) :: E6) (mkH [Q6, Q5, Q3, Q7]) ?_
      refine oXW 0 [Q6, Q5, Q3, Q7] (fun (x2_6 : Ri18) => .agg [.i x2_6.1, .str x2_6.2.1, .own 3 (x2_6.2.2.2.2.2.2.2).length 7, .bool x2_6.2.2.1, .bool x2_6.2.2.2.1, w9 x2_6.2.2.2.2.1, w9 x2_6.2.2.2.2.2.1]) (fun x2_6 => [⟨[.str a8, w34 a9, .i x2_6.2.2.2.2.2.2.1, .i a11], 4, false⟩, Q5, Q3, ⟨(x2_6.2.2.2.2.2.2.2).flatMap e29, 0, false⟩]) (atN 7 (ctl1 i14p7)) 25 [0, 3] [0, 1] [0, 1] [0, 3] [] [0, 0, 0, 1] [.ptr 0 4 0, .agg [.i 2, .str [], .own 3 (([(⟨z8.2.2.2.1, z8.2.2.2.2.1, z8.2.2.2.2.2.1, z8.2.2.2.2.2.2.1, z8.2.2.2.2.2.2.2.1, z8.2.2.2.2.2.2.2.2.1, z8.2.2.2.2.2.2.2.2.2⟩ : S28)] : List S28)).length 7, .bool false, .bool false, .nils, .nils], .str [41], .func 78 [.ptr 0 4 0] []] [.ptr 0 4 0, .agg [.i 2, .str [], .own 3 (([(⟨z8.2.2.2.1, z8.2.2.2.2.1, z8.2.2.2.2.2.1, z8.2.2.2.2.2.2.1, z8.2.2.2.2.2.2.2.1, z8.2.2.2.2.2.2.2.2.1, z8.2.2.2.2.2.2.2.2.2⟩ : S28)] : List S28)).length 7, .bool false, .bool false, w9 ([] : List (List Nat)), w9 ([] : List (List Nat))], .str [41], .func 78 [.ptr 0 4 0] []] (.cons (.agg (.cons (.cons (.cons (.cons (.cons (.nil (.nil (.refl)))))))) (.refl))) (hF.i18_thr (2 : Int) ([] : List Nat) false false ([] : List (List Nat)) ([] : List (List Nat)) ([41] : List Nat) a8 a9 x1_1.2 a11 ([(⟨z8.2.2.2.1, z8.2.2.2.2.1, z8.2.2.2.2.2.1, z8.2.2.2.2.2.2.1, z8.2.2.2.2.2.2.2.1, z8.2.2.2.2.2.2.2.2.1, z8.2.2.2.2.2.2.2.2.2⟩ : S28)] : List S28)) (hF.i18_ok (2 : Int) ([] : List Nat) false false ([] : List (List Nat)) ([] : List (List Nat)) ([41] : List Nat) a8 a9 x1_1.2 a11 ([(⟨z8.2.2.2.1, z8.2.2.2.2.1, z8.2.2.2.2.2.1, z8.2.2.2.2.2.2.1, z8.2.2.2.2.2.2.2.1, z8.2.2.2.2.2.2.2.2.1, z8.2.2.2.2.2.2.2.2.2⟩ : S28)] : List S28)) ⟨u29 _, trivial⟩ (fun _ => ⟨u29 _, trivial⟩) trivial fun x2_6 hx2_6 => ?_
      let Q8 : Blk := ⟨[.str a8, w34 a9, .i x2_6.2.2.2.2.2.2.1, .i a11], 4, false⟩
      let Q9 : Blk := ⟨[.i x2_6.1, .str x2_6.2.1, .own 3 (x2_6.2.2.2.2.2.2.2).length 7, .bool x2_6.2.2.1, .bool x2_6.2.2.2.1, w9 x2_6.2.2.2.2.1, w9 x2_6.2.2.2.2.2.1], 7, false⟩
      let Q10 : Blk := ⟨(x2_6.2.2.2.2.2.2.2).flatMap e29, 0, false⟩
      refine oH 3 i14p9 ((25, .agg [.i x2_6.1, .str x2_6.2.1, .own 3 (x2_6.2.2.2.2.2.2.2).length 7, .bool x2_6.2.2.1, .bool x2_6.2.2.2.1, w9 x2_6.2.2.2.2.1, w9 x2_6.2.2.2.2.2.1]) :: (24, .func 78 [.ptr 0 4 0] []) :: (23, .ptr 0 4 0) :: (22, .agg [.i 2, .str [], .own 3 (([(⟨z8.2.2.2.1, z8.2.2.2.2.1, z8.2.2.2.2.2.1, z8.2.2.2.2.2.2.1, z8.2.2.2.2.2.2.2.1, z8.2.2.2.2.2.2.2.2.1, z8.2.2.2.2.2.2.2.2.2⟩ : S28)] : List S28)).length 7, .bool false, .bool false, .nils, .nils]) :: (21, .own 3 (([(⟨z8.2.2.2.1, z8.2.2.2.2.1, z8.2.2.2.2.2.1, z8.2.2.2.2.2.2.1, z8.2.2.2.2.2.2.2.1, z8.2.2.2.2.2.2.2.2.1, z8.2.2.2.2.2.2.2.2.2⟩ : S28)] : List S28)).length 7) :: E6) (mkH [Q8, Q9, Q3, Q10]) ?_
      let Q11 : Blk := ⟨[.i x2_6.1, .str x2_6.2.1, w29 x2_6.2.2.2.2.2.2.2, .bool x2_6.2.2.1, .bool x2_6.2.2.2.1, w9 x2_6.2.2.2.2.1, w9 x2_6.2.2.2.2.2.1], 7, false⟩
      refine qLm [Q8, Q9, Q3, Q10] [Q8, Q11, Q3, ⟨[], 0, false⟩] 3 (x2_6.2.2.2.2.2.2.2).length 7 0 ((x2_6.2.2.2.2.2.2.2).flatMap e29) [0, 4, 6] (env0 := [(0, .ptr 0 4 0), (4, .ptr 1 7 0), (6, .ptr 2 7 0)]) (eE := [(0, .ptr 0 4 0), (4, .ptr 1 7 0), (6, .ptr 2 7 0)]) (by kernel_rfl) rfl rfl (qAq qA7 _) (Nat.zero_le _) (u29 _) (by kernel_rfl) ⟨⟨rfl, .refl (by kernel_rfl)⟩, ⟨⟨rfl, .refl (by kernel_rfl)⟩, ⟨⟨rfl, .refl (by kernel_rfl)⟩, trivial⟩⟩⟩ ⟨.inr ⟨rfl, rfl, rfl, .refl (by kernel_rfl)⟩, ⟨.inr ⟨rfl, rfl, rfl, .cons (by kernel_rfl) (.cons (by kernel_rfl) (.own (.refl (by kernel_rfl))))⟩, ⟨.inr ⟨rfl, rfl, rfl, .refl (by kernel_rfl)⟩, ⟨.inl ⟨rfl, rfl⟩, trivial⟩⟩⟩⟩ ?_
      refine qAc [Q8, Q11, Q3] [⟨[], 0, false⟩] (by kernel_rfl) rfl (by kernel_rfl) ⟨(by kernel_rfl), ⟨(by kernel_rfl), ⟨(by kernel_rfl), trivial⟩⟩⟩ ?_
      exact hj9 (x2_6.2.2.2.2.2.2.1, x2_6.1, x2_6.2.1, x2_6.2.2.1, x2_6.2.2.2.1, x2_6.2.2.2.2.1, x2_6.2.2.2.2.2.1, (⟨(x2_6.2.2.2.2.2.2.2).length, (x2_6.2.2.2.2.2.2.2).flatMap e29⟩ : Raw))
     ·let E8 : Env := ((30, .bool (!decide (z8.2.2.2.1 = 3))) :: (29, .bool (!decide (z8.2.2.2.1 = 3))) :: (28, .i z8.2.2.2.1) :: (27, .ptr 1 7 0) :: (16, .bool false) :: (16, .bool x1_1.1) :: (18, .bool x1_1.1) :: E4)
      let Q12 : Blk := ⟨[.str a8, w34 a9, .i x1_1.2, .i a11], 4, false⟩
      refine oH 7 (atN 4 (ctl1 i14p8)) E8 (mkH [Q12, Q5, Q3]) ?_
      refine oJ i14p10 (fun (z10 : Bool × Int × Int × (List Nat) × Raw × Bool × Bool × (List (List Nat)) × (List (List Nat))) => [(0, .ptr 0 4 0), (4, .ptr 1 7 0), (6, .ptr 2 7 0), (26, .bool z10.1)]) (fun (z10 : Bool × Int × Int × (List Nat) × Raw × Bool × Bool × (List (List Nat)) × (List (List Nat))) => (mkH [⟨[.str a8, w34 a9, .i z10.2.1, .i a11], 4, false⟩, ⟨[.i z10.2.2.1, .str z10.2.2.2.1, q29 z10.2.2.2.2.1, .bool z10.2.2.2.2.2.1, .bool z10.2.2.2.2.2.2.1, w9 z10.2.2.2.2.2.2.2.1, w9 z10.2.2.2.2.2.2.2.2], 7, false⟩, Q3])) (fun z10 => ?_) (fun j10 hj10 => ?_)
      ·refine oS 26 (fun hb => ?_) (fun hb => ?_)
       ·let Q13 : Blk := ⟨[.str a8, w34 a9, .i z10.2.1, .i a11], 4, false⟩
        let Q14 : Blk := ⟨[.i z10.2.2.1, .str z10.2.2.2.1, q29 z10.2.2.2.2.1, .bool z10.2.2.2.2.2.1, .bool z10.2.2.2.2.2.2.1, w9 z10.2.2.2.2.2.2.2.1, w9 z10.2.2.2.2.2.2.2.2], 7, false⟩
        refine oH 1 i14p11 [(26, .bool true), (0, .ptr 0 4 0), (4, .ptr 1 7 0), (6, .ptr 2 7 0), (26, .bool z10.1)] (mkH [Q13, Q14, Q3]) ?_
        refine qC4 (fun h => ?_) (fun x4_2 hx4_2 => ?_)
        ·let E10 : Env := [(43, .ptr 0 4 0), (42, .agg [.i z10.2.2.1, .str z10.2.2.2.1, q29 z10.2.2.2.2.1, .bool z10.2.2.2.2.2.1, .bool z10.2.2.2.2.2.2.1, w9 z10.2.2.2.2.2.2.2.1, w9 z10.2.2.2.2.2.2.2.2]), (26, .bool true), (0, .ptr 0 4 0), (4, .ptr 1 7 0), (6, .ptr 2 7 0), (26, .bool z10.1)]
         exact qAn (eE := ((46, .top) :: (45, .top) :: (44, .top) :: E10)) ⟨[45], [(0, 0, 1), (0, 0, 0), (2, 0, 0), (7, 0, 0), (15, 0, 0), (31, 0, 0)], 2, thrown, [0], (mkH [Q13, Q14, Q3])⟩ (hs := [(mkH [Q13, Q14, Q3]), (mkH [Q13, Q14, Q3])]) (LX := [⟨[.str a8, w34 a9, .i a10, .i a11], 4, false⟩]) (L := [Q13, Q14, Q3]) rfl rfl rfl (by kernel_rfl) rfl ⟨.inl rfl, trivial⟩ (by kernel_rfl) (by kernel_rfl) (by kernel_rfl) (by kernel_rfl) (qAa 2 (l' := (opsAt i14p11).toList.drop 2) (eE := E10) (H' := (mkH [Q13, Q14, Q3])) (hs := []) (by kernel_rfl) (qAm (l' := (opsAt i14p11).toList.drop 3) (eE := ((44, .top) :: E10)) (hs := [(mkH [Q13, Q14, Q3])]) (fi := 86) (args := [.ptr 0 4 0]) (by kernel_rfl) (by kernel_rfl) (frS 0 (M := [Q13, Q14, Q3]) (rs := [0]) (ms := []) (mv := []) (mm := []) (D := [0]) (xs' := [.ptr 0 4 0]) (.refl) (hF.i25_thr a8 a9 z10.2.1 a11 h) trivial trivial (by kernel_rfl)) (by kernel_rfl) (qA1 (l' := (opsAt i14p11).toList.drop 4) (eE := ((45, .top) :: (44, .top) :: E10)) (hs := []) (by kernel_rfl) (by kernel_rfl) (qA1 (l' := (opsAt i14p11).toList.drop 5) (eE := ((46, .top) :: (45, .top) :: (44, .top) :: E10)) (hs := []) (by kernel_rfl) (by kernel_rfl) (qA1 (l' := (opsAt i14p11).toList.drop 6) (eE := ((46, .top) :: (45, .top) :: (44, .top) :: E10)) (hs := [(mkH [Q13, Q14, Q3])]) (by kernel_rfl) (by kernel_rfl) (.nil)))))) (by kernel_rfl) (by kernel_rfl)
        ·let E10 : Env := [(43, .ptr 0 4 0), (42, .agg [.i z10.2.2.1, .str z10.2.2.2.1, q29 z10.2.2.2.2.1, .bool z10.2.2.2.2.2.1, .bool z10.2.2.2.2.2.2.1, w9 z10.2.2.2.2.2.2.2.1, w9 z10.2.2.2.2.2.2.2.2]), (26, .bool true), (0, .ptr 0 4 0), (4, .ptr 1 7 0), (6, .ptr 2 7 0), (26, .bool z10.1)]
         let Q15 : Blk := ⟨[.str a8, w34 a9, .i x4_2.2, .i a11], 4, false⟩
         let Q16 : Blk := ⟨[.i 3, .str [], w29 ([(⟨z10.2.2.1, z10.2.2.2.1, z10.2.2.2.2.1, z10.2.2.2.2.2.1, z10.2.2.2.2.2.2.1, z10.2.2.2.2.2.2.2.1, z10.2.2.2.2.2.2.2.2⟩ : S28), x4_2.1] : List S28), .bool false, .bool false, .nils, .nils], 7, false⟩
         refine oD (H' := (mkH [Q15, Q16, Q3])) (nav [0] i14p11) ((46, .agg [.i 3, .str [], w29 ([(⟨z10.2.2.1, z10.2.2.2.1, z10.2.2.2.2.1, z10.2.2.2.2.2.1, z10.2.2.2.2.2.2.1, z10.2.2.2.2.2.2.2.1, z10.2.2.2.2.2.2.2.2⟩ : S28), x4_2.1] : List S28), .bool false, .bool false, .nils, .nils]) :: (45, w29 ([(⟨z10.2.2.1, z10.2.2.2.1, z10.2.2.2.2.1, z10.2.2.2.2.2.1, z10.2.2.2.2.2.2.1, z10.2.2.2.2.2.2.2.1, z10.2.2.2.2.2.2.2.2⟩ : S28), x4_2.1] : List S28)) :: (44, n29 x4_2.1) :: E10) [(mkH [Q15, Q14, Q3]), (mkH [Q15, Q16, Q3])] ⟨[45], [(0, 0, 1), (0, 0, 0), (2, 0, 0), (7, 0, 0), (15, 0, 0), (31, 0, 0)], 6, thrown, [], H0⟩ (oDr 2 2 E10 (qA4 (l' := (opsAt i14p11).toList.drop 3) (eE := ((44, n29 x4_2.1) :: E10)) (hs := [(mkH [Q15, Q14, Q3])]) (H' := (mkH [Q15, Q14, Q3])) (fi := 86) (args := [.ptr 0 4 0]) (v := n29 x4_2.1) (by kernel_rfl) (frC (rs := [0]) (ms := []) (ms' := []) (hF.i25_ok a8 a9 z10.2.1 a11 x4_2 hx4_2) trivial trivial (by kernel_rfl)) (by kernel_rfl) (oDh 3 6 ((46, .agg [.i 3, .str [], w29 ([(⟨z10.2.2.1, z10.2.2.2.1, z10.2.2.2.2.1, z10.2.2.2.2.2.1, z10.2.2.2.2.2.2.1, z10.2.2.2.2.2.2.2.1, z10.2.2.2.2.2.2.2.2⟩ : S28), x4_2.1] : List S28), .bool false, .bool false, .nils, .nils]) :: (45, w29 ([(⟨z10.2.2.1, z10.2.2.2.1, z10.2.2.2.2.1, z10.2.2.2.2.2.1, z10.2.2.2.2.2.2.1, z10.2.2.2.2.2.2.2.1, z10.2.2.2.2.2.2.2.2⟩ : S28), x4_2.1] : List S28)) :: (44, n29 x4_2.1) :: E10) (mkH [Q15, Q16, Q3]) [(mkH [Q15, Q16, Q3])] .nil))) ?_
         refine oR 1 i14p9 ((46, .agg [.i 3, .str [], w29 ([(⟨z10.2.2.1, z10.2.2.2.1, z10.2.2.2.2.1, z10.2.2.2.2.2.1, z10.2.2.2.2.2.2.1, z10.2.2.2.2.2.2.2.1, z10.2.2.2.2.2.2.2.2⟩ : S28), x4_2.1] : List S28), .bool false, .bool false, .nils, .nils]) :: (45, w29 ([(⟨z10.2.2.1, z10.2.2.2.1, z10.2.2.2.2.1, z10.2.2.2.2.2.1, z10.2.2.2.2.2.2.1, z10.2.2.2.2.2.2.2.1, z10.2.2.2.2.2.2.2.2⟩ : S28), x4_2.1] : List S28)) :: (44, n29 x4_2.1) :: E10) ?_
         refine qCt [Q15, Q16, Q3] 1 7 [.i 3, .str [], w29 ([(⟨z10.2.2.1, z10.2.2.2.1, z10.2.2.2.2.1, z10.2.2.2.2.2.1, z10.2.2.2.2.2.2.1, z10.2.2.2.2.2.2.2.1, z10.2.2.2.2.2.2.2.2⟩ : S28), x4_2.1] : List S28), .bool false, .bool false, .nils, .nils] [.i 3, .str [], w29 ([(⟨z10.2.2.1, z10.2.2.2.1, z10.2.2.2.2.1, z10.2.2.2.2.2.1, z10.2.2.2.2.2.2.1, z10.2.2.2.2.2.2.2.1, z10.2.2.2.2.2.2.2.2⟩ : S28), x4_2.1] : List S28), .bool false, .bool false, w9 ([] : List (List Nat)), w9 ([] : List (List Nat))] (by kernel_rfl) rfl (.cons (.cons (.cons (.cons (.cons (.nil (.nil (.refl)))))))) ?_
         refine oHp (mkH [Q15, ⟨[.i 3, .str [], w29 ([(⟨z10.2.2.1, z10.2.2.2.1, z10.2.2.2.2.1, z10.2.2.2.2.2.1, z10.2.2.2.2.2.2.1, z10.2.2.2.2.2.2.2.1, z10.2.2.2.2.2.2.2.2⟩ : S28), x4_2.1] : List S28), .bool false, .bool false, w9 ([] : List (List Nat)), w9 ([] : List (List Nat))], 7, false⟩, Q3]) ?_
         refine oK [0, 4, 6] [(0, .ptr 0 4 0), (4, .ptr 1 7 0), (6, .ptr 2 7 0)] ?_
         exact hj9 (x4_2.2, 3, ([] : List Nat), false, false, ([] : List (List Nat)), ([] : List (List Nat)), (⟨(([(⟨z10.2.2.1, z10.2.2.2.1, z10.2.2.2.2.1, z10.2.2.2.2.2.1, z10.2.2.2.2.2.2.1, z10.2.2.2.2.2.2.2.1, z10.2.2.2.2.2.2.2.2⟩ : S28), x4_2.1] : List S28)).length, (([(⟨z10.2.2.1, z10.2.2.2.1, z10.2.2.2.2.1, z10.2.2.2.2.2.1, z10.2.2.2.2.2.2.1, z10.2.2.2.2.2.2.2.1, z10.2.2.2.2.2.2.2.2⟩ : S28), x4_2.1] : List S28)).flatMap e29⟩ : Raw))
       ·let E12 : Env := [(48, .ptr 0 4 0), (26, .bool false), (0, .ptr 0 4 0), (4, .ptr 1 7 0), (6, .ptr 2 7 0), (26, .bool z10.1)]
        let Q17 : Blk := ⟨[.i z10.2.2.1, .str z10.2.2.2.1, q29 z10.2.2.2.2.1, .bool z10.2.2.2.2.2.1, .bool z10.2.2.2.2.2.2.1, w9 z10.2.2.2.2.2.2.2.1, w9 z10.2.2.2.2.2.2.2.2], 7, false⟩
        refine oH 4 (atN 1 (ctl1 i14p12)) E12 (mkH [⟨[.str a8, w34 a9, .i z10.2.1, .i a11], 4, false⟩, Q17, Q3]) ?_
        refine oX (fun (x5_1 : (Bool × Int)) => .bool x5_1.1) (fun x5_1 => [⟨[.str a8, w34 a9, .i x5_1.2, .i a11], 4, false⟩, Q17, Q3]) (atN 2 (ctl1 i14p12)) 49 [0] [] [] [] [] [.ptr 0 4 0, .str [35]] (qAb k ([35] : List Nat) a8 a9 z10.2.1 a11) (qAi k ([35] : List Nat) a8 a9 z10.2.1 a11) trivial (fun _ => trivial) trivial fun x5_1 hx5_1 => ?_
        refine oR 2 i14p13 ((47, .bool x5_1.1) :: (49, .bool x5_1.1) :: E12) ?_
        refine oS 47 (fun hb => ?_) (fun hb => ?_)
        ·refine oR 4 (atN 2 (ctl1 i14p14)) ((51, .agg [.i z10.2.2.1, .str z10.2.2.2.1, q29 z10.2.2.2.2.1, .bool z10.2.2.2.2.2.1, .bool z10.2.2.2.2.2.2.1, w9 z10.2.2.2.2.2.2.2.1, w9 z10.2.2.2.2.2.2.2.2]) :: (50, .ptr 0 4 0) :: (47, .bool true) :: (47, .bool x5_1.1) :: (49, .bool x5_1.1) :: E12) ?_
         refine oX (fun (x6_2 : (S28 × Int)) => n29 x6_2.1) (fun x6_2 => [⟨[.str a8, w34 a9, .i x6_2.2, .i a11], 4, false⟩, Q17, Q3]) (atN 3 (ctl1 i14p14)) 52 [0] [] [] [0] [] [.ptr 0 4 0, .agg [.i z10.2.2.1, .str z10.2.2.2.1, q29 z10.2.2.2.2.1, .bool z10.2.2.2.2.2.1, .bool z10.2.2.2.2.2.2.1, w9 z10.2.2.2.2.2.2.2.1, w9 z10.2.2.2.2.2.2.2.2]] (hF.i26_thr z10.2.2.1 z10.2.2.2.1 z10.2.2.2.2.1 z10.2.2.2.2.2.1 z10.2.2.2.2.2.2.1 z10.2.2.2.2.2.2.2.1 z10.2.2.2.2.2.2.2.2 a8 a9 x5_1.2 a11) (hF.i26_ok z10.2.2.1 z10.2.2.2.1 z10.2.2.2.2.1 z10.2.2.2.2.2.1 z10.2.2.2.2.2.2.1 z10.2.2.2.2.2.2.2.1 z10.2.2.2.2.2.2.2.2 a8 a9 x5_1.2 a11) trivial (fun _ => trivial) trivial fun x6_2 hx6_2 => ?_
         refine oLH 3 i14p9 [(0, .ptr 0 4 0), (4, .ptr 1 7 0), (6, .ptr 2 7 0)] (mkH [⟨[.str a8, w34 a9, .i x6_2.2, .i a11], 4, false⟩, ⟨e29 x6_2.1, 7, false⟩, Q3]) ?_
         exact hj9 (x6_2.2, x6_2.1.f0, x6_2.1.f1, x6_2.1.f3, x6_2.1.f4, x6_2.1.f5, x6_2.1.f6, x6_2.1.f2)
        ·exact oQF 7 [⟨[.str a8, w34 a9, .i x5_1.2, .i a11], 4, false⟩, Q17, Q17] 1 [] [.agg [.i z10.2.2.1, .str z10.2.2.2.1, q29 z10.2.2.2.2.1, .bool z10.2.2.2.2.2.1, .bool z10.2.2.2.2.2.2.1, w9 z10.2.2.2.2.2.2.2.1, w9 z10.2.2.2.2.2.2.2.2]] (.agg [.i z10.2.2.1, .str z10.2.2.2.1, q29 z10.2.2.2.2.1, .bool z10.2.2.2.2.2.1, .bool z10.2.2.2.2.2.2.1, w9 z10.2.2.2.2.2.2.2.1, w9 z10.2.2.2.2.2.2.2.2]) .ps trivial
      ·refine oS 30 (fun hb => ?_) (fun hb => ?_)
       ·refine oH 2 (atN 6 (ctl1 i14p8)) ((32, .bool z8.2.1) :: (31, .bool z8.2.1) :: (30, .bool true) :: E8) (mkH [Q12, Q5, Q3]) ?_
        refine oS 32 (fun hb => ?_) (fun hb => ?_)
        ·refine oR 7 (atN 13 (ctl1 i14p8)) ((39, .ptr 0 4 0) :: (38, .bool true) :: (37, .bool true) :: (36, .bool true) :: (35, .tuple []) :: (34, .tuple []) :: (33, .tuple []) :: (32, .bool true) :: (32, .bool z8.2.1) :: (31, .bool z8.2.1) :: (30, .bool true) :: E8) ?_
         refine oX (fun (x3_13 : (Bool × Int)) => .bool x3_13.1) (fun x3_13 => [⟨[.str a8, w34 a9, .i x3_13.2, .i a11], 4, false⟩, Q5, Q3]) (atN 14 (ctl1 i14p8)) 40 [0] [] [] [] [] [.ptr 0 4 0, .str [58]] (qAb k ([58] : List Nat) a8 a9 x1_1.2 a11) (qAi k ([58] : List Nat) a8 a9 x1_1.2 a11) trivial (fun _ => trivial) trivial fun x3_13 hx3_13 => ?_
         refine oL 3 i14p10 [(0, .ptr 0 4 0), (4, .ptr 1 7 0), (6, .ptr 2 7 0), (26, .bool x3_13.1)] ?_
         exact hj10 (x3_13.1, x3_13.2, z8.2.2.2.1, z8.2.2.2.2.1, z8.2.2.2.2.2.1, z8.2.2.2.2.2.2.1, z8.2.2.2.2.2.2.2.1, z8.2.2.2.2.2.2.2.2.1, z8.2.2.2.2.2.2.2.2.2)
        ·let E17 : Env := ((38, .bool (decide (z8.2.2.2.1 = 1))) :: (37, .bool (decide (z8.2.2.2.1 = 1))) :: (36, .bool (decide (z8.2.2.2.1 = 1))) :: (35, .bool (decide (z8.2.2.2.1 = 1))) :: (34, .i z8.2.2.2.1) :: (33, .ptr 1 7 0) :: (32, .bool false) :: (32, .bool z8.2.1) :: (31, .bool z8.2.1) :: (30, .bool true) :: E8)
         refine oR 6 (atN 12 (ctl1 i14p8)) E17 ?_
         refine oS 38 (fun hb => ?_) (fun hb => ?_)
         ·refine oR 1 (atN 13 (ctl1 i14p8)) ((39, .ptr 0 4 0) :: (38, .bool true) :: E17) ?_
          refine oX (fun (x3_13 : (Bool × Int)) => .bool x3_13.1) (fun x3_13 => [⟨[.str a8, w34 a9, .i x3_13.2, .i a11], 4, false⟩, Q5, Q3]) (atN 14 (ctl1 i14p8)) 40 [0] [] [] [] [] [.ptr 0 4 0, .str [58]] (qAb k ([58] : List Nat) a8 a9 x1_1.2 a11) (qAi k ([58] : List Nat) a8 a9 x1_1.2 a11) trivial (fun _ => trivial) trivial fun x3_13 hx3_13 => ?_
          refine oL 3 i14p10 [(0, .ptr 0 4 0), (4, .ptr 1 7 0), (6, .ptr 2 7 0), (26, .bool x3_13.1)] ?_
          exact hj10 (x3_13.1, x3_13.2, z8.2.2.2.1, z8.2.2.2.2.1, z8.2.2.2.2.2.1, z8.2.2.2.2.2.2.1, z8.2.2.2.2.2.2.2.1, z8.2.2.2.2.2.2.2.2.1, z8.2.2.2.2.2.2.2.2.2)
         ·refine oL 5 i14p10 [(0, .ptr 0 4 0), (4, .ptr 1 7 0), (6, .ptr 2 7 0), (26, .bool false)] ?_
          exact hj10 (false, x1_1.2, z8.2.2.2.1, z8.2.2.2.2.1, z8.2.2.2.2.2.1, z8.2.2.2.2.2.2.1, z8.2.2.2.2.2.2.2.1, z8.2.2.2.2.2.2.2.2.1, z8.2.2.2.2.2.2.2.2.2)
       ·refine oLH 13 i14p10 [(0, .ptr 0 4 0), (4, .ptr 1 7 0), (6, .ptr 2 7 0), (26, .bool false)] (mkH [Q12, Q5, Q3]) ?_
        exact hj10 (false, x1_1.2, z8.2.2.2.1, z8.2.2.2.2.1, z8.2.2.2.2.2.1, z8.2.2.2.2.2.2.1, z8.2.2.2.2.2.2.2.1, z8.2.2.2.2.2.2.2.2.1, z8.2.2.2.2.2.2.2.2.2)
  ·refine oS 9 (fun hb => ?_) (fun hb => ?_)
   ·refine oH 1 (atN 4 (ctl1 i14p1)) ((10, .agg [.i y7_2, .str y7_3, q29 y7_4, .bool y7_5, .bool y7_6, w9 y7_7, w9 y7_8]) :: (9, .bool true) :: E2) (mkH [Q1, Q2, Q3]) ?_
    refine oA (fun (x0_4 : Bool) => .bool x0_4) (atN 5 (ctl1 i14p1)) 11 [.agg [.i y7_2, .str y7_3, q29 y7_4, .bool y7_5, .bool y7_6, w9 y7_7, w9 y7_8]] (g85_ok k (⟨y7_2, y7_3, y7_4, y7_5, y7_6, y7_7, y7_8⟩ : S28)) fun x0_4 hx0_4 => ?_
    refine oL 3 i14p2 [(0, .ptr 0 4 0), (2, .bool y7_0), (4, .ptr 1 7 0), (6, .ptr 2 7 0), (13, .bool (!x0_4))] ?_
    exact hj8 (!x0_4, y7_0, y7_1, y7_2, y7_3, y7_4, y7_5, y7_6, y7_7, y7_8)
   ·refine oLH 5 i14p2 [(0, .ptr 0 4 0), (2, .bool y7_0), (4, .ptr 1 7 0), (6, .ptr 2 7 0), (13, .bool false)] (mkH [Q1, Q2, Q3]) ?_
    exact hj8 (false, y7_0, y7_1, y7_2, y7_3, y7_4, y7_5, y7_6, y7_7, y7_8)
def i14B (k : Nat) (F : Fns0) (a0 : Int) (a1 : (List Nat)) (a2 : Raw) (a3 : Bool) (a4 : Bool) (a5 : (List (List Nat))) (a6 : (List (List Nat))) (a7 : Bool) (a8 : (List Nat)) (a9 : (List S33)) (a10 : Int) (a11 : Int) : Option (Option (S28 × Int)) :=
 qN k F a8 a9 a10 a11 k a7 a10 a0 a1 a2 a3 a4 a5 a6
theorem qJk (k : Nat) (F : Fns0) (hF : FnsOk0 F) (a0 : Int) (a1 : (List Nat)) (a2 : Raw) (a3 : Bool) (a4 : Bool) (a5 : (List (List Nat))) (a6 : (List (List Nat))) (a7 : Bool) (a8 : (List Nat)) (a9 : (List S33)) (a10 : Int) (a11 : Int) (r : (Option (S28 × Int))) (h : i14B k F a0 a1 a2 a3 a4 a5 a6 a7 a8 a9 a10 a11 = some r) : CallT Try.prog 67 [.ptr 0 4 0, .agg [.i a0, .str a1, q29 a2, .bool a3, .bool a4, w9 a5, w9 a6], .bool a7] (mkH [⟨[.str a8, w34 a9, .i a10, .i a11], 4, false⟩]) ((Xi14 a0 a1 a2 a3 a4 a5 a6 a7 a8 a9 a10 a11).thr r) ((Xi14 a0 a1 a2 a3 a4 a5 a6 a7 a8 a9 a10 a11).enc r) ((Xi14 a0 a1 a2 a3 a4 a5 a6 a7 a8 a9 a10 a11).fin r) := by
 refine qA2 (Xi14 a0 a1 a2 a3 a4 a5 a6 a7 a8 a9 a10 a11) Try.func67 (by kernel_rfl) (by kernel_rfl) rfl (t := i14B k F a0 a1 a2 a3 a4 a5 a6 a7 a8 a9 a10 a11) ?_ h
 unfold i14B
 refine qA0 (eE := [(0, .ptr 0 4 0), (1, .agg [.i a0, .str a1, q29 a2, .bool a3, .bool a4, w9 a5, w9 a6]), (2, .bool a7)]) (by kernel_rfl) ?_
 let Q1 : Blk := ⟨[.str a8, w34 a9, .i a10, .i a11], 4, false⟩
 let Q2 : Blk := ⟨[.i a0, .str a1, q29 a2, .bool a3, .bool a4, w9 a5, w9 a6], 0, false⟩
 let Q3 : Blk := ⟨[.i 0, .str [], .nils, .bool false, .bool false, .nils, .nils], 0, false⟩
 refine oLH 10 i14p1 [(0, .ptr 0 4 0), (2, .bool a7), (4, .ptr 1 7 0), (6, .ptr 2 7 0)] (mkH [Q1, Q2, Q3]) ?_
 refine qLl [Q1, Q2, Q3] 1 [.i a0, .str a1, q29 a2, .bool a3, .bool a4, w9 a5, w9 a6] 0 7 rfl rfl (by decide) ?_
 refine oHp (mkH [Q1, ⟨[.i a0, .str a1, q29 a2, .bool a3, .bool a4, w9 a5, w9 a6], 7, false⟩, Q3]) ?_
 exact (qMz k F hF a0 a1 a2 a3 a4 a5 a6 a7 a8 a9 a10 a11 k) a7 a10 a0 a1 a2 a3 a4 a5 a6
theorem i14B_ok (k : Nat) (F : Fns0) (hF : FnsOk0 F) : Pi14 (i14B k F) := fun a0 a1 a2 a3 a4 a5 a6 a7 a8 a9 a10 a11 x h => qJk k F hF a0 a1 a2 a3 a4 a5 a6 a7 a8 a9 a10 a11 (some x) h
theorem i14B_thr (k : Nat) (F : Fns0) (hF : FnsOk0 F) : Qi14 (i14B k F) := fun a0 a1 a2 a3 a4 a5 a6 a7 a8 a9 a10 a11 h => ⟨_, qJk k F hF a0 a1 a2 a3 a4 a5 a6 a7 a8 a9 a10 a11 none h⟩
def Xi17 (a0 : (List Nat)) (a1 : (List S33)) (a2 : Int) (a3 : Int) : Fx (Option (S28 × Int)) := ⟨Try.prog, cx, Try.f76, fun r => match r with | some r => .agg [.i r.1.f0, .str r.1.f1, q29 r.1.f2, .bool r.1.f3, .bool r.1.f4, w9 r.1.f5, w9 r.1.f6] | none => .top, 1, fun r => match r with | some r => (mkH [⟨[.str a0, w34 a1, .i r.2, .i a3], 4, false⟩]) | none => (mkH [⟨[.str a0, w34 a1, .i a2, .i a3], 4, false⟩]), cxTi, cxOrd, fun r => match r with | some _ => none | none => some (thrown, [0]), false⟩
def i17p0 : Pt := nav [0] (bodyAt Try.f76)
def i17p1 : Pt := nav [0, 0, 0] i17p0
def i17p2 : Pt := nav [0, 0, 0] i17p1
def i17B (k : Nat) (F : Fns0) (a0 : (List Nat)) (a1 : (List S33)) (a2 : Int) (a3 : Int) : Option (Option (S28 × Int)) :=
 bT (F.i5 (0 : Int) a0 a1 a2 a3) fun x0_1 => bT (i23 k ([41] : List Nat) a0 a1 x0_1.2 a3) fun x1_1 => some (some ((⟨x0_1.1.f0, x0_1.1.f1, x0_1.1.f2, x0_1.1.f3, x0_1.1.f4, x0_1.1.f5, x0_1.1.f6⟩ : S28), x1_1))
theorem qJj (k : Nat) (F : Fns0) (hF : FnsOk0 F) (a0 : (List Nat)) (a1 : (List S33)) (a2 : Int) (a3 : Int) (r : (Option (S28 × Int))) (h : i17B k F a0 a1 a2 a3 = some r) : CallT Try.prog 76 [.ptr 0 4 0] (mkH [⟨[.str a0, w34 a1, .i a2, .i a3], 4, false⟩]) ((Xi17 a0 a1 a2 a3).thr r) ((Xi17 a0 a1 a2 a3).enc r) ((Xi17 a0 a1 a2 a3).fin r) := by
 refine qA2 (Xi17 a0 a1 a2 a3) Try.func76 (by kernel_rfl) (by kernel_rfl) rfl (t := i17B k F a0 a1 a2 a3) ?_ h
 unfold i17B
 refine qA0 (eE := [(0, .ptr 0 4 0)]) (by kernel_rfl) ?_
 let Q1 : Blk := ⟨[.i 0, .str [], .nils, .bool false, .bool false, .nils, .nils], 0, false⟩
 refine oH 7 (atN 1 (ctl1 i17p1)) [(4, .ptr 0 4 0), (2, .ptr 1 7 0), (0, .ptr 0 4 0)] (mkH [⟨[.str a0, w34 a1, .i a2, .i a3], 4, false⟩, Q1]) ?_
 refine oX (fun (x0_1 : (S28 × Int)) => n29 x0_1.1) (fun x0_1 => [⟨[.str a0, w34 a1, .i x0_1.2, .i a3], 4, false⟩, Q1]) (atN 2 (ctl1 i17p1)) 5 [0] [] [] [0] [] [.ptr 0 4 0, .i 0] (hF.i5_thr (0 : Int) a0 a1 a2 a3) (hF.i5_ok (0 : Int) a0 a1 a2 a3) trivial (fun _ => trivial) trivial fun x0_1 hx0_1 => ?_
 refine oH 6 (atN 1 (ctl1 i17p2)) [(6, .ptr 0 4 0), (3, .ptr 2 7 0), (5, n29 x0_1.1), (4, .ptr 0 4 0), (2, .ptr 1 7 0), (0, .ptr 0 4 0)] (mkH [⟨[.str a0, w34 a1, .i x0_1.2, .i a3], 4, false⟩, Q1, ⟨e29 x0_1.1, 7, false⟩]) ?_
 refine oX (fun (x1_1 : Int) => .tuple []) (fun x1_1 => [⟨[.str a0, w34 a1, .i x1_1, .i a3], 4, false⟩, Q1, ⟨e29 x0_1.1, 7, false⟩]) (atN 2 (ctl1 i17p2)) 7 [0] [] [] [0] [] [.ptr 0 4 0, .str [41]] (qAj k ([41] : List Nat) a0 a1 x0_1.2 a3) (qAw k ([41] : List Nat) a0 a1 x0_1.2 a3) trivial (fun _ => trivial) trivial fun x1_1 hx1_1 => ?_
 exact oQF 7 [⟨[.str a0, w34 a1, .i x1_1, .i a3], 4, false⟩, ⟨e29 x0_1.1, 7, false⟩, ⟨e29 x0_1.1, 7, false⟩] 1 [] [n29 x0_1.1] (n29 x0_1.1) .ps trivial
theorem i17B_ok (k : Nat) (F : Fns0) (hF : FnsOk0 F) : Pi17 (i17B k F) := fun a0 a1 a2 a3 x h => qJj k F hF a0 a1 a2 a3 (some x) h
theorem i17B_thr (k : Nat) (F : Fns0) (hF : FnsOk0 F) : Qi17 (i17B k F) := fun a0 a1 a2 a3 h => ⟨_, qJj k F hF a0 a1 a2 a3 none h⟩
def Xi18 (a0 : Int) (a1 : (List Nat)) (a2 : Bool) (a3 : Bool) (a4 : (List (List Nat))) (a5 : (List (List Nat))) (a6 : (List Nat)) (a7 : (List Nat)) (a8 : (List S33)) (a9 : Int) (a10 : Int) (b1 : (List S28)) : Fx (Option Ri18) := ⟨Try.prog, cx, Try.f77, fun r => match r with | some r => .agg [.i r.1, .str r.2.1, .own 1 (r.2.2.2.2.2.2.2).length 7, .bool r.2.2.1, .bool r.2.2.2.1, w9 r.2.2.2.2.1, w9 r.2.2.2.2.2.1] | none => .top, 2, fun r => match r with | some r => (mkH [⟨[.str a7, w34 a8, .i r.2.2.2.2.2.2.1, .i a10], 4, false⟩, ⟨(r.2.2.2.2.2.2.2).flatMap e29, 0, false⟩]) | none => (mkH [⟨[.str a7, w34 a8, .i a9, .i a10], 4, false⟩, ⟨(b1).flatMap e29, 0, false⟩]), cxTi, cxOrd, fun r => match r with | some _ => none | none => some (thrown, [0, 1]), false⟩
def i18p0 : Pt := nav [0] (bodyAt Try.f77)
def i18p1 : Pt := nav [0, 0, 0, 0] i18p0
def i18p2 : Pt := nav [0, 0, 0] i18p1
def i18p3 : Pt := nav [0, 0, 0, 0] i18p2
def i18p4 : Pt := nav [0, 0] i18p3
def i18p5 : Pt := nav [1, 0] i18p4
def i18p6 : Pt := nav [2, 0, 0, 0, 0] i18p4
def i18p7 : Pt := nav [0, 0, 0] i18p5
def i18p8 : Pt := nav [0, 0, 0] i18p6
def i18p10 : Pt := nav [0, 0, 0] i18p8
def i18p11 : Pt := nav [0, 0, 0, 0] i18p10
def i18p12 : Pt := nav [0, 0, 0] i18p11
def i18p13 : Pt := nav [0, 0] i18p12
def i18p14 : Pt := nav [1, 0] i18p13
def i18p15 : Pt := nav [2, 0, 0] i18p13
def i18p16 : Pt := nav [0, 0, 0] i18p14
def i18p17 : Pt := nav [0, 0, 0] i18p15
def i18p18 : Pt := nav [0, 0, 0] i18p17
def qFi (k : Nat) (F : Fns0)  (a0 : Int) (a1 : (List Nat)) (a3 : Bool) (a4 : (List (List Nat))) (a5 : (List (List Nat))) (a6 : (List Nat)) (a7 : (List Nat)) (a8 : (List S33)) (a10 : Int) (x0_1 : Bool) (ih : (List (List Nat)) → Int → (List S28) → Option (Option Ri18)) : (List (List Nat)) → Int → (List S28) → Option (Option Ri18) :=
 fun (y10_0 : (List (List Nat))) (y10_1 : Int) (y10_2 : (List S28)) => bT (F.i29 a7 a8 y10_1 a10) fun x3_1 => (appS 104 y10_2 ([(⟨x3_1.1.f0, x3_1.1.f1, x3_1.1.f2, x3_1.1.f3, x3_1.1.f4, y10_0, x3_1.1.f6⟩ : S28)] : List S28)).bind fun x4_4 => (i12 k a7 a8 x3_1.2 a10).bind fun x5_1 => bT (i7 k a6 a7 a8 x5_1.2 a10) fun x6_2 => if x6_2.1 then (some (some (a0, a1, x0_1, a3, a4, x5_1.1, x6_2.2, x4_4))) else (bT (i16 k (decide ((x5_1.1.length : Int) = 0))) fun x7_3 => bT (i23 k ([44] : List Nat) a7 a8 x6_2.2 a10) fun x8_1 => (i12 k a7 a8 x8_1 a10).bind fun x9_1 => ih x9_1.1 x9_1.2 x4_4)
def qHd (k : Nat) (F : Fns0)  (a0 : Int) (a1 : (List Nat)) (a3 : Bool) (a4 : (List (List Nat))) (a5 : (List (List Nat))) (a6 : (List Nat)) (a7 : (List Nat)) (a8 : (List S33)) (a10 : Int) (x0_1 : Bool) (n : Nat) : (List (List Nat)) → Int → (List S28) → Option (Option Ri18) := lp (fun _ _ _ => none) (qFi k F a0 a1 a3 a4 a5 a6 a7 a8 a10 x0_1) n
theorem qKm (k : Nat) (F : Fns0) (hF : FnsOk0 F) (a0 : Int) (a1 : (List Nat)) (a2 : Bool) (a3 : Bool) (a4 : (List (List Nat))) (a5 : (List (List Nat))) (a6 : (List Nat)) (a7 : (List Nat)) (a8 : (List S33)) (a9 : Int) (a10 : Int) (b1 : (List S28))  (x0_1 : Bool)  : ∀ (n : Nat) (y10_0 : (List (List Nat))) (y10_1 : Int) (y10_2 : (List S28)), Ok (Xi18 a0 a1 a2 a3 a4 a5 a6 a7 a8 a9 a10 b1) i18p6 [(0, .ptr 0 4 0), (2, .str a6), (3, .func 78 [.ptr 0 4 0] []), (5, .ptr 2 7 0), (8, .ptr 3 7 0), (9, w9 y10_0)] (mkH [⟨[.str a7, w34 a8, .i y10_1, .i a10], 4, false⟩, ⟨(y10_2).flatMap e29, 0, false⟩, ⟨[.i a0, .str a1, .own 1 (y10_2).length 7, .bool x0_1, .bool a3, w9 a4, w9 a5], 7, false⟩, ⟨[.i 0, .str [], .nils, .bool false, .bool false, .nils, .nils], 0, false⟩]) (qHd k F a0 a1 a3 a4 a5 a6 a7 a8 a10 x0_1 n y10_0 y10_1 y10_2) := by
 intro n
 induction n with
 | zero => intro y10_0 y10_1 y10_2; exact ok_none
 | succ n ih =>
  intro y10_0 y10_1 y10_2
  show Ok _ _ _ _ (qFi k F a0 a1 a3 a4 a5 a6 a7 a8 a10 x0_1 (qHd k F a0 a1 a3 a4 a5 a6 a7 a8 a10 x0_1 n) y10_0 y10_1 y10_2)
  unfold qFi
  let E5 : Env := [(22, .func 78 [.ptr 0 4 0] []), (0, .ptr 0 4 0), (2, .str a6), (3, .func 78 [.ptr 0 4 0] []), (5, .ptr 2 7 0), (8, .ptr 3 7 0), (9, w9 y10_0)]
  let Q1 : Blk := ⟨(y10_2).flatMap e29, 0, false⟩
  let Q2 : Blk := ⟨[.i a0, .str a1, .own 1 (y10_2).length 7, .bool x0_1, .bool a3, w9 a4, w9 a5], 7, false⟩
  let Q3 : Blk := ⟨[.i 0, .str [], .nils, .bool false, .bool false, .nils, .nils], 0, false⟩
  refine oH 2 (atN 1 (ctl1 i18p6)) E5 (mkH [⟨[.str a7, w34 a8, .i y10_1, .i a10], 4, false⟩, Q1, Q2, Q3]) ?_
  refine oX (fun (x3_1 : (S28 × Int)) => n29 x3_1.1) (fun x3_1 => [⟨[.str a7, w34 a8, .i x3_1.2, .i a10], 4, false⟩, Q1, Q2, Q3]) (atN 2 (ctl1 i18p6)) 23 [0] [] [] [0, 2] [0, 1] [.ptr 0 4 0] (hF.i29_thr a7 a8 y10_1 a10) (hF.i29_ok a7 a8 y10_1 a10) trivial (fun _ => trivial) ⟨u29 _, trivial⟩ fun x3_1 hx3_1 => ?_
  let Q4 : Blk := ⟨[.str a7, w34 a8, .i x3_1.2, .i a10], 4, false⟩
  let Q5 : Blk := ⟨[.i x3_1.1.f0, .str x3_1.1.f1, q29 x3_1.1.f2, .bool x3_1.1.f3, .bool x3_1.1.f4, w9 y10_0, w9 x3_1.1.f6], 7, false⟩
  let Q6 : Blk := ⟨[.i x3_1.1.f0, .str x3_1.1.f1, q29 x3_1.1.f2, .bool x3_1.1.f3, .bool x3_1.1.f4, w9 y10_0, w9 x3_1.1.f6], 0, false⟩
  refine oH 15 (atN 4 (ctl1 i18p10)) ((29, .slice 5 7 0 1 7) :: (28, .agg [.i x3_1.1.f0, .str x3_1.1.f1, q29 x3_1.1.f2, .bool x3_1.1.f3, .bool x3_1.1.f4, w9 y10_0, w9 x3_1.1.f6]) :: (27, .own 1 (y10_2).length 7) :: (26, .ptr 2 7 2) :: (25, .ptr 4 7 5) :: (24, w9 y10_0) :: (10, .ptr 4 7 0) :: (23, n29 x3_1.1) :: E5) (mkH [Q4, Q1, Q2, Q3, Q5, Q6]) ?_
  refine oC (fun (x4_4 : (List S28)) => (.own 1 (x4_4).length 7, (mkH [Q4, ⟨(x4_4).flatMap e29, 0, false⟩, Q2, Q3, Q5, Q6]))) (atN 5 (ctl1 i18p10)) 30 (appH (sz := 7) qA7 rfl qAx [Q4, Q1, Q2, Q3, Q5, Q6] 1 104 y10_2 ([(⟨x3_1.1.f0, x3_1.1.f1, x3_1.1.f2, x3_1.1.f3, x3_1.1.f4, y10_0, x3_1.1.f6⟩ : S28)] : List S28) rfl rfl (by kernel_rfl)) fun x4_4 hx4_4 => ?_
  let E7 : Env := [(0, .ptr 0 4 0), (2, .str a6), (3, .func 78 [.ptr 0 4 0] []), (5, .ptr 2 7 0), (8, .ptr 3 7 0)]
  let Q7 : Blk := ⟨(x4_4).flatMap e29, 0, false⟩
  let Q8 : Blk := ⟨[.i a0, .str a1, .own 1 (x4_4).length 7, .bool x0_1, .bool a3, w9 a4, w9 a5], 7, false⟩
  refine oLH 5 i18p11 E7 (mkH [Q4, Q7, Q8, Q3, Q5, Q6]) ?_
  refine oR 2 (atN 1 (ctl1 i18p11)) ((32, .ptr 0 4 0) :: E7) ?_
  refine oN (fun (x5_1 : Ri12) => w9 x5_1.1) (fun x5_1 => [⟨[.str a7, w34 a8, .i x5_1.2, .i a10], 4, false⟩, Q7, Q8, Q3, Q5, Q6]) (atN 2 (ctl1 i18p11)) 33 [0] [] [] [.ptr 0 4 0] (qAl k a7 a8 x3_1.2 a10) trivial (fun _ => trivial) fun x5_1 hx5_1 => ?_
  let E8 : Env := ((35, .str a6) :: (34, .ptr 0 4 0) :: (9, w9 x5_1.1) :: (33, w9 x5_1.1) :: (32, .ptr 0 4 0) :: E7)
  refine oR 6 (atN 2 (ctl1 i18p12)) E8 ?_
  refine oX (fun (x6_2 : (Bool × Int)) => .bool x6_2.1) (fun x6_2 => [⟨[.str a7, w34 a8, .i x6_2.2, .i a10], 4, false⟩, Q7, Q8, Q3, Q5, Q6]) (atN 3 (ctl1 i18p12)) 36 [0] [] [] [2] [0, 1] [.ptr 0 4 0, .str a6] (qAb k a6 a7 a8 x5_1.2 a10) (qAi k a6 a7 a8 x5_1.2 a10) trivial (fun _ => trivial) ⟨u29 _, trivial⟩ fun x6_2 hx6_2 => ?_
  refine oR 1 i18p13 ((36, .bool x6_2.1) :: E8) ?_
  refine oS 36 (fun hb => ?_) (fun hb => ?_)
  ·let Q9 : Blk := ⟨[.str a7, w34 a8, .i x6_2.2, .i a10], 4, false⟩
   let Q10 : Blk := ⟨[.i a0, .str a1, .own 1 (x4_4).length 7, .bool x0_1, .bool a3, w9 a4, w9 x5_1.1], 7, false⟩
   refine oLH 8 i18p16 [(5, .ptr 2 7 0), (8, .ptr 3 7 0)] (mkH [Q9, Q7, Q10, Q3, Q5, Q6]) ?_
   refine oH 5 .fin ((39, .agg [.i a0, .str a1, .own 1 (x4_4).length 7, .bool x0_1, .bool a3, w9 a4, w9 x5_1.1]) :: [(5, .ptr 2 7 0), (8, .ptr 3 7 0)]) (mkH [Q9, Q7, Q10, Q10, Q5, Q6]) ?_
   exact qBp (r := some (a0, a1, x0_1, a3, a4, x5_1.1, x6_2.2, x4_4)) (xs := [.agg [.i a0, .str a1, .own 1 (x4_4).length 7, .bool x0_1, .bool a3, w9 a4, w9 x5_1.1]]) [Q9, Q7] [Q10, Q10, Q5, Q6] (by kernel_rfl) (by kernel_rfl) (by kernel_rfl) (by kernel_rfl) (by kernel_rfl) ⟨(by kernel_rfl), ⟨(qA3 _ (u29 _)), trivial⟩⟩ (by kernel_rfl) (by kernel_rfl)
  ·let E10 : Env := ((42, .bool (decide ((x5_1.1.length : Int) = 0))) :: (41, .i (x5_1.1.length : Int)) :: (40, w9 x5_1.1) :: (36, .bool false) :: (36, .bool x6_2.1) :: E8)
   refine oR 7 (atN 3 (ctl1 i18p15)) E10 ?_
   refine oX (fun (x7_3 : Unit) => .tuple []) (fun x7_3 => [⟨[.str a7, w34 a8, .i x6_2.2, .i a10], 4, false⟩, Q7, Q8, Q3, Q5, Q6]) (atN 4 (ctl1 i18p15)) 43 [] [] [] [2] [0, 1] [.bool (decide ((x5_1.1.length : Int) = 0))] (qC7 k (decide ((x5_1.1.length : Int) = 0))) (qDb k (decide ((x5_1.1.length : Int) = 0))) trivial (fun _ => trivial) ⟨u29 _, trivial⟩ fun x7_3 hx7_3 => ?_
   refine oR 2 i18p17 ((43, .tuple []) :: E10) ?_
   refine oK0 [0, 2, 3, 5, 8] ?_
   let E11 : Env := keepOnly ((43, .tuple []) :: E10) [0, 2, 3, 5, 8]
   refine oR 2 (atN 1 (ctl1 i18p17)) ((44, .ptr 0 4 0) :: E11) ?_
   refine oX (fun (x8_1 : Int) => .tuple []) (fun x8_1 => [⟨[.str a7, w34 a8, .i x8_1, .i a10], 4, false⟩, Q7, Q8, Q3, Q5, Q6]) (atN 2 (ctl1 i18p17)) 45 [0] [] [] [0, 2] [0, 1] [.ptr 0 4 0, .str [44]] (qAj k ([44] : List Nat) a7 a8 x6_2.2 a10) (qAw k ([44] : List Nat) a7 a8 x6_2.2 a10) trivial (fun _ => trivial) ⟨u29 _, trivial⟩ fun x8_1 hx8_1 => ?_
   refine oR 4 (atN 1 (ctl1 i18p18)) ((46, .ptr 0 4 0) :: (45, .tuple []) :: (44, .ptr 0 4 0) :: E11) ?_
   refine oN (fun (x9_1 : Ri12) => w9 x9_1.1) (fun x9_1 => [⟨[.str a7, w34 a8, .i x9_1.2, .i a10], 4, false⟩, Q7, Q8, Q3, Q5, Q6]) (atN 2 (ctl1 i18p18)) 47 [0] [] [] [.ptr 0 4 0] (qAl k a7 a8 x8_1 a10) trivial (fun _ => trivial) fun x9_1 hx9_1 => ?_
   refine oL 6 i18p6 [(0, .ptr 0 4 0), (2, .str a6), (3, .func 78 [.ptr 0 4 0] []), (5, .ptr 2 7 0), (8, .ptr 3 7 0), (9, w9 x9_1.1)] ?_
   refine qAc [⟨[.str a7, w34 a8, .i x9_1.2, .i a10], 4, false⟩, Q7, Q8, Q3] [Q5, Q6] (by kernel_rfl) rfl (by kernel_rfl) ⟨(by kernel_rfl), ⟨(qA3 _ (u29 _)), ⟨(by kernel_rfl), ⟨(by kernel_rfl), trivial⟩⟩⟩⟩ ?_
   exact ih x9_1.1 x9_1.2 x4_4
def i18B (k : Nat) (F : Fns0) (a0 : Int) (a1 : (List Nat)) (a2 : Bool) (a3 : Bool) (a4 : (List (List Nat))) (a5 : (List (List Nat))) (a6 : (List Nat)) (a7 : (List Nat)) (a8 : (List S33)) (a9 : Int) (a10 : Int) (b1 : (List S28)) : Option (Option Ri18) :=
 (i28 k a7 a8 a9 a10).bind fun x0_1 => (i12 k a7 a8 a9 a10).bind fun x1_1 => bT (i7 k a6 a7 a8 x1_1.2 a10) fun x2_2 => if x2_2.1 then (some (some (a0, a1, x0_1, a3, a4, x1_1.1, x2_2.2, b1))) else (qHd k F a0 a1 a3 a4 a5 a6 a7 a8 a10 x0_1 k x1_1.1 x2_2.2 b1)
theorem qJi (k : Nat) (F : Fns0) (hF : FnsOk0 F) (a0 : Int) (a1 : (List Nat)) (a2 : Bool) (a3 : Bool) (a4 : (List (List Nat))) (a5 : (List (List Nat))) (a6 : (List Nat)) (a7 : (List Nat)) (a8 : (List S33)) (a9 : Int) (a10 : Int) (b1 : (List S28)) (r : (Option Ri18)) (h : i18B k F a0 a1 a2 a3 a4 a5 a6 a7 a8 a9 a10 b1 = some r) : CallT Try.prog 77 [.ptr 0 4 0, .agg [.i a0, .str a1, .own 1 (b1).length 7, .bool a2, .bool a3, w9 a4, w9 a5], .str a6, .func 78 [.ptr 0 4 0] []] (mkH [⟨[.str a7, w34 a8, .i a9, .i a10], 4, false⟩, ⟨(b1).flatMap e29, 0, false⟩]) ((Xi18 a0 a1 a2 a3 a4 a5 a6 a7 a8 a9 a10 b1).thr r) ((Xi18 a0 a1 a2 a3 a4 a5 a6 a7 a8 a9 a10 b1).enc r) ((Xi18 a0 a1 a2 a3 a4 a5 a6 a7 a8 a9 a10 b1).fin r) := by
 refine qA2 (Xi18 a0 a1 a2 a3 a4 a5 a6 a7 a8 a9 a10 b1) Try.func77 (by kernel_rfl) (by kernel_rfl) rfl (t := i18B k F a0 a1 a2 a3 a4 a5 a6 a7 a8 a9 a10 b1) ?_ h
 unfold i18B
 refine qA0 (eE := [(0, .ptr 0 4 0), (1, .agg [.i a0, .str a1, .own 1 (b1).length 7, .bool a2, .bool a3, w9 a4, w9 a5]), (2, .str a6), (3, .func 78 [.ptr 0 4 0] [])]) (by kernel_rfl) ?_
 let E1 : Env := [(11, .ptr 0 4 0), (8, .ptr 3 7 0), (5, .ptr 2 7 0), (0, .ptr 0 4 0), (1, .agg [.i a0, .str a1, .own 1 (b1).length 7, .bool a2, .bool a3, w9 a4, w9 a5]), (2, .str a6), (3, .func 78 [.ptr 0 4 0] [])]
 let Q1 : Blk := ⟨[.str a7, w34 a8, .i a9, .i a10], 4, false⟩
 let Q2 : Blk := ⟨(b1).flatMap e29, 0, false⟩
 let Q3 : Blk := ⟨[.i a0, .str a1, .own 1 (b1).length 7, .bool a2, .bool a3, w9 a4, w9 a5], 0, false⟩
 let Q4 : Blk := ⟨[.i 0, .str [], .nils, .bool false, .bool false, .nils, .nils], 0, false⟩
 refine oH 9 (atN 1 (ctl1 i18p1)) E1 (mkH [Q1, Q2, Q3, Q4]) ?_
 refine oN (fun (x0_1 : Bool) => .bool x0_1) (fun x0_1 => [Q1, Q2, Q3, Q4]) (atN 2 (ctl1 i18p1)) 12 [0] [] [] [.ptr 0 4 0] (qGe k a7 a8 a9 a10) trivial (fun _ => trivial) fun x0_1 hx0_1 => ?_
 let Q5 : Blk := ⟨[.i a0, .str a1, .own 1 (b1).length 7, .bool x0_1, .bool a3, w9 a4, w9 a5], 7, false⟩
 refine oH 6 (atN 1 (ctl1 i18p2)) ((14, .ptr 0 4 0) :: (13, .ptr 2 7 3) :: (12, .bool x0_1) :: E1) (mkH [Q1, Q2, Q5, Q4]) ?_
 refine oN (fun (x1_1 : Ri12) => w9 x1_1.1) (fun x1_1 => [⟨[.str a7, w34 a8, .i x1_1.2, .i a10], 4, false⟩, Q2, Q5, Q4]) (atN 2 (ctl1 i18p2)) 15 [0] [] [] [.ptr 0 4 0] (qAl k a7 a8 a9 a10) trivial (fun _ => trivial) fun x1_1 hx1_1 => ?_
 let E2 : Env := ((17, .str a6) :: (16, .ptr 0 4 0) :: (9, w9 x1_1.1) :: (15, w9 x1_1.1) :: (14, .ptr 0 4 0) :: (13, .ptr 2 7 3) :: (12, .bool x0_1) :: E1)
 refine oR 7 (atN 2 (ctl1 i18p3)) E2 ?_
 refine oX (fun (x2_2 : (Bool × Int)) => .bool x2_2.1) (fun x2_2 => [⟨[.str a7, w34 a8, .i x2_2.2, .i a10], 4, false⟩, Q2, Q5, Q4]) (atN 3 (ctl1 i18p3)) 18 [0] [] [] [2] [0, 1] [.ptr 0 4 0, .str a6] (qAb k a6 a7 a8 x1_1.2 a10) (qAi k a6 a7 a8 x1_1.2 a10) trivial (fun _ => trivial) ⟨u29 _, trivial⟩ fun x2_2 hx2_2 => ?_
 refine oR 1 i18p4 ((18, .bool x2_2.1) :: E2) ?_
 refine oK [0, 2, 3, 5, 8, 9, 18] [(0, .ptr 0 4 0), (2, .str a6), (3, .func 78 [.ptr 0 4 0] []), (5, .ptr 2 7 0), (8, .ptr 3 7 0), (9, w9 x1_1.1), (18, .bool x2_2.1)] ?_
 refine oS 18 (fun hb => ?_) (fun hb => ?_)
 ·let Q6 : Blk := ⟨[.str a7, w34 a8, .i x2_2.2, .i a10], 4, false⟩
  let Q7 : Blk := ⟨[.i a0, .str a1, .own 1 (b1).length 7, .bool x0_1, .bool a3, w9 a4, w9 x1_1.1], 7, false⟩
  refine oLH 8 i18p7 [(5, .ptr 2 7 0), (8, .ptr 3 7 0)] (mkH [Q6, Q2, Q7, Q4]) ?_
  refine oH 5 .fin ((21, .agg [.i a0, .str a1, .own 1 (b1).length 7, .bool x0_1, .bool a3, w9 a4, w9 x1_1.1]) :: [(5, .ptr 2 7 0), (8, .ptr 3 7 0)]) (mkH [Q6, Q2, Q7, Q7]) ?_
  exact qBp (r := some (a0, a1, x0_1, a3, a4, x1_1.1, x2_2.2, b1)) (xs := [.agg [.i a0, .str a1, .own 1 (b1).length 7, .bool x0_1, .bool a3, w9 a4, w9 x1_1.1]]) [Q6, Q2] [Q7, Q7] (by kernel_rfl) (by kernel_rfl) (by kernel_rfl) (by kernel_rfl) (by kernel_rfl) ⟨(by kernel_rfl), ⟨(qA3 _ (u29 _)), trivial⟩⟩ (by kernel_rfl) (by kernel_rfl)
 ·refine oR 5 i18p6 ((18, .bool false) :: (keepOnly ((18, .bool x2_2.1) :: E2) [0, 2, 3, 5, 8, 9, 18])) ?_
  refine oK [0, 2, 3, 5, 8, 9] [(0, .ptr 0 4 0), (2, .str a6), (3, .func 78 [.ptr 0 4 0] []), (5, .ptr 2 7 0), (8, .ptr 3 7 0), (9, w9 x1_1.1)] ?_
  exact (qKm k F hF a0 a1 a2 a3 a4 a5 a6 a7 a8 a9 a10 b1 x0_1 k) x1_1.1 x2_2.2 b1
theorem i18B_ok (k : Nat) (F : Fns0) (hF : FnsOk0 F) : Pi18 (i18B k F) := fun a0 a1 a2 a3 a4 a5 a6 a7 a8 a9 a10 b1 x h => qJi k F hF a0 a1 a2 a3 a4 a5 a6 a7 a8 a9 a10 b1 (some x) h
theorem i18B_thr (k : Nat) (F : Fns0) (hF : FnsOk0 F) : Qi18 (i18B k F) := fun a0 a1 a2 a3 a4 a5 a6 a7 a8 a9 a10 b1 h => ⟨_, qJi k F hF a0 a1 a2 a3 a4 a5 a6 a7 a8 a9 a10 b1 none h⟩
def Xi19 (a0 : (List Nat)) (a1 : (List S33)) (a2 : Int) (a3 : Int) : Fx (Option (S28 × Int)) := ⟨Try.prog, cx, Try.f79, fun r => match r with | some r => .agg [.i r.1.f0, .str r.1.f1, q29 r.1.f2, .bool r.1.f3, .bool r.1.f4, w9 r.1.f5, w9 r.1.f6] | none => .top, 1, fun r => match r with | some r => (mkH [⟨[.str a0, w34 a1, .i r.2, .i a3], 4, false⟩]) | none => (mkH [⟨[.str a0, w34 a1, .i a2, .i a3], 4, false⟩]), cxTi, cxOrd, fun r => match r with | some _ => none | none => some (thrown, [0]), false⟩
def i19p0 : Pt := nav [0] (bodyAt Try.f79)
def i19p1 : Pt := nav [0, 0, 0, 0] i19p0
def i19p2 : Pt := nav [0, 0, 0] i19p1
def i19p3 : Pt := nav [0, 0, 0, 0] i19p2
def i19p4 : Pt := nav [0, 0] i19p3
def i19p5 : Pt := nav [1, 0] i19p4
def i19p6 : Pt := nav [2, 0, 0] i19p4
def i19p7 : Pt := nav [0, 0, 0] i19p5
def i19p8 : Pt := nav [0, 0, 0, 0] i19p6
def i19p10 : Pt := nav [0, 0] i19p8
def i19p11 : Pt := nav [1, 0] i19p10
def i19p12 : Pt := nav [2, 0, 0, 0, 0] i19p10
def i19p13 : Pt := nav [0, 0, 0] i19p12
def i19p14 : Pt := nav [0, 0, 0, 0] i19p13
def i19p15 : Pt := nav [0, 0] i19p14
def i19p16 : Pt := nav [1, 0] i19p15
def i19p17 : Pt := nav [2, 0, 0, 0] i19p15
def i19p18 : Pt := nav [0, 0] i19p16
def i19p19 : Pt := nav [0, 0, 0] i19p17
def i19p20 : Pt := nav [0, 0, 0] i19p18
def i19p21 : Pt := nav [0, 0] i19p19
def i19p23 : Pt := nav [1, 0] i19p21
def i19p24 : Pt := nav [2, 0, 0] i19p21
def i19p25 : Pt := nav [0, 0, 0] i19p23
def i19p26 : Pt := nav [0, 0, 0] i19p24
def i19p27 : Pt := nav [0, 0, 0] i19p26
def i19p28 : Pt := nav [0, 0, 0] i19p27
def qFh (k : Nat) (F : Fns0)  (a0 : (List Nat)) (a1 : (List S33)) (a2 : Int) (a3 : Int) (x0_1 : Bool) (ih : (List (List Nat)) → Int → (List S28) → Int → (List Nat) → Raw → Bool → Bool → (List (List Nat)) → (List (List Nat)) → Option (Option (S28 × Int))) : (List (List Nat)) → Int → (List S28) → Int → (List Nat) → Raw → Bool → Bool → (List (List Nat)) → (List (List Nat)) → Option (Option (S28 × Int)) :=
 fun (y18_0 : (List (List Nat))) (y18_1 : Int) (y18_2 : (List S28)) (y18_3 : Int) (y18_4 : (List Nat)) (y18_5 : Raw) (y18_6 : Bool) (y18_7 : Bool) (y18_8 : (List (List Nat))) (y18_9 : (List (List Nat))) => (appS 104 y18_2 ([(⟨y18_3, y18_4, y18_5, y18_6, y18_7, y18_0, y18_9⟩ : S28)] : List S28)).bind fun x6_4 => bT (i7 k ([124] : List Nat) a0 a1 y18_1 a3) fun x7_1 => if x7_1.1 then (bT (F.i5 (3 : Int) a0 a1 x7_1.2 a3) fun x8_3 => (appS 104 x6_4 ([x8_3.1] : List S28)).bind fun x8_5 => (i12 k a0 a1 x8_3.2 a3).bind fun x9_1 => bT (i23 k ([93] : List Nat) a0 a1 x9_1.2 a3) fun x10_1 => some (some ((⟨(5 : Int), ([124] : List Nat), ⟨(x8_5).length, (x8_5).flatMap e29⟩, x0_1, false, ([] : List (List Nat)), x9_1.1⟩ : S28), x10_1))) else ((i12 k a0 a1 x7_1.2 a3).bind fun x11_1 => bT (i7 k ([93] : List Nat) a0 a1 x11_1.2 a3) fun x12_1 => if x12_1.1 then (some (some ((⟨(5 : Int), ([] : List Nat), ⟨(x6_4).length, (x6_4).flatMap e29⟩, x0_1, false, ([] : List (List Nat)), x11_1.1⟩ : S28), x12_1.2))) else (bT (i16 k (decide ((x11_1.1.length : Int) = 0))) fun x13_3 => bT (i23 k ([44] : List Nat) a0 a1 x12_1.2 a3) fun x14_1 => (i12 k a0 a1 x14_1 a3).bind fun x15_1 => bT (F.i5 (3 : Int) a0 a1 x15_1.2 a3) fun x16_1 => ih x15_1.1 x16_1.2 x6_4 x16_1.1.f0 x16_1.1.f1 x16_1.1.f2 x16_1.1.f3 x16_1.1.f4 x16_1.1.f5 x16_1.1.f6))
def qHc (k : Nat) (F : Fns0)  (a0 : (List Nat)) (a1 : (List S33)) (a2 : Int) (a3 : Int) (x0_1 : Bool) (n : Nat) : (List (List Nat)) → Int → (List S28) → Int → (List Nat) → Raw → Bool → Bool → (List (List Nat)) → (List (List Nat)) → Option (Option (S28 × Int)) := lp (fun _ _ _ _ _ _ _ _ _ _ => none) (qFh k F a0 a1 a2 a3 x0_1) n
theorem qKl (k : Nat) (F : Fns0) (hF : FnsOk0 F) (a0 : (List Nat)) (a1 : (List S33)) (a2 : Int) (a3 : Int)  (x0_1 : Bool)  : ∀ (n : Nat) (y18_0 : (List (List Nat))) (y18_1 : Int) (y18_2 : (List S28)) (y18_3 : Int) (y18_4 : (List Nat)) (y18_5 : Raw) (y18_6 : Bool) (y18_7 : Bool) (y18_8 : (List (List Nat))) (y18_9 : (List (List Nat))), Ok (Xi19 a0 a1 a2 a3) i19p12 [(0, .ptr 0 4 0), (2, .ptr 1 7 0), (3, .ptr 2 7 0), (4, w9 y18_0), (5, .ptr 4 7 0)] (mkH [⟨[.str a0, w34 a1, .i y18_1, .i a3], 4, false⟩, ⟨[.i 0, .str [], .nils, .bool false, .bool false, .nils, .nils], 0, false⟩, ⟨[.i 5, .str [], .own 3 (y18_2).length 7, .bool x0_1, .bool false, .nils, .nils], 7, false⟩, ⟨(y18_2).flatMap e29, 0, false⟩, ⟨[.i y18_3, .str y18_4, q29 y18_5, .bool y18_6, .bool y18_7, w9 y18_8, w9 y18_9], 7, false⟩]) (qHc k F a0 a1 a2 a3 x0_1 n y18_0 y18_1 y18_2 y18_3 y18_4 y18_5 y18_6 y18_7 y18_8 y18_9) := by
 intro n
 induction n with
 | zero => intro y18_0 y18_1 y18_2 y18_3 y18_4 y18_5 y18_6 y18_7 y18_8 y18_9; exact ok_none
 | succ n ih =>
  intro y18_0 y18_1 y18_2 y18_3 y18_4 y18_5 y18_6 y18_7 y18_8 y18_9
  show Ok _ _ _ _ (qFh k F a0 a1 a2 a3 x0_1 (qHc k F a0 a1 a2 a3 x0_1 n) y18_0 y18_1 y18_2 y18_3 y18_4 y18_5 y18_6 y18_7 y18_8 y18_9)
  unfold qFh
  let Q1 : Blk := ⟨[.str a0, w34 a1, .i y18_1, .i a3], 4, false⟩
  let Q2 : Blk := ⟨[.i 0, .str [], .nils, .bool false, .bool false, .nils, .nils], 0, false⟩
  let Q3 : Blk := ⟨[.i 5, .str [], .own 3 (y18_2).length 7, .bool x0_1, .bool false, .nils, .nils], 7, false⟩
  let Q4 : Blk := ⟨(y18_2).flatMap e29, 0, false⟩
  let Q5 : Blk := ⟨[.i y18_3, .str y18_4, q29 y18_5, .bool y18_6, .bool y18_7, w9 y18_0, w9 y18_9], 7, false⟩
  let Q6 : Blk := ⟨[.i y18_3, .str y18_4, q29 y18_5, .bool y18_6, .bool y18_7, w9 y18_0, w9 y18_9], 0, false⟩
  refine oH 11 (atN 4 (ctl1 i19p13)) [(37, .slice 5 7 0 1 7), (36, .agg [.i y18_3, .str y18_4, q29 y18_5, .bool y18_6, .bool y18_7, w9 y18_0, w9 y18_9]), (35, .own 3 (y18_2).length 7), (34, .ptr 2 7 2), (33, .ptr 4 7 5), (32, w9 y18_0), (0, .ptr 0 4 0), (2, .ptr 1 7 0), (3, .ptr 2 7 0), (4, w9 y18_0), (5, .ptr 4 7 0)] (mkH [Q1, Q2, Q3, Q4, Q5, Q6]) ?_
  refine oC (fun (x6_4 : (List S28)) => (.own 3 (x6_4).length 7, (mkH [Q1, Q2, Q3, ⟨(x6_4).flatMap e29, 0, false⟩, Q5, Q6]))) (atN 5 (ctl1 i19p13)) 38 (appH (sz := 7) qA7 rfl qAx [Q1, Q2, Q3, Q4, Q5, Q6] 3 104 y18_2 ([(⟨y18_3, y18_4, y18_5, y18_6, y18_7, y18_0, y18_9⟩ : S28)] : List S28) rfl rfl (by kernel_rfl)) fun x6_4 hx6_4 => ?_
  let Q7 : Blk := ⟨[.i 5, .str [], .own 3 (x6_4).length 7, .bool x0_1, .bool false, .nils, .nils], 7, false⟩
  let Q8 : Blk := ⟨(x6_4).flatMap e29, 0, false⟩
  refine oLH 5 i19p14 [(0, .ptr 0 4 0), (2, .ptr 1 7 0), (3, .ptr 2 7 0), (5, .ptr 4 7 0)] (mkH [Q1, Q2, Q7, Q8, Q5, Q6]) ?_
  let E8 : Env := [(0, .ptr 0 4 0), (2, .ptr 1 7 0), (3, .ptr 2 7 0), (5, .ptr 4 7 0)]
  refine oR 2 (atN 1 (ctl1 i19p14)) ((40, .ptr 0 4 0) :: E8) ?_
  refine oX (fun (x7_1 : (Bool × Int)) => .bool x7_1.1) (fun x7_1 => [⟨[.str a0, w34 a1, .i x7_1.2, .i a3], 4, false⟩, Q2, Q7, Q8, Q5, Q6]) (atN 2 (ctl1 i19p14)) 41 [0] [] [] [2] [0, 0, 0, 1] [.ptr 0 4 0, .str [124]] (qAb k ([124] : List Nat) a0 a1 y18_1 a3) (qAi k ([124] : List Nat) a0 a1 y18_1 a3) trivial (fun _ => trivial) ⟨u29 _, trivial⟩ fun x7_1 hx7_1 => ?_
  refine oR 1 i19p15 ((41, .bool x7_1.1) :: (40, .ptr 0 4 0) :: E8) ?_
  refine oS 41 (fun hb => ?_) (fun hb => ?_)
  ·refine oR 2 i19p16 ((41, .bool true) :: (41, .bool x7_1.1) :: (40, .ptr 0 4 0) :: E8) ?_
   refine qC4 (fun h => ?_) (fun x8_3 hx8_3 => ?_)
   ·let E9 : Env := [(44, .ptr 0 4 0), (43, .own 3 (x6_4).length 7), (42, .ptr 2 7 2), (41, .bool true), (41, .bool x7_1.1), (40, .ptr 0 4 0), (0, .ptr 0 4 0), (2, .ptr 1 7 0), (3, .ptr 2 7 0), (5, .ptr 4 7 0)]
    let E10 : Env := ((49, .top) :: (48, .ptr 2 7 1) :: (47, .top) :: (46, .top) :: (45, .top) :: E9)
    let Q9 : Blk := ⟨[.str a0, w34 a1, .i x7_1.2, .i a3], 4, false⟩
    exact qAn (eE := E10) ⟨[46], [(0, 0, 0), (1, 0, 1), (0, 0, 0), (4, 0, 0), (12, 0, 0), (31, 0, 0), (3, 0, 0), (127, 0, 0), (255, 0, 0), (511, 0, 0)], 3, thrown, [0, 2], (mkH [Q9, Q2, Q7, Q8, Q5, Q6])⟩ (hs := [(mkH [Q9, Q2, Q7, Q8, Q5, Q6]), (mkH [Q9, Q2, Q7, Q8, Q5, Q6]), (mkH [Q9, Q2, Q7, Q8, Q5, Q6]), (mkH [Q9, Q2, Q7, Q8, Q5, Q6])]) (LX := [⟨[.str a0, w34 a1, .i a2, .i a3], 4, false⟩]) (L := [Q9, Q2, Q7, Q8, Q5, Q6]) rfl rfl rfl (by kernel_rfl) rfl ⟨.inl rfl, trivial⟩ (by kernel_rfl) (by kernel_rfl) (by kernel_rfl) (by kernel_rfl) (qAa 3 (l' := (opsAt i19p16).toList.drop 3) (eE := E9) (H' := (mkH [Q9, Q2, Q7, Q8, Q5, Q6])) (hs := []) (by kernel_rfl) (qAm (l' := (opsAt i19p16).toList.drop 4) (eE := ((45, .top) :: E9)) (hs := [(mkH [Q9, Q2, Q7, Q8, Q5, Q6])]) (fi := 29) (args := [.ptr 0 4 0, .i 3]) (by kernel_rfl) (by kernel_rfl) (frS 0 (M := [Q9, Q2, Q7, Q8, Q5, Q6]) (rs := [0]) (ms := []) (mv := [0, 0, 0, 1]) (mm := [0, 0, 0, 1]) (D := [0, 2]) (xs' := [.ptr 0 4 0, .i 3]) (.refl) (hF.i5_thr (3 : Int) a0 a1 x7_1.2 a3 h) trivial ⟨u29 _, trivial⟩ (by kernel_rfl)) (by kernel_rfl) (qA1 (l' := (opsAt i19p16).toList.drop 5) (eE := ((46, .top) :: (45, .top) :: E9)) (hs := []) (by kernel_rfl) (by kernel_rfl) (qA1 (l' := (opsAt i19p16).toList.drop 6) (eE := ((47, .top) :: (46, .top) :: (45, .top) :: E9)) (hs := [(mkH [Q9, Q2, Q7, Q8, Q5, Q6])]) (by kernel_rfl) (by kernel_rfl) (qAa 1 (l' := (opsAt i19p16).toList.drop 7) (eE := ((48, .ptr 2 7 1) :: (47, .top) :: (46, .top) :: (45, .top) :: E9)) (H' := (mkH [Q9, Q2, Q7, Q8, Q5, Q6])) (hs := []) (by kernel_rfl) (qA1 (l' := (opsAt i19p16).toList.drop 8) (eE := ((48, .ptr 2 7 1) :: (47, .top) :: (46, .top) :: (45, .top) :: E9)) (hs := [(mkH [Q9, Q2, Q7, Q8, Q5, Q6])]) (by kernel_rfl) (by kernel_rfl) (qA1 (l' := (opsAt i19p16).toList.drop 9) (eE := E10) (hs := []) (by kernel_rfl) (by kernel_rfl) (qA1 (l' := (opsAt i19p16).toList.drop 10) (eE := E10) (hs := [(mkH [Q9, Q2, Q7, Q8, Q5, Q6])]) (by kernel_rfl) (by kernel_rfl) (.nil))))))))) (by kernel_rfl) (by kernel_rfl)
   ·refine qA9 (fun x8_5 hx8_5 => ?_)
    let E9 : Env := [(44, .ptr 0 4 0), (43, .own 3 (x6_4).length 7), (42, .ptr 2 7 2), (41, .bool true), (41, .bool x7_1.1), (40, .ptr 0 4 0), (0, .ptr 0 4 0), (2, .ptr 1 7 0), (3, .ptr 2 7 0), (5, .ptr 4 7 0)]
    let E11 : Env := ((49, .ptr 2 7 2) :: (48, .ptr 2 7 1) :: (47, .own 3 (x8_5).length 7) :: (46, w29 ([x8_3.1] : List S28)) :: (45, n29 x8_3.1) :: E9)
    let Q10 : Blk := ⟨[.str a0, w34 a1, .i x8_3.2, .i a3], 4, false⟩
    let Q11 : Blk := ⟨[.i 5, .str [124], .own 3 (x6_4).length 7, .bool x0_1, .bool false, .nils, .nils], 7, false⟩
    refine oD (H' := (mkH [Q10, Q2, ⟨[.i 5, .str [124], .own 3 (x8_5).length 7, .bool x0_1, .bool false, .nils, .nils], 7, false⟩, ⟨(x8_5).flatMap e29, 0, false⟩, Q5, Q6])) (nav [0] i19p16) E11 [(mkH [Q10, Q2, Q7, Q8, Q5, Q6]), (mkH [Q10, Q2, Q7, ⟨(x8_5).flatMap e29, 0, false⟩, Q5, Q6]), (mkH [Q10, Q2, Q11, ⟨(x8_5).flatMap e29, 0, false⟩, Q5, Q6]), (mkH [Q10, Q2, ⟨[.i 5, .str [124], .own 3 (x8_5).length 7, .bool x0_1, .bool false, .nils, .nils], 7, false⟩, ⟨(x8_5).flatMap e29, 0, false⟩, Q5, Q6])] ⟨[46], [(0, 0, 0), (1, 0, 1), (0, 0, 0), (4, 0, 0), (12, 0, 0), (31, 0, 0), (3, 0, 0), (127, 0, 0), (255, 0, 0), (511, 0, 0)], 10, thrown, [], H0⟩ (oDr 3 3 E9 (qA4 (l' := (opsAt i19p16).toList.drop 4) (eE := ((45, n29 x8_3.1) :: E9)) (hs := [(mkH [Q10, Q2, Q7, Q8, Q5, Q6])]) (H' := (mkH [Q10, Q2, Q7, Q8, Q5, Q6])) (fi := 29) (args := [.ptr 0 4 0, .i 3]) (v := n29 x8_3.1) (by kernel_rfl) (frC (rs := [0]) (ms := []) (ms' := []) (hF.i5_ok (3 : Int) a0 a1 x7_1.2 a3 x8_3 hx8_3) trivial trivial (by kernel_rfl)) (by kernel_rfl) (oDr 1 5 ((46, w29 ([x8_3.1] : List S28)) :: (45, n29 x8_3.1) :: E9) (qA8 (l' := (opsAt i19p16).toList.drop 6) (eE := ((47, .own 3 (x8_5).length 7) :: (46, w29 ([x8_3.1] : List S28)) :: (45, n29 x8_3.1) :: E9)) (hs := [(mkH [Q10, Q2, Q7, ⟨(x8_5).flatMap e29, 0, false⟩, Q5, Q6])]) (x := x8_5) (fun (x8_5 : (List S28)) => (.own 3 (x8_5).length 7, (mkH [Q10, Q2, Q7, ⟨(x8_5).flatMap e29, 0, false⟩, Q5, Q6]))) (appHV (sz := 7) qA7 rfl qAx [Q10, Q2, Q7, Q8, Q5, Q6] 3 104 x6_4 ([x8_3.1] : List S28) rfl rfl (by kernel_rfl)) hx8_5 (by kernel_rfl) (oDh 4 10 E11 (mkH [Q10, Q2, ⟨[.i 5, .str [124], .own 3 (x8_5).length 7, .bool x0_1, .bool false, .nils, .nils], 7, false⟩, ⟨(x8_5).flatMap e29, 0, false⟩, Q5, Q6]) [(mkH [Q10, Q2, Q11, ⟨(x8_5).flatMap e29, 0, false⟩, Q5, Q6]), (mkH [Q10, Q2, ⟨[.i 5, .str [124], .own 3 (x8_5).length 7, .bool x0_1, .bool false, .nils, .nils], 7, false⟩, ⟨(x8_5).flatMap e29, 0, false⟩, Q5, Q6])] .nil))))) ?_
    refine oR 3 (atN 1 (ctl1 i19p18)) ((50, .ptr 0 4 0) :: E11) ?_
    let Q12 : Blk := ⟨(x8_5).flatMap e29, 0, false⟩
    refine oN (fun (x9_1 : Ri12) => w9 x9_1.1) (fun x9_1 => [⟨[.str a0, w34 a1, .i x9_1.2, .i a3], 4, false⟩, Q2, ⟨[.i 5, .str [124], .own 3 (x8_5).length 7, .bool x0_1, .bool false, .nils, .nils], 7, false⟩, Q12, Q5, Q6]) (atN 2 (ctl1 i19p18)) 51 [0] [] [] [.ptr 0 4 0] (qAl k a0 a1 x8_3.2 a3) trivial (fun _ => trivial) fun x9_1 hx9_1 => ?_
    let Q13 : Blk := ⟨[.i 5, .str [124], .own 3 (x8_5).length 7, .bool x0_1, .bool false, .nils, w9 x9_1.1], 7, false⟩
    refine oLH 4 i19p20 [(0, .ptr 0 4 0), (2, .ptr 1 7 0), (3, .ptr 2 7 0)] (mkH [⟨[.str a0, w34 a1, .i x9_1.2, .i a3], 4, false⟩, Q2, Q13, Q12, Q5, Q6]) ?_
    refine oR 2 (atN 1 (ctl1 i19p20)) ((53, .ptr 0 4 0) :: [(0, .ptr 0 4 0), (2, .ptr 1 7 0), (3, .ptr 2 7 0)]) ?_
    refine oX (fun (x10_1 : Int) => .tuple []) (fun x10_1 => [⟨[.str a0, w34 a1, .i x10_1, .i a3], 4, false⟩, Q2, Q13, Q12, Q5, Q6]) (atN 2 (ctl1 i19p20)) 54 [0] [] [] [0, 2] [0, 0, 0, 1] [.ptr 0 4 0, .str [93]] (qAj k ([93] : List Nat) a0 a1 x9_1.2 a3) (qAw k ([93] : List Nat) a0 a1 x9_1.2 a3) trivial (fun _ => trivial) ⟨u29 _, trivial⟩ fun x10_1 hx10_1 => ?_
    exact oQF 7 [⟨[.str a0, w34 a1, .i x10_1, .i a3], 4, false⟩, Q13, Q13, Q12, Q5, Q6] 1 [] [.agg [.i 5, .str [124], .own 3 (x8_5).length 7, .bool x0_1, .bool false, .nils, w9 x9_1.1]] (.agg [.i 5, .str [124], w29 x8_5, .bool x0_1, .bool false, .vec 0 1 [], w9 x9_1.1]) (.agg (.cs (.cs (qAs qA7 qAg rfl rfl rfl (.cs (.cs (.nil .ps)))))) .ps) trivial
  ·refine oR 6 (atN 1 (ctl1 i19p17)) ((56, .ptr 0 4 0) :: (41, .bool false) :: (41, .bool x7_1.1) :: (40, .ptr 0 4 0) :: E8) ?_
   refine oN (fun (x11_1 : Ri12) => w9 x11_1.1) (fun x11_1 => [⟨[.str a0, w34 a1, .i x11_1.2, .i a3], 4, false⟩, Q2, Q7, Q8, Q5, Q6]) (atN 2 (ctl1 i19p17)) 57 [0] [] [] [.ptr 0 4 0] (qAl k a0 a1 x7_1.2 a3) trivial (fun _ => trivial) fun x11_1 hx11_1 => ?_
   let E13 : Env := ((58, .ptr 0 4 0) :: (4, w9 x11_1.1) :: (57, w9 x11_1.1) :: (56, .ptr 0 4 0) :: (41, .bool false) :: (41, .bool x7_1.1) :: (40, .ptr 0 4 0) :: E8)
   refine oR 5 (atN 1 (ctl1 i19p19)) E13 ?_
   refine oX (fun (x12_1 : (Bool × Int)) => .bool x12_1.1) (fun x12_1 => [⟨[.str a0, w34 a1, .i x12_1.2, .i a3], 4, false⟩, Q2, Q7, Q8, Q5, Q6]) (atN 2 (ctl1 i19p19)) 59 [0] [] [] [2] [0, 0, 0, 1] [.ptr 0 4 0, .str [93]] (qAb k ([93] : List Nat) a0 a1 x11_1.2 a3) (qAi k ([93] : List Nat) a0 a1 x11_1.2 a3) trivial (fun _ => trivial) ⟨u29 _, trivial⟩ fun x12_1 hx12_1 => ?_
   refine oR 1 i19p21 ((59, .bool x12_1.1) :: E13) ?_
   refine oS 59 (fun hb => ?_) (fun hb => ?_)
   ·let Q14 : Blk := ⟨[.str a0, w34 a1, .i x12_1.2, .i a3], 4, false⟩
    let Q15 : Blk := ⟨[.i 5, .str [], .own 3 (x6_4).length 7, .bool x0_1, .bool false, .nils, w9 x11_1.1], 7, false⟩
    refine oLH 8 i19p25 [(2, .ptr 1 7 0), (3, .ptr 2 7 0)] (mkH [Q14, Q2, Q15, Q8, Q5, Q6]) ?_
    exact oQF 5 [Q14, Q15, Q15, Q8, Q5, Q6] 1 [] [.agg [.i 5, .str [], .own 3 (x6_4).length 7, .bool x0_1, .bool false, .nils, w9 x11_1.1]] (.agg [.i 5, .str [], w29 x6_4, .bool x0_1, .bool false, .vec 0 1 [], w9 x11_1.1]) (.agg (.cs (.cs (qAs qA7 qAg rfl rfl rfl (.cs (.cs (.nil .ps)))))) .ps) trivial
   ·let E15 : Env := ((65, .bool (decide ((x11_1.1.length : Int) = 0))) :: (64, .i (x11_1.1.length : Int)) :: (63, w9 x11_1.1) :: (59, .bool false) :: (59, .bool x12_1.1) :: E13)
    refine oR 7 (atN 3 (ctl1 i19p24)) E15 ?_
    refine oX (fun (x13_3 : Unit) => .tuple []) (fun x13_3 => [⟨[.str a0, w34 a1, .i x12_1.2, .i a3], 4, false⟩, Q2, Q7, Q8, Q5, Q6]) (atN 4 (ctl1 i19p24)) 66 [] [] [] [2] [0, 0, 0, 1] [.bool (decide ((x11_1.1.length : Int) = 0))] (qC7 k (decide ((x11_1.1.length : Int) = 0))) (qDb k (decide ((x11_1.1.length : Int) = 0))) trivial (fun _ => trivial) ⟨u29 _, trivial⟩ fun x13_3 hx13_3 => ?_
    refine oR 2 i19p26 ((66, .tuple []) :: E15) ?_
    refine oK0 [0, 2, 3, 5] ?_
    let E16 : Env := keepOnly ((66, .tuple []) :: E15) [0, 2, 3, 5]
    refine oR 2 (atN 1 (ctl1 i19p26)) ((67, .ptr 0 4 0) :: E16) ?_
    refine oX (fun (x14_1 : Int) => .tuple []) (fun x14_1 => [⟨[.str a0, w34 a1, .i x14_1, .i a3], 4, false⟩, Q2, Q7, Q8, Q5, Q6]) (atN 2 (ctl1 i19p26)) 68 [0] [] [] [0, 2] [0, 0, 0, 1] [.ptr 0 4 0, .str [44]] (qAj k ([44] : List Nat) a0 a1 x12_1.2 a3) (qAw k ([44] : List Nat) a0 a1 x12_1.2 a3) trivial (fun _ => trivial) ⟨u29 _, trivial⟩ fun x14_1 hx14_1 => ?_
    refine oR 4 (atN 1 (ctl1 i19p27)) ((69, .ptr 0 4 0) :: (68, .tuple []) :: (67, .ptr 0 4 0) :: E16) ?_
    refine oN (fun (x15_1 : Ri12) => w9 x15_1.1) (fun x15_1 => [⟨[.str a0, w34 a1, .i x15_1.2, .i a3], 4, false⟩, Q2, Q7, Q8, Q5, Q6]) (atN 2 (ctl1 i19p27)) 70 [0] [] [] [.ptr 0 4 0] (qAl k a0 a1 x14_1 a3) trivial (fun _ => trivial) fun x15_1 hx15_1 => ?_
    refine oR 5 (atN 1 (ctl1 i19p28)) ((71, .ptr 0 4 0) :: (4, w9 x15_1.1) :: (70, w9 x15_1.1) :: (69, .ptr 0 4 0) :: (68, .tuple []) :: (67, .ptr 0 4 0) :: E16) ?_
    refine oX (fun (x16_1 : (S28 × Int)) => n29 x16_1.1) (fun x16_1 => [⟨[.str a0, w34 a1, .i x16_1.2, .i a3], 4, false⟩, Q2, Q7, Q8, Q5, Q6]) (atN 2 (ctl1 i19p28)) 72 [0] [] [] [0, 2] [0, 0, 0, 1] [.ptr 0 4 0, .i 3] (hF.i5_thr (3 : Int) a0 a1 x15_1.2 a3) (hF.i5_ok (3 : Int) a0 a1 x15_1.2 a3) trivial (fun _ => trivial) ⟨u29 _, trivial⟩ fun x16_1 hx16_1 => ?_
    let Q16 : Blk := ⟨[.str a0, w34 a1, .i x16_1.2, .i a3], 4, false⟩
    refine oLH 6 i19p12 [(0, .ptr 0 4 0), (2, .ptr 1 7 0), (3, .ptr 2 7 0), (4, w9 x15_1.1), (5, .ptr 4 7 0)] (mkH [Q16, Q2, Q7, Q8, ⟨e29 x16_1.1, 7, false⟩, Q6]) ?_
    refine qAc [Q16, Q2, Q7, Q8, ⟨e29 x16_1.1, 7, false⟩] [Q6] (by kernel_rfl) rfl (by kernel_rfl) ⟨(by kernel_rfl), ⟨(by kernel_rfl), ⟨(by kernel_rfl), ⟨(qA3 _ (u29 _)), ⟨(by kernel_rfl), trivial⟩⟩⟩⟩⟩ ?_
    exact ih x15_1.1 x16_1.2 x6_4 x16_1.1.f0 x16_1.1.f1 x16_1.1.f2 x16_1.1.f3 x16_1.1.f4 x16_1.1.f5 x16_1.1.f6
def i19B (k : Nat) (F : Fns0) (a0 : (List Nat)) (a1 : (List S33)) (a2 : Int) (a3 : Int) : Option (Option (S28 × Int)) :=
 (i28 k a0 a1 a2 a3).bind fun x0_1 => (i12 k a0 a1 a2 a3).bind fun x1_1 => bT (i7 k ([93] : List Nat) a0 a1 x1_1.2 a3) fun x2_1 => if x2_1.1 then (some (some ((⟨(5 : Int), ([] : List Nat), ⟨(([] : List S28)).length, (([] : List S28)).flatMap e29⟩, x0_1, false, ([] : List (List Nat)), x1_1.1⟩ : S28), x2_1.2))) else (bT (F.i5 (3 : Int) a0 a1 x2_1.2 a3) fun x3_1 => jn (fun (z17 : Bool × Int) => if z17.1 then (bT (F.i30 (15 : Int) ([] : List Nat) x0_1 false ([] : List (List Nat)) ([] : List (List Nat)) a0 a1 z17.2 a3 ([(⟨x3_1.1.f0, x3_1.1.f1, x3_1.1.f2, x3_1.1.f3, x3_1.1.f4, x3_1.1.f5, x3_1.1.f6⟩ : S28)] : List S28)) fun x5_6 => some (some ((⟨x5_6.1, x5_6.2.1, ⟨(x5_6.2.2.2.2.2.2.2).length, (x5_6.2.2.2.2.2.2.2).flatMap e29⟩, x5_6.2.2.1, x5_6.2.2.2.1, x5_6.2.2.2.2.1, x5_6.2.2.2.2.2.1⟩ : S28), x5_6.2.2.2.2.2.2.1))) else (qHc k F a0 a1 a2 a3 x0_1 k x1_1.1 z17.2 ([] : List S28) x3_1.1.f0 x3_1.1.f1 x3_1.1.f2 x3_1.1.f3 x3_1.1.f4 x3_1.1.f5 x3_1.1.f6)) (fun j17 => if (decide ((x1_1.1.length : Int) = 0)) then (bT (i7 k ([124, 124] : List Nat) a0 a1 x3_1.2 a3) fun x4_5 => j17 (x4_5.1, x4_5.2)) else (j17 (false, x3_1.2))))
theorem qJh (k : Nat) (F : Fns0) (hF : FnsOk0 F) (a0 : (List Nat)) (a1 : (List S33)) (a2 : Int) (a3 : Int) (r : (Option (S28 × Int))) (h : i19B k F a0 a1 a2 a3 = some r) : CallT Try.prog 79 [.ptr 0 4 0] (mkH [⟨[.str a0, w34 a1, .i a2, .i a3], 4, false⟩]) ((Xi19 a0 a1 a2 a3).thr r) ((Xi19 a0 a1 a2 a3).enc r) ((Xi19 a0 a1 a2 a3).fin r) := by
 refine qA2 (Xi19 a0 a1 a2 a3) Try.func79 (by kernel_rfl) (by kernel_rfl) rfl (t := i19B k F a0 a1 a2 a3) ?_ h
 unfold i19B
 refine qA0 (eE := [(0, .ptr 0 4 0)]) (by kernel_rfl) ?_
 let Q1 : Blk := ⟨[.str a0, w34 a1, .i a2, .i a3], 4, false⟩
 let Q2 : Blk := ⟨[.i 0, .str [], .nils, .bool false, .bool false, .nils, .nils], 0, false⟩
 refine oH 8 (atN 1 (ctl1 i19p1)) [(6, .ptr 0 4 0), (2, .ptr 1 7 0), (0, .ptr 0 4 0)] (mkH [Q1, Q2]) ?_
 refine oN (fun (x0_1 : Bool) => .bool x0_1) (fun x0_1 => [Q1, Q2]) (atN 2 (ctl1 i19p1)) 7 [0] [] [] [.ptr 0 4 0] (qGe k a0 a1 a2 a3) trivial (fun _ => trivial) fun x0_1 hx0_1 => ?_
 let E1 : Env := [(3, .ptr 2 7 0), (8, .agg [.i 5, .str [], .nils, .bool x0_1, .bool false, .nils, .nils]), (7, .bool x0_1), (6, .ptr 0 4 0), (2, .ptr 1 7 0), (0, .ptr 0 4 0)]
 let Q3 : Blk := ⟨[.i 5, .str [], .nils, .bool x0_1, .bool false, .nils, .nils], 7, false⟩
 refine oH 5 i19p2 E1 (mkH [Q1, Q2, Q3]) ?_
 refine qF9 [Q1, Q2, Q3] (by kernel_rfl) ?_
 let Q4 : Blk := ⟨(([] : List S28)).flatMap e29, 0, false⟩
 refine oHp (mkH [Q1, Q2, Q3, Q4]) ?_
 refine qCt [Q1, Q2, Q3, Q4] 2 7 [.i 5, .str [], .nils, .bool x0_1, .bool false, .nils, .nils] [.i 5, .str [], .own 3 (([] : List S28)).length 7, .bool x0_1, .bool false, .nils, .nils] (by kernel_rfl) rfl (.cons (.cons (.none (.refl)))) ?_
 let Q5 : Blk := ⟨[.i 5, .str [], .own 3 (([] : List S28)).length 7, .bool x0_1, .bool false, .nils, .nils], 7, false⟩
 refine oH 2 (atN 1 (ctl1 i19p2)) ((9, .ptr 0 4 0) :: E1) (mkH [Q1, Q2, Q5, Q4]) ?_
 refine oN (fun (x1_1 : Ri12) => w9 x1_1.1) (fun x1_1 => [⟨[.str a0, w34 a1, .i x1_1.2, .i a3], 4, false⟩, Q2, Q5, Q4]) (atN 2 (ctl1 i19p2)) 10 [0] [] [] [.ptr 0 4 0] (qAl k a0 a1 a2 a3) trivial (fun _ => trivial) fun x1_1 hx1_1 => ?_
 refine oR 6 (atN 1 (ctl1 i19p3)) ((11, .ptr 0 4 0) :: (4, w9 x1_1.1) :: (10, w9 x1_1.1) :: (9, .ptr 0 4 0) :: E1) ?_
 refine oX (fun (x2_1 : (Bool × Int)) => .bool x2_1.1) (fun x2_1 => [⟨[.str a0, w34 a1, .i x2_1.2, .i a3], 4, false⟩, Q2, Q5, Q4]) (atN 2 (ctl1 i19p3)) 12 [0] [] [] [2] [0, 0, 0, 1] [.ptr 0 4 0, .str [93]] (qAb k ([93] : List Nat) a0 a1 x1_1.2 a3) (qAi k ([93] : List Nat) a0 a1 x1_1.2 a3) trivial (fun _ => trivial) ⟨u29 _, trivial⟩ fun x2_1 hx2_1 => ?_
 let E2 : Env := ((12, .bool x2_1.1) :: (11, .ptr 0 4 0) :: (4, w9 x1_1.1) :: (10, w9 x1_1.1) :: (9, .ptr 0 4 0) :: E1)
 refine oR 1 i19p4 E2 ?_
 refine oS 12 (fun hb => ?_) (fun hb => ?_)
 ·let Q6 : Blk := ⟨[.str a0, w34 a1, .i x2_1.2, .i a3], 4, false⟩
  let Q7 : Blk := ⟨[.i 5, .str [], .own 3 (([] : List S28)).length 7, .bool x0_1, .bool false, .nils, w9 x1_1.1], 7, false⟩
  refine oLH 8 i19p7 [(2, .ptr 1 7 0), (3, .ptr 2 7 0)] (mkH [Q6, Q2, Q7, Q4]) ?_
  exact oQF 5 [Q6, Q7, Q7, Q4] 1 [] [.agg [.i 5, .str [], .own 3 (([] : List S28)).length 7, .bool x0_1, .bool false, .nils, w9 x1_1.1]] (.agg [.i 5, .str [], w29 ([] : List S28), .bool x0_1, .bool false, .vec 0 1 [], w9 x1_1.1]) (.agg (.cs (.cs (qAs qA7 qAg rfl rfl rfl (.cs (.cs (.nil .ps)))))) .ps) trivial
 ·refine oR 5 (atN 1 (ctl1 i19p6)) ((16, .ptr 0 4 0) :: (12, .bool false) :: E2) ?_
  refine oX (fun (x3_1 : (S28 × Int)) => n29 x3_1.1) (fun x3_1 => [⟨[.str a0, w34 a1, .i x3_1.2, .i a3], 4, false⟩, Q2, Q5, Q4]) (atN 2 (ctl1 i19p6)) 17 [0] [] [] [0, 2] [0, 0, 0, 1] [.ptr 0 4 0, .i 3] (hF.i5_thr (3 : Int) a0 a1 x2_1.2 a3) (hF.i5_ok (3 : Int) a0 a1 x2_1.2 a3) trivial (fun _ => trivial) ⟨u29 _, trivial⟩ fun x3_1 hx3_1 => ?_
  let Q8 : Blk := ⟨[.str a0, w34 a1, .i x3_1.2, .i a3], 4, false⟩
  refine oLH 5 i19p8 [(0, .ptr 0 4 0), (2, .ptr 1 7 0), (3, .ptr 2 7 0), (4, w9 x1_1.1), (5, .ptr 4 7 0)] (mkH [Q8, Q2, Q5, Q4, ⟨e29 x3_1.1, 7, false⟩]) ?_
  let E4 : Env := [(0, .ptr 0 4 0), (2, .ptr 1 7 0), (3, .ptr 2 7 0), (4, w9 x1_1.1), (5, .ptr 4 7 0)]
  refine oR 5 (atN 4 (ctl1 i19p8)) ((21, .bool (decide ((x1_1.1.length : Int) = 0))) :: (20, .bool (decide ((x1_1.1.length : Int) = 0))) :: (19, .i (x1_1.1.length : Int)) :: (18, w9 x1_1.1) :: E4) ?_
  refine oJ i19p10 (fun (z17 : Bool × Int) => [(0, .ptr 0 4 0), (2, .ptr 1 7 0), (3, .ptr 2 7 0), (4, w9 x1_1.1), (5, .ptr 4 7 0), (24, .bool z17.1)]) (fun (z17 : Bool × Int) => (mkH [⟨[.str a0, w34 a1, .i z17.2, .i a3], 4, false⟩, Q2, Q5, Q4, ⟨e29 x3_1.1, 7, false⟩])) (fun z17 => ?_) (fun j17 hj17 => ?_)
  ·refine oS 24 (fun hb => ?_) (fun hb => ?_)
   ·let E5 : Env := [(29, .slice 5 7 0 1 7), (28, n29 x3_1.1), (27, .bool x0_1), (26, .ptr 2 7 3), (25, .ptr 0 4 0), (24, .bool true), (0, .ptr 0 4 0), (2, .ptr 1 7 0), (3, .ptr 2 7 0), (4, w9 x1_1.1), (5, .ptr 4 7 0), (24, .bool z17.1)]
    let Q9 : Blk := ⟨[.str a0, w34 a1, .i z17.2, .i a3], 4, false⟩
    refine oH 8 (atN 5 (ctl1 i19p11)) E5 (mkH [Q9, Q2, Q5, Q4, ⟨e29 x3_1.1, 7, false⟩, ⟨e29 x3_1.1, 0, false⟩]) ?_
    refine qCl 29 5 7 1 7 (by kernel_rfl) rfl ?_
    let Q10 : Blk := ⟨(([x3_1.1] : List S28)).flatMap e29, 0, false⟩
    refine oH 1 (atN 6 (ctl1 i19p11)) ((30, .agg [.i 15, .str [], .own 5 (([x3_1.1] : List S28)).length 7, .bool x0_1, .bool false, .nils, .nils]) :: (29, .own 5 (([x3_1.1] : List S28)).length 7) :: E5) (mkH [Q9, Q2, Q5, Q4, ⟨e29 x3_1.1, 7, false⟩, Q10]) ?_
    refine oXW 0 [Q9, Q2, Q5, Q4, ⟨e29 x3_1.1, 7, false⟩, Q10] (fun (x5_6 : Ri30) => .agg [.i x5_6.1, .str x5_6.2.1, .own 5 (x5_6.2.2.2.2.2.2.2).length 7, .bool x5_6.2.2.1, .bool x5_6.2.2.2.1, w9 x5_6.2.2.2.2.1, w9 x5_6.2.2.2.2.2.1]) (fun x5_6 => [⟨[.str a0, w34 a1, .i x5_6.2.2.2.2.2.2.1, .i a3], 4, false⟩, Q2, Q5, Q4, ⟨e29 x3_1.1, 7, false⟩, ⟨(x5_6.2.2.2.2.2.2.2).flatMap e29, 0, false⟩]) (atN 7 (ctl1 i19p11)) 31 [0, 5] [0, 1] [0, 1] [0, 2, 5] [0, 0, 0, 1] [0, 0, 0, 1, 0, 1] [.ptr 0 4 0, .agg [.i 15, .str [], .own 5 (([x3_1.1] : List S28)).length 7, .bool x0_1, .bool false, .nils, .nils]] [.ptr 0 4 0, .agg [.i 15, .str [], .own 5 (([x3_1.1] : List S28)).length 7, .bool x0_1, .bool false, w9 ([] : List (List Nat)), w9 ([] : List (List Nat))]] (.cons (.agg (.cons (.cons (.cons (.cons (.cons (.nil (.nil (.refl)))))))) (.refl))) (hF.i30_thr (15 : Int) ([] : List Nat) x0_1 false ([] : List (List Nat)) ([] : List (List Nat)) a0 a1 z17.2 a3 ([x3_1.1] : List S28)) (hF.i30_ok (15 : Int) ([] : List Nat) x0_1 false ([] : List (List Nat)) ([] : List (List Nat)) a0 a1 z17.2 a3 ([x3_1.1] : List S28)) ⟨u29 _, trivial⟩ (fun _ => ⟨u29 _, trivial⟩) ⟨u29 _, trivial⟩ fun x5_6 hx5_6 => ?_
    exact oQF 3 [⟨[.str a0, w34 a1, .i x5_6.2.2.2.2.2.2.1, .i a3], 4, false⟩, ⟨[.i x5_6.1, .str x5_6.2.1, .own 5 (x5_6.2.2.2.2.2.2.2).length 7, .bool x5_6.2.2.1, .bool x5_6.2.2.2.1, w9 x5_6.2.2.2.2.1, w9 x5_6.2.2.2.2.2.1], 7, false⟩, Q5, Q4, ⟨e29 x3_1.1, 7, false⟩, ⟨(x5_6.2.2.2.2.2.2.2).flatMap e29, 0, false⟩] 1 [] [.agg [.i x5_6.1, .str x5_6.2.1, .own 5 (x5_6.2.2.2.2.2.2.2).length 7, .bool x5_6.2.2.1, .bool x5_6.2.2.2.1, w9 x5_6.2.2.2.2.1, w9 x5_6.2.2.2.2.2.1]] (.agg [.i x5_6.1, .str x5_6.2.1, w29 x5_6.2.2.2.2.2.2.2, .bool x5_6.2.2.1, .bool x5_6.2.2.2.1, w9 x5_6.2.2.2.2.1, w9 x5_6.2.2.2.2.2.1]) (.agg (.cs (.cs (qAs qA7 qAg rfl rfl rfl .ps))) .ps) trivial
   ·refine oLH 5 i19p12 [(0, .ptr 0 4 0), (2, .ptr 1 7 0), (3, .ptr 2 7 0), (4, w9 x1_1.1), (5, .ptr 4 7 0)] (mkH [⟨[.str a0, w34 a1, .i z17.2, .i a3], 4, false⟩, Q2, Q5, Q4, ⟨e29 x3_1.1, 7, false⟩]) ?_
    exact (qKl k F hF a0 a1 a2 a3 x0_1 k) x1_1.1 z17.2 ([] : List S28) x3_1.1.f0 x3_1.1.f1 x3_1.1.f2 x3_1.1.f3 x3_1.1.f4 x3_1.1.f5 x3_1.1.f6
  ·refine oS 21 (fun hb => ?_) (fun hb => ?_)
   ·let E20 : Env := ((22, .ptr 0 4 0) :: (21, .bool true) :: (21, .bool (decide ((x1_1.1.length : Int) = 0))) :: (20, .bool (decide ((x1_1.1.length : Int) = 0))) :: (19, .i (x1_1.1.length : Int)) :: (18, w9 x1_1.1) :: E4)
    refine oH 1 (atN 5 (ctl1 i19p8)) E20 (mkH [Q8, Q2, Q5, Q4, ⟨e29 x3_1.1, 7, false⟩]) ?_
    refine oX (fun (x4_5 : (Bool × Int)) => .bool x4_5.1) (fun x4_5 => [⟨[.str a0, w34 a1, .i x4_5.2, .i a3], 4, false⟩, Q2, Q5, Q4, ⟨e29 x3_1.1, 7, false⟩]) (atN 6 (ctl1 i19p8)) 23 [0] [] [] [2] [0, 0, 0, 1] [.ptr 0 4 0, .str [124, 124]] (qAb k ([124, 124] : List Nat) a0 a1 x3_1.2 a3) (qAi k ([124, 124] : List Nat) a0 a1 x3_1.2 a3) trivial (fun _ => trivial) ⟨u29 _, trivial⟩ fun x4_5 hx4_5 => ?_
    refine oR 2 i19p10 ((24, .bool x4_5.1) :: (23, .bool x4_5.1) :: E20) ?_
    refine oK [0, 2, 3, 4, 5, 24] [(0, .ptr 0 4 0), (2, .ptr 1 7 0), (3, .ptr 2 7 0), (4, w9 x1_1.1), (5, .ptr 4 7 0), (24, .bool x4_5.1)] ?_
    exact hj17 (x4_5.1, x4_5.2)
   ·refine oLH 4 i19p10 [(0, .ptr 0 4 0), (2, .ptr 1 7 0), (3, .ptr 2 7 0), (4, w9 x1_1.1), (5, .ptr 4 7 0), (24, .bool false)] (mkH [Q8, Q2, Q5, Q4, ⟨e29 x3_1.1, 7, false⟩]) ?_
    exact hj17 (false, x3_1.2)
theorem i19B_ok (k : Nat) (F : Fns0) (hF : FnsOk0 F) : Pi19 (i19B k F) := fun a0 a1 a2 a3 x h => qJh k F hF a0 a1 a2 a3 (some x) h
theorem i19B_thr (k : Nat) (F : Fns0) (hF : FnsOk0 F) : Qi19 (i19B k F) := fun a0 a1 a2 a3 h => ⟨_, qJh k F hF a0 a1 a2 a3 none h⟩
def Xi20 (a0 : Int) (a1 : (List Nat)) (a2 : Bool) (a3 : Bool) (a4 : (List (List Nat))) (a5 : (List (List Nat))) (a6 : (List Nat)) (a7 : (List Nat)) (a8 : (List S33)) (a9 : Int) (a10 : Int) (b1 : (List S28)) : Fx (Option Ri20) := ⟨Try.prog, cx, Try.f77, fun r => match r with | some r => .agg [.i r.1, .str r.2.1, .own 1 (r.2.2.2.2.2.2.2).length 7, .bool r.2.2.1, .bool r.2.2.2.1, w9 r.2.2.2.2.1, w9 r.2.2.2.2.2.1] | none => .top, 2, fun r => match r with | some r => (mkH [⟨[.str a7, w34 a8, .i r.2.2.2.2.2.2.1, .i a10], 4, false⟩, ⟨(r.2.2.2.2.2.2.2).flatMap e29, 0, false⟩]) | none => (mkH [⟨[.str a7, w34 a8, .i a9, .i a10], 4, false⟩, ⟨(b1).flatMap e29, 0, false⟩]), cxTi, cxOrd, fun r => match r with | some _ => none | none => some (thrown, [0, 1]), false⟩
def i20p0 : Pt := nav [0] (bodyAt Try.f77)
def i20p1 : Pt := nav [0, 0, 0, 0] i20p0
def i20p2 : Pt := nav [0, 0, 0] i20p1
def i20p3 : Pt := nav [0, 0, 0, 0] i20p2
def i20p4 : Pt := nav [0, 0] i20p3
def i20p5 : Pt := nav [1, 0] i20p4
def i20p6 : Pt := nav [2, 0, 0, 0, 0] i20p4
def i20p7 : Pt := nav [0, 0, 0] i20p5
def i20p8 : Pt := nav [0, 0, 0] i20p6
def i20p10 : Pt := nav [0, 0, 0] i20p8
def i20p11 : Pt := nav [0, 0, 0, 0] i20p10
def i20p12 : Pt := nav [0, 0, 0] i20p11
def i20p13 : Pt := nav [0, 0] i20p12
def i20p14 : Pt := nav [1, 0] i20p13
def i20p15 : Pt := nav [2, 0, 0] i20p13
def i20p16 : Pt := nav [0, 0, 0] i20p14
def i20p17 : Pt := nav [0, 0, 0] i20p15
def i20p18 : Pt := nav [0, 0, 0] i20p17
def qFg (k : Nat) (F : Fns0)  (a0 : Int) (a1 : (List Nat)) (a3 : Bool) (a4 : (List (List Nat))) (a5 : (List (List Nat))) (a6 : (List Nat)) (a7 : (List Nat)) (a8 : (List S33)) (a10 : Int) (x0_1 : Bool) (ih : (List (List Nat)) → Int → (List S28) → Option (Option Ri20)) : (List (List Nat)) → Int → (List S28) → Option (Option Ri20) :=
 fun (y10_0 : (List (List Nat))) (y10_1 : Int) (y10_2 : (List S28)) => bT (F.i31 a7 a8 y10_1 a10) fun x3_1 => (appS 104 y10_2 ([(⟨x3_1.1.f0, x3_1.1.f1, x3_1.1.f2, x3_1.1.f3, x3_1.1.f4, y10_0, x3_1.1.f6⟩ : S28)] : List S28)).bind fun x4_4 => (i12 k a7 a8 x3_1.2 a10).bind fun x5_1 => bT (i7 k a6 a7 a8 x5_1.2 a10) fun x6_2 => if x6_2.1 then (some (some (a0, a1, x0_1, a3, a4, x5_1.1, x6_2.2, x4_4))) else (bT (i16 k (decide ((x5_1.1.length : Int) = 0))) fun x7_3 => bT (i23 k ([44] : List Nat) a7 a8 x6_2.2 a10) fun x8_1 => (i12 k a7 a8 x8_1 a10).bind fun x9_1 => ih x9_1.1 x9_1.2 x4_4)
def qHb (k : Nat) (F : Fns0)  (a0 : Int) (a1 : (List Nat)) (a3 : Bool) (a4 : (List (List Nat))) (a5 : (List (List Nat))) (a6 : (List Nat)) (a7 : (List Nat)) (a8 : (List S33)) (a10 : Int) (x0_1 : Bool) (n : Nat) : (List (List Nat)) → Int → (List S28) → Option (Option Ri20) := lp (fun _ _ _ => none) (qFg k F a0 a1 a3 a4 a5 a6 a7 a8 a10 x0_1) n
theorem qKk (k : Nat) (F : Fns0) (hF : FnsOk0 F) (a0 : Int) (a1 : (List Nat)) (a2 : Bool) (a3 : Bool) (a4 : (List (List Nat))) (a5 : (List (List Nat))) (a6 : (List Nat)) (a7 : (List Nat)) (a8 : (List S33)) (a9 : Int) (a10 : Int) (b1 : (List S28))  (x0_1 : Bool)  : ∀ (n : Nat) (y10_0 : (List (List Nat))) (y10_1 : Int) (y10_2 : (List S28)), Ok (Xi20 a0 a1 a2 a3 a4 a5 a6 a7 a8 a9 a10 b1) i20p6 [(0, .ptr 0 4 0), (2, .str a6), (3, .func 80 [.ptr 0 4 0] []), (5, .ptr 2 7 0), (8, .ptr 3 7 0), (9, w9 y10_0)] (mkH [⟨[.str a7, w34 a8, .i y10_1, .i a10], 4, false⟩, ⟨(y10_2).flatMap e29, 0, false⟩, ⟨[.i a0, .str a1, .own 1 (y10_2).length 7, .bool x0_1, .bool a3, w9 a4, w9 a5], 7, false⟩, ⟨[.i 0, .str [], .nils, .bool false, .bool false, .nils, .nils], 0, false⟩]) (qHb k F a0 a1 a3 a4 a5 a6 a7 a8 a10 x0_1 n y10_0 y10_1 y10_2) := by
 intro n
 induction n with
 | zero => intro y10_0 y10_1 y10_2; exact ok_none
 | succ n ih =>
  intro y10_0 y10_1 y10_2
  show Ok _ _ _ _ (qFg k F a0 a1 a3 a4 a5 a6 a7 a8 a10 x0_1 (qHb k F a0 a1 a3 a4 a5 a6 a7 a8 a10 x0_1 n) y10_0 y10_1 y10_2)
  unfold qFg
  let E5 : Env := [(22, .func 80 [.ptr 0 4 0] []), (0, .ptr 0 4 0), (2, .str a6), (3, .func 80 [.ptr 0 4 0] []), (5, .ptr 2 7 0), (8, .ptr 3 7 0), (9, w9 y10_0)]
  let Q1 : Blk := ⟨(y10_2).flatMap e29, 0, false⟩
  let Q2 : Blk := ⟨[.i a0, .str a1, .own 1 (y10_2).length 7, .bool x0_1, .bool a3, w9 a4, w9 a5], 7, false⟩
  let Q3 : Blk := ⟨[.i 0, .str [], .nils, .bool false, .bool false, .nils, .nils], 0, false⟩
  refine oH 2 (atN 1 (ctl1 i20p6)) E5 (mkH [⟨[.str a7, w34 a8, .i y10_1, .i a10], 4, false⟩, Q1, Q2, Q3]) ?_
  refine oX (fun (x3_1 : (S28 × Int)) => n29 x3_1.1) (fun x3_1 => [⟨[.str a7, w34 a8, .i x3_1.2, .i a10], 4, false⟩, Q1, Q2, Q3]) (atN 2 (ctl1 i20p6)) 23 [0] [] [] [0, 2] [0, 1] [.ptr 0 4 0] (hF.i31_thr a7 a8 y10_1 a10) (hF.i31_ok a7 a8 y10_1 a10) trivial (fun _ => trivial) ⟨u29 _, trivial⟩ fun x3_1 hx3_1 => ?_
  let Q4 : Blk := ⟨[.str a7, w34 a8, .i x3_1.2, .i a10], 4, false⟩
  let Q5 : Blk := ⟨[.i x3_1.1.f0, .str x3_1.1.f1, q29 x3_1.1.f2, .bool x3_1.1.f3, .bool x3_1.1.f4, w9 y10_0, w9 x3_1.1.f6], 7, false⟩
  let Q6 : Blk := ⟨[.i x3_1.1.f0, .str x3_1.1.f1, q29 x3_1.1.f2, .bool x3_1.1.f3, .bool x3_1.1.f4, w9 y10_0, w9 x3_1.1.f6], 0, false⟩
  refine oH 15 (atN 4 (ctl1 i20p10)) ((29, .slice 5 7 0 1 7) :: (28, .agg [.i x3_1.1.f0, .str x3_1.1.f1, q29 x3_1.1.f2, .bool x3_1.1.f3, .bool x3_1.1.f4, w9 y10_0, w9 x3_1.1.f6]) :: (27, .own 1 (y10_2).length 7) :: (26, .ptr 2 7 2) :: (25, .ptr 4 7 5) :: (24, w9 y10_0) :: (10, .ptr 4 7 0) :: (23, n29 x3_1.1) :: E5) (mkH [Q4, Q1, Q2, Q3, Q5, Q6]) ?_
  refine oC (fun (x4_4 : (List S28)) => (.own 1 (x4_4).length 7, (mkH [Q4, ⟨(x4_4).flatMap e29, 0, false⟩, Q2, Q3, Q5, Q6]))) (atN 5 (ctl1 i20p10)) 30 (appH (sz := 7) qA7 rfl qAx [Q4, Q1, Q2, Q3, Q5, Q6] 1 104 y10_2 ([(⟨x3_1.1.f0, x3_1.1.f1, x3_1.1.f2, x3_1.1.f3, x3_1.1.f4, y10_0, x3_1.1.f6⟩ : S28)] : List S28) rfl rfl (by kernel_rfl)) fun x4_4 hx4_4 => ?_
  let E7 : Env := [(0, .ptr 0 4 0), (2, .str a6), (3, .func 80 [.ptr 0 4 0] []), (5, .ptr 2 7 0), (8, .ptr 3 7 0)]
  let Q7 : Blk := ⟨(x4_4).flatMap e29, 0, false⟩
  let Q8 : Blk := ⟨[.i a0, .str a1, .own 1 (x4_4).length 7, .bool x0_1, .bool a3, w9 a4, w9 a5], 7, false⟩
  refine oLH 5 i20p11 E7 (mkH [Q4, Q7, Q8, Q3, Q5, Q6]) ?_
  refine oR 2 (atN 1 (ctl1 i20p11)) ((32, .ptr 0 4 0) :: E7) ?_
  refine oN (fun (x5_1 : Ri12) => w9 x5_1.1) (fun x5_1 => [⟨[.str a7, w34 a8, .i x5_1.2, .i a10], 4, false⟩, Q7, Q8, Q3, Q5, Q6]) (atN 2 (ctl1 i20p11)) 33 [0] [] [] [.ptr 0 4 0] (qAl k a7 a8 x3_1.2 a10) trivial (fun _ => trivial) fun x5_1 hx5_1 => ?_
  let E8 : Env := ((35, .str a6) :: (34, .ptr 0 4 0) :: (9, w9 x5_1.1) :: (33, w9 x5_1.1) :: (32, .ptr 0 4 0) :: E7)
  refine oR 6 (atN 2 (ctl1 i20p12)) E8 ?_
  refine oX (fun (x6_2 : (Bool × Int)) => .bool x6_2.1) (fun x6_2 => [⟨[.str a7, w34 a8, .i x6_2.2, .i a10], 4, false⟩, Q7, Q8, Q3, Q5, Q6]) (atN 3 (ctl1 i20p12)) 36 [0] [] [] [2] [0, 1] [.ptr 0 4 0, .str a6] (qAb k a6 a7 a8 x5_1.2 a10) (qAi k a6 a7 a8 x5_1.2 a10) trivial (fun _ => trivial) ⟨u29 _, trivial⟩ fun x6_2 hx6_2 => ?_
  refine oR 1 i20p13 ((36, .bool x6_2.1) :: E8) ?_
  refine oS 36 (fun hb => ?_) (fun hb => ?_)
  ·let Q9 : Blk := ⟨[.str a7, w34 a8, .i x6_2.2, .i a10], 4, false⟩
   let Q10 : Blk := ⟨[.i a0, .str a1, .own 1 (x4_4).length 7, .bool x0_1, .bool a3, w9 a4, w9 x5_1.1], 7, false⟩
   refine oLH 8 i20p16 [(5, .ptr 2 7 0), (8, .ptr 3 7 0)] (mkH [Q9, Q7, Q10, Q3, Q5, Q6]) ?_
   refine oH 5 .fin ((39, .agg [.i a0, .str a1, .own 1 (x4_4).length 7, .bool x0_1, .bool a3, w9 a4, w9 x5_1.1]) :: [(5, .ptr 2 7 0), (8, .ptr 3 7 0)]) (mkH [Q9, Q7, Q10, Q10, Q5, Q6]) ?_
   exact qBp (r := some (a0, a1, x0_1, a3, a4, x5_1.1, x6_2.2, x4_4)) (xs := [.agg [.i a0, .str a1, .own 1 (x4_4).length 7, .bool x0_1, .bool a3, w9 a4, w9 x5_1.1]]) [Q9, Q7] [Q10, Q10, Q5, Q6] (by kernel_rfl) (by kernel_rfl) (by kernel_rfl) (by kernel_rfl) (by kernel_rfl) ⟨(by kernel_rfl), ⟨(qA3 _ (u29 _)), trivial⟩⟩ (by kernel_rfl) (by kernel_rfl)
  ·let E10 : Env := ((42, .bool (decide ((x5_1.1.length : Int) = 0))) :: (41, .i (x5_1.1.length : Int)) :: (40, w9 x5_1.1) :: (36, .bool false) :: (36, .bool x6_2.1) :: E8)
   refine oR 7 (atN 3 (ctl1 i20p15)) E10 ?_
   refine oX (fun (x7_3 : Unit) => .tuple []) (fun x7_3 => [⟨[.str a7, w34 a8, .i x6_2.2, .i a10], 4, false⟩, Q7, Q8, Q3, Q5, Q6]) (atN 4 (ctl1 i20p15)) 43 [] [] [] [2] [0, 1] [.bool (decide ((x5_1.1.length : Int) = 0))] (qC7 k (decide ((x5_1.1.length : Int) = 0))) (qDb k (decide ((x5_1.1.length : Int) = 0))) trivial (fun _ => trivial) ⟨u29 _, trivial⟩ fun x7_3 hx7_3 => ?_
   refine oR 2 i20p17 ((43, .tuple []) :: E10) ?_
   refine oK0 [0, 2, 3, 5, 8] ?_
   let E11 : Env := keepOnly ((43, .tuple []) :: E10) [0, 2, 3, 5, 8]
   refine oR 2 (atN 1 (ctl1 i20p17)) ((44, .ptr 0 4 0) :: E11) ?_
   refine oX (fun (x8_1 : Int) => .tuple []) (fun x8_1 => [⟨[.str a7, w34 a8, .i x8_1, .i a10], 4, false⟩, Q7, Q8, Q3, Q5, Q6]) (atN 2 (ctl1 i20p17)) 45 [0] [] [] [0, 2] [0, 1] [.ptr 0 4 0, .str [44]] (qAj k ([44] : List Nat) a7 a8 x6_2.2 a10) (qAw k ([44] : List Nat) a7 a8 x6_2.2 a10) trivial (fun _ => trivial) ⟨u29 _, trivial⟩ fun x8_1 hx8_1 => ?_
   refine oR 4 (atN 1 (ctl1 i20p18)) ((46, .ptr 0 4 0) :: (45, .tuple []) :: (44, .ptr 0 4 0) :: E11) ?_
   refine oN (fun (x9_1 : Ri12) => w9 x9_1.1) (fun x9_1 => [⟨[.str a7, w34 a8, .i x9_1.2, .i a10], 4, false⟩, Q7, Q8, Q3, Q5, Q6]) (atN 2 (ctl1 i20p18)) 47 [0] [] [] [.ptr 0 4 0] (qAl k a7 a8 x8_1 a10) trivial (fun _ => trivial) fun x9_1 hx9_1 => ?_
   refine oL 6 i20p6 [(0, .ptr 0 4 0), (2, .str a6), (3, .func 80 [.ptr 0 4 0] []), (5, .ptr 2 7 0), (8, .ptr 3 7 0), (9, w9 x9_1.1)] ?_
   refine qAc [⟨[.str a7, w34 a8, .i x9_1.2, .i a10], 4, false⟩, Q7, Q8, Q3] [Q5, Q6] (by kernel_rfl) rfl (by kernel_rfl) ⟨(by kernel_rfl), ⟨(qA3 _ (u29 _)), ⟨(by kernel_rfl), ⟨(by kernel_rfl), trivial⟩⟩⟩⟩ ?_
   exact ih x9_1.1 x9_1.2 x4_4
def i20B (k : Nat) (F : Fns0) (a0 : Int) (a1 : (List Nat)) (a2 : Bool) (a3 : Bool) (a4 : (List (List Nat))) (a5 : (List (List Nat))) (a6 : (List Nat)) (a7 : (List Nat)) (a8 : (List S33)) (a9 : Int) (a10 : Int) (b1 : (List S28)) : Option (Option Ri20) :=
 (i28 k a7 a8 a9 a10).bind fun x0_1 => (i12 k a7 a8 a9 a10).bind fun x1_1 => bT (i7 k a6 a7 a8 x1_1.2 a10) fun x2_2 => if x2_2.1 then (some (some (a0, a1, x0_1, a3, a4, x1_1.1, x2_2.2, b1))) else (qHb k F a0 a1 a3 a4 a5 a6 a7 a8 a10 x0_1 k x1_1.1 x2_2.2 b1)
theorem qJg (k : Nat) (F : Fns0) (hF : FnsOk0 F) (a0 : Int) (a1 : (List Nat)) (a2 : Bool) (a3 : Bool) (a4 : (List (List Nat))) (a5 : (List (List Nat))) (a6 : (List Nat)) (a7 : (List Nat)) (a8 : (List S33)) (a9 : Int) (a10 : Int) (b1 : (List S28)) (r : (Option Ri20)) (h : i20B k F a0 a1 a2 a3 a4 a5 a6 a7 a8 a9 a10 b1 = some r) : CallT Try.prog 77 [.ptr 0 4 0, .agg [.i a0, .str a1, .own 1 (b1).length 7, .bool a2, .bool a3, w9 a4, w9 a5], .str a6, .func 80 [.ptr 0 4 0] []] (mkH [⟨[.str a7, w34 a8, .i a9, .i a10], 4, false⟩, ⟨(b1).flatMap e29, 0, false⟩]) ((Xi20 a0 a1 a2 a3 a4 a5 a6 a7 a8 a9 a10 b1).thr r) ((Xi20 a0 a1 a2 a3 a4 a5 a6 a7 a8 a9 a10 b1).enc r) ((Xi20 a0 a1 a2 a3 a4 a5 a6 a7 a8 a9 a10 b1).fin r) := by
 refine qA2 (Xi20 a0 a1 a2 a3 a4 a5 a6 a7 a8 a9 a10 b1) Try.func77 (by kernel_rfl) (by kernel_rfl) rfl (t := i20B k F a0 a1 a2 a3 a4 a5 a6 a7 a8 a9 a10 b1) ?_ h
 unfold i20B
 refine qA0 (eE := [(0, .ptr 0 4 0), (1, .agg [.i a0, .str a1, .own 1 (b1).length 7, .bool a2, .bool a3, w9 a4, w9 a5]), (2, .str a6), (3, .func 80 [.ptr 0 4 0] [])]) (by kernel_rfl) ?_
 let E1 : Env := [(11, .ptr 0 4 0), (8, .ptr 3 7 0), (5, .ptr 2 7 0), (0, .ptr 0 4 0), (1, .agg [.i a0, .str a1, .own 1 (b1).length 7, .bool a2, .bool a3, w9 a4, w9 a5]), (2, .str a6), (3, .func 80 [.ptr 0 4 0] [])]
 let Q1 : Blk := ⟨[.str a7, w34 a8, .i a9, .i a10], 4, false⟩
 let Q2 : Blk := ⟨(b1).flatMap e29, 0, false⟩
 let Q3 : Blk := ⟨[.i a0, .str a1, .own 1 (b1).length 7, .bool a2, .bool a3, w9 a4, w9 a5], 0, false⟩
 let Q4 : Blk := ⟨[.i 0, .str [], .nils, .bool false, .bool false, .nils, .nils], 0, false⟩
 refine oH 9 (atN 1 (ctl1 i20p1)) E1 (mkH [Q1, Q2, Q3, Q4]) ?_
 refine oN (fun (x0_1 : Bool) => .bool x0_1) (fun x0_1 => [Q1, Q2, Q3, Q4]) (atN 2 (ctl1 i20p1)) 12 [0] [] [] [.ptr 0 4 0] (qGe k a7 a8 a9 a10) trivial (fun _ => trivial) fun x0_1 hx0_1 => ?_
 let Q5 : Blk := ⟨[.i a0, .str a1, .own 1 (b1).length 7, .bool x0_1, .bool a3, w9 a4, w9 a5], 7, false⟩
 refine oH 6 (atN 1 (ctl1 i20p2)) ((14, .ptr 0 4 0) :: (13, .ptr 2 7 3) :: (12, .bool x0_1) :: E1) (mkH [Q1, Q2, Q5, Q4]) ?_
 refine oN (fun (x1_1 : Ri12) => w9 x1_1.1) (fun x1_1 => [⟨[.str a7, w34 a8, .i x1_1.2, .i a10], 4, false⟩, Q2, Q5, Q4]) (atN 2 (ctl1 i20p2)) 15 [0] [] [] [.ptr 0 4 0] (qAl k a7 a8 a9 a10) trivial (fun _ => trivial) fun x1_1 hx1_1 => ?_
 let E2 : Env := ((17, .str a6) :: (16, .ptr 0 4 0) :: (9, w9 x1_1.1) :: (15, w9 x1_1.1) :: (14, .ptr 0 4 0) :: (13, .ptr 2 7 3) :: (12, .bool x0_1) :: E1)
 refine oR 7 (atN 2 (ctl1 i20p3)) E2 ?_
 refine oX (fun (x2_2 : (Bool × Int)) => .bool x2_2.1) (fun x2_2 => [⟨[.str a7, w34 a8, .i x2_2.2, .i a10], 4, false⟩, Q2, Q5, Q4]) (atN 3 (ctl1 i20p3)) 18 [0] [] [] [2] [0, 1] [.ptr 0 4 0, .str a6] (qAb k a6 a7 a8 x1_1.2 a10) (qAi k a6 a7 a8 x1_1.2 a10) trivial (fun _ => trivial) ⟨u29 _, trivial⟩ fun x2_2 hx2_2 => ?_
 refine oR 1 i20p4 ((18, .bool x2_2.1) :: E2) ?_
 refine oK [0, 2, 3, 5, 8, 9, 18] [(0, .ptr 0 4 0), (2, .str a6), (3, .func 80 [.ptr 0 4 0] []), (5, .ptr 2 7 0), (8, .ptr 3 7 0), (9, w9 x1_1.1), (18, .bool x2_2.1)] ?_
 refine oS 18 (fun hb => ?_) (fun hb => ?_)
 ·let Q6 : Blk := ⟨[.str a7, w34 a8, .i x2_2.2, .i a10], 4, false⟩
  let Q7 : Blk := ⟨[.i a0, .str a1, .own 1 (b1).length 7, .bool x0_1, .bool a3, w9 a4, w9 x1_1.1], 7, false⟩
  refine oLH 8 i20p7 [(5, .ptr 2 7 0), (8, .ptr 3 7 0)] (mkH [Q6, Q2, Q7, Q4]) ?_
  refine oH 5 .fin ((21, .agg [.i a0, .str a1, .own 1 (b1).length 7, .bool x0_1, .bool a3, w9 a4, w9 x1_1.1]) :: [(5, .ptr 2 7 0), (8, .ptr 3 7 0)]) (mkH [Q6, Q2, Q7, Q7]) ?_
  exact qBp (r := some (a0, a1, x0_1, a3, a4, x1_1.1, x2_2.2, b1)) (xs := [.agg [.i a0, .str a1, .own 1 (b1).length 7, .bool x0_1, .bool a3, w9 a4, w9 x1_1.1]]) [Q6, Q2] [Q7, Q7] (by kernel_rfl) (by kernel_rfl) (by kernel_rfl) (by kernel_rfl) (by kernel_rfl) ⟨(by kernel_rfl), ⟨(qA3 _ (u29 _)), trivial⟩⟩ (by kernel_rfl) (by kernel_rfl)
 ·refine oR 5 i20p6 ((18, .bool false) :: (keepOnly ((18, .bool x2_2.1) :: E2) [0, 2, 3, 5, 8, 9, 18])) ?_
  refine oK [0, 2, 3, 5, 8, 9] [(0, .ptr 0 4 0), (2, .str a6), (3, .func 80 [.ptr 0 4 0] []), (5, .ptr 2 7 0), (8, .ptr 3 7 0), (9, w9 x1_1.1)] ?_
  exact (qKk k F hF a0 a1 a2 a3 a4 a5 a6 a7 a8 a9 a10 b1 x0_1 k) x1_1.1 x2_2.2 b1
theorem i20B_ok (k : Nat) (F : Fns0) (hF : FnsOk0 F) : Pi20 (i20B k F) := fun a0 a1 a2 a3 a4 a5 a6 a7 a8 a9 a10 b1 x h => qJg k F hF a0 a1 a2 a3 a4 a5 a6 a7 a8 a9 a10 b1 (some x) h
theorem i20B_thr (k : Nat) (F : Fns0) (hF : FnsOk0 F) : Qi20 (i20B k F) := fun a0 a1 a2 a3 a4 a5 a6 a7 a8 a9 a10 b1 h => ⟨_, qJg k F hF a0 a1 a2 a3 a4 a5 a6 a7 a8 a9 a10 b1 none h⟩
def Xi21 (a0 : Int) (a1 : (List Nat)) (a2 : Bool) (a3 : Bool) (a4 : (List (List Nat))) (a5 : (List (List Nat))) (a6 : (List Nat)) (a7 : (List Nat)) (a8 : (List S33)) (a9 : Int) (a10 : Int) (b1 : (List S28)) : Fx (Option Ri21) := ⟨Try.prog, cx, Try.f77, fun r => match r with | some r => .agg [.i r.1, .str r.2.1, .own 1 (r.2.2.2.2.2.2.2).length 7, .bool r.2.2.1, .bool r.2.2.2.1, w9 r.2.2.2.2.1, w9 r.2.2.2.2.2.1] | none => .top, 2, fun r => match r with | some r => (mkH [⟨[.str a7, w34 a8, .i r.2.2.2.2.2.2.1, .i a10], 4, false⟩, ⟨(r.2.2.2.2.2.2.2).flatMap e29, 0, false⟩]) | none => (mkH [⟨[.str a7, w34 a8, .i a9, .i a10], 4, false⟩, ⟨(b1).flatMap e29, 0, false⟩]), cxTi, cxOrd, fun r => match r with | some _ => none | none => some (thrown, [0, 1]), false⟩
def i21p0 : Pt := nav [0] (bodyAt Try.f77)
def i21p1 : Pt := nav [0, 0, 0, 0] i21p0
def i21p2 : Pt := nav [0, 0, 0] i21p1
def i21p3 : Pt := nav [0, 0, 0, 0] i21p2
def i21p4 : Pt := nav [0, 0] i21p3
def i21p5 : Pt := nav [1, 0] i21p4
def i21p6 : Pt := nav [2, 0, 0, 0, 0] i21p4
def i21p7 : Pt := nav [0, 0, 0] i21p5
def i21p8 : Pt := nav [0, 0, 0] i21p6
def i21p10 : Pt := nav [0, 0, 0] i21p8
def i21p11 : Pt := nav [0, 0, 0, 0] i21p10
def i21p12 : Pt := nav [0, 0, 0] i21p11
def i21p13 : Pt := nav [0, 0] i21p12
def i21p14 : Pt := nav [1, 0] i21p13
def i21p15 : Pt := nav [2, 0, 0] i21p13
def i21p16 : Pt := nav [0, 0, 0] i21p14
def i21p17 : Pt := nav [0, 0, 0] i21p15
def i21p18 : Pt := nav [0, 0, 0] i21p17
def qFf (k : Nat) (F : Fns0)  (a0 : Int) (a1 : (List Nat)) (a3 : Bool) (a4 : (List (List Nat))) (a5 : (List (List Nat))) (a6 : (List Nat)) (a7 : (List Nat)) (a8 : (List S33)) (a10 : Int) (x0_1 : Bool) (ih : (List (List Nat)) → Int → (List S28) → Option (Option Ri21)) : (List (List Nat)) → Int → (List S28) → Option (Option Ri21) :=
 fun (y10_0 : (List (List Nat))) (y10_1 : Int) (y10_2 : (List S28)) => bT (F.i32 a7 a8 y10_1 a10) fun x3_1 => (appS 104 y10_2 ([(⟨x3_1.1.f0, x3_1.1.f1, x3_1.1.f2, x3_1.1.f3, x3_1.1.f4, y10_0, x3_1.1.f6⟩ : S28)] : List S28)).bind fun x4_4 => (i12 k a7 a8 x3_1.2 a10).bind fun x5_1 => bT (i7 k a6 a7 a8 x5_1.2 a10) fun x6_2 => if x6_2.1 then (some (some (a0, a1, x0_1, a3, a4, x5_1.1, x6_2.2, x4_4))) else (bT (i16 k (decide ((x5_1.1.length : Int) = 0))) fun x7_3 => bT (i23 k ([44] : List Nat) a7 a8 x6_2.2 a10) fun x8_1 => (i12 k a7 a8 x8_1 a10).bind fun x9_1 => ih x9_1.1 x9_1.2 x4_4)
def qHa (k : Nat) (F : Fns0)  (a0 : Int) (a1 : (List Nat)) (a3 : Bool) (a4 : (List (List Nat))) (a5 : (List (List Nat))) (a6 : (List Nat)) (a7 : (List Nat)) (a8 : (List S33)) (a10 : Int) (x0_1 : Bool) (n : Nat) : (List (List Nat)) → Int → (List S28) → Option (Option Ri21) := lp (fun _ _ _ => none) (qFf k F a0 a1 a3 a4 a5 a6 a7 a8 a10 x0_1) n
theorem qKj (k : Nat) (F : Fns0) (hF : FnsOk0 F) (a0 : Int) (a1 : (List Nat)) (a2 : Bool) (a3 : Bool) (a4 : (List (List Nat))) (a5 : (List (List Nat))) (a6 : (List Nat)) (a7 : (List Nat)) (a8 : (List S33)) (a9 : Int) (a10 : Int) (b1 : (List S28))  (x0_1 : Bool)  : ∀ (n : Nat) (y10_0 : (List (List Nat))) (y10_1 : Int) (y10_2 : (List S28)), Ok (Xi21 a0 a1 a2 a3 a4 a5 a6 a7 a8 a9 a10 b1) i21p6 [(0, .ptr 0 4 0), (2, .str a6), (3, .func 81 [.ptr 0 4 0] []), (5, .ptr 2 7 0), (8, .ptr 3 7 0), (9, w9 y10_0)] (mkH [⟨[.str a7, w34 a8, .i y10_1, .i a10], 4, false⟩, ⟨(y10_2).flatMap e29, 0, false⟩, ⟨[.i a0, .str a1, .own 1 (y10_2).length 7, .bool x0_1, .bool a3, w9 a4, w9 a5], 7, false⟩, ⟨[.i 0, .str [], .nils, .bool false, .bool false, .nils, .nils], 0, false⟩]) (qHa k F a0 a1 a3 a4 a5 a6 a7 a8 a10 x0_1 n y10_0 y10_1 y10_2) := by
 intro n
 induction n with
 | zero => intro y10_0 y10_1 y10_2; exact ok_none
 | succ n ih =>
  intro y10_0 y10_1 y10_2
  show Ok _ _ _ _ (qFf k F a0 a1 a3 a4 a5 a6 a7 a8 a10 x0_1 (qHa k F a0 a1 a3 a4 a5 a6 a7 a8 a10 x0_1 n) y10_0 y10_1 y10_2)
  unfold qFf
  let E5 : Env := [(22, .func 81 [.ptr 0 4 0] []), (0, .ptr 0 4 0), (2, .str a6), (3, .func 81 [.ptr 0 4 0] []), (5, .ptr 2 7 0), (8, .ptr 3 7 0), (9, w9 y10_0)]
  let Q1 : Blk := ⟨(y10_2).flatMap e29, 0, false⟩
  let Q2 : Blk := ⟨[.i a0, .str a1, .own 1 (y10_2).length 7, .bool x0_1, .bool a3, w9 a4, w9 a5], 7, false⟩
  let Q3 : Blk := ⟨[.i 0, .str [], .nils, .bool false, .bool false, .nils, .nils], 0, false⟩
  refine oH 2 (atN 1 (ctl1 i21p6)) E5 (mkH [⟨[.str a7, w34 a8, .i y10_1, .i a10], 4, false⟩, Q1, Q2, Q3]) ?_
  refine oX (fun (x3_1 : (S28 × Int)) => n29 x3_1.1) (fun x3_1 => [⟨[.str a7, w34 a8, .i x3_1.2, .i a10], 4, false⟩, Q1, Q2, Q3]) (atN 2 (ctl1 i21p6)) 23 [0] [] [] [0, 2] [0, 1] [.ptr 0 4 0] (hF.i32_thr a7 a8 y10_1 a10) (hF.i32_ok a7 a8 y10_1 a10) trivial (fun _ => trivial) ⟨u29 _, trivial⟩ fun x3_1 hx3_1 => ?_
  let Q4 : Blk := ⟨[.str a7, w34 a8, .i x3_1.2, .i a10], 4, false⟩
  let Q5 : Blk := ⟨[.i x3_1.1.f0, .str x3_1.1.f1, q29 x3_1.1.f2, .bool x3_1.1.f3, .bool x3_1.1.f4, w9 y10_0, w9 x3_1.1.f6], 7, false⟩
  let Q6 : Blk := ⟨[.i x3_1.1.f0, .str x3_1.1.f1, q29 x3_1.1.f2, .bool x3_1.1.f3, .bool x3_1.1.f4, w9 y10_0, w9 x3_1.1.f6], 0, false⟩
  refine oH 15 (atN 4 (ctl1 i21p10)) ((29, .slice 5 7 0 1 7) :: (28, .agg [.i x3_1.1.f0, .str x3_1.1.f1, q29 x3_1.1.f2, .bool x3_1.1.f3, .bool x3_1.1.f4, w9 y10_0, w9 x3_1.1.f6]) :: (27, .own 1 (y10_2).length 7) :: (26, .ptr 2 7 2) :: (25, .ptr 4 7 5) :: (24, w9 y10_0) :: (10, .ptr 4 7 0) :: (23, n29 x3_1.1) :: E5) (mkH [Q4, Q1, Q2, Q3, Q5, Q6]) ?_
  refine oC (fun (x4_4 : (List S28)) => (.own 1 (x4_4).length 7, (mkH [Q4, ⟨(x4_4).flatMap e29, 0, false⟩, Q2, Q3, Q5, Q6]))) (atN 5 (ctl1 i21p10)) 30 (appH (sz := 7) qA7 rfl qAx [Q4, Q1, Q2, Q3, Q5, Q6] 1 104 y10_2 ([(⟨x3_1.1.f0, x3_1.1.f1, x3_1.1.f2, x3_1.1.f3, x3_1.1.f4, y10_0, x3_1.1.f6⟩ : S28)] : List S28) rfl rfl (by kernel_rfl)) fun x4_4 hx4_4 => ?_
  let E7 : Env := [(0, .ptr 0 4 0), (2, .str a6), (3, .func 81 [.ptr 0 4 0] []), (5, .ptr 2 7 0), (8, .ptr 3 7 0)]
  let Q7 : Blk := ⟨(x4_4).flatMap e29, 0, false⟩
  let Q8 : Blk := ⟨[.i a0, .str a1, .own 1 (x4_4).length 7, .bool x0_1, .bool a3, w9 a4, w9 a5], 7, false⟩
  refine oLH 5 i21p11 E7 (mkH [Q4, Q7, Q8, Q3, Q5, Q6]) ?_
  refine oR 2 (atN 1 (ctl1 i21p11)) ((32, .ptr 0 4 0) :: E7) ?_
  refine oN (fun (x5_1 : Ri12) => w9 x5_1.1) (fun x5_1 => [⟨[.str a7, w34 a8, .i x5_1.2, .i a10], 4, false⟩, Q7, Q8, Q3, Q5, Q6]) (atN 2 (ctl1 i21p11)) 33 [0] [] [] [.ptr 0 4 0] (qAl k a7 a8 x3_1.2 a10) trivial (fun _ => trivial) fun x5_1 hx5_1 => ?_
  let E8 : Env := ((35, .str a6) :: (34, .ptr 0 4 0) :: (9, w9 x5_1.1) :: (33, w9 x5_1.1) :: (32, .ptr 0 4 0) :: E7)
  refine oR 6 (atN 2 (ctl1 i21p12)) E8 ?_
  refine oX (fun (x6_2 : (Bool × Int)) => .bool x6_2.1) (fun x6_2 => [⟨[.str a7, w34 a8, .i x6_2.2, .i a10], 4, false⟩, Q7, Q8, Q3, Q5, Q6]) (atN 3 (ctl1 i21p12)) 36 [0] [] [] [2] [0, 1] [.ptr 0 4 0, .str a6] (qAb k a6 a7 a8 x5_1.2 a10) (qAi k a6 a7 a8 x5_1.2 a10) trivial (fun _ => trivial) ⟨u29 _, trivial⟩ fun x6_2 hx6_2 => ?_
  refine oR 1 i21p13 ((36, .bool x6_2.1) :: E8) ?_
  refine oS 36 (fun hb => ?_) (fun hb => ?_)
  ·let Q9 : Blk := ⟨[.str a7, w34 a8, .i x6_2.2, .i a10], 4, false⟩
   let Q10 : Blk := ⟨[.i a0, .str a1, .own 1 (x4_4).length 7, .bool x0_1, .bool a3, w9 a4, w9 x5_1.1], 7, false⟩
   refine oLH 8 i21p16 [(5, .ptr 2 7 0), (8, .ptr 3 7 0)] (mkH [Q9, Q7, Q10, Q3, Q5, Q6]) ?_
   refine oH 5 .fin ((39, .agg [.i a0, .str a1, .own 1 (x4_4).length 7, .bool x0_1, .bool a3, w9 a4, w9 x5_1.1]) :: [(5, .ptr 2 7 0), (8, .ptr 3 7 0)]) (mkH [Q9, Q7, Q10, Q10, Q5, Q6]) ?_
   exact qBp (r := some (a0, a1, x0_1, a3, a4, x5_1.1, x6_2.2, x4_4)) (xs := [.agg [.i a0, .str a1, .own 1 (x4_4).length 7, .bool x0_1, .bool a3, w9 a4, w9 x5_1.1]]) [Q9, Q7] [Q10, Q10, Q5, Q6] (by kernel_rfl) (by kernel_rfl) (by kernel_rfl) (by kernel_rfl) (by kernel_rfl) ⟨(by kernel_rfl), ⟨(qA3 _ (u29 _)), trivial⟩⟩ (by kernel_rfl) (by kernel_rfl)
  ·let E10 : Env := ((42, .bool (decide ((x5_1.1.length : Int) = 0))) :: (41, .i (x5_1.1.length : Int)) :: (40, w9 x5_1.1) :: (36, .bool false) :: (36, .bool x6_2.1) :: E8)
   refine oR 7 (atN 3 (ctl1 i21p15)) E10 ?_
   refine oX (fun (x7_3 : Unit) => .tuple []) (fun x7_3 => [⟨[.str a7, w34 a8, .i x6_2.2, .i a10], 4, false⟩, Q7, Q8, Q3, Q5, Q6]) (atN 4 (ctl1 i21p15)) 43 [] [] [] [2] [0, 1] [.bool (decide ((x5_1.1.length : Int) = 0))] (qC7 k (decide ((x5_1.1.length : Int) = 0))) (qDb k (decide ((x5_1.1.length : Int) = 0))) trivial (fun _ => trivial) ⟨u29 _, trivial⟩ fun x7_3 hx7_3 => ?_
   refine oR 2 i21p17 ((43, .tuple []) :: E10) ?_
   refine oK0 [0, 2, 3, 5, 8] ?_
   let E11 : Env := keepOnly ((43, .tuple []) :: E10) [0, 2, 3, 5, 8]
   refine oR 2 (atN 1 (ctl1 i21p17)) ((44, .ptr 0 4 0) :: E11) ?_
   refine oX (fun (x8_1 : Int) => .tuple []) (fun x8_1 => [⟨[.str a7, w34 a8, .i x8_1, .i a10], 4, false⟩, Q7, Q8, Q3, Q5, Q6]) (atN 2 (ctl1 i21p17)) 45 [0] [] [] [0, 2] [0, 1] [.ptr 0 4 0, .str [44]] (qAj k ([44] : List Nat) a7 a8 x6_2.2 a10) (qAw k ([44] : List Nat) a7 a8 x6_2.2 a10) trivial (fun _ => trivial) ⟨u29 _, trivial⟩ fun x8_1 hx8_1 => ?_
   refine oR 4 (atN 1 (ctl1 i21p18)) ((46, .ptr 0 4 0) :: (45, .tuple []) :: (44, .ptr 0 4 0) :: E11) ?_
   refine oN (fun (x9_1 : Ri12) => w9 x9_1.1) (fun x9_1 => [⟨[.str a7, w34 a8, .i x9_1.2, .i a10], 4, false⟩, Q7, Q8, Q3, Q5, Q6]) (atN 2 (ctl1 i21p18)) 47 [0] [] [] [.ptr 0 4 0] (qAl k a7 a8 x8_1 a10) trivial (fun _ => trivial) fun x9_1 hx9_1 => ?_
   refine oL 6 i21p6 [(0, .ptr 0 4 0), (2, .str a6), (3, .func 81 [.ptr 0 4 0] []), (5, .ptr 2 7 0), (8, .ptr 3 7 0), (9, w9 x9_1.1)] ?_
   refine qAc [⟨[.str a7, w34 a8, .i x9_1.2, .i a10], 4, false⟩, Q7, Q8, Q3] [Q5, Q6] (by kernel_rfl) rfl (by kernel_rfl) ⟨(by kernel_rfl), ⟨(qA3 _ (u29 _)), ⟨(by kernel_rfl), ⟨(by kernel_rfl), trivial⟩⟩⟩⟩ ?_
   exact ih x9_1.1 x9_1.2 x4_4
def i21B (k : Nat) (F : Fns0) (a0 : Int) (a1 : (List Nat)) (a2 : Bool) (a3 : Bool) (a4 : (List (List Nat))) (a5 : (List (List Nat))) (a6 : (List Nat)) (a7 : (List Nat)) (a8 : (List S33)) (a9 : Int) (a10 : Int) (b1 : (List S28)) : Option (Option Ri21) :=
 (i28 k a7 a8 a9 a10).bind fun x0_1 => (i12 k a7 a8 a9 a10).bind fun x1_1 => bT (i7 k a6 a7 a8 x1_1.2 a10) fun x2_2 => if x2_2.1 then (some (some (a0, a1, x0_1, a3, a4, x1_1.1, x2_2.2, b1))) else (qHa k F a0 a1 a3 a4 a5 a6 a7 a8 a10 x0_1 k x1_1.1 x2_2.2 b1)
theorem qJf (k : Nat) (F : Fns0) (hF : FnsOk0 F) (a0 : Int) (a1 : (List Nat)) (a2 : Bool) (a3 : Bool) (a4 : (List (List Nat))) (a5 : (List (List Nat))) (a6 : (List Nat)) (a7 : (List Nat)) (a8 : (List S33)) (a9 : Int) (a10 : Int) (b1 : (List S28)) (r : (Option Ri21)) (h : i21B k F a0 a1 a2 a3 a4 a5 a6 a7 a8 a9 a10 b1 = some r) : CallT Try.prog 77 [.ptr 0 4 0, .agg [.i a0, .str a1, .own 1 (b1).length 7, .bool a2, .bool a3, w9 a4, w9 a5], .str a6, .func 81 [.ptr 0 4 0] []] (mkH [⟨[.str a7, w34 a8, .i a9, .i a10], 4, false⟩, ⟨(b1).flatMap e29, 0, false⟩]) ((Xi21 a0 a1 a2 a3 a4 a5 a6 a7 a8 a9 a10 b1).thr r) ((Xi21 a0 a1 a2 a3 a4 a5 a6 a7 a8 a9 a10 b1).enc r) ((Xi21 a0 a1 a2 a3 a4 a5 a6 a7 a8 a9 a10 b1).fin r) := by
 refine qA2 (Xi21 a0 a1 a2 a3 a4 a5 a6 a7 a8 a9 a10 b1) Try.func77 (by kernel_rfl) (by kernel_rfl) rfl (t := i21B k F a0 a1 a2 a3 a4 a5 a6 a7 a8 a9 a10 b1) ?_ h
 unfold i21B
 refine qA0 (eE := [(0, .ptr 0 4 0), (1, .agg [.i a0, .str a1, .own 1 (b1).length 7, .bool a2, .bool a3, w9 a4, w9 a5]), (2, .str a6), (3, .func 81 [.ptr 0 4 0] [])]) (by kernel_rfl) ?_
 let E1 : Env := [(11, .ptr 0 4 0), (8, .ptr 3 7 0), (5, .ptr 2 7 0), (0, .ptr 0 4 0), (1, .agg [.i a0, .str a1, .own 1 (b1).length 7, .bool a2, .bool a3, w9 a4, w9 a5]), (2, .str a6), (3, .func 81 [.ptr 0 4 0] [])]
 let Q1 : Blk := ⟨[.str a7, w34 a8, .i a9, .i a10], 4, false⟩
 let Q2 : Blk := ⟨(b1).flatMap e29, 0, false⟩
 let Q3 : Blk := ⟨[.i a0, .str a1, .own 1 (b1).length 7, .bool a2, .bool a3, w9 a4, w9 a5], 0, false⟩
 let Q4 : Blk := ⟨[.i 0, .str [], .nils, .bool false, .bool false, .nils, .nils], 0, false⟩
 refine oH 9 (atN 1 (ctl1 i21p1)) E1 (mkH [Q1, Q2, Q3, Q4]) ?_
 refine oN (fun (x0_1 : Bool) => .bool x0_1) (fun x0_1 => [Q1, Q2, Q3, Q4]) (atN 2 (ctl1 i21p1)) 12 [0] [] [] [.ptr 0 4 0] (qGe k a7 a8 a9 a10) trivial (fun _ => trivial) fun x0_1 hx0_1 => ?_
 let Q5 : Blk := ⟨[.i a0, .str a1, .own 1 (b1).length 7, .bool x0_1, .bool a3, w9 a4, w9 a5], 7, false⟩
 refine oH 6 (atN 1 (ctl1 i21p2)) ((14, .ptr 0 4 0) :: (13, .ptr 2 7 3) :: (12, .bool x0_1) :: E1) (mkH [Q1, Q2, Q5, Q4]) ?_
 refine oN (fun (x1_1 : Ri12) => w9 x1_1.1) (fun x1_1 => [⟨[.str a7, w34 a8, .i x1_1.2, .i a10], 4, false⟩, Q2, Q5, Q4]) (atN 2 (ctl1 i21p2)) 15 [0] [] [] [.ptr 0 4 0] (qAl k a7 a8 a9 a10) trivial (fun _ => trivial) fun x1_1 hx1_1 => ?_
 let E2 : Env := ((17, .str a6) :: (16, .ptr 0 4 0) :: (9, w9 x1_1.1) :: (15, w9 x1_1.1) :: (14, .ptr 0 4 0) :: (13, .ptr 2 7 3) :: (12, .bool x0_1) :: E1)
 refine oR 7 (atN 2 (ctl1 i21p3)) E2 ?_
 refine oX (fun (x2_2 : (Bool × Int)) => .bool x2_2.1) (fun x2_2 => [⟨[.str a7, w34 a8, .i x2_2.2, .i a10], 4, false⟩, Q2, Q5, Q4]) (atN 3 (ctl1 i21p3)) 18 [0] [] [] [2] [0, 1] [.ptr 0 4 0, .str a6] (qAb k a6 a7 a8 x1_1.2 a10) (qAi k a6 a7 a8 x1_1.2 a10) trivial (fun _ => trivial) ⟨u29 _, trivial⟩ fun x2_2 hx2_2 => ?_
 refine oR 1 i21p4 ((18, .bool x2_2.1) :: E2) ?_
 refine oK [0, 2, 3, 5, 8, 9, 18] [(0, .ptr 0 4 0), (2, .str a6), (3, .func 81 [.ptr 0 4 0] []), (5, .ptr 2 7 0), (8, .ptr 3 7 0), (9, w9 x1_1.1), (18, .bool x2_2.1)] ?_
 refine oS 18 (fun hb => ?_) (fun hb => ?_)
 ·let Q6 : Blk := ⟨[.str a7, w34 a8, .i x2_2.2, .i a10], 4, false⟩
  let Q7 : Blk := ⟨[.i a0, .str a1, .own 1 (b1).length 7, .bool x0_1, .bool a3, w9 a4, w9 x1_1.1], 7, false⟩
  refine oLH 8 i21p7 [(5, .ptr 2 7 0), (8, .ptr 3 7 0)] (mkH [Q6, Q2, Q7, Q4]) ?_
  refine oH 5 .fin ((21, .agg [.i a0, .str a1, .own 1 (b1).length 7, .bool x0_1, .bool a3, w9 a4, w9 x1_1.1]) :: [(5, .ptr 2 7 0), (8, .ptr 3 7 0)]) (mkH [Q6, Q2, Q7, Q7]) ?_
  exact qBp (r := some (a0, a1, x0_1, a3, a4, x1_1.1, x2_2.2, b1)) (xs := [.agg [.i a0, .str a1, .own 1 (b1).length 7, .bool x0_1, .bool a3, w9 a4, w9 x1_1.1]]) [Q6, Q2] [Q7, Q7] (by kernel_rfl) (by kernel_rfl) (by kernel_rfl) (by kernel_rfl) (by kernel_rfl) ⟨(by kernel_rfl), ⟨(qA3 _ (u29 _)), trivial⟩⟩ (by kernel_rfl) (by kernel_rfl)
 ·refine oR 5 i21p6 ((18, .bool false) :: (keepOnly ((18, .bool x2_2.1) :: E2) [0, 2, 3, 5, 8, 9, 18])) ?_
  refine oK [0, 2, 3, 5, 8, 9] [(0, .ptr 0 4 0), (2, .str a6), (3, .func 81 [.ptr 0 4 0] []), (5, .ptr 2 7 0), (8, .ptr 3 7 0), (9, w9 x1_1.1)] ?_
  exact (qKj k F hF a0 a1 a2 a3 a4 a5 a6 a7 a8 a9 a10 b1 x0_1 k) x1_1.1 x2_2.2 b1
theorem i21B_ok (k : Nat) (F : Fns0) (hF : FnsOk0 F) : Pi21 (i21B k F) := fun a0 a1 a2 a3 a4 a5 a6 a7 a8 a9 a10 b1 x h => qJf k F hF a0 a1 a2 a3 a4 a5 a6 a7 a8 a9 a10 b1 (some x) h
theorem i21B_thr (k : Nat) (F : Fns0) (hF : FnsOk0 F) : Qi21 (i21B k F) := fun a0 a1 a2 a3 a4 a5 a6 a7 a8 a9 a10 b1 h => ⟨_, qJf k F hF a0 a1 a2 a3 a4 a5 a6 a7 a8 a9 a10 b1 none h⟩
def i24c0 : List Nat := [114, 101, 99, 101, 105, 118, 101]
def i24c1 : List Nat := [98, 101, 103, 105, 110]
def Xi24 (a0 : (List Nat)) (a1 : (List S33)) (a2 : Int) (a3 : Int) : Fx (Option (S28 × Int)) := ⟨Try.prog, cx, Try.f84, fun r => match r with | some r => .agg [.i r.1.f0, .str r.1.f1, q29 r.1.f2, .bool r.1.f3, .bool r.1.f4, w9 r.1.f5, w9 r.1.f6] | none => .top, 1, fun r => match r with | some r => (mkH [⟨[.str a0, w34 a1, .i r.2, .i a3], 4, false⟩]) | none => (mkH [⟨[.str a0, w34 a1, .i a2, .i a3], 4, false⟩]), cxTi, cxOrd, fun r => match r with | some _ => none | none => some (thrown, [0]), false⟩
def i24p0 : Pt := nav [0] (bodyAt Try.f84)
def i24p1 : Pt := nav [0, 0, 0, 0, 0] i24p0
def i24p2 : Pt := nav [0, 0] i24p1
def i24p3 : Pt := nav [1, 0, 0] i24p2
def i24p4 : Pt := nav [2, 0] i24p2
def i24p5 : Pt := nav [0, 0] i24p3
def i24p6 : Pt := nav [0, 0] i24p4
def i24p7 : Pt := nav [1, 0] i24p5
def i24p8 : Pt := nav [2, 0, 0] i24p5
def i24p9 : Pt := nav [1, 0] i24p6
def i24p10 : Pt := nav [2, 0] i24p6
def i24p12 : Pt := nav [0, 0, 0] i24p9
def i24p13 : Pt := nav [0, 0] i24p10
def i24p14 : Pt := nav [0, 0, 0] i24p12
def i24p15 : Pt := nav [1, 0] i24p13
def i24p16 : Pt := nav [2, 0] i24p13
def i24p17 : Pt := nav [0, 0] i24p16
def i24p18 : Pt := nav [1, 0] i24p17
def i24p19 : Pt := nav [2, 0, 0] i24p17
def i24p20 : Pt := nav [0, 0, 0] i24p19
def i24p21 : Pt := nav [0, 0, 0] i24p20
def i24p22 : Pt := nav [0, 0, 0] i24p21
def i24B (k : Nat) (F : Fns0) (a0 : (List Nat)) (a1 : (List S33)) (a2 : Int) (a3 : Int) : Option (Option (S28 × Int)) :=
 bT (i7 k ([102, 117, 110] : List Nat) a0 a1 a2 a3) fun x0_1 => if x0_1.1 then ((i10 k ([40] : List Nat) a0 a1 x0_1.2 a3).bind fun x1_1 => if x1_1 then (bT (F.i34 a0 a1 x0_1.2 a3) fun x2_1 => some (some ((⟨x2_1.1.f0, x2_1.1.f1, x2_1.1.f2, x2_1.1.f3, x2_1.1.f4, x2_1.1.f5, x2_1.1.f6⟩ : S28), x2_1.2))) else (bT (i35 k a0 a1 x0_1.2 a3) fun x3_1 => some (some ((⟨x3_1.1.f0, x3_1.1.f1, x3_1.1.f2, x3_1.1.f3, x3_1.1.f4, x3_1.1.f5, x3_1.1.f6⟩ : S28), x3_1.2)))) else (bT (i7 k ([99, 97, 115, 101] : List Nat) a0 a1 x0_1.2 a3) fun x4_1 => if x4_1.1 then (bT (F.i5 (0 : Int) a0 a1 x4_1.2 a3) fun x5_1 => bT (i23 k ([111, 102] : List Nat) a0 a1 x5_1.2 a3) fun x6_1 => bT (F.i36 (18 : Int) ([] : List Nat) false false ([] : List (List Nat)) ([] : List (List Nat)) a0 a1 x6_1 a3 ([(⟨x5_1.1.f0, x5_1.1.f1, x5_1.1.f2, x5_1.1.f3, x5_1.1.f4, x5_1.1.f5, x5_1.1.f6⟩ : S28)] : List S28)) fun x7_4 => some (some ((⟨x7_4.1, x7_4.2.1, ⟨(x7_4.2.2.2.2.2.2.2).length, (x7_4.2.2.2.2.2.2.2).flatMap e29⟩, x7_4.2.2.1, x7_4.2.2.2.1, x7_4.2.2.2.2.1, x7_4.2.2.2.2.2.1⟩ : S28), x7_4.2.2.2.2.2.2.1))) else (bT (i7 k ([105, 102] : List Nat) a0 a1 x4_1.2 a3) fun x8_1 => if x8_1.1 then (bT (F.i37 (19 : Int) ([] : List Nat) false false ([] : List (List Nat)) ([] : List (List Nat)) a0 a1 x8_1.2 a3 ([] : List S28)) fun x9_4 => some (some ((⟨x9_4.1, x9_4.2.1, ⟨(x9_4.2.2.2.2.2.2.2).length, (x9_4.2.2.2.2.2.2.2).flatMap e29⟩, x9_4.2.2.1, x9_4.2.2.2.1, x9_4.2.2.2.2.1, x9_4.2.2.2.2.2.1⟩ : S28), x9_4.2.2.2.2.2.2.1))) else (bT (i7 k i24c0 a0 a1 x8_1.2 a3) fun x10_1 => if x10_1.1 then (bT (F.i38 a0 a1 x10_1.2 a3) fun x11_1 => some (some ((⟨x11_1.1.f0, x11_1.1.f1, x11_1.1.f2, x11_1.1.f3, x11_1.1.f4, x11_1.1.f5, x11_1.1.f6⟩ : S28), x11_1.2))) else (bT (i23 k i24c1 a0 a1 x10_1.2 a3) fun x12_1 => bT (F.i6 a0 a1 x12_1 a3) fun x13_1 => (i12 k a0 a1 x13_1.2 a3).bind fun x14_1 => bT (i23 k ([101, 110, 100] : List Nat) a0 a1 x14_1.2 a3) fun x15_1 => some (some ((⟨(21 : Int), ([] : List Nat), ⟨(([(⟨x13_1.1.f0, x13_1.1.f1, x13_1.1.f2, x13_1.1.f3, x13_1.1.f4, x13_1.1.f5, x13_1.1.f6⟩ : S28)] : List S28)).length, (([(⟨x13_1.1.f0, x13_1.1.f1, x13_1.1.f2, x13_1.1.f3, x13_1.1.f4, x13_1.1.f5, x13_1.1.f6⟩ : S28)] : List S28)).flatMap e29⟩, false, false, ([] : List (List Nat)), x14_1.1⟩ : S28), x15_1))))))
theorem qJe (k : Nat) (F : Fns0) (hF : FnsOk0 F) (a0 : (List Nat)) (a1 : (List S33)) (a2 : Int) (a3 : Int) (r : (Option (S28 × Int))) (h : i24B k F a0 a1 a2 a3 = some r) : CallT Try.prog 84 [.ptr 0 4 0] (mkH [⟨[.str a0, w34 a1, .i a2, .i a3], 4, false⟩]) ((Xi24 a0 a1 a2 a3).thr r) ((Xi24 a0 a1 a2 a3).enc r) ((Xi24 a0 a1 a2 a3).fin r) := by
 refine qA2 (Xi24 a0 a1 a2 a3) Try.func84 (by kernel_rfl) (by kernel_rfl) rfl (t := i24B k F a0 a1 a2 a3) ?_ h
 unfold i24B
 refine qA0 (eE := [(0, .ptr 0 4 0)]) (by kernel_rfl) ?_
 let Q1 : Blk := ⟨[.i 0, .str [], .nils, .bool false, .bool false, .nils, .nils], 0, false⟩
 refine oH 9 (atN 1 (ctl1 i24p1)) [(6, .ptr 0 4 0), (2, .ptr 1 7 0), (0, .ptr 0 4 0)] (mkH [⟨[.str a0, w34 a1, .i a2, .i a3], 4, false⟩, Q1]) ?_
 refine oX (fun (x0_1 : (Bool × Int)) => .bool x0_1.1) (fun x0_1 => [⟨[.str a0, w34 a1, .i x0_1.2, .i a3], 4, false⟩, Q1]) (atN 2 (ctl1 i24p1)) 7 [0] [] [] [] [] [.ptr 0 4 0, .str [102, 117, 110]] (qAb k ([102, 117, 110] : List Nat) a0 a1 a2 a3) (qAi k ([102, 117, 110] : List Nat) a0 a1 a2 a3) trivial (fun _ => trivial) trivial fun x0_1 hx0_1 => ?_
 let E1 : Env := [(5, .bool x0_1.1), (7, .bool x0_1.1), (6, .ptr 0 4 0), (2, .ptr 1 7 0), (0, .ptr 0 4 0)]
 refine oR 2 i24p2 E1 ?_
 refine oS 5 (fun hb => ?_) (fun hb => ?_)
 ·refine oR 5 (atN 1 (ctl1 i24p3)) ((8, .ptr 0 4 0) :: (5, .bool true) :: E1) ?_
  refine oN (fun (x1_1 : Bool) => .bool x1_1) (fun x1_1 => [⟨[.str a0, w34 a1, .i x0_1.2, .i a3], 4, false⟩, Q1]) (atN 2 (ctl1 i24p3)) 9 [0] [] [] [.ptr 0 4 0, .str [40]] (qGg k ([40] : List Nat) a0 a1 x0_1.2 a3) trivial (fun _ => trivial) fun x1_1 hx1_1 => ?_
  refine oR 1 i24p5 ((9, .bool x1_1) :: (8, .ptr 0 4 0) :: (5, .bool true) :: E1) ?_
  refine oS 9 (fun hb => ?_) (fun hb => ?_)
  ·refine oR 4 (atN 1 (ctl1 i24p7)) ((10, .ptr 0 4 0) :: (9, .bool true) :: (9, .bool x1_1) :: (8, .ptr 0 4 0) :: (5, .bool true) :: E1) ?_
   refine oX (fun (x2_1 : (S28 × Int)) => n29 x2_1.1) (fun x2_1 => [⟨[.str a0, w34 a1, .i x2_1.2, .i a3], 4, false⟩, Q1]) (atN 2 (ctl1 i24p7)) 11 [0] [] [] [0] [] [.ptr 0 4 0] (hF.i34_thr a0 a1 x0_1.2 a3) (hF.i34_ok a0 a1 x0_1.2 a3) trivial (fun _ => trivial) trivial fun x2_1 hx2_1 => ?_
   exact oQF 3 [⟨[.str a0, w34 a1, .i x2_1.2, .i a3], 4, false⟩, ⟨e29 x2_1.1, 7, false⟩] 1 [] [n29 x2_1.1] (n29 x2_1.1) .ps trivial
  ·refine oR 5 (atN 1 (ctl1 i24p8)) ((12, .ptr 0 4 0) :: (9, .bool false) :: (9, .bool x1_1) :: (8, .ptr 0 4 0) :: (5, .bool true) :: E1) ?_
   refine oX (fun (x3_1 : (S28 × Int)) => n29 x3_1.1) (fun x3_1 => [⟨[.str a0, w34 a1, .i x3_1.2, .i a3], 4, false⟩, Q1]) (atN 2 (ctl1 i24p8)) 13 [0] [] [] [0] [] [.ptr 0 4 0] (i35_thr k a0 a1 x0_1.2 a3) (i35_ok k a0 a1 x0_1.2 a3) trivial (fun _ => trivial) trivial fun x3_1 hx3_1 => ?_
   exact oQF 3 [⟨[.str a0, w34 a1, .i x3_1.2, .i a3], 4, false⟩, ⟨e29 x3_1.1, 7, false⟩] 1 [] [n29 x3_1.1] (n29 x3_1.1) .ps trivial
 ·refine oR 4 (atN 1 (ctl1 i24p4)) ((15, .ptr 0 4 0) :: (5, .bool false) :: E1) ?_
  refine oX (fun (x4_1 : (Bool × Int)) => .bool x4_1.1) (fun x4_1 => [⟨[.str a0, w34 a1, .i x4_1.2, .i a3], 4, false⟩, Q1]) (atN 2 (ctl1 i24p4)) 16 [0] [] [] [] [] [.ptr 0 4 0, .str [99, 97, 115, 101]] (qAb k ([99, 97, 115, 101] : List Nat) a0 a1 x0_1.2 a3) (qAi k ([99, 97, 115, 101] : List Nat) a0 a1 x0_1.2 a3) trivial (fun _ => trivial) trivial fun x4_1 hx4_1 => ?_
  refine oR 2 i24p6 ((14, .bool x4_1.1) :: (16, .bool x4_1.1) :: (15, .ptr 0 4 0) :: (5, .bool false) :: E1) ?_
  refine oS 14 (fun hb => ?_) (fun hb => ?_)
  ·let E4 : Env := ((17, .ptr 0 4 0) :: (14, .bool true) :: (14, .bool x4_1.1) :: (16, .bool x4_1.1) :: (15, .ptr 0 4 0) :: (5, .bool false) :: E1)
   refine oR 4 (atN 1 (ctl1 i24p9)) E4 ?_
   refine oX (fun (x5_1 : (S28 × Int)) => n29 x5_1.1) (fun x5_1 => [⟨[.str a0, w34 a1, .i x5_1.2, .i a3], 4, false⟩, Q1]) (atN 2 (ctl1 i24p9)) 18 [0] [] [] [0] [] [.ptr 0 4 0, .i 0] (hF.i5_thr (0 : Int) a0 a1 x4_1.2 a3) (hF.i5_ok (0 : Int) a0 a1 x4_1.2 a3) trivial (fun _ => trivial) trivial fun x5_1 hx5_1 => ?_
   let Q2 : Blk := ⟨[.str a0, w34 a1, .i x5_1.2, .i a3], 4, false⟩
   refine oH 1 (atN 3 (ctl1 i24p9)) ((19, .slice 2 7 0 1 7) :: (18, n29 x5_1.1) :: E4) (mkH [Q2, Q1, ⟨e29 x5_1.1, 0, false⟩]) ?_
   refine qCl 19 2 7 1 7 (by kernel_rfl) rfl ?_
   let E6 : Env := [(0, .ptr 0 4 0), (2, .ptr 1 7 0), (3, .ptr 3 7 0)]
   let Q3 : Blk := ⟨(([x5_1.1] : List S28)).flatMap e29, 0, false⟩
   let Q4 : Blk := ⟨[.i 18, .str [], .own 2 (([x5_1.1] : List S28)).length 7, .bool false, .bool false, .nils, .nils], 7, false⟩
   refine oLH 5 i24p12 E6 (mkH [Q2, Q1, Q3, Q4]) ?_
   refine oR 2 (atN 1 (ctl1 i24p12)) ((21, .ptr 0 4 0) :: E6) ?_
   refine oX (fun (x6_1 : Int) => .tuple []) (fun x6_1 => [⟨[.str a0, w34 a1, .i x6_1, .i a3], 4, false⟩, Q1, Q3, Q4]) (atN 2 (ctl1 i24p12)) 22 [0] [] [] [0, 3] [0, 0, 1] [.ptr 0 4 0, .str [111, 102]] (qAj k ([111, 102] : List Nat) a0 a1 x5_1.2 a3) (qAw k ([111, 102] : List Nat) a0 a1 x5_1.2 a3) trivial (fun _ => trivial) ⟨u29 _, trivial⟩ fun x6_1 hx6_1 => ?_
   refine oR 7 (atN 4 (ctl1 i24p14)) ((26, .func 100 [.ptr 0 4 0] []) :: (25, .ptr 0 4 0) :: (24, .agg [.i 18, .str [], .own 2 (([x5_1.1] : List S28)).length 7, .bool false, .bool false, .nils, .nils]) :: (23, .ptr 0 4 0) :: (22, .tuple []) :: (21, .ptr 0 4 0) :: E6) ?_
   refine oXW 0 [⟨[.str a0, w34 a1, .i x6_1, .i a3], 4, false⟩, Q1, Q3, Q4] (fun (x7_4 : Ri36) => .agg [.i x7_4.1, .str x7_4.2.1, .own 2 (x7_4.2.2.2.2.2.2.2).length 7, .bool x7_4.2.2.1, .bool x7_4.2.2.2.1, w9 x7_4.2.2.2.2.1, w9 x7_4.2.2.2.2.2.1]) (fun x7_4 => [⟨[.str a0, w34 a1, .i x7_4.2.2.2.2.2.2.1, .i a3], 4, false⟩, Q1, ⟨(x7_4.2.2.2.2.2.2.2).flatMap e29, 0, false⟩, Q4]) (atN 5 (ctl1 i24p14)) 27 [0, 2] [0, 1] [0, 1] [0, 2, 3] [] [0, 0, 1] [.ptr 0 4 0, .agg [.i 18, .str [], .own 2 (([x5_1.1] : List S28)).length 7, .bool false, .bool false, .nils, .nils], .func 100 [.ptr 0 4 0] []] [.ptr 0 4 0, .agg [.i 18, .str [], .own 2 (([x5_1.1] : List S28)).length 7, .bool false, .bool false, w9 ([] : List (List Nat)), w9 ([] : List (List Nat))], .func 100 [.ptr 0 4 0] []] (.cons (.agg (.cons (.cons (.cons (.cons (.cons (.nil (.nil (.refl)))))))) (.refl))) (hF.i36_thr (18 : Int) ([] : List Nat) false false ([] : List (List Nat)) ([] : List (List Nat)) a0 a1 x6_1 a3 ([x5_1.1] : List S28)) (hF.i36_ok (18 : Int) ([] : List Nat) false false ([] : List (List Nat)) ([] : List (List Nat)) a0 a1 x6_1 a3 ([x5_1.1] : List S28)) ⟨u29 _, trivial⟩ (fun _ => ⟨u29 _, trivial⟩) trivial fun x7_4 hx7_4 => ?_
   exact oQF 3 [⟨[.str a0, w34 a1, .i x7_4.2.2.2.2.2.2.1, .i a3], 4, false⟩, ⟨[.i x7_4.1, .str x7_4.2.1, .own 2 (x7_4.2.2.2.2.2.2.2).length 7, .bool x7_4.2.2.1, .bool x7_4.2.2.2.1, w9 x7_4.2.2.2.2.1, w9 x7_4.2.2.2.2.2.1], 7, false⟩, ⟨(x7_4.2.2.2.2.2.2.2).flatMap e29, 0, false⟩, Q4] 1 [] [.agg [.i x7_4.1, .str x7_4.2.1, .own 2 (x7_4.2.2.2.2.2.2.2).length 7, .bool x7_4.2.2.1, .bool x7_4.2.2.2.1, w9 x7_4.2.2.2.2.1, w9 x7_4.2.2.2.2.2.1]] (.agg [.i x7_4.1, .str x7_4.2.1, w29 x7_4.2.2.2.2.2.2.2, .bool x7_4.2.2.1, .bool x7_4.2.2.2.1, w9 x7_4.2.2.2.2.1, w9 x7_4.2.2.2.2.2.1]) (.agg (.cs (.cs (qAs qA7 qAg rfl rfl rfl .ps))) .ps) trivial
  ·refine oR 4 (atN 1 (ctl1 i24p10)) ((29, .ptr 0 4 0) :: (14, .bool false) :: (14, .bool x4_1.1) :: (16, .bool x4_1.1) :: (15, .ptr 0 4 0) :: (5, .bool false) :: E1) ?_
   refine oX (fun (x8_1 : (Bool × Int)) => .bool x8_1.1) (fun x8_1 => [⟨[.str a0, w34 a1, .i x8_1.2, .i a3], 4, false⟩, Q1]) (atN 2 (ctl1 i24p10)) 30 [0] [] [] [] [] [.ptr 0 4 0, .str [105, 102]] (qAb k ([105, 102] : List Nat) a0 a1 x4_1.2 a3) (qAi k ([105, 102] : List Nat) a0 a1 x4_1.2 a3) trivial (fun _ => trivial) trivial fun x8_1 hx8_1 => ?_
   refine oL 2 i24p13 [(0, .ptr 0 4 0), (2, .ptr 1 7 0), (28, .bool x8_1.1)] ?_
   let E9 : Env := [(0, .ptr 0 4 0), (2, .ptr 1 7 0), (28, .bool x8_1.1)]
   refine oS 28 (fun hb => ?_) (fun hb => ?_)
   ·refine oR 7 (atN 4 (ctl1 i24p15)) ((34, .func 101 [.ptr 0 4 0] []) :: (33, .ptr 0 4 0) :: (32, .agg [.i 19, .str [], .nils, .bool false, .bool false, .nils, .nils]) :: (31, .ptr 0 4 0) :: (28, .bool true) :: E9) ?_
    refine oXW 1 [⟨[.str a0, w34 a1, .i x8_1.2, .i a3], 4, false⟩, Q1, ⟨(([] : List S28)).flatMap e29, 0, false⟩] (fun (x9_4 : Ri37) => .agg [.i x9_4.1, .str x9_4.2.1, .own 2 (x9_4.2.2.2.2.2.2.2).length 7, .bool x9_4.2.2.1, .bool x9_4.2.2.2.1, w9 x9_4.2.2.2.2.1, w9 x9_4.2.2.2.2.2.1]) (fun x9_4 => [⟨[.str a0, w34 a1, .i x9_4.2.2.2.2.2.2.1, .i a3], 4, false⟩, Q1, ⟨(x9_4.2.2.2.2.2.2.2).flatMap e29, 0, false⟩]) (atN 5 (ctl1 i24p15)) 35 [0, 2] [0, 1] [0, 1] [0, 2] [] [0, 0, 1] [.ptr 0 4 0, .agg [.i 19, .str [], .nils, .bool false, .bool false, .nils, .nils], .func 101 [.ptr 0 4 0] []] [.ptr 0 4 0, .agg [.i 19, .str [], .own 2 (([] : List S28)).length 7, .bool false, .bool false, w9 ([] : List (List Nat)), w9 ([] : List (List Nat))], .func 101 [.ptr 0 4 0] []] (.cons (.agg (.cons (.cons (.none (.cons (.cons (.nil (.nil (.refl)))))))) (.refl))) (hF.i37_thr (19 : Int) ([] : List Nat) false false ([] : List (List Nat)) ([] : List (List Nat)) a0 a1 x8_1.2 a3 ([] : List S28)) (hF.i37_ok (19 : Int) ([] : List Nat) false false ([] : List (List Nat)) ([] : List (List Nat)) a0 a1 x8_1.2 a3 ([] : List S28)) ⟨u29 _, trivial⟩ (fun _ => ⟨u29 _, trivial⟩) trivial fun x9_4 hx9_4 => ?_
    exact oQF 3 [⟨[.str a0, w34 a1, .i x9_4.2.2.2.2.2.2.1, .i a3], 4, false⟩, ⟨[.i x9_4.1, .str x9_4.2.1, .own 2 (x9_4.2.2.2.2.2.2.2).length 7, .bool x9_4.2.2.1, .bool x9_4.2.2.2.1, w9 x9_4.2.2.2.2.1, w9 x9_4.2.2.2.2.2.1], 7, false⟩, ⟨(x9_4.2.2.2.2.2.2.2).flatMap e29, 0, false⟩] 1 [] [.agg [.i x9_4.1, .str x9_4.2.1, .own 2 (x9_4.2.2.2.2.2.2.2).length 7, .bool x9_4.2.2.1, .bool x9_4.2.2.2.1, w9 x9_4.2.2.2.2.1, w9 x9_4.2.2.2.2.2.1]] (.agg [.i x9_4.1, .str x9_4.2.1, w29 x9_4.2.2.2.2.2.2.2, .bool x9_4.2.2.1, .bool x9_4.2.2.2.1, w9 x9_4.2.2.2.2.1, w9 x9_4.2.2.2.2.2.1]) (.agg (.cs (.cs (qAs qA7 qAg rfl rfl rfl .ps))) .ps) trivial
   ·refine oR 4 (atN 1 (ctl1 i24p16)) ((37, .ptr 0 4 0) :: (28, .bool false) :: E9) ?_
    refine oX (fun (x10_1 : (Bool × Int)) => .bool x10_1.1) (fun x10_1 => [⟨[.str a0, w34 a1, .i x10_1.2, .i a3], 4, false⟩, Q1]) (atN 2 (ctl1 i24p16)) 38 [0] [] [] [] [] [.ptr 0 4 0, .str i24c0] (qAb k i24c0 a0 a1 x8_1.2 a3) (qAi k i24c0 a0 a1 x8_1.2 a3) trivial (fun _ => trivial) trivial fun x10_1 hx10_1 => ?_
    refine oR 2 i24p17 ((36, .bool x10_1.1) :: (38, .bool x10_1.1) :: (37, .ptr 0 4 0) :: (28, .bool false) :: E9) ?_
    refine oS 36 (fun hb => ?_) (fun hb => ?_)
    ·refine oR 4 (atN 1 (ctl1 i24p18)) ((39, .ptr 0 4 0) :: (36, .bool true) :: (36, .bool x10_1.1) :: (38, .bool x10_1.1) :: (37, .ptr 0 4 0) :: (28, .bool false) :: E9) ?_
     refine oX (fun (x11_1 : (S28 × Int)) => n29 x11_1.1) (fun x11_1 => [⟨[.str a0, w34 a1, .i x11_1.2, .i a3], 4, false⟩, Q1]) (atN 2 (ctl1 i24p18)) 40 [0] [] [] [0] [] [.ptr 0 4 0] (hF.i38_thr a0 a1 x10_1.2 a3) (hF.i38_ok a0 a1 x10_1.2 a3) trivial (fun _ => trivial) trivial fun x11_1 hx11_1 => ?_
     exact oQF 3 [⟨[.str a0, w34 a1, .i x11_1.2, .i a3], 4, false⟩, ⟨e29 x11_1.1, 7, false⟩] 1 [] [n29 x11_1.1] (n29 x11_1.1) .ps trivial
    ·refine oR 5 (atN 1 (ctl1 i24p19)) ((41, .ptr 0 4 0) :: (36, .bool false) :: (36, .bool x10_1.1) :: (38, .bool x10_1.1) :: (37, .ptr 0 4 0) :: (28, .bool false) :: E9) ?_
     refine oX (fun (x12_1 : Int) => .tuple []) (fun x12_1 => [⟨[.str a0, w34 a1, .i x12_1, .i a3], 4, false⟩, Q1]) (atN 2 (ctl1 i24p19)) 42 [0] [] [] [0] [] [.ptr 0 4 0, .str i24c1] (qAj k i24c1 a0 a1 x10_1.2 a3) (qAw k i24c1 a0 a1 x10_1.2 a3) trivial (fun _ => trivial) trivial fun x12_1 hx12_1 => ?_
     refine oL 2 i24p20 [(0, .ptr 0 4 0), (2, .ptr 1 7 0)] ?_
     let E13 : Env := [(0, .ptr 0 4 0), (2, .ptr 1 7 0)]
     refine oR 2 (atN 1 (ctl1 i24p20)) ((43, .ptr 0 4 0) :: E13) ?_
     refine oX (fun (x13_1 : (S28 × Int)) => n29 x13_1.1) (fun x13_1 => [⟨[.str a0, w34 a1, .i x13_1.2, .i a3], 4, false⟩, Q1]) (atN 2 (ctl1 i24p20)) 44 [0] [] [] [0] [] [.ptr 0 4 0] (hF.i6_thr a0 a1 x12_1 a3) (hF.i6_ok a0 a1 x12_1 a3) trivial (fun _ => trivial) trivial fun x13_1 hx13_1 => ?_
     let Q5 : Blk := ⟨[.str a0, w34 a1, .i x13_1.2, .i a3], 4, false⟩
     refine oH 1 (atN 3 (ctl1 i24p20)) ((45, .slice 2 7 0 1 7) :: (44, n29 x13_1.1) :: (43, .ptr 0 4 0) :: E13) (mkH [Q5, Q1, ⟨e29 x13_1.1, 0, false⟩]) ?_
     refine oZ 45 2 1 7 [.i x13_1.1.f0, .str x13_1.1.f1, q29 x13_1.1.f2, .bool x13_1.1.f3, .bool x13_1.1.f4, w9 x13_1.1.f5, w9 x13_1.1.f6] [0, 2, 43, 44] [] trivial ?_
     let Q6 : Blk := ⟨[.i 21, .str [], w29 ([x13_1.1] : List S28), .bool false, .bool false, .nils, .nils], 7, false⟩
     refine oH 7 (atN 1 (ctl1 i24p21)) [(47, .ptr 0 4 0), (4, .ptr 3 7 0), (46, .agg [.i 21, .str [], w29 ([x13_1.1] : List S28), .bool false, .bool false, .nils, .nils]), (45, w29 ([x13_1.1] : List S28)), (0, .ptr 0 4 0), (2, .ptr 1 7 0), (43, .ptr 0 4 0), (44, n29 x13_1.1)] (mkH [Q5, Q1, ⟨[], 0, false⟩, Q6]) ?_
     refine oN (fun (x14_1 : Ri12) => w9 x14_1.1) (fun x14_1 => [⟨[.str a0, w34 a1, .i x14_1.2, .i a3], 4, false⟩, Q1, ⟨[], 0, false⟩, Q6]) (atN 2 (ctl1 i24p21)) 48 [0] [] [] [.ptr 0 4 0] (qAl k a0 a1 x13_1.2 a3) trivial (fun _ => trivial) fun x14_1 hx14_1 => ?_
     let Q7 : Blk := ⟨[.i 21, .str [], w29 ([x13_1.1] : List S28), .bool false, .bool false, .nils, w9 x14_1.1], 7, false⟩
     refine oLH 4 i24p22 [(0, .ptr 0 4 0), (2, .ptr 1 7 0), (4, .ptr 3 7 0)] (mkH [⟨[.str a0, w34 a1, .i x14_1.2, .i a3], 4, false⟩, Q1, ⟨[], 0, false⟩, Q7]) ?_
     refine oR 2 (atN 1 (ctl1 i24p22)) ((50, .ptr 0 4 0) :: [(0, .ptr 0 4 0), (2, .ptr 1 7 0), (4, .ptr 3 7 0)]) ?_
     refine oX (fun (x15_1 : Int) => .tuple []) (fun x15_1 => [⟨[.str a0, w34 a1, .i x15_1, .i a3], 4, false⟩, Q1, ⟨[], 0, false⟩, Q7]) (atN 2 (ctl1 i24p22)) 51 [0] [] [] [0] [] [.ptr 0 4 0, .str [101, 110, 100]] (qAj k ([101, 110, 100] : List Nat) a0 a1 x14_1.2 a3) (qAw k ([101, 110, 100] : List Nat) a0 a1 x14_1.2 a3) trivial (fun _ => trivial) trivial fun x15_1 hx15_1 => ?_
     exact oQF 7 [⟨[.str a0, w34 a1, .i x15_1, .i a3], 4, false⟩, Q7, ⟨[], 0, false⟩, Q7] 1 [] [.agg [.i 21, .str [], w29 ([x13_1.1] : List S28), .bool false, .bool false, .nils, w9 x14_1.1]] (.agg [.i 21, .str [], w29 ([x13_1.1] : List S28), .bool false, .bool false, .vec 0 1 [], w9 x14_1.1]) (.agg (.cs (.cs (.cs (.cs (.cs (.nil .ps)))))) .ps) trivial
theorem i24B_ok (k : Nat) (F : Fns0) (hF : FnsOk0 F) : Pi24 (i24B k F) := fun a0 a1 a2 a3 x h => qJe k F hF a0 a1 a2 a3 (some x) h
theorem i24B_thr (k : Nat) (F : Fns0) (hF : FnsOk0 F) : Qi24 (i24B k F) := fun a0 a1 a2 a3 h => ⟨_, qJe k F hF a0 a1 a2 a3 none h⟩
def Xi25 (a0 : (List Nat)) (a1 : (List S33)) (a2 : Int) (a3 : Int) : Fx (Option (S28 × Int)) := ⟨Try.prog, cx, Try.f86, fun r => match r with | some r => .agg [.i r.1.f0, .str r.1.f1, q29 r.1.f2, .bool r.1.f3, .bool r.1.f4, w9 r.1.f5, w9 r.1.f6] | none => .top, 1, fun r => match r with | some r => (mkH [⟨[.str a0, w34 a1, .i r.2, .i a3], 4, false⟩]) | none => (mkH [⟨[.str a0, w34 a1, .i a2, .i a3], 4, false⟩]), cxTi, cxOrd, fun r => match r with | some _ => none | none => some (thrown, [0]), false⟩
def i25p0 : Pt := nav [0] (bodyAt Try.f86)
def i25p1 : Pt := nav [0, 0, 0, 0] i25p0
def i25p2 : Pt := nav [0, 0] i25p1
def i25p3 : Pt := nav [1, 0] i25p2
def i25p4 : Pt := nav [2, 0, 0] i25p2
def i25B (k : Nat) (F : Fns0) (a0 : (List Nat)) (a1 : (List S33)) (a2 : Int) (a3 : Int) : Option (Option (S28 × Int)) :=
 bT (i7 k ([40] : List Nat) a0 a1 a2 a3) fun x0_1 => if x0_1.1 then (bT (F.i17 a0 a1 x0_1.2 a3) fun x1_1 => some (some ((⟨x1_1.1.f0, x1_1.1.f1, x1_1.1.f2, x1_1.1.f3, x1_1.1.f4, x1_1.1.f5, x1_1.1.f6⟩ : S28), x1_1.2))) else (bT (i22 k a0 a1 x0_1.2 a3) fun x2_1 => some (some ((⟨(1 : Int), x2_1.1, ⟨0, []⟩, false, false, ([] : List (List Nat)), ([] : List (List Nat))⟩ : S28), x2_1.2)))
theorem qJd (k : Nat) (F : Fns0) (hF : FnsOk0 F) (a0 : (List Nat)) (a1 : (List S33)) (a2 : Int) (a3 : Int) (r : (Option (S28 × Int))) (h : i25B k F a0 a1 a2 a3 = some r) : CallT Try.prog 86 [.ptr 0 4 0] (mkH [⟨[.str a0, w34 a1, .i a2, .i a3], 4, false⟩]) ((Xi25 a0 a1 a2 a3).thr r) ((Xi25 a0 a1 a2 a3).enc r) ((Xi25 a0 a1 a2 a3).fin r) := by
 refine qA2 (Xi25 a0 a1 a2 a3) Try.func86 (by kernel_rfl) (by kernel_rfl) rfl (t := i25B k F a0 a1 a2 a3) ?_ h
 unfold i25B
 refine qA0 (eE := [(0, .ptr 0 4 0)]) (by kernel_rfl) ?_
 let Q1 : Blk := ⟨[.i 0, .str [], .nils, .bool false, .bool false, .nils, .nils], 0, false⟩
 refine oH 8 (atN 1 (ctl1 i25p1)) [(3, .ptr 0 4 0), (2, .ptr 1 7 0), (0, .ptr 0 4 0)] (mkH [⟨[.str a0, w34 a1, .i a2, .i a3], 4, false⟩, Q1]) ?_
 refine oX (fun (x0_1 : (Bool × Int)) => .bool x0_1.1) (fun x0_1 => [⟨[.str a0, w34 a1, .i x0_1.2, .i a3], 4, false⟩, Q1]) (atN 2 (ctl1 i25p1)) 4 [0] [] [] [] [] [.ptr 0 4 0, .str [40]] (qAb k ([40] : List Nat) a0 a1 a2 a3) (qAi k ([40] : List Nat) a0 a1 a2 a3) trivial (fun _ => trivial) trivial fun x0_1 hx0_1 => ?_
 refine oR 1 i25p2 [(4, .bool x0_1.1), (3, .ptr 0 4 0), (2, .ptr 1 7 0), (0, .ptr 0 4 0)] ?_
 refine oS 4 (fun hb => ?_) (fun hb => ?_)
 ·refine oR 4 (atN 1 (ctl1 i25p3)) [(5, .ptr 0 4 0), (4, .bool true), (4, .bool x0_1.1), (3, .ptr 0 4 0), (2, .ptr 1 7 0), (0, .ptr 0 4 0)] ?_
  refine oX (fun (x1_1 : (S28 × Int)) => n29 x1_1.1) (fun x1_1 => [⟨[.str a0, w34 a1, .i x1_1.2, .i a3], 4, false⟩, Q1]) (atN 2 (ctl1 i25p3)) 6 [0] [] [] [0] [] [.ptr 0 4 0] (hF.i17_thr a0 a1 x0_1.2 a3) (hF.i17_ok a0 a1 x0_1.2 a3) trivial (fun _ => trivial) trivial fun x1_1 hx1_1 => ?_
  exact oQF 3 [⟨[.str a0, w34 a1, .i x1_1.2, .i a3], 4, false⟩, ⟨e29 x1_1.1, 7, false⟩] 1 [] [n29 x1_1.1] (n29 x1_1.1) .ps trivial
 ·refine oR 5 (atN 1 (ctl1 i25p4)) [(7, .ptr 0 4 0), (4, .bool false), (4, .bool x0_1.1), (3, .ptr 0 4 0), (2, .ptr 1 7 0), (0, .ptr 0 4 0)] ?_
  refine oX (fun (x2_1 : Ri22) => .str x2_1.1) (fun x2_1 => [⟨[.str a0, w34 a1, .i x2_1.2, .i a3], 4, false⟩, Q1]) (atN 2 (ctl1 i25p4)) 8 [0] [] [] [] [] [.ptr 0 4 0] (qE0 k a0 a1 x0_1.2 a3) (qGf k a0 a1 x0_1.2 a3) trivial (fun _ => trivial) trivial fun x2_1 hx2_1 => ?_
  exact oQF 4 [⟨[.str a0, w34 a1, .i x2_1.2, .i a3], 4, false⟩, ⟨[.i 1, .str x2_1.1, .nils, .bool false, .bool false, .nils, .nils], 7, false⟩] 1 [] [.agg [.i 1, .str x2_1.1, .nils, .bool false, .bool false, .nils, .nils]] (.agg [.i 1, .str x2_1.1, .vec 0 7 [], .bool false, .bool false, .vec 0 1 [], .vec 0 1 []]) (.agg (.cs (.cs (.nil (.cs (.cs (.nil (.nil .ps))))))) .ps) trivial
theorem i25B_ok (k : Nat) (F : Fns0) (hF : FnsOk0 F) : Pi25 (i25B k F) := fun a0 a1 a2 a3 x h => qJd k F hF a0 a1 a2 a3 (some x) h
theorem i25B_thr (k : Nat) (F : Fns0) (hF : FnsOk0 F) : Qi25 (i25B k F) := fun a0 a1 a2 a3 h => ⟨_, qJd k F hF a0 a1 a2 a3 none h⟩
def Xi26 (a0 : Int) (a1 : (List Nat)) (a2 : Raw) (a3 : Bool) (a4 : Bool) (a5 : (List (List Nat))) (a6 : (List (List Nat))) (a7 : (List Nat)) (a8 : (List S33)) (a9 : Int) (a10 : Int) : Fx (Option (S28 × Int)) := ⟨Try.prog, cx, Try.f87, fun r => match r with | some r => .agg [.i r.1.f0, .str r.1.f1, q29 r.1.f2, .bool r.1.f3, .bool r.1.f4, w9 r.1.f5, w9 r.1.f6] | none => .top, 1, fun r => match r with | some r => (mkH [⟨[.str a7, w34 a8, .i r.2, .i a10], 4, false⟩]) | none => (mkH [⟨[.str a7, w34 a8, .i a9, .i a10], 4, false⟩]), cxTi, cxOrd, fun r => match r with | some _ => none | none => some (thrown, [0]), false⟩
def i26p0 : Pt := nav [0] (bodyAt Try.f87)
def i26p1 : Pt := nav [0, 0, 0, 0] i26p0
def i26p2 : Pt := nav [0, 0] i26p1
def i26p3 : Pt := nav [1, 0] i26p2
def i26p4 : Pt := nav [2, 0, 0] i26p2
def i26p6 : Pt := nav [0, 0, 0, 0] i26p4
def i26p7 : Pt := nav [0, 0] i26p6
def i26p8 : Pt := nav [1, 0] i26p7
def i26p9 : Pt := nav [2, 0, 0] i26p7
def i26p10 : Pt := nav [0, 0, 0] i26p9
def i26B (k : Nat) (F : Fns0) (a0 : Int) (a1 : (List Nat)) (a2 : Raw) (a3 : Bool) (a4 : Bool) (a5 : (List (List Nat))) (a6 : (List (List Nat))) (a7 : (List Nat)) (a8 : (List S33)) (a9 : Int) (a10 : Int) : Option (Option (S28 × Int)) :=
 bT (i7 k ([123] : List Nat) a7 a8 a9 a10) fun x0_1 => if x0_1.1 then (bT (F.i21 (9 : Int) ([] : List Nat) false false ([] : List (List Nat)) ([] : List (List Nat)) ([125] : List Nat) a7 a8 x0_1.2 a10 ([(⟨a0, a1, a2, a3, a4, a5, a6⟩ : S28)] : List S28)) fun x1_6 => some (some ((⟨x1_6.1, x1_6.2.1, ⟨(x1_6.2.2.2.2.2.2.2).length, (x1_6.2.2.2.2.2.2.2).flatMap e29⟩, x1_6.2.2.1, x1_6.2.2.2.1, x1_6.2.2.2.2.1, x1_6.2.2.2.2.2.1⟩ : S28), x1_6.2.2.2.2.2.2.1))) else (bT (i22 k a7 a8 x0_1.2 a10) fun x2_1 => bT (i7 k ([46] : List Nat) a7 a8 x2_1.2 a10) fun x3_1 => if x3_1.1 then ((catS x2_1.1 ([46] : List Nat)).bind fun x4_1 => bT (i33 k ([(1 : Int)] : List Int) a7 a8 x3_1.2 a10) fun x4_4 => (catS x4_1 x4_4.1).bind fun x4_5 => some (some ((⟨(12 : Int), x4_5, ⟨(([(⟨a0, a1, a2, a3, a4, a5, a6⟩ : S28)] : List S28)).length, (([(⟨a0, a1, a2, a3, a4, a5, a6⟩ : S28)] : List S28)).flatMap e29⟩, false, false, ([] : List (List Nat)), ([] : List (List Nat))⟩ : S28), x4_4.2))) else (bT (i23 k ([123] : List Nat) a7 a8 x3_1.2 a10) fun x5_1 => bT (F.i18 (11 : Int) x2_1.1 false false ([] : List (List Nat)) ([] : List (List Nat)) ([125] : List Nat) a7 a8 x5_1 a10 ([(⟨a0, a1, a2, a3, a4, a5, a6⟩ : S28)] : List S28)) fun x6_7 => some (some ((⟨x6_7.1, x6_7.2.1, ⟨(x6_7.2.2.2.2.2.2.2).length, (x6_7.2.2.2.2.2.2.2).flatMap e29⟩, x6_7.2.2.1, x6_7.2.2.2.1, x6_7.2.2.2.2.1, x6_7.2.2.2.2.2.1⟩ : S28), x6_7.2.2.2.2.2.2.1))))
theorem qJc (k : Nat) (F : Fns0) (hF : FnsOk0 F) (a0 : Int) (a1 : (List Nat)) (a2 : Raw) (a3 : Bool) (a4 : Bool) (a5 : (List (List Nat))) (a6 : (List (List Nat))) (a7 : (List Nat)) (a8 : (List S33)) (a9 : Int) (a10 : Int) (r : (Option (S28 × Int))) (h : i26B k F a0 a1 a2 a3 a4 a5 a6 a7 a8 a9 a10 = some r) : CallT Try.prog 87 [.ptr 0 4 0, .agg [.i a0, .str a1, q29 a2, .bool a3, .bool a4, w9 a5, w9 a6]] (mkH [⟨[.str a7, w34 a8, .i a9, .i a10], 4, false⟩]) ((Xi26 a0 a1 a2 a3 a4 a5 a6 a7 a8 a9 a10).thr r) ((Xi26 a0 a1 a2 a3 a4 a5 a6 a7 a8 a9 a10).enc r) ((Xi26 a0 a1 a2 a3 a4 a5 a6 a7 a8 a9 a10).fin r) := by
 refine qA2 (Xi26 a0 a1 a2 a3 a4 a5 a6 a7 a8 a9 a10) Try.func87 (by kernel_rfl) (by kernel_rfl) rfl (t := i26B k F a0 a1 a2 a3 a4 a5 a6 a7 a8 a9 a10) ?_ h
 unfold i26B
 refine qA0 (eE := [(0, .ptr 0 4 0), (1, .agg [.i a0, .str a1, q29 a2, .bool a3, .bool a4, w9 a5, w9 a6])]) (by kernel_rfl) ?_
 let E1 : Env := [(6, .ptr 0 4 0), (4, .ptr 2 7 0), (3, .ptr 1 7 0), (0, .ptr 0 4 0), (1, .agg [.i a0, .str a1, q29 a2, .bool a3, .bool a4, w9 a5, w9 a6])]
 let Q1 : Blk := ⟨[.str a7, w34 a8, .i a9, .i a10], 4, false⟩
 let Q2 : Blk := ⟨[.i a0, .str a1, q29 a2, .bool a3, .bool a4, w9 a5, w9 a6], 0, false⟩
 let Q3 : Blk := ⟨[.i 0, .str [], .nils, .bool false, .bool false, .nils, .nils], 0, false⟩
 refine oH 9 (atN 1 (ctl1 i26p1)) E1 (mkH [Q1, Q2, Q3]) ?_
 refine oX (fun (x0_1 : (Bool × Int)) => .bool x0_1.1) (fun x0_1 => [⟨[.str a7, w34 a8, .i x0_1.2, .i a10], 4, false⟩, Q2, Q3]) (atN 2 (ctl1 i26p1)) 7 [0] [] [] [] [] [.ptr 0 4 0, .str [123]] (qAb k ([123] : List Nat) a7 a8 a9 a10) (qAi k ([123] : List Nat) a7 a8 a9 a10) trivial (fun _ => trivial) trivial fun x0_1 hx0_1 => ?_
 refine oR 1 i26p2 ((7, .bool x0_1.1) :: E1) ?_
 refine oS 7 (fun hb => ?_) (fun hb => ?_)
 ·let E2 : Env := ((10, .slice 3 7 0 1 7) :: (9, .agg [.i a0, .str a1, q29 a2, .bool a3, .bool a4, w9 a5, w9 a6]) :: (8, .ptr 0 4 0) :: (7, .bool true) :: (7, .bool x0_1.1) :: E1)
  let Q4 : Blk := ⟨[.str a7, w34 a8, .i x0_1.2, .i a10], 4, false⟩
  refine oH 6 (atN 3 (ctl1 i26p3)) E2 (mkH [Q4, Q2, Q3, Q2]) ?_
  refine qCl 10 3 7 1 7 (by kernel_rfl) rfl ?_
  let Q5 : Blk := ⟨(([(⟨a0, a1, a2, a3, a4, a5, a6⟩ : S28)] : List S28)).flatMap e29, 0, false⟩
  refine oH 3 (atN 6 (ctl1 i26p3)) ((13, .func 81 [.ptr 0 4 0] []) :: (12, .ptr 0 4 0) :: (11, .agg [.i 9, .str [], .own 3 (([(⟨a0, a1, a2, a3, a4, a5, a6⟩ : S28)] : List S28)).length 7, .bool false, .bool false, .nils, .nils]) :: (10, .own 3 (([(⟨a0, a1, a2, a3, a4, a5, a6⟩ : S28)] : List S28)).length 7) :: E2) (mkH [Q4, Q2, Q3, Q5]) ?_
  refine oXW 0 [Q4, Q2, Q3, Q5] (fun (x1_6 : Ri21) => .agg [.i x1_6.1, .str x1_6.2.1, .own 3 (x1_6.2.2.2.2.2.2.2).length 7, .bool x1_6.2.2.1, .bool x1_6.2.2.2.1, w9 x1_6.2.2.2.2.1, w9 x1_6.2.2.2.2.2.1]) (fun x1_6 => [⟨[.str a7, w34 a8, .i x1_6.2.2.2.2.2.2.1, .i a10], 4, false⟩, Q2, Q3, ⟨(x1_6.2.2.2.2.2.2.2).flatMap e29, 0, false⟩]) (atN 7 (ctl1 i26p3)) 14 [0, 3] [0, 1] [0, 1] [0, 3] [] [0, 0, 0, 1] [.ptr 0 4 0, .agg [.i 9, .str [], .own 3 (([(⟨a0, a1, a2, a3, a4, a5, a6⟩ : S28)] : List S28)).length 7, .bool false, .bool false, .nils, .nils], .str [125], .func 81 [.ptr 0 4 0] []] [.ptr 0 4 0, .agg [.i 9, .str [], .own 3 (([(⟨a0, a1, a2, a3, a4, a5, a6⟩ : S28)] : List S28)).length 7, .bool false, .bool false, w9 ([] : List (List Nat)), w9 ([] : List (List Nat))], .str [125], .func 81 [.ptr 0 4 0] []] (.cons (.agg (.cons (.cons (.cons (.cons (.cons (.nil (.nil (.refl)))))))) (.refl))) (hF.i21_thr (9 : Int) ([] : List Nat) false false ([] : List (List Nat)) ([] : List (List Nat)) ([125] : List Nat) a7 a8 x0_1.2 a10 ([(⟨a0, a1, a2, a3, a4, a5, a6⟩ : S28)] : List S28)) (hF.i21_ok (9 : Int) ([] : List Nat) false false ([] : List (List Nat)) ([] : List (List Nat)) ([125] : List Nat) a7 a8 x0_1.2 a10 ([(⟨a0, a1, a2, a3, a4, a5, a6⟩ : S28)] : List S28)) ⟨u29 _, trivial⟩ (fun _ => ⟨u29 _, trivial⟩) trivial fun x1_6 hx1_6 => ?_
  exact oQF 3 [⟨[.str a7, w34 a8, .i x1_6.2.2.2.2.2.2.1, .i a10], 4, false⟩, Q2, ⟨[.i x1_6.1, .str x1_6.2.1, .own 3 (x1_6.2.2.2.2.2.2.2).length 7, .bool x1_6.2.2.1, .bool x1_6.2.2.2.1, w9 x1_6.2.2.2.2.1, w9 x1_6.2.2.2.2.2.1], 7, false⟩, ⟨(x1_6.2.2.2.2.2.2.2).flatMap e29, 0, false⟩] 1 [] [.agg [.i x1_6.1, .str x1_6.2.1, .own 3 (x1_6.2.2.2.2.2.2.2).length 7, .bool x1_6.2.2.1, .bool x1_6.2.2.2.1, w9 x1_6.2.2.2.2.1, w9 x1_6.2.2.2.2.2.1]] (.agg [.i x1_6.1, .str x1_6.2.1, w29 x1_6.2.2.2.2.2.2.2, .bool x1_6.2.2.1, .bool x1_6.2.2.2.1, w9 x1_6.2.2.2.2.1, w9 x1_6.2.2.2.2.2.1]) (.agg (.cs (.cs (qAs qA7 qAg rfl rfl rfl .ps))) .ps) trivial
 ·refine oR 5 (atN 1 (ctl1 i26p4)) ((15, .ptr 0 4 0) :: (7, .bool false) :: (7, .bool x0_1.1) :: E1) ?_
  refine oX (fun (x2_1 : Ri22) => .str x2_1.1) (fun x2_1 => [⟨[.str a7, w34 a8, .i x2_1.2, .i a10], 4, false⟩, Q2, Q3]) (atN 2 (ctl1 i26p4)) 16 [0] [] [] [] [] [.ptr 0 4 0] (qE0 k a7 a8 x0_1.2 a10) (qGf k a7 a8 x0_1.2 a10) trivial (fun _ => trivial) trivial fun x2_1 hx2_1 => ?_
  let E4 : Env := ((17, .ptr 0 4 0) :: (5, .str x2_1.1) :: (16, .str x2_1.1) :: (15, .ptr 0 4 0) :: (7, .bool false) :: (7, .bool x0_1.1) :: E1)
  refine oR 6 (atN 1 (ctl1 i26p6)) E4 ?_
  refine oX (fun (x3_1 : (Bool × Int)) => .bool x3_1.1) (fun x3_1 => [⟨[.str a7, w34 a8, .i x3_1.2, .i a10], 4, false⟩, Q2, Q3]) (atN 2 (ctl1 i26p6)) 18 [0] [] [] [] [] [.ptr 0 4 0, .str [46]] (qAb k ([46] : List Nat) a7 a8 x2_1.2 a10) (qAi k ([46] : List Nat) a7 a8 x2_1.2 a10) trivial (fun _ => trivial) trivial fun x3_1 hx3_1 => ?_
  refine oR 1 i26p7 ((18, .bool x3_1.1) :: E4) ?_
  refine oK [0, 3, 4, 5, 18] [(0, .ptr 0 4 0), (3, .ptr 1 7 0), (4, .ptr 2 7 0), (5, .str x2_1.1), (18, .bool x3_1.1)] ?_
  let E5 : Env := keepOnly ((18, .bool x3_1.1) :: E4) [0, 3, 4, 5, 18]
  refine oS 18 (fun hb => ?_) (fun hb => ?_)
  ·refine oR 2 i26p8 ((18, .bool true) :: E5) ?_
   refine qA9 (fun x4_1 hx4_1 => ?_)
   refine qC4 (fun h => ?_) (fun x4_4 hx4_4 => ?_)
   ·let E6 : Env := [(19, .str x2_1.1), (18, .bool true), (0, .ptr 0 4 0), (3, .ptr 1 7 0), (4, .ptr 2 7 0), (5, .str x2_1.1), (18, .bool x3_1.1)]
    let E7 : Env := ((24, .top) :: (23, .top) :: (22, w3 ([(1 : Int)] : List Int)) :: (21, .ptr 0 4 0) :: (20, .str x4_1) :: E6)
    let Q6 : Blk := ⟨[.str a7, w34 a8, .i x3_1.2, .i a10], 4, false⟩
    exact qAn (eE := ((27, .top) :: (26, w29 ([(⟨a0, a1, a2, a3, a4, a5, a6⟩ : S28)] : List S28)) :: (25, .agg [.i a0, .str a1, q29 a2, .bool a3, .bool a4, w9 a5, w9 a6]) :: E7)) ⟨[22, 26], [(0, 0, 0), (1, 0, 0), (0, 0, 0), (0, 0, 0), (12, 0, 0), (31, 0, 0), (0, 0, 1), (64, 0, 0), (255, 0, 0), (511, 0, 0)], 4, thrown, [], (mkH [Q6, Q2, Q3])⟩ (hs := [(mkH [Q6, Q2, Q3]), (mkH [Q6, Q2, Q3])]) (LX := [Q1]) (L := [Q6, Q2, Q3]) rfl rfl rfl (by kernel_rfl) rfl ⟨.inl rfl, trivial⟩ (by kernel_rfl) (by kernel_rfl) (by kernel_rfl) (by kernel_rfl) (qAa 1 (l' := (opsAt i26p8).toList.drop 1) (eE := E6) (H' := (mkH [Q6, Q2, Q3])) (hs := []) (by kernel_rfl) (qA8 (l' := (opsAt i26p8).toList.drop 2) (eE := ((20, .str x4_1) :: E6)) (hs := []) (x := x4_1) (fun (x4_1 : (List Nat)) => (.str x4_1, (mkH [Q6, Q2, Q3]))) (catH (by kernel_rfl)) hx4_1 (by kernel_rfl) (qAa 2 (l' := (opsAt i26p8).toList.drop 4) (eE := ((22, w3 ([(1 : Int)] : List Int)) :: (21, .ptr 0 4 0) :: (20, .str x4_1) :: E6)) (H' := (mkH [Q6, Q2, Q3])) (hs := []) (by kernel_rfl) (qAm (l' := (opsAt i26p8).toList.drop 5) (eE := ((23, .top) :: (22, w3 ([(1 : Int)] : List Int)) :: (21, .ptr 0 4 0) :: (20, .str x4_1) :: E6)) (hs := [(mkH [Q6, Q2, Q3])]) (fi := 96) (args := [.ptr 0 4 0, w3 ([(1 : Int)] : List Int)]) (by kernel_rfl) (by kernel_rfl) (frS 0 (M := [Q6, Q2, Q3]) (rs := [0]) (ms := []) (mv := []) (mm := []) (D := []) (xs' := [.ptr 0 4 0, w3 ([(1 : Int)] : List Int)]) (.refl) (qE k ([(1 : Int)] : List Int) a7 a8 x3_1.2 a10 h) trivial trivial (by kernel_rfl)) (by kernel_rfl) (qA1 (l' := (opsAt i26p8).toList.drop 6) (eE := E7) (hs := []) (by kernel_rfl) (by kernel_rfl) (qAa 2 (l' := (opsAt i26p8).toList.drop 8) (eE := ((26, w29 ([(⟨a0, a1, a2, a3, a4, a5, a6⟩ : S28)] : List S28)) :: (25, .agg [.i a0, .str a1, q29 a2, .bool a3, .bool a4, w9 a5, w9 a6]) :: E7)) (H' := (mkH [Q6, Q2, Q3])) (hs := []) (by kernel_rfl) (qA1 (l' := (opsAt i26p8).toList.drop 9) (eE := ((27, .top) :: (26, w29 ([(⟨a0, a1, a2, a3, a4, a5, a6⟩ : S28)] : List S28)) :: (25, .agg [.i a0, .str a1, q29 a2, .bool a3, .bool a4, w9 a5, w9 a6]) :: E7)) (hs := []) (by kernel_rfl) (by kernel_rfl) (qA1 (l' := (opsAt i26p8).toList.drop 10) (eE := ((27, .top) :: (26, w29 ([(⟨a0, a1, a2, a3, a4, a5, a6⟩ : S28)] : List S28)) :: (25, .agg [.i a0, .str a1, q29 a2, .bool a3, .bool a4, w9 a5, w9 a6]) :: E7)) (hs := [(mkH [Q6, Q2, Q3])]) (by kernel_rfl) (by kernel_rfl) (.nil))))))))) (by kernel_rfl) (by kernel_rfl)
   ·refine qA9 (fun x4_5 hx4_5 => ?_)
    let E6 : Env := [(19, .str x2_1.1), (18, .bool true), (0, .ptr 0 4 0), (3, .ptr 1 7 0), (4, .ptr 2 7 0), (5, .str x2_1.1), (18, .bool x3_1.1)]
    let E8 : Env := ((24, .str x4_5) :: (23, .str x4_4.1) :: (22, w3 ([(1 : Int)] : List Int)) :: (21, .ptr 0 4 0) :: (20, .str x4_1) :: E6)
    let Q7 : Blk := ⟨[.str a7, w34 a8, .i x4_4.2, .i a10], 4, false⟩
    refine oD (H' := (mkH [Q7, Q2, ⟨[.i 12, .str x4_5, w29 ([(⟨a0, a1, a2, a3, a4, a5, a6⟩ : S28)] : List S28), .bool false, .bool false, .nils, .nils], 7, false⟩])) (nav [0] i26p8) ((27, .agg [.i 12, .str x4_5, w29 ([(⟨a0, a1, a2, a3, a4, a5, a6⟩ : S28)] : List S28), .bool false, .bool false, .nils, .nils]) :: (26, w29 ([(⟨a0, a1, a2, a3, a4, a5, a6⟩ : S28)] : List S28)) :: (25, .agg [.i a0, .str a1, q29 a2, .bool a3, .bool a4, w9 a5, w9 a6]) :: E8) [(mkH [Q7, Q2, Q3]), (mkH [Q7, Q2, ⟨[.i 12, .str x4_5, w29 ([(⟨a0, a1, a2, a3, a4, a5, a6⟩ : S28)] : List S28), .bool false, .bool false, .nils, .nils], 7, false⟩])] ⟨[22, 26], [(0, 0, 0), (1, 0, 0), (0, 0, 0), (0, 0, 0), (12, 0, 0), (31, 0, 0), (0, 0, 1), (64, 0, 0), (255, 0, 0), (511, 0, 0)], 10, thrown, [], H0⟩ (oDr 1 1 E6 (qA8 (l' := (opsAt i26p8).toList.drop 2) (eE := ((20, .str x4_1) :: E6)) (hs := []) (x := x4_1) (fun (x4_1 : (List Nat)) => (.str x4_1, (mkH [⟨[.str a7, w34 a8, .i x3_1.2, .i a10], 4, false⟩, Q2, Q3]))) (catH (by kernel_rfl)) hx4_1 (by kernel_rfl) (oDr 2 4 ((22, w3 ([(1 : Int)] : List Int)) :: (21, .ptr 0 4 0) :: (20, .str x4_1) :: E6) (qA4 (l' := (opsAt i26p8).toList.drop 5) (eE := ((23, .str x4_4.1) :: (22, w3 ([(1 : Int)] : List Int)) :: (21, .ptr 0 4 0) :: (20, .str x4_1) :: E6)) (hs := [(mkH [Q7, Q2, Q3])]) (H' := (mkH [Q7, Q2, Q3])) (fi := 96) (args := [.ptr 0 4 0, w3 ([(1 : Int)] : List Int)]) (v := .str x4_4.1) (by kernel_rfl) (frC (rs := [0]) (ms := []) (ms' := []) (qGd k ([(1 : Int)] : List Int) a7 a8 x3_1.2 a10 x4_4 hx4_4) trivial trivial (by kernel_rfl)) (by kernel_rfl) (qA8 (l' := (opsAt i26p8).toList.drop 6) (eE := E8) (hs := []) (x := x4_5) (fun (x4_5 : (List Nat)) => (.str x4_5, (mkH [Q7, Q2, Q3]))) (catH (by kernel_rfl)) hx4_5 (by kernel_rfl) (oDh 4 10 ((27, .agg [.i 12, .str x4_5, w29 ([(⟨a0, a1, a2, a3, a4, a5, a6⟩ : S28)] : List S28), .bool false, .bool false, .nils, .nils]) :: (26, w29 ([(⟨a0, a1, a2, a3, a4, a5, a6⟩ : S28)] : List S28)) :: (25, .agg [.i a0, .str a1, q29 a2, .bool a3, .bool a4, w9 a5, w9 a6]) :: E8) (mkH [Q7, Q2, ⟨[.i 12, .str x4_5, w29 ([(⟨a0, a1, a2, a3, a4, a5, a6⟩ : S28)] : List S28), .bool false, .bool false, .nils, .nils], 7, false⟩]) [(mkH [Q7, Q2, ⟨[.i 12, .str x4_5, w29 ([(⟨a0, a1, a2, a3, a4, a5, a6⟩ : S28)] : List S28), .bool false, .bool false, .nils, .nils], 7, false⟩])] .nil)))))) ?_
    exact oQF 1 [Q7, Q2, ⟨[.i 12, .str x4_5, w29 ([(⟨a0, a1, a2, a3, a4, a5, a6⟩ : S28)] : List S28), .bool false, .bool false, .nils, .nils], 7, false⟩] 1 [] [.agg [.i 12, .str x4_5, w29 ([(⟨a0, a1, a2, a3, a4, a5, a6⟩ : S28)] : List S28), .bool false, .bool false, .nils, .nils]] (.agg [.i 12, .str x4_5, w29 ([(⟨a0, a1, a2, a3, a4, a5, a6⟩ : S28)] : List S28), .bool false, .bool false, .vec 0 1 [], .vec 0 1 []]) (.agg (.cs (.cs (.cs (.cs (.cs (.nil (.nil .ps))))))) .ps) trivial
  ·refine oR 5 (atN 1 (ctl1 i26p9)) ((28, .ptr 0 4 0) :: (18, .bool false) :: E5) ?_
   refine oX (fun (x5_1 : Int) => .tuple []) (fun x5_1 => [⟨[.str a7, w34 a8, .i x5_1, .i a10], 4, false⟩, Q2, Q3]) (atN 2 (ctl1 i26p9)) 29 [0] [] [] [0] [] [.ptr 0 4 0, .str [123]] (qAj k ([123] : List Nat) a7 a8 x3_1.2 a10) (qAw k ([123] : List Nat) a7 a8 x3_1.2 a10) trivial (fun _ => trivial) trivial fun x5_1 hx5_1 => ?_
   let E9 : Env := ((33, .slice 3 7 0 1 7) :: (32, .agg [.i a0, .str a1, q29 a2, .bool a3, .bool a4, w9 a5, w9 a6]) :: (31, .str x2_1.1) :: (30, .ptr 0 4 0) :: (29, .tuple []) :: (28, .ptr 0 4 0) :: (18, .bool false) :: E5)
   let Q8 : Blk := ⟨[.str a7, w34 a8, .i x5_1, .i a10], 4, false⟩
   refine oH 7 (atN 4 (ctl1 i26p10)) E9 (mkH [Q8, Q2, Q3, Q2]) ?_
   refine qCl 33 3 7 1 7 (by kernel_rfl) rfl ?_
   let Q9 : Blk := ⟨(([(⟨a0, a1, a2, a3, a4, a5, a6⟩ : S28)] : List S28)).flatMap e29, 0, false⟩
   refine oH 3 (atN 7 (ctl1 i26p10)) ((36, .func 78 [.ptr 0 4 0] []) :: (35, .ptr 0 4 0) :: (34, .agg [.i 11, .str x2_1.1, .own 3 (([(⟨a0, a1, a2, a3, a4, a5, a6⟩ : S28)] : List S28)).length 7, .bool false, .bool false, .nils, .nils]) :: (33, .own 3 (([(⟨a0, a1, a2, a3, a4, a5, a6⟩ : S28)] : List S28)).length 7) :: E9) (mkH [Q8, Q2, Q3, Q9]) ?_
   refine oXW 0 [Q8, Q2, Q3, Q9] (fun (x6_7 : Ri18) => .agg [.i x6_7.1, .str x6_7.2.1, .own 3 (x6_7.2.2.2.2.2.2.2).length 7, .bool x6_7.2.2.1, .bool x6_7.2.2.2.1, w9 x6_7.2.2.2.2.1, w9 x6_7.2.2.2.2.2.1]) (fun x6_7 => [⟨[.str a7, w34 a8, .i x6_7.2.2.2.2.2.2.1, .i a10], 4, false⟩, Q2, Q3, ⟨(x6_7.2.2.2.2.2.2.2).flatMap e29, 0, false⟩]) (atN 8 (ctl1 i26p10)) 37 [0, 3] [0, 1] [0, 1] [0, 3] [] [0, 0, 0, 1] [.ptr 0 4 0, .agg [.i 11, .str x2_1.1, .own 3 (([(⟨a0, a1, a2, a3, a4, a5, a6⟩ : S28)] : List S28)).length 7, .bool false, .bool false, .nils, .nils], .str [125], .func 78 [.ptr 0 4 0] []] [.ptr 0 4 0, .agg [.i 11, .str x2_1.1, .own 3 (([(⟨a0, a1, a2, a3, a4, a5, a6⟩ : S28)] : List S28)).length 7, .bool false, .bool false, w9 ([] : List (List Nat)), w9 ([] : List (List Nat))], .str [125], .func 78 [.ptr 0 4 0] []] (.cons (.agg (.cons (.cons (.cons (.cons (.cons (.nil (.nil (.refl)))))))) (.refl))) (hF.i18_thr (11 : Int) x2_1.1 false false ([] : List (List Nat)) ([] : List (List Nat)) ([125] : List Nat) a7 a8 x5_1 a10 ([(⟨a0, a1, a2, a3, a4, a5, a6⟩ : S28)] : List S28)) (hF.i18_ok (11 : Int) x2_1.1 false false ([] : List (List Nat)) ([] : List (List Nat)) ([125] : List Nat) a7 a8 x5_1 a10 ([(⟨a0, a1, a2, a3, a4, a5, a6⟩ : S28)] : List S28)) ⟨u29 _, trivial⟩ (fun _ => ⟨u29 _, trivial⟩) trivial fun x6_7 hx6_7 => ?_
   exact oQF 3 [⟨[.str a7, w34 a8, .i x6_7.2.2.2.2.2.2.1, .i a10], 4, false⟩, Q2, ⟨[.i x6_7.1, .str x6_7.2.1, .own 3 (x6_7.2.2.2.2.2.2.2).length 7, .bool x6_7.2.2.1, .bool x6_7.2.2.2.1, w9 x6_7.2.2.2.2.1, w9 x6_7.2.2.2.2.2.1], 7, false⟩, ⟨(x6_7.2.2.2.2.2.2.2).flatMap e29, 0, false⟩] 1 [] [.agg [.i x6_7.1, .str x6_7.2.1, .own 3 (x6_7.2.2.2.2.2.2.2).length 7, .bool x6_7.2.2.1, .bool x6_7.2.2.2.1, w9 x6_7.2.2.2.2.1, w9 x6_7.2.2.2.2.2.1]] (.agg [.i x6_7.1, .str x6_7.2.1, w29 x6_7.2.2.2.2.2.2.2, .bool x6_7.2.2.1, .bool x6_7.2.2.2.1, w9 x6_7.2.2.2.2.1, w9 x6_7.2.2.2.2.2.1]) (.agg (.cs (.cs (qAs qA7 qAg rfl rfl rfl .ps))) .ps) trivial
theorem i26B_ok (k : Nat) (F : Fns0) (hF : FnsOk0 F) : Pi26 (i26B k F) := fun a0 a1 a2 a3 a4 a5 a6 a7 a8 a9 a10 x h => qJc k F hF a0 a1 a2 a3 a4 a5 a6 a7 a8 a9 a10 (some x) h
theorem i26B_thr (k : Nat) (F : Fns0) (hF : FnsOk0 F) : Qi26 (i26B k F) := fun a0 a1 a2 a3 a4 a5 a6 a7 a8 a9 a10 h => ⟨_, qJc k F hF a0 a1 a2 a3 a4 a5 a6 a7 a8 a9 a10 none h⟩
def Xi29 (a0 : (List Nat)) (a1 : (List S33)) (a2 : Int) (a3 : Int) : Fx (Option (S28 × Int)) := ⟨Try.prog, cx, Try.f78, fun r => match r with | some r => .agg [.i r.1.f0, .str r.1.f1, q29 r.1.f2, .bool r.1.f3, .bool r.1.f4, w9 r.1.f5, w9 r.1.f6] | none => .top, 1, fun r => match r with | some r => (mkH [⟨[.str a0, w34 a1, .i r.2, .i a3], 4, false⟩]) | none => (mkH [⟨[.str a0, w34 a1, .i a2, .i a3], 4, false⟩]), cxTi, cxOrd, fun r => match r with | some _ => none | none => some (thrown, [0]), false⟩
def i29p0 : Pt := nav [0] (bodyAt Try.f78)
def i29p1 : Pt := nav [0, 0, 0] i29p0
def i29B (k : Nat) (F : Fns0) (a0 : (List Nat)) (a1 : (List S33)) (a2 : Int) (a3 : Int) : Option (Option (S28 × Int)) :=
 bT (F.i5 (0 : Int) a0 a1 a2 a3) fun x0_1 => some (some ((⟨x0_1.1.f0, x0_1.1.f1, x0_1.1.f2, x0_1.1.f3, x0_1.1.f4, x0_1.1.f5, x0_1.1.f6⟩ : S28), x0_1.2))
theorem qJb (k : Nat) (F : Fns0) (hF : FnsOk0 F) (a0 : (List Nat)) (a1 : (List S33)) (a2 : Int) (a3 : Int) (r : (Option (S28 × Int))) (h : i29B k F a0 a1 a2 a3 = some r) : CallT Try.prog 78 [.ptr 0 4 0] (mkH [⟨[.str a0, w34 a1, .i a2, .i a3], 4, false⟩]) ((Xi29 a0 a1 a2 a3).thr r) ((Xi29 a0 a1 a2 a3).enc r) ((Xi29 a0 a1 a2 a3).fin r) := by
 refine qA2 (Xi29 a0 a1 a2 a3) Try.func78 (by kernel_rfl) (by kernel_rfl) rfl (t := i29B k F a0 a1 a2 a3) ?_ h
 unfold i29B
 refine qA0 (eE := [(0, .ptr 0 4 0)]) (by kernel_rfl) ?_
 let Q1 : Blk := ⟨[.i 0, .str [], .nils, .bool false, .bool false, .nils, .nils], 0, false⟩
 refine oH 7 (atN 1 (ctl1 i29p1)) [(3, .ptr 0 4 0), (2, .ptr 1 7 0), (0, .ptr 0 4 0)] (mkH [⟨[.str a0, w34 a1, .i a2, .i a3], 4, false⟩, Q1]) ?_
 refine oX (fun (x0_1 : (S28 × Int)) => n29 x0_1.1) (fun x0_1 => [⟨[.str a0, w34 a1, .i x0_1.2, .i a3], 4, false⟩, Q1]) (atN 2 (ctl1 i29p1)) 4 [0] [] [] [0] [] [.ptr 0 4 0, .i 0] (hF.i5_thr (0 : Int) a0 a1 a2 a3) (hF.i5_ok (0 : Int) a0 a1 a2 a3) trivial (fun _ => trivial) trivial fun x0_1 hx0_1 => ?_
 exact oQF 3 [⟨[.str a0, w34 a1, .i x0_1.2, .i a3], 4, false⟩, ⟨e29 x0_1.1, 7, false⟩] 1 [] [n29 x0_1.1] (n29 x0_1.1) .ps trivial
theorem i29B_ok (k : Nat) (F : Fns0) (hF : FnsOk0 F) : Pi29 (i29B k F) := fun a0 a1 a2 a3 x h => qJb k F hF a0 a1 a2 a3 (some x) h
theorem i29B_thr (k : Nat) (F : Fns0) (hF : FnsOk0 F) : Qi29 (i29B k F) := fun a0 a1 a2 a3 h => ⟨_, qJb k F hF a0 a1 a2 a3 none h⟩
def i30c0 : List (List Nat) := [([60, 45] : List Nat), ([60, 61] : List Nat)]
def Xi30 (a0 : Int) (a1 : (List Nat)) (a2 : Bool) (a3 : Bool) (a4 : (List (List Nat))) (a5 : (List (List Nat))) (a6 : (List Nat)) (a7 : (List S33)) (a8 : Int) (a9 : Int) (b1 : (List S28)) : Fx (Option Ri30) := ⟨Try.prog, cx, Try.f94, fun r => match r with | some r => .agg [.i r.1, .str r.2.1, .own 1 (r.2.2.2.2.2.2.2).length 7, .bool r.2.2.1, .bool r.2.2.2.1, w9 r.2.2.2.2.1, w9 r.2.2.2.2.2.1] | none => .top, 2, fun r => match r with | some r => (mkH [⟨[.str a6, w34 a7, .i r.2.2.2.2.2.2.1, .i a9], 4, false⟩, ⟨(r.2.2.2.2.2.2.2).flatMap e29, 0, false⟩]) | none => (mkH [⟨[.str a6, w34 a7, .i a8, .i a9], 4, false⟩, ⟨(b1).flatMap e29, 0, false⟩]), cxTi, cxOrd, fun r => match r with | some _ => none | none => some (thrown, [0, 1]), false⟩
def i30p0 : Pt := nav [0] (bodyAt Try.f94)
def i30p1 : Pt := nav [0, 0, 0, 0] i30p0
def i30p2 : Pt := nav [0, 0, 0] i30p1
def i30p3 : Pt := nav [0, 0, 0, 0] i30p2
def i30p4 : Pt := nav [0, 0, 0, 0] i30p3
def i30p5 : Pt := nav [0, 0] i30p4
def i30p6 : Pt := nav [0, 0, 0] i30p5
def i30p7 : Pt := nav [1, 0, 0, 0, 0] i30p6
def i30p8 : Pt := nav [2, 0, 0] i30p6
def i30p9 : Pt := nav [0, 0, 0] i30p7
def i30p10 : Pt := nav [0, 0, 0, 0] i30p8
def i30p11 : Pt := nav [0, 0] i30p9
def i30p12 : Pt := nav [0, 0] i30p10
def i30p13 : Pt := nav [1, 0] i30p11
def i30p16 : Pt := nav [2, 0] i30p12
def qH8 (k : Nat) (F : Fns0) (c7 : Int → (List S28) → Option (Option Ri30)) (a0 : Int) (a1 : (List Nat)) (a2 : Bool) (a3 : Bool) (a4 : (List (List Nat))) (a5 : (List (List Nat))) (a6 : (List Nat)) (a7 : (List S33)) (a8 : Int) (a9 : Int) (b1 : (List S28)) (x0_1 : (S28 × Int)) (ih : Int → Int → (List S28) → Option (Option Ri30)) : Int → Int → (List S28) → Option (Option Ri30) :=
 fun (y8_0 : Int) (y8_1 : Int) (y8_2 : (List S28)) => jn (fun (z10 : Int × Int × (List Nat) × Raw × Bool × Bool × (List (List Nat)) × (List (List Nat)) × (List S28)) => (appS 104 z10.2.2.2.2.2.2.2.2 ([(⟨z10.2.1, z10.2.2.1, z10.2.2.2.1, z10.2.2.2.2.1, z10.2.2.2.2.2.1, z10.2.2.2.2.2.2.1, z10.2.2.2.2.2.2.2.1⟩ : S28)] : List S28)).bind fun x4_4 => bT (i7 k ([93] : List Nat) a6 a7 z10.1 a9) fun x5_1 => if x5_1.1 then (some (some (a0, a1, a2, a3, a4, a5, x5_1.2, x4_4))) else (bT (i23 k ([44] : List Nat) a6 a7 x5_1.2 a9) fun x6_1 => c7 x6_1 x4_4)) (fun j10 => if (decide (y8_0 < (i30c0.length : Int))) then ((nthL i30c0 y8_0).bind fun x1_0 => bT (i7 k x1_0 a6 a7 y8_1 a9) fun x2_2 => jn (fun (z9 : (List S28)) => bT (F.i5 (3 : Int) a6 a7 x2_2.2 a9) fun x3_3 => j10 (x3_3.2, 14, x1_0, (⟨(([x0_1.1, x3_3.1] : List S28)).length, (([x0_1.1, x3_3.1] : List S28)).flatMap e29⟩ : Raw), false, false, ([] : List (List Nat)), ([] : List (List Nat)), z9)) (fun j9 => if x2_2.1 then (j9 y8_2) else (ih (fW .i64 (y8_0 + 1)) x2_2.2 y8_2))) else (j10 (y8_1, x0_1.1.f0, x0_1.1.f1, x0_1.1.f2, x0_1.1.f3, x0_1.1.f4, x0_1.1.f5, x0_1.1.f6, y8_2)))
def qMs (k : Nat) (F : Fns0) (c7 : Int → (List S28) → Option (Option Ri30)) (a0 : Int) (a1 : (List Nat)) (a2 : Bool) (a3 : Bool) (a4 : (List (List Nat))) (a5 : (List (List Nat))) (a6 : (List Nat)) (a7 : (List S33)) (a8 : Int) (a9 : Int) (b1 : (List S28)) (x0_1 : (S28 × Int)) (n : Nat) : Int → Int → (List S28) → Option (Option Ri30) := lp (fun _ _ _ => none) (qH8 k F c7 a0 a1 a2 a3 a4 a5 a6 a7 a8 a9 b1 x0_1) n
theorem qMr (k : Nat) (F : Fns0) (hF : FnsOk0 F) (a0 : Int) (a1 : (List Nat)) (a2 : Bool) (a3 : Bool) (a4 : (List (List Nat))) (a5 : (List (List Nat))) (a6 : (List Nat)) (a7 : (List S33)) (a8 : Int) (a9 : Int) (b1 : (List S28)) (c7 : Int → (List S28) → Option (Option Ri30)) (x0_1 : (S28 × Int)) (hc7 : ∀ (y7_0 : Int) (y7_1 : (List S28)), Ok (Xi30 a0 a1 a2 a3 a4 a5 a6 a7 a8 a9 b1) i30p1 [(0, .ptr 0 4 0), (3, .ptr 2 7 0), (4, .ptr 3 7 0)] (mkH [⟨[.str a6, w34 a7, .i y7_0, .i a9], 4, false⟩, ⟨(y7_1).flatMap e29, 0, false⟩, ⟨[.i a0, .str a1, .own 1 (y7_1).length 7, .bool a2, .bool a3, w9 a4, w9 a5], 7, false⟩, ⟨[.i 0, .str [], .nils, .bool false, .bool false, .nils, .nils], 0, false⟩]) (c7 y7_0 y7_1)) : ∀ (n : Nat) (y8_0 : Int) (y8_1 : Int) (y8_2 : (List S28)), Ok (Xi30 a0 a1 a2 a3 a4 a5 a6 a7 a8 a9 b1) i30p4 [(0, .ptr 0 4 0), (3, .ptr 2 7 0), (4, .ptr 3 7 0), (5, .ptr 4 7 0), (10, w9 i30c0), (11, .i (i30c0.length : Int)), (12, .i y8_0)] (mkH [⟨[.str a6, w34 a7, .i y8_1, .i a9], 4, false⟩, ⟨(y8_2).flatMap e29, 0, false⟩, ⟨[.i a0, .str a1, .own 1 (y8_2).length 7, .bool a2, .bool a3, w9 a4, w9 a5], 7, false⟩, ⟨[.i 0, .str [], .nils, .bool false, .bool false, .nils, .nils], 0, false⟩, ⟨[.i x0_1.1.f0, .str x0_1.1.f1, q29 x0_1.1.f2, .bool x0_1.1.f3, .bool x0_1.1.f4, w9 x0_1.1.f5, w9 x0_1.1.f6], 7, false⟩]) (qMs k F c7 a0 a1 a2 a3 a4 a5 a6 a7 a8 a9 b1 x0_1 n y8_0 y8_1 y8_2) := by
 intro n
 induction n with
 | zero => intro y8_0 y8_1 y8_2; exact ok_none
 | succ n ih =>
  intro y8_0 y8_1 y8_2
  show Ok _ _ _ _ (qH8 k F c7 a0 a1 a2 a3 a4 a5 a6 a7 a8 a9 b1 x0_1 (qMs k F c7 a0 a1 a2 a3 a4 a5 a6 a7 a8 a9 b1 x0_1 n) y8_0 y8_1 y8_2)
  unfold qH8
  refine qAk (p' := nav [0] i30p4) (by kernel_rfl) ?_
  let E3 : Env := [(13, .bool (decide (y8_0 < (i30c0.length : Int)))), (0, .ptr 0 4 0), (3, .ptr 2 7 0), (4, .ptr 3 7 0), (5, .ptr 4 7 0), (10, w9 i30c0), (11, .i (i30c0.length : Int)), (12, .i y8_0)]
  let Q1 : Blk := ⟨[.str a6, w34 a7, .i y8_1, .i a9], 4, false⟩
  let Q2 : Blk := ⟨(y8_2).flatMap e29, 0, false⟩
  let Q3 : Blk := ⟨[.i a0, .str a1, .own 1 (y8_2).length 7, .bool a2, .bool a3, w9 a4, w9 a5], 7, false⟩
  let Q4 : Blk := ⟨[.i 0, .str [], .nils, .bool false, .bool false, .nils, .nils], 0, false⟩
  refine oH 5 i30p6 E3 (mkH [Q1, Q2, Q3, Q4, ⟨e29 x0_1.1, 7, false⟩]) ?_
  refine oJ i30p8 (fun (z10 : Int × Int × (List Nat) × Raw × Bool × Bool × (List (List Nat)) × (List (List Nat)) × (List S28)) => [(0, .ptr 0 4 0), (3, .ptr 2 7 0), (4, .ptr 3 7 0), (5, .ptr 4 7 0)]) (fun (z10 : Int × Int × (List Nat) × Raw × Bool × Bool × (List (List Nat)) × (List (List Nat)) × (List S28)) => (mkH [⟨[.str a6, w34 a7, .i z10.1, .i a9], 4, false⟩, ⟨(z10.2.2.2.2.2.2.2.2).flatMap e29, 0, false⟩, ⟨[.i a0, .str a1, .own 1 (z10.2.2.2.2.2.2.2.2).length 7, .bool a2, .bool a3, w9 a4, w9 a5], 7, false⟩, Q4, ⟨[.i z10.2.1, .str z10.2.2.1, q29 z10.2.2.2.1, .bool z10.2.2.2.2.1, .bool z10.2.2.2.2.2.1, w9 z10.2.2.2.2.2.2.1, w9 z10.2.2.2.2.2.2.2.1], 7, false⟩])) (fun z10 => ?_) (fun j10 hj10 => ?_)
  ·let Q5 : Blk := ⟨[.str a6, w34 a7, .i z10.1, .i a9], 4, false⟩
   let Q6 : Blk := ⟨(z10.2.2.2.2.2.2.2.2).flatMap e29, 0, false⟩
   let Q7 : Blk := ⟨[.i a0, .str a1, .own 1 (z10.2.2.2.2.2.2.2.2).length 7, .bool a2, .bool a3, w9 a4, w9 a5], 7, false⟩
   let Q8 : Blk := ⟨[.i z10.2.1, .str z10.2.2.1, q29 z10.2.2.2.1, .bool z10.2.2.2.2.1, .bool z10.2.2.2.2.2.1, w9 z10.2.2.2.2.2.2.1, w9 z10.2.2.2.2.2.2.2.1], 7, false⟩
   let Q9 : Blk := ⟨[.i z10.2.1, .str z10.2.2.1, q29 z10.2.2.2.1, .bool z10.2.2.2.2.1, .bool z10.2.2.2.2.2.1, w9 z10.2.2.2.2.2.2.1, w9 z10.2.2.2.2.2.2.2.1], 0, false⟩
   refine oH 5 (atN 4 (ctl1 i30p8)) [(29, .slice 5 7 0 1 7), (28, .agg [.i z10.2.1, .str z10.2.2.1, q29 z10.2.2.2.1, .bool z10.2.2.2.2.1, .bool z10.2.2.2.2.2.1, w9 z10.2.2.2.2.2.2.1, w9 z10.2.2.2.2.2.2.2.1]), (27, .own 1 (z10.2.2.2.2.2.2.2.2).length 7), (26, .ptr 2 7 2), (0, .ptr 0 4 0), (3, .ptr 2 7 0), (4, .ptr 3 7 0), (5, .ptr 4 7 0)] (mkH [Q5, Q6, Q7, Q4, Q8, Q9]) ?_
   refine oC (fun (x4_4 : (List S28)) => (.own 1 (x4_4).length 7, (mkH [Q5, ⟨(x4_4).flatMap e29, 0, false⟩, Q7, Q4, Q8, Q9]))) (atN 5 (ctl1 i30p8)) 30 (appH (sz := 7) qA7 rfl qAx [Q5, Q6, Q7, Q4, Q8, Q9] 1 104 z10.2.2.2.2.2.2.2.2 ([(⟨z10.2.1, z10.2.2.1, z10.2.2.2.1, z10.2.2.2.2.1, z10.2.2.2.2.2.1, z10.2.2.2.2.2.2.1, z10.2.2.2.2.2.2.2.1⟩ : S28)] : List S28) rfl rfl (by kernel_rfl)) fun x4_4 hx4_4 => ?_
   let Q10 : Blk := ⟨(x4_4).flatMap e29, 0, false⟩
   let Q11 : Blk := ⟨[.i a0, .str a1, .own 1 (x4_4).length 7, .bool a2, .bool a3, w9 a4, w9 a5], 7, false⟩
   refine oLH 5 i30p10 [(0, .ptr 0 4 0), (3, .ptr 2 7 0), (4, .ptr 3 7 0)] (mkH [Q5, Q10, Q11, Q4, Q8, Q9]) ?_
   let E5 : Env := [(0, .ptr 0 4 0), (3, .ptr 2 7 0), (4, .ptr 3 7 0)]
   refine oR 2 (atN 1 (ctl1 i30p10)) ((32, .ptr 0 4 0) :: E5) ?_
   refine oX (fun (x5_1 : (Bool × Int)) => .bool x5_1.1) (fun x5_1 => [⟨[.str a6, w34 a7, .i x5_1.2, .i a9], 4, false⟩, Q10, Q11, Q4, Q8, Q9]) (atN 2 (ctl1 i30p10)) 33 [0] [] [] [2] [0, 1] [.ptr 0 4 0, .str [93]] (qAb k ([93] : List Nat) a6 a7 z10.1 a9) (qAi k ([93] : List Nat) a6 a7 z10.1 a9) trivial (fun _ => trivial) ⟨u29 _, trivial⟩ fun x5_1 hx5_1 => ?_
   refine oR 1 i30p12 ((33, .bool x5_1.1) :: (32, .ptr 0 4 0) :: E5) ?_
   refine oS 33 (fun hb => ?_) (fun hb => ?_)
   ·let Q12 : Blk := ⟨[.str a6, w34 a7, .i x5_1.2, .i a9], 4, false⟩
    refine oH 7 .fin ((34, .agg [.i a0, .str a1, .own 1 (x4_4).length 7, .bool a2, .bool a3, w9 a4, w9 a5]) :: (33, .bool true) :: (33, .bool x5_1.1) :: (32, .ptr 0 4 0) :: E5) (mkH [Q12, Q10, Q11, Q11, Q8, Q9]) ?_
    exact qBp (r := some (a0, a1, a2, a3, a4, a5, x5_1.2, x4_4)) (xs := [.agg [.i a0, .str a1, .own 1 (x4_4).length 7, .bool a2, .bool a3, w9 a4, w9 a5]]) [Q12, Q10] [Q11, Q11, Q8, Q9] (by kernel_rfl) (by kernel_rfl) (by kernel_rfl) (by kernel_rfl) (by kernel_rfl) ⟨(by kernel_rfl), ⟨(qA3 _ (u29 _)), trivial⟩⟩ (by kernel_rfl) (by kernel_rfl)
   ·refine oR 4 (atN 1 (ctl1 i30p16)) ((35, .ptr 0 4 0) :: (33, .bool false) :: (33, .bool x5_1.1) :: (32, .ptr 0 4 0) :: E5) ?_
    refine oX (fun (x6_1 : Int) => .tuple []) (fun x6_1 => [⟨[.str a6, w34 a7, .i x6_1, .i a9], 4, false⟩, Q10, Q11, Q4, Q8, Q9]) (atN 2 (ctl1 i30p16)) 36 [0] [] [] [0, 2] [0, 1] [.ptr 0 4 0, .str [44]] (qAj k ([44] : List Nat) a6 a7 x5_1.2 a9) (qAw k ([44] : List Nat) a6 a7 x5_1.2 a9) trivial (fun _ => trivial) ⟨u29 _, trivial⟩ fun x6_1 hx6_1 => ?_
    refine oL 1 i30p1 [(0, .ptr 0 4 0), (3, .ptr 2 7 0), (4, .ptr 3 7 0)] ?_
    refine qAc [⟨[.str a6, w34 a7, .i x6_1, .i a9], 4, false⟩, Q10, Q11, Q4] [Q8, Q9] (by kernel_rfl) rfl (by kernel_rfl) ⟨(by kernel_rfl), ⟨(qA3 _ (u29 _)), ⟨(by kernel_rfl), ⟨(by kernel_rfl), trivial⟩⟩⟩⟩ ?_
    exact hc7 x6_1 x4_4
  ·refine oS 13 (fun hb => ?_) (fun hb => ?_)
   ·refine oH 6 (atN 0 (ctl1 i30p7)) ((13, .bool true) :: E3) (mkH [Q1, Q2, Q3, Q4, ⟨e29 x0_1.1, 7, false⟩]) ?_
    refine oC (fun (x1_0 : (List Nat)) => (.vptr [.str x1_0], (mkH [Q1, Q2, Q3, Q4, ⟨e29 x0_1.1, 7, false⟩]))) (atN 1 (ctl1 i30p7)) 14 (vidxH (sz := 1) qC0 (by kernel_rfl)) fun x1_0 hx1_0 => ?_
    let E8 : Env := ((17, .str x1_0) :: (16, .ptr 0 4 0) :: (7, .str x1_0) :: (15, .str x1_0) :: (14, .vptr [.str x1_0]) :: (13, .bool true) :: E3)
    refine oH 7 (atN 2 (ctl1 i30p9)) E8 (mkH [Q1, Q2, Q3, Q4, ⟨e29 x0_1.1, 7, false⟩]) ?_
    refine oX (fun (x2_2 : (Bool × Int)) => .bool x2_2.1) (fun x2_2 => [⟨[.str a6, w34 a7, .i x2_2.2, .i a9], 4, false⟩, Q2, Q3, Q4, ⟨e29 x0_1.1, 7, false⟩]) (atN 3 (ctl1 i30p9)) 18 [0] [] [] [2] [0, 1] [.ptr 0 4 0, .str x1_0] (qAb k x1_0 a6 a7 y8_1 a9) (qAi k x1_0 a6 a7 y8_1 a9) trivial (fun _ => trivial) ⟨u29 _, trivial⟩ fun x2_2 hx2_2 => ?_
    refine oR 1 i30p11 ((18, .bool x2_2.1) :: E8) ?_
    let Q13 : Blk := ⟨[.str a6, w34 a7, .i x2_2.2, .i a9], 4, false⟩
    refine oJ i30p13 (fun (z9 : (List S28)) => [(0, .ptr 0 4 0), (3, .ptr 2 7 0), (4, .ptr 3 7 0), (5, .ptr 4 7 0), (7, .str x1_0)]) (fun (z9 : (List S28)) => (mkH [Q13, ⟨(z9).flatMap e29, 0, false⟩, ⟨[.i a0, .str a1, .own 1 (z9).length 7, .bool a2, .bool a3, w9 a4, w9 a5], 7, false⟩, Q4, ⟨e29 x0_1.1, 7, false⟩])) (fun z9 => ?_) (fun j9 hj9 => ?_)
    ·refine qC4 (fun h => ?_) (fun x3_3 hx3_3 => ?_)
     ·let E9 : Env := [(21, .ptr 0 4 0), (20, n29 x0_1.1), (19, .str x1_0), (0, .ptr 0 4 0), (3, .ptr 2 7 0), (4, .ptr 3 7 0), (5, .ptr 4 7 0), (7, .str x1_0)]
      let Q14 : Blk := ⟨(z9).flatMap e29, 0, false⟩
      let Q15 : Blk := ⟨[.i a0, .str a1, .own 1 (z9).length 7, .bool a2, .bool a3, w9 a4, w9 a5], 7, false⟩
      exact qAn (eE := ((24, .top) :: (23, .top) :: (22, .top) :: E9)) ⟨[23], [(0, 0, 0), (0, 0, 1), (0, 0, 0), (4, 0, 0), (14, 0, 0), (31, 0, 0), (63, 0, 0)], 3, thrown, [0, 2], (mkH [Q13, Q14, Q15, Q4, ⟨e29 x0_1.1, 7, false⟩])⟩ (hs := [(mkH [Q13, Q14, Q15, Q4, ⟨e29 x0_1.1, 7, false⟩]), (mkH [Q13, Q14, Q15, Q4, ⟨e29 x0_1.1, 7, false⟩])]) (LX := [⟨[.str a6, w34 a7, .i a8, .i a9], 4, false⟩, ⟨(b1).flatMap e29, 0, false⟩]) (L := [Q13, Q14, Q15, Q4, ⟨e29 x0_1.1, 7, false⟩]) rfl rfl rfl (by kernel_rfl) rfl ⟨.inl rfl, ⟨.inl rfl, trivial⟩⟩ (by kernel_rfl) (by kernel_rfl) (by kernel_rfl) (by kernel_rfl) (qAa 3 (l' := (opsAt i30p13).toList.drop 3) (eE := E9) (H' := (mkH [Q13, Q14, Q15, Q4, ⟨e29 x0_1.1, 7, false⟩])) (hs := []) (by kernel_rfl) (qAm (l' := (opsAt i30p13).toList.drop 4) (eE := ((22, .top) :: E9)) (hs := [(mkH [Q13, Q14, Q15, Q4, ⟨e29 x0_1.1, 7, false⟩])]) (fi := 29) (args := [.ptr 0 4 0, .i 3]) (by kernel_rfl) (by kernel_rfl) (frS 0 (M := [Q13, Q14, Q15, Q4, ⟨e29 x0_1.1, 7, false⟩]) (rs := [0]) (ms := []) (mv := [0, 1]) (mm := [0, 1]) (D := [0, 2]) (xs' := [.ptr 0 4 0, .i 3]) (.refl) (hF.i5_thr (3 : Int) a6 a7 x2_2.2 a9 h) trivial ⟨u29 _, trivial⟩ (by kernel_rfl)) (by kernel_rfl) (qA1 (l' := (opsAt i30p13).toList.drop 5) (eE := ((23, .top) :: (22, .top) :: E9)) (hs := []) (by kernel_rfl) (by kernel_rfl) (qA1 (l' := (opsAt i30p13).toList.drop 6) (eE := ((24, .top) :: (23, .top) :: (22, .top) :: E9)) (hs := []) (by kernel_rfl) (by kernel_rfl) (qA1 (l' := (opsAt i30p13).toList.drop 7) (eE := ((24, .top) :: (23, .top) :: (22, .top) :: E9)) (hs := [(mkH [Q13, Q14, Q15, Q4, ⟨e29 x0_1.1, 7, false⟩])]) (by kernel_rfl) (by kernel_rfl) (.nil)))))) (by kernel_rfl) (by kernel_rfl)
     ·let E9 : Env := [(21, .ptr 0 4 0), (20, n29 x0_1.1), (19, .str x1_0), (0, .ptr 0 4 0), (3, .ptr 2 7 0), (4, .ptr 3 7 0), (5, .ptr 4 7 0), (7, .str x1_0)]
      let Q16 : Blk := ⟨[.str a6, w34 a7, .i x3_3.2, .i a9], 4, false⟩
      let Q17 : Blk := ⟨(z9).flatMap e29, 0, false⟩
      let Q18 : Blk := ⟨[.i a0, .str a1, .own 1 (z9).length 7, .bool a2, .bool a3, w9 a4, w9 a5], 7, false⟩
      let Q19 : Blk := ⟨[.i 14, .str x1_0, w29 ([x0_1.1, x3_3.1] : List S28), .bool false, .bool false, .nils, .nils], 7, false⟩
      refine oD (H' := (mkH [Q16, Q17, Q18, Q4, Q19])) (nav [0] i30p13) ((24, .agg [.i 14, .str x1_0, w29 ([x0_1.1, x3_3.1] : List S28), .bool false, .bool false, .nils, .nils]) :: (23, w29 ([x0_1.1, x3_3.1] : List S28)) :: (22, n29 x3_3.1) :: E9) [(mkH [Q16, Q17, Q18, Q4, ⟨e29 x0_1.1, 7, false⟩]), (mkH [Q16, Q17, Q18, Q4, Q19])] ⟨[23], [(0, 0, 0), (0, 0, 1), (0, 0, 0), (4, 0, 0), (14, 0, 0), (31, 0, 0), (63, 0, 0)], 7, thrown, [], H0⟩ (oDr 3 3 E9 (qA4 (l' := (opsAt i30p13).toList.drop 4) (eE := ((22, n29 x3_3.1) :: E9)) (hs := [(mkH [Q16, Q17, Q18, Q4, ⟨e29 x0_1.1, 7, false⟩])]) (H' := (mkH [Q16, Q17, Q18, Q4, ⟨e29 x0_1.1, 7, false⟩])) (fi := 29) (args := [.ptr 0 4 0, .i 3]) (v := n29 x3_3.1) (by kernel_rfl) (frC (rs := [0]) (ms := []) (ms' := []) (hF.i5_ok (3 : Int) a6 a7 x2_2.2 a9 x3_3 hx3_3) trivial trivial (by kernel_rfl)) (by kernel_rfl) (oDh 3 7 ((24, .agg [.i 14, .str x1_0, w29 ([x0_1.1, x3_3.1] : List S28), .bool false, .bool false, .nils, .nils]) :: (23, w29 ([x0_1.1, x3_3.1] : List S28)) :: (22, n29 x3_3.1) :: E9) (mkH [Q16, Q17, Q18, Q4, Q19]) [(mkH [Q16, Q17, Q18, Q4, Q19])] .nil))) ?_
      refine oR 2 i30p8 ((24, .agg [.i 14, .str x1_0, w29 ([x0_1.1, x3_3.1] : List S28), .bool false, .bool false, .nils, .nils]) :: (23, w29 ([x0_1.1, x3_3.1] : List S28)) :: (22, n29 x3_3.1) :: E9) ?_
      refine qCt [Q16, Q17, Q18, Q4, Q19] 4 7 [.i 14, .str x1_0, w29 ([x0_1.1, x3_3.1] : List S28), .bool false, .bool false, .nils, .nils] [.i 14, .str x1_0, w29 ([x0_1.1, x3_3.1] : List S28), .bool false, .bool false, w9 ([] : List (List Nat)), w9 ([] : List (List Nat))] (by kernel_rfl) rfl (.cons (.cons (.cons (.cons (.cons (.nil (.nil (.refl)))))))) ?_
      refine oHp (mkH [Q16, Q17, Q18, Q4, ⟨[.i 14, .str x1_0, w29 ([x0_1.1, x3_3.1] : List S28), .bool false, .bool false, w9 ([] : List (List Nat)), w9 ([] : List (List Nat))], 7, false⟩]) ?_
      refine oK [0, 3, 4, 5] [(0, .ptr 0 4 0), (3, .ptr 2 7 0), (4, .ptr 3 7 0), (5, .ptr 4 7 0)] ?_
      exact hj10 (x3_3.2, 14, x1_0, (⟨(([x0_1.1, x3_3.1] : List S28)).length, (([x0_1.1, x3_3.1] : List S28)).flatMap e29⟩ : Raw), false, false, ([] : List (List Nat)), ([] : List (List Nat)), z9)
    ·refine oS 18 (fun hb => ?_) (fun hb => ?_)
     ·refine oLH 2 i30p13 [(0, .ptr 0 4 0), (3, .ptr 2 7 0), (4, .ptr 3 7 0), (5, .ptr 4 7 0), (7, .str x1_0)] (mkH [Q13, Q2, Q3, Q4, ⟨e29 x0_1.1, 7, false⟩]) ?_
      exact hj9 y8_2
     ·refine oLH 6 i30p4 [(0, .ptr 0 4 0), (3, .ptr 2 7 0), (4, .ptr 3 7 0), (5, .ptr 4 7 0), (10, w9 i30c0), (11, .i (i30c0.length : Int)), (12, .i (fW .i64 (y8_0 + 1)))] (mkH [Q13, Q2, Q3, Q4, ⟨e29 x0_1.1, 7, false⟩]) ?_
      exact ih (fW .i64 (y8_0 + 1)) x2_2.2 y8_2
   ·refine oH 3 i30p8 ((13, .bool false) :: E3) (mkH [Q1, Q2, Q3, Q4, ⟨e29 x0_1.1, 7, false⟩]) ?_
    refine oK [0, 3, 4, 5] [(0, .ptr 0 4 0), (3, .ptr 2 7 0), (4, .ptr 3 7 0), (5, .ptr 4 7 0)] ?_
    exact hj10 (y8_1, x0_1.1.f0, x0_1.1.f1, x0_1.1.f2, x0_1.1.f3, x0_1.1.f4, x0_1.1.f5, x0_1.1.f6, y8_2)
def qH9 (k : Nat) (F : Fns0)  (a0 : Int) (a1 : (List Nat)) (a2 : Bool) (a3 : Bool) (a4 : (List (List Nat))) (a5 : (List (List Nat))) (a6 : (List Nat)) (a7 : (List S33)) (a8 : Int) (a9 : Int) (b1 : (List S28)) (ih : Int → (List S28) → Option (Option Ri30)) : Int → (List S28) → Option (Option Ri30) :=
 fun (y7_0 : Int) (y7_1 : (List S28)) => bT (F.i5 (3 : Int) a6 a7 y7_0 a9) fun x0_1 => qMs k F ih a0 a1 a2 a3 a4 a5 a6 a7 a8 a9 b1 x0_1 k 0 x0_1.2 y7_1
def qJ9 (k : Nat) (F : Fns0)  (a0 : Int) (a1 : (List Nat)) (a2 : Bool) (a3 : Bool) (a4 : (List (List Nat))) (a5 : (List (List Nat))) (a6 : (List Nat)) (a7 : (List S33)) (a8 : Int) (a9 : Int) (b1 : (List S28)) (n : Nat) : Int → (List S28) → Option (Option Ri30) := lp (fun _ _ => none) (qH9 k F a0 a1 a2 a3 a4 a5 a6 a7 a8 a9 b1) n
theorem qMt (k : Nat) (F : Fns0) (hF : FnsOk0 F) (a0 : Int) (a1 : (List Nat)) (a2 : Bool) (a3 : Bool) (a4 : (List (List Nat))) (a5 : (List (List Nat))) (a6 : (List Nat)) (a7 : (List S33)) (a8 : Int) (a9 : Int) (b1 : (List S28))    : ∀ (n : Nat) (y7_0 : Int) (y7_1 : (List S28)), Ok (Xi30 a0 a1 a2 a3 a4 a5 a6 a7 a8 a9 b1) i30p1 [(0, .ptr 0 4 0), (3, .ptr 2 7 0), (4, .ptr 3 7 0)] (mkH [⟨[.str a6, w34 a7, .i y7_0, .i a9], 4, false⟩, ⟨(y7_1).flatMap e29, 0, false⟩, ⟨[.i a0, .str a1, .own 1 (y7_1).length 7, .bool a2, .bool a3, w9 a4, w9 a5], 7, false⟩, ⟨[.i 0, .str [], .nils, .bool false, .bool false, .nils, .nils], 0, false⟩]) (qJ9 k F a0 a1 a2 a3 a4 a5 a6 a7 a8 a9 b1 n y7_0 y7_1) := by
 intro n
 induction n with
 | zero => intro y7_0 y7_1; exact ok_none
 | succ n ih =>
  intro y7_0 y7_1
  show Ok _ _ _ _ (qH9 k F a0 a1 a2 a3 a4 a5 a6 a7 a8 a9 b1 (qJ9 k F a0 a1 a2 a3 a4 a5 a6 a7 a8 a9 b1 n) y7_0 y7_1)
  unfold qH9
  refine qAk (p' := nav [0] i30p1) (by kernel_rfl) ?_
  let Q1 : Blk := ⟨(y7_1).flatMap e29, 0, false⟩
  let Q2 : Blk := ⟨[.i a0, .str a1, .own 1 (y7_1).length 7, .bool a2, .bool a3, w9 a4, w9 a5], 7, false⟩
  let Q3 : Blk := ⟨[.i 0, .str [], .nils, .bool false, .bool false, .nils, .nils], 0, false⟩
  refine oH 4 (atN 1 (ctl1 i30p2)) [(8, .ptr 0 4 0), (0, .ptr 0 4 0), (3, .ptr 2 7 0), (4, .ptr 3 7 0)] (mkH [⟨[.str a6, w34 a7, .i y7_0, .i a9], 4, false⟩, Q1, Q2, Q3]) ?_
  refine oX (fun (x0_1 : (S28 × Int)) => n29 x0_1.1) (fun x0_1 => [⟨[.str a6, w34 a7, .i x0_1.2, .i a9], 4, false⟩, Q1, Q2, Q3]) (atN 2 (ctl1 i30p2)) 9 [0] [] [] [0, 2] [0, 1] [.ptr 0 4 0, .i 3] (hF.i5_thr (3 : Int) a6 a7 y7_0 a9) (hF.i5_ok (3 : Int) a6 a7 y7_0 a9) trivial (fun _ => trivial) ⟨u29 _, trivial⟩ fun x0_1 hx0_1 => ?_
  let Q4 : Blk := ⟨[.str a6, w34 a7, .i x0_1.2, .i a9], 4, false⟩
  refine oH 7 (atN 1 (ctl1 i30p3)) [(10, .slice 5 2 0 2 1), (5, .ptr 4 7 0), (9, n29 x0_1.1), (8, .ptr 0 4 0), (0, .ptr 0 4 0), (3, .ptr 2 7 0), (4, .ptr 3 7 0)] (mkH [Q4, Q1, Q2, Q3, ⟨e29 x0_1.1, 7, false⟩, ⟨[.str [60, 45], .str [60, 61]], 0, false⟩]) ?_
  refine oZ 10 5 2 1 [.str [60, 45], .str [60, 61]] [0, 3, 4, 5, 8, 9] [0, 1] ⟨u29 _, trivial⟩ ?_
  refine oLH 5 i30p4 [(0, .ptr 0 4 0), (3, .ptr 2 7 0), (4, .ptr 3 7 0), (5, .ptr 4 7 0), (10, w9 i30c0), (11, .i (i30c0.length : Int)), (12, .i 0)] (mkH [Q4, Q1, Q2, Q3, ⟨e29 x0_1.1, 7, false⟩, ⟨[], 0, false⟩]) ?_
  refine qAc [Q4, Q1, Q2, Q3, ⟨e29 x0_1.1, 7, false⟩] [⟨[], 0, false⟩] (by kernel_rfl) rfl (by kernel_rfl) ⟨(by kernel_rfl), ⟨(qA3 _ (u29 _)), ⟨(by kernel_rfl), ⟨(by kernel_rfl), ⟨(by kernel_rfl), trivial⟩⟩⟩⟩⟩ ?_
  exact (qMr k F hF a0 a1 a2 a3 a4 a5 a6 a7 a8 a9 b1 (qJ9 k F a0 a1 a2 a3 a4 a5 a6 a7 a8 a9 b1 n) x0_1 ih k) 0 x0_1.2 y7_1
def i30B (k : Nat) (F : Fns0) (a0 : Int) (a1 : (List Nat)) (a2 : Bool) (a3 : Bool) (a4 : (List (List Nat))) (a5 : (List (List Nat))) (a6 : (List Nat)) (a7 : (List S33)) (a8 : Int) (a9 : Int) (b1 : (List S28)) : Option (Option Ri30) :=
 qJ9 k F a0 a1 a2 a3 a4 a5 a6 a7 a8 a9 b1 k a8 b1
theorem qJa (k : Nat) (F : Fns0) (hF : FnsOk0 F) (a0 : Int) (a1 : (List Nat)) (a2 : Bool) (a3 : Bool) (a4 : (List (List Nat))) (a5 : (List (List Nat))) (a6 : (List Nat)) (a7 : (List S33)) (a8 : Int) (a9 : Int) (b1 : (List S28)) (r : (Option Ri30)) (h : i30B k F a0 a1 a2 a3 a4 a5 a6 a7 a8 a9 b1 = some r) : CallT Try.prog 94 [.ptr 0 4 0, .agg [.i a0, .str a1, .own 1 (b1).length 7, .bool a2, .bool a3, w9 a4, w9 a5]] (mkH [⟨[.str a6, w34 a7, .i a8, .i a9], 4, false⟩, ⟨(b1).flatMap e29, 0, false⟩]) ((Xi30 a0 a1 a2 a3 a4 a5 a6 a7 a8 a9 b1).thr r) ((Xi30 a0 a1 a2 a3 a4 a5 a6 a7 a8 a9 b1).enc r) ((Xi30 a0 a1 a2 a3 a4 a5 a6 a7 a8 a9 b1).fin r) := by
 refine qA2 (Xi30 a0 a1 a2 a3 a4 a5 a6 a7 a8 a9 b1) Try.func94 (by kernel_rfl) (by kernel_rfl) rfl (t := i30B k F a0 a1 a2 a3 a4 a5 a6 a7 a8 a9 b1) ?_ h
 unfold i30B
 refine qA0 (eE := [(0, .ptr 0 4 0), (1, .agg [.i a0, .str a1, .own 1 (b1).length 7, .bool a2, .bool a3, w9 a4, w9 a5])]) (by kernel_rfl) ?_
 let Q1 : Blk := ⟨[.str a6, w34 a7, .i a8, .i a9], 4, false⟩
 let Q2 : Blk := ⟨(b1).flatMap e29, 0, false⟩
 let Q3 : Blk := ⟨[.i a0, .str a1, .own 1 (b1).length 7, .bool a2, .bool a3, w9 a4, w9 a5], 0, false⟩
 let Q4 : Blk := ⟨[.i 0, .str [], .nils, .bool false, .bool false, .nils, .nils], 0, false⟩
 refine oLH 7 i30p1 [(0, .ptr 0 4 0), (3, .ptr 2 7 0), (4, .ptr 3 7 0)] (mkH [Q1, Q2, Q3, Q4]) ?_
 refine qLl [Q1, Q2, Q3, Q4] 2 [.i a0, .str a1, .own 1 (b1).length 7, .bool a2, .bool a3, w9 a4, w9 a5] 0 7 rfl rfl (by decide) ?_
 refine oHp (mkH [Q1, Q2, ⟨[.i a0, .str a1, .own 1 (b1).length 7, .bool a2, .bool a3, w9 a4, w9 a5], 7, false⟩, Q4]) ?_
 exact (qMt k F hF a0 a1 a2 a3 a4 a5 a6 a7 a8 a9 b1 k) a8 b1
theorem i30B_ok (k : Nat) (F : Fns0) (hF : FnsOk0 F) : Pi30 (i30B k F) := fun a0 a1 a2 a3 a4 a5 a6 a7 a8 a9 b1 x h => qJa k F hF a0 a1 a2 a3 a4 a5 a6 a7 a8 a9 b1 (some x) h
theorem i30B_thr (k : Nat) (F : Fns0) (hF : FnsOk0 F) : Qi30 (i30B k F) := fun a0 a1 a2 a3 a4 a5 a6 a7 a8 a9 b1 h => ⟨_, qJa k F hF a0 a1 a2 a3 a4 a5 a6 a7 a8 a9 b1 none h⟩
def Xi31 (a0 : (List Nat)) (a1 : (List S33)) (a2 : Int) (a3 : Int) : Fx (Option (S28 × Int)) := ⟨Try.prog, cx, Try.f80, fun r => match r with | some r => .agg [.i r.1.f0, .str r.1.f1, q29 r.1.f2, .bool r.1.f3, .bool r.1.f4, w9 r.1.f5, w9 r.1.f6] | none => .top, 1, fun r => match r with | some r => (mkH [⟨[.str a0, w34 a1, .i r.2, .i a3], 4, false⟩]) | none => (mkH [⟨[.str a0, w34 a1, .i a2, .i a3], 4, false⟩]), cxTi, cxOrd, fun r => match r with | some _ => none | none => some (thrown, [0]), false⟩
def i31p0 : Pt := nav [0] (bodyAt Try.f80)
def i31p1 : Pt := nav [0, 0, 0] i31p0
def i31p2 : Pt := nav [0, 0, 0, 0] i31p1
def i31p3 : Pt := nav [0, 0, 0, 0] i31p2
def i31p4 : Pt := nav [0, 0] i31p3
def i31p5 : Pt := nav [1, 0] i31p4
def i31p6 : Pt := nav [2, 0] i31p4
def i31p7 : Pt := nav [0, 0] i31p5
def i31p8 : Pt := nav [0, 0] i31p6
def i31p9 : Pt := nav [0, 0, 0] i31p7
def i31p10 : Pt := nav [1] i31p8
def i31p11 : Pt := nav [2, 0] i31p8
def i31p12 : Pt := nav [0, 0, 0, 0] i31p9
def i31p13 : Pt := nav [0, 0] i31p11
def i31p14 : Pt := nav [0, 0] i31p12
def i31p15 : Pt := nav [1] i31p14
def i31p16 : Pt := nav [2, 0, 0, 0] i31p14
def i31p17 : Pt := nav [0, 0] i31p16
def i31p18 : Pt := nav [1, 0] i31p17
def i31p19 : Pt := nav [2, 0, 0, 0] i31p17
def i31p20 : Pt := nav [0, 0, 0, 0] i31p18
def i31p21 : Pt := nav [0, 0] i31p19
def i31p22 : Pt := nav [0, 0, 0] i31p20
def i31p24 : Pt := nav [2, 0, 0] i31p21
def i31p25 : Pt := nav [0, 0] i31p22
def i31p27 : Pt := nav [1, 0, 0] i31p25
def qFe (k : Nat) (F : Fns0) (c16 : (List Nat) × Int → Option (Option (S28 × Int))) (a0 : (List Nat)) (a1 : (List S33)) (a3 : Int) (z13 : Int × Int × (List Nat) × Raw × Bool × Bool × (List (List Nat)) × (List (List Nat))) (ih : (List Nat) → Int → Option (Option (S28 × Int))) : (List Nat) → Int → Option (Option (S28 × Int)) :=
 fun (y15_0 : (List Nat)) (y15_1 : Int) => bT (i7 k ([45] : List Nat) a0 a1 y15_1 a3) fun x11_1 => if x11_1.1 then ((catS y15_0 ([45] : List Nat)).bind fun x12_1 => bT (i33 k ([(1 : Int)] : List Int) a0 a1 x11_1.2 a3) fun x12_4 => (catS x12_1 x12_4.1).bind fun x12_5 => ih x12_5 x12_4.2) else (c16 (y15_0, x11_1.2))
def qH7 (k : Nat) (F : Fns0) (c16 : (List Nat) × Int → Option (Option (S28 × Int))) (a0 : (List Nat)) (a1 : (List S33)) (a3 : Int) (z13 : Int × Int × (List Nat) × Raw × Bool × Bool × (List (List Nat)) × (List (List Nat))) (n : Nat) : (List Nat) → Int → Option (Option (S28 × Int)) := lp (fun _ _ => none) (qFe k F c16 a0 a1 a3 z13) n
theorem qKi (k : Nat) (F : Fns0) (hF : FnsOk0 F) (a0 : (List Nat)) (a1 : (List S33)) (a2 : Int) (a3 : Int) (c16 : (List Nat) × Int → Option (Option (S28 × Int))) (z13 : Int × Int × (List Nat) × Raw × Bool × Bool × (List (List Nat)) × (List (List Nat))) (hc16 : ∀ z16 : (List Nat) × Int, Ok (Xi31 a0 a1 a2 a3) i31p19 ((fun (z16 : (List Nat) × Int) => [(2, .ptr 1 7 0), (3, .ptr 2 7 0), (5, .str z16.1)]) z16) ((fun (z16 : (List Nat) × Int) => (mkH [⟨[.str a0, w34 a1, .i z16.2, .i a3], 4, false⟩, ⟨[.i 0, .str [], .nils, .bool false, .bool false, .nils, .nils], 0, false⟩, ⟨[.i z13.2.1, .str z13.2.2.1, q29 z13.2.2.2.1, .bool z13.2.2.2.2.1, .bool z13.2.2.2.2.2.1, w9 z13.2.2.2.2.2.2.1, w9 z13.2.2.2.2.2.2.2], 7, false⟩])) z16) (c16 z16)) : ∀ (n : Nat) (y15_0 : (List Nat)) (y15_1 : Int), Ok (Xi31 a0 a1 a2 a3) i31p20 [(0, .ptr 0 4 0), (2, .ptr 1 7 0), (3, .ptr 2 7 0), (5, .str y15_0)] (mkH [⟨[.str a0, w34 a1, .i y15_1, .i a3], 4, false⟩, ⟨[.i 0, .str [], .nils, .bool false, .bool false, .nils, .nils], 0, false⟩, ⟨[.i z13.2.1, .str z13.2.2.1, q29 z13.2.2.2.1, .bool z13.2.2.2.2.1, .bool z13.2.2.2.2.2.1, w9 z13.2.2.2.2.2.2.1, w9 z13.2.2.2.2.2.2.2], 7, false⟩]) (qH7 k F c16 a0 a1 a3 z13 n y15_0 y15_1) := by
 intro n
 induction n with
 | zero => intro y15_0 y15_1; exact ok_none
 | succ n ih =>
  intro y15_0 y15_1
  show Ok _ _ _ _ (qFe k F c16 a0 a1 a3 z13 (qH7 k F c16 a0 a1 a3 z13 n) y15_0 y15_1)
  unfold qFe
  refine qAk (p' := nav [0] i31p20) (by kernel_rfl) ?_
  let E8 : Env := [(42, .ptr 0 4 0), (0, .ptr 0 4 0), (2, .ptr 1 7 0), (3, .ptr 2 7 0), (5, .str y15_0)]
  let Q1 : Blk := ⟨[.i 0, .str [], .nils, .bool false, .bool false, .nils, .nils], 0, false⟩
  let Q2 : Blk := ⟨[.i z13.2.1, .str z13.2.2.1, q29 z13.2.2.2.1, .bool z13.2.2.2.2.1, .bool z13.2.2.2.2.2.1, w9 z13.2.2.2.2.2.2.1, w9 z13.2.2.2.2.2.2.2], 7, false⟩
  refine oH 4 (atN 1 (ctl1 i31p22)) E8 (mkH [⟨[.str a0, w34 a1, .i y15_1, .i a3], 4, false⟩, Q1, Q2]) ?_
  refine oX (fun (x11_1 : (Bool × Int)) => .bool x11_1.1) (fun x11_1 => [⟨[.str a0, w34 a1, .i x11_1.2, .i a3], 4, false⟩, Q1, Q2]) (atN 2 (ctl1 i31p22)) 43 [0] [] [] [] [] [.ptr 0 4 0, .str [45]] (qAb k ([45] : List Nat) a0 a1 y15_1 a3) (qAi k ([45] : List Nat) a0 a1 y15_1 a3) trivial (fun _ => trivial) trivial fun x11_1 hx11_1 => ?_
  refine oR 1 i31p25 ((43, .bool x11_1.1) :: E8) ?_
  refine oS 43 (fun hb => ?_) (fun hb => ?_)
  ·refine oR 5 (atN 1 (ctl1 i31p27)) ((44, .str y15_0) :: (43, .bool true) :: (43, .bool x11_1.1) :: E8) ?_
   let Q3 : Blk := ⟨[.str a0, w34 a1, .i x11_1.2, .i a3], 4, false⟩
   refine oC (fun (x12_1 : (List Nat)) => (.str x12_1, (mkH [Q3, Q1, Q2]))) (atN 2 (ctl1 i31p27)) 45 (catH (by kernel_rfl)) fun x12_1 hx12_1 => ?_
   refine oH 2 (atN 4 (ctl1 i31p27)) ((47, .slice 3 1 0 1 1) :: (46, .ptr 0 4 0) :: (45, .str x12_1) :: (44, .str y15_0) :: (43, .bool true) :: (43, .bool x11_1.1) :: E8) (mkH [Q3, Q1, Q2, ⟨[.i 1], 0, false⟩]) ?_
   refine oZ 47 3 1 1 [.i 1] [0, 2, 3, 5, 42, 43, 44, 45, 46] [] trivial ?_
   refine oE [(47, w3 ([(1 : Int)] : List Int)), (0, .ptr 0 4 0), (2, .ptr 1 7 0), (3, .ptr 2 7 0), (5, .str y15_0), (42, .ptr 0 4 0), (43, .bool true), (44, .str y15_0), (45, .str x12_1), (46, .ptr 0 4 0)] ?_
   refine oHp (mkH [Q3, Q1, Q2, ⟨[], 0, false⟩]) ?_
   refine oX (fun (x12_4 : Ri33) => .str x12_4.1) (fun x12_4 => [⟨[.str a0, w34 a1, .i x12_4.2, .i a3], 4, false⟩, Q1, Q2, ⟨[], 0, false⟩]) (atN 5 (ctl1 i31p27)) 48 [0] [] [] [] [] [.ptr 0 4 0, w3 ([(1 : Int)] : List Int)] (qE k ([(1 : Int)] : List Int) a0 a1 x11_1.2 a3) (qGd k ([(1 : Int)] : List Int) a0 a1 x11_1.2 a3) trivial (fun _ => trivial) trivial fun x12_4 hx12_4 => ?_
   let Q4 : Blk := ⟨[.str a0, w34 a1, .i x12_4.2, .i a3], 4, false⟩
   refine oC (fun (x12_5 : (List Nat)) => (.str x12_5, (mkH [Q4, Q1, Q2, ⟨[], 0, false⟩]))) (atN 6 (ctl1 i31p27)) 49 (catH (by kernel_rfl)) fun x12_5 hx12_5 => ?_
   refine oLH 2 i31p20 [(0, .ptr 0 4 0), (2, .ptr 1 7 0), (3, .ptr 2 7 0), (5, .str x12_5)] (mkH [Q4, Q1, Q2, ⟨[], 0, false⟩]) ?_
   refine qAc [Q4, Q1, Q2] [⟨[], 0, false⟩] (by kernel_rfl) rfl (by kernel_rfl) ⟨(by kernel_rfl), ⟨(by kernel_rfl), ⟨(by kernel_rfl), trivial⟩⟩⟩ ?_
   exact ih x12_5 x12_4.2
  ·refine oL 4 i31p19 [(2, .ptr 1 7 0), (3, .ptr 2 7 0), (5, .str y15_0)] ?_
   exact hc16 (y15_0, x11_1.2)
def i31B (k : Nat) (F : Fns0) (a0 : (List Nat)) (a1 : (List S33)) (a2 : Int) (a3 : Int) : Option (Option (S28 × Int)) :=
 (i9 k a0 a1 a2 a3).bind fun x0_1 => (g75 k x0_1.f0).bind fun x1_2 => jn (fun (z13 : Int × Int × (List Nat) × Raw × Bool × Bool × (List (List Nat)) × (List (List Nat))) => bT (i7 k ([58] : List Nat) a0 a1 z13.1 a3) fun x7_1 => jn (fun (z14 : (List Nat) × Int) => bT (i7 k ([47] : List Nat) a0 a1 z14.2 a3) fun x9_1 => jn (fun (z16 : (List Nat) × Int) => if (eqL z16.1 []) then (some (some ((⟨z13.2.1, z13.2.2.1, z13.2.2.2.1, z13.2.2.2.2.1, z13.2.2.2.2.2.1, z13.2.2.2.2.2.2.1, z13.2.2.2.2.2.2.2⟩ : S28), z16.2))) else (some (some ((⟨(7 : Int), z16.1, ⟨(([(⟨z13.2.1, z13.2.2.1, z13.2.2.2.1, z13.2.2.2.2.1, z13.2.2.2.2.2.1, z13.2.2.2.2.2.2.1, z13.2.2.2.2.2.2.2⟩ : S28)] : List S28)).length, (([(⟨z13.2.1, z13.2.2.1, z13.2.2.2.1, z13.2.2.2.2.1, z13.2.2.2.2.2.1, z13.2.2.2.2.2.2.1, z13.2.2.2.2.2.2.2⟩ : S28)] : List S28)).flatMap e29⟩, false, false, ([] : List (List Nat)), ([] : List (List Nat))⟩ : S28), z16.2)))) (fun j16 => if x9_1.1 then ((catS z14.1 ([47] : List Nat)).bind fun x10_1 => bT (i33 k ([(1 : Int)] : List Int) a0 a1 x9_1.2 a3) fun x10_4 => (catS x10_1 x10_4.1).bind fun x10_5 => qH7 k F j16 a0 a1 a3 z13 k x10_5 x10_4.2) else (j16 (z14.1, x9_1.2)))) (fun j14 => if x7_1.1 then (bT (i39 k a0 a1 x7_1.2 a3) fun x8_1 => (catS ([58] : List Nat) x8_1.1).bind fun x8_2 => j14 (x8_2, x8_1.2)) else (j14 (([] : List Nat), x7_1.2)))) (fun j13 => if x1_2 then (bT (i11 k a0 a1 a2 a3) fun x2_1 => j13 (x2_1, 1, x0_1.f1, (⟨(([] : List S28)).length, (([] : List S28)).flatMap e29⟩ : Raw), false, false, ([] : List (List Nat)), ([] : List (List Nat)))) else (bT (i7 k ([40] : List Nat) a0 a1 a2 a3) fun x3_1 => if x3_1.1 then (bT (F.i17 a0 a1 x3_1.2 a3) fun x4_1 => j13 (x4_1.2, x4_1.1.f0, x4_1.1.f1, x4_1.1.f2, x4_1.1.f3, x4_1.1.f4, x4_1.1.f5, x4_1.1.f6)) else (bT (i23 k ([60, 60] : List Nat) a0 a1 x3_1.2 a3) fun x5_1 => bT (F.i20 (6 : Int) ([] : List Nat) false false ([] : List (List Nat)) ([] : List (List Nat)) ([62, 62] : List Nat) a0 a1 x5_1 a3 ([] : List S28)) fun x6_4 => j13 (x6_4.2.2.2.2.2.2.1, x6_4.1, x6_4.2.1, (⟨(x6_4.2.2.2.2.2.2.2).length, (x6_4.2.2.2.2.2.2.2).flatMap e29⟩ : Raw), x6_4.2.2.1, x6_4.2.2.2.1, x6_4.2.2.2.2.1, x6_4.2.2.2.2.2.1))))
theorem qJ8 (k : Nat) (F : Fns0) (hF : FnsOk0 F) (a0 : (List Nat)) (a1 : (List S33)) (a2 : Int) (a3 : Int) (r : (Option (S28 × Int))) (h : i31B k F a0 a1 a2 a3 = some r) : CallT Try.prog 80 [.ptr 0 4 0] (mkH [⟨[.str a0, w34 a1, .i a2, .i a3], 4, false⟩]) ((Xi31 a0 a1 a2 a3).thr r) ((Xi31 a0 a1 a2 a3).enc r) ((Xi31 a0 a1 a2 a3).fin r) := by
 refine qA2 (Xi31 a0 a1 a2 a3) Try.func80 (by kernel_rfl) (by kernel_rfl) rfl (t := i31B k F a0 a1 a2 a3) ?_ h
 unfold i31B
 refine qA0 (eE := [(0, .ptr 0 4 0)]) (by kernel_rfl) ?_
 let Q1 : Blk := ⟨[.str a0, w34 a1, .i a2, .i a3], 4, false⟩
 let Q2 : Blk := ⟨[.i 0, .str [], .nils, .bool false, .bool false, .nils, .nils], 0, false⟩
 refine oH 12 (atN 1 (ctl1 i31p2)) [(6, .ptr 0 4 0), (3, .ptr 2 7 0), (2, .ptr 1 7 0), (0, .ptr 0 4 0)] (mkH [Q1, Q2, Q2]) ?_
 refine oN (fun (x0_1 : S33) => n34 x0_1) (fun x0_1 => [Q1, Q2, Q2]) (atN 2 (ctl1 i31p2)) 7 [0] [] [] [.ptr 0 4 0] (qKh k a0 a1 a2 a3) trivial (fun _ => trivial) fun x0_1 hx0_1 => ?_
 let E1 : Env := [(17, .i x0_1.f0), (16, .ptr 3 3 0), (4, .ptr 3 3 0), (7, n34 x0_1), (6, .ptr 0 4 0), (3, .ptr 2 7 0), (2, .ptr 1 7 0), (0, .ptr 0 4 0)]
 refine oH 8 (atN 2 (ctl1 i31p3)) E1 (mkH [Q1, Q2, Q2, ⟨e34 x0_1, 3, false⟩]) ?_
 refine oA (fun (x1_2 : Bool) => .bool x1_2) (atN 3 (ctl1 i31p3)) 18 [.i x0_1.f0] (g75_ok k x0_1.f0) fun x1_2 hx1_2 => ?_
 refine oR 2 i31p4 ((15, .bool x1_2) :: (18, .bool x1_2) :: E1) ?_
 refine oJ i31p9 (fun (z13 : Int × Int × (List Nat) × Raw × Bool × Bool × (List (List Nat)) × (List (List Nat))) => [(0, .ptr 0 4 0), (2, .ptr 1 7 0), (3, .ptr 2 7 0)]) (fun (z13 : Int × Int × (List Nat) × Raw × Bool × Bool × (List (List Nat)) × (List (List Nat))) => (mkH [⟨[.str a0, w34 a1, .i z13.1, .i a3], 4, false⟩, Q2, ⟨[.i z13.2.1, .str z13.2.2.1, q29 z13.2.2.2.1, .bool z13.2.2.2.2.1, .bool z13.2.2.2.2.2.1, w9 z13.2.2.2.2.2.2.1, w9 z13.2.2.2.2.2.2.2], 7, false⟩])) (fun z13 => ?_) (fun j13 hj13 => ?_)
 ·let E2 : Env := [(29, .ptr 0 4 0), (5, .str []), (0, .ptr 0 4 0), (2, .ptr 1 7 0), (3, .ptr 2 7 0)]
  let Q3 : Blk := ⟨[.i z13.2.1, .str z13.2.2.1, q29 z13.2.2.2.1, .bool z13.2.2.2.2.1, .bool z13.2.2.2.2.2.1, w9 z13.2.2.2.2.2.2.1, w9 z13.2.2.2.2.2.2.2], 7, false⟩
  refine oH 7 (atN 1 (ctl1 i31p12)) E2 (mkH [⟨[.str a0, w34 a1, .i z13.1, .i a3], 4, false⟩, Q2, Q3]) ?_
  refine oX (fun (x7_1 : (Bool × Int)) => .bool x7_1.1) (fun x7_1 => [⟨[.str a0, w34 a1, .i x7_1.2, .i a3], 4, false⟩, Q2, Q3]) (atN 2 (ctl1 i31p12)) 30 [0] [] [] [] [] [.ptr 0 4 0, .str [58]] (qAb k ([58] : List Nat) a0 a1 z13.1 a3) (qAi k ([58] : List Nat) a0 a1 z13.1 a3) trivial (fun _ => trivial) trivial fun x7_1 hx7_1 => ?_
  refine oR 1 i31p14 ((30, .bool x7_1.1) :: E2) ?_
  refine oJ i31p16 (fun (z14 : (List Nat) × Int) => [(0, .ptr 0 4 0), (2, .ptr 1 7 0), (3, .ptr 2 7 0), (5, .str z14.1)]) (fun (z14 : (List Nat) × Int) => (mkH [⟨[.str a0, w34 a1, .i z14.2, .i a3], 4, false⟩, Q2, Q3])) (fun z14 => ?_) (fun j14 hj14 => ?_)
  ·let E3 : Env := [(34, .ptr 0 4 0), (0, .ptr 0 4 0), (2, .ptr 1 7 0), (3, .ptr 2 7 0), (5, .str z14.1)]
   refine oH 2 (atN 1 (ctl1 i31p16)) E3 (mkH [⟨[.str a0, w34 a1, .i z14.2, .i a3], 4, false⟩, Q2, Q3]) ?_
   refine oX (fun (x9_1 : (Bool × Int)) => .bool x9_1.1) (fun x9_1 => [⟨[.str a0, w34 a1, .i x9_1.2, .i a3], 4, false⟩, Q2, Q3]) (atN 2 (ctl1 i31p16)) 35 [0] [] [] [] [] [.ptr 0 4 0, .str [47]] (qAb k ([47] : List Nat) a0 a1 z14.2 a3) (qAi k ([47] : List Nat) a0 a1 z14.2 a3) trivial (fun _ => trivial) trivial fun x9_1 hx9_1 => ?_
   refine oR 1 i31p17 ((35, .bool x9_1.1) :: E3) ?_
   refine oJ i31p19 (fun (z16 : (List Nat) × Int) => [(2, .ptr 1 7 0), (3, .ptr 2 7 0), (5, .str z16.1)]) (fun (z16 : (List Nat) × Int) => (mkH [⟨[.str a0, w34 a1, .i z16.2, .i a3], 4, false⟩, Q2, Q3])) (fun z16 => ?_) (fun j16 hj16 => ?_)
   ·let E4 : Env := [(51, .bool (eqL z16.1 [])), (50, .str z16.1), (2, .ptr 1 7 0), (3, .ptr 2 7 0), (5, .str z16.1)]
    let Q4 : Blk := ⟨[.str a0, w34 a1, .i z16.2, .i a3], 4, false⟩
    refine oH 4 i31p21 E4 (mkH [Q4, Q2, Q3]) ?_
    refine oS 51 (fun hb => ?_) (fun hb => ?_)
    ·exact oQF 7 [Q4, Q3, Q3] 1 [] [.agg [.i z13.2.1, .str z13.2.2.1, q29 z13.2.2.2.1, .bool z13.2.2.2.2.1, .bool z13.2.2.2.2.2.1, w9 z13.2.2.2.2.2.2.1, w9 z13.2.2.2.2.2.2.2]] (.agg [.i z13.2.1, .str z13.2.2.1, q29 z13.2.2.2.1, .bool z13.2.2.2.2.1, .bool z13.2.2.2.2.2.1, w9 z13.2.2.2.2.2.2.1, w9 z13.2.2.2.2.2.2.2]) .ps trivial
    ·refine oH 7 (atN 3 (ctl1 i31p24)) ((55, .slice 3 7 0 1 7) :: (54, .agg [.i z13.2.1, .str z13.2.2.1, q29 z13.2.2.2.1, .bool z13.2.2.2.2.1, .bool z13.2.2.2.2.2.1, w9 z13.2.2.2.2.2.2.1, w9 z13.2.2.2.2.2.2.2]) :: (53, .str z16.1) :: (51, .bool false) :: E4) (mkH [Q4, Q2, Q3, ⟨[.i z13.2.1, .str z13.2.2.1, q29 z13.2.2.2.1, .bool z13.2.2.2.2.1, .bool z13.2.2.2.2.2.1, w9 z13.2.2.2.2.2.2.1, w9 z13.2.2.2.2.2.2.2], 0, false⟩]) ?_
     refine oZ 55 3 1 7 [.i z13.2.1, .str z13.2.2.1, q29 z13.2.2.2.1, .bool z13.2.2.2.2.1, .bool z13.2.2.2.2.2.1, w9 z13.2.2.2.2.2.2.1, w9 z13.2.2.2.2.2.2.2] [2, 3, 5, 50, 51, 53, 54] [] trivial ?_
     exact oQF 4 [Q4, ⟨[.i 7, .str z16.1, w29 ([(⟨z13.2.1, z13.2.2.1, z13.2.2.2.1, z13.2.2.2.2.1, z13.2.2.2.2.2.1, z13.2.2.2.2.2.2.1, z13.2.2.2.2.2.2.2⟩ : S28)] : List S28), .bool false, .bool false, .nils, .nils], 7, false⟩, Q3, ⟨[], 0, false⟩] 1 [] [.agg [.i 7, .str z16.1, w29 ([(⟨z13.2.1, z13.2.2.1, z13.2.2.2.1, z13.2.2.2.2.1, z13.2.2.2.2.2.1, z13.2.2.2.2.2.2.1, z13.2.2.2.2.2.2.2⟩ : S28)] : List S28), .bool false, .bool false, .nils, .nils]] (.agg [.i 7, .str z16.1, w29 ([(⟨z13.2.1, z13.2.2.1, z13.2.2.2.1, z13.2.2.2.2.1, z13.2.2.2.2.2.1, z13.2.2.2.2.2.2.1, z13.2.2.2.2.2.2.2⟩ : S28)] : List S28), .bool false, .bool false, .vec 0 1 [], .vec 0 1 []]) (.agg (.cs (.cs (.cs (.cs (.cs (.nil (.nil .ps))))))) .ps) trivial
   ·refine oS 35 (fun hb => ?_) (fun hb => ?_)
    ·let Q5 : Blk := ⟨[.str a0, w34 a1, .i x9_1.2, .i a3], 4, false⟩
     refine oH 4 (atN 1 (ctl1 i31p18)) ((36, .str z14.1) :: (35, .bool true) :: (35, .bool x9_1.1) :: E3) (mkH [Q5, Q2, Q3]) ?_
     refine oC (fun (x10_1 : (List Nat)) => (.str x10_1, (mkH [Q5, Q2, Q3]))) (atN 2 (ctl1 i31p18)) 37 (catH (by kernel_rfl)) fun x10_1 hx10_1 => ?_
     refine oH 2 (atN 4 (ctl1 i31p18)) ((39, .slice 3 1 0 1 1) :: (38, .ptr 0 4 0) :: (37, .str x10_1) :: (36, .str z14.1) :: (35, .bool true) :: (35, .bool x9_1.1) :: E3) (mkH [Q5, Q2, Q3, ⟨[.i 1], 0, false⟩]) ?_
     refine oZ 39 3 1 1 [.i 1] [0, 2, 3, 5, 34, 35, 36, 37, 38] [] trivial ?_
     refine oE [(39, w3 ([(1 : Int)] : List Int)), (0, .ptr 0 4 0), (2, .ptr 1 7 0), (3, .ptr 2 7 0), (5, .str z14.1), (34, .ptr 0 4 0), (35, .bool true), (36, .str z14.1), (37, .str x10_1), (38, .ptr 0 4 0)] ?_
     refine oHp (mkH [Q5, Q2, Q3, ⟨[], 0, false⟩]) ?_
     refine oX (fun (x10_4 : Ri33) => .str x10_4.1) (fun x10_4 => [⟨[.str a0, w34 a1, .i x10_4.2, .i a3], 4, false⟩, Q2, Q3, ⟨[], 0, false⟩]) (atN 5 (ctl1 i31p18)) 40 [0] [] [] [] [] [.ptr 0 4 0, w3 ([(1 : Int)] : List Int)] (qE k ([(1 : Int)] : List Int) a0 a1 x9_1.2 a3) (qGd k ([(1 : Int)] : List Int) a0 a1 x9_1.2 a3) trivial (fun _ => trivial) trivial fun x10_4 hx10_4 => ?_
     let Q6 : Blk := ⟨[.str a0, w34 a1, .i x10_4.2, .i a3], 4, false⟩
     refine oC (fun (x10_5 : (List Nat)) => (.str x10_5, (mkH [Q6, Q2, Q3, ⟨[], 0, false⟩]))) (atN 6 (ctl1 i31p18)) 41 (catH (by kernel_rfl)) fun x10_5 hx10_5 => ?_
     refine oLH 4 i31p20 [(0, .ptr 0 4 0), (2, .ptr 1 7 0), (3, .ptr 2 7 0), (5, .str x10_5)] (mkH [Q6, Q2, Q3, ⟨[], 0, false⟩]) ?_
     refine qAc [Q6, Q2, Q3] [⟨[], 0, false⟩] (by kernel_rfl) rfl (by kernel_rfl) ⟨(by kernel_rfl), ⟨(by kernel_rfl), ⟨(by kernel_rfl), trivial⟩⟩⟩ ?_
     exact (qKi k F hF a0 a1 a2 a3 j16 z13 hj16 k) x10_5 x10_4.2
    ·refine oLH 4 i31p19 [(2, .ptr 1 7 0), (3, .ptr 2 7 0), (5, .str z14.1)] (mkH [⟨[.str a0, w34 a1, .i x9_1.2, .i a3], 4, false⟩, Q2, Q3]) ?_
     exact hj16 (z14.1, x9_1.2)
  ·refine oS 30 (fun hb => ?_) (fun hb => ?_)
   ·refine oH 3 (atN 1 (ctl1 i31p15)) ((31, .ptr 0 4 0) :: (30, .bool true) :: (30, .bool x7_1.1) :: E2) (mkH [⟨[.str a0, w34 a1, .i x7_1.2, .i a3], 4, false⟩, Q2, Q3]) ?_
    refine oX (fun (x8_1 : Ri39) => .str x8_1.1) (fun x8_1 => [⟨[.str a0, w34 a1, .i x8_1.2, .i a3], 4, false⟩, Q2, Q3]) (atN 2 (ctl1 i31p15)) 32 [0] [] [] [] [] [.ptr 0 4 0] (qMl k a0 a1 x7_1.2 a3) (i39_ok k a0 a1 x7_1.2 a3) trivial (fun _ => trivial) trivial fun x8_1 hx8_1 => ?_
    let Q7 : Blk := ⟨[.str a0, w34 a1, .i x8_1.2, .i a3], 4, false⟩
    refine oC (fun (x8_2 : (List Nat)) => (.str x8_2, (mkH [Q7, Q2, Q3]))) (atN 3 (ctl1 i31p15)) 33 (catH (by kernel_rfl)) fun x8_2 hx8_2 => ?_
    refine oLH 4 i31p16 [(0, .ptr 0 4 0), (2, .ptr 1 7 0), (3, .ptr 2 7 0), (5, .str x8_2)] (mkH [Q7, Q2, Q3]) ?_
    exact hj14 (x8_2, x8_1.2)
   ·refine oLH 4 i31p16 [(0, .ptr 0 4 0), (2, .ptr 1 7 0), (3, .ptr 2 7 0), (5, .str [])] (mkH [⟨[.str a0, w34 a1, .i x7_1.2, .i a3], 4, false⟩, Q2, Q3]) ?_
    exact hj14 (([] : List Nat), x7_1.2)
 ·refine oS 15 (fun hb => ?_) (fun hb => ?_)
  ·refine oH 4 (atN 1 (ctl1 i31p5)) ((19, .ptr 0 4 0) :: (15, .bool true) :: (15, .bool x1_2) :: (18, .bool x1_2) :: E1) (mkH [Q1, Q2, Q2, ⟨e34 x0_1, 3, false⟩]) ?_
   refine oX (fun (x2_1 : Int) => .tuple []) (fun x2_1 => [⟨[.str a0, w34 a1, .i x2_1, .i a3], 4, false⟩, Q2, Q2, ⟨e34 x0_1, 3, false⟩]) (atN 2 (ctl1 i31p5)) 20 [0] [] [] [] [] [.ptr 0 4 0] (qD6 k a0 a1 a2 a3) (qEo k a0 a1 a2 a3) trivial (fun _ => trivial) trivial fun x2_1 hx2_1 => ?_
   let E19 : Env := [(0, .ptr 0 4 0), (2, .ptr 1 7 0), (3, .ptr 2 7 0), (4, .ptr 3 3 0)]
   refine oL 1 i31p7 E19 ?_
   let Q8 : Blk := ⟨[.str a0, w34 a1, .i x2_1, .i a3], 4, false⟩
   let Q9 : Blk := ⟨[.i 1, .str x0_1.f1, .nils, .bool false, .bool false, .nils, .nils], 7, false⟩
   refine oH 7 i31p9 ((23, .agg [.i 1, .str x0_1.f1, .nils, .bool false, .bool false, .nils, .nils]) :: (22, .str x0_1.f1) :: (21, .ptr 3 3 1) :: E19) (mkH [Q8, Q2, Q9, ⟨e34 x0_1, 3, false⟩]) ?_
   refine qCt [Q8, Q2, Q9, ⟨e34 x0_1, 3, false⟩] 2 7 [.i 1, .str x0_1.f1, .nils, .bool false, .bool false, .nils, .nils] [.i 1, .str x0_1.f1, w29 ([] : List S28), .bool false, .bool false, w9 ([] : List (List Nat)), w9 ([] : List (List Nat))] (by kernel_rfl) rfl (.cons (.cons (.nil (.cons (.cons (.nil (.nil (.refl)))))))) ?_
   let Q10 : Blk := ⟨[.i 1, .str x0_1.f1, w29 ([] : List S28), .bool false, .bool false, w9 ([] : List (List Nat)), w9 ([] : List (List Nat))], 7, false⟩
   refine oHp (mkH [Q8, Q2, Q10, ⟨e34 x0_1, 3, false⟩]) ?_
   refine oK [0, 2, 3] [(0, .ptr 0 4 0), (2, .ptr 1 7 0), (3, .ptr 2 7 0)] ?_
   refine qAc [Q8, Q2, Q10] [⟨e34 x0_1, 3, false⟩] (by kernel_rfl) rfl (by kernel_rfl) ⟨(by kernel_rfl), ⟨(by kernel_rfl), ⟨(by kernel_rfl), trivial⟩⟩⟩ ?_
   exact hj13 (x2_1, 1, x0_1.f1, (⟨(([] : List S28)).length, (([] : List S28)).flatMap e29⟩ : Raw), false, false, ([] : List (List Nat)), ([] : List (List Nat)))
  ·refine oH 4 (atN 1 (ctl1 i31p6)) ((25, .ptr 0 4 0) :: (15, .bool false) :: (15, .bool x1_2) :: (18, .bool x1_2) :: E1) (mkH [Q1, Q2, Q2, ⟨e34 x0_1, 3, false⟩]) ?_
   refine oX (fun (x3_1 : (Bool × Int)) => .bool x3_1.1) (fun x3_1 => [⟨[.str a0, w34 a1, .i x3_1.2, .i a3], 4, false⟩, Q2, Q2, ⟨e34 x0_1, 3, false⟩]) (atN 2 (ctl1 i31p6)) 26 [0] [] [] [] [] [.ptr 0 4 0, .str [40]] (qAb k ([40] : List Nat) a0 a1 a2 a3) (qAi k ([40] : List Nat) a0 a1 a2 a3) trivial (fun _ => trivial) trivial fun x3_1 hx3_1 => ?_
   let E22 : Env := [(0, .ptr 0 4 0), (2, .ptr 1 7 0), (3, .ptr 2 7 0), (24, .bool x3_1.1)]
   refine oL 2 i31p8 E22 ?_
   refine oS 24 (fun hb => ?_) (fun hb => ?_)
   ·refine oR 3 (atN 1 (ctl1 i31p10)) ((27, .ptr 0 4 0) :: (24, .bool true) :: E22) ?_
    refine oX (fun (x4_1 : (S28 × Int)) => n29 x4_1.1) (fun x4_1 => [⟨[.str a0, w34 a1, .i x4_1.2, .i a3], 4, false⟩, Q2, Q2, ⟨e34 x0_1, 3, false⟩]) (atN 2 (ctl1 i31p10)) 28 [0] [] [] [0] [] [.ptr 0 4 0] (hF.i17_thr a0 a1 x3_1.2 a3) (hF.i17_ok a0 a1 x3_1.2 a3) trivial (fun _ => trivial) trivial fun x4_1 hx4_1 => ?_
    let Q11 : Blk := ⟨[.str a0, w34 a1, .i x4_1.2, .i a3], 4, false⟩
    refine oLH 3 i31p9 [(0, .ptr 0 4 0), (2, .ptr 1 7 0), (3, .ptr 2 7 0)] (mkH [Q11, Q2, ⟨e29 x4_1.1, 7, false⟩, ⟨e34 x0_1, 3, false⟩]) ?_
    refine qAc [Q11, Q2, ⟨e29 x4_1.1, 7, false⟩] [⟨e34 x0_1, 3, false⟩] (by kernel_rfl) rfl (by kernel_rfl) ⟨(by kernel_rfl), ⟨(by kernel_rfl), ⟨(by kernel_rfl), trivial⟩⟩⟩ ?_
    exact hj13 (x4_1.2, x4_1.1.f0, x4_1.1.f1, x4_1.1.f2, x4_1.1.f3, x4_1.1.f4, x4_1.1.f5, x4_1.1.f6)
   ·refine oR 4 (atN 1 (ctl1 i31p11)) ((8, .ptr 0 4 0) :: (24, .bool false) :: E22) ?_
    refine oX (fun (x5_1 : Int) => .tuple []) (fun x5_1 => [⟨[.str a0, w34 a1, .i x5_1, .i a3], 4, false⟩, Q2, Q2, ⟨e34 x0_1, 3, false⟩]) (atN 2 (ctl1 i31p11)) 9 [0] [] [] [0] [] [.ptr 0 4 0, .str [60, 60]] (qAj k ([60, 60] : List Nat) a0 a1 x3_1.2 a3) (qAw k ([60, 60] : List Nat) a0 a1 x3_1.2 a3) trivial (fun _ => trivial) trivial fun x5_1 hx5_1 => ?_
    let E24 : Env := ((13, .func 80 [.ptr 0 4 0] []) :: (12, .ptr 0 4 0) :: (11, .agg [.i 6, .str [], .nils, .bool false, .bool false, .nils, .nils]) :: (10, .ptr 0 4 0) :: (9, .tuple []) :: (8, .ptr 0 4 0) :: (24, .bool false) :: E22)
    refine oR 6 (atN 4 (ctl1 i31p13)) E24 ?_
    refine oXW 1 [⟨[.str a0, w34 a1, .i x5_1, .i a3], 4, false⟩, Q2, Q2, ⟨e34 x0_1, 3, false⟩, ⟨(([] : List S28)).flatMap e29, 0, false⟩] (fun (x6_4 : Ri20) => .agg [.i x6_4.1, .str x6_4.2.1, .own 4 (x6_4.2.2.2.2.2.2.2).length 7, .bool x6_4.2.2.1, .bool x6_4.2.2.2.1, w9 x6_4.2.2.2.2.1, w9 x6_4.2.2.2.2.2.1]) (fun x6_4 => [⟨[.str a0, w34 a1, .i x6_4.2.2.2.2.2.2.1, .i a3], 4, false⟩, Q2, Q2, ⟨e34 x0_1, 3, false⟩, ⟨(x6_4.2.2.2.2.2.2.2).flatMap e29, 0, false⟩]) (atN 5 (ctl1 i31p13)) 14 [0, 4] [0, 1] [0, 1] [0, 4] [] [0, 0, 0, 0, 1] [.ptr 0 4 0, .agg [.i 6, .str [], .nils, .bool false, .bool false, .nils, .nils], .str [62, 62], .func 80 [.ptr 0 4 0] []] [.ptr 0 4 0, .agg [.i 6, .str [], .own 4 (([] : List S28)).length 7, .bool false, .bool false, w9 ([] : List (List Nat)), w9 ([] : List (List Nat))], .str [62, 62], .func 80 [.ptr 0 4 0] []] (.cons (.agg (.cons (.cons (.none (.cons (.cons (.nil (.nil (.refl)))))))) (.refl))) (hF.i20_thr (6 : Int) ([] : List Nat) false false ([] : List (List Nat)) ([] : List (List Nat)) ([62, 62] : List Nat) a0 a1 x5_1 a3 ([] : List S28)) (hF.i20_ok (6 : Int) ([] : List Nat) false false ([] : List (List Nat)) ([] : List (List Nat)) ([62, 62] : List Nat) a0 a1 x5_1 a3 ([] : List S28)) ⟨u29 _, trivial⟩ (fun _ => ⟨u29 _, trivial⟩) trivial fun x6_4 hx6_4 => ?_
    let Q12 : Blk := ⟨[.str a0, w34 a1, .i x6_4.2.2.2.2.2.2.1, .i a3], 4, false⟩
    let Q13 : Blk := ⟨[.i x6_4.1, .str x6_4.2.1, .own 4 (x6_4.2.2.2.2.2.2.2).length 7, .bool x6_4.2.2.1, .bool x6_4.2.2.2.1, w9 x6_4.2.2.2.2.1, w9 x6_4.2.2.2.2.2.1], 7, false⟩
    let Q14 : Blk := ⟨(x6_4.2.2.2.2.2.2.2).flatMap e29, 0, false⟩
    refine oH 3 i31p9 ((14, .agg [.i x6_4.1, .str x6_4.2.1, .own 4 (x6_4.2.2.2.2.2.2.2).length 7, .bool x6_4.2.2.1, .bool x6_4.2.2.2.1, w9 x6_4.2.2.2.2.1, w9 x6_4.2.2.2.2.2.1]) :: E24) (mkH [Q12, Q2, Q13, ⟨e34 x0_1, 3, false⟩, Q14]) ?_
    let Q15 : Blk := ⟨[.i x6_4.1, .str x6_4.2.1, w29 x6_4.2.2.2.2.2.2.2, .bool x6_4.2.2.1, .bool x6_4.2.2.2.1, w9 x6_4.2.2.2.2.1, w9 x6_4.2.2.2.2.2.1], 7, false⟩
    refine qLm [Q12, Q2, Q13, ⟨e34 x0_1, 3, false⟩, Q14] [Q12, Q2, Q15, ⟨e34 x0_1, 3, false⟩, ⟨[], 0, false⟩] 4 (x6_4.2.2.2.2.2.2.2).length 7 0 ((x6_4.2.2.2.2.2.2.2).flatMap e29) [0, 2, 3] (env0 := [(0, .ptr 0 4 0), (2, .ptr 1 7 0), (3, .ptr 2 7 0)]) (eE := [(0, .ptr 0 4 0), (2, .ptr 1 7 0), (3, .ptr 2 7 0)]) (by kernel_rfl) rfl rfl (qAq qA7 _) (Nat.zero_le _) (u29 _) (by kernel_rfl) ⟨⟨rfl, .refl (by kernel_rfl)⟩, ⟨⟨rfl, .refl (by kernel_rfl)⟩, ⟨⟨rfl, .refl (by kernel_rfl)⟩, trivial⟩⟩⟩ ⟨.inr ⟨rfl, rfl, rfl, .refl (by kernel_rfl)⟩, ⟨.inr ⟨rfl, rfl, rfl, .refl (by kernel_rfl)⟩, ⟨.inr ⟨rfl, rfl, rfl, .cons (by kernel_rfl) (.cons (by kernel_rfl) (.own (.refl (by kernel_rfl))))⟩, ⟨.inr ⟨rfl, rfl, rfl, .refl (by kernel_rfl)⟩, ⟨.inl ⟨rfl, rfl⟩, trivial⟩⟩⟩⟩⟩ ?_
    refine qAc [Q12, Q2, Q15] [⟨e34 x0_1, 3, false⟩, ⟨[], 0, false⟩] (by kernel_rfl) rfl (by kernel_rfl) ⟨(by kernel_rfl), ⟨(by kernel_rfl), ⟨(by kernel_rfl), trivial⟩⟩⟩ ?_
    exact hj13 (x6_4.2.2.2.2.2.2.1, x6_4.1, x6_4.2.1, (⟨(x6_4.2.2.2.2.2.2.2).length, (x6_4.2.2.2.2.2.2.2).flatMap e29⟩ : Raw), x6_4.2.2.1, x6_4.2.2.2.1, x6_4.2.2.2.2.1, x6_4.2.2.2.2.2.1)
theorem i31B_ok (k : Nat) (F : Fns0) (hF : FnsOk0 F) : Pi31 (i31B k F) := fun a0 a1 a2 a3 x h => qJ8 k F hF a0 a1 a2 a3 (some x) h
theorem i31B_thr (k : Nat) (F : Fns0) (hF : FnsOk0 F) : Qi31 (i31B k F) := fun a0 a1 a2 a3 h => ⟨_, qJ8 k F hF a0 a1 a2 a3 none h⟩
def i32c0 : List (List Nat) := [([61, 62] : List Nat), ([58, 61] : List Nat)]
def Xi32 (a0 : (List Nat)) (a1 : (List S33)) (a2 : Int) (a3 : Int) : Fx (Option (S28 × Int)) := ⟨Try.prog, cx, Try.f81, fun r => match r with | some r => .agg [.i r.1.f0, .str r.1.f1, q29 r.1.f2, .bool r.1.f3, .bool r.1.f4, w9 r.1.f5, w9 r.1.f6] | none => .top, 1, fun r => match r with | some r => (mkH [⟨[.str a0, w34 a1, .i r.2, .i a3], 4, false⟩]) | none => (mkH [⟨[.str a0, w34 a1, .i a2, .i a3], 4, false⟩]), cxTi, cxOrd, fun r => match r with | some _ => none | none => some (thrown, [0]), false⟩
def i32p0 : Pt := nav [0] (bodyAt Try.f81)
def i32p1 : Pt := nav [0, 0, 0] i32p0
def i32p2 : Pt := nav [0, 0, 0, 0] i32p1
def i32p3 : Pt := nav [0, 0, 0, 0] i32p2
def i32p4 : Pt := nav [0, 0] i32p3
def i32p5 : Pt := nav [0, 0, 0] i32p4
def i32p6 : Pt := nav [1, 0, 0, 0, 0] i32p5
def i32p8 : Pt := nav [0, 0, 0] i32p6
def i32p10 : Pt := nav [0, 0] i32p8
def i32p11 : Pt := nav [1, 0] i32p10
def qH6 (k : Nat) (F : Fns0)  (a0 : (List Nat)) (a1 : (List S33)) (a2 : Int) (a3 : Int) (x0_1 : (S28 × Int)) (ih : Int → Int → Option (Option (S28 × Int))) : Int → Int → Option (Option (S28 × Int)) :=
 fun (y4_0 : Int) (y4_1 : Int) => if (decide (y4_0 < (i32c0.length : Int))) then ((nthL i32c0 y4_0).bind fun x1_0 => bT (i7 k x1_0 a0 a1 y4_1 a3) fun x2_2 => if x2_2.1 then (bT (F.i5 (1 : Int) a0 a1 x2_2.2 a3) fun x3_3 => some (some ((⟨(14 : Int), x1_0, ⟨(([x0_1.1, x3_3.1] : List S28)).length, (([x0_1.1, x3_3.1] : List S28)).flatMap e29⟩, false, false, ([] : List (List Nat)), ([] : List (List Nat))⟩ : S28), x3_3.2))) else (ih (fW .i64 (y4_0 + 1)) x2_2.2)) else (some (some (x0_1.1, y4_1)))
def qMq (k : Nat) (F : Fns0)  (a0 : (List Nat)) (a1 : (List S33)) (a2 : Int) (a3 : Int) (x0_1 : (S28 × Int)) (n : Nat) : Int → Int → Option (Option (S28 × Int)) := lp (fun _ _ => none) (qH6 k F a0 a1 a2 a3 x0_1) n
theorem qMp (k : Nat) (F : Fns0) (hF : FnsOk0 F) (a0 : (List Nat)) (a1 : (List S33)) (a2 : Int) (a3 : Int)  (x0_1 : (S28 × Int))  : ∀ (n : Nat) (y4_0 : Int) (y4_1 : Int), Ok (Xi32 a0 a1 a2 a3) i32p3 [(0, .ptr 0 4 0), (2, .ptr 1 7 0), (3, .ptr 2 7 0), (8, w9 i32c0), (9, .i (i32c0.length : Int)), (10, .i y4_0)] (mkH [⟨[.str a0, w34 a1, .i y4_1, .i a3], 4, false⟩, ⟨[.i 0, .str [], .nils, .bool false, .bool false, .nils, .nils], 0, false⟩, ⟨[.i x0_1.1.f0, .str x0_1.1.f1, q29 x0_1.1.f2, .bool x0_1.1.f3, .bool x0_1.1.f4, w9 x0_1.1.f5, w9 x0_1.1.f6], 7, false⟩]) (qMq k F a0 a1 a2 a3 x0_1 n y4_0 y4_1) := by
 intro n
 induction n with
 | zero => intro y4_0 y4_1; exact ok_none
 | succ n ih =>
  intro y4_0 y4_1
  show Ok _ _ _ _ (qH6 k F a0 a1 a2 a3 x0_1 (qMq k F a0 a1 a2 a3 x0_1 n) y4_0 y4_1)
  unfold qH6
  refine qAk (p' := nav [0] i32p3) (by kernel_rfl) ?_
  let E3 : Env := [(11, .bool (decide (y4_0 < (i32c0.length : Int)))), (0, .ptr 0 4 0), (2, .ptr 1 7 0), (3, .ptr 2 7 0), (8, w9 i32c0), (9, .i (i32c0.length : Int)), (10, .i y4_0)]
  let Q1 : Blk := ⟨[.str a0, w34 a1, .i y4_1, .i a3], 4, false⟩
  let Q2 : Blk := ⟨[.i 0, .str [], .nils, .bool false, .bool false, .nils, .nils], 0, false⟩
  refine oH 5 i32p5 E3 (mkH [Q1, Q2, ⟨e29 x0_1.1, 7, false⟩]) ?_
  refine oS 11 (fun hb => ?_) (fun hb => ?_)
  ·refine oR 6 (atN 0 (ctl1 i32p6)) ((11, .bool true) :: E3) ?_
   refine oC (fun (x1_0 : (List Nat)) => (.vptr [.str x1_0], (mkH [Q1, Q2, ⟨e29 x0_1.1, 7, false⟩]))) (atN 1 (ctl1 i32p6)) 12 (vidxH (sz := 1) qC0 (by kernel_rfl)) fun x1_0 hx1_0 => ?_
   let E4 : Env := ((15, .str x1_0) :: (14, .ptr 0 4 0) :: (5, .str x1_0) :: (13, .str x1_0) :: (12, .vptr [.str x1_0]) :: (11, .bool true) :: E3)
   refine oH 7 (atN 2 (ctl1 i32p8)) E4 (mkH [Q1, Q2, ⟨e29 x0_1.1, 7, false⟩]) ?_
   refine oX (fun (x2_2 : (Bool × Int)) => .bool x2_2.1) (fun x2_2 => [⟨[.str a0, w34 a1, .i x2_2.2, .i a3], 4, false⟩, Q2, ⟨e29 x0_1.1, 7, false⟩]) (atN 3 (ctl1 i32p8)) 16 [0] [] [] [] [] [.ptr 0 4 0, .str x1_0] (qAb k x1_0 a0 a1 y4_1 a3) (qAi k x1_0 a0 a1 y4_1 a3) trivial (fun _ => trivial) trivial fun x2_2 hx2_2 => ?_
   refine oR 1 i32p10 ((16, .bool x2_2.1) :: E4) ?_
   refine oS 16 (fun hb => ?_) (fun hb => ?_)
   ·refine oR 2 i32p11 ((16, .bool true) :: (16, .bool x2_2.1) :: E4) ?_
    refine qC4 (fun h => ?_) (fun x3_3 hx3_3 => ?_)
    ·let E5 : Env := [(19, .ptr 0 4 0), (18, n29 x0_1.1), (17, .str x1_0), (16, .bool true), (16, .bool x2_2.1), (15, .str x1_0), (14, .ptr 0 4 0), (5, .str x1_0), (13, .str x1_0), (12, .vptr [.str x1_0]), (11, .bool true), (11, .bool (decide (y4_0 < (i32c0.length : Int)))), (0, .ptr 0 4 0), (2, .ptr 1 7 0), (3, .ptr 2 7 0), (8, w9 i32c0), (9, .i (i32c0.length : Int)), (10, .i y4_0)]
     let Q3 : Blk := ⟨[.str a0, w34 a1, .i x2_2.2, .i a3], 4, false⟩
     exact qAn (eE := ((22, .top) :: (21, .top) :: (20, .top) :: E5)) ⟨[21], [(0, 0, 0), (0, 0, 1), (0, 0, 0), (4, 0, 0), (14, 0, 0), (31, 0, 0), (63, 0, 0)], 3, thrown, [0], (mkH [Q3, Q2, ⟨e29 x0_1.1, 7, false⟩])⟩ (hs := [(mkH [Q3, Q2, ⟨e29 x0_1.1, 7, false⟩]), (mkH [Q3, Q2, ⟨e29 x0_1.1, 7, false⟩])]) (LX := [⟨[.str a0, w34 a1, .i a2, .i a3], 4, false⟩]) (L := [Q3, Q2, ⟨e29 x0_1.1, 7, false⟩]) rfl rfl rfl (by kernel_rfl) rfl ⟨.inl rfl, trivial⟩ (by kernel_rfl) (by kernel_rfl) (by kernel_rfl) (by kernel_rfl) (qAa 3 (l' := (opsAt i32p11).toList.drop 3) (eE := E5) (H' := (mkH [Q3, Q2, ⟨e29 x0_1.1, 7, false⟩])) (hs := []) (by kernel_rfl) (qAm (l' := (opsAt i32p11).toList.drop 4) (eE := ((20, .top) :: E5)) (hs := [(mkH [Q3, Q2, ⟨e29 x0_1.1, 7, false⟩])]) (fi := 29) (args := [.ptr 0 4 0, .i 1]) (by kernel_rfl) (by kernel_rfl) (frS 0 (M := [Q3, Q2, ⟨e29 x0_1.1, 7, false⟩]) (rs := [0]) (ms := []) (mv := []) (mm := []) (D := [0]) (xs' := [.ptr 0 4 0, .i 1]) (.refl) (hF.i5_thr (1 : Int) a0 a1 x2_2.2 a3 h) trivial trivial (by kernel_rfl)) (by kernel_rfl) (qA1 (l' := (opsAt i32p11).toList.drop 5) (eE := ((21, .top) :: (20, .top) :: E5)) (hs := []) (by kernel_rfl) (by kernel_rfl) (qA1 (l' := (opsAt i32p11).toList.drop 6) (eE := ((22, .top) :: (21, .top) :: (20, .top) :: E5)) (hs := []) (by kernel_rfl) (by kernel_rfl) (qA1 (l' := (opsAt i32p11).toList.drop 7) (eE := ((22, .top) :: (21, .top) :: (20, .top) :: E5)) (hs := [(mkH [Q3, Q2, ⟨e29 x0_1.1, 7, false⟩])]) (by kernel_rfl) (by kernel_rfl) (.nil)))))) (by kernel_rfl) (by kernel_rfl)
    ·let E5 : Env := [(19, .ptr 0 4 0), (18, n29 x0_1.1), (17, .str x1_0), (16, .bool true), (16, .bool x2_2.1), (15, .str x1_0), (14, .ptr 0 4 0), (5, .str x1_0), (13, .str x1_0), (12, .vptr [.str x1_0]), (11, .bool true), (11, .bool (decide (y4_0 < (i32c0.length : Int)))), (0, .ptr 0 4 0), (2, .ptr 1 7 0), (3, .ptr 2 7 0), (8, w9 i32c0), (9, .i (i32c0.length : Int)), (10, .i y4_0)]
     let Q4 : Blk := ⟨[.str a0, w34 a1, .i x3_3.2, .i a3], 4, false⟩
     let Q5 : Blk := ⟨[.i 14, .str x1_0, w29 ([x0_1.1, x3_3.1] : List S28), .bool false, .bool false, .nils, .nils], 7, false⟩
     refine oD (H' := (mkH [Q4, Q5, ⟨e29 x0_1.1, 7, false⟩])) (nav [0] i32p11) ((22, .agg [.i 14, .str x1_0, w29 ([x0_1.1, x3_3.1] : List S28), .bool false, .bool false, .nils, .nils]) :: (21, w29 ([x0_1.1, x3_3.1] : List S28)) :: (20, n29 x3_3.1) :: E5) [(mkH [Q4, Q2, ⟨e29 x0_1.1, 7, false⟩]), (mkH [Q4, Q5, ⟨e29 x0_1.1, 7, false⟩])] ⟨[21], [(0, 0, 0), (0, 0, 1), (0, 0, 0), (4, 0, 0), (14, 0, 0), (31, 0, 0), (63, 0, 0)], 7, thrown, [], H0⟩ (oDr 3 3 E5 (qA4 (l' := (opsAt i32p11).toList.drop 4) (eE := ((20, n29 x3_3.1) :: E5)) (hs := [(mkH [Q4, Q2, ⟨e29 x0_1.1, 7, false⟩])]) (H' := (mkH [Q4, Q2, ⟨e29 x0_1.1, 7, false⟩])) (fi := 29) (args := [.ptr 0 4 0, .i 1]) (v := n29 x3_3.1) (by kernel_rfl) (frC (rs := [0]) (ms := []) (ms' := []) (hF.i5_ok (1 : Int) a0 a1 x2_2.2 a3 x3_3 hx3_3) trivial trivial (by kernel_rfl)) (by kernel_rfl) (oDh 3 7 ((22, .agg [.i 14, .str x1_0, w29 ([x0_1.1, x3_3.1] : List S28), .bool false, .bool false, .nils, .nils]) :: (21, w29 ([x0_1.1, x3_3.1] : List S28)) :: (20, n29 x3_3.1) :: E5) (mkH [Q4, Q5, ⟨e29 x0_1.1, 7, false⟩]) [(mkH [Q4, Q5, ⟨e29 x0_1.1, 7, false⟩])] .nil))) ?_
     exact oQF 1 [Q4, Q5, ⟨e29 x0_1.1, 7, false⟩] 1 [] [.agg [.i 14, .str x1_0, w29 ([x0_1.1, x3_3.1] : List S28), .bool false, .bool false, .nils, .nils]] (.agg [.i 14, .str x1_0, w29 ([x0_1.1, x3_3.1] : List S28), .bool false, .bool false, .vec 0 1 [], .vec 0 1 []]) (.agg (.cs (.cs (.cs (.cs (.cs (.nil (.nil .ps))))))) .ps) trivial
   ·refine oL 6 i32p3 [(0, .ptr 0 4 0), (2, .ptr 1 7 0), (3, .ptr 2 7 0), (8, w9 i32c0), (9, .i (i32c0.length : Int)), (10, .i (fW .i64 (y4_0 + 1)))] ?_
    exact ih (fW .i64 (y4_0 + 1)) x2_2.2
  ·exact oQF 8 [Q1, ⟨e29 x0_1.1, 7, false⟩, ⟨e29 x0_1.1, 7, false⟩] 1 [] [n29 x0_1.1] (n29 x0_1.1) .ps trivial
def i32B (k : Nat) (F : Fns0) (a0 : (List Nat)) (a1 : (List S33)) (a2 : Int) (a3 : Int) : Option (Option (S28 × Int)) :=
 bT (F.i5 (1 : Int) a0 a1 a2 a3) fun x0_1 => qMq k F a0 a1 a2 a3 x0_1 k 0 x0_1.2
theorem qJ7 (k : Nat) (F : Fns0) (hF : FnsOk0 F) (a0 : (List Nat)) (a1 : (List S33)) (a2 : Int) (a3 : Int) (r : (Option (S28 × Int))) (h : i32B k F a0 a1 a2 a3 = some r) : CallT Try.prog 81 [.ptr 0 4 0] (mkH [⟨[.str a0, w34 a1, .i a2, .i a3], 4, false⟩]) ((Xi32 a0 a1 a2 a3).thr r) ((Xi32 a0 a1 a2 a3).enc r) ((Xi32 a0 a1 a2 a3).fin r) := by
 refine qA2 (Xi32 a0 a1 a2 a3) Try.func81 (by kernel_rfl) (by kernel_rfl) rfl (t := i32B k F a0 a1 a2 a3) ?_ h
 unfold i32B
 refine qA0 (eE := [(0, .ptr 0 4 0)]) (by kernel_rfl) ?_
 let Q1 : Blk := ⟨[.i 0, .str [], .nils, .bool false, .bool false, .nils, .nils], 0, false⟩
 refine oH 7 (atN 1 (ctl1 i32p1)) [(6, .ptr 0 4 0), (2, .ptr 1 7 0), (0, .ptr 0 4 0)] (mkH [⟨[.str a0, w34 a1, .i a2, .i a3], 4, false⟩, Q1]) ?_
 refine oX (fun (x0_1 : (S28 × Int)) => n29 x0_1.1) (fun x0_1 => [⟨[.str a0, w34 a1, .i x0_1.2, .i a3], 4, false⟩, Q1]) (atN 2 (ctl1 i32p1)) 7 [0] [] [] [0] [] [.ptr 0 4 0, .i 1] (hF.i5_thr (1 : Int) a0 a1 a2 a3) (hF.i5_ok (1 : Int) a0 a1 a2 a3) trivial (fun _ => trivial) trivial fun x0_1 hx0_1 => ?_
 let Q2 : Blk := ⟨[.str a0, w34 a1, .i x0_1.2, .i a3], 4, false⟩
 refine oH 7 (atN 1 (ctl1 i32p2)) [(8, .slice 3 2 0 2 1), (3, .ptr 2 7 0), (7, n29 x0_1.1), (6, .ptr 0 4 0), (2, .ptr 1 7 0), (0, .ptr 0 4 0)] (mkH [Q2, Q1, ⟨e29 x0_1.1, 7, false⟩, ⟨[.str [61, 62], .str [58, 61]], 0, false⟩]) ?_
 refine oZ 8 3 2 1 [.str [61, 62], .str [58, 61]] [0, 2, 3, 6, 7] [] trivial ?_
 refine oLH 5 i32p3 [(0, .ptr 0 4 0), (2, .ptr 1 7 0), (3, .ptr 2 7 0), (8, w9 i32c0), (9, .i (i32c0.length : Int)), (10, .i 0)] (mkH [Q2, Q1, ⟨e29 x0_1.1, 7, false⟩, ⟨[], 0, false⟩]) ?_
 refine qAc [Q2, Q1, ⟨e29 x0_1.1, 7, false⟩] [⟨[], 0, false⟩] (by kernel_rfl) rfl (by kernel_rfl) ⟨(by kernel_rfl), ⟨(by kernel_rfl), ⟨(by kernel_rfl), trivial⟩⟩⟩ ?_
 exact (qMp k F hF a0 a1 a2 a3 x0_1 k) 0 x0_1.2
theorem i32B_ok (k : Nat) (F : Fns0) (hF : FnsOk0 F) : Pi32 (i32B k F) := fun a0 a1 a2 a3 x h => qJ7 k F hF a0 a1 a2 a3 (some x) h
theorem i32B_thr (k : Nat) (F : Fns0) (hF : FnsOk0 F) : Qi32 (i32B k F) := fun a0 a1 a2 a3 h => ⟨_, qJ7 k F hF a0 a1 a2 a3 none h⟩
def Xi34 (a0 : (List Nat)) (a1 : (List S33)) (a2 : Int) (a3 : Int) : Fx (Option (S28 × Int)) := ⟨Try.prog, cx, Try.f97, fun r => match r with | some r => .agg [.i r.1.f0, .str r.1.f1, q29 r.1.f2, .bool r.1.f3, .bool r.1.f4, w9 r.1.f5, w9 r.1.f6] | none => .top, 1, fun r => match r with | some r => (mkH [⟨[.str a0, w34 a1, .i r.2, .i a3], 4, false⟩]) | none => (mkH [⟨[.str a0, w34 a1, .i a2, .i a3], 4, false⟩]), cxTi, cxOrd, fun r => match r with | some _ => none | none => some (thrown, [0]), false⟩
def i34p0 : Pt := nav [0] (bodyAt Try.f97)
def i34p1 : Pt := nav [0, 0, 0] i34p0
def i34p2 : Pt := nav [0, 0, 0] i34p1
def i34p3 : Pt := nav [0, 0, 0] i34p2
def i34B (k : Nat) (F : Fns0) (a0 : (List Nat)) (a1 : (List S33)) (a2 : Int) (a3 : Int) : Option (Option (S28 × Int)) :=
 bT (F.i40 ([] : List (List Nat)) a0 a1 a2 a3) fun x0_2 => (i12 k a0 a1 x0_2.2 a3).bind fun x1_1 => bT (i23 k ([101, 110, 100] : List Nat) a0 a1 x1_1.2 a3) fun x2_1 => some (some ((⟨(17 : Int), ([] : List Nat), ⟨(x0_2.1).length, (x0_2.1).flatMap e29⟩, false, false, ([] : List (List Nat)), x1_1.1⟩ : S28), x2_1))
theorem qJ6 (k : Nat) (F : Fns0) (hF : FnsOk0 F) (a0 : (List Nat)) (a1 : (List S33)) (a2 : Int) (a3 : Int) (r : (Option (S28 × Int))) (h : i34B k F a0 a1 a2 a3 = some r) : CallT Try.prog 97 [.ptr 0 4 0] (mkH [⟨[.str a0, w34 a1, .i a2, .i a3], 4, false⟩]) ((Xi34 a0 a1 a2 a3).thr r) ((Xi34 a0 a1 a2 a3).enc r) ((Xi34 a0 a1 a2 a3).fin r) := by
 refine qA2 (Xi34 a0 a1 a2 a3) Try.func97 (by kernel_rfl) (by kernel_rfl) rfl (t := i34B k F a0 a1 a2 a3) ?_ h
 unfold i34B
 refine qA0 (eE := [(0, .ptr 0 4 0)]) (by kernel_rfl) ?_
 let E1 : Env := [(5, .func 106 [] [.ptr 1 1 0]), (4, .ptr 0 4 0), (2, .ptr 2 7 0), (1, .ptr 1 1 0), (0, .ptr 0 4 0)]
 let Q1 : Blk := ⟨[.str a0, w34 a1, .i a2, .i a3], 4, false⟩
 let Q2 : Blk := ⟨[.i 0, .str [], .nils, .bool false, .bool false, .nils, .nils], 0, false⟩
 refine oH 9 (atN 2 (ctl1 i34p1)) E1 (mkH [Q1, ⟨[.ptr 0 4 0], 0, false⟩, Q2]) ?_
 refine oXW 0 [Q1, ⟨[.ptr 0 4 0], 1, false⟩, Q2] (fun (x0_2 : Ri40) => w29 x0_2.1) (fun x0_2 => [⟨[.str a0, w34 a1, .i x0_2.2, .i a3], 4, false⟩, ⟨[.ptr 0 4 0], 1, false⟩, Q2]) (atN 3 (ctl1 i34p1)) 6 [0, 1] [] [] [0, 1] [] [] [.ptr 0 4 0, .nils, .func 106 [] [.ptr 1 1 0]] [.ptr 0 4 0, w9 ([] : List (List Nat)), .func 106 [] [.ptr 1 1 0]] (.cons (.nil (.refl))) (hF.i40_thr ([] : List (List Nat)) a0 a1 a2 a3) (hF.i40_ok ([] : List (List Nat)) a0 a1 a2 a3) trivial (fun _ => trivial) trivial fun x0_2 hx0_2 => ?_
 let Q3 : Blk := ⟨[.i 17, .str [], w29 x0_2.1, .bool false, .bool false, .nils, .nils], 7, false⟩
 refine oH 7 (atN 1 (ctl1 i34p2)) ((8, .ptr 0 4 0) :: (3, .ptr 3 7 0) :: (7, .agg [.i 17, .str [], w29 x0_2.1, .bool false, .bool false, .nils, .nils]) :: (6, w29 x0_2.1) :: E1) (mkH [⟨[.str a0, w34 a1, .i x0_2.2, .i a3], 4, false⟩, ⟨[.ptr 0 4 0], 1, false⟩, Q2, Q3]) ?_
 refine oN (fun (x1_1 : Ri12) => w9 x1_1.1) (fun x1_1 => [⟨[.str a0, w34 a1, .i x1_1.2, .i a3], 4, false⟩, ⟨[.ptr 0 4 0], 1, false⟩, Q2, Q3]) (atN 2 (ctl1 i34p2)) 9 [0] [] [] [.ptr 0 4 0] (qAl k a0 a1 x0_2.2 a3) trivial (fun _ => trivial) fun x1_1 hx1_1 => ?_
 let E3 : Env := [(1, .ptr 1 1 0), (2, .ptr 2 7 0), (3, .ptr 3 7 0)]
 let Q4 : Blk := ⟨[.i 17, .str [], w29 x0_2.1, .bool false, .bool false, .nils, w9 x1_1.1], 7, false⟩
 refine oLH 4 i34p3 E3 (mkH [⟨[.str a0, w34 a1, .i x1_1.2, .i a3], 4, false⟩, ⟨[.ptr 0 4 0], 1, false⟩, Q2, Q4]) ?_
 refine oR 2 (atN 1 (ctl1 i34p3)) ((11, .ptr 0 4 0) :: E3) ?_
 refine oX (fun (x2_1 : Int) => .tuple []) (fun x2_1 => [⟨[.str a0, w34 a1, .i x2_1, .i a3], 4, false⟩, ⟨[.ptr 0 4 0], 1, false⟩, Q2, Q4]) (atN 2 (ctl1 i34p3)) 12 [0] [] [] [0, 1] [] [.ptr 0 4 0, .str [101, 110, 100]] (qAj k ([101, 110, 100] : List Nat) a0 a1 x1_1.2 a3) (qAw k ([101, 110, 100] : List Nat) a0 a1 x1_1.2 a3) trivial (fun _ => trivial) trivial fun x2_1 hx2_1 => ?_
 exact oQF 7 [⟨[.str a0, w34 a1, .i x2_1, .i a3], 4, false⟩, ⟨[.ptr 0 4 0], 1, false⟩, Q4, Q4] 1 [] [.agg [.i 17, .str [], w29 x0_2.1, .bool false, .bool false, .nils, w9 x1_1.1]] (.agg [.i 17, .str [], w29 x0_2.1, .bool false, .bool false, .vec 0 1 [], w9 x1_1.1]) (.agg (.cs (.cs (.cs (.cs (.cs (.nil .ps)))))) .ps) trivial
theorem i34B_ok (k : Nat) (F : Fns0) (hF : FnsOk0 F) : Pi34 (i34B k F) := fun a0 a1 a2 a3 x h => qJ6 k F hF a0 a1 a2 a3 (some x) h
theorem i34B_thr (k : Nat) (F : Fns0) (hF : FnsOk0 F) : Qi34 (i34B k F) := fun a0 a1 a2 a3 h => ⟨_, qJ6 k F hF a0 a1 a2 a3 none h⟩
def Xi36 (a0 : Int) (a1 : (List Nat)) (a2 : Bool) (a3 : Bool) (a4 : (List (List Nat))) (a5 : (List (List Nat))) (a6 : (List Nat)) (a7 : (List S33)) (a8 : Int) (a9 : Int) (b1 : (List S28)) : Fx (Option Ri36) := ⟨Try.prog, cx, Try.f99, fun r => match r with | some r => .agg [.i r.1, .str r.2.1, .own 1 (r.2.2.2.2.2.2.2).length 7, .bool r.2.2.1, .bool r.2.2.2.1, w9 r.2.2.2.2.1, w9 r.2.2.2.2.2.1] | none => .top, 2, fun r => match r with | some r => (mkH [⟨[.str a6, w34 a7, .i r.2.2.2.2.2.2.1, .i a9], 4, false⟩, ⟨(r.2.2.2.2.2.2.2).flatMap e29, 0, false⟩]) | none => (mkH [⟨[.str a6, w34 a7, .i a8, .i a9], 4, false⟩, ⟨(b1).flatMap e29, 0, false⟩]), cxTi, cxOrd, fun r => match r with | some _ => none | none => some (thrown, [0, 1]), false⟩
def i36p0 : Pt := nav [0] (bodyAt Try.f99)
def i36p1 : Pt := nav [0, 0, 0] i36p0
def i36p2 : Pt := nav [0, 0] i36p1
def i36p3 : Pt := nav [0, 0, 0] i36p2
def i36B (k : Nat) (F : Fns0) (a0 : Int) (a1 : (List Nat)) (a2 : Bool) (a3 : Bool) (a4 : (List (List Nat))) (a5 : (List (List Nat))) (a6 : (List Nat)) (a7 : (List S33)) (a8 : Int) (a9 : Int) (b1 : (List S28)) : Option (Option Ri36) :=
 (i12 k a6 a7 a8 a9).bind fun x0_4 => bT (F.i41 x0_4.1 a6 a7 x0_4.2 a9) fun x0_6 => (appS 104 b1 x0_6.1).bind fun x0_7 => (i12 k a6 a7 x0_6.2 a9).bind fun x1_1 => bT (i23 k ([101, 110, 100] : List Nat) a6 a7 x1_1.2 a9) fun x2_1 => some (some (a0, a1, a2, a3, a4, x1_1.1, x2_1, x0_7))
theorem qJ5 (k : Nat) (F : Fns0) (hF : FnsOk0 F) (a0 : Int) (a1 : (List Nat)) (a2 : Bool) (a3 : Bool) (a4 : (List (List Nat))) (a5 : (List (List Nat))) (a6 : (List Nat)) (a7 : (List S33)) (a8 : Int) (a9 : Int) (b1 : (List S28)) (r : (Option Ri36)) (h : i36B k F a0 a1 a2 a3 a4 a5 a6 a7 a8 a9 b1 = some r) : CallT Try.prog 99 [.ptr 0 4 0, .agg [.i a0, .str a1, .own 1 (b1).length 7, .bool a2, .bool a3, w9 a4, w9 a5], .func 100 [.ptr 0 4 0] []] (mkH [⟨[.str a6, w34 a7, .i a8, .i a9], 4, false⟩, ⟨(b1).flatMap e29, 0, false⟩]) ((Xi36 a0 a1 a2 a3 a4 a5 a6 a7 a8 a9 b1).thr r) ((Xi36 a0 a1 a2 a3 a4 a5 a6 a7 a8 a9 b1).enc r) ((Xi36 a0 a1 a2 a3 a4 a5 a6 a7 a8 a9 b1).fin r) := by
 refine qA2 (Xi36 a0 a1 a2 a3 a4 a5 a6 a7 a8 a9 b1) Try.func99 (by kernel_rfl) (by kernel_rfl) rfl (t := i36B k F a0 a1 a2 a3 a4 a5 a6 a7 a8 a9 b1) ?_ h
 unfold i36B
 refine qA0 (eE := [(0, .ptr 0 4 0), (1, .agg [.i a0, .str a1, .own 1 (b1).length 7, .bool a2, .bool a3, w9 a4, w9 a5]), (2, .func 100 [.ptr 0 4 0] [])]) (by kernel_rfl) ?_
 let Q1 : Blk := ⟨[.str a6, w34 a7, .i a8, .i a9], 4, false⟩
 let Q2 : Blk := ⟨(b1).flatMap e29, 0, false⟩
 let Q3 : Blk := ⟨[.i a0, .str a1, .own 1 (b1).length 7, .bool a2, .bool a3, w9 a4, w9 a5], 0, false⟩
 let Q4 : Blk := ⟨[.i 0, .str [], .nils, .bool false, .bool false, .nils, .nils], 0, false⟩
 refine oH 6 i36p1 [(6, .ptr 3 7 0), (4, .ptr 2 7 0), (0, .ptr 0 4 0), (1, .agg [.i a0, .str a1, .own 1 (b1).length 7, .bool a2, .bool a3, w9 a4, w9 a5]), (2, .func 100 [.ptr 0 4 0] [])] (mkH [Q1, Q2, Q3, Q4]) ?_
 refine qA9 (fun x0_4 hx0_4 => ?_)
 refine qC4 (fun h => ?_) (fun x0_6 hx0_6 => ?_)
 ·let E2 : Env := [(10, .ptr 0 4 0), (9, .ptr 0 4 0), (8, .own 1 (b1).length 7), (7, .ptr 2 7 2), (6, .ptr 3 7 0), (4, .ptr 2 7 0), (0, .ptr 0 4 0), (1, .agg [.i a0, .str a1, .own 1 (b1).length 7, .bool a2, .bool a3, w9 a4, w9 a5]), (2, .func 100 [.ptr 0 4 0] [])]
  let E3 : Env := ((15, .top) :: (14, .top) :: (13, .top) :: (12, .func 100 [.ptr 0 4 0] []) :: (11, w9 x0_4.1) :: E2)
  let Q5 : Blk := ⟨[.str a6, w34 a7, .i x0_4.2, .i a9], 4, false⟩
  exact qAn (eE := E3) ⟨[], [(0, 0, 0), (1, 0, 2), (0, 0, 0), (0, 0, 0), (8, 0, 0), (0, 0, 0), (60, 0, 0), (127, 0, 0), (255, 0, 0), (511, 0, 0)], 6, thrown, [0, 2], (mkH [Q5, Q2, Q3, Q4])⟩ (hs := [(mkH [Q5, Q2, Q3, Q4]), (mkH [Q5, Q2, Q3, Q4]), (mkH [Q5, Q2, Q3, Q4]), (mkH [Q5, Q2, Q3, Q4])]) (LX := [Q1, Q2]) (L := [Q5, Q2, Q3, Q4]) rfl rfl rfl (by kernel_rfl) rfl ⟨.inl rfl, ⟨.inl rfl, trivial⟩⟩ (by kernel_rfl) (by kernel_rfl) (by kernel_rfl) (by kernel_rfl) (qAa 4 (l' := (opsAt i36p1).toList.drop 4) (eE := E2) (H' := (mkH [Q1, Q2, Q3, Q4])) (hs := []) (by kernel_rfl) (qA4 (l' := (opsAt i36p1).toList.drop 5) (eE := ((11, w9 x0_4.1) :: E2)) (hs := [(mkH [Q5, Q2, Q3, Q4])]) (H' := (mkH [Q5, Q2, Q3, Q4])) (fi := 58) (args := [.ptr 0 4 0]) (v := w9 x0_4.1) (by kernel_rfl) (frC (rs := [0]) (ms := []) (ms' := []) (qAl k a6 a7 a8 a9 x0_4 hx0_4) trivial trivial (by kernel_rfl)) (by kernel_rfl) (qAa 1 (l' := (opsAt i36p1).toList.drop 6) (eE := ((12, .func 100 [.ptr 0 4 0] []) :: (11, w9 x0_4.1) :: E2)) (H' := (mkH [Q5, Q2, Q3, Q4])) (hs := []) (by kernel_rfl) (qAm (l' := (opsAt i36p1).toList.drop 7) (eE := ((13, .top) :: (12, .func 100 [.ptr 0 4 0] []) :: (11, w9 x0_4.1) :: E2)) (hs := [(mkH [Q5, Q2, Q3, Q4])]) (fi := 105) (args := [.ptr 0 4 0, w9 x0_4.1, .func 100 [.ptr 0 4 0] []]) (by kernel_rfl) (by kernel_rfl) (frS 0 (M := [Q5, Q2, Q3, Q4]) (rs := [0]) (ms := []) (mv := [0, 1]) (mm := [0, 1]) (D := [0, 2]) (xs' := [.ptr 0 4 0, w9 x0_4.1, .func 100 [.ptr 0 4 0] []]) (.refl) (hF.i41_thr x0_4.1 a6 a7 x0_4.2 a9 h) trivial ⟨u29 _, trivial⟩ (by kernel_rfl)) (by kernel_rfl) (qA1 (l' := (opsAt i36p1).toList.drop 8) (eE := ((14, .top) :: (13, .top) :: (12, .func 100 [.ptr 0 4 0] []) :: (11, w9 x0_4.1) :: E2)) (hs := [(mkH [Q5, Q2, Q3, Q4])]) (by kernel_rfl) (by kernel_rfl) (qA1 (l' := (opsAt i36p1).toList.drop 9) (eE := E3) (hs := []) (by kernel_rfl) (by kernel_rfl) (qA1 (l' := (opsAt i36p1).toList.drop 10) (eE := E3) (hs := [(mkH [Q5, Q2, Q3, Q4])]) (by kernel_rfl) (by kernel_rfl) (.nil)))))))) (by kernel_rfl) (by kernel_rfl)
 ·refine qA9 (fun x0_7 hx0_7 => ?_)
  let E2 : Env := [(10, .ptr 0 4 0), (9, .ptr 0 4 0), (8, .own 1 (b1).length 7), (7, .ptr 2 7 2), (6, .ptr 3 7 0), (4, .ptr 2 7 0), (0, .ptr 0 4 0), (1, .agg [.i a0, .str a1, .own 1 (b1).length 7, .bool a2, .bool a3, w9 a4, w9 a5]), (2, .func 100 [.ptr 0 4 0] [])]
  let E4 : Env := ((15, .ptr 2 7 2) :: (14, .own 1 (x0_7).length 7) :: (13, w29 x0_6.1) :: (12, .func 100 [.ptr 0 4 0] []) :: (11, w9 x0_4.1) :: E2)
  let Q6 : Blk := ⟨[.str a6, w34 a7, .i x0_6.2, .i a9], 4, false⟩
  let Q7 : Blk := ⟨[.str a6, w34 a7, .i x0_4.2, .i a9], 4, false⟩
  refine oD (H' := (mkH [Q6, ⟨(x0_7).flatMap e29, 0, false⟩, ⟨[.i a0, .str a1, .own 1 (x0_7).length 7, .bool a2, .bool a3, w9 a4, w9 a5], 7, false⟩, Q4])) (nav [0] i36p1) E4 [(mkH [Q7, Q2, Q3, Q4]), (mkH [Q6, Q2, Q3, Q4]), (mkH [Q6, ⟨(x0_7).flatMap e29, 0, false⟩, Q3, Q4]), (mkH [Q6, ⟨(x0_7).flatMap e29, 0, false⟩, ⟨[.i a0, .str a1, .own 1 (x0_7).length 7, .bool a2, .bool a3, w9 a4, w9 a5], 7, false⟩, Q4])] ⟨[], [(0, 0, 0), (1, 0, 2), (0, 0, 0), (0, 0, 0), (8, 0, 0), (0, 0, 0), (60, 0, 0), (127, 0, 0), (255, 0, 0), (511, 0, 0)], 10, thrown, [], H0⟩ (oDr 4 4 E2 (qA4 (l' := (opsAt i36p1).toList.drop 5) (eE := ((11, w9 x0_4.1) :: E2)) (hs := [(mkH [Q7, Q2, Q3, Q4])]) (H' := (mkH [Q7, Q2, Q3, Q4])) (fi := 58) (args := [.ptr 0 4 0]) (v := w9 x0_4.1) (by kernel_rfl) (frC (rs := [0]) (ms := []) (ms' := []) (qAl k a6 a7 a8 a9 x0_4 hx0_4) trivial trivial (by kernel_rfl)) (by kernel_rfl) (oDr 1 6 ((12, .func 100 [.ptr 0 4 0] []) :: (11, w9 x0_4.1) :: E2) (qA4 (l' := (opsAt i36p1).toList.drop 7) (eE := ((13, w29 x0_6.1) :: (12, .func 100 [.ptr 0 4 0] []) :: (11, w9 x0_4.1) :: E2)) (hs := [(mkH [Q6, Q2, Q3, Q4])]) (H' := (mkH [Q6, Q2, Q3, Q4])) (fi := 105) (args := [.ptr 0 4 0, w9 x0_4.1, .func 100 [.ptr 0 4 0] []]) (v := w29 x0_6.1) (by kernel_rfl) (frC (rs := [0]) (ms := []) (ms' := []) (hF.i41_ok x0_4.1 a6 a7 x0_4.2 a9 x0_6 hx0_6) trivial trivial (by kernel_rfl)) (by kernel_rfl) (qA8 (l' := (opsAt i36p1).toList.drop 8) (eE := ((14, .own 1 (x0_7).length 7) :: (13, w29 x0_6.1) :: (12, .func 100 [.ptr 0 4 0] []) :: (11, w9 x0_4.1) :: E2)) (hs := [(mkH [Q6, ⟨(x0_7).flatMap e29, 0, false⟩, Q3, Q4])]) (x := x0_7) (fun (x0_7 : (List S28)) => (.own 1 (x0_7).length 7, (mkH [Q6, ⟨(x0_7).flatMap e29, 0, false⟩, Q3, Q4]))) (appHV (sz := 7) qA7 rfl qAx [Q6, Q2, Q3, Q4] 1 104 b1 x0_6.1 rfl rfl (by kernel_rfl)) hx0_7 (by kernel_rfl) (oDh 2 10 E4 (mkH [Q6, ⟨(x0_7).flatMap e29, 0, false⟩, ⟨[.i a0, .str a1, .own 1 (x0_7).length 7, .bool a2, .bool a3, w9 a4, w9 a5], 7, false⟩, Q4]) [(mkH [Q6, ⟨(x0_7).flatMap e29, 0, false⟩, ⟨[.i a0, .str a1, .own 1 (x0_7).length 7, .bool a2, .bool a3, w9 a4, w9 a5], 7, false⟩, Q4])] .nil)))))) ?_
  refine oR 3 (atN 1 (ctl1 i36p2)) ((16, .ptr 0 4 0) :: E4) ?_
  let Q8 : Blk := ⟨(x0_7).flatMap e29, 0, false⟩
  refine oN (fun (x1_1 : Ri12) => w9 x1_1.1) (fun x1_1 => [⟨[.str a6, w34 a7, .i x1_1.2, .i a9], 4, false⟩, Q8, ⟨[.i a0, .str a1, .own 1 (x0_7).length 7, .bool a2, .bool a3, w9 a4, w9 a5], 7, false⟩, Q4]) (atN 2 (ctl1 i36p2)) 17 [0] [] [] [.ptr 0 4 0] (qAl k a6 a7 x0_6.2 a9) trivial (fun _ => trivial) fun x1_1 hx1_1 => ?_
  let Q9 : Blk := ⟨[.i a0, .str a1, .own 1 (x0_7).length 7, .bool a2, .bool a3, w9 a4, w9 x1_1.1], 7, false⟩
  refine oLH 4 i36p3 [(0, .ptr 0 4 0), (4, .ptr 2 7 0), (6, .ptr 3 7 0)] (mkH [⟨[.str a6, w34 a7, .i x1_1.2, .i a9], 4, false⟩, Q8, Q9, Q4]) ?_
  let E5 : Env := [(0, .ptr 0 4 0), (4, .ptr 2 7 0), (6, .ptr 3 7 0)]
  refine oR 2 (atN 1 (ctl1 i36p3)) ((19, .ptr 0 4 0) :: E5) ?_
  refine oX (fun (x2_1 : Int) => .tuple []) (fun x2_1 => [⟨[.str a6, w34 a7, .i x2_1, .i a9], 4, false⟩, Q8, Q9, Q4]) (atN 2 (ctl1 i36p3)) 20 [0] [] [] [0, 2] [0, 1] [.ptr 0 4 0, .str [101, 110, 100]] (qAj k ([101, 110, 100] : List Nat) a6 a7 x1_1.2 a9) (qAw k ([101, 110, 100] : List Nat) a6 a7 x1_1.2 a9) trivial (fun _ => trivial) ⟨u29 _, trivial⟩ fun x2_1 hx2_1 => ?_
  let Q10 : Blk := ⟨[.str a6, w34 a7, .i x2_1, .i a9], 4, false⟩
  refine oH 7 .fin ((21, .agg [.i a0, .str a1, .own 1 (x0_7).length 7, .bool a2, .bool a3, w9 a4, w9 x1_1.1]) :: (20, .tuple []) :: (19, .ptr 0 4 0) :: E5) (mkH [Q10, Q8, Q9, Q9]) ?_
  exact qBp (r := some (a0, a1, a2, a3, a4, x1_1.1, x2_1, x0_7)) (xs := [.agg [.i a0, .str a1, .own 1 (x0_7).length 7, .bool a2, .bool a3, w9 a4, w9 x1_1.1]]) [Q10, Q8] [Q9, Q9] (by kernel_rfl) (by kernel_rfl) (by kernel_rfl) (by kernel_rfl) (by kernel_rfl) ⟨(by kernel_rfl), ⟨(qA3 _ (u29 _)), trivial⟩⟩ (by kernel_rfl) (by kernel_rfl)
theorem i36B_ok (k : Nat) (F : Fns0) (hF : FnsOk0 F) : Pi36 (i36B k F) := fun a0 a1 a2 a3 a4 a5 a6 a7 a8 a9 b1 x h => qJ5 k F hF a0 a1 a2 a3 a4 a5 a6 a7 a8 a9 b1 (some x) h
theorem i36B_thr (k : Nat) (F : Fns0) (hF : FnsOk0 F) : Qi36 (i36B k F) := fun a0 a1 a2 a3 a4 a5 a6 a7 a8 a9 b1 h => ⟨_, qJ5 k F hF a0 a1 a2 a3 a4 a5 a6 a7 a8 a9 b1 none h⟩
def Xi37 (a0 : Int) (a1 : (List Nat)) (a2 : Bool) (a3 : Bool) (a4 : (List (List Nat))) (a5 : (List (List Nat))) (a6 : (List Nat)) (a7 : (List S33)) (a8 : Int) (a9 : Int) (b1 : (List S28)) : Fx (Option Ri37) := ⟨Try.prog, cx, Try.f99, fun r => match r with | some r => .agg [.i r.1, .str r.2.1, .own 1 (r.2.2.2.2.2.2.2).length 7, .bool r.2.2.1, .bool r.2.2.2.1, w9 r.2.2.2.2.1, w9 r.2.2.2.2.2.1] | none => .top, 2, fun r => match r with | some r => (mkH [⟨[.str a6, w34 a7, .i r.2.2.2.2.2.2.1, .i a9], 4, false⟩, ⟨(r.2.2.2.2.2.2.2).flatMap e29, 0, false⟩]) | none => (mkH [⟨[.str a6, w34 a7, .i a8, .i a9], 4, false⟩, ⟨(b1).flatMap e29, 0, false⟩]), cxTi, cxOrd, fun r => match r with | some _ => none | none => some (thrown, [0, 1]), false⟩
def i37p0 : Pt := nav [0] (bodyAt Try.f99)
def i37p1 : Pt := nav [0, 0, 0] i37p0
def i37p2 : Pt := nav [0, 0] i37p1
def i37p3 : Pt := nav [0, 0, 0] i37p2
def i37B (k : Nat) (F : Fns0) (a0 : Int) (a1 : (List Nat)) (a2 : Bool) (a3 : Bool) (a4 : (List (List Nat))) (a5 : (List (List Nat))) (a6 : (List Nat)) (a7 : (List S33)) (a8 : Int) (a9 : Int) (b1 : (List S28)) : Option (Option Ri37) :=
 (i12 k a6 a7 a8 a9).bind fun x0_4 => bT (F.i42 x0_4.1 a6 a7 x0_4.2 a9) fun x0_6 => (appS 104 b1 x0_6.1).bind fun x0_7 => (i12 k a6 a7 x0_6.2 a9).bind fun x1_1 => bT (i23 k ([101, 110, 100] : List Nat) a6 a7 x1_1.2 a9) fun x2_1 => some (some (a0, a1, a2, a3, a4, x1_1.1, x2_1, x0_7))
theorem qJ4 (k : Nat) (F : Fns0) (hF : FnsOk0 F) (a0 : Int) (a1 : (List Nat)) (a2 : Bool) (a3 : Bool) (a4 : (List (List Nat))) (a5 : (List (List Nat))) (a6 : (List Nat)) (a7 : (List S33)) (a8 : Int) (a9 : Int) (b1 : (List S28)) (r : (Option Ri37)) (h : i37B k F a0 a1 a2 a3 a4 a5 a6 a7 a8 a9 b1 = some r) : CallT Try.prog 99 [.ptr 0 4 0, .agg [.i a0, .str a1, .own 1 (b1).length 7, .bool a2, .bool a3, w9 a4, w9 a5], .func 101 [.ptr 0 4 0] []] (mkH [⟨[.str a6, w34 a7, .i a8, .i a9], 4, false⟩, ⟨(b1).flatMap e29, 0, false⟩]) ((Xi37 a0 a1 a2 a3 a4 a5 a6 a7 a8 a9 b1).thr r) ((Xi37 a0 a1 a2 a3 a4 a5 a6 a7 a8 a9 b1).enc r) ((Xi37 a0 a1 a2 a3 a4 a5 a6 a7 a8 a9 b1).fin r) := by
 refine qA2 (Xi37 a0 a1 a2 a3 a4 a5 a6 a7 a8 a9 b1) Try.func99 (by kernel_rfl) (by kernel_rfl) rfl (t := i37B k F a0 a1 a2 a3 a4 a5 a6 a7 a8 a9 b1) ?_ h
 unfold i37B
 refine qA0 (eE := [(0, .ptr 0 4 0), (1, .agg [.i a0, .str a1, .own 1 (b1).length 7, .bool a2, .bool a3, w9 a4, w9 a5]), (2, .func 101 [.ptr 0 4 0] [])]) (by kernel_rfl) ?_
 let Q1 : Blk := ⟨[.str a6, w34 a7, .i a8, .i a9], 4, false⟩
 let Q2 : Blk := ⟨(b1).flatMap e29, 0, false⟩
 let Q3 : Blk := ⟨[.i a0, .str a1, .own 1 (b1).length 7, .bool a2, .bool a3, w9 a4, w9 a5], 0, false⟩
 let Q4 : Blk := ⟨[.i 0, .str [], .nils, .bool false, .bool false, .nils, .nils], 0, false⟩
 refine oH 6 i37p1 [(6, .ptr 3 7 0), (4, .ptr 2 7 0), (0, .ptr 0 4 0), (1, .agg [.i a0, .str a1, .own 1 (b1).length 7, .bool a2, .bool a3, w9 a4, w9 a5]), (2, .func 101 [.ptr 0 4 0] [])] (mkH [Q1, Q2, Q3, Q4]) ?_
 refine qA9 (fun x0_4 hx0_4 => ?_)
 refine qC4 (fun h => ?_) (fun x0_6 hx0_6 => ?_)
 ·let E2 : Env := [(10, .ptr 0 4 0), (9, .ptr 0 4 0), (8, .own 1 (b1).length 7), (7, .ptr 2 7 2), (6, .ptr 3 7 0), (4, .ptr 2 7 0), (0, .ptr 0 4 0), (1, .agg [.i a0, .str a1, .own 1 (b1).length 7, .bool a2, .bool a3, w9 a4, w9 a5]), (2, .func 101 [.ptr 0 4 0] [])]
  let E3 : Env := ((15, .top) :: (14, .top) :: (13, .top) :: (12, .func 101 [.ptr 0 4 0] []) :: (11, w9 x0_4.1) :: E2)
  let Q5 : Blk := ⟨[.str a6, w34 a7, .i x0_4.2, .i a9], 4, false⟩
  exact qAn (eE := E3) ⟨[], [(0, 0, 0), (1, 0, 2), (0, 0, 0), (0, 0, 0), (8, 0, 0), (0, 0, 0), (60, 0, 0), (127, 0, 0), (255, 0, 0), (511, 0, 0)], 6, thrown, [0, 2], (mkH [Q5, Q2, Q3, Q4])⟩ (hs := [(mkH [Q5, Q2, Q3, Q4]), (mkH [Q5, Q2, Q3, Q4]), (mkH [Q5, Q2, Q3, Q4]), (mkH [Q5, Q2, Q3, Q4])]) (LX := [Q1, Q2]) (L := [Q5, Q2, Q3, Q4]) rfl rfl rfl (by kernel_rfl) rfl ⟨.inl rfl, ⟨.inl rfl, trivial⟩⟩ (by kernel_rfl) (by kernel_rfl) (by kernel_rfl) (by kernel_rfl) (qAa 4 (l' := (opsAt i37p1).toList.drop 4) (eE := E2) (H' := (mkH [Q1, Q2, Q3, Q4])) (hs := []) (by kernel_rfl) (qA4 (l' := (opsAt i37p1).toList.drop 5) (eE := ((11, w9 x0_4.1) :: E2)) (hs := [(mkH [Q5, Q2, Q3, Q4])]) (H' := (mkH [Q5, Q2, Q3, Q4])) (fi := 58) (args := [.ptr 0 4 0]) (v := w9 x0_4.1) (by kernel_rfl) (frC (rs := [0]) (ms := []) (ms' := []) (qAl k a6 a7 a8 a9 x0_4 hx0_4) trivial trivial (by kernel_rfl)) (by kernel_rfl) (qAa 1 (l' := (opsAt i37p1).toList.drop 6) (eE := ((12, .func 101 [.ptr 0 4 0] []) :: (11, w9 x0_4.1) :: E2)) (H' := (mkH [Q5, Q2, Q3, Q4])) (hs := []) (by kernel_rfl) (qAm (l' := (opsAt i37p1).toList.drop 7) (eE := ((13, .top) :: (12, .func 101 [.ptr 0 4 0] []) :: (11, w9 x0_4.1) :: E2)) (hs := [(mkH [Q5, Q2, Q3, Q4])]) (fi := 105) (args := [.ptr 0 4 0, w9 x0_4.1, .func 101 [.ptr 0 4 0] []]) (by kernel_rfl) (by kernel_rfl) (frS 0 (M := [Q5, Q2, Q3, Q4]) (rs := [0]) (ms := []) (mv := [0, 1]) (mm := [0, 1]) (D := [0, 2]) (xs' := [.ptr 0 4 0, w9 x0_4.1, .func 101 [.ptr 0 4 0] []]) (.refl) (hF.i42_thr x0_4.1 a6 a7 x0_4.2 a9 h) trivial ⟨u29 _, trivial⟩ (by kernel_rfl)) (by kernel_rfl) (qA1 (l' := (opsAt i37p1).toList.drop 8) (eE := ((14, .top) :: (13, .top) :: (12, .func 101 [.ptr 0 4 0] []) :: (11, w9 x0_4.1) :: E2)) (hs := [(mkH [Q5, Q2, Q3, Q4])]) (by kernel_rfl) (by kernel_rfl) (qA1 (l' := (opsAt i37p1).toList.drop 9) (eE := E3) (hs := []) (by kernel_rfl) (by kernel_rfl) (qA1 (l' := (opsAt i37p1).toList.drop 10) (eE := E3) (hs := [(mkH [Q5, Q2, Q3, Q4])]) (by kernel_rfl) (by kernel_rfl) (.nil)))))))) (by kernel_rfl) (by kernel_rfl)
 ·refine qA9 (fun x0_7 hx0_7 => ?_)
  let E2 : Env := [(10, .ptr 0 4 0), (9, .ptr 0 4 0), (8, .own 1 (b1).length 7), (7, .ptr 2 7 2), (6, .ptr 3 7 0), (4, .ptr 2 7 0), (0, .ptr 0 4 0), (1, .agg [.i a0, .str a1, .own 1 (b1).length 7, .bool a2, .bool a3, w9 a4, w9 a5]), (2, .func 101 [.ptr 0 4 0] [])]
  let E4 : Env := ((15, .ptr 2 7 2) :: (14, .own 1 (x0_7).length 7) :: (13, w29 x0_6.1) :: (12, .func 101 [.ptr 0 4 0] []) :: (11, w9 x0_4.1) :: E2)
  let Q6 : Blk := ⟨[.str a6, w34 a7, .i x0_6.2, .i a9], 4, false⟩
  let Q7 : Blk := ⟨[.str a6, w34 a7, .i x0_4.2, .i a9], 4, false⟩
  refine oD (H' := (mkH [Q6, ⟨(x0_7).flatMap e29, 0, false⟩, ⟨[.i a0, .str a1, .own 1 (x0_7).length 7, .bool a2, .bool a3, w9 a4, w9 a5], 7, false⟩, Q4])) (nav [0] i37p1) E4 [(mkH [Q7, Q2, Q3, Q4]), (mkH [Q6, Q2, Q3, Q4]), (mkH [Q6, ⟨(x0_7).flatMap e29, 0, false⟩, Q3, Q4]), (mkH [Q6, ⟨(x0_7).flatMap e29, 0, false⟩, ⟨[.i a0, .str a1, .own 1 (x0_7).length 7, .bool a2, .bool a3, w9 a4, w9 a5], 7, false⟩, Q4])] ⟨[], [(0, 0, 0), (1, 0, 2), (0, 0, 0), (0, 0, 0), (8, 0, 0), (0, 0, 0), (60, 0, 0), (127, 0, 0), (255, 0, 0), (511, 0, 0)], 10, thrown, [], H0⟩ (oDr 4 4 E2 (qA4 (l' := (opsAt i37p1).toList.drop 5) (eE := ((11, w9 x0_4.1) :: E2)) (hs := [(mkH [Q7, Q2, Q3, Q4])]) (H' := (mkH [Q7, Q2, Q3, Q4])) (fi := 58) (args := [.ptr 0 4 0]) (v := w9 x0_4.1) (by kernel_rfl) (frC (rs := [0]) (ms := []) (ms' := []) (qAl k a6 a7 a8 a9 x0_4 hx0_4) trivial trivial (by kernel_rfl)) (by kernel_rfl) (oDr 1 6 ((12, .func 101 [.ptr 0 4 0] []) :: (11, w9 x0_4.1) :: E2) (qA4 (l' := (opsAt i37p1).toList.drop 7) (eE := ((13, w29 x0_6.1) :: (12, .func 101 [.ptr 0 4 0] []) :: (11, w9 x0_4.1) :: E2)) (hs := [(mkH [Q6, Q2, Q3, Q4])]) (H' := (mkH [Q6, Q2, Q3, Q4])) (fi := 105) (args := [.ptr 0 4 0, w9 x0_4.1, .func 101 [.ptr 0 4 0] []]) (v := w29 x0_6.1) (by kernel_rfl) (frC (rs := [0]) (ms := []) (ms' := []) (hF.i42_ok x0_4.1 a6 a7 x0_4.2 a9 x0_6 hx0_6) trivial trivial (by kernel_rfl)) (by kernel_rfl) (qA8 (l' := (opsAt i37p1).toList.drop 8) (eE := ((14, .own 1 (x0_7).length 7) :: (13, w29 x0_6.1) :: (12, .func 101 [.ptr 0 4 0] []) :: (11, w9 x0_4.1) :: E2)) (hs := [(mkH [Q6, ⟨(x0_7).flatMap e29, 0, false⟩, Q3, Q4])]) (x := x0_7) (fun (x0_7 : (List S28)) => (.own 1 (x0_7).length 7, (mkH [Q6, ⟨(x0_7).flatMap e29, 0, false⟩, Q3, Q4]))) (appHV (sz := 7) qA7 rfl qAx [Q6, Q2, Q3, Q4] 1 104 b1 x0_6.1 rfl rfl (by kernel_rfl)) hx0_7 (by kernel_rfl) (oDh 2 10 E4 (mkH [Q6, ⟨(x0_7).flatMap e29, 0, false⟩, ⟨[.i a0, .str a1, .own 1 (x0_7).length 7, .bool a2, .bool a3, w9 a4, w9 a5], 7, false⟩, Q4]) [(mkH [Q6, ⟨(x0_7).flatMap e29, 0, false⟩, ⟨[.i a0, .str a1, .own 1 (x0_7).length 7, .bool a2, .bool a3, w9 a4, w9 a5], 7, false⟩, Q4])] .nil)))))) ?_
  refine oR 3 (atN 1 (ctl1 i37p2)) ((16, .ptr 0 4 0) :: E4) ?_
  let Q8 : Blk := ⟨(x0_7).flatMap e29, 0, false⟩
  refine oN (fun (x1_1 : Ri12) => w9 x1_1.1) (fun x1_1 => [⟨[.str a6, w34 a7, .i x1_1.2, .i a9], 4, false⟩, Q8, ⟨[.i a0, .str a1, .own 1 (x0_7).length 7, .bool a2, .bool a3, w9 a4, w9 a5], 7, false⟩, Q4]) (atN 2 (ctl1 i37p2)) 17 [0] [] [] [.ptr 0 4 0] (qAl k a6 a7 x0_6.2 a9) trivial (fun _ => trivial) fun x1_1 hx1_1 => ?_
  let Q9 : Blk := ⟨[.i a0, .str a1, .own 1 (x0_7).length 7, .bool a2, .bool a3, w9 a4, w9 x1_1.1], 7, false⟩
  refine oLH 4 i37p3 [(0, .ptr 0 4 0), (4, .ptr 2 7 0), (6, .ptr 3 7 0)] (mkH [⟨[.str a6, w34 a7, .i x1_1.2, .i a9], 4, false⟩, Q8, Q9, Q4]) ?_
  let E5 : Env := [(0, .ptr 0 4 0), (4, .ptr 2 7 0), (6, .ptr 3 7 0)]
  refine oR 2 (atN 1 (ctl1 i37p3)) ((19, .ptr 0 4 0) :: E5) ?_
  refine oX (fun (x2_1 : Int) => .tuple []) (fun x2_1 => [⟨[.str a6, w34 a7, .i x2_1, .i a9], 4, false⟩, Q8, Q9, Q4]) (atN 2 (ctl1 i37p3)) 20 [0] [] [] [0, 2] [0, 1] [.ptr 0 4 0, .str [101, 110, 100]] (qAj k ([101, 110, 100] : List Nat) a6 a7 x1_1.2 a9) (qAw k ([101, 110, 100] : List Nat) a6 a7 x1_1.2 a9) trivial (fun _ => trivial) ⟨u29 _, trivial⟩ fun x2_1 hx2_1 => ?_
  let Q10 : Blk := ⟨[.str a6, w34 a7, .i x2_1, .i a9], 4, false⟩
  refine oH 7 .fin ((21, .agg [.i a0, .str a1, .own 1 (x0_7).length 7, .bool a2, .bool a3, w9 a4, w9 x1_1.1]) :: (20, .tuple []) :: (19, .ptr 0 4 0) :: E5) (mkH [Q10, Q8, Q9, Q9]) ?_
  exact qBp (r := some (a0, a1, a2, a3, a4, x1_1.1, x2_1, x0_7)) (xs := [.agg [.i a0, .str a1, .own 1 (x0_7).length 7, .bool a2, .bool a3, w9 a4, w9 x1_1.1]]) [Q10, Q8] [Q9, Q9] (by kernel_rfl) (by kernel_rfl) (by kernel_rfl) (by kernel_rfl) (by kernel_rfl) ⟨(by kernel_rfl), ⟨(qA3 _ (u29 _)), trivial⟩⟩ (by kernel_rfl) (by kernel_rfl)
theorem i37B_ok (k : Nat) (F : Fns0) (hF : FnsOk0 F) : Pi37 (i37B k F) := fun a0 a1 a2 a3 a4 a5 a6 a7 a8 a9 b1 x h => qJ4 k F hF a0 a1 a2 a3 a4 a5 a6 a7 a8 a9 b1 (some x) h
theorem i37B_thr (k : Nat) (F : Fns0) (hF : FnsOk0 F) : Qi37 (i37B k F) := fun a0 a1 a2 a3 a4 a5 a6 a7 a8 a9 b1 h => ⟨_, qJ4 k F hF a0 a1 a2 a3 a4 a5 a6 a7 a8 a9 b1 none h⟩
def i38c0 : List Nat := [97, 102, 116, 101, 114]
def Xi38 (a0 : (List Nat)) (a1 : (List S33)) (a2 : Int) (a3 : Int) : Fx (Option (S28 × Int)) := ⟨Try.prog, cx, Try.f102, fun r => match r with | some r => .agg [.i r.1.f0, .str r.1.f1, q29 r.1.f2, .bool r.1.f3, .bool r.1.f4, w9 r.1.f5, w9 r.1.f6] | none => .top, 1, fun r => match r with | some r => (mkH [⟨[.str a0, w34 a1, .i r.2, .i a3], 4, false⟩]) | none => (mkH [⟨[.str a0, w34 a1, .i a2, .i a3], 4, false⟩]), cxTi, cxOrd, fun r => match r with | some _ => none | none => some (thrown, [0]), false⟩
def i38p0 : Pt := nav [0] (bodyAt Try.f102)
def i38p1 : Pt := nav [0, 0, 0] i38p0
def i38p2 : Pt := nav [0, 0, 0] i38p1
def i38p3 : Pt := nav [0, 0, 0, 0] i38p2
def i38p4 : Pt := nav [0, 0] i38p3
def i38p5 : Pt := nav [1, 0] i38p4
def i38p6 : Pt := nav [2, 0, 0, 0] i38p4
def i38p7 : Pt := nav [0, 0] i38p5
def i38p8 : Pt := nav [0, 0] i38p6
def i38p9 : Pt := nav [1, 0] i38p8
def i38p10 : Pt := nav [2, 0, 0] i38p8
def i38p11 : Pt := nav [0, 0, 0] i38p9
def i38p12 : Pt := nav [0, 0, 0] i38p10
def i38p13 : Pt := nav [0, 0, 0] i38p11
def i38p14 : Pt := nav [0, 0, 0] i38p12
def i38p15 : Pt := nav [0, 0, 0] i38p13
def i38p17 : Pt := nav [0, 0] i38p15
def i38B (k : Nat) (F : Fns0) (a0 : (List Nat)) (a1 : (List S33)) (a2 : Int) (a3 : Int) : Option (Option (S28 × Int)) :=
 (i12 k a0 a1 a2 a3).bind fun x0_1 => (i10 k i38c0 a0 a1 x0_1.2 a3).bind fun x1_1 => if (!x1_1) then (bT (F.i43 x0_1.1 a0 a1 x0_1.2 a3) fun x2_4 => (i12 k a0 a1 x2_4.1 a3).bind fun x3_1 => bT (i7 k i38c0 a0 a1 x3_1.2 a3) fun x4_1 => if x4_1.1 then (bT (F.i5 (1 : Int) a0 a1 x4_1.2 a3) fun x5_1 => bT (F.i47 ([] : List Nat) (23 : Int) ([] : List Nat) (⟨(([(⟨x5_1.1.f0, x5_1.1.f1, x5_1.1.f2, x5_1.1.f3, x5_1.1.f4, x5_1.1.f5, x5_1.1.f6⟩ : S28)] : List S28)).length, (([(⟨x5_1.1.f0, x5_1.1.f1, x5_1.1.f2, x5_1.1.f3, x5_1.1.f4, x5_1.1.f5, x5_1.1.f6⟩ : S28)] : List S28)).flatMap e29⟩ : Raw) false false ([] : List (List Nat)) ([] : List (List Nat)) (24 : Int) ([] : List Nat) (⟨(([] : List S28)).length, (([] : List S28)).flatMap e29⟩ : Raw) false false ([] : List (List Nat)) ([] : List (List Nat)) a0 a1 x5_1.2 a3) fun x6_3 => (appS 104 x2_4.2 ([(⟨x6_3.1.f0, x6_3.1.f1, x6_3.1.f2, x6_3.1.f3, x6_3.1.f4, x3_1.1, x6_3.1.f6⟩ : S28)] : List S28)).bind fun x7_4 => (i12 k a0 a1 x6_3.2 a3).bind fun x8_1 => bT (i23 k ([101, 110, 100] : List Nat) a0 a1 x8_1.2 a3) fun x9_1 => some (some ((⟨(20 : Int), i38c0, ⟨(x7_4).length, (x7_4).flatMap e29⟩, false, false, ([] : List (List Nat)), x8_1.1⟩ : S28), x9_1))) else (bT (i23 k ([101, 110, 100] : List Nat) a0 a1 x4_1.2 a3) fun x9_1 => some (some ((⟨(20 : Int), ([] : List Nat), ⟨(x2_4.2).length, (x2_4.2).flatMap e29⟩, false, false, ([] : List (List Nat)), x3_1.1⟩ : S28), x9_1)))) else (bT (i7 k i38c0 a0 a1 x0_1.2 a3) fun x4_1 => if x4_1.1 then (bT (F.i5 (1 : Int) a0 a1 x4_1.2 a3) fun x5_1 => bT (F.i47 ([] : List Nat) (23 : Int) ([] : List Nat) (⟨(([(⟨x5_1.1.f0, x5_1.1.f1, x5_1.1.f2, x5_1.1.f3, x5_1.1.f4, x5_1.1.f5, x5_1.1.f6⟩ : S28)] : List S28)).length, (([(⟨x5_1.1.f0, x5_1.1.f1, x5_1.1.f2, x5_1.1.f3, x5_1.1.f4, x5_1.1.f5, x5_1.1.f6⟩ : S28)] : List S28)).flatMap e29⟩ : Raw) false false ([] : List (List Nat)) ([] : List (List Nat)) (24 : Int) ([] : List Nat) (⟨(([] : List S28)).length, (([] : List S28)).flatMap e29⟩ : Raw) false false ([] : List (List Nat)) ([] : List (List Nat)) a0 a1 x5_1.2 a3) fun x6_3 => (appS 104 ([] : List S28) ([(⟨x6_3.1.f0, x6_3.1.f1, x6_3.1.f2, x6_3.1.f3, x6_3.1.f4, x0_1.1, x6_3.1.f6⟩ : S28)] : List S28)).bind fun x7_4 => (i12 k a0 a1 x6_3.2 a3).bind fun x8_1 => bT (i23 k ([101, 110, 100] : List Nat) a0 a1 x8_1.2 a3) fun x9_1 => some (some ((⟨(20 : Int), i38c0, ⟨(x7_4).length, (x7_4).flatMap e29⟩, false, false, ([] : List (List Nat)), x8_1.1⟩ : S28), x9_1))) else (bT (i23 k ([101, 110, 100] : List Nat) a0 a1 x4_1.2 a3) fun x9_1 => some (some ((⟨(20 : Int), ([] : List Nat), ⟨(([] : List S28)).length, (([] : List S28)).flatMap e29⟩, false, false, ([] : List (List Nat)), x0_1.1⟩ : S28), x9_1))))
end
end Go.Proofs.Ythpplbkobokghaa.Am
