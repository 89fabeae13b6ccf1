/- LawParseBodies, part 6: whatever the input, the law comes out true: our texts, joined by a tool, without what the claim does not name. -/
import Derived.Test.YthpplbkobokghaaPkParseBodies5
import Derived.SizedLaws
import Derived.ChangeSlices
import Derived.Below
import Derived.Test.YthpplbkobokghaaRows
import Derived.WalkKit
import Derived.ProofKit
import Derived.OpenShut
import Derived.ShutString
import Derived.ChangeOld
set_option maxRecDepth 100000
set_option linter.unusedVariables false
set_option linter.unusedSimpArgs false
set_option maxRecDepth 100000
set_option linter.unusedVariables false
namespace Go.Proofs.Ythpplbkobokghaa.Am
noncomputable section
open Go
theorem qLf (k : Nat)   (a0 : (List Bool)) (a1 : (List Bool))  : ∀ (n : Nat) (y13_0 : (List Nat)) (y13_1 : Int), Ok Xg11 g11p7 [(0, w4 a0), (1, w4 a1), (5, .str y13_0), (6, .i y13_1)] (mkH []) (qCo k a0 a1 n y13_0 y13_1) := by
 intro n
 induction n with
 | zero => intro y13_0 y13_1; exact ok_none
 | succ n ih =>
  intro y13_0 y13_1
  show Ok _ _ _ _ (qG1 k a0 a1 (qCo k a0 a1 n) y13_0 y13_1)
  unfold qG1
  refine qAg (p' := nav [0] g11p7) (by kernel_rfl) ?_
  let E4 : Env := [(33, .bool (decide (y13_1 < (a0.length : Int)))), (32, .i (a0.length : Int)), (31, w4 a0), (30, .i y13_1), (0, w4 a0), (1, w4 a1), (5, .str y13_0), (6, .i y13_1)]
  refine oH 8 g11p9 E4 (mkH []) ?_
  refine oS 33 (fun hb => ?_) (fun hb => ?_)
  ·refine oR 10 g11p12 ((37, .bool (decide (0 < y13_1))) :: (36, .i y13_1) :: (33, .bool true) :: E4) ?_
   refine oJ g11p15 (fun (z14 : (List Nat) × Int) => [(0, w4 a0), (1, w4 a1), (5, .str z14.1), (6, .i z14.2)]) (fun (z14 : (List Nat) × Int) => (mkH [])) (fun z14 => ?_) (fun j14 hj14 => ?_)
   ·let E5 : Env := [(41, .i z14.2), (40, w4 a0), (0, w4 a0), (1, w4 a1), (5, .str z14.1), (6, .i z14.2)]
    refine oH 3 (atN 2 (ctl1 g11p15)) E5 (mkH []) ?_
    refine oC (fun (x3_2 : Bool) => (.vptr [.bool x3_2], (mkH []))) (atN 3 (ctl1 g11p15)) 42 (vidxH (sz := 1) e4_len (by kernel_rfl)) fun x3_2 hx3_2 => ?_
    refine oH 2 g11p17 ((43, .bool x3_2) :: (42, .vptr [.bool x3_2]) :: E5) (mkH []) ?_
    refine oJ g11p20 (fun (z16 : (List Nat) × Int) => [(0, w4 a0), (1, w4 a1), (5, .str z16.1), (6, .i z16.2)]) (fun (z16 : (List Nat) × Int) => (mkH [])) (fun z16 => ?_) (fun j16 hj16 => ?_)
    ·let E6 : Env := [(47, .i z16.2), (46, w4 a1), (0, w4 a0), (1, w4 a1), (5, .str z16.1), (6, .i z16.2)]
     refine oH 3 (atN 2 (ctl1 g11p20)) E6 (mkH []) ?_
     refine oC (fun (x4_2 : Bool) => (.vptr [.bool x4_2], (mkH []))) (atN 3 (ctl1 g11p20)) 48 (vidxH (sz := 1) e4_len (by kernel_rfl)) fun x4_2 hx4_2 => ?_
     refine oH 2 g11p23 ((49, .bool x4_2) :: (48, .vptr [.bool x4_2]) :: E6) (mkH []) ?_
     refine oJ g11p26 (fun (z17 : (List Nat) × Int) => [(0, w4 a0), (1, w4 a1), (5, .str z17.1), (6, .i z17.2)]) (fun (z17 : (List Nat) × Int) => (mkH [])) (fun z17 => ?_) (fun j17 hj17 => ?_)
     ·let E7 : Env := [(52, .str z17.1), (0, w4 a0), (1, w4 a1), (5, .str z17.1), (6, .i z17.2)]
      refine oH 2 (atN 1 (ctl1 g11p26)) E7 (mkH []) ?_
      refine oC (fun (x6_1 : (List Nat)) => (.str x6_1, (mkH []))) (atN 2 (ctl1 g11p26)) 53 (catH (by kernel_rfl)) fun x6_1 hx6_1 => ?_
      let Q1 : Blk := ⟨[.y (fW .u8 (97 + fW .u8 z17.2))], 0, false⟩
      refine oH 4 (atN 6 (ctl1 g11p26)) ((57, .slice 0 1 0 1 1) :: (56, .y (fW .u8 (97 + fW .u8 z17.2))) :: (55, .y (fW .u8 z17.2)) :: (54, .i z17.2) :: (53, .str x6_1) :: E7) (mkH [Q1]) ?_
      refine oC (fun (x6_6 : (List Nat)) => (.str x6_6, (mkH [Q1]))) (atN 7 (ctl1 g11p26)) 58 (toSE [fW .u8 (97 + fW .u8 z17.2)] (by kernel_rfl)) fun x6_6 hx6_6 => ?_
      refine oC (fun (x6_7 : (List Nat)) => (.str x6_7, (mkH [Q1]))) (atN 8 (ctl1 g11p26)) 59 (catH (by kernel_rfl)) fun x6_7 hx6_7 => ?_
      refine oC (fun (x6_8 : (List Nat)) => (.str x6_8, (mkH [Q1]))) (atN 9 (ctl1 g11p26)) 60 (catH (by kernel_rfl)) fun x6_8 hx6_8 => ?_
      refine oLH 2 (nav [0, 0] g11p26) [(0, w4 a0), (1, w4 a1), (5, .str x6_8), (6, .i z17.2)] (mkH [Q1]) ?_
      refine oL 5 g11p7 [(0, w4 a0), (1, w4 a1), (5, .str x6_8), (6, .i (fW .i64 (z17.2 + 1)))] ?_
      refine qAa [] [Q1] (by kernel_rfl) rfl (by kernel_rfl) trivial ?_
      exact ih x6_8 (fW .i64 (z17.2 + 1))
     ·refine oS 49 (fun hb => ?_) (fun hb => ?_)
      ·refine oH 3 (atN 1 (ctl1 g11p25)) ((50, .str z16.1) :: (49, .bool true) :: (49, .bool x4_2) :: (48, .vptr [.bool x4_2]) :: E6) (mkH []) ?_
       refine oC (fun (x5_1 : (List Nat)) => (.str x5_1, (mkH []))) (atN 2 (ctl1 g11p25)) 51 (catH (by kernel_rfl)) fun x5_1 hx5_1 => ?_
       refine oLH 2 g11p26 [(0, w4 a0), (1, w4 a1), (5, .str x5_1), (6, .i z16.2)] (mkH []) ?_
       exact hj17 (x5_1, z16.2)
      ·refine oLH 2 g11p26 [(0, w4 a0), (1, w4 a1), (5, .str z16.1), (6, .i z16.2)] (mkH []) ?_
       exact hj17 (z16.1, z16.2)
    ·refine oS 43 (fun hb => ?_) (fun hb => ?_)
     ·refine oH 3 (atN 1 (ctl1 g11p19)) ((44, .str z14.1) :: (43, .bool true) :: (43, .bool x3_2) :: (42, .vptr [.bool x3_2]) :: E5) (mkH []) ?_
      refine oC (fun (x8_1 : (List Nat)) => (.str x8_1, (mkH []))) (atN 2 (ctl1 g11p19)) 45 (catH (by kernel_rfl)) fun x8_1 hx8_1 => ?_
      refine oLH 4 g11p20 [(0, w4 a0), (1, w4 a1), (5, .str x8_1), (6, .i z14.2)] (mkH []) ?_
      exact hj16 (x8_1, z14.2)
     ·refine oLH 4 g11p20 [(0, w4 a0), (1, w4 a1), (5, .str z14.1), (6, .i z14.2)] (mkH []) ?_
      exact hj16 (z14.1, z14.2)
   ·refine oS 37 (fun hb => ?_) (fun hb => ?_)
    ·refine oH 3 (atN 1 (ctl1 g11p14)) ((38, .str y13_0) :: (37, .bool true) :: (37, .bool (decide (0 < y13_1))) :: (36, .i y13_1) :: (33, .bool true) :: E4) (mkH []) ?_
     refine oC (fun (x7_1 : (List Nat)) => (.str x7_1, (mkH []))) (atN 2 (ctl1 g11p14)) 39 (catH (by kernel_rfl)) fun x7_1 hx7_1 => ?_
     refine oLH 4 g11p15 [(0, w4 a0), (1, w4 a1), (5, .str x7_1), (6, .i y13_1)] (mkH []) ?_
     exact hj14 (x7_1, y13_1)
    ·refine oLH 4 g11p15 [(0, w4 a0), (1, w4 a1), (5, .str y13_0), (6, .i y13_1)] (mkH []) ?_
     exact hj14 (y13_0, y13_1)
  ·refine oR 5 (atN 1 (ctl1 g11p11)) ((62, .str y13_0) :: (33, .bool false) :: E4) ?_
   refine oA (fun (x1_1 : ((List S33) × Int)) => .tuple [w34 x1_1.1, .i x1_1.2]) (atN 2 (ctl1 g11p11)) 63 [.str y13_0] (g13_ok k y13_0) fun x1_1 hx1_1 => ?_
   let E21 : Env := [(0, w4 a0), (1, w4 a1), (5, .str y13_0), (7, w34 x1_1.1), (8, .i x1_1.2)]
   refine oL 7 g11p13 E21 ?_
   refine oR 5 (atN 4 (ctl1 g11p13)) ((70, .i (x1_1.1.length : Int)) :: (69, w34 x1_1.1) :: (68, w34 x1_1.1) :: (67, .str y13_0) :: E21) ?_
   refine oA (fun (x2_4 : (S28 × Int × Int)) => .tuple [n29 x2_4.1, .i x2_4.2.1, .i x2_4.2.2]) (atN 5 (ctl1 g11p13)) 71 [.str y13_0, w34 x1_1.1, .i 0, .i (x1_1.1.length : Int)] (g23_ok k y13_0 x1_1.1 (0 : Int) (x1_1.1.length : Int)) fun x2_4 hx2_4 => ?_
   let E23 : Env := [(0, w4 a0), (1, w4 a1), (7, w34 x1_1.1), (8, .i x1_1.2), (9, .ptr 0 7 0), (10, .i x2_4.2.1), (11, .i x2_4.2.2)]
   refine oLH 11 g11p16 E23 (mkH [⟨e29 x2_4.1, 7, false⟩]) ?_
   refine oR 4 (atN 3 (ctl1 g11p16)) ((77, .bool (!decide (x1_1.2 = 0))) :: (76, .bool (!decide (x1_1.2 = 0))) :: (75, .i x1_1.2) :: E23) ?_
   refine oJ g11p18 (fun (z15 : Bool) => [(0, w4 a0), (1, w4 a1), (9, .ptr 0 7 0), (99, .bool z15)]) (fun (z15 : Bool) => (mkH [⟨e29 x2_4.1, 7, false⟩])) (fun z15 => ?_) (fun j15 hj15 => ?_)
   ·refine oS 99 (fun hb => ?_) (fun hb => ?_)
    ·exact oQ 6
    ·refine oLH 9 g11p24 [(0, w4 a0), (1, w4 a1), (9, .ptr 0 7 0), (12, .i 0)] (mkH [⟨e29 x2_4.1, 7, false⟩]) ?_
     exact (qLe k a0 a1 x2_4 k) 0
   ·refine oS 77 (fun hb => ?_) (fun hb => ?_)
    ·refine oLH 23 g11p18 [(0, w4 a0), (1, w4 a1), (9, .ptr 0 7 0), (99, .bool true)] (mkH [⟨e29 x2_4.1, 7, false⟩]) ?_
     exact hj15 true
    ·let E54 : Env := ((81, .bool (!decide (x2_4.2.2 = 0))) :: (80, .bool (!decide (x2_4.2.2 = 0))) :: (79, .bool (!decide (x2_4.2.2 = 0))) :: (78, .i x2_4.2.2) :: (77, .bool false) :: (77, .bool (!decide (x1_1.2 = 0))) :: (76, .bool (!decide (x1_1.2 = 0))) :: (75, .i x1_1.2) :: E23)
     refine oH 4 (atN 7 (ctl1 g11p16)) E54 (mkH [⟨e29 x2_4.1, 7, false⟩]) ?_
     refine oS 81 (fun hb => ?_) (fun hb => ?_)
     ·refine oL 19 g11p18 [(0, w4 a0), (1, w4 a1), (9, .ptr 0 7 0), (99, .bool true)] ?_
      exact hj15 true
     ·let E57 : Env := ((87, .bool (!decide (x2_4.2.1 = (x1_1.1.length : Int)))) :: (86, .bool (!decide (x2_4.2.1 = (x1_1.1.length : Int)))) :: (85, .bool (!decide (x2_4.2.1 = (x1_1.1.length : Int)))) :: (84, .i (x1_1.1.length : Int)) :: (83, w34 x1_1.1) :: (82, .i x2_4.2.1) :: (81, .bool false) :: E54)
      refine oR 6 (atN 13 (ctl1 g11p16)) E57 ?_
      refine oS 87 (fun hb => ?_) (fun hb => ?_)
      ·refine oL 13 g11p18 [(0, w4 a0), (1, w4 a1), (9, .ptr 0 7 0), (99, .bool true)] ?_
       exact hj15 true
      ·refine oR 5 (atN 18 (ctl1 g11p16)) ((92, .bool (!decide (x2_4.1.f0 = 25))) :: (91, .bool (!decide (x2_4.1.f0 = 25))) :: (90, .bool (!decide (x2_4.1.f0 = 25))) :: (89, .i x2_4.1.f0) :: (88, .ptr 0 7 0) :: (87, .bool false) :: E57) ?_
       refine oS 92 (fun hb => ?_) (fun hb => ?_)
       ·refine oL 8 g11p18 [(0, w4 a0), (1, w4 a1), (9, .ptr 0 7 0), (99, .bool true)] ?_
        exact hj15 true
       ·refine oL 8 g11p18 [(0, w4 a0), (1, w4 a1), (9, .ptr 0 7 0), (99, .bool (!decide ((x2_4.1.f2.n : Int) = (a0.length : Int))))] ?_
        exact hj15 (!decide ((x2_4.1.f2.n : Int) = (a0.length : Int)))
def g11 (k : Nat) (a0 : (List Bool)) (a1 : (List Bool)) : Option Bool :=
 jn (fun (z12 : Bool) => if z12 then ((g16 k).bind fun x0_0 => some x0_0) else (qCo k a0 a1 k ([] : List Nat) 0)) (fun j12 => if (decide ((a0.length : Int) < 1)) then (j12 true) else (if (decide (8 < (a0.length : Int))) then (j12 true) else (j12 (decide ((a1.length : Int) < (a0.length : Int))))))
theorem g11_ok (k : Nat) (a0 : (List Bool)) (a1 : (List Bool)) (r : Bool) (h : g11 k a0 a1 = some r) : PureOk Try.prog 11 [w4 a0, w4 a1] (.bool r) := by
 refine qA6 Xg11 (fun _ => ⟨rfl, rfl⟩) Try.func11 (by decide +kernel) (by kernel_rfl) (t := g11 k a0 a1) ?_ h
 unfold g11
 refine qA (eE := [(0, w4 a0), (1, w4 a1)]) (by kernel_rfl) ?_
 let E1 : Env := [(17, .bool (decide ((a0.length : Int) < 1))), (16, .bool (decide ((a0.length : Int) < 1))), (15, .i (a0.length : Int)), (14, w4 a0), (4, .bool false), (0, w4 a0), (1, w4 a1)]
 refine oH 11 (atN 4 (ctl1 g11p1)) E1 (mkH []) ?_
 refine oJ g11p2 (fun (z12 : Bool) => [(0, w4 a0), (1, w4 a1), (28, .bool z12)]) (fun (z12 : Bool) => (mkH [])) (fun z12 => ?_) (fun j12 hj12 => ?_)
 ·refine oS 28 (fun hb => ?_) (fun hb => ?_)
  ·refine oH 3 (atN 0 (ctl1 g11p3)) [(28, .bool true), (0, w4 a0), (1, w4 a1), (28, .bool z12)] (mkH []) ?_
   refine oA (fun (x0_0 : Bool) => .bool x0_0) (atN 1 (ctl1 g11p3)) 29 [] (g16_ok k ) fun x0_0 hx0_0 => ?_
   exact oQ 3
  ·refine oLH 13 g11p7 [(0, w4 a0), (1, w4 a1), (5, .str []), (6, .i 0)] (mkH []) ?_
   exact (qLf k a0 a1 k) ([] : List Nat) 0
 ·refine oS 17 (fun hb => ?_) (fun hb => ?_)
  ·refine oLH 12 g11p2 [(0, w4 a0), (1, w4 a1), (28, .bool true)] (mkH []) ?_
   exact hj12 true
  ·refine oH 5 (atN 9 (ctl1 g11p1)) ((22, .bool (decide (8 < (a0.length : Int)))) :: (21, .bool (decide (8 < (a0.length : Int)))) :: (20, .bool (decide (8 < (a0.length : Int)))) :: (19, .i (a0.length : Int)) :: (18, w4 a0) :: (17, .bool false) :: E1) (mkH []) ?_
   refine oS 22 (fun hb => ?_) (fun hb => ?_)
   ·refine oL 7 g11p2 [(0, w4 a0), (1, w4 a1), (28, .bool true)] ?_
    exact hj12 true
   ·refine oL 7 g11p2 [(0, w4 a0), (1, w4 a1), (28, .bool (decide ((a1.length : Int) < (a0.length : Int))))] ?_
    exact hj12 (decide ((a1.length : Int) < (a0.length : Int)))
end
theorem qJ6 : g16 400 = some true := by kernel_rfl
theorem nthLb {l : List Bool} {i : Nat} {b : Bool} (h : l[i]? = some b) : nthL l (i : Int) = some b := by
 unfold nthL
 rw [if_pos (by omega), Int.toNat_natCast, h]
theorem qOn {a0 a1 : List Bool} (hl : a0.length ≤ a1.length) {i : Nat} {b n : Bool} (h : (a0.zip a1)[i]? = some (b, n)) : a0[i]? = some b ∧ a1[i]? = some n := by
 rw [List.getElem?_zip_eq_some] at h
 exact h
theorem qHd {a0 a1 : List Bool} {b0 n0 : Bool} {l : List (Bool × Bool)} (hl : a0.length ≤ a1.length) (hz : a0.zip a1 = (b0, n0) :: l) (h8 : a0.length ≤ 8) {at' f : Int} : ∀ (n j : Nat), a0.length - j < n → j ≤ a0.length → qC6 400 a0 a1 (bodN (allN b0 n0 l), at', f) n (j : Int) = some true := by
 intro n
 induction n with
 | zero => intro j h; omega
 | succ n ih =>
  intro j h hj
  have hzl : (a0.zip a1).length = a0.length := by rw [List.length_zip]; omega
  rw [qOk]
  by_cases hl' : j < a0.length
  ·obtain ⟨⟨b, m⟩, hbm⟩ : ∃ x, (a0.zip a1)[j]? = some x := ⟨_, List.getElem?_eq_getElem (by omega)⟩
   obtain ⟨h1, h2⟩ := qOn hl hbm
   have hg : (allN b0 n0 l)[j]? = some (callN (97 + j) (decide (0 < j) && b) (nt m)) := all_get (by rw [← hz]; exact hbm)
   have hn := nthR_at _ j _ hg (call_dec _ _ _)
   refine iT (dT (by omega)) (bS hn ((jS (v := (false, (j : Int))) (fun q => ?_)).trans (iF rfl ?_)))
   ·refine iF rfl (bS (name_in _ _ _) (bS (qJn (by omega)) (bS (a := [120, 97 + j]) rfl (iF ?_ (bS (nthLb h1) ?_)))))
    ·show (!eqL [120, 97 + j] [120, 97 + j]) = false
     rw [(qD9 _ _).2 rfl]; rfl
    ·have hbl : (callN (97 + j) (decide (0 < j) && b) (nt m)).f4 = (decide (0 < j) && b) := rfl
     have hno : decide (((callN (97 + j) (decide (0 < j) && b) (nt m)).f5.length : Int) = 1) = m := by cases m <;> rfl
     have hj0 : decide (0 < (j : Int)) = decide (0 < j) := by
      by_cases h0 : 0 < j
      ·rw [dT h0, dT (by omega)]
      ·rw [dF h0, dF (by omega)]
     cases b with
     | true =>
      refine iT rfl (iF ?_ (bS (nthLb h2) ?_))
      ·rw [hbl, hj0, Bool.and_true]; simp
      ·rw [hno]; simp
     | false =>
      refine iF rfl (iF ?_ (bS (nthLb h2) ?_))
      ·rw [hbl, Bool.and_false]; rfl
      ·rw [hno]; simp
   ·show qC6 400 a0 a1 _ n (fW .i64 ((j : Int) + 1)) = _
    rw [fw_s (by omega)]
    exact ih (j + 1) (by omega) hl'
  ·exact iF (dF (by omega)) (bS qJ6 rfl)
def restT (b0 n0 : Bool) (l : List (Bool × Bool)) (j : Nat) : List Nat := if j = 0 then txt (allP b0 n0 l) else txt (moreP j (l.drop (j - 1)))
theorem catB {a b : List Nat} (h : a.length + b.length < 100000) : catS a b = some (a ++ b) := by
 unfold catS
 rw [if_pos (by omega)]
theorem qJ1 {a0 a1 : List Bool} {b0 n0 : Bool} {l : List (Bool × Bool)} (hl : a0.length ≤ a1.length) (hz : a0.zip a1 = (b0, n0) :: l) (h8 : a0.length ≤ 8) : ∀ (n j : Nat) (pre : List Nat), a0.length - j < n → j ≤ a0.length → pre ++ restT b0 n0 l j = txt (allP b0 n0 l) → qCo 400 a0 a1 n pre (j : Int) = some true := by
 have hzl : (a0.zip a1).length = a0.length := by rw [List.length_zip]; omega
 have hll : l.length + 1 = a0.length := by rw [← hzl, hz]; rfl
 have hTl : (txt (allP b0 n0 l)).length ≤ 87 := by
  obtain ⟨m1, m2⟩ := qDp l 1
  have h3 := qFt b0 n0 97
  simp only [allP, qBr, qDd, List.length_append]
  omega
 intro n
 induction n with
 | zero => intro j pre h; omega
 | succ n ih =>
  intro j pre h hj hp
  have hpl : pre.length ≤ 87 := by rw [← hp, List.length_append] at hTl; omega
  rw [qOl]
  by_cases hl' : j < a0.length
  ·obtain ⟨⟨b, m⟩, hbm⟩ : ∃ x, (a0.zip a1)[j]? = some x := ⟨_, List.getElem?_eq_getElem (by omega)⟩
   obtain ⟨h1, h2⟩ := qOn hl hbm
   have hitem : restT b0 n0 l j = (if 0 < j then [44] else []) ++ itT b m (97 + j) ++ restT b0 n0 l (j + 1) := by
    cases j with
    | zero =>
     rw [hz] at hbm
     simp only [List.getElem?_cons_zero, Option.some.injEq] at hbm
     cases hbm
     simp [restT, allP, qBr, qDd]
    | succ j =>
     rw [hz, List.getElem?_cons_succ] at hbm
     have hd : l.drop j = (b, m) :: l.drop (j + 1) := by
      have hlt := (List.getElem?_eq_some_iff.1 hbm).1
      rw [List.drop_eq_getElem_cons hlt]
      congr 1
      exact (List.getElem?_eq_some_iff.1 hbm).2
     have hA : restT b0 n0 l (j + 1) = txt (moreP (j + 1) (l.drop j)) := rfl
     have hB : restT b0 n0 l (j + 1 + 1) = txt (moreP (j + 2) (l.drop (j + 1))) := rfl
     rw [hA, hB, hd, if_pos (Nat.succ_pos j)]
     simp [moreP, txt, qBr, qDd]
   have hs1 : ∀ q : List Nat × Int → Option Bool, (if decide (0 < (j : Int)) then (catS pre [44]).bind fun x7_1 => q (x7_1, (j : Int)) else q (pre, (j : Int))) = q (pre ++ (if 0 < j then [44] else []), (j : Int)) := by
    intro q
    by_cases h0 : 0 < j
    ·rw [if_pos h0]; exact iT (dT (by omega)) (bS (catB (by simp; omega)) rfl)
    ·rw [if_neg h0, List.append_nil]; exact iF (dF (by omega)) rfl
   refine iT (dT (by omega)) ((jS (v := (pre ++ (if 0 < j then [44] else []), (j : Int))) hs1).trans ?_)
   have hl1 : (pre ++ (if 0 < j then [44] else [])).length ≤ 88 := by split <;> simp <;> omega
   refine bS (nthLb h1) ((jS (v := (pre ++ (if 0 < j then [44] else []) ++ wB b, (j : Int))) (fun q => ?_)).trans ?_)
   ·cases b with
    | true => exact iT rfl (bS (catB (by simp only [List.length_cons, List.length_nil]; omega)) rfl)
    | false => refine iF rfl ?_; simp [wB]
   have hl2 : (pre ++ (if 0 < j then [44] else []) ++ wB b).length ≤ 90 := by rw [List.length_append]; cases b <;> simp only [wB, List.length_cons, List.length_nil, if_true, if_false, Bool.false_eq_true] <;> omega
   refine bS (nthLb h2) ((jS (v := (pre ++ (if 0 < j then [44] else []) ++ wB b ++ (if m then [37, 110, 10] else []), (j : Int))) (fun q => ?_)).trans ?_)
   ·cases m with
    | true => exact iT rfl (bS (catB (by simp only [List.length_cons, List.length_nil]; omega)) rfl)
    | false => refine iF rfl ?_; simp
   have hl3 : (pre ++ (if 0 < j then [44] else []) ++ wB b ++ (if m then [37, 110, 10] else [])).length ≤ 93 := by rw [List.length_append]; cases m <;> simp only [List.length_cons, List.length_nil, if_true, if_false, Bool.false_eq_true] <;> omega
   refine bS (catB (by simp only [List.length_cons, List.length_nil]; omega)) (bS (qJn (by omega)) (bS (catB (by simp only [List.length_append, List.length_cons, List.length_nil] at hl3 ⊢; omega)) (bS (catB (by simp only [List.length_append, List.length_cons, List.length_nil] at hl3 ⊢; omega)) ?_)))
   show qCo 400 a0 a1 n _ (fW .i64 ((j : Int) + 1)) = _
   rw [fw_s (by omega)]
   refine ih (j + 1) _ (by omega) hl' ?_
   rw [← hp, hitem]
   simp [itT]
  ·obtain rfl : j = a0.length := by omega
   have hr0 : restT b0 n0 l a0.length = [] := by
    unfold restT
    rw [if_neg (by omega), List.drop_eq_nil_of_le (by omega)]
    rfl
   rw [hr0, List.append_nil] at hp
   subst hp
   have hnl : (allN b0 n0 l).length = a0.length := by show (moreN 1 l).length + 1 = _; rw [qGt]; exact hll
   refine iF (dF (by omega)) (bS (qOz (by omega)) (bS (qLm (by omega)) ((jS (v := false) (fun q => ?_)).trans (iF rfl (qHd hl hz h8 400 0 (by omega) (by omega))))))
   refine iF (by simp) (iF (by simp) (iF (by simp) (iF rfl ?_)))
   show q (!decide (((allN b0 n0 l).length : Int) = (a0.length : Int))) = _
   rw [hnl]
   simp
theorem qDi (a0 a1 : List Bool) (w0 : ∀ x ∈ a0, True) (l0 : a0.length ≤ 9223372036854775807) (w1 : ∀ x ∈ a1, True) (l1 : a1.length ≤ 9223372036854775807) : ∃ k, g11 k a0 a1 = some true := by
 refine ⟨400, ?_⟩
 unfold g11
 by_cases h1 : (a0.length : Int) < 1
 ·exact (jS (v := true) (fun q => iT (dT h1) rfl)).trans (iT rfl (bS qJ6 rfl))
 by_cases h2 : 8 < (a0.length : Int)
 ·exact (jS (v := true) (fun q => iF (dF h1) (iT (dT h2) rfl))).trans (iT rfl (bS qJ6 rfl))
 by_cases h3 : (a1.length : Int) < (a0.length : Int)
 ·exact (jS (v := true) (fun q => iF (dF h1) (iF (dF h2) (by rw [dT h3])))).trans (iT rfl (bS qJ6 rfl))
 refine (jS (v := false) (fun q => iF (dF h1) (iF (dF h2) (by rw [dF h3])))).trans (iF rfl ?_)
 obtain ⟨⟨b0, n0⟩, l, hz⟩ : ∃ x l, a0.zip a1 = x :: l := by
  cases e : a0.zip a1 with
  | nil =>
   have := congrArg List.length e
   rw [List.length_zip, List.length_nil] at this
   omega
  | cons x l => exact ⟨x, l, rfl⟩
 exact qJ1 (by omega) hz (by omega) 400 0 [] (by omega) (by omega) rfl
end Go.Proofs.Ythpplbkobokghaa.Am
set_option linter.unusedVariables false
namespace Go.Proofs.Ythpplbkobokghaa.Am
open Go Go.ChangeShapes Go.WideShapes
def mpOf (fz : List (Nat × List AV)) : Mp := ⟨fun _ _ => none, fun i => fz[i]?⟩
theorem qHs {P : Program} {n : Nat} {xs : List AV} {args : Array Value} (h : PureOk P n xs (.bool true)) (w : World) (fz : List (Nat × List AV)) (hargs : VRs (mpOf fz) xs args.toList)
 (hfz : ∀ p ∈ fz, ∃ cs ty fr, w.heap[p.1]? = some (.cells cs ty fr) ∧ p.2.length ≤ cs.size ∧ VRs (mpOf fz) p.2 (cs.toList.take p.2.length)) :
 Calls P n args w fun e W' => e = .returned (.bool true) ∧ RowKit.Below w.heap.size w W' := by
 refine Calls.mono (h.1 (mpOf fz) w args (fun _ _ => rfl) hargs ?_) ?_
 ·refine ⟨?_, ?_, ?_, fun _ _ => rfl, ?_, ?_, ?_, ⟨fz.length, fun i hi => List.getElem?_eq_none hi⟩, Nat.le_refl _, by show 0 ≤ roots; unfold roots; omega⟩
  ·intro r b v B N hb hm; cases hm
  ·intro r v B N hm; cases hm
  ·intro r v B N r' v' N' hm; cases hm
  ·intro r v B N hm; cases hm
  ·intro i B cells hi
   exact hfz (B, cells) (List.mem_of_getElem? hi)
  ·intro i B cells r v N b _ hm; cases hm
 ·rintro e w' ⟨m', c, rfl, q1, q2, q3⟩
  simp only [VR] at q3
  exact ⟨by rw [q3], q2.below (Nat.le_refl _)⟩
theorem qP2 {m : Mp} : ∀ {xs : List AV} {cs : List Value}, xs.length = cs.length → (∀ (i : Nat) x c, xs[i]? = some x → cs[i]? = some c → VR m x c) → VRs m xs cs
 | [], [], _, _ => by simp only [VRs]
 | [], _ :: _, h, _ => by cases h
 | _ :: _, [], h, _ => by cases h
 | x :: xs, c :: cs, h, k => by
  simp only [VRs]
  exact ⟨c, cs, rfl, k 0 x c rfl rfl, qP2 (by simpa using h) (fun i x' c' hx hc => k (i + 1) x' c' (by simpa using hx) (by simpa using hc))⟩
theorem qG5 {w : World} {x : Addr} {i : Nat} {v : Value} (h : w.cell? (x.add i) = some v) : ∃ cs ty fr, w.heap[x.block]? = some (.cells cs ty fr) ∧ cs[x.off + i]? = some v ∧ (i = 0 → x.spot = none) := by
 have hb : (x.add i).block = x.block := by unfold Addr.add; split <;> rfl
 have ho : (x.add i).off = x.off + i := by unfold Addr.add; split <;> simp_all
 have hs : i = 0 → (x.add i).spot = x.spot := by intro e; subst e; rfl
 unfold World.cell? at h
 rw [hb, ho] at h
 cases hw : w.heap[x.block]? with
 | none => rw [hw] at h; cases h
 | some o =>
  rw [hw] at h
  cases o with
  | cells cs ty fr =>
   simp only [] at h
   cases hsp : (x.add i).spot with
   | none => rw [hsp] at h; exact ⟨cs, ty, fr, rfl, by simpa using h, fun e => by rw [← hs e, hsp]⟩
   | some q => rw [hsp] at h; simp at h
  | _ => simp at h
section
variable {H : Type} {enc : TypeId × Value → H} {P : Program} {w : World} {base : Nat} {held : Bool}
end
end Go.Proofs.Ythpplbkobokghaa.Am
set_option linter.unusedVariables false
namespace Go.Proofs.Ythpplbkobokghaa.Am
open Go Go.ChangeShapes Go.WideShapes
def IsRowG (n : Nat) (w : World) (a : Option Addr) (len cap : Nat) (av : List AV) : Prop :=
 (a = none ∧ len = 0 ∧ cap = 0 ∧ av = []) ∨
 ∃ x, a = some x ∧ len ≤ cap ∧ av.length = len * n ∧ ∀ i v, av[i]? = some v → ∃ c, w.cell? (x.add i) = some c ∧ ∀ m, VR m v c
def frozOfG (a : Option Addr) (av : List AV) : Nat × List AV := match a with
 | none => (0, [])
 | some x => (x.block, List.replicate x.off .top ++ av)
theorem qGg {n : Nat} {w : World} {a : Option Addr} {len cap : Nat} {av : List AV} (h : IsRowG n w a len cap av) (hne : av ≠ []) (fz : List (Nat × List AV)) :
 ∃ cs ty fr, w.heap[(frozOfG a av).1]? = some (.cells cs ty fr) ∧ (frozOfG a av).2.length ≤ cs.size ∧ VRs (mpOf fz) (frozOfG a av).2 (cs.toList.take (frozOfG a av).2.length) := by
 rcases h with ⟨_, _, _, rfl⟩ | ⟨x, rfl, hl, hz, hc⟩
 ·exact absurd rfl hne
 ·have hpos : 0 < av.length := List.length_pos_iff.2 hne
  obtain ⟨c0, h1, -⟩ := hc (av.length - 1) _ (List.getElem?_eq_getElem (by omega))
  obtain ⟨cs, ty, fr, hb, h0, -⟩ := qG5 h1
  have hsz : x.off + (av.length - 1) < cs.size := by
   rcases Nat.lt_or_ge (x.off + (av.length - 1)) cs.size with h | h
   ·exact h
   ·rw [Array.getElem?_eq_none h] at h0; cases h0
  refine ⟨cs, ty, fr, hb, by simp only [frozOfG, List.length_append, List.length_replicate]; omega, ?_⟩
  refine qP2 (by simp only [frozOfG, List.length_append, List.length_replicate, List.length_take, Array.length_toList]; omega) ?_
  intro i v c hv hcv
  simp only [frozOfG] at hv hcv
  by_cases hi : i < x.off
  ·rw [List.getElem?_append_left (by simpa using hi)] at hv
   rw [List.getElem?_replicate, if_pos hi] at hv
   cases hv
   simp only [VR]
  ·rw [List.getElem?_append_right (by simpa using Nat.le_of_not_lt hi), List.length_replicate] at hv
   have hlt : i - x.off < av.length := (List.getElem?_eq_some_iff.1 hv).1
   obtain ⟨c', h2, h3⟩ := hc (i - x.off) v hv
   obtain ⟨cs', ty', fr', hb', h4, -⟩ := qG5 h2
   rw [hb] at hb'
   cases hb'
   rw [show x.off + (i - x.off) = i from by omega] at h4
   rw [List.getElem?_take_of_lt (by simp only [List.length_append, List.length_replicate]; omega), Array.getElem?_toList, h4] at hcv
   cases hcv
   exact h3 _
theorem qJ8 {n : Nat} {w : World} {a : Option Addr} {len cap : Nat} {av : List AV} (h : IsRowG n w a len cap av) : av.length = len * n := by
 rcases h with ⟨_, rfl, _, rfl⟩ | ⟨x, _, _, hz, _⟩
 ·simp
 ·exact hz
theorem qM6 {n : Nat} {w : World} {a : Option Addr} {len cap : Nat} {av : List AV} (h : IsRowG n w a len cap av) (hn : 0 < n) (fz : List (Nat × List AV)) (id : Nat) (hid : av ≠ [] → fz[id]? = some (frozOfG a av)) : VR (mpOf fz) (.vec len n av) (.slice a len cap) := by
 simp only [VR]
 refine ⟨qJ8 h, a, cap, rfl, ?_, ?_, ?_⟩
 ·rcases h with ⟨_, rfl, rfl, rfl⟩ | ⟨x, _, hl, hz, _⟩
  ·exact Nat.le_refl _
  ·exact hl
 ·intro ha
  rcases h with ⟨_, rfl, rfl, rfl⟩ | ⟨x, hx, _, _, _⟩
  ·exact ⟨rfl, rfl⟩
  ·rw [hx] at ha; cases ha
 ·intro hpos
  have hp2 : 0 < av.length := by rw [qJ8 h]; exact Nat.mul_pos hpos hn
  have hne : av ≠ [] := List.length_pos_iff.1 hp2
  have hf := hid hne
  rcases h with ⟨_, _, _, rfl⟩ | ⟨x, rfl, hl, hz, hc⟩
  ·exact absurd rfl hne
  ·obtain ⟨c, h1, -⟩ := hc 0 _ (List.getElem?_eq_getElem hp2)
   obtain ⟨cs, ty, fr, hb, h0, hsp⟩ := qG5 h1
   have hspot := hsp rfl
   refine ⟨id, x.block, x.off, _, hf, ?_, ?_, ?_⟩
   ·cases x; simp only at hspot; rw [hspot]
   ·rw [List.drop_append_of_le_length (by simp), List.drop_of_length_le (by simp), List.nil_append]
    exact List.take_of_length_le (by omega)
   ·simp; omega
def fzOfG (a : Option Addr) (av : List AV) : List (Nat × List AV) := if av = [] then [] else [frozOfG a av]
theorem qH5 {a : Option Addr} {av : List AV} {p : Nat × List AV} (h : p ∈ fzOfG a av) : av ≠ [] ∧ p = frozOfG a av := by
 unfold fzOfG at h
 split at h
 ·cases h
 ·exact ⟨by assumption, List.mem_singleton.1 h⟩
theorem qH6 {a : Option Addr} {av : List AV} (A B : List (Nat × List AV)) (h : av ≠ []) : (A ++ (fzOfG a av ++ B))[A.length]? = some (frozOfG a av) := by
 unfold fzOfG
 rw [if_neg h]
 simp
theorem add_add' (x : Addr) (i j : Nat) : (x.add i).add j = x.add (i + j) := by
 unfold Addr.add
 by_cases hi : i = 0
 ·subst hi; simp
 ·by_cases hj : j = 0
  ·subst hj; simp
  ·simp [hi, hj, Nat.add_assoc]
theorem qJ4 {m : Mp} : ∀ {xs : List AV} {cs : List Value}, VRs m xs cs → xs.length = cs.length ∧ ∀ (i : Nat) x, xs[i]? = some x → ∃ c, cs[i]? = some c ∧ VR m x c
 | [], cs, h => by
  simp only [VRs] at h; subst h
  exact ⟨rfl, fun i x hx => by simp at hx⟩
 | x :: xs, cs, h => by
  simp only [VRs] at h
  obtain ⟨y, ys, rfl, h1, h2⟩ := h
  obtain ⟨q1, q2⟩ := qJ4 h2
  refine ⟨by simp [q1], fun i z hz => ?_⟩
  cases i with
  | zero => simp at hz; subst hz; exact ⟨y, rfl, h1⟩
  | succ i => simpa using q2 i z (by simpa using hz)
section
variable {H : Type} {enc : TypeId × Value → H} {P : Program} {w : World} {base : Nat} {held : Bool}
theorem rowG_open {α : Type} {Q : α → Prop} {en : α → List AV} {n : Nat} {t e : TypeId} {a : Option Addr} {len cap : Nat} {d : DataW H} {ps : List MemPlace} (ht : P.underlying t = some (.slice e)) (hc : P.cellsOf e = n) (hlen : ∀ x, (en x).length = n)
 (hel : ∀ fuel cs y, DataW.trod enc P w base (fun _ => true) held fuel e cs = some y → ∃ x, Q x ∧ ∀ m, VRs m (en x) cs)
 (h : DataW.Trod enc P w base (fun _ => true) held t (.slice a len cap) d ps) : ∃ L : List α, IsRowG n w a len cap (L.flatMap en) ∧ L.length = len ∧ (∀ x ∈ L, Q x) ∧ len ≤ maxLen := by
 obtain ⟨fuel, hf⟩ := h
 rcases DataW.trod_slice ht hf with ⟨hcs, _⟩ | ⟨x, l, c, elems, rest, q, _, hcs, _, hb, hl, hm, hlq, hel', _, _⟩
 ·simp [Value.cells] at hcs
  obtain ⟨rfl, rfl, rfl⟩ := hcs
  exact ⟨[], .inl ⟨rfl, rfl, rfl, rfl⟩, rfl, (fun x hx => by cases hx), Nat.zero_le _⟩
 ·simp [Value.cells] at hcs
  obtain ⟨rfl, rfl, rfl⟩ := hcs
  have each : ∀ i, i < len → ∃ y, Q y ∧ ∃ cs, w.cells? base (x.add (i * n)) n = some cs ∧ ∀ m, VRs m (en y) cs := by
   intro i hi
   have h1 := hel' i hi
   rw [List.getElem?_eq_getElem (by omega), hc, Option.bind_eq_some_iff] at h1
   obtain ⟨cs, h2, h3⟩ := h1
   obtain ⟨y, h4, h5⟩ := hel _ _ _ h3
   exact ⟨y, h4, cs, h2, h5⟩
  have build : ∀ k, k ≤ len → ∃ L : List α, L.length = k ∧ (∀ y ∈ L, Q y) ∧ ∀ i v, (L.flatMap en)[i]? = some v → ∃ c, w.cell? (x.add i) = some c ∧ ∀ m, VR m v c := by
   intro k
   induction k with
   | zero => intro _; exact ⟨[], rfl, (fun y hy => by cases hy), (fun i v hv => by simp at hv)⟩
   | succ k ih =>
    intro hk
    obtain ⟨L, h1, h2, h3⟩ := ih (by omega)
    obtain ⟨y, h4, cs, h5, h6⟩ := each k (by omega)
    refine ⟨L ++ [y], by simp [h1], ?_, ?_⟩
    ·intro z hz
     rcases List.mem_append.1 hz with hz | hz
     ·exact h2 z hz
     ·rw [List.mem_singleton.1 hz]; exact h4
    ·intro i v hv
     have fl : (L.flatMap en).length = k * n := by rw [qAn hlen, h1]
     rw [List.flatMap_append] at hv
     by_cases hi : i < k * n
     ·rw [List.getElem?_append_left (by omega)] at hv
      exact h3 i v hv
     ·rw [List.getElem?_append_right (by omega), fl] at hv
      simp only [List.flatMap_cons, List.flatMap_nil, List.append_nil] at hv
      obtain ⟨g1, g2⟩ := qJ4 (h6 ⟨fun _ _ => none, fun _ => none⟩)
      obtain ⟨c, g3, -⟩ := g2 _ _ hv
      refine ⟨c, ?_, fun m => ?_⟩
      ·have g4 := World.cells?_some h5
       have hlt : i - k * n < n := by
        have := (List.getElem?_eq_some_iff.1 hv).1
        rw [hlen] at this; exact this
       have g5 := g4.2.2 (i - k * n) hlt
       rw [g3] at g5
       rw [← g5]
       rw [add_add', show k * n + (i - k * n) = i by omega]
      ·obtain ⟨c', g6, g7⟩ := (qJ4 (h6 m)).2 _ _ hv
       rw [g3] at g6
       cases g6
       exact g7
  obtain ⟨L, h1, h2, h3⟩ := build len (Nat.le_refl _)
  exact ⟨L, .inr ⟨_, rfl, hl, by rw [qAn hlen, h1], h3⟩, h1, h2, by omega⟩
end
theorem qP1 (m : Mp) : VRs m [] [] := by simp only [VRs]
theorem qGa {m : Mp} {x : AV} {y : Value} {xs : List AV} {ys : List Value} (h : VR m x y) (k : VRs m xs ys) : VRs m (x :: xs) (y :: ys) := by simp only [VRs]; exact ⟨y, ys, rfl, h, k⟩
theorem VR_bool (m : Mp) (b : Bool) : VR m (.bool b) (.bool b) := by simp only [VR]
end Go.Proofs.Ythpplbkobokghaa.Am
set_option linter.unusedVariables false
set_option linter.unusedSimpArgs false
namespace Go.Proofs.Ythpplbkobokghaa.Am
open Go Go.ChangeShapes Go.WideShapes
theorem opn4 {H : Type} {enc : TypeId × Value → H} {w : World} {base : Nat} {sp : Nat → Bool} {held : Bool} {fuel : Nat} {cs : List Value} {y : DataW H × List MemPlace} (h : DataW.trod enc Try.prog w base sp held fuel 4 cs = some y) : ∃ x : Bool, (True) ∧ ∀ m, VRs m (e4 x) cs := by
 obtain ⟨n0, rfl, -⟩ := DataW.trod_bool Try.underlying4 h
 exact ⟨n0, trivial, fun m => qGa (VR_bool m n0) (qP1 m)⟩
theorem parseBodies_walk (v0 : Option Addr) (len0 cap0 : Nat) (z0 : List Bool) (v1 : Option Addr) (len1 cap1 : Nat) (z1 : List Bool) (W : World) (w0 : IsRowG 1 W v0 len0 cap0 (z0.flatMap e4)) (l0 : z0.length = len0) (q0 : ∀ x ∈ z0, True) (y0 : len0 ≤ maxLen) (w1 : IsRowG 1 W v1 len1 cap1 (z1.flatMap e4)) (l1 : z1.length = len1) (q1 : ∀ x ∈ z1, True) (y1 : len1 ≤ maxLen) : Calls Try.prog 11 #[.slice v0 len0 cap0, .slice v1 len1 cap1] W fun e W' => e = .returned (.bool true) ∧ RowKit.Below W.heap.size W W' := by
 obtain ⟨k, h⟩ := qDi z0 z1 q0 (by rw [l0]; simpa [maxLen] using y0) q1 (by rw [l1]; simpa [maxLen] using y1)
 refine qHs (g11_ok k z0 z1 true h) W (fzOfG v0 (z0.flatMap e4) ++ (fzOfG v1 (z1.flatMap e4) ++ [])) ?_ ?_
 ·exact qGa ((by cases l0; exact qM6 w0 (by decide) _ (([] : List (Nat × List AV))).length (fun h => qH6 (([] : List (Nat × List AV))) _ h))) (qGa ((by cases l1; exact qM6 w1 (by decide) _ ((fzOfG v0 (z0.flatMap e4))).length (fun h => qH6 ((fzOfG v0 (z0.flatMap e4))) _ h))) (qP1 _))
 intro p hp
 rcases List.mem_append.1 hp with hp | hp
 ·obtain ⟨hne, rfl⟩ := qH5 hp
  exact qGg w0 hne _
 rcases List.mem_append.1 hp with hp | hp
 ·obtain ⟨hne, rfl⟩ := qH5 hp
  exact qGg w1 hne _
 cases hp
end Go.Proofs.Ythpplbkobokghaa.Am
namespace Go.Proofs.Ythpplbkobokghaa.parseBodies
open Go.ChangeShapes Go.WideShapes Go.ChangeAt Go.RowKit
open Go.ChangeMaps (open_string shut_string)
set_option linter.unusedVariables false
theorem laidOut : laidOutB Try.prog = true := by kernel_rfl
theorem own : ownKnob Try.prog.godebug = none := by kernel_rfl
set_option maxRecDepth 100000 in
theorem lifted (os : Os) (started : os.Started) (H : Type) (enc : TypeId × Value → H) :
 ReturnsInHanded {} Try.checked os 11 .any (Rows.parseBodiesSpec.pre6 enc Try.prog Try.f11 Rows.parseBodiesRow.domain false) (Rows.parseBodiesSpec.post enc Try.prog Try.f11 false true false false) := by
 refine returnsInHanded_of_change_sized (C := Try.checked) own started (by kernel_rfl) Try.func11
  (ChangeSpec.witness6 (enc := enc) (C := Try.checked) false ⟨#[], #[.slice none 0 0, .slice none 0 0], []⟩ 8 (by kernel_rfl) (by kernel_rfl) (by kernel_rfl) (by kernel_rfl)) ?_
 intro W base args ds gs before hval0 hW hcnd hsz0 _
 have hsz : (DataW.weightsEach Try.prog (Try.f11.params.toList ++ Rows.parseBodiesSpec.plain.varTypes Try.prog) (ds ++ gs)).all (· ≤ reachBytes) = true := hsz0
 have hval : ∀ (j : Nat) t v, Try.f11.params[j]? = some t → args[j]? = some v → Value.okWide Try.prog W .any base t v := hval0
 have hW' := hW
 obtain ⟨p, q, hA0, hV, rfl, hfz, hnd⟩ := hW
 have hA : DataW.TrodAll enc Try.prog W 0 (fun _ => true) true Try.f11.params.toList args.toList ds p := hA0
 rw [Try.params11] at hA hval hsz
 obtain ⟨v0, vs0, d0, ds0, p0, q0, hargs, rfl, rfl, h0, r0⟩ := trodAll_cons hA
 obtain ⟨v1, vs1, d1, ds1, p1, q1, rfl, rfl, rfl, h1, r1⟩ := trodAll_cons r0
 obtain ⟨rfl, rfl, rfl⟩ := trodAll_nil r1
 obtain rfl : args = #[v0, v1] := by cases args; simp_all
 obtain ⟨rfl, rfl⟩ := trodVars_none hV
 obtain ⟨v0a, len0, cap0, rfl⟩ := okWide_slice Try.underlying46 (hval 0 46 v0 rfl rfl)
 have k0 := h0
 have lt0 : ∀ x ∈ p0, x.block < W.heap.size := by obtain ⟨m, hm⟩ := k0; exact DataW.trod_lt m _ _ _ hm
 obtain ⟨z0, w0, l0, z0q, y0⟩ := Am.rowG_open (en := Am.e4) (n := 1) Try.underlying46 (by kernel_rfl) Am.e4_len (fun _ _ _ h => Am.opn4 h) h0
 obtain ⟨v1a, len1, cap1, rfl⟩ := okWide_slice Try.underlying46 (hval 1 46 v1 rfl rfl)
 have k1 := h1
 have lt1 : ∀ x ∈ p1, x.block < W.heap.size := by obtain ⟨m, hm⟩ := k1; exact DataW.trod_lt m _ _ _ hm
 obtain ⟨z1, w1, l1, z1q, y1⟩ := Am.rowG_open (en := Am.e4) (n := 1) Try.underlying46 (by kernel_rfl) Am.e4_len (fun _ _ _ h => Am.opn4 h) h1
 clear hA0 hval0 hsz0 hsz
 refine (Am.parseBodies_walk v0a len0 cap0 z0 v1a len1 cap1 z1 W w0 l0 z0q y0 w1 l1 z1q y1).mono fun e W' ⟨he, bel⟩ => ?_
 subst he
 exact ⟨_, rfl, _, _, _, [], _, [], hW', trodAll_mk1 (shut_bool Try.underlying4 _), (trodAll_cons_mk (Below.trod laidOut (by kernel_rfl) (of_decide_eq_true (by kernel_rfl)) k0 bel lt0) (trodAll_cons_mk (Below.trod laidOut (by kernel_rfl) (of_decide_eq_true (by kernel_rfl)) k1 bel lt1) trodAll_mk0)), rfl, bel.frame _, fun h => by cases h⟩
theorem over : Rows.parseBodiesRow.holds Try.pinned (OpenSpec.ofChange Rows.parseBodiesSpec) :=
 OpenClaim.holds_of_wide 11 Try.f11 rfl rfl rfl rfl rfl rfl rfl ⟨rfl, rfl, rfl, rfl, rfl⟩ rfl rfl rfl rfl rfl (by kernel_rfl) Try.func11 (by kernel_rfl)
  (of_decide_eq_true (by kernel_rfl)) (by unfold Func.isWrapper; first | (rw [if_pos (by decide +kernel)]; kernel_rfl) | (rw [if_neg (by decide +kernel)]; exact ⟨rfl, rfl⟩))
  (fun os started H enc _ => lifted os started H enc)
theorem proved : Rows.ParseBodiesSaid := over
#print axioms proved
end Go.Proofs.Ythpplbkobokghaa.parseBodies
namespace Go.Proofs.Ythpplbkobokghaa
theorem parseBodies_holds : Rows.ParseBodiesSaid := parseBodies.proved
end Go.Proofs.Ythpplbkobokghaa
